/- KrylovSteps. 2/7. -/
import Derived.Laws.Strings
import Derived.Test.YtbcmhlhgljoolaaGreatDoorPt1
set_option linter.unusedSimpArgs false
set_option linter.unusedVariables false
set_option maxRecDepth 20000
set_option maxHeartbeats 2000000
set_option linter.defProp false
namespace Go.Proofs.YtbcmhlhgljoolaaGreatDoor
open Go Go.E Go.Sp
def q55 {D:Nat→Prop} {A:Option Addr} {n c:Nat} {l:List Nat} {s:Bool} {w:World} (h:U32 w D A n c l) (hb:n≤1000000000) (hf:Fr D w) :
  Calls Tryz.prog 157 #[.agg #[.bool s,.slice A n c]] w fun e w'=>∃ s' A' n' c',e=.returned (.agg #[.bool s',.slice A' n' c'])∧Ext w w'∧Big w' D s' A' n' c' (sgn s (val l)):=by
 refine q0J Tryz.func157 rfl Tryz.ntmps157 (by kernel_rfl) ?_;refine q0A fun K hK=>?_;refine Zz ?_;refine q01 ?_;intro g1 w1 hg1 hx1 hb1 hs1;refine q0r ?_;intro g2 w2 hg2 hx2 hb2 hs2;refine hK _ _ ?_; clear hK;replace hb1:=hb1.ext hx2;have hc0:w2.cell? ⟨g1,0,none⟩=some (.bool s):=hb1.cell 0;have hc1:w2.cell? ⟨g1,1,none⟩=some (.slice A n c):=hb1.cell 1;have hD:Fr (Dx D w.heap.size w2.heap.size) w2:=Dx.fr ((hf.kp hx1).kp hx2) (Nat.le_refl _);refine q0A fun K hK=>?_;refine Zz2 hc0 hc1 ?_;refine q0F q3C (q1a (((h.sub (Dx.keep rfl)).ext hx1).ext hx2) hb hD) ?_;rintro _ w3 ⟨s3,A3,n3,c3,rfl,hx3,hB⟩; refine ⟨_,rfl,?_⟩;replace hb2:=hb2.ext hx3;refine q00 hb2 q0s rfl rfl fun w9 hk9 hb9=>?_;refine hK _ _ ?_; clear hK;refine q0O ?_
 try simp only [q0D,q0S]
 exact (q3D rfl (q0p (by first | exact rfl | assumption) q1Z hb9 rfl) ⟨_,_,_,_,rfl,(((hx1.trans hx2).trans hx3)).under hk9 (fun k hk=>by omega),(hB.kp (hk9.mono fun k _ h=>Dx.ne h Oq Oq)).sub fun k _ h=>h.1⟩)
def qeP {D:Nat→Prop} {A:Option Addr} {n c:Nat} {l:List Nat} {s:Bool} {w:World} (h:U32 w D A n c l) (hb:n≤1000000000) (hf:Fr D w) :
  Calls Tryz.prog 172 #[.agg #[.bool s,.slice A n c]] w fun e w'=>∃ s' A' n' c',e=.returned (.agg #[.bool s',.slice A' n' c'])∧Ext w w'∧Big w' D s' A' n' c' (sgn (!s) (val l)):=by
 refine q0J Tryz.func172 rfl Tryz.ntmps172 (by kernel_rfl) ?_;refine q0A fun K hK=>?_;refine Zz ?_;refine q01 ?_;intro g1 w1 hg1 hx1 hb1 hs1;refine q0r ?_;intro g2 w2 hg2 hx2 hb2 hs2;refine hK _ _ ?_; clear hK;replace hb1:=hb1.ext hx2;have hc0:w2.cell? ⟨g1,0,none⟩=some (.bool s):=hb1.cell 0;have hc1:w2.cell? ⟨g1,1,none⟩=some (.slice A n c):=hb1.cell 1;have hD:Fr (Dx D w.heap.size w2.heap.size) w2:=Dx.fr ((hf.kp hx1).kp hx2) (Nat.le_refl _);refine q0A fun K hK=>?_;refine Zz2 hc0 hc1 ?_;refine q0F q3C (q1a (((h.sub (Dx.keep rfl)).ext hx1).ext hx2) hb hD) ?_;rintro _ w3 ⟨s3,A3,n3,c3,rfl,hx3,hB⟩; refine ⟨_,rfl,?_⟩;replace hb2:=hb2.ext hx3;refine q00 hb2 q0s rfl rfl fun w9 hk9 hb9=>?_;refine hK _ _ ?_; clear hK;refine q0O ?_
 try simp only [q0D,q0S]
 exact (q3D rfl (q0p (by first | exact rfl | assumption) q1Z hb9 rfl) ⟨_,_,_,_,rfl,(((hx1.trans hx2).trans hx3)).under hk9 (fun k hk=>by omega),(hB.kp (hk9.mono fun k _ h=>Dx.ne h Oq Oq)).sub fun k _ h=>h.1⟩)
def qgk {D:Nat→Prop} {A A':Option Addr} {n n' c c':Nat} {l l':List Nat} {w:World} (h:U32 w D A n c l) (h':U32 w D A' n' c' l') (hb:n≤1000000000) (hb':n'≤1000000000) :
  Calls Tryz.prog 214 #[.slice A n c,.slice A' n' c'] w fun e w'=>∃ A2 n2 c2 l2,e=.returned (.slice A2 n2 c2)∧Ext w w'∧q12 w' w.heap.size A2 n2 c2 l2∧val l2=val l+val l'∧n2≤max n n'+1:=by
 refine q0J Tryz.func214 rfl Tryz.ntmps214 (by kernel_rfl) ?_;refine Wz ?_;refine Wz ?_;refine Wz ?_;have hl:=h.len;have hl':=h'.len;refine q0B fun K0 hK0=>?_;refine Wz ?_;refine q0X ?_;refine q0a (fun e2 w2=>∃ (k cr:Nat) (A2:Option Addr) (c2:Nat) (o:List Nat),e2 7=.int .i64 k∧e2 6=.int .u64 cr∧e2 5=.slice A2 k c2∧k≤max n n'∧cr≤1∧Ext w w2∧q12 w2 w.heap.size A2 k c2 o∧val o+B ^ k*cr=val (l.take k)+val (l'.take k)) (fun e2 _=>max n n'-(RowKit.intOf (e2 7)).toNat) ⟨0,0,none,0,[],rfl,rfl,rfl,Nat.zero_le _,Nat.zero_le _,Kp.refl _ _,⟨Own.nil _ _ _ _,q1w.nil⟩,by simp [val]⟩ ?_;rintro e1 w1 ⟨k,cr,A2,c2,o,h7,h6,h5,hkm,hcr,hx,hO,hv⟩ hk;have h0:e1 0=.slice A n c:=(hk 0 (by kernel_rfl)).trans rfl;have h1:e1 1=.slice A' n' c':=(hk 1 (by kernel_rfl)).trans rfl;clear hk;refine q0B fun K1 hK1=>?_;have hd1:=h.dg_lt k;have hd2:=h'.dg_lt k
 by_cases hlt:k < max n n'
 ·have hlt':(k:Int) < max (n:Int) n':=by omega
  refine Wz4 h7 h0 h1 hlt' ?_;refine Wt (q0G (hK1 _ _ ?_));clear hK1;refine q0N fun K hK=>?_;refine q0B fun K1 hK1=>?_;have st1:∀ e2:Env,e2 7=.int .i64 k→e2 6=.int .u64 ((cr+dg l k:Nat):Int)→e2 5=.slice A2 k c2→e2 0=.slice A n c→e2 1=.slice A' n' c'→K1 e2 w1:=by
   intro e2 g7 g6 g5 g0 g1;refine hK1 _ _ ?_; clear hK1;refine q0B fun K1 hK1=>?_;have st2:∀ e2:Env,e2 7=.int .i64 k→e2 6=.int .u64 ((cr+dg l k+dg l' k:Nat):Int)→e2 5=.slice A2 k c2→K1 e2 w1:=by
    intro e2 g7 g6 g5;refine hK1 _ _ ?_; clear hK1;refine q0A fun K9 hK9=>?_;refine Zz2 g6 g5 ?_;refine q7X hO (Nat.mod_lt _ Oq) Oq hx.size ?_;intro v1 A3 c3 w3 hO3 hk3 hat;refine hK9 _ _ ?_; clear hK9;refine q0Q fun K9 hK9=>?_;refine Zz1 g6 ?_;refine hK9 _ _ ?_; clear hK9 K9;refine hK _ _ ?_; clear hK;refine q0Q fun K9 hK9=>?_;refine Zz2 g7 @i64_in ?_;refine hK9 _ _ ?_; clear hK9 K9;refine ⟨⟨k+1,_,A3,c3,_,rfl,rfl,rfl,by omega,?_,hO.1.under hx hk3,hO3,?_⟩,?_⟩
    ·omega
    ·rw [vts,vts];have:=q7q (x:=dg l k) (y:=dg l' k) (by have:=hO.1.len; simpa using this) hv;unfold B at this ⊢;unfold dg at this ⊢;omega
    ·simp only [q0E,↓reduceIte,RowKit.intOf,h7]; omega
   by_cases hb2:k < n'
   ·have hb2':(k:Int) < n':=by omega
    obtain ⟨ad,rfl,hcc⟩:=(h'.ext hx).cell hb2;refine Wz3 g7 g1 hb2' ?_;refine Wt ?_;have e2:(0:Int)≤k∧(k:Int) < n':=by omega
    refine q0Q fun K9 hK9=>?_;refine Zz5 g6 g7 g1 e2 hcc ?_;refine hK9 _ _ ?_; clear hK9 K9;exact st2 _ (by simp only [q0E,Nat.reduceEqDiff,↓reduceIte,g7]) (by simp only [q0E,Nat.reduceEqDiff,↓reduceIte]) (by simp only [q0E,Nat.reduceEqDiff,↓reduceIte,g5])
   ·have hb2':¬ (k:Int) < n':=by omega
    refine Wz3 g7 g1 hb2' ?_;refine Wf (q0G ?_);have hz:dg l' k=0:=q62 Oq;exact st2 _ (by simp only [q0E,Nat.reduceEqDiff,↓reduceIte,g7]) (by simp only [q0E,Nat.reduceEqDiff,↓reduceIte,g6,hz,Nat.add_zero]) (by simp only [q0E,Nat.reduceEqDiff,↓reduceIte,g5])
  by_cases hb2:k < n
  ·have hb2':(k:Int) < n:=by omega
   obtain ⟨ad,rfl,hcc⟩:=(h.ext hx).cell hb2;refine Wz3 h7 h0 hb2' ?_;refine Wt ?_;have e2:(0:Int)≤k∧(k:Int) < n:=by omega
   refine q0Q fun K9 hK9=>?_;refine Zz5 h6 h7 h0 e2 hcc ?_;refine hK9 _ _ ?_; clear hK9 K9;exact st1 _ (by simp only [q0E,Nat.reduceEqDiff,↓reduceIte,h7]) (by simp only [q0E,Nat.reduceEqDiff,↓reduceIte]) (by simp only [q0E,Nat.reduceEqDiff,↓reduceIte,h5]) (by simp only [q0E,Nat.reduceEqDiff,↓reduceIte,h0]) (by simp only [q0E,Nat.reduceEqDiff,↓reduceIte,h1])
  ·have hb2':¬ (k:Int) < n:=by omega
   refine Wz3 h7 h0 hb2' ?_;refine Wf (q0G ?_);have hz:dg l k=0:=q62 Oq;exact st1 _ (by simp only [q0E,Nat.reduceEqDiff,↓reduceIte,h7]) (by simp only [q0E,Nat.reduceEqDiff,↓reduceIte,h6,hz,Nat.add_zero]) (by simp only [q0E,Nat.reduceEqDiff,↓reduceIte,h5]) (by simp only [q0E,Nat.reduceEqDiff,↓reduceIte,h0]) (by simp only [q0E,Nat.reduceEqDiff,↓reduceIte,h1])
 ·have hlt':¬ (k:Int) < max (n:Int) n':=by omega
  refine Wz4 h7 h0 h1 hlt' ?_;refine Wf (q04 ?_);obtain rfl:k=max n n':=by omega
  refine hK0 _ _ ?_; clear hK0 hK1;refine q0A fun K9 hK9=>?_;refine Zz2 h5 h6 ?_;refine q7X hO (Nat.mod_lt _ Oq) Oq hx.size ?_;intro v1 A3 c3 w3 hO3 hk3 hat;refine hK9 _ _ ?_; clear hK9;refine q0O (q1S rfl ⟨A3,_,c3,_,rfl,hO.1.under hx hk3,hO3,?_,Nat.le_refl _⟩);rw [q2m,show o.length=max n n' by have:=hO.1.len; simpa using this,Nat.mod_eq_of_lt Oq,hv,q0K l _ Oq,q0K l' _ (by omega)]
def q8O {D:Nat→Prop} {A A':Option Addr} {n n' c c':Nat} {l l':List Nat} {w:World} (h:U32 w D A n c l) (h':U32 w D A' n' c' l') (hb:n≤1000000000) (hn:n'≤n) (hle:val l'≤val l) :
  Calls Tryz.prog 216 #[.slice A n c,.slice A' n' c'] w fun e w'=>∃ A2 c2 l2,e=.returned (.slice A2 n c2)∧Ext w w'∧q12 w' w.heap.size A2 n c2 l2∧val l2=val l-val l':=by
 refine q0J Tryz.func216 rfl Tryz.ntmps216 (by kernel_rfl) ?_;refine Wz ?_;refine Wz ?_;refine Wz ?_;have hl:=h.len;have hl':=h'.len;refine q0B fun K0 hK0=>?_;refine Wz ?_;refine q0X ?_;refine q0a (fun e2 w2=>∃ (k br:Nat) (A2:Option Addr) (c2:Nat) (o:List Nat),e2 7=.int .i64 k∧e2 6=.int .u64 br∧e2 5=.slice A2 k c2∧k≤n∧br≤1∧Ext w w2∧q12 w2 w.heap.size A2 k c2 o∧val o+val (l'.take k)=val (l.take k)+B ^ k*br) (fun e2 _=>n-(RowKit.intOf (e2 7)).toNat) ⟨0,0,none,0,[],rfl,rfl,rfl,Nat.zero_le _,Nat.zero_le _,Kp.refl _ _,⟨Own.nil _ _ _ _,q1w.nil⟩,by simp [val]⟩ ?_;rintro e1 w1 ⟨k,br,A2,c2,o,h7,h6,h5,hkm,hbr,hx,hO,hv⟩ hk;have h0:e1 0=.slice A n c:=(hk 0 (by kernel_rfl)).trans rfl;have h1:e1 1=.slice A' n' c':=(hk 1 (by kernel_rfl)).trans rfl;clear hk;refine q0B fun K1 hK1=>?_;have hd1:=h.dg_lt k;have hd2:=h'.dg_lt k
 by_cases hlt:k < n
 ·have hlt':(k:Int) < n:=by omega
  refine Wz3 h7 h0 hlt' ?_;refine Wt (q0G (hK1 _ _ ?_));clear hK1;refine q0N fun K hK=>?_;have e2:(0:Int)≤k∧(k:Int) < n:=by omega
  obtain ⟨ad,rfl,hcc⟩:=(h.ext hx).cell hlt;refine q0A fun K hK=>?_;simp -implicitDefEqProofs (disch:=omega) only [go_sem,Nat.reduceEqDiff,Nat.reduceAdd,↓reduceIte,h6,h7,h0,e2,hcc,q5q];refine hK _ _ ?_; clear hK K;refine q0B fun K1 hK1=>?_;have st2:∀ (e2:Env) (t:Nat),e2 7=.int .i64 k→e2 8=.int .u64 (t:Nat)→e2 5=.slice A2 k c2→t=((dg l k+(18446744073709551616-br)) % 18446744073709551616+(18446744073709551616-dg l' k)) % 18446744073709551616→K1 e2 w1:=by
   intro e2 t g7 g8 g5 ht;refine hK1 _ _ ?_; clear hK1;refine q0A fun K9 hK9=>?_;refine Zz2 g8 g5 ?_;refine q7X hO (Nat.mod_lt _ Oq) Oq hx.size ?_;intro v1 A3 c3 w3 hO3 hk3 hat;refine hK9 _ _ ?_; clear hK9;refine q0Q fun K9 hK9=>?_;refine Zz1 g8 ?_;refine hK9 _ _ ?_; clear hK9 K9;refine hK _ _ ?_; clear hK;refine q0Q fun K9 hK9=>?_;refine Zz2 g7 @i64_in ?_;refine hK9 _ _ ?_; clear hK9 K9;have key:=qaa (by have:=hO.1.len; simpa using this) hv hbr hd1 hd2 ht;refine ⟨⟨k+1,_,A3,c3,_,rfl,rfl,rfl,by omega,key.2,hO.1.under hx hk3,hO3,?_⟩,?_⟩
   ·rw [vts,vts]; exact key.1
   ·simp only [q0E,↓reduceIte,RowKit.intOf,h7]; omega
  by_cases hb2:k < n'
  ·have hb2':(k:Int) < n':=by omega
   obtain ⟨ad',rfl,hcc'⟩:=(h'.ext hx).cell hb2;refine Wz3 h7 h1 hb2' ?_;refine Wt ?_;have e2':(0:Int)≤k∧(k:Int) < n':=by omega
   refine q0Q fun K9 hK9=>?_;simp -implicitDefEqProofs (disch:=omega) only [go_sem,Nat.reduceEqDiff,Nat.reduceAdd,↓reduceIte,h7,h1,e2',hcc',q5q];refine hK9 _ _ ?_; clear hK9 K9;exact st2 _ _ Ue Ue Ue rfl
  ·have hb2':¬ (k:Int) < n':=by omega
   refine Wz3 h7 h1 hb2' ?_;refine Wf (q0G ?_);have hz:dg l' k=0:=q62 Oq;exact st2 _ _ Ue Ue Ue (by rw [hz]; omega)
 ·have hlt':¬ (k:Int) < n:=by omega
  refine Wz3 h7 h0 hlt' ?_;refine Wf (q04 ?_);obtain rfl:k=n:=by omega
  refine hK0 _ _ ?_; clear hK0 hK1;refine Wz1 h5 ?_;rw [q0K l _ Oq,q0K l' _ (by omega)] at hv;have hol:o.length=k:=by have:=hO.1.len; simpa using this
  have hlt2:=q1V hO.2;rw [hol] at hlt2;have:br=0:=by
   rcases Nat.eq_zero_or_pos br with h0 | h0
   ·exact h0
   ·have:br=1:=by omega
    rw [this] at hv; omega
  rw [this] at hv;refine q0O ?_
  try simp only [q0D,q0S]
  refine q1S rfl ⟨A2,c2,o,rfl,hx,hO,by omega⟩
def q8n {D:Nat→Prop} {A A':Option Addr} {n n' c c':Nat} {x y:Nat} {w:World} (h:U32 w D A n c (lim x)) (h':U32 w D A' n' c' (lim y)) (hb:n≤1000000000) (hb':n'≤1000000000) :
  Calls Tryz.prog 215 #[.slice A n c,.slice A' n' c'] w fun e w'=>e=.returned (.int .i64 (q2C x y))∧Ext w w':=by
 refine q0J Tryz.func215 rfl Tryz.ntmps215 (by kernel_rfl) ?_;refine Wz ?_;have hl:=h.len;have hl':=h'.len;refine q0B fun K0 hK0=>?_;refine Wz ?_
 by_cases hne:n=n'
 ·subst hne;have e1:((n:Int) != n)=false:=by simp
  refine q02 rfl (fun hc=>by rw [e1] at hc; cases hc) (fun hc=>q0G (hK0 _ _ ?_));clear hK0;refine q0B fun K0 hK0=>?_;refine Wz1 @i64_in ?_;refine q0X ?_;refine q0a (fun e2 w2=>∃ k:Nat,e2 5=.int .i64 ((k:Int)-1)∧k≤n∧Ext w w2∧(lim x).drop k=(lim y).drop k) (fun e2 _=>(RowKit.intOf (e2 5)+1).toNat) ⟨n,rfl,Nat.le_refl _,Kp.refl _ _,by rw [List.drop_of_length_le Oq,List.drop_of_length_le (by omega)]⟩ ?_;rintro e1 w1 ⟨k,h5,hk,hx,hdr⟩ hkk;have h0:e1 0=.slice A n c:=(hkk 0 (by kernel_rfl)).trans rfl;have h1:e1 1=.slice A' n c':=(hkk 1 (by kernel_rfl)).trans rfl;clear hkk;refine q0B fun K1 hK1=>?_
  by_cases hpos:0 < k
  ·have hp':((k:Int)-1 ≥ 0):=by omega
   refine Wz2 h5 hp' ?_;refine Wt (q0G (hK1 _ _ ?_));clear hK1;refine q0N fun K hK=>?_;obtain ⟨ad,rfl,hc⟩:=(h.ext hx).cell (j:=k-1) Oq;obtain ⟨ad',rfl,hc'⟩:=(h'.ext hx).cell (j:=k-1) Oq;have e1':((k:Int)-1).toNat=k-1:=by omega
   have e2':(0:Int)≤k-1∧(k:Int)-1 < n:=by omega
   refine q0B fun K1 hK1=>?_;refine qcw q0l [true,true,true,true,true,true,true,true,true] (by kernel_rfl) fun KE hKE=>?_;simp -implicitDefEqProofs (maxSteps:=600000) (disch:=omega) only [go_sem,Nat.reduceEqDiff,Nat.reduceAdd,↓reduceIte,h0,h1,h5,e1',e2',hc,hc'];refine hKE _ fun w2 hx2=>?_; clear hKE KE;refine hK1 _ _ ?_; clear hK1
   by_cases hd:dg (lim x) (k-1)=dg (lim y) (k-1)
   ·have hd':(((dg (lim x) (k-1):Nat):Int) != ((dg (lim y) (k-1):Nat):Int))=false:=by simp [hd]
    refine q02 rfl (fun hc=>by rw [hd'] at hc; cases hc) (fun hc=>q0G (hK _ _ ?_));clear hK;refine q0Q fun K9 hK9=>?_;refine Zz2 h5 @i64_in ?_;refine hK9 _ _ ?_; clear hK9 K9;refine ⟨⟨k-1,by simp only [q0E,↓reduceIte]; congr 1; omega,by omega,hx.trans hx2,?_⟩,?_⟩
    ·rw [List.drop_eq_getElem_cons (l:=lim x) (i:=k-1) Oq,List.drop_eq_getElem_cons (l:=lim y) (i:=k-1) Oq,show k-1+1=k by omega,hdr];have:=hd;unfold dg at this;rw [q1F Oq,q1F (by omega)] at this;rw [this]
    ·simp only [q0E,↓reduceIte,RowKit.intOf,h5]; omega
   ·have hd':(((dg (lim x) (k-1):Nat):Int) != ((dg (lim y) (k-1):Nat):Int))=true:=by rw [bne_iff_ne]; exact fun e=>hd (Int.ofNat.inj e)
    refine q02 rfl (fun hc=>?_) (fun hc=>by rw [hd'] at hc; cases hc);clear hK;replace hc:=(h.ext hx).ext hx2;replace hc':=(h'.ext hx).ext hx2;obtain ⟨_,hq,hc⟩:=hc.cell (j:=k-1) Oq;obtain ⟨_,hq',hc'⟩:=hc'.cell (j:=k-1) Oq;cases hq; cases hq';refine q0B fun K1 hK1=>?_;refine q0B fun K2 hK2=>?_;refine qcw q0l [true,true,true,true,true,true,true,true,true] (by kernel_rfl) fun KE hKE=>?_;simp -implicitDefEqProofs (maxSteps:=600000) (disch:=omega) only [go_sem,Nat.reduceEqDiff,Nat.reduceAdd,↓reduceIte,h0,h1,h5,e1',e2',hc,hc'];refine hKE _ fun w3 hx3=>?_; clear hKE KE;refine hK2 _ _ ?_; clear hK2;have tops:∀ {a b:Nat},(lim a).length=n→(lim b).length=n→(lim a).drop k=(lim b).drop k→dg (lim a) (k-1) < dg (lim b) (k-1)→a < b:=by
     intro a b ha hb' hab hlt;have:=q4E (i:=k-1) (q1b a) (ha.trans hb'.symm) Oq (by rw [show k-1+1=k by omega]; exact hab) hlt;simpa [q0I] using this
    by_cases hlt:dg (lim x) (k-1) < dg (lim y) (k-1)
    ·have hlt':decide (((dg (lim x) (k-1):Nat):Int) < ((dg (lim y) (k-1):Nat):Int))=true:=by simp [hlt]
     refine q02 rfl (fun hc=>?_) (fun hc=>by rw [hlt'] at hc; cases hc);refine Wz ?_;have:=tops hl hl' hdr hlt;refine q0O ?_
     try simp only [q0D,q0S]
     refine q1S rfl ⟨by simp [q2C,this,upd],(hx.trans hx2).trans hx3⟩
    ·have hlt':decide (((dg (lim x) (k-1):Nat):Int) < ((dg (lim y) (k-1):Nat):Int))=false:=by simpa using hlt
     refine q02 rfl (fun hc=>by rw [hlt'] at hc; cases hc) (fun hc=>q0G (hK1 _ _ ?_));refine Wz ?_;have:=tops hl' hl hdr.symm Oq;refine q0O ?_
     try simp only [q0D,q0S]
     refine q1S rfl ⟨by simp [q2C,upd,show ¬ x < y by omega,show ¬ x=y by omega],(hx.trans hx2).trans hx3⟩
  ·obtain rfl:k=0:=by omega
   have hp':¬ (((0:Nat):Int)-1 ≥ 0):=by omega
   refine Wz2 h5 hp' ?_;refine Wf (q04 (hK0 _ _ ?_));refine Wz ?_;have:x=y:=by
    have:=congrArg val hdr;simpa [q0I] using this
   refine q0O ?_
   try simp only [q0D,q0S]
   refine q1S rfl ⟨by simp [q2C,upd,this],hx⟩
 ·have e1:((n:Int) != n')=true:=by rw [bne_iff_ne]; omega
  refine q02 rfl (fun hc=>?_) (fun hc=>by rw [e1] at hc; cases hc);refine q0B fun K1 hK1=>?_
  by_cases hlt:n < n'
  ·have hlt':(n:Int) < n':=by omega
   refine Wz1 hlt' ?_;refine Wt ?_;refine Wz ?_;have:=q2S (m:=x) (n:=y) Oq;refine q0O ?_
   try simp only [q0D,q0S]
   refine q1S rfl ⟨by simp [q2C,upd,this],Kp.refl _ _⟩
  ·have hlt':¬ (n:Int) < n':=by omega
   refine Wz1 hlt' ?_;refine Wf (q0G (hK1 _ _ ?_));refine Wz ?_;have:=q2S (m:=y) (n:=x) Oq;refine q0O ?_
   try simp only [q0D,q0S]
   refine q1S rfl ⟨by simp [q2C,upd,show ¬ x < y by omega,show ¬ x=y by omega],Kp.refl _ _⟩
def qdg {D:Nat→Prop} {A:Option Addr} {n c m:Nat} {l:List Nat} {w:World} (h:U32 w D A n c l) (hb:n≤1000000000) (hm:m≤1000000000) :
  Calls Tryz.prog 217 #[.slice A n c,.int .i64 m] w fun e w'=>∃ A2 n2 c2 l2,e=.returned (.slice A2 n2 c2)∧Ext w w'∧q12 w' w.heap.size A2 n2 c2 l2∧val l2=2 ^ m*val l∧n2=m / 32+n+1:=by
 refine q0J Tryz.func217 rfl Tryz.ntmps217 (by kernel_rfl) ?_;refine Wz ?_;refine q0A fun K hK=>?_;refine Zz ?_;refine mkU (Nat.le_refl _) Oq fun w0 hx0 hO0=>?_;refine hK _ _ ?_; clear hK;refine Wz ?_;have hl:=h.len;have hk:m % 32 < 32:=Nat.mod_lt _ Oq;have hp:2 ^ (m % 32)≤2147483648:=Nat.pow_le_pow_right (n:=2) Oq (show m % 32≤31 by omega);refine q0B fun K0 hK0=>?_;refine Wz ?_;refine q0X ?_;refine q0a (fun e2 w2=>∃ (k cr:Nat) (A2:Option Addr) (c2:Nat) (o:List Nat),e2 7=.int .i64 k∧e2 6=.int .u64 cr∧e2 5=.slice A2 (m / 32+k) c2∧k≤n∧cr < 2 ^ (m % 32)∧Ext w w2∧q12 w2 w.heap.size A2 (m / 32+k) c2 (List.replicate (m / 32) 0 ++ o)∧val o+B ^ k*cr=2 ^ (m % 32)*val (l.take k)) (fun e2 _=>n-(RowKit.intOf (e2 7)).toNat) ⟨0,0,_,_,[],rfl,rfl,rfl,Nat.zero_le _,Nat.pow_pos Oq,hx0,by simpa using hO0,by simp [val]⟩ ?_;rintro e1 w1 ⟨k,cr,A2,c2,o,h7,h6,h5,hkm,hcr,hx,hO,hv⟩ hkk;have h0:e1 0=.slice A n c:=(hkk 0 (by kernel_rfl)).trans rfl;have h1:e1 1=.int .i64 m:=(hkk 1 (by kernel_rfl)).trans rfl;clear hkk;have hol:o.length=k:=by have:=hO.1.len; simp at this; omega
 refine q0B fun K1 hK1=>?_;have hd1:=h.dg_lt k
 by_cases hlt:k < n
 ·have hlt':(k:Int) < n:=by omega
  refine Wz3 h7 h0 hlt' ?_;refine Wt (q0G (hK1 _ _ ?_));clear hK1;refine q0N fun K hK=>?_;have e2:(0:Int)≤k∧(k:Int) < n:=by omega
  obtain ⟨ad,rfl,hcc⟩:=(h.ext hx).cell hlt;have hpr:dg l k*2 ^ (m % 32)≤4294967295*2147483648:=Nat.mul_le_mul Oq hp;have e3:dg l k*2 ^ (m % 32) % 18446744073709551616=dg l k*2 ^ (m % 32):=Nat.mod_eq_of_lt Oq;have e4:cr ||| dg l k*2 ^ (m % 32)=cr+dg l k*2 ^ (m % 32):=q2H hcr;refine q0A fun K hK=>?_;refine Zz8 h6 h7 h0 h1 e2 hcc e3 e4 ?_;refine hK _ _ ?_; clear hK K;refine q0A fun K9 hK9=>?_;refine Zz1 h5 ?_;refine q7X hO (Nat.mod_lt _ Oq) Oq hx.size ?_;intro v1 A3 c3 w3 hO3 hk3 hat;refine hK9 _ _ ?_; clear hK9;refine q0Q fun K9 hK9=>?_;refine Zz ?_;refine hK9 _ _ ?_; clear hK9 K9;refine hK _ _ ?_; clear hK;refine q0Q fun K9 hK9=>?_;refine Zz2 h7 @i64_in ?_;refine hK9 _ _ ?_; clear hK9 K9;have key:=qhq (x:=dg l k) hol hv;rw [List.append_assoc] at hO3;refine ⟨⟨k+1,_,A3,c3,_,rfl,rfl,rfl,by omega,?_,hO.1.under hx hk3,hO3,?_⟩,?_⟩
  ·rw [Nat.div_lt_iff_lt_mul (by omega)];have:(dg l k+1)*2 ^ (m % 32)≤4294967296*2 ^ (m % 32):=Nat.mul_le_mul_right _ Oq;rw [Nat.add_mul,Nat.one_mul] at this;rw [Nat.mul_comm _ 4294967296];omega
  ·rw [vts]; exact key
  ·simp only [q0E,↓reduceIte,RowKit.intOf,h7]; omega
 ·have hlt':¬ (k:Int) < n:=by omega
  refine Wz3 h7 h0 hlt' ?_;refine Wf (q04 ?_);obtain rfl:k=n:=by omega
  refine hK0 _ _ ?_; clear hK0 hK1;refine q0A fun K9 hK9=>?_;refine Zz2 h5 h6 ?_;refine q7X hO (Nat.mod_lt _ Oq) Oq hx.size ?_;intro v1 A3 c3 w3 hO3 hk3 hat;refine hK9 _ _ ?_; clear hK9;refine q0O (q1S rfl ⟨A3,_,c3,_,rfl,hO.1.under hx hk3,hO3,?_,rfl⟩);rw [q0K l _ (by omega)] at hv;rw [List.append_assoc,q32,q2m,q1p,hol,Nat.mod_eq_of_lt Oq,hv,List.length_replicate,Nat.zero_add,q9B,← Nat.pow_mul,← Nat.mul_assoc,← Nat.pow_add,Nat.div_add_mod]
def qdf {D:Nat→Prop} {A:Option Addr} {n c m:Nat} {l:List Nat} {w:World} (h:U32 w D A n c l) (hb:n≤1000000000) (hm:m≤1000000000000) :
  Calls Tryz.prog 218 #[.slice A n c,.int .i64 m] w fun e w'=>∃ A2 n2 c2 l2,e=.returned (.tuple #[.slice A2 n2 c2,.bool (decide (val l % 2 ^ m≠0))])∧Ext w w'∧q12 w' w.heap.size A2 n2 c2 l2∧val l2=val l / 2 ^ m∧n2≤n:=by
 refine q0J Tryz.func218 rfl Tryz.ntmps218 (by kernel_rfl) ?_;refine Wz ?_;refine Wz ?_;have hl:=h.len;have hk:m % 32 < 32:=Nat.mod_lt _ Oq;have hmm:32*(m / 32)+m % 32=m:=Nat.div_add_mod m 32;have hp:2 ^ (m % 32)≤2147483648:=Nat.pow_le_pow_right (n:=2) Oq (show m % 32≤31 by omega);have hp0:0 < 2 ^ (m % 32):=Nat.pow_pos Oq;refine q0B fun K0 hK0=>?_;refine Wz ?_;have mid:∀ e1:Env,e1 0=.slice A n c→e1 1=.int .i64 m→e1 6=.bool (decide (val (l.take (m / 32))≠0))→K0 e1 w:=by
  intro e1 h0 h1 h6;refine hK0 _ _ ?_; clear hK0;refine Wz ?_;refine Wz1 h1 ?_;refine q0B fun K0 hK0=>?_;refine Wz1 h1 ?_;refine q0X ?_;refine q0a (fun e2 w2=>∃ (j:Nat) (A2:Option Addr) (c2:Nat) (o:List Nat),e2 10=.int .i64 ((m / 32+j:Nat):Int)∧e2 8=.slice A2 j c2∧e2 6=.bool (if j=0 then decide (val (l.take (m / 32))≠0) else decide (val l % 2 ^ m≠0))∧(j=0∨m / 32+j≤n)∧Ext w w2∧q12 w2 w.heap.size A2 j c2 o∧val o+B ^ j*(val (l.drop (m / 32+j)) / 2 ^ (m % 32))=val (l.drop (m / 32)) / 2 ^ (m % 32)) (fun e2 _=>n-(RowKit.intOf (e2 10)).toNat) ⟨0,none,0,[],rfl,rfl,Ue,.inl rfl,Kp.refl _ _,⟨Own.nil _ _ _ _,q1w.nil⟩,by simp [val]⟩ ?_;rintro e2 w1 ⟨j,A2,c2,o,g10,g8,g6,hj,hx,hO,hv⟩ hkk;have g0:e2 0=.slice A n c:=(hkk 0 (by kernel_rfl)).trans Ue;have g1:e2 1=.int .i64 m:=(hkk 1 (by kernel_rfl)).trans Ue;have g9:e2 9=.int .i64 ((m % 32:Nat):Int):=(hkk 9 (by kernel_rfl)).trans Ue;clear hkk;have hol:o.length=j:=by have:=hO.1.len; simpa using this
  refine q0B fun K1 hK1=>?_
  by_cases hlt:m / 32+j < n
  ·have hlt':((m / 32+j:Nat):Int) < n:=by omega
   refine Wz3 g10 g0 hlt' ?_;refine Wt (q0G (hK1 _ _ ?_));clear hK1;refine q0N fun K hK=>?_;have e2':(0:Int)≤(m / 32+j:Nat)∧((m / 32+j:Nat):Int) < n:=by omega
   obtain ⟨ad,rfl,hcc⟩:=(h.ext hx).cell hlt;have hd1:=h.dg_lt (m / 32+j);have hd2:=h.dg_lt (m / 32+j+1);refine Wz4 g10 g0 e2' hcc ?_;refine q0B fun K1 hK1=>?_;have st1:∀ e3:Env,e3 10=.int .i64 ((m / 32+j:Nat):Int)→e3 8=.slice A2 j c2→e3 6=.bool (if j=0 then decide (val (l.take (m / 32))≠0) else decide (val l % 2 ^ m≠0))→e3 0=.slice (some ad) n c→e3 1=.int .i64 m→e3 9=.int .i64 ((m % 32:Nat):Int) →
     e3 11=.int .u64 ((dg l (m / 32+j)+dg l (m / 32+j+1)*4294967296:Nat):Int)→K1 e3 w1:=by
    intro e3 k10 k8 k6 k0 k1 k9 k11;refine hK1 _ _ ?_; clear hK1;refine q0B fun K1 hK1=>?_;have st2:∀ (e4:Env) (w2:World),Ext w1 w2→e4 10=.int .i64 ((m / 32+j:Nat):Int)→e4 8=.slice A2 j c2→e4 6=.bool (decide (val l % 2 ^ m≠0))→e4 9=.int .i64 ((m % 32:Nat):Int) →
      e4 11=.int .u64 ((dg l (m / 32+j)+dg l (m / 32+j+1)*4294967296:Nat):Int)→K1 e4 w2:=by
     intro e4 w2 hx2 q10 q8 q6 q9 q11;refine hK1 _ _ ?_; clear hK1;refine q0Q fun K9 hK9=>?_;refine Zz3 q11 q9 q8 ?_;refine q7X (hO.1.ext hx2 |> fun a=>⟨a,hO.2⟩) (Nat.mod_lt _ Oq) Oq (hx.trans hx2).size ?_;intro v1 A3 c3 w3 hO3 hk3 hat;refine hK9 _ _ ?_; clear hK9 K9;refine hK _ _ ?_; clear hK;refine q0Q fun K9 hK9=>?_;refine Zz2 q10 @i64_in ?_;refine hK9 _ _ ?_; clear hK9 K9;have key:=qae (Nat.le_of_lt hk) h.2 hol hv;refine ⟨⟨j+1,A3,c3,_,?_,rfl,?_,.inr Oq,(hO.1.ext hx2).under (hx.trans hx2) hk3,hO3,key⟩,?_⟩
     ·simp only [q0E,↓reduceIte]; congr 1
     ·simp only [q0E,Nat.reduceEqDiff,↓reduceIte,q6,Nat.add_eq_zero_iff,Nat.one_ne_zero,and_false]
     ·simp only [q0E,↓reduceIte,RowKit.intOf,g10]; omega
    refine q0B fun K2 hK2=>?_
    by_cases hj0:j=0
    ·subst hj0;have hq:(((m / 32+0:Nat):Int) == ((m / 32:Nat):Int))=true:=by simp
     have hs1:IntKind.u32.wrap (((2 ^ (m % 32):Nat):Int)-1)=((2 ^ (m % 32)-1:Nat):Int):=qd7 hp0 Oq;have ha1:q0y .and .u32 ((dg l (m / 32+0):Nat):Int) ((2 ^ (m % 32)-1:Nat):Int)=((dg l (m / 32+0) % 2 ^ (m % 32):Nat):Int):=by
      rw [qbk hd1 Oq,Nat.and_two_pow_sub_one_eq_mod]
     refine qcw q0l [true,true,true,true,true,true,true,true,true,true,true,true,true,true,true] (by kernel_rfl) fun KE hKE=>?_;simp -implicitDefEqProofs (maxSteps:=600000) (disch:=omega) only [go_sem,Nat.reduceEqDiff,Nat.reduceAdd,↓reduceIte,k10,k1,k0,k9,e2',hcc,hq,hs1,ha1];refine hKE _ fun w2 hx2=>?_; clear hKE KE;refine hK2 _ _ ?_; clear hK2;have hlo:=qaw h.2 (m / 32) (m % 32) Oq;rw [hmm] at hlo
     by_cases hz:dg l (m / 32) % 2 ^ (m % 32)=0
     ·have hz':(((dg l (m / 32+0) % 2 ^ (m % 32):Nat):Int) != 0)=false:=by rw [qlw]; simpa using hz
      refine q02 rfl (fun hc=>by rw [hz'] at hc; cases hc) (fun hc=>q0G ?_);refine st2 _ _ hx2 Ue Ue ?_ Ue Ue;simp only [q0E,Nat.reduceEqDiff,↓reduceIte,k6]
      congr 1
      rw [decide_eq_decide];have:l.getD (m / 32) 0 % 2 ^ (m % 32)=0:=hz;simp only [this,and_true] at hlo;omega
     ·have hz':(((dg l (m / 32+0) % 2 ^ (m % 32):Nat):Int) != 0)=true:=by rw [qlw]; simpa using hz
      refine q02 rfl (fun hc=>?_) (fun hc=>by rw [hz'] at hc; cases hc);refine q0Q fun K9 hK9=>?_;refine Zz ?_;refine hK9 _ _ ?_; clear hK9 K9;refine st2 _ _ hx2 Ue Ue ?_ Ue Ue;simp only [q0E,Nat.reduceEqDiff,↓reduceIte]
      congr 1
      symm
      rw [decide_eq_true_eq];intro h0;exact hz (hlo.1 h0).2
    ·have hq:(((m / 32+j:Nat):Int) == ((m / 32:Nat):Int))=false:=by rw [beqN]; exact decide_eq_false Oq
     refine qcw q0l [true,true,true,true,true,true,true,true,true,true,true,true,true,true,true] (by kernel_rfl) fun KE hKE=>?_;simp -implicitDefEqProofs (maxSteps:=600000) (disch:=omega) only [go_sem,Nat.reduceEqDiff,Nat.reduceAdd,↓reduceIte,k10,k1,k0,k9,e2',hcc,hq];refine hKE _ fun w2 hx2=>?_; clear hKE KE;refine hK2 _ _ ?_; clear hK2;refine Wf (q0G ?_);refine st2 _ _ hx2 Ue Ue ?_ Ue Ue;simp only [q0E,Nat.reduceEqDiff,↓reduceIte,k6,hj0]
   by_cases hn:m / 32+j+1 < n
   ·have hn':((m / 32+j:Nat):Int)+1 < n:=by omega
    obtain ⟨_,hq,hcc'⟩:=(h.ext hx).cell hn;cases hq;refine Wz4 g10 g0 @i64_in hn' ?_;refine Wt ?_;have e3':(0:Int)≤(m / 32+j:Nat)+1∧((m / 32+j:Nat):Int)+1 < n:=by omega
    obtain ⟨q,hqq⟩:∃ q,q=m / 32+j+1:=⟨_,rfl⟩;have e5':(((m / 32+j:Nat):Int)+1).toNat=q:=by omega
    rw [← hqq] at hcc';rw [← hqq] at hd2 st1;have e6:dg l q*4294967296 % 18446744073709551616=dg l q*4294967296:=Nat.mod_eq_of_lt Oq;have e7:dg l (m / 32+j) ||| dg l q*4294967296=dg l (m / 32+j)+dg l q*4294967296:=q2H (k:=32) hd1;refine q0Q fun K9 hK9=>?_;refine Zz8 g10 g0 @i64_in e3' e5' hcc' e6 e7 ?_;refine hK9 _ _ ?_; clear hK9 K9;exact st1 _ Ue Ue Ue Ue Ue Ue Ue
   ·have hn':¬ ((m / 32+j:Nat):Int)+1 < n:=by omega
    refine Wz4 g10 g0 @i64_in hn' ?_;refine Wf (q0G ?_);have hz:dg l (m / 32+j+1)=0:=q62 Oq;refine st1 _ Ue Ue Ue Ue Ue Ue ?_;rw [hz]; exact Ue
  ·have hlt':¬ ((m / 32+j:Nat):Int) < n:=by omega
   refine Wz3 g10 g0 hlt' ?_;refine Wf (q04 ?_);refine hK0 _ _ ?_; clear hK0 hK1;refine Wz2 g8 g6 ?_;have hd0:val (l.drop (m / 32+j))=0:=by rw [List.drop_of_length_le (by omega)]; rfl
   rw [hd0,Nat.zero_div,Nat.mul_zero,Nat.add_zero,q2n h.2,Nat.div_div_eq_div_mul,q9B,← Nat.pow_mul,← Nat.pow_add,hmm] at hv;have hb2:(if j=0 then decide (val (l.take (m / 32))≠0) else decide (val l % 2 ^ m≠0))=decide (val l % 2 ^ m≠0):=by
    split
    ·rename_i h0;have:=qiX h.2 (m / 32) (m % 32) Oq;rw [hmm] at this;rw [this,q0K l _ (by omega)]
    ·rfl
   refine q0O ?_
   try simp only [q0D,q0S]
   refine q8S rfl ⟨A2,j,c2,o,by simp only [q0E,Nat.reduceEqDiff,↓reduceIte,hb2],hx,hO,hv,by omega⟩
 refine q0X ?_;refine q0a (fun e2 w2=>w2=w∧∃ i:Nat,e2 7=.int .i64 i∧e2 6=.bool (decide (val (l.take i)≠0))∧i≤m / 32∧i≤n) (fun e2 _=>n-(RowKit.intOf (e2 7)).toNat) ⟨rfl,0,rfl,rfl,Nat.zero_le _,Nat.zero_le _⟩ ?_;rintro e1 w1 ⟨rfl,i,h7,h6,him,hin⟩ hkk;have h0:e1 0=.slice A n c:=(hkk 0 (by kernel_rfl)).trans rfl;have h1:e1 1=.int .i64 m:=(hkk 1 (by kernel_rfl)).trans rfl;clear hkk;refine q0B fun K1 hK1=>?_
 by_cases h1m:i < m / 32
 ·have h1m':(i:Int) < (m / 32:Nat):=by omega
  by_cases h1n:i < n
  ·have h1n':(i:Int) < n:=by omega
   refine Wz5 h7 h1 h0 h1m' h1n' ?_;refine Wt (q0G (hK1 _ _ ?_));clear hK1;refine q0N fun K hK=>?_;have e2':(0:Int)≤i∧(i:Int) < n:=by omega
   obtain ⟨ad,rfl,hcc⟩:=h.cell h1n;have fin:∀ e2:Env,e2 7=.int .i64 i→e2 6=.bool (decide (val (l.take (i+1))≠0))→K e2 w1:=by
    intro e2 g7 g6;refine hK _ _ ?_; clear hK;refine q0Q fun K9 hK9=>?_;refine Zz2 g7 @i64_in ?_;refine hK9 _ _ ?_; clear hK9 K9;refine ⟨⟨rfl,i+1,rfl,?_,by omega,by omega⟩,?_⟩
    ·simp only [q0E,Nat.reduceEqDiff,↓reduceIte,g6]
    ·simp only [q0E,↓reduceIte,RowKit.intOf,h7]; omega
   have hpB:=q4c i
   by_cases hz:val (l.take i)=0
   ·have hz':decide (val (l.take i)≠0)=false:=by simp [hz]
    refine q0Q fun K9 hK9=>?_;refine Zz6 h6 h7 h0 hz' e2' hcc ?_;refine hK9 _ _ ?_; clear hK9 K9;refine fin _ Ue ?_;simp only [q0E,Nat.reduceEqDiff,↓reduceIte]
    congr 1
    rw [vts,hz,Nat.zero_add,bne];rw [Bool.eq_iff_iff];simp only [Bool.not_eq_true',beq_eq_false_iff_ne,decide_eq_true_eq,ne_eq,Nat.mul_eq_zero,not_or,dg];omega
   ·have hz':decide (val (l.take i)≠0)=true:=by simp [hz]
    refine q0Q fun K9 hK9=>?_;refine Zz4 h6 h7 h0 hz' ?_;refine hK9 _ _ ?_; clear hK9 K9;refine fin _ Ue ?_;simp only [q0E,Nat.reduceEqDiff,↓reduceIte]
    congr 1
    rw [vts]; symm; rw [decide_eq_true_eq]; omega
  ·have h1n':¬ (i:Int) < n:=by omega
   refine Wz5 h7 h1 h0 h1m' h1n' ?_;refine Wf (q04 ?_);refine mid _ Ue Ue ?_;simp only [q0E,Nat.reduceEqDiff,↓reduceIte,h6];rw [q0K l i Oq,q0K l (m / 32) (by omega)]
 ·have h1m':¬ (i:Int) < (m / 32:Nat):=by omega
  refine Wz4 h7 h1 h0 h1m' ?_;refine Wf (q04 ?_);obtain rfl:i=m / 32:=by omega
  exact mid _ Ue Ue Ue
def q1q {w:World} {Bd g n c:Nat} {l:List Nat} (h:q12 w Bd (some ⟨g,0,none⟩) n c l) {j d:Nat} (hj:j < n) (hd:d < 4294967296) {K:World→Prop}
  (hK:∀ w',q12 w' Bd (some ⟨g,0,none⟩) n c (l.set j d)→Kp (nb (some ⟨g,0,none⟩)) w w'→w'.heap.size=w.heap.size→K w'):q3f Tryz.prog 135 w (.pointer (some ⟨g,j,none⟩)) (.int .u32 d) K:=by
 have hl:l.length=n:=by have:=h.1.len; simpa using this
 obtain ⟨g',hg,hb,hc,hfz⟩:=h.1.cell (j:=j) (by simp; omega);cases hg;rw [q50];refine ⟨qk6,⟨?_,?_,rfl,trivial⟩,?_⟩
 ·rw [q06,Nat.add_zero,hc]; rfl
 ·rw [q06,Nat.add_zero]; exact hfz
 ·refine hK _ ⟨?_,h.2.set j d hd⟩ ?_ ?_
  ·have:=h.1.set j (Value.int .u32 d);rw [List.map_set];simpa [stN,q06,q7z,Value.cells] using this
  ·have:=qe7 (w:=w) (g:=g) (j:=j) (u:=Value.int .u32 d);simpa [stN,q06,Value.cells] using this
  ·simp [stN,World.setCell,Value.cells]
def qhw {D:Nat→Prop} {A:Option Addr} {n c:Nat} {l:List Nat} {s:Bool} {w:World} (h:U32 w D A n c l) (hb:n≤1000000000) (hf:Fr D w) :
  Calls Tryz.prog 148 #[.agg #[.bool s,.slice A n c]] w fun e w'=>e=.returned (.int .i64 (Int.sign (sgn s (val l))))∧Ext w w':=by
 refine q0J Tryz.func148 rfl Tryz.ntmps148 (by kernel_rfl) ?_;refine q0A fun K hK=>?_;refine Zz ?_;refine q01 ?_;intro g1 w1 hg1 hx1 hb1 hs1;refine hK _ _ ?_; clear hK;have hr:ldV w1 (some (some 2)) (.pointer (some ⟨g1,0,none⟩))=some (.agg #[.bool s,.slice A n c]):=q25 hb1 rfl;have hD:Fr (Dx D w.heap.size w1.heap.size) w1:=Dx.fr (hf.kp hx1) (Nat.le_refl _);refine q0A fun K hK=>?_;refine Zz1 hr ?_;refine q0F q6s (q55 ((h.sub (Dx.keep rfl)).ext hx1) hb hD) ?_;rintro _ w3 ⟨s3,A3,n3,c3,rfl,hx3,hB⟩; refine ⟨_,rfl,?_⟩;replace hb1:=hb1.ext hx3;refine q00 hb1 q0s rfl rfl fun w9 hk9 hb9=>?_;refine hK _ _ ?_; clear hK;have hx9:Ext w w9:=(hx1.trans hx3).under hk9 (fun k hk=>by omega);have hc0:w9.cell? ⟨g1,0,none⟩=some (.bool s3):=hb9.cell 0;have hc1:w9.cell? ⟨g1,1,none⟩=some (.slice A3 n3 c3):=hb9.cell 1;obtain ⟨hs3,hU3⟩:=hB;have hlen:=hU3.len;have hpos:=@q0R (sgn s (val l)).natAbs;refine q0N fun K1 hK1=>?_;refine Wz2 hc0 hc1 ?_
 by_cases hz:n3=0
 ·have hz':((n3:Int) == 0)=true:=by simp [hz]
  refine q02 rfl (fun hc=>?_) (fun hc=>by rw [hz'] at hc; cases hc);refine Wz ?_;have h0:sgn s (val l)=0:=by omega
  refine q0O ?_
  try simp only [q0D,q0S]
  refine q1S rfl ⟨by rw [h0]; rfl,hx9⟩
 ·have hz':((n3:Int) == 0)=false:=by simp [hz]
  refine q02 rfl (fun hc=>by rw [hz'] at hc; cases hc) (fun hc=>?_);refine Wz1 hc0 ?_
  by_cases hn:sgn s (val l) < 0
  ·have hs:s3=true:=by rw [hs3]; simpa using hn
   subst hs;refine Wt ?_;refine Wz ?_;refine q0O ?_
   try simp only [q0D,q0S]
   refine q1S rfl ⟨by rw [Int.sign_eq_neg_one_of_neg hn]; rfl,hx9⟩
  ·have hs:s3=false:=by rw [hs3]; simpa using hn
   subst hs;refine Wf (q0G (hK1 _ _ ?_));refine Wz ?_;refine q0O ?_
   try simp only [q0D,q0S]
   refine q1S rfl ⟨by rw [Int.sign_eq_one_of_pos (by omega)]; rfl,hx9⟩
def own2 {w w1:World} {a b:Nat} (hb:Blk w1 w.heap.size 135 #[.int .u32 a,.int .u32 b]) (ha:a < 4294967296) (hb':b < 4294967296):q12 w1 w.heap.size (some ⟨w.heap.size,0,none⟩) 2 2 [a,b]:=by
 refine ⟨?_,fun d hd=>?_⟩
 ·have:=Own.made (w:=w1) (w':=w) (B:=w.heap.size) (sz:=1) (n:=2) (c:=2) hb (Nat.le_refl _) (by simp [maxLen]) rfl (Nat.le_refl _);simpa [q7z] using this
 ·rcases List.mem_cons.1 hd with rfl | hd
  ·exact ha
  ·simp at hd; subst hd; exact hb'
def q5y {z:Int} {D:Nat→Prop} {w:World} (h1 : -9223372036854775808≤z) (h2:z≤9223372036854775807) (hf:Fr D w) :
  Calls Tryz.prog 150 #[.int .i64 z] w fun e w'=>∃ s' A' n' c',e=.returned (.agg #[.bool s',.slice A' n' c'])∧Ext w w'∧Big w' D s' A' n' c' z:=by
 refine q0J Tryz.func150 rfl Tryz.ntmps150 (by kernel_rfl) ?_;refine q0A fun K hK=>?_;refine Zz ?_;refine q0r ?_;intro g1 w1 hg1 hx1 hb1 hs1;refine hK _ _ ?_; clear hK;refine Wz ?_;refine q0B fun K0 hK0=>?_;have fin:∀ e1:Env,e1 2=.pointer (some ⟨g1,0,none⟩)→e1 0=.int .i64 z→e1 3=.int .u64 (z.natAbs:Nat)→K0 e1 w1:=by
  intro e1 k2 k0 k3;refine hK0 _ _ ?_; clear hK0;refine q0A fun K hK=>?_;refine Zz3 k2 k0 k3 ?_;refine q3i fun w2 hx2 hb2 hs2=>?_;have hD:Fr (Dx D w.heap.size w1.heap.size) w2:=Dx.fr ((hf.kp hx1).kp hx2) Oq;have hU:U32 w2 (Dx D w.heap.size w1.heap.size) _ 2 2 _:=(own2 hb2 (Nat.mod_lt _ Oq) (Nat.mod_lt _ Oq)).u32 fun k hk=>Dx.ge (hf k Oq) Oq;have hv:val [z.natAbs % 4294967296,z.natAbs / 4294967296 % 4294967296]=z.natAbs:=by simp only [val,B]; omega
  refine q0F q3C (q1a hU Oq hD) ?_;rintro _ w3 ⟨s3,A3,n3,c3,rfl,hx3,hB⟩; refine ⟨_,rfl,?_⟩;replace hb1:=(hb1.ext hx2).ext hx3;rw [hv,q51] at hB;refine q00 hb1 q0s rfl rfl fun w9 hk9 hb9=>?_;refine hK _ _ ?_; clear hK;refine q0O ?_
  try simp only [q0D,q0S]
  exact (q3D rfl (q0p (by first | exact rfl | assumption) q1Z hb9 rfl) ⟨_,_,_,_,rfl,(((hx1.trans hx2).trans hx3)).under hk9 (fun k hk=>by omega),(hB.kp (hk9.mono fun k _ h=>Dx.ne h Oq Oq)).sub fun k _ h=>h.1⟩)
 by_cases hn:z < 0
 ·refine Wz1 hn ?_;refine Wt ?_;have e1:IntKind.u64.wrap (IntKind.u64.wrap (IntKind.i64.wrap (0-IntKind.i64.wrap (z+1)))+1)=((z.natAbs:Nat):Int):=by
   rw [i64_in (n:=z+1) Oq Oq,i64_in Oq Oq,u64_in (n:=0-(z+1)) Oq Oq,u64_in Oq (by omega)]; omega
  refine q0Q fun K9 hK9=>?_;simp -implicitDefEqProofs only [go_sem,Nat.reduceEqDiff,Nat.reduceAdd,↓reduceIte];refine hK9 _ _ ?_;exact fin _ Ue Ue (by simp only [q0E,Nat.reduceEqDiff,↓reduceIte,e1])
 ·have hn':¬ z < 0:=hn;refine Wz1 hn' ?_;refine Wf (q0G ?_);exact fin _ Ue Ue (by simp only [q0E,Nat.reduceEqDiff,↓reduceIte]; rw [u64_in Oq (by omega)]; congr 1; omega)
def qeT {D:Nat→Prop} {A A':Option Addr} {n c n' c':Nat} {l l':List Nat} {s s':Bool} {w:World} (h:U32 w D A n c l) (h':U32 w D A' n' c' l') (hb:n≤900000000) (hb':n'≤900000000) (hf:Fr D w) :
  Calls Tryz.prog 153 #[.agg #[.bool s,.slice A n c],.agg #[.bool s',.slice A' n' c']] w fun e w'=>∃ s9 A9 n9 c9,e=.returned (.agg #[.bool s9,.slice A9 n9 c9])∧Ext w w'∧Big w' D s9 A9 n9 c9 (sgn s (val l)+sgn s' (val l')):=by
 refine q0J Tryz.func153 rfl Tryz.ntmps153 (by kernel_rfl) ?_;refine q0A fun K hK=>?_;refine Zz ?_;refine q01 ?_;intro g1 w1 hg1 hx1 hb1 hs1;refine q01 ?_;intro g2 w2 hg2 hx2 hb2 hs2;refine q0r ?_;intro g3 w3 hg3 hx3 hb3 hs3;refine hK _ _ ?_; clear hK;replace hb1:=(hb1.ext hx2).ext hx3;replace hb2:=hb2.ext hx3;have hxx:=(hx1.trans hx2).trans hx3;replace h:=h.ext hxx;replace h':=h'.ext hxx;have hc0:∀ w',Ext w3 w'→w'.cell? ⟨g1,0,none⟩=some (.bool s):=fun w' hw=>(hb1.ext hw).cell 0;have hc1:∀ w',Ext w3 w'→w'.cell? ⟨g1,1,none⟩=some (.slice A n c):=fun w' hw=>(hb1.ext hw).cell 1;have hc0':∀ w',Ext w3 w'→w'.cell? ⟨g2,0,none⟩=some (.bool s'):=fun w' hw=>(hb2.ext hw).cell 0;have hc1':∀ w',Ext w3 w'→w'.cell? ⟨g2,1,none⟩=some (.slice A' n' c'):=fun w' hw=>(hb2.ext hw).cell 1;refine q0B fun K1 hK1=>?_;refine qmE true q0l (Kp.pre (fun _=>True)) (fun _ _ _ h=>h) [true,true,false,true,true,false,false,false] [(9,isU (Dx D w.heap.size w3.heap.size) (lim (val l))),(12,isU (Dx D w.heap.size w3.heap.size) (lim (val l'))),(5,isU (Dx D w.heap.size w3.heap.size) (lim (val l)))] (by kernel_rfl) fun KE hKE=>?_;simp -implicitDefEqProofs (disch:=omega) only [go_sem,Nat.reduceEqDiff,Nat.reduceAdd,↓reduceIte,hc1 _ (Kp.refl _ _),hc1' _ (Kp.refl _ _)];refine hKE _ ⟨?_,fun e' w' hw hs ho=>?_⟩ <;> clear hKE KE
 ·refine q0Z (fun e' w' hw hd ho=>?_) ?_
  ·skip
   have o8:=ho 8 (by kernel_rfl) (by kernel_rfl);simp -implicitDefEqProofs (disch:=omega) only [go_sem,Nat.reduceEqDiff,Nat.reduceAdd,↓reduceIte,o8];refine q0F q3B (q18 (h.ext hw) Oq) ?_;rintro _ w4 ⟨A4,n4,c4,rfl,hx4,hO4⟩; refine ⟨_,rfl,?_⟩;exact ⟨hx4,fun d hd=>by cases hd; exact ⟨_,_,_,rfl,hO4.u32 fun k hk=>Dx.ge (hf k (by have:=hw.size; have:=hxx.size; omega)) (by have:=hw.size; omega)⟩⟩
  refine q0Z (fun e' w' hw hd ho=>?_) ?_
  ·skip
   have o11:=ho 11 (by kernel_rfl) (by kernel_rfl);simp -implicitDefEqProofs (disch:=omega) only [go_sem,Nat.reduceEqDiff,Nat.reduceAdd,↓reduceIte,o11];refine q0F q3B (q18 (h'.ext hw) Oq) ?_;rintro _ w4 ⟨A4,n4,c4,rfl,hx4,hO4⟩; refine ⟨_,rfl,?_⟩;exact ⟨hx4,fun d hd=>by cases hd; exact ⟨_,_,_,rfl,hO4.u32 fun k hk=>Dx.ge (hf k (by have:=hw.size; have:=hxx.size; omega)) (by have:=hw.size; omega)⟩⟩
  refine q0Z (fun e' w' hw hd ho=>?_) ?_
  ·skip
   have h9:=hd 9 (by kernel_rfl) (by kernel_rfl);obtain ⟨A4,n4,c4,h9,hU4⟩:=h9;refine Zz1 h9 ?_;exact ⟨Kp.refl _ _,fun d hd=>by cases hd; exact ⟨_,_,_,rfl,hU4⟩⟩
  exact q1W
 ·have h12:=hs 12 (by kernel_rfl);have h5:=hs 5 (by kernel_rfl);obtain ⟨A4,n4,c4,h5,hU⟩:=h5;obtain ⟨A5,n5,c5,h12,hU'⟩:=h12;have o2:e' 2=.pointer (some ⟨g1,0,none⟩):=ho 2 (by kernel_rfl);have o3:e' 3=.pointer (some ⟨g2,0,none⟩):=ho 3 (by kernel_rfl);have o4:e' 4=.pointer (some ⟨g3,0,none⟩):=ho 4 (by kernel_rfl);clear hs ho;refine Zz1 h12 ?_;refine hK1 _ _ ?_; clear hK1;have hD:Fr (Dx D w.heap.size w3.heap.size) w':=Dx.fr ((hf.kp hxx).kp hw) hw.size;have hn4:n4≤900000000:=by have h1:=hU.len; have h2:=q24 h; omega
  have hn5:n5≤900000000:=by have h1:=hU'.len; have h2:=q24 h'; omega
  replace hb3:=hb3.ext hw;have hxw:=hxx.trans hw;refine q0B fun K1 hK1=>?_;have hq:(s == s')=decide (s=s'):=by cases s <;> cases s' <;> rfl
  have hcs:=hc0 _ hw;have hcs':=hc0' _ hw
  by_cases hss:s=s'
  ·subst hss;refine q0A fun K hK=>?_;simp -implicitDefEqProofs (disch:=omega) only [go_sem,Nat.reduceEqDiff,Nat.reduceAdd,↓reduceIte,o2,o3,hcs,hcs',beq_self_eq_true];refine hK _ _ ?_; clear hK K;refine Wt ?_;refine q0B fun K hK=>?_;refine qmE true q0l (Kp.pre (fun _=>True)) (fun _ _ _ h=>h) [true,true,true,true,false,false,false] [(22,isV (Dx D w.heap.size w3.heap.size) 900000001 (val l+val l')),(23,isB (Dx D w.heap.size w3.heap.size) (sgn s (val l)+sgn s (val l')))] (by kernel_rfl) fun KE hKE=>?_;simp -implicitDefEqProofs (disch:=omega) only [go_sem,Nat.reduceEqDiff,Nat.reduceAdd,↓reduceIte,o2,hcs,h5];refine hKE _ ⟨?_,fun e' w' hw hs ho=>?_⟩ <;> clear hKE KE
   ·refine q0Z (fun e' w' hw hd ho=>?_) ?_
    ·skip
     have o20:=ho 20 (by kernel_rfl) (by kernel_rfl);have o21:=ho 21 (by kernel_rfl) (by kernel_rfl);simp -implicitDefEqProofs (disch:=omega) only [go_sem,Nat.reduceEqDiff,Nat.reduceAdd,↓reduceIte,o20,o21];refine q0F qle (qgk (hU.ext hw) (hU'.ext hw) Oq Oq) ?_;rintro _ w4 ⟨A6,n6,c6,l6,rfl,hx4,hO6,hv6,hn6⟩; refine ⟨_,rfl,?_⟩;exact ⟨hx4,fun d hd=>by cases hd; exact ⟨_,_,_,_,rfl,hO6.u32 fun k hk=>hD k (by have:=hw.size; omega),by rw [hv6,q0I,q0I],by omega⟩⟩
    refine q0Z (fun e' w' hw hd ho=>?_) ?_
    ·skip
     have o19:=ho 19 (by kernel_rfl) (by kernel_rfl);have h22:=hd 22 (by kernel_rfl) (by kernel_rfl);obtain ⟨A6,n6,c6,l6,h22,hU6,hv6,hn6⟩:=h22;simp -implicitDefEqProofs (disch:=omega) only [go_sem,Nat.reduceEqDiff,Nat.reduceAdd,↓reduceIte,h22,o19];refine q0F q3C (q1a hU6 Oq (hD.kp hw)) ?_;rintro _ w4 ⟨s7,A7,n7,c7,rfl,hx4,hB⟩; refine ⟨_,rfl,?_⟩;rw [hv6] at hB;exact ⟨hx4,fun d hd=>by cases hd; exact ⟨_,_,_,_,rfl,by rw [show sgn s (val l)+sgn s (val l')=sgn s (val l+val l') by cases s <;> simp [sgn] <;> omega]; exact hB⟩⟩
    exact q1W
   ·have o4:=ho 4 (by kernel_rfl);have h23:=hs 23 (by kernel_rfl);obtain ⟨s7,A7,n7,c7,h23,hB⟩:=h23;have o4:e' 4=.pointer (some ⟨g3,0,none⟩):=(ho 4 (by kernel_rfl)).trans Ue;clear hs ho;simp -implicitDefEqProofs (disch:=omega) only [go_sem,Nat.reduceEqDiff,Nat.reduceAdd,↓reduceIte,h23,o4];replace hb3:=hb3.ext hw;have hx:=hxw.trans hw;refine q00 hb3 q0s rfl rfl fun w9 hk9 hb9=>?_;refine hK _ _ ?_; clear hK;refine q0O ?_
    try simp only [q0D,q0S]
    exact (q3D rfl (q0p (by first | exact rfl | assumption) q1Z hb9 rfl) ⟨_,_,_,_,rfl,(hx).under hk9 (fun k hk=>by omega),(hB.kp (hk9.mono fun k _ h=>Dx.ne h Oq Oq)).sub fun k _ h=>h.1⟩)
  ·have hss':(s == s')=false:=by rw [hq]; simpa using hss
   refine q0A fun K hK=>?_;simp -implicitDefEqProofs (disch:=omega) only [go_sem,Nat.reduceEqDiff,Nat.reduceAdd,↓reduceIte,o2,o3,hcs,hcs',hss'];refine hK _ _ ?_; clear hK K;refine Wf (q0G (hK1 _ _ ?_));clear hK1;refine q0B fun K1 hK1=>?_;refine q0A fun K hK=>?_;refine Zz1 h5 ?_;refine Ck qgY (q8n hU hU' Oq Oq) fun w8 hx8=>?_;have hs':s'=!s:=by cases s <;> cases s' <;> simp_all
   replace hb3:=hb3.ext hx8;replace hxw:=hxw.trans hx8;replace hcs:=hc0 _ (hw.trans hx8);replace hcs':=hc0' _ (hw.trans hx8);replace hU:=hU.ext hx8;replace hU':=hU'.ext hx8;replace hD:=hD.kp hx8;have hsz:=hx8.size
   by_cases hle:val l'≤val l
   ·have hg:(q2C (val l) (val l') ≥ 0):=by unfold q2C; split <;> (try split) <;> omega
    have hnn:n5≤n4:=by
     have h1:=hU.len; have h2:=hU'.len; have h3:=q2t hle; omega
    refine Zz1 hg ?_;refine hK _ _ ?_; clear hK;refine Wt ?_;refine q0B fun K hK=>?_;refine qmE true q0l (Kp.pre (fun _=>True)) (fun _ _ _ h=>h) [true,true,true,true,false,false,false] [(32,isV (Dx D w.heap.size w3.heap.size) 900000001 (val l-val l')),(33,isB (Dx D w.heap.size w3.heap.size) (sgn s (val l)+sgn s' (val l')))] (by kernel_rfl) fun KE hKE=>?_;simp -implicitDefEqProofs (disch:=omega) only [go_sem,Nat.reduceEqDiff,Nat.reduceAdd,↓reduceIte,o2,hcs,h5];refine hKE _ ⟨?_,fun e' w' hw hs ho=>?_⟩ <;> clear hKE KE
    ·refine q0Z (fun e' w' hw hd ho=>?_) ?_
     ·skip
      have o30:=ho 30 (by kernel_rfl) (by kernel_rfl);have o31:=ho 31 (by kernel_rfl) (by kernel_rfl);simp -implicitDefEqProofs (disch:=omega) only [go_sem,Nat.reduceEqDiff,Nat.reduceAdd,↓reduceIte,o30,o31];refine q0F qgX (q8O (hU.ext hw) (hU'.ext hw) Oq hnn (by rw [q0I,q0I]; exact hle)) ?_;rintro _ w4 ⟨A6,c6,l6,rfl,hx4,hO6,hv6⟩; refine ⟨_,rfl,?_⟩;exact ⟨hx4,fun d hd=>by cases hd; exact ⟨_,_,_,_,rfl,hO6.u32 fun k hk=>hD k (by have:=hw.size; omega),by rw [hv6,q0I,q0I],by omega⟩⟩
     refine q0Z (fun e' w' hw hd ho=>?_) ?_
     ·skip
      have o29:=ho 29 (by kernel_rfl) (by kernel_rfl);have h32:=hd 32 (by kernel_rfl) (by kernel_rfl);obtain ⟨A6,n6,c6,l6,h32,hU6,hv6,hn6⟩:=h32;simp -implicitDefEqProofs (disch:=omega) only [go_sem,Nat.reduceEqDiff,Nat.reduceAdd,↓reduceIte,h32,o29];refine q0F q3C (q1a hU6 Oq (hD.kp hw)) ?_;rintro _ w4 ⟨s7,A7,n7,c7,rfl,hx4,hB⟩; refine ⟨_,rfl,?_⟩;rw [hv6] at hB;exact ⟨hx4,fun d hd=>by cases hd; exact ⟨_,_,_,_,rfl,by rw [show sgn s (val l)+sgn s' (val l')=sgn s (val l-val l') by rw [hs']; cases s <;> simp [sgn] <;> omega]; exact hB⟩⟩
     exact q1W
    ·have o4:=ho 4 (by kernel_rfl);have h33:=hs 33 (by kernel_rfl);obtain ⟨s7,A7,n7,c7,h33,hB⟩:=h33;have o4:e' 4=.pointer (some ⟨g3,0,none⟩):=(ho 4 (by kernel_rfl)).trans Ue;clear hs ho;simp -implicitDefEqProofs (disch:=omega) only [go_sem,Nat.reduceEqDiff,Nat.reduceAdd,↓reduceIte,h33,o4];replace hb3:=hb3.ext hw;have hx:=hxw.trans hw;refine q00 hb3 q0s rfl rfl fun w9 hk9 hb9=>?_;refine hK _ _ ?_; clear hK;refine q0O ?_
     try simp only [q0D,q0S]
     exact (q3D rfl (q0p (by first | exact rfl | assumption) q1Z hb9 rfl) ⟨_,_,_,_,rfl,(hx).under hk9 (fun k hk=>by omega),(hB.kp (hk9.mono fun k _ h=>Dx.ne h Oq Oq)).sub fun k _ h=>h.1⟩)
   ·have hg:¬ (q2C (val l) (val l') ≥ 0):=by unfold q2C; split <;> (try split) <;> omega
    have hnn:n4≤n5:=by
     have h1:=hU.len; have h2:=hU'.len; have h3:=q2t (Nat.le_of_not_le hle); omega
    refine Zz1 hg ?_;refine hK _ _ ?_; clear hK;refine Wf (q0G (hK1 _ _ ?_));clear hK1;refine q0B fun K hK=>?_;refine qmE true q0l (Kp.pre (fun _=>True)) (fun _ _ _ h=>h) [true,true,true,true,false,false,false] [(38,isV (Dx D w.heap.size w3.heap.size) 900000001 (val l'-val l)),(39,isB (Dx D w.heap.size w3.heap.size) (sgn s (val l)+sgn s' (val l')))] (by kernel_rfl) fun KE hKE=>?_;simp -implicitDefEqProofs (disch:=omega) only [go_sem,Nat.reduceEqDiff,Nat.reduceAdd,↓reduceIte,o3,hcs',h5];refine hKE _ ⟨?_,fun e' w' hw hs ho=>?_⟩ <;> clear hKE KE
    ·refine q0Z (fun e' w' hw hd ho=>?_) ?_
     ·skip
      have o36:=ho 36 (by kernel_rfl) (by kernel_rfl);have o37:=ho 37 (by kernel_rfl) (by kernel_rfl);simp -implicitDefEqProofs (disch:=omega) only [go_sem,Nat.reduceEqDiff,Nat.reduceAdd,↓reduceIte,o36,o37];refine q0F qgX (q8O (hU'.ext hw) (hU.ext hw) Oq hnn (by rw [q0I,q0I]; omega)) ?_;rintro _ w4 ⟨A6,c6,l6,rfl,hx4,hO6,hv6⟩; refine ⟨_,rfl,?_⟩;exact ⟨hx4,fun d hd=>by cases hd; exact ⟨_,_,_,_,rfl,hO6.u32 fun k hk=>hD k (by have:=hw.size; omega),by rw [hv6,q0I,q0I],by omega⟩⟩
     refine q0Z (fun e' w' hw hd ho=>?_) ?_
     ·skip
      have o35:=ho 35 (by kernel_rfl) (by kernel_rfl);have h38:=hd 38 (by kernel_rfl) (by kernel_rfl);obtain ⟨A6,n6,c6,l6,h38,hU6,hv6,hn6⟩:=h38;simp -implicitDefEqProofs (disch:=omega) only [go_sem,Nat.reduceEqDiff,Nat.reduceAdd,↓reduceIte,h38,o35];refine q0F q3C (q1a hU6 Oq (hD.kp hw)) ?_;rintro _ w4 ⟨s7,A7,n7,c7,rfl,hx4,hB⟩; refine ⟨_,rfl,?_⟩;rw [hv6] at hB;exact ⟨hx4,fun d hd=>by cases hd; exact ⟨_,_,_,_,rfl,by rw [show sgn s (val l)+sgn s' (val l')=sgn s' (val l'-val l) by rw [hs']; cases s <;> simp [sgn] <;> omega]; exact hB⟩⟩
     exact q1W
    ·have o4:=ho 4 (by kernel_rfl);have h39:=hs 39 (by kernel_rfl);obtain ⟨s7,A7,n7,c7,h39,hB⟩:=h39;have o4:e' 4=.pointer (some ⟨g3,0,none⟩):=(ho 4 (by kernel_rfl)).trans Ue;clear hs ho;simp -implicitDefEqProofs (disch:=omega) only [go_sem,Nat.reduceEqDiff,Nat.reduceAdd,↓reduceIte,h39,o4];replace hb3:=hb3.ext hw;have hx:=hxw.trans hw;refine q00 hb3 q0s rfl rfl fun w9 hk9 hb9=>?_;refine hK _ _ ?_; clear hK;refine q0O ?_
     try simp only [q0D,q0S]
     exact (q3D rfl (q0p (by first | exact rfl | assumption) q1Z hb9 rfl) ⟨_,_,_,_,rfl,(hx).under hk9 (fun k hk=>by omega),(hB.kp (hk9.mono fun k _ h=>Dx.ne h Oq Oq)).sub fun k _ h=>h.1⟩)
def qeb {D:Nat→Prop} {A A':Option Addr} {n n' c c':Nat} {l l':List Nat} {w:World} (h:U32 w D A n c l) (h':U32 w D A' n' c' l') (hb:n≤400000000) (hb':n'≤400000000) :
  Calls Tryz.prog 256 #[.slice A n c,.slice A' n' c'] w fun e w'=>∃ A2 c2 l2,e=.returned (.slice A2 (n+n') c2)∧Ext w w'∧q12 w' w.heap.size A2 (n+n') c2 l2∧val l2=val l*val l':=by
 refine q0J Tryz.func256 rfl Tryz.ntmps256 (by kernel_rfl) ?_;refine Wz ?_;have hl:=h.len;have hl':=h'.len;have hsum:IntKind.i64.wrap ((n:Int)+(n':Int))=((n+n':Nat):Int):=by rw [i64_in Oq (by omega)]; omega
 refine q0A fun K hK=>?_;refine Zz1 hsum ?_;refine mkU (Nat.le_refl _) Oq fun w0 hx0 hO0=>?_;refine hK _ _ ?_; clear hK;generalize hg:w.heap.size=g at hO0;refine q0B fun K0 hK0=>?_;refine Wz ?_;refine q0X ?_;refine q0a (fun e2 w2=>∃ (i:Nat) (o:List Nat),e2 6=.int .i64 i∧i≤n∧Ext w w2∧q12 w2 g (some ⟨g,0,none⟩) (n+n') (n+n') o∧val o=val (l.take i)*val l'∧∀ q,i+n'≤q→o.getD q 0=0) (fun e2 _=>n-(RowKit.intOf (e2 6)).toNat) ⟨0,_,rfl,Nat.zero_le _,hx0,hO0,by simp [val,q1p],fun q _=>by simp [List.getD_eq_getElem?_getD,List.getElem?_replicate]; split <;> rfl⟩ ?_;rintro e1 w1 ⟨i,o,h6,hin,hx,hO,hv,hz⟩ hkk;have h0:e1 0=.slice A n c:=(hkk 0 (by kernel_rfl)).trans rfl;have h1:e1 1=.slice A' n' c':=(hkk 1 (by kernel_rfl)).trans rfl;have h5:e1 5=.slice (some ⟨g,0,none⟩) (n+n') (n+n'):=(hkk 5 (by kernel_rfl)).trans Ue;clear hkk;refine q0B fun K1 hK1=>?_
 by_cases hlt:i < n
 ·have hlt':(i:Int) < n:=by omega
  refine Wz3 h6 h0 hlt' ?_;refine Wt (q0G (hK1 _ _ ?_));clear hK1;refine q0N fun K hK=>?_;refine Wz ?_;have hd1:=h.dg_lt i;obtain ⟨ad,rfl,_⟩:=(h.ext hx).cell hlt;refine q0B fun K1 hK1=>?_;refine Wz ?_;refine q0X ?_;refine q0a (fun e2 w2=>∃ (j cr:Nat) (o:List Nat),e2 8=.int .i64 j∧e2 7=.int .u64 cr∧j≤n'∧cr < 4294967296∧Ext w w2∧q12 w2 g (some ⟨g,0,none⟩) (n+n') (n+n') o∧val o+B ^ (i+j)*cr=val (l.take i)*val l'+B ^ i*(dg l i*val (l'.take j))∧∀ q,i+n'≤q→o.getD q 0=0) (fun e2 _=>n'-(RowKit.intOf (e2 8)).toNat) ⟨0,0,o,rfl,Ue,Nat.zero_le _,by omega,hx,hO,by simp [hv,val],hz⟩ ?_;clear hv hz hO;rintro e2 w2 ⟨j,cr,o,g8,g7,hjn,hcr,hx,hO,hv,hz⟩ hkk;have g0:e2 0=.slice (some ad) n c:=(hkk 0 (by kernel_rfl)).trans Ue;have g1:e2 1=.slice A' n' c':=(hkk 1 (by kernel_rfl)).trans Ue;have g5:e2 5=.slice (some ⟨g,0,none⟩) (n+n') (n+n'):=(hkk 5 (by kernel_rfl)).trans Ue;have g6:e2 6=.int .i64 i:=(hkk 6 (by kernel_rfl)).trans Ue;clear hkk;have hol:o.length=n+n':=by have:=hO.1.len; simpa using this
  refine q0B fun K2 hK2=>?_
  by_cases hjt:j < n'
  ·have hjt':(j:Int) < n':=by omega
   refine Wz3 g8 g1 hjt' ?_;refine Wt (q0G (hK2 _ _ ?_));clear hK2;refine q0N fun K3 hK3=>?_;have hd2:=h'.dg_lt j;obtain ⟨ad2,rfl,hcc2⟩:=(h'.ext hx).cell hjt;obtain ⟨ad1,hq,hcc1⟩:=(h.ext hx).cell hlt;cases hq;obtain ⟨q,hqe⟩:∃ q,q=i+j:=⟨_,rfl⟩;obtain ⟨_,hq,_,hcc3,_⟩:=hO.1.cell (j:=q) (by simp; omega);cases hq;have hcc3':w2.cell? ⟨g,q,none⟩=some (.int .u32 ((o.getD q 0:Nat):Int)):=by
    rw [hcc3]; simp [q7z,show q < o.length by omega]
   have hd3:=hO.2.get q;have hbd:=q81 hcr hd1 hd2 hd3;have hs:IntKind.i64.wrap ((i:Int)+(j:Int))=(q:Int):=by rw [i64_in Oq (by omega)]; omega
   have r1:(0:Int)≤i∧(i:Int) < n:=by omega
   have r2:(0:Int)≤j∧(j:Int) < n':=by omega
   have r3:(0:Int)≤q∧(q:Int) < (n+n':Nat):=by omega
   have m1:cr+dg l i*dg l' j < 18446744073709551616:=by unfold dg; unfold dg at hbd; omega
   have m0:dg l i*dg l' j < 18446744073709551616:=by omega
   have m2:cr+dg l i*dg l' j+o.getD q 0 < 18446744073709551616:=hbd.1;refine q0B fun K4 hK4=>?_;refine qcw q0l [true,true,true,true,true,true,true,true,true,true,true,true,true,true,true,true,true,true,true,true,true,true] (by kernel_rfl) fun KE hKE=>?_;simp -implicitDefEqProofs (maxSteps:=600000) (disch:=omega) only [go_sem,Nat.reduceEqDiff,Nat.reduceAdd,↓reduceIte,g7,g0,g6,g1,g8,g5,r1,r2,r3,hs,hcc1,hcc2,hcc3',qec m0,q8y m1,q8y m2];refine hKE _ fun w3 hx3=>?_; clear hKE KE;refine hK4 _ _ ?_; clear hK4;refine q0A fun K hK=>?_;refine Zz5 g5 g6 g8 r3 hs ?_;have hO3:q12 w3 g (some ⟨g,0,none⟩) (n+n') (n+n') o:=⟨hO.1.ext hx3,hO.2⟩;have hxx:=hx.trans hx3;refine q1q hO3 Oq (Nat.mod_lt _ Oq) fun w4 hO4 hk4 hs4=>?_;refine hK _ _ ?_; clear hK;refine q0Q fun K9 hK9=>?_;refine Zz ?_;refine hK9 _ _ ?_; clear hK9 K9;refine hK3 _ _ ?_; clear hK3;refine q0Q fun K9 hK9=>?_;refine Zz2 g8 @i64_in ?_;refine hK9 _ _ ?_; clear hK9 K9;have hv':val o+B ^ q*cr=val (l.take i)*val l'+B ^ i*(dg l i*val (l'.take j)):=by rw [hqe]; exact hv
   have key:=qat (x:=dg l i) (y:=dg l' j) (by omega:q < o.length) hv';refine ⟨⟨j+1,_,_,rfl,rfl,by omega,?_,by subst hg; exact hO3.1.under hxx hk4,hO4,?_,?_⟩,?_⟩
   ·omega
   ·rw [← Nat.add_assoc,← hqe,key,vts,hqe,Nat.pow_add,Nat.mul_add,Nat.mul_add];unfold dg;rw [Nat.add_assoc]
    congr 2
    rw [Nat.mul_assoc,Nat.mul_left_comm (B ^ j)]
   ·intro q' hq';rw [q0v (by omega)]; exact hz q' hq'
   ·simp only [q0E,↓reduceIte,RowKit.intOf,g8]; omega
  ·have hjt':¬ (j:Int) < n':=by omega
   refine Wz3 g8 g1 hjt' ?_;refine Wf (q04 (hK1 _ _ ?_));clear hK1 hK2;obtain rfl:j=n':=by omega
   have hs:IntKind.i64.wrap ((i:Int)+(j:Int))=((i+j:Nat):Int):=i64_in Oq Oq;have r3:(0:Int)≤(i+j:Nat)∧((i+j:Nat):Int) < (n+j:Nat):=by omega
   refine q0Q fun K9 hK9=>?_;refine Zz6 g5 g6 g1 g7 hs r3 ?_;refine q1q hO Oq (Nat.mod_lt _ Oq) fun w4 hO4 hk4 hs4=>?_;refine hK9 _ _ ?_; clear hK9 K9;refine hK _ _ ?_; clear hK;refine q0Q fun K9 hK9=>?_;refine Zz2 g6 @i64_in ?_;refine hK9 _ _ ?_; clear hK9 K9;refine ⟨⟨i+1,_,rfl,by omega,by subst hg; exact hO.1.under hx hk4,hO4,?_,?_⟩,?_⟩
   ·have h1:=q3q (o:=o) (p:=i+j) (cr % 4294967296) Oq;rw [hz (i+j) Oq,Nat.mul_zero,Nat.add_zero,Nat.mod_eq_of_lt hcr] at h1;rw [Nat.mod_eq_of_lt hcr,h1,hv,vts,q0K l' _ Oq,Nat.add_mul,Nat.mul_assoc]
    rfl
   ·intro q' hq';rw [q0v (by omega)]; exact hz q' Oq
   ·simp only [q0E,↓reduceIte,RowKit.intOf,h6]; omega
 ·have hlt':¬ (i:Int) < n:=by omega
  refine Wz3 h6 h0 hlt' ?_;refine Wf (q04 ?_);obtain rfl:i=n:=by omega
  refine hK0 _ _ ?_; clear hK0 hK1;refine Wz1 h5 ?_;rw [q0K l _ (by omega)] at hv;subst hg;refine q0O ?_
  try simp only [q0D,q0S]
  refine q1S rfl ⟨_,_,o,rfl,hx,hO,hv⟩
def qdj (s s':Bool) (a b:Nat):sgn s a*sgn s' b=sgn (s != s') (a*b):=by
 cases s <;> cases s' <;> simp [sgn,Int.neg_mul,Int.mul_neg]
def qnG {D:Nat→Prop} {A A':Option Addr} {n c n' c':Nat} {l l':List Nat} {s s':Bool} {w:World} (h:U32 w D A n c l) (h':U32 w D A' n' c' l') (hb:n≤400000000) (hb':n'≤400000000) (hf:Fr D w) :
  Calls Tryz.prog 233 #[.agg #[.bool s,.slice A n c],.agg #[.bool s',.slice A' n' c']] w fun e w'=>∃ s9 A9 n9 c9,e=.returned (.agg #[.bool s9,.slice A9 n9 c9])∧Ext w w'∧Big w' D s9 A9 n9 c9 (sgn s (val l)*sgn s' (val l')):=by
 refine q0J Tryz.func233 rfl Tryz.ntmps233 (by kernel_rfl) ?_;refine q0A fun K hK=>?_;refine Zz ?_;refine q01 ?_;intro g1 w1 hg1 hx1 hb1 hs1;refine q01 ?_;intro g2 w2 hg2 hx2 hb2 hs2;refine q0r ?_;intro g3 w3 hg3 hx3 hb3 hs3;refine hK _ _ ?_; clear hK;replace hb1:=(hb1.ext hx2).ext hx3;replace hb2:=hb2.ext hx3;have hxx:=(hx1.trans hx2).trans hx3;replace h:=h.ext hxx;replace h':=h'.ext hxx;have hc0:w3.cell? ⟨g1,0,none⟩=some (.bool s):=hb1.cell 0;have hc1:w3.cell? ⟨g1,1,none⟩=some (.slice A n c):=hb1.cell 1;have hc0':w3.cell? ⟨g2,0,none⟩=some (.bool s'):=hb2.cell 0;have hc1':w3.cell? ⟨g2,1,none⟩=some (.slice A' n' c'):=hb2.cell 1;have hD:Fr (Dx D w.heap.size w3.heap.size) w3:=Dx.fr (hf.kp hxx) (Nat.le_refl _);refine q0B fun K hK=>?_;refine qmE true q0l (Kp.pre (fun _=>True)) (fun _ _ _ h=>h) [true,true,true,true,true,true,true,false,true,true,false,false,false,false] [(12,isV (Dx D w.heap.size w3.heap.size) 400000000 (val l)),(15,isV (Dx D w.heap.size w3.heap.size) 400000000 (val l')),(16,isV (Dx D w.heap.size w3.heap.size) 800000000 (val l*val l')),(17,isB (Dx D w.heap.size w3.heap.size) (sgn s (val l)*sgn s' (val l')))] (by kernel_rfl) fun KE hKE=>?_;refine Zz4 hc0 hc1 hc0' hc1' ?_;refine hKE _ ⟨?_,fun e' w' hw hs ho=>?_⟩ <;> clear hKE KE
 ·refine q0Z (fun e' w' hw hd ho=>?_) ?_
  ·skip
   have o11:=ho 11 (by kernel_rfl) (by kernel_rfl);simp -implicitDefEqProofs (disch:=omega) only [go_sem,Nat.reduceEqDiff,Nat.reduceAdd,↓reduceIte,o11];refine q0F q3B (q18 (h.ext hw) Oq) ?_;rintro _ w4 ⟨A4,n4,c4,rfl,hx4,hO4⟩; refine ⟨_,rfl,?_⟩;have h1:=hO4.1.len;have h2:=q24 h;exact ⟨hx4,fun d hd=>by cases hd; exact ⟨_,_,_,_,rfl,hO4.u32 fun k hk=>hD k (by have:=hw.size; omega),q0I _,by simp at h1; omega⟩⟩
  refine q0Z (fun e' w' hw hd ho=>?_) ?_
  ·skip
   have o14:=ho 14 (by kernel_rfl) (by kernel_rfl);simp -implicitDefEqProofs (disch:=omega) only [go_sem,Nat.reduceEqDiff,Nat.reduceAdd,↓reduceIte,o14];refine q0F q3B (q18 (h'.ext hw) Oq) ?_;rintro _ w4 ⟨A4,n4,c4,rfl,hx4,hO4⟩; refine ⟨_,rfl,?_⟩;have h1:=hO4.1.len;have h2:=q24 h';exact ⟨hx4,fun d hd=>by cases hd; exact ⟨_,_,_,_,rfl,hO4.u32 fun k hk=>hD k (by have:=hw.size; omega),q0I _,by simp at h1; omega⟩⟩
  refine q0Z (fun e' w' hw hd ho=>?_) ?_
  ·skip
   have h12:=hd 12 (by kernel_rfl) (by kernel_rfl);have h15:=hd 15 (by kernel_rfl) (by kernel_rfl);obtain ⟨A4,n4,c4,l4,h12,hU4,hv4,hn4⟩:=h12;obtain ⟨A5,n5,c5,l5,h15,hU5,hv5,hn5⟩:=h15;refine Zz2 h12 h15 ?_;refine q0F ql8 (qeb hU4 hU5 hn4 hn5) ?_;rintro _ w6 ⟨A6,c6,l6,rfl,hx6,hO6,hv6⟩; refine ⟨_,rfl,?_⟩;exact ⟨hx6,fun d hd=>by cases hd; exact ⟨_,_,_,_,rfl,hO6.u32 fun k hk=>hD k (by have:=hw.size; omega),by rw [hv6,hv4,hv5],by omega⟩⟩
  refine q0Z (fun e' w' hw hd ho=>?_) ?_
  ·skip
   have o9:=ho 9 (by kernel_rfl) (by kernel_rfl);have h16:=hd 16 (by kernel_rfl) (by kernel_rfl);obtain ⟨A6,n6,c6,l6,h16,hU6,hv6,hn6⟩:=h16;simp -implicitDefEqProofs (disch:=omega) only [go_sem,Nat.reduceEqDiff,Nat.reduceAdd,↓reduceIte,h16,o9];refine q0F q3C (q1a hU6 Oq (hD.kp hw)) ?_;rintro _ w7 ⟨s7,A7,n7,c7,rfl,hx7,hB⟩; refine ⟨_,rfl,?_⟩;rw [hv6] at hB;exact ⟨hx7,fun d hd=>by cases hd; exact ⟨_,_,_,_,rfl,by rw [qdj]; exact hB⟩⟩
  exact q1W
 ·have o4:=ho 4 (by kernel_rfl);have h17:=hs 17 (by kernel_rfl);obtain ⟨s7,A7,n7,c7,h17,hB⟩:=h17;have o4:e' 4=.pointer (some ⟨g3,0,none⟩):=(ho 4 (by kernel_rfl)).trans Ue;clear hs ho;simp -implicitDefEqProofs (disch:=omega) only [go_sem,Nat.reduceEqDiff,Nat.reduceAdd,↓reduceIte,h17,o4];replace hb3:=hb3.ext hw;have hx:=hxx.trans hw;refine q00 hb3 q0s rfl rfl fun w9 hk9 hb9=>?_;refine hK _ _ ?_; clear hK;refine q0O ?_
  try simp only [q0D,q0S]
  exact (q3D rfl (q0p (by first | exact rfl | assumption) q1Z hb9 rfl) ⟨_,_,_,_,rfl,(hx).under hk9 (fun k hk=>by omega),(hB.kp (hk9.mono fun k _ h=>Dx.ne h Oq Oq)).sub fun k _ h=>h.1⟩)
end Go.Proofs.YtbcmhlhgljoolaaGreatDoor
namespace Go.E
open Go
def qbu {P:Program} {d:Option Nat} {t ty:TypeId} {x i:Operand} {pos:String} {af:Array Edge} {g:Option (Nat × Bool)} {e:Env} {w:World} {K:Value→World→Prop} {s:ByteArray} {k:IntKind} {n:Nat}
  (ht:P.underlying t=some .string) (hx:ev e x=.string s) (hi:ev e i=.int k n) (hn:n < s.size) (hK:K (.int .u8 s[n].toNat) w):wo P ⟨d,.index t x i,ty,pos,af,g⟩ e w K:=by
 show WO P ⟨d,.index t x i,ty,pos,af,g⟩ e w K
 unfold WO;have:(execOp (ev e) ⟨d,.index t x i,ty,pos,af,g⟩).run P w=(.ok (.value (.int .u8 s[n].toNat)) w):=by
  simp only [execOp,hx,hi];simp [go_sem,run_index_string,ht,hn]
 rw [this];exact hK
end Go.E
namespace Go.Proofs.YtbcmhlhgljoolaaGreatDoor
open Go Go.E Go.Sp
def qqS:ByteArray:=⟨(((List.range 256).map fun i=>UInt8.ofNat (bl i))).toArray⟩
def q86:qqS.size=256:=by kernel_rfl
def qi1:((List.range 256).all fun i=>Nat.beq ((qqS.data.toList.getD i 0).toNat) (bl i))=true:=by kernel_rfl
def qi0 {y:Nat} (h:y < qqS.size):qqS[y].toNat=bl y:=by
 have h1:=qi1;rw [List.all_eq_true] at h1;have h2:=Nat.eq_of_beq_eq_true (h1 y (List.mem_range.2 (by rw [q86] at h; exact h)));rw [← h2]
 congr 1
 have:y < qqS.data.toList.length:=by simpa using h
 rw [List.getD_eq_getElem?_getD,List.getElem?_eq_getElem this];simp
 rfl
def q74 {x:Nat} {w:World} (hx:x < 4294967296) :
  Calls Tryz.prog 220 #[.int .u32 x] w fun e w'=>e=.returned (.int .i64 (bl x:Nat))∧w=w':=by
 refine q0J Tryz.func220 rfl Tryz.ntmps220 (by kernel_rfl) ?_;refine Wz ?_;refine q0B fun K1 hK1=>?_;have st1:∀ (e1:Env) (a y:Nat),y < 65536→a+bl y=bl x→a≤16→e1 0=.int .u32 y→e1 2=.int .i64 a→K1 e1 w:=by
  intro e1 a y hy hab ha h0 h2;refine hK1 _ _ ?_; clear hK1;refine q0B fun K1 hK1=>?_;have st2:∀ (e1:Env) (a y:Nat),y < 256→a+bl y=bl x→a≤24→e1 0=.int .u32 y→e1 2=.int .i64 a→K1 e1 w:=by
   intro e1 a y hy hab ha h0 h2;refine hK1 _ _ ?_; clear hK1;have hw:IntKind.u8.wrap (y:Int)=(y:Int):=u8_in Oq Oq;refine q0A fun K hK=>?_
   set_option maxRecDepth 4000 in
   refine Zz3 h0 h2 hw ?_;refine qbu (s:=qqS) (by kernel_rfl) (by kernel_rfl) rfl (by rw [q86]; exact hy) ?_;rw [qi0];have hby:bl y≤8:=q0T Oq;have hs:IntKind.i64.wrap ((a:Int)+(bl y:Int))=(bl x:Int):=by rw [i64_in Oq (by omega)]; omega
   simp -implicitDefEqProofs (disch:=omega) only [go_sem,Nat.reduceEqDiff,Nat.reduceAdd,↓reduceIte,i64N,hs];refine hK _ _ ?_; clear hK;refine q0O ?_
   try simp only [q0D,q0S]
   refine q1S rfl ⟨rfl,rfl⟩
  by_cases hb:256≤y
  ·have hb':((y:Int) ≥ 256):=by omega
   refine Wz2 h0 hb' ?_;refine Wt ?_;refine Wz1 h0 ?_;refine q0Q fun K9 hK9=>?_;refine Zz2 h2 @i64_in ?_;refine hK9 _ _ ?_; clear hK9 K9;have h8:bl y=8+bl (y / 256):=qbd (n:=y) (k:=8) hb;exact st2 _ (a+8) (y / 256) Oq Oq Oq Ue Ue
  ·have hb':¬ ((y:Int) ≥ 256):=by omega
   refine Wz2 h0 hb' ?_;refine Wf (q0G ?_);exact st2 _ a y Oq hab Oq Ue Ue
 by_cases hb:65536≤x
 ·have hb':((x:Int) ≥ 65536):=by omega
  refine Wz1 hb' ?_;refine Wt ?_;refine Wz ?_;refine q0Q fun K9 hK9=>?_;refine Zz ?_;refine hK9 _ _ ?_; clear hK9 K9;have h8:bl x=16+bl (x / 65536):=qbd (n:=x) (k:=16) hb;exact st1 _ 16 (x / 65536) Oq Oq Oq Ue Ue
 ·have hb':¬ ((x:Int) ≥ 65536):=by omega
  refine Wz1 hb' ?_;refine Wf (q0G ?_);exact st1 _ 0 x Oq Oq Oq Ue Ue
def qcN {D:Nat→Prop} {A:Option Addr} {n c:Nat} {l:List Nat} {s:Bool} {w:World} (h:U32 w D A n c l) (hb:n≤900000000) :
  Calls Tryz.prog 155 #[.agg #[.bool s,.slice A n c]] w fun e w'=>e=.returned (.int .i64 (bl (val l):Nat))∧Ext w w':=by
 refine q0J Tryz.func155 rfl Tryz.ntmps155 (by kernel_rfl) ?_;refine q0A fun K hK=>?_;refine Zz ?_;refine q01 ?_;intro g1 w1 hg1 hx1 hb1 hs1;refine hK _ _ ?_; clear hK;have hc1:w1.cell? ⟨g1,1,none⟩=some (.slice A n c):=hb1.cell 1;refine q0A fun K hK=>?_;refine Zz1 hc1 ?_;refine q0F q3B (q18 (h.ext hx1) Oq) ?_;rintro _ w2 ⟨A2,n2,c2,rfl,hx2,hO⟩; refine ⟨_,rfl,?_⟩;refine hK _ _ ?_; clear hK;have hx:=hx1.trans hx2;have hU:U32 w2 (fun _=>True) A2 n2 c2 (lim (val l)):=hO.u32 fun _ _=>trivial;have hlen:=hU.len;have hn2:n2≤900000000:=by have h2:=q24 h; omega
 have hpos:=@q0R (val l);refine q0B fun K1 hK1=>?_;refine Wz ?_
 by_cases hz:n2=0
 ·have hz':((n2:Int) == 0)=true:=by simp [hz]
  refine q02 rfl (fun hc=>?_) (fun hc=>by rw [hz'] at hc; cases hc);refine Wz ?_;have h0:val l=0:=by omega
  refine q0O ?_
  try simp only [q0D,q0S]
  refine q1S rfl ⟨by rw [h0]; rfl,hx⟩
 ·have hz':((n2:Int) == 0)=false:=by simp [hz]
  refine q02 rfl (fun hc=>by rw [hz'] at hc; cases hc) (fun hc=>q0G (hK1 _ _ ?_));have hs1:IntKind.i64.wrap ((n2:Int)-1)=((n2-1:Nat):Int):=by rw [i64_in Oq (by omega)]; omega
  have hs2:IntKind.i64.wrap (32*((n2-1:Nat):Int))=((32*(n2-1):Nat):Int):=by rw [i64_in Oq (by omega)]; omega
  obtain ⟨ad,rfl,hcc⟩:=hU.cell (j:=n2-1) Oq;have r1:(0:Int)≤(n2-1:Nat)∧((n2-1:Nat):Int) < n2:=by omega
  refine q0A fun K hK=>?_;refine Zz4 hs1 hs2 r1 hcc ?_;refine q0F qb7 (q74 (hU.dg_lt _)) ?_;rintro _ w3 ⟨rfl,rfl⟩; refine ⟨_,rfl,?_⟩;have hbl:=q6t (n:=val l) Oq;rw [hlen] at hbl;have hb2:bl (dg (lim (val l)) (n2-1))≤32:=q0T (hU.dg_lt _);have hs3:IntKind.i64.wrap (((32*(n2-1):Nat):Int)+((bl (dg (lim (val l)) (n2-1)):Nat):Int))=((bl (val l):Nat):Int):=by
   unfold dg at *;rw [i64_in Oq (by omega)]; omega
  refine Zz1 hs3 ?_;refine hK _ _ ?_; clear hK;refine q0O ?_
  try simp only [q0D,q0S]
  refine q1S rfl ⟨rfl,hx⟩
def qeI {D:Nat→Prop} {A A':Option Addr} {n c n' c':Nat} {l l':List Nat} {s s':Bool} {w:World} (h:U32 w D A n c l) (h':U32 w D A' n' c' l') (hb:n≤900000000) (hb':n'≤900000000) (hf:Fr D w) :
  Calls Tryz.prog 219 #[.agg #[.bool s,.slice A n c],.agg #[.bool s',.slice A' n' c']] w fun e w'=>∃ s9 A9 n9 c9,e=.returned (.agg #[.bool s9,.slice A9 n9 c9])∧Ext w w'∧Big w' D s9 A9 n9 c9 (sgn s (val l)-sgn s' (val l')):=by
 refine q0J Tryz.func219 rfl Tryz.ntmps219 (by kernel_rfl) ?_;refine q0A fun K hK=>?_;refine Zz ?_;refine q01 ?_;intro g1 w1 hg1 hx1 hb1 hs1;refine q01 ?_;intro g2 w2 hg2 hx2 hb2 hs2;refine q0r ?_;intro g3 w3 hg3 hx3 hb3 hs3;refine hK _ _ ?_; clear hK;replace hb1:=(hb1.ext hx2).ext hx3;replace hb2:=hb2.ext hx3;have hxx:=(hx1.trans hx2).trans hx3;replace h:=(h.sub (Dx.keep (a:=w.heap.size) (b:=w3.heap.size) rfl)).ext hxx;replace h':=(h'.sub (Dx.keep (a:=w.heap.size) (b:=w3.heap.size) rfl)).ext hxx;have hr1:ldV w3 (some (some 2)) (.pointer (some ⟨g1,0,none⟩))=some (.agg #[.bool s,.slice A n c]):=q25 hb1 rfl;have hr2:ldV w3 (some (some 2)) (.pointer (some ⟨g2,0,none⟩))=some (.agg #[.bool s',.slice A' n' c']):=q25 hb2 rfl;have hD:Fr (Dx D w.heap.size w3.heap.size) w3:=Dx.fr (hf.kp hxx) (Nat.le_refl _);refine q0B fun K hK=>?_;refine qmE true q0l (Kp.pre (fun _=>True)) (fun _ _ _ h=>h) [true,true,false,false,false] [(7,isB (Dx D w.heap.size w3.heap.size) (- sgn s' (val l'))),(8,isB (Dx D w.heap.size w3.heap.size) (sgn s (val l)-sgn s' (val l')))] (by kernel_rfl) fun KE hKE=>?_;refine Zz2 hr1 hr2 ?_;refine hKE _ ⟨?_,fun e' w' hw hs ho=>?_⟩ <;> clear hKE KE
 ·refine q0Z (fun e' w' hw hd ho=>?_) ?_
  ·skip
   have o6:=ho 6 (by kernel_rfl) (by kernel_rfl);simp -implicitDefEqProofs (disch:=omega) only [go_sem,Nat.reduceEqDiff,Nat.reduceAdd,↓reduceIte,o6];refine q0F qg0 (qeP (h'.ext hw) Oq (hD.kp hw)) ?_;rintro _ w4 ⟨s4,A4,n4,c4,rfl,hx4,hB4⟩; refine ⟨_,rfl,?_⟩;exact ⟨hx4,fun d hd=>by cases hd; exact ⟨_,_,_,_,rfl,by rw [show-sgn s' (val l')=sgn (!s') (val l') by cases s' <;> simp [sgn]]; exact hB4⟩⟩
  refine q0Z (fun e' w' hw hd ho=>?_) ?_
  ·skip
   have o5:=ho 5 (by kernel_rfl) (by kernel_rfl);have h7:=hd 7 (by kernel_rfl) (by kernel_rfl);obtain ⟨s4,A4,n4,c4,h7,hB4⟩:=h7;have hn4:n4≤900000000:=by
    have h1:=hB4.len;rw [show (- sgn s' (val l')).natAbs=val l' by rw [Int.natAbs_neg,q1R]] at h1;have h2:=q24 h'; omega
   simp -implicitDefEqProofs (disch:=omega) only [go_sem,Nat.reduceEqDiff,Nat.reduceAdd,↓reduceIte,h7,o5];refine q0F qg3 (qeT (h.ext hw) hB4.2 Oq hn4 (hD.kp hw)) ?_;rintro _ w4 ⟨s5,A5,n5,c5,rfl,hx5,hB5⟩; refine ⟨_,rfl,?_⟩;rw [q0I,hB4.sgn,← Int.sub_eq_add_neg] at hB5;exact ⟨hx5,fun d hd=>by cases hd; exact ⟨_,_,_,_,rfl,hB5⟩⟩
  exact q1W
 ·have o4:=ho 4 (by kernel_rfl);have h8:=hs 8 (by kernel_rfl);obtain ⟨s7,A7,n7,c7,h8,hB⟩:=h8;have o4:e' 4=.pointer (some ⟨g3,0,none⟩):=(ho 4 (by kernel_rfl)).trans Ue;clear hs ho;simp -implicitDefEqProofs (disch:=omega) only [go_sem,Nat.reduceEqDiff,Nat.reduceAdd,↓reduceIte,h8,o4];replace hb3:=hb3.ext hw;have hx:=hxx.trans hw;refine q00 hb3 q0s rfl rfl fun w9 hk9 hb9=>?_;refine hK _ _ ?_; clear hK;refine q0O ?_
  try simp only [q0D,q0S]
  exact (q3D rfl (q0p (by first | exact rfl | assumption) q1Z hb9 rfl) ⟨_,_,_,_,rfl,(hx).under hk9 (fun k hk=>by omega),(hB.kp (hk9.mono fun k _ h=>Dx.ne h Oq Oq)).sub fun k _ h=>h.1⟩)
def qiD {D:Nat→Prop} {A:Option Addr} {n c m:Nat} {l:List Nat} {s:Bool} {w:World} (h:U32 w D A n c l) (hb:n≤900000000) (hm:m≤1000000000000) (hf:Fr D w) :
  Calls Tryz.prog 251 #[.agg #[.bool s,.slice A n c],.int .i64 m] w fun e w'=>e=.returned (.bool (decide (val l % 2 ^ m≠0)))∧Ext w w':=by
 refine q0J Tryz.func251 rfl Tryz.ntmps251 (by kernel_rfl) ?_;refine q0A fun K hK=>?_;refine Zz ?_;refine q01 ?_;intro g1 w1 hg1 hx1 hb1 hs1;refine hK _ _ ?_; clear hK;have hc1:w1.cell? ⟨g1,1,none⟩=some (.slice A n c):=hb1.cell 1;refine q0A fun K hK=>?_;refine Zz1 hc1 ?_;refine q0F q3B (q18 (h.ext hx1) Oq) ?_;rintro _ w2 ⟨A2,n2,c2,rfl,hx2,hO⟩; refine ⟨_,rfl,?_⟩;have hU:U32 w2 (fun k=>w1.heap.size≤k) A2 n2 c2 (lim (val l)):=hO.u32 fun _ h=>h;have hn2:n2≤900000000:=by have h1:=hU.len; have h2:=q24 h; omega
 refine q0F qb8 (qdf hU Oq hm) ?_;rintro _ w3 ⟨A3,n3,c3,l3,rfl,hx3,_,_,_⟩; refine ⟨_,rfl,?_⟩;refine Zz ?_;refine hK _ _ ?_; clear hK;refine Wz ?_;refine q0O ?_
 try simp only [q0D,q0S]
 refine q1S rfl ⟨by simp only [q0I,q0E,Nat.reduceEqDiff,↓reduceIte],(hx1.trans hx2).trans hx3⟩
def qeK {D:Nat→Prop} {A:Option Addr} {n c:Nat} {l:List Nat} {s:Bool} {m:Int} {w:World} (h:U32 w D A n c l) (hb:n≤800000000) (h1m : -1000000000≤m) (h2m:m≤1000000000) (hf:Fr D w) :
  Calls Tryz.prog 154 #[.agg #[.bool s,.slice A n c],.int .i64 m] w fun e w'=>∃ s9 A9 n9 c9,e=.returned (.agg #[.bool s9,.slice A9 n9 c9])∧Ext w w'∧Big w' D s9 A9 n9 c9 (shI (sgn s (val l)) m):=by
 refine q0J Tryz.func154 rfl Tryz.ntmps154 (by kernel_rfl) ?_;refine q0A fun K hK=>?_;refine Zz ?_;refine q01 ?_;intro g1 w1 hg1 hx1 hb1 hs1;refine q0r ?_;intro g2 w2 hg2 hx2 hb2 hs2;refine hK _ _ ?_; clear hK;replace hb1:=hb1.ext hx2;have hr:ldV w2 (some (some 2)) (.pointer (some ⟨g1,0,none⟩))=some (.agg #[.bool s,.slice A n c]):=q25 hb1 rfl;have hD:Fr (Dx D w.heap.size w2.heap.size) w2:=Dx.fr ((hf.kp hx1).kp hx2) (Nat.le_refl _);refine q0A fun K hK=>?_;refine Zz1 hr ?_;refine q0F q6s (q55 (((h.sub (Dx.keep rfl)).ext hx1).ext hx2) Oq hD) ?_;rintro _ w3 ⟨s3,A3,n3,c3,rfl,hx3,hB⟩; refine ⟨_,rfl,?_⟩;replace hb1:=hb1.ext hx3;replace hb2:=hb2.ext hx3;refine q00 hb1 q0s rfl rfl fun w4 hk4 hb4=>?_;refine hK _ _ ?_; clear hK;have hx4:Ext w w4:=((hx1.trans hx2).trans hx3).under hk4 (fun k hk=>by omega);have hsz2:=hx3.size;have hsz4:=hk4.size;have hB:Big w4 (Dx D w.heap.size w2.heap.size) s3 A3 n3 c3 (sgn s (val l)):=(hB.kp (hk4.mono fun k _ h=>Dx.ne h Oq Oq));replace hb2:Blk w4 g2 72 _:=hb2.kpne hk4 Oq;have hc0:∀ w',Ext w4 w'→w'.cell? ⟨g1,0,none⟩=some (.bool s3):=fun w' hw=>(hb4.ext hw).cell 0;have hc1:∀ w',Ext w4 w'→w'.cell? ⟨g1,1,none⟩=some (.slice A3 n3 c3):=fun w' hw=>(hb4.ext hw).cell 1;replace hD:=(hD.kp hx3).kp hk4;have hn3:n3≤800000000:=by
  have h1:=hB.len;rw [q1R] at h1;have h2:=q24 h; omega
 have hvn:val (lim (sgn s (val l)).natAbs)=val l:=by rw [q0I,q1R]
 have hsg:sgn s3 (val l)=sgn s (val l):=by
  have:=hB.sgn; rw [q1R] at this; exact this
 refine q0B fun K1 hK1=>?_
 by_cases hm:m ≥ 0
 ·refine Wz1 hm ?_;refine Wt ?_;obtain ⟨k,rfl⟩:∃ k:Nat,m=k:=⟨m.toNat,by omega⟩;refine q0B fun K hK=>?_;refine qmE true q0l (Kp.pre (fun _=>True)) (fun _ _ _ h=>h) [true,true,true,true,true,false,false,false] [(17,isV (Dx D w.heap.size w2.heap.size) 900000000 (2 ^ k*val l)),(18,isB (Dx D w.heap.size w2.heap.size) (shI (sgn s (val l)) k))] (by kernel_rfl) fun KE hKE=>?_;simp -implicitDefEqProofs (disch:=omega) only [go_sem,Nat.reduceEqDiff,Nat.reduceAdd,↓reduceIte,hc0 _ (Kp.refl _ _),hc1 _ (Kp.refl _ _)];refine hKE _ ⟨?_,fun e' w' hw hs ho=>?_⟩ <;> clear hKE KE
  ·refine q0Z (fun e' w' hw hd ho=>?_) ?_
   ·skip
    have o15:=ho 15 (by kernel_rfl) (by kernel_rfl);have o16:=ho 16 (by kernel_rfl) (by kernel_rfl);simp -implicitDefEqProofs (disch:=omega) only [go_sem,Nat.reduceEqDiff,Nat.reduceAdd,↓reduceIte,o15,o16];refine q0F qb9 (qdg (hB.2.ext hw) Oq Oq) ?_;rintro _ w5 ⟨A6,n6,c6,l6,rfl,hx5,hO6,hv6,hn6⟩; refine ⟨_,rfl,?_⟩;exact ⟨hx5,fun d hd=>by cases hd; exact ⟨_,_,_,_,rfl,hO6.u32 fun k hk=>hD k (by have:=hw.size; omega),by rw [hv6,hvn],by omega⟩⟩
   refine q0Z (fun e' w' hw hd ho=>?_) ?_
   ·skip
    have o13:=ho 13 (by kernel_rfl) (by kernel_rfl);have h17:=hd 17 (by kernel_rfl) (by kernel_rfl);obtain ⟨A6,n6,c6,l6,h17,hU6,hv6,hn6⟩:=h17;simp -implicitDefEqProofs (disch:=omega) only [go_sem,Nat.reduceEqDiff,Nat.reduceAdd,↓reduceIte,h17,o13];refine q0F q3C (q1a hU6 Oq (hD.kp hw)) ?_;rintro _ w5 ⟨s7,A7,n7,c7,rfl,hx5,hB⟩; refine ⟨_,rfl,?_⟩;rw [hv6] at hB;exact ⟨hx5,fun d hd=>by cases hd; exact ⟨_,_,_,_,rfl,by
     rw [show shI (sgn s (val l)) k=sgn s3 (2 ^ k*val l) by
      rw [← hsg]; unfold shI;rw [if_pos Oq,Int.toNat_natCast,Nat.mul_comm];cases s3 <;> simp [sgn,Int.neg_mul]]
     exact hB⟩⟩
   exact q1W
  ·have o4:=ho 4 (by kernel_rfl);have h18:=hs 18 (by kernel_rfl);obtain ⟨s7,A7,n7,c7,h18,hB⟩:=h18;have o4:e' 4=.pointer (some ⟨g2,0,none⟩):=(ho 4 (by kernel_rfl)).trans Ue;clear hs ho;simp -implicitDefEqProofs (disch:=omega) only [go_sem,Nat.reduceEqDiff,Nat.reduceAdd,↓reduceIte,h18,o4];replace hb2:=hb2.ext hw;have hx:=hx4.trans hw;have hsw:=hw.size;refine q00 hb2 q0s rfl rfl fun w9 hk9 hb9=>?_;refine hK _ _ ?_; clear hK;refine q0O ?_
   try simp only [q0D,q0S]
   exact (q3D rfl (q0p (by first | exact rfl | assumption) q1Z hb9 rfl) ⟨_,_,_,_,rfl,(hx).under hk9 (fun k hk=>by omega),(hB.kp (hk9.mono fun k _ h=>Dx.ne h Oq Oq)).sub fun k _ h=>h.1⟩)
 ·have hm':¬ m ≥ 0:=hm;refine Wz1 hm' ?_;refine Wf (q0G (hK1 _ _ ?_));clear hK1;obtain ⟨k,rfl⟩:∃ k:Nat,m = -(k:Int):=⟨(-m).toNat,by omega⟩;have hneg:IntKind.i64.wrap (0 - -(k:Int))=k:=by rw [i64_in Oq (by omega)]; omega
  refine q0A fun K hK=>?_;simp -implicitDefEqProofs (disch:=omega) only [go_sem,Nat.reduceEqDiff,Nat.reduceAdd,↓reduceIte,hc1 _ (Kp.refl _ _),hneg];refine q0F qb8 (qdf hB.2 Oq Oq) ?_;rintro _ w5 ⟨A5,n5,c5,l5,rfl,hx5,hO5,hv5,hn5⟩; refine ⟨_,rfl,?_⟩;refine Zz ?_;refine hK _ _ ?_; clear hK;rw [hvn] at hv5;have hU5:U32 w5 (Dx D w.heap.size w2.heap.size) A5 n5 c5 l5:=hO5.u32 fun k hk=>hD k hk;refine q0A fun K hK=>?_;simp -implicitDefEqProofs (disch:=omega) only [go_sem,Nat.reduceEqDiff,Nat.reduceAdd,↓reduceIte,hc0 _ hx5];refine q0F q3C (q1a hU5 Oq (hD.kp hx5)) ?_;rintro _ w6 ⟨s6,A6,n6,c6,rfl,hx6,hB6⟩; refine ⟨_,rfl,?_⟩;refine q0r ?_;intro g7 w7 hg7 hx7 hb7 hs7;refine q00 hb7 q0s rfl rfl fun w8 hk8 hb8=>?_;refine hK _ _ ?_; clear hK;rw [hv5] at hB6;have hs5:=hx5.size;have hs6:=hx6.size;have hxx:Ext w4 w8:=((hx5.trans hx6).trans hx7).under hk8 (fun k hk=>by omega);have hB8:Big w8 (Dx (Dx D w.heap.size w2.heap.size) w6.heap.size w7.heap.size) s6 A6 n6 c6 (sgn s3 (val l / 2 ^ k)):=((hB6.sub (Dx.keep (a:=w6.heap.size) (b:=w7.heap.size) rfl)).ext hx7).kp (hk8.mono fun k _ h=>Dx.ne h Oq Oq);replace hb2:=hb2.ext hxx;have hx8:=hx4.trans hxx;replace hD:=hD.kp hxx;have hn6:n6≤800000000:=by
   have h1:=hB8.len;rw [q1R] at h1;have h2:=q24 h;have h3:=q2t (Nat.div_le_self (val l) (2 ^ k)); omega
  have hsz8:=hk8.size;refine q0B fun K1 hK1=>?_;have fin:∀ (e1:Env) (w9:World) (s9:Bool) (A9:Option Addr) (n9 c9:Nat),e1 7=.pointer (some ⟨g7,0,none⟩)→e1 4=.pointer (some ⟨g2,0,none⟩)→Blk w9 g7 72 #[.bool s9,.slice A9 n9 c9]→Blk w9 g2 72 #[.bool false,.slice none 0 0]→Ext w w9→w8.heap.size≤w9.heap.size→Big w9 (Dx D w.heap.size w2.heap.size) s9 A9 n9 c9 (shI (sgn s (val l)) (-(k:Int)))→K1 e1 w9:=by
   intro e1 w9 s9 A9 n9 c9 q7 q4 hb9 hb2 hx hsz hB9;refine hK1 _ _ ?_; clear hK1;have hr9:ldV w9 (some (some 2)) (.pointer (some ⟨g7,0,none⟩))=some (.agg #[.bool s9,.slice A9 n9 c9]):=q25 hb9 rfl;refine q0A fun K hK=>?_;refine Zz3 q7 q4 hr9 ?_;clear hb8 hb7 hb1 hb4 hb9 hr9;refine q00 hb2 q0s rfl rfl fun w9 hk9 hb9=>?_;refine hK _ _ ?_; clear hK;refine q0O ?_
   try simp only [q0D,q0S]
   exact (q3D rfl (q0p (by first | exact rfl | assumption) q1Z hb9 rfl) ⟨_,_,_,_,rfl,(hx).under hk9 (fun k hk=>by omega),(hB9.kp (hk9.mono fun k _ h=>Dx.ne h Oq Oq)).sub fun k _ h=>h.1⟩)
  have hval:shI (sgn s (val l)) (-(k:Int))=sgn s3 (val l / 2 ^ k)-(if s3=true∧val l % 2 ^ k≠0 then 1 else 0):=by
   rw [← hsg]; unfold shI
   by_cases hk0:(0:Int) ≤ -(k:Int)
   ·have:k=0:=by omega
    subst this;simp [Nat.mod_one]
   ·rw [if_neg hk0,show (- -(k:Int)).toNat=k by omega];cases s3
    ·simp [sgn]
    ·simp only [sgn,if_true,true_and];exact q90 _ _
  have hcs:=hc0 _ hxx
  by_cases hlost:s3=true∧val l % 2 ^ k≠0
  ·obtain ⟨hs3,hlost⟩:=hlost;subst hs3;have hd:decide (val (lim (sgn s (val l)).natAbs) % 2 ^ k≠0)=true:=by rw [hvn]; simpa using hlost
   refine Wz2 hcs hd ?_;refine Wt ?_;have hr8:ldV w8 (some (some 2)) (.pointer (some ⟨g7,0,none⟩))=some (.agg #[.bool s6,.slice A6 n6 c6]):=q25 hb8 rfl;have hD8:Fr (Dx (Dx D w.heap.size w2.heap.size) w6.heap.size w7.heap.size) w8:=Dx.fr hD Oq;refine qmE true q0l (Kp.pre (fun _=>True)) (fun _ _ _ h=>h) [true,false,false,false] [(37,isB (Dx (Dx D w.heap.size w2.heap.size) w6.heap.size w7.heap.size) 1),(38,isB (Dx (Dx D w.heap.size w2.heap.size) w6.heap.size w7.heap.size) (sgn true (val l / 2 ^ k)-1))] (by kernel_rfl) fun KE hKE=>?_;refine Zz1 hr8 ?_;refine hKE _ ⟨?_,fun e' w' hw hs ho=>?_⟩ <;> clear hKE KE
   ·refine q0Z (fun e' w' hw hd ho=>?_) ?_
    ·skip
     refine Zz ?_;refine q0F qg5 (q5y Oq Oq (hD8.kp hw)) ?_;rintro _ w9 ⟨s9,A9,n9,c9,rfl,hx9,hB9⟩; refine ⟨_,rfl,?_⟩;exact ⟨hx9,fun d hd=>by cases hd; exact ⟨_,_,_,_,rfl,hB9⟩⟩
    refine q0Z (fun e' w' hw hd ho=>?_) ?_
    ·skip
     have o36:=ho 36 (by kernel_rfl) (by kernel_rfl);have h37:=hd 37 (by kernel_rfl) (by kernel_rfl);obtain ⟨s9,A9,n9,c9,h37,hB9⟩:=h37;have hn9:n9≤1:=by have h1:=hB9.len; rw [← h1]; exact q2V (k:=1) (by decide)
     simp -implicitDefEqProofs (disch:=omega) only [go_sem,Nat.reduceEqDiff,Nat.reduceAdd,↓reduceIte,h37,o36];refine q0F qgW (qeI (hB8.2.ext hw) hB9.2 Oq Oq (hD8.kp hw)) ?_;rintro _ w10 ⟨s10,A10,n10,c10,rfl,hx10,hB10⟩; refine ⟨_,rfl,?_⟩;rw [q0I,q0I,hB9.sgn,hB8.sgn] at hB10;exact ⟨hx10,fun d hd=>by cases hd; exact ⟨_,_,_,_,rfl,hB10⟩⟩
    exact q1W
   ·have o7:=ho 7 (by kernel_rfl);have h38:=hs 38 (by kernel_rfl);obtain ⟨s9,A9,n9,c9,h38,hB9⟩:=h38;have o7:e' 7=.pointer (some ⟨g7,0,none⟩):=(ho 7 (by kernel_rfl)).trans Ue;have o4:e' 4=.pointer (some ⟨g2,0,none⟩):=(ho 4 (by kernel_rfl)).trans Ue;clear hs ho;simp -implicitDefEqProofs (disch:=omega) only [go_sem,Nat.reduceEqDiff,Nat.reduceAdd,↓reduceIte,h38,o7];have hsw:=hw.size;refine q00 (hb8.ext hw) q0s rfl rfl fun w9 hk9 hb9=>?_;refine fin _ w9 s9 A9 n9 c9 o7 o4 hb9 ((hb2.ext hw).kpne hk9 Oq) ((hx8.trans hw).under hk9 fun k hk=>by omega) (Nat.le_trans hsw hk9.size) ?_;rw [hval,if_pos ⟨rfl,hlost⟩];exact (hB9.kp (hk9.mono fun k _ h=>Dx.ne h Oq Oq)).sub fun k _ h=>h.1
  ·rw [if_neg hlost,Int.sub_zero] at hval;have fin2:∀ e1:Env,e1 7=.pointer (some ⟨g7,0,none⟩)→e1 4=.pointer (some ⟨g2,0,none⟩)→K1 e1 w8:=fun e1 q7 q4=>fin e1 w8 s6 A6 n6 c6 q7 q4 hb8 hb2 hx8 (Nat.le_refl _) (by rw [hval]; exact hB8.sub fun k _ h=>h.1);cases hs3:s3
   ·subst hs3;refine Wz1 hcs ?_;refine Wf (q0G ?_);exact fin2 _ Ue Ue
   ·subst hs3;have hd:decide (val (lim (sgn s (val l)).natAbs) % 2 ^ k≠0)=false:=by rw [hvn]; simpa using hlost
    refine Wz2 hcs hd ?_;refine Wf (q0G ?_);exact fin2 _ Ue Ue
end Go.Proofs.YtbcmhlhgljoolaaGreatDoor
namespace Go.Sp
open Go.E
def q0P (k:Nat):0 < 2 ^ k:=Nat.pow_pos Oq
def tzF:Nat→Nat→Nat
 | 0,_=>0
 | f+1,n=>if n % 2=1 then 0 else tzF f (n / 2)+1
def tz (n:Nat):Nat:=if n=0 then 0 else tzF n n
def qaZ:∀ (f n:Nat),n≠0→n≤f→∃ q,q % 2=1∧n=q*2 ^ tzF f n
 | 0,n,h,hf=>by omega
 | f+1,n,h,hf=>by
  unfold tzF
  by_cases ho:n % 2=1
  ·rw [if_pos ho]; exact ⟨n,ho,by simp⟩
  ·rw [if_neg ho];obtain ⟨q,hq,he⟩:=qaZ f (n / 2) Oq Oq;refine ⟨q,hq,?_⟩;rw [Nat.pow_succ,← Nat.mul_assoc,← he]; omega
def q3L {n:Nat} (h:n≠0):∃ q,q % 2=1∧n=q*2 ^ tz n:=by
 unfold tz; rw [if_neg h]; exact qaZ n n h (Nat.le_refl _)
def qar:∀ {a b q r:Nat},q % 2=1→r % 2=1→q*2 ^ a=r*2 ^ b→a=b
 | 0,0,_,_,_,_,_=>rfl
 | 0,b+1,q,r,hq,hr,h=>by
  rw [Nat.pow_succ,← Nat.mul_assoc,Nat.pow_zero,Nat.mul_one] at h;generalize r*2 ^ b=x at h; omega
 | a+1,0,q,r,hq,hr,h=>by
  rw [Nat.pow_succ,← Nat.mul_assoc,Nat.pow_zero,Nat.mul_one] at h;generalize q*2 ^ a=x at h; omega
 | a+1,b+1,q,r,hq,hr,h=>by
  rw [Nat.pow_succ,Nat.pow_succ,← Nat.mul_assoc,← Nat.mul_assoc] at h;have:=qar hq hr (Nat.eq_of_mul_eq_mul_right Oq h);omega
def q7A {n q k:Nat} (hq:q % 2=1) (h:n=q*2 ^ k):tz n=k:=by
 have h0:n≠0:=by
  rintro rfl;have:=q0P k
  rcases Nat.mul_eq_zero.1 h.symm with h | h <;> omega
 obtain ⟨r,hr,he⟩:=q3L h0;exact qar hr hq (he.symm.trans h)
def qaY {n:Nat} (h:n % 2=1):tz n=0:=q7A h (by simp)
def qkR {n:Nat} (h:n≠0) (k:Nat):tz (n*2 ^ k)=tz n+k:=by
 obtain ⟨q,hq,he⟩:=q3L h;refine q7A hq ?_;rw [Nat.pow_add,← Nat.mul_assoc,← he]
def q45 {n:Nat} (h:n≠0):0 < bl n:=by unfold bl; rw [if_neg h]; omega
def q1i {n:Nat} (h:n≠0) (k:Nat):bl (n*2 ^ k)=bl n+k:=by
 have a:=q2w n;have b:=q7l h;have c:=q45 h;refine qgb ?_ (.inr ?_)
 ·rw [Nat.pow_add]; exact Nat.mul_lt_mul_of_pos_right a (q0P k)
 ·rw [show bl n+k-1=(bl n-1)+k by omega,Nat.pow_add]; exact Nat.mul_le_mul_right _ b
def q2K (a b:Nat):bl (a*b)≤bl a+bl b:=by
 refine q0T ?_;rw [Nat.pow_add];exact Nat.mul_lt_mul_of_lt_of_le (q2w a) (Nat.le_of_lt (q2w b)) (q0P _)
def q3Y {a b k:Nat} (ha:bl a≤k) (hb:bl b≤k):bl (a+b)≤k+1:=by
 refine q0T ?_;have h1:=q2w a;have h2:=q2w b;have h3:2 ^ bl a≤2 ^ k:=Nat.pow_le_pow_right Oq ha;have h4:2 ^ bl b≤2 ^ k:=Nat.pow_le_pow_right Oq hb;rw [Nat.pow_succ]; omega
def q1d {n k:Nat} (h:bl n≤k):n < 2 ^ k:=Nat.lt_of_lt_of_le (q2w n) (Nat.pow_le_pow_right Oq h)
def q8s {n k:Nat}:bl n≤k ↔ n < 2 ^ k:=⟨q1d,q0T⟩
def qh3 {n:Nat} (h:n≠0):tz n < bl n:=by
 obtain ⟨q,hq,he⟩:=q3L h;have h1:bl n=bl q+tz n:=by
  have:=q1i (n:=q) Oq (tz n)
  rwa [← he] at this
 have:=q45 (n:=q) Oq;omega
def q3h (n:Nat):(lim n).length=(bl n+31) / 32:=by
 by_cases h:n=0
 ·subst h; rfl
 ·have h1:=q6t h;have h2:=q5b h;have h3:=(q1b n).get ((lim n).length-1);have h4:=q45 h2;have h5:bl ((lim n).getD ((lim n).length-1) 0)≤32:=q0T h3;have h6:=q0R.2 h;omega
def qlx {l:List Nat} (h:q1w l):bl (val l)≤32*l.length:=by
 refine q0T ?_;have:=q1V h
 rwa [q9B,← Nat.pow_mul] at this
def q7B {x:Nat} (h:x≠0) (hx:x < 4294967296):tz x < 32:=by
 have:=qh3 h;have:bl x≤32:=q0T hx;omega
def qkQ {l:List Nat} {i:Nat} (ha:q1w l) (hi:i < l.length) (h0:val (l.take i)=0) (hd:l.getD i 0≠0):tz (val l)=32*i+tz (l.getD i 0):=by
 have h1:=q1G l i Oq;rw [h0,Nat.zero_add,q1r] at h1;obtain ⟨q,hq,he⟩:=q3L hd;have hk:=q7B hd (ha.get i);refine q7A (q:=q+2 ^ (32-tz (l.getD i 0))*val (l.drop (i+1))) ?_ ?_
 ·rw [show 32-tz (l.getD i 0)=(31-tz (l.getD i 0))+1 by omega,Nat.pow_succ,Nat.mul_comm (2 ^ _) 2,Nat.mul_assoc];omega
 ·rw [h1];have e1:B ^ i=2 ^ (32*i):=by rw [q9B,← Nat.pow_mul]
  have e2:B=2 ^ (32-tz (l.getD i 0))*2 ^ tz (l.getD i 0):=by rw [← Nat.pow_add,q9B]; congr 1; omega
  rw [e1,Nat.pow_add,Nat.add_mul];generalize val (l.drop (i+1))=X;generalize hk':tz (l.getD i 0)=k at *;rw [he,e2];generalize 2 ^ (32-k)=Y;generalize 2 ^ k=Z;generalize 2 ^ (32*i)=U;simp only [Nat.mul_add,Nat.mul_left_comm,Nat.mul_comm]
def q2P {l:List Nat} {i:Nat}:(val (l.take (i+1))=0) ↔ (val (l.take i)=0∧l.getD i 0=0):=by
 have hB:=q4c i;have hv:val (l.take (i+1))=val (l.take i)+B ^ i*l.getD i 0:=by
  rcases Nat.lt_or_ge i l.length with h | h
  ·exact q2A l i h
  ·rw [q0K l (i+1) Oq,q0K l i h,q62 h]; simp
 rw [hv,Nat.add_eq_zero_iff,Nat.mul_eq_zero]
 constructor
 ·rintro ⟨a,b⟩; exact ⟨a,by omega⟩
 ·rintro ⟨a,b⟩; exact ⟨a,.inr b⟩
def od (m:Int):Int:=m / (2:Int) ^ tz m.natAbs
def q08 (k:Nat):0 < (2:Int) ^ k:=by rw [← q1E]; exact_mod_cast q0P k
def q6j (k:Nat):((2:Int) ^ k).natAbs=2 ^ k:=by rw [← q1E]; rfl
def q0U (m:Int) (k:Nat):(m*(2:Int) ^ k).natAbs=m.natAbs*2 ^ k:=by rw [Int.natAbs_mul,q6j]
def q1z (m:Int):od m*(2:Int) ^ tz m.natAbs=m:=by
 unfold od
 by_cases h:m=0
 ·subst h; simp
 ·obtain ⟨q,hq,he⟩:=q3L (n:=m.natAbs) Oq;refine Int.ediv_mul_cancel ?_;rw [← q1E];exact Int.ofNat_dvd_left.2 ⟨q,by rw [Nat.mul_comm]; exact he⟩
def q3R:od 0=0:=by simp [od]
def q3c {m:Int} (h:m≠0):od m≠0:=fun h0=>h (by rw [← q1z m,h0]; simp)
def q6h (m:Int):(od m).natAbs*2 ^ tz m.natAbs=m.natAbs:=by
 rw [← q0U,q1z]
def qe3 {m:Int} (h:m≠0):(od m).natAbs % 2=1:=by
 obtain ⟨q,hq,he⟩:=q3L (n:=m.natAbs) Oq;have:=Nat.eq_of_mul_eq_mul_right (q0P _) ((q6h m).trans he);rw [this]; exact hq
def qn7 {m o:Int} {k:Nat} (ho:o.natAbs % 2=1) (h:m=o*(2:Int) ^ k):od m=o∧tz m.natAbs=k:=by
 have h1:tz m.natAbs=k:=q7A ho (by rw [h,q0U]);refine ⟨?_,h1⟩;unfold od;rw [h1,h,Int.mul_ediv_cancel _ (Int.ne_of_gt (q08 k))]
def qiO {m:Int} (k:Nat):od (m*(2:Int) ^ k)=od m:=by
 by_cases h:m=0
 ·subst h; simp
 ·refine (qn7 (k:=tz m.natAbs+k) (qe3 h) ?_).1;rw [Int.pow_add,← Int.mul_assoc,q1z]
def q1u (m:Int):decide (od m < 0)=decide (m < 0):=by
 have h1:=q1z m;have h2:=q08 (tz m.natAbs);rw [decide_eq_decide]
 constructor
 ·intro h; rw [← h1]; exact Int.mul_neg_of_neg_of_pos h h2
 ·intro h
  rcases Int.lt_or_le (od m) 0 with h3 | h3
  ·exact h3
  ·have:=Int.mul_nonneg h3 (Int.le_of_lt h2);omega
def qaG {m:Int} (h:m≠0):bl (od m).natAbs+tz m.natAbs=bl m.natAbs:=by
 have:=q1i (n:=(od m).natAbs) (by have:=q3c h; omega) (tz m.natAbs);rw [q6h] at this;exact this.symm
def q8P (a:Int) (k:Nat):shI (a*(2:Int) ^ k) (-(k:Int))=a:=by
 unfold shI
 split
 ·rename_i h0;have:k=0:=by omega
  subst this; simp
 ·rw [show (- -(k:Int)).toNat=k by omega];exact Int.mul_ediv_cancel _ (Int.ne_of_gt (q08 k))
def qri (m:Int):shI (m.natAbs:Int) (-((tz m.natAbs:Nat):Int))=((od m).natAbs:Nat):=by
 have h1:=q6h m;generalize tz m.natAbs=k at *;rw [← h1,Int.natCast_mul,q1E,q8P]
def qmp (m:Int):shI m (-((tz m.natAbs:Nat):Int))=od m:=by
 have h1:=q1z m;generalize tz m.natAbs=k at *;generalize od m=q at *;rw [← h1,q8P]
def dyE (V:Int):Int:=if V=0 then 0 else (tz V.natAbs:Int)-65536
def q0k (V:Int):Prop:=bl V.natAbs≤131072
def mkV (m e:Int):Option Int:=if m=0 then some 0 else if -65536≤e+tz m.natAbs∧e+bl m.natAbs≤65536 then some (od m*(2:Int) ^ (e+tz m.natAbs+65536).toNat) else none
def q2R (e:Int):mkV 0 e=some 0:=by simp [mkV]
def q71 {m e V:Int} (hm:m≠0) (h:mkV m e=some V) : -65536≤e+tz m.natAbs∧e+bl m.natAbs≤65536∧V=od m*(2:Int) ^ (e+tz m.natAbs+65536).toNat:=by
 unfold mkV at h;rw [if_neg hm] at h
 split at h
 ·rename_i hc; exact ⟨hc.1,hc.2,(Option.some.inj h).symm⟩
 ·cases h
def q5C {m e V:Int} (h:mkV m e=some V):od V=od m∧(m≠0→V≠0∧dyE V=e+tz m.natAbs)∧(m=0→V=0)∧q0k V:=by
 by_cases hm:m=0
 ·subst hm;rw [q2R] at h;obtain rfl:=Option.some.inj h;exact ⟨rfl,fun h=>absurd rfl h,fun _=>rfl,by simp [q0k,q1c]⟩
 ·obtain ⟨h1,h2,h3⟩:=q71 hm h;obtain ⟨h4,h5⟩:=qn7 (qe3 hm) h3;have h6:V≠0:=fun h0=>by
   rw [h0,q3R] at h4; exact q3c hm h4.symm
  refine ⟨h4,fun _=>⟨h6,?_⟩,fun h=>absurd h hm,?_⟩
  ·unfold dyE; rw [if_neg h6,h5]; omega
  ·unfold q0k;have h7:=qaG h6;have h8:=qaG hm;rw [h4,h5] at h7;omega
def q3T {m e:Int} (k:Nat):mkV (m*(2:Int) ^ k) e=mkV m (e+k):=by
 by_cases hm:m=0
 ·subst hm; simp [mkV]
 ·have hm':m*(2:Int) ^ k≠0:=Int.mul_ne_zero hm (Int.ne_of_gt (q08 k));unfold mkV;rw [if_neg hm,if_neg hm',q0U,qkR Oq,q1i Oq,qiO];have e1:e+((tz m.natAbs+k:Nat):Int)=e+k+tz m.natAbs:=by omega
  have e2:e+((bl m.natAbs+k:Nat):Int)=e+k+bl m.natAbs:=by omega
  rw [e1,e2]
def q37 {V:Int} (h:q0k V):mkV V (-65536)=some V:=by
 by_cases h0:V=0
 ·subst h0; exact q2R _
 ·unfold mkV q0k at *;rw [if_neg h0,if_pos (by omega)];rw [show (-65536+(tz V.natAbs:Int)+65536).toNat=tz V.natAbs by omega,q1z]
def qau {V:Int} (h:q0k V):mkV (od V) (dyE V)=some V:=by
 by_cases h0:V=0
 ·subst h0; rw [q3R]; exact q2R _
 ·have h1:=q3T (m:=od V) (e := -65536) (tz V.natAbs);rw [q1z,q37 h] at h1;unfold dyE;rw [if_neg h0,h1,Int.add_comm]; rfl
def q9b {V E:Int} (hE : -65536≤E) (hv:E≤dyE V):od V*(2:Int) ^ (dyE V-E).toNat*(2:Int) ^ (E+65536).toNat=V:=by
 by_cases h0:V=0
 ·subst h0; rw [q3R]; simp
 ·unfold dyE at *;rw [if_neg h0] at *;rw [Int.mul_assoc,← Int.pow_add,show ((tz V.natAbs:Int)-65536-E).toNat+(E+65536).toNat=tz V.natAbs by omega,q1z]
def q5a {m V E:Int} (hE : -65536≤E) (h:m*(2:Int) ^ (E+65536).toNat=V):mkV m E=mkV V (-65536):=by
 rw [← h,q3T]; congr 1; omega
def qfv {V:Int} : -65536≤dyE V:=by unfold dyE; split <;> omega
def qbW {V:Int} (h:q0k V):dyE V+bl (od V).natAbs≤65536:=by
 unfold dyE q0k at *
 split
 ·rename_i h0; subst h0; rw [q3R]; simp [q1c]
 ·rename_i h0; have:=qaG h0; omega
def q3b {V:Int} (h:q0k V):bl (od V).natAbs≤131072:=by
 by_cases h0:V=0
 ·subst h0; rw [q3R]; simp [q1c]
 ·have:=qaG h0; unfold q0k at h; omega
def qko (V:Int):od (-V) = -od V:=by
 by_cases h0:V=0
 ·subst h0; simp [q3R]
 ·refine (qn7 (k:=tz V.natAbs) (by rw [Int.natAbs_neg]; exact qe3 h0) ?_).1;rw [Int.neg_mul,q1z]
def qfu (V:Int):dyE (-V)=dyE V:=by unfold dyE; simp [Int.neg_eq_zero]
def qbV {V:Int} (h:q0k V):q0k (-V):=by unfold q0k at *; rwa [Int.natAbs_neg]
def qef (a b:Int):mkV (od a*od b) (dyE a+dyE b)=mkV (a*b) (-131072):=by
 by_cases ha:a=0
 ·subst ha; rw [q3R]; simp [mkV]
 ·by_cases hb:b=0
  ·subst hb; rw [q3R]; simp [mkV]
  ·have:a*b=od a*od b*(2:Int) ^ (tz a.natAbs+tz b.natAbs):=by
    rw [Int.pow_add];have h1:=q1z a;have h2:=q1z b;generalize (2:Int) ^ tz a.natAbs=x at *;generalize (2:Int) ^ tz b.natAbs=y at *;generalize od a=p at *;generalize od b=q at *;rw [← h1,← h2];simp only [Int.mul_assoc,Int.mul_left_comm,Int.mul_comm]
   rw [this,q3T];unfold dyE;rw [if_neg ha,if_neg hb]; congr 1; omega
def rq (mode:Int) (neg:Bool) (N D:Nat):Nat :=
 if N % D=0 then N / D
 else if mode=1 then (if neg then N / D+1 else N / D)
 else if mode=2 then (if neg then N / D else N / D+1)
 else if mode=3 then N / D
 else if D < 2*(N % D)∨(2*(N % D)=D∧N / D % 2=1) then N / D+1 else N / D
def lgq (N D:Nat):Int:=(bl (N*2 ^ bl D / D):Int)-1-bl D
def rat (mode:Int) (neg:Bool) (N D:Nat) (q:Int):Nat:=rq mode neg (N*2 ^ (-q).toNat) (D*2 ^ q.toNat)
def sb (neg:Bool) (x:Nat):Nat:=if neg then x+9223372036854775808 else x
def qhE (mode:Int) (neg:Bool):Nat:=if mode=3∨(mode=1∧neg=false)∨(mode=2∧neg=true) then sb neg 9218868437227405311 else sb neg 9218868437227405312
def fin2 (mode:Int) (neg:Bool) (n:Nat) (q:Int):Nat :=
 if n < 4503599627370496 then sb neg n else if 2047≤q+1075 then qhE mode neg else sb neg ((q+1075).toNat*4503599627370496+(n-4503599627370496))
def fin (mode:Int) (neg:Bool) (n:Nat) (q:Int):Nat:=if n=9007199254740992 then fin2 mode neg 4503599627370496 (q+1) else fin2 mode neg n q
def qet (N D:Nat):Int:=max (lgq N D-52) (-1074)
def rF (mode:Int) (neg:Bool) (N D:Nat):Nat:=fin mode neg (rat mode neg N D (qet N D)) (qet N D)
def ofF (f:Nat):Option Int :=
 if f / 4503599627370496 % 2048=2047 then none
 else if f / 4503599627370496 % 2048=0 then some (sgn (decide (9223372036854775808≤f)) (f % 4503599627370496)*(2:Int) ^ 64462)
 else some (sgn (decide (9223372036854775808≤f)) (4503599627370496+f % 4503599627370496)*(2:Int) ^ (64461+f / 4503599627370496 % 2048))
def qu9 {q b:Nat} (hq:q≠0) (hb:b < 2):bl (2*q+b)=bl q+1:=by
 have:=qbd (n:=2*q+b) (k:=1) Oq;rw [this,show (2*q+b) / 2 ^ 1=q by omega]; omega
def qnl {N D:Nat} (hD:0 < D) (h:D≤N):bl (N*2 / D)=bl (N / D)+1:=by
 have h1:=Nat.div_add_mod N D;have h2:=Nat.mod_lt N hD;have h3:N / D≠0:=by have:=Nat.div_pos h hD; omega
 have h4:N*2 / D=2*(N / D)+2*(N % D) / D:=by
  have e:N*2=2*(N % D)+D*(2*(N / D)):=by
   have:D*(2*(N / D))=2*(D*(N / D)):=by rw [Nat.mul_left_comm]
   omega
  rw [e,Nat.add_mul_div_left _ _ hD]; omega
 rw [h4];refine qu9 h3 ?_;rw [Nat.div_lt_iff_lt_mul hD]; omega
def qcU {N D:Nat} (hD:0 < D) (h:D≤N):∀ k,bl (N*2 ^ k / D)=bl (N / D)+k
 | 0=>by simp
 | k+1=>by
  have h2:D≤N*2 ^ k:=Nat.le_trans h (Nat.le_mul_of_pos_right _ (q0P k));rw [Nat.pow_succ,← Nat.mul_assoc,qnl hD h2,qcU hD h k]; omega
def qep {N D k:Nat} (hD:0 < D) (h:D≤N*2 ^ k):lgq N D=(bl (N*2 ^ k / D):Int)-1-k:=by
 have hN:N≠0:=by rintro rfl; simp at h; omega
 have h1:D≤N*2 ^ bl D:=Nat.le_trans (Nat.le_of_lt (q2w D)) (Nat.le_mul_of_pos_left _ Oq);have a:=qcU hD h (bl D);have b:=qcU hD h1 k;rw [Nat.mul_assoc,← Nat.pow_add] at a b;rw [Nat.add_comm k] at a;unfold lgq; omega
def qeo {N D c:Nat} (hN:0 < N) (hD:0 < D) (hc:0 < c):lgq (N*c) (D*c)=lgq N D:=by
 have h1:D≤N*2 ^ bl D:=Nat.le_trans (Nat.le_of_lt (q2w D)) (Nat.le_mul_of_pos_left _ hN);have h2:D*c≤N*c*2 ^ bl D:=by rw [Nat.mul_right_comm]; exact Nat.mul_le_mul_right _ h1
 rw [qep (Nat.mul_pos hD hc) h2,qep hD h1,Nat.mul_right_comm,Nat.mul_div_mul_right _ _ hc]
def q53 {mode:Int} {neg:Bool} {N D c:Nat} (hc:0 < c):rq mode neg (N*c) (D*c)=rq mode neg N D:=by
 have e1:(N*c % (D*c)=0)=(N % D=0):=by
  rw [Nat.mul_mod_mul_right,Nat.mul_eq_zero]; simp only [eq_iff_iff]; constructor
  ·rintro (h | h) <;> omega
  ·exact fun h=>.inl h
 have e2:(D*c < 2*(N*c % (D*c)))=(D < 2*(N % D)):=by
  rw [Nat.mul_mod_mul_right,← Nat.mul_assoc]; simp only [eq_iff_iff];exact Nat.mul_lt_mul_right hc
 have e3:(2*(N*c % (D*c))=D*c)=(2*(N % D)=D):=by
  rw [Nat.mul_mod_mul_right,← Nat.mul_assoc]; simp only [eq_iff_iff];exact Nat.mul_left_inj Oq
 unfold rq;simp only [e1,e2,e3,Nat.mul_div_mul_right _ _ hc]
def q57 {mode:Int} {neg:Bool} {N D c:Nat} (hN:0 < N) (hD:0 < D) (hc:0 < c):rF mode neg (N*c) (D*c)=rF mode neg N D:=by
 unfold rF rat qet;rw [qeo hN hD hc,Nat.mul_right_comm N c,Nat.mul_right_comm D c,q53 hc]
def q58 {mode:Int} {neg:Bool} {N D N' D':Nat} (hN:0 < N) (hD:0 < D) (hN':0 < N') (hD':0 < D') (h:N*D'=N'*D):rF mode neg N D=rF mode neg N' D':=by
 rw [← q57 (c:=D') hN hD hD',h,Nat.mul_comm D D',q57 hN' hD' hD]
def qsm {N D:Nat} (e:Int) (hD:0 < D) (h:D≤N):lgq (N*2 ^ e.toNat) (D*2 ^ (-e).toNat)=e+bl (N / D)-1:=by
 have h1:D*2 ^ (-e).toNat≤N*2 ^ e.toNat*2 ^ (-e).toNat:=Nat.mul_le_mul_right _ (Nat.le_trans h (Nat.le_mul_of_pos_right _ (q0P _)));rw [qep (Nat.mul_pos hD (q0P _)) h1,Nat.mul_div_mul_right _ _ (q0P _),qcU hD h];omega
def qnE {mode:Int} {neg:Bool} {N D:Nat} (e q:Int):rat mode neg (N*2 ^ e.toNat) (D*2 ^ (-e).toNat) q=rq mode neg (N*2 ^ (e-q).toNat) (D*2 ^ (q-e).toNat):=by
 unfold rat;rw [Nat.mul_assoc,Nat.mul_assoc,← Nat.pow_add,← Nat.pow_add]
 rcases Int.le_total q e with h | h
 ·have e1:e.toNat+(-q).toNat=(e-q).toNat+((-e).toNat+q.toNat):=by omega
  have e2:(q-e).toNat=0:=by omega
  rw [e1,e2,Nat.pow_zero,Nat.mul_one,Nat.pow_add 2 (e-q).toNat,← Nat.mul_assoc];exact q53 (q0P _)
 ·have e1:(-e).toNat+q.toNat=(q-e).toNat+(e.toNat+(-q).toNat):=by omega
  have e2:(e-q).toNat=0:=by omega
  rw [e1,e2,Nat.pow_zero,Nat.mul_one,Nat.pow_add 2 (q-e).toNat,← Nat.mul_assoc];exact q53 (q0P _)
def q54 {mode:Int} {neg:Bool} {N D:Nat} (h:N % D=0):rq mode neg N D=N / D:=by unfold rq; rw [if_pos h]
def qrv {mode:Int} {neg:Bool} {N:Nat}:rq mode neg N 1=N:=by rw [q54 (Nat.mod_one N),Nat.div_one]
def qrw {mode:Int} {neg:Bool} {N D:Nat}:rq mode neg N D≤N / D+1:=by unfold rq; (repeat' split) <;> omega
def rE (mode:Int) (neg:Bool) (N D:Nat) (e:Int):Nat:=rF mode neg (N*2 ^ e.toNat) (D*2 ^ (-e).toNat)
def qeR {mode:Int} {neg:Bool} {N D:Nat} {e:Int} (hD:0 < D) (h:D≤N) :
  rE mode neg N D e=fin mode neg (rq mode neg (N*2 ^ (e-max (e+bl (N / D)-53) (-1074)).toNat) (D*2 ^ (max (e+bl (N / D)-53) (-1074)-e).toNat)) (max (e+bl (N / D)-53) (-1074)):=by
 unfold rE rF qet;rw [qsm e hD h,qnE,show e+(bl (N / D):Int)-1-52=e+bl (N / D)-53 by omega]
def qaB (N D k:Nat):N / (D*2 ^ k)=N / D / 2 ^ k:=(Nat.div_div_eq_div_mul N D (2 ^ k)).symm
def qol (N D k:Nat):N % (D*2 ^ k)=D*(N / D % 2 ^ k)+N % D:=by rw [Nat.mod_mul]; omega
def qc1 (N D k:Nat):Int:=if 0 < k∧N / D / 2 ^ (k-1) % 2=1 then (if N % D≠0∨N / D % 2 ^ (k-1)≠0 then 1 else 0) else -1
def upS (mode:Int) (neg:Bool) (half:Int) (odd:Bool):Bool:=if mode=1 then neg else if mode=2 then !neg else if mode=3 then false else (decide (0 < half) || (decide (half=0) && odd))
def qru {mode:Int} {neg:Bool} {N D k:Nat} (hD:0 < D) (hk:N % D≠0→0 < k):rq mode neg N (D*2 ^ k) =
  N / D / 2 ^ k+(if (N / D % 2 ^ k≠0∨N % D≠0)∧upS mode neg (qc1 N D k) (decide (N / D / 2 ^ k % 2=1))=true then 1 else 0):=by
 have h2:=Nat.mod_lt N hD
 rcases Nat.eq_zero_or_pos k with h0 | h0
 ·subst h0;have hr:N % D=0:=by
   rcases Nat.eq_zero_or_pos (N % D) with h | h
   ·exact h
   ·have:=hk (by omega); omega
  rw [Nat.pow_zero,Nat.mul_one,q54 hr,Nat.mod_one,hr]; simp
 have hp:2 ^ k=2 ^ (k-1)*2:=by rw [← Nat.pow_succ]; congr 1; omega
 have hp0:=q0P (k-1);have hs:=Nat.mod_mul (x:=N / D) (a:=2 ^ (k-1)) (b:=2);rw [← hp] at hs;have hs':=Nat.mod_lt (N / D) hp0;have hb2:N / D / 2 ^ (k-1) % 2 < 2:=Nat.mod_lt _ Oq;unfold rq qc1;rw [qaB,qol];generalize N / D / 2 ^ k=Q;simp only [h0,true_and];generalize N / D % 2 ^ k=s at *;generalize N / D % 2 ^ (k-1)=s' at *;generalize N / D / 2 ^ (k-1) % 2=b at *;generalize N % D=r at *;rw [hp];generalize 2 ^ (k-1)=h at *;have e0:(D*s+r=0)=(s=0∧r=0):=by
  rw [eq_iff_iff,Nat.add_eq_zero_iff,Nat.mul_eq_zero]
  constructor
  ·rintro ⟨a | a,c⟩
   ·omega
   ·exact ⟨a,c⟩
  ·rintro ⟨a,c⟩; exact ⟨.inr a,c⟩
 have e1:D*(h*2)=2*(D*h):=by rw [Nat.mul_comm h 2,Nat.mul_left_comm]
 have key:∀ a b:Nat,a < b→D*a+D≤D*b:=fun a b hab=>by rw [← Nat.mul_succ]; exact Nat.mul_le_mul_left _ hab
 simp only [e0,e1]
 by_cases hz:s=0∧r=0
 ·obtain ⟨rfl,rfl⟩:=hz;simp
 ·have hz':s≠0∨r≠0:=by omega
  simp only [hz,hz',if_false,true_and];unfold upS
  by_cases m1:mode=1
  ·simp only [m1,if_true]; cases neg <;> rfl
  by_cases m2:mode=2
  ·simp only [m1,m2,if_false,if_true]; cases neg <;> rfl
  by_cases m3:mode=3
  ·simp only [m1,m2,m3,if_false,if_true]; rfl
  simp only [m1,m2,m3,if_false]
  by_cases hb:b=1
  ·subst hb;have hss:D*s=D*h+D*s':=by rw [hs,Nat.mul_one,Nat.add_comm,Nat.mul_add]
   simp only [if_true]
   by_cases hc:r≠0∨s'≠0
   ·have:0 < D*s'+r:=by
     rcases hc with hc | hc
     ·omega
     ·have:=Nat.mul_pos hD (show 0 < s' by omega); omega
    rw [if_pos (.inl Oq),if_pos hc]; simp
   ·have hr0:r=0:=by omega
    have hs0:s'=0:=by omega
    subst hr0; subst hs0;rw [Nat.mul_zero,Nat.add_zero] at hss;rw [hss]
    by_cases ho:Q % 2=1 <;> simp [ho]
  ·have hsl:s=s':=by
    have:b=0:=by omega
    rw [hs,this]; simp
   have:=key s h Oq;have c1:¬ (2*(D*h) < 2*(D*s+r)):=by omega
   have c2:¬ (2*(D*s+r)=2*(D*h)):=by omega
   simp [c1,c2,hb]
def qnN {mode:Int} {neg:Bool} {N D:Nat} {e q:Int} (hD:0 < D) (h:D≤N) (hq:e+bl (N / D)-53≤q):rq mode neg (N*2 ^ (e-q).toNat) (D*2 ^ (q-e).toNat)≤9007199254740992:=by
 have h53:(2:Nat) ^ 53=9007199254740992:=by decide
 refine Nat.le_trans qrw ?_;rw [qaB];have h1:=qcU hD h (e-q).toNat;have h2:=q2w (N*2 ^ (e-q).toNat / D);rw [h1] at h2
 rcases Int.le_total q e with hqe | hqe
 ·rw [show (q-e).toNat=0 by omega,Nat.pow_zero,Nat.div_one];have:2 ^ (bl (N / D)+(e-q).toNat)≤2 ^ 53:=Nat.pow_le_pow_right Oq Oq;omega
 ·have:N*2 ^ (e-q).toNat / D / 2 ^ (q-e).toNat < 2 ^ 53:=by
   rw [Nat.div_lt_iff_lt_mul (q0P _),← Nat.pow_add];exact Nat.lt_of_lt_of_le h2 (Nat.pow_le_pow_right Oq Oq)
  omega
def qmt {neg:Bool} {x:Nat} (h:x < 9223372036854775808):sb neg x < 18446744073709551616:=by unfold sb; split <;> omega
def qn4 {mode:Int} {neg:Bool}:qhE mode neg < 18446744073709551616:=by unfold qhE; split <;> exact qmt Oq
def qfg {mode:Int} {neg:Bool} {n:Nat} {q:Int} (hn:n < 9007199254740992):fin2 mode neg n q < 18446744073709551616:=by
 unfold fin2
 split
 ·exact qmt Oq
 ·split
  ·exact qn4
  ·refine qmt ?_;have:(q+1075).toNat≤2046:=by omega
   omega
def qtV {mode:Int} {neg:Bool} {n:Nat} {q:Int} (hn:n≤9007199254740992):fin mode neg n q < 18446744073709551616:=by
 unfold fin
 split
 ·exact qfg Oq
 ·exact qfg Oq
def qnM {mode:Int} {neg:Bool} {N D:Nat} {e:Int} (hD:0 < D) (h:D≤N):rE mode neg N D e < 18446744073709551616:=by
 rw [qeR hD h]; exact qtV (qnN hD h Oq)
def q7b {mode:Int} {neg:Bool} {n:Nat} {q:Int} (hn:n < 9007199254740992) (hq : -1074≤q) (hq2:q+1075 < 2047) (h:q = -1074∨4503599627370496≤n) :
  ofF (fin2 mode neg n q)=some (sgn neg n*(2:Int) ^ (q+65536).toNat):=by
 unfold fin2
 by_cases h1:n < 4503599627370496
 ·rw [if_pos h1];have hq':q = -1074:=by omega
  subst hq';unfold ofF sb;cases neg
  ·rw [if_neg (by simp; omega),if_pos (by simp; omega)];simp only [Bool.false_eq_true,if_false];rw [decide_eq_false Oq,Nat.mod_eq_of_lt h1]; rfl
  ·rw [if_neg (by simp; omega),if_pos (by simp; omega)];simp only [if_true];rw [decide_eq_true Oq,show (n+9223372036854775808) % 4503599627370496=n by omega]; rfl
 ·rw [if_neg h1,if_neg (by omega)];obtain ⟨x,hx⟩:∃ x:Nat,x=(q+1075).toNat:=⟨_,rfl⟩;rw [← hx];have hx1:1≤x:=by omega
  have hx2:x≤2046:=by omega
  have hqx:(q+65536).toNat=64461+x:=by omega
  rw [hqx];unfold ofF sb;cases neg
  ·simp only [Bool.false_eq_true,if_false];have e1:(x*4503599627370496+(n-4503599627370496)) / 4503599627370496 % 2048=x:=by omega
   rw [e1,if_neg Oq,if_neg Oq,decide_eq_false Oq,show 4503599627370496+(x*4503599627370496+(n-4503599627370496)) % 4503599627370496=n by omega]
  ·simp only [if_true];have e1:(x*4503599627370496+(n-4503599627370496)+9223372036854775808) / 4503599627370496 % 2048=x:=by omega
   rw [e1,if_neg Oq,if_neg Oq,decide_eq_true Oq,show 4503599627370496+(x*4503599627370496+(n-4503599627370496)+9223372036854775808) % 4503599627370496=n by omega]
def qiE {mode:Int} {neg:Bool} {N D M:Nat} {f:Int} (hD:0 < D) (hM:0 < M) (hb:bl M≤53) (h1 : -1074≤f) (h2:f+bl M≤1024) (h:N*2 ^ (-f).toNat=D*M*2 ^ f.toNat) :
  ofF (rF mode neg N D)=some (sgn neg M*(2:Int) ^ (f+65536).toNat)∧rF mode neg N D < 18446744073709551616:=by
 have hN:0 < N:=by
  rcases Nat.eq_zero_or_pos N with h0 | h0
  ·subst h0;have a:=Nat.mul_pos (Nat.mul_pos hD hM) (q0P f.toNat);omega
  ·exact h0
 have e0:rF mode neg N D=rE mode neg M 1 f:=by
  unfold rE;refine q58 hN hD (Nat.mul_pos hM (q0P _)) (Nat.mul_pos Oq (q0P _)) ?_;rw [Nat.one_mul,h,Nat.mul_comm D M,Nat.mul_right_comm]
 refine ⟨?_,by rw [e0]; exact qnM Oq Oq⟩;rw [e0,qeR Oq Oq,Nat.div_one];obtain ⟨q,hq⟩:∃ q:Int,q=max (f+bl M-53) (-1074):=⟨_,rfl⟩;rw [← hq,show (q-f).toNat=0 by omega,Nat.pow_zero,Nat.mul_one,qrv];have hbn:=q1i (n:=M) Oq (f-q).toNat;obtain ⟨n,hn⟩:∃ n,n=M*2 ^ (f-q).toNat:=⟨_,rfl⟩;rw [← hn] at hbn ⊢;have hn53:n < 2 ^ 53:=q1d Oq;have h53:(2:Nat) ^ 53=9007199254740992:=by decide
 unfold fin;rw [if_neg Oq,q7b Oq Oq Oq ?_]
 ·rw [hn]
  congr 1
  have:sgn neg (M*2 ^ (f-q).toNat)=sgn neg M*(2:Int) ^ (f-q).toNat:=by
   rw [← q1E]; cases neg <;> simp [sgn,Int.neg_mul]
  rw [this,Int.mul_assoc,← Int.pow_add]
  congr 2; omega
 ·rcases Int.le_total (f+bl M-53) (-1074) with hc | hc
  ·left; omega
  ·right
   have hne:n≠0:=by rw [hn]; exact Nat.ne_of_gt (Nat.mul_pos hM (q0P _))
   have:=q7l hne;have h52:(2:Nat) ^ 52=4503599627370496:=by decide
   rw [show bl n-1=52 by omega] at this;omega
end Go.Sp
namespace Go.E
open Go
structure Fam where
 p:(Nat→Prop)→Value→World→Prop
 kp:∀ {D:Nat→Prop} {w w':World} {v:Value},Kp D w w'→p D v w→p D v w'
 sub:∀ {D D':Nat→Prop} {w:World} {v:Value},(∀ k,k < w.heap.size→D k→D' k)→p D v w→p D' v w
def In (G:Fam) (D:Nat→Prop) (v:Value) (w:World):Prop:=G.p D v w
section
variable {G:Fam} {D D':Nat→Prop} {v:Value} {w w':World}
def In.kp (h:In G D v w) (k:Kp D w w'):In G D v w':=G.kp k h
def In.ext (h:In G D v w) (k:Ext w w'):In G D v w':=G.kp (Kp.of_ext k) h
def In.sub (h:In G D v w) (k:∀ k,k < w.heap.size→D k→D' k):In G D' v w:=G.sub k h
def In.all (h:In G D v w):In G (fun _=>True) v w:=G.sub (fun _ _ _=>trivial) h
def In.dx (h:In G D v w) {a b:Nat} (ha:w.heap.size≤a):In G (Dx D a b) v w:=G.sub (fun _ hk hd=>Dx.lt hd Oq) h
def In.st (h:In G (Dx D w.heap.size w'.heap.size) v w) (k:Ext w w'):In G (Dx D w.heap.size w'.heap.size) v w':=h.ext k
def Fam.S (G:Fam) (D:Nat→Prop):q1D (Kp fun _=>True):=⟨In G D,fun _ _ _ k h=>h.ext k⟩
def fc (v:Value):Fam:=⟨fun _ x _=>x=v,fun _ h=>h,fun _ h=>h⟩
def fP (G H:Fam):Fam:=⟨fun D v w=>∃ a b,v=.tuple #[a,b]∧G.p D a w∧H.p D b w,fun k ⟨a,b,e,h1,h2⟩=>⟨a,b,e,G.kp k h1,H.kp k h2⟩,fun k ⟨a,b,e,h1,h2⟩=>⟨a,b,e,G.sub k h1,H.sub k h2⟩⟩
def fP3 (G H I:Fam):Fam:=⟨fun D v w=>∃ a b c,v=.tuple #[a,b,c]∧G.p D a w∧H.p D b w∧I.p D c w,fun k ⟨a,b,c,e,h1,h2,h3⟩=>⟨a,b,c,e,G.kp k h1,H.kp k h2,I.kp k h3⟩,fun k ⟨a,b,c,e,h1,h2,h3⟩=>⟨a,b,c,e,G.sub k h1,H.sub k h2,I.sub k h3⟩⟩
def Rt (G:Fam) (D:Nat→Prop) (w:World):Ending→World→Prop:=fun e w'=>∃ v,e=.returned v∧Ext w w'∧In G D v w'
def Cr {P:Program} {f:FuncId} {args:List Value} {G:Fam} {D:Nat→Prop} {w:World} {K:Value→World→Prop} (hc:q0C P f=true) (h:Calls P f args.toArray w (Rt G D w)) (k:∀ v w',Ext w w'→In G D v w'→K v w'):q7j P f args w K:=q0F hc h fun x w' ⟨v,h1,h2,h3⟩=>⟨v,h1,k v w' h2 h3⟩
def In.own {w1 w2:World} {g a b:Nat} (h:In G (Dx D a b) v w1) (k:Kp (fun k=>k≠g) w1 w2) (h1:a≤g) (h2:g < b):In G (Dx D a b) v w2:=h.kp (k.mono fun _ _ h=>Dx.ne h h1 h2)
def In.un {a b:Nat} (h:In G (Dx D a b) v w):In G D v w:=h.sub fun _ _ h=>h.1
end
def Dl (D:Nat→Prop) (L:List Nat):Nat→Prop:=fun k=>D k∧k ∉ L
section
variable {G:Fam} {D:Nat→Prop} {L:List Nat} {v:Value} {w w0 w1 w2:World} {g:Nat}
def In.nL (h:In G D v w) (hL:∀ g ∈ L,w.heap.size≤g):In G (Dl D L) v w:=h.sub fun k hk hd=>⟨hd,fun hm=>by have:=hL k hm; omega⟩
def In.nw (h:In G (Dl D L) v w) (hg:w.heap.size≤g):In G (Dl D (g :: L)) v w:=h.sub fun k hk hd=>⟨hd.1,fun hm=>by
 rcases List.mem_cons.1 hm with e | hm
 ·omega
 ·exact hd.2 hm⟩
def In.ow (h:In G (Dl D L) v w1) (k:Kp (fun k=>k≠g) w1 w2) (hg:g ∈ L):In G (Dl D L) v w2:=h.kp (k.mono fun j _ hj e=>hj.2 (e ▸ hg))
def In.ul (h:In G (Dl D L) v w):In G D v w:=h.sub fun _ _ h=>h.1
def Fr.nL (h:Fr D w) (hx:Ext w w1) (hL:∀ g ∈ L,g < w1.heap.size):Fr (Dl D L) w1:=fun k hk=>⟨h k (Nat.le_trans hx.size hk),fun hm=>by have:=hL k hm; omega⟩
def Fr.nw (h:Fr (Dl D L) w) (hx:Ext w w1) (hg:g < w1.heap.size):Fr (Dl D (g :: L)) w1:=fun k hk=>⟨(h k (Nat.le_trans hx.size hk)).1,fun hm=>by
 rcases List.mem_cons.1 hm with e | hm
 ·omega
 ·exact (h k (Nat.le_trans hx.size hk)).2 hm⟩
def Fr.ow (h:Fr D w1) (k:Kp (fun k=>k≠g) w1 w2):Fr D w2:=h.kp k
def Kp.all (h:Kp (fun k=>k ∉ ([]:List Nat)) w w1):Ext w w1:=h.mono fun _ _ _=>by simp
def In.wk (h:In G (Dl D (g :: L)) v w):In G (Dl D L) v w:=h.sub fun _ _ h=>⟨h.1,fun hm=>h.2 (List.mem_cons_of_mem _ hm)⟩
def Fr.wk (h:Fr (Dl D (g :: L)) w):Fr (Dl D L) w:=fun k hk=>⟨(h k hk).1,fun hm=>(h k hk).2 (List.mem_cons_of_mem _ hm)⟩
def Rt.fin (hx:Ext w w0) (h:In G (Dl D L) v w0) (k:Kp (fun k=>k≠g) w0 w1) (hg:g ∈ L) (hw:w.heap.size≤g):Rt G D w (.returned v) w1 :=
 ⟨v,rfl,hx.under k fun k hk=>by omega,(h.ow k hg).ul⟩
def Rt.fin1 (hx:Ext w w0) (h:In G D v w0):Rt G D w (.returned v) w0:=⟨v,rfl,hx,h⟩
end
def q6b {P:Program} {w:World} {T t g i:Nat} {v:Value} {cs:Array Value} {K:World→Prop} (hb:Blk w g t cs) (hs:q03 P T=some 1) (hv:v.cells=#[v]) (hi:i < cs.size) (h1:v.oneCell'=true)
  (hK:∀ w',Kp (fun k=>k≠g) w w'→Blk w' g t (cs.setIfInBounds i v)→w'.heap.size=w.heap.size→K w'):q3f P T w (.pointer (some ⟨g,i,none⟩)) v K:=by
 rw [q50,hv];refine ⟨hs,⟨?_,?_,h1,trivial⟩,hK _ ?_ ?_ ?_⟩
 ·rw [q06,Nat.add_zero,hb.cell,Array.getElem?_eq_getElem hi]; rfl
 ·rw [q06,Nat.add_zero]; exact hb.frozen i
 ·simp only [stN,q06,Nat.add_zero];exact Kp.setCell w (fun _ h=>h rfl) v
 ·simp only [stN,q06,Nat.add_zero];exact hb.set i v
 ·simp [stN,World.setCell]
section
variable {w:World} {g t:Nat} {a b c d e f h i:Value} {l:List Value}
def Blk.c0 (hb:Blk w g t ⟨a :: l⟩):w.cell? ⟨g,0,none⟩=some a:=hb.cell 0
def Blk.c1 (hb:Blk w g t ⟨a :: b :: l⟩):w.cell? ⟨g,1,none⟩=some b:=hb.cell 1
def Blk.c2 (hb:Blk w g t ⟨a :: b :: c :: l⟩):w.cell? ⟨g,2,none⟩=some c:=hb.cell 2
def Blk.c3 (hb:Blk w g t ⟨a :: b :: c :: d :: l⟩):w.cell? ⟨g,3,none⟩=some d:=hb.cell 3
def Blk.c4 (hb:Blk w g t ⟨a :: b :: c :: d :: e :: l⟩):w.cell? ⟨g,4,none⟩=some e:=hb.cell 4
def Blk.c5 (hb:Blk w g t ⟨a :: b :: c :: d :: e :: f :: l⟩):w.cell? ⟨g,5,none⟩=some f:=hb.cell 5
def Blk.c6 (hb:Blk w g t ⟨a :: b :: c :: d :: e :: f :: h :: l⟩):w.cell? ⟨g,6,none⟩=some h:=hb.cell 6
def Blk.l2 (hb:Blk w g t ⟨[a,b]⟩):ldV w (some (some 2)) (.pointer (some ⟨g,0,none⟩))=some (.agg #[a,b]):=q25 hb rfl
def Blk.l3 (hb:Blk w g t ⟨[a,b,c]⟩):ldV w (some (some 3)) (.pointer (some ⟨g,0,none⟩))=some (.agg #[a,b,c]):=q25 hb rfl
def Blk.l4 (hb:Blk w g t ⟨[a,b,c,d]⟩):ldV w (some (some 4)) (.pointer (some ⟨g,0,none⟩))=some (.agg #[a,b,c,d]):=q25 hb rfl
def Blk.ld (hb:Blk w g t ⟨l⟩) {k:Nat} (hk:l.length=k):ldV w (some (some k)) (.pointer (some ⟨g,0,none⟩))=some (.agg ⟨l⟩):=q25 hb hk
end
def Shp (k:Nat) (v:Value):Prop:=∃ cs:Array Value,v=.agg cs∧cs.size=k∧cs.toList.all (·.oneCell')=true
def q1h {P:Program} {w:World} {T t g k:Nat} {v:Value} {cs:Array Value} {K:World→Prop} (hb:Blk w g t cs) (hs:q03 P T=some k) (hc:cs.size=k) (hv:Shp k v)
  (hK:∀ w',Kp (fun k=>k≠g) w w'→Blk w' g t v.cells→K w'):q3f P T w (.pointer (some ⟨g,0,none⟩)) v K:=by
 obtain ⟨c2,rfl,h1,h2⟩:=hv;exact q00 hb (by rw [hs,← h1]; rfl) (by show c2.size=_; omega) h2 hK
def qak {P:Program} {w:World} {e:Env} {a T t g k:Nat} {v:Value} (he:e a=.pointer (some ⟨g,0,none⟩)) (hk:q0f P T=some (some k)) (hb:Blk w g t v.cells) (hv:Shp k v):q7R P w e (.cell a T)=some v:=by
 obtain ⟨c2,rfl,h1,h2⟩:=hv;exact q0p he hk hb h1
def qcJ {P:Program} {fn:Func} {R:Ending→World→Prop} {e:Env} {w:World} {a T t g k:Nat} {v:Value} (h:fn.results=#[.cell a T]) (he:e a=.pointer (some ⟨g,0,none⟩)) (hk:q0f P T=some (some k)) (hb:Blk w g t v.cells) (hv:Shp k v) (hR:R (.returned v) w):q9D P fn R .ret e w :=
 q3D h (qak he hk hb hv) hR
def qmw {P:Program} {fn:Func} {R:Ending→World→Prop} {e:Env} {w:World} {a T t g k u:Nat} {v:Value} (h:fn.results=#[.cell a T,.tmp u]) (he:e a=.pointer (some ⟨g,0,none⟩)) (hk:q0f P T=some (some k)) (hb:Blk w g t v.cells) (hv:Shp k v) (hR:R (.returned (.tuple #[v,e u])) w):q9D P fn R .ret e w :=
 qmz h (qak he hk hb hv) rfl hR
def Rt.own {G:Fam} {D:Nat→Prop} {v:Value} {w w0 w1:World} {g a b:Nat} (hx:Ext w w0) (h:In G (Dx D a b) v w0) (k:Kp (fun k=>k≠g) w0 w1) (h1:a≤g) (h2:g < b) (hw:w.heap.size≤g):Rt G D w (.returned v) w1 :=
 ⟨v,rfl,hx.under k fun k hk=>by omega,(h.own k h1 h2).un⟩
end Go.E
namespace Go.Proofs.YtbcmhlhgljoolaaGreatDoor
open Go Go.E Go.Sp
def fB (z:Int):Fam:=⟨fun D v w=>∃ s A n c,v=.agg #[.bool s,.slice A n c]∧Big w D s A n c z,fun k ⟨s,A,n,c,e,h⟩=>⟨s,A,n,c,e,h.kp k⟩,fun k ⟨s,A,n,c,e,h⟩=>⟨s,A,n,c,e,h.sub k⟩⟩
def fU (l:List Nat):Fam:=⟨fun D v w=>∃ A n c,v=.slice A n c∧U32 w D A n c l,fun k ⟨A,n,c,e,h⟩=>⟨A,n,c,e,h.kp k⟩,fun k ⟨A,n,c,e,h⟩=>⟨A,n,c,e,h.sub k⟩⟩
def fV (V:Int):Fam:=⟨fun D v w=>∃ s A n c,v=.agg #[.bool false,.bool s,.slice A n c,.int .i64 (dyE V)]∧Big w D s A n c (od V)∧q0k V,fun k ⟨s,A,n,c,e,h,o⟩=>⟨s,A,n,c,e,h.kp k,o⟩,fun k ⟨s,A,n,c,e,h,o⟩=>⟨s,A,n,c,e,h.sub k,o⟩⟩
section
variable {D:Nat→Prop} {v:Value} {w w':World} {z V m e:Int} {l:List Nat} {s:Bool} {A:Option Addr} {n c:Nat}
def Big.in (h:Big w D s A n c z):In (fB z) D (.agg #[.bool s,.slice A n c]) w:=⟨s,A,n,c,rfl,h⟩
def U32.in (h:U32 w D A n c l):In (fU l) D (.slice A n c) w:=⟨A,n,c,rfl,h⟩
def Big.own {w1 w2:World} {g a b:Nat} (h:Big w1 (Dx D a b) s A n c z) (k:Kp (fun k=>k≠g) w1 w2) (h1:a≤g) (h2:g < b):Big w2 (Dx D a b) s A n c z:=h.kp (k.mono fun _ _ h=>Dx.ne h h1 h2)
def Big.un {a b:Nat} (h:Big w (Dx D a b) s A n c z):Big w D s A n c z:=h.sub fun _ _ h=>h.1
def U32.own {w1 w2:World} {g a b:Nat} (h:U32 w1 (Dx D a b) A n c l) (k:Kp (fun k=>k≠g) w1 w2) (h1:a≤g) (h2:g < b):U32 w2 (Dx D a b) A n c l:=h.kp (k.mono fun _ _ h=>Dx.ne h h1 h2)
def Big.dx (h:Big w D s A n c z) {a b:Nat} (ha:w.heap.size≤a):Big w (Dx D a b) s A n c z:=h.sub fun _ hk hd=>Dx.lt hd Oq
def U32.dx (h:U32 w D A n c l) {a b:Nat} (ha:w.heap.size≤a):U32 w (Dx D a b) A n c l:=h.sub fun _ hk hd=>Dx.lt hd Oq
def q4g (h:In (fB z) D v w):Shp 2 v:=by obtain ⟨s,A,n,c,rfl,_⟩:=h; exact ⟨_,rfl,rfl,rfl⟩
def qhH (h:In (fV V) D v w):Shp 4 v:=by obtain ⟨s,A,n,c,rfl,_⟩:=h; exact ⟨_,rfl,rfl,rfl⟩
end
end Go.Proofs.YtbcmhlhgljoolaaGreatDoor
namespace Go.E
open Go.Proofs.YtbcmhlhgljoolaaGreatDoor Go.Sp
section
variable {D:Nat→Prop} {v:Value} {w w':World} {z V m e:Int} {l:List Nat} {s:Bool} {A:Option Addr} {n c:Nat}
def _root_.Go.Proofs.YtbcmhlhgljoolaaGreatDoor.U32.cx {ad:Addr} (h:U32 w D (some ad) n c l) {j:Nat} (hj:j < n):w.cell? (ad.add j)=some (.int .u32 ((dg l j:Nat):Int)):=by
 obtain ⟨_,e,h⟩:=h.cell hj; cases e; exact h
def In.big (h:In (fB z) D (.agg #[.bool s,.slice A n c]) w):Big w D s A n c z:=by
 obtain ⟨_,_,_,_,e,h⟩:=h; cases e; exact h
def In.u32 (h:In (fU l) D (.slice A n c) w):U32 w D A n c l:=by
 obtain ⟨_,_,_,e,h⟩:=h; cases e; exact h
def In.mag (h:In (fB z) D (.agg #[.bool s,.slice A n c]) w):In (fU (lim z.natAbs)) D (.slice A n c) w:=h.big.2.in
def In.sg (h:In (fB z) D (.agg #[.bool s,.slice A n c]) w):s=decide (z < 0):=h.big.1
def In.ok (h:In (fV V) D v w):q0k V:=by obtain ⟨_,_,_,_,_,_,h⟩:=h; exact h
end
end Go.E
namespace Go.Proofs.YtbcmhlhgljoolaaGreatDoor
open Go Go.E Go.Sp
section
variable {D:Nat→Prop} {v:Value} {w w':World} {z V m e:Int} {l:List Nat} {s:Bool} {A:Option Addr} {n c:Nat}
def in_V (h:In (fB m) D (.agg #[.bool s,.slice A n c]) w) (hm:m=od V) (he:e=dyE V) (ho:q0k V):In (fV V) D (.agg #[.bool false,.bool s,.slice A n c,.int .i64 e]) w:=by
 subst hm; subst he; exact ⟨s,A,n,c,rfl,h.big,ho⟩
def Big.n_le (h:Big w D s A n c z) {k:Nat} (hz:bl z.natAbs≤32*k):n≤k:=by
 have h1:=h.len;rw [q3h] at h1; omega
def q0x {F:FuncId} {args:Array Value} (h:Calls Tryz.prog F args w fun e w'=>∃ s' A' n' c',e=.returned (.agg #[.bool s',.slice A' n' c'])∧Ext w w'∧Big w' D s' A' n' c' z):Calls Tryz.prog F args w (Rt (fB z) D w) :=
 h.mono fun _ _ ⟨_,_,_,_,e,hx,hB⟩=>⟨_,e,hx,hB.in⟩
end
section
variable {D:Nat→Prop} {v v':Value} {w:World} {a b:Int}
def qeO (h:In (fB a) D v w) (ha:bl a.natAbs≤20000000) (hf:Fr D w):Calls Tryz.prog 157 #[v] w (Rt (fB a) D w):=by
 obtain ⟨s,A,n,c,rfl,hB⟩:=h;have:=q0x (q55 (s:=s) hB.2 (by have:=hB.n_le (k:=1000000) (by omega); omega) hf)
 rwa [q0I,hB.sgn] at this
def qeU (h:In (fB a) D v w) (ha:bl a.natAbs≤20000000) (hf:Fr D w):Calls Tryz.prog 151 #[v] w (Rt (fB a.natAbs) D w):=by
 obtain ⟨s,A,n,c,rfl,hB⟩:=h;have:=q0x (qnO (s:=s) hB.2 (by have:=hB.n_le (k:=1000000) (by omega); omega) hf)
 rwa [q0I] at this
def qsI (h:In (fB a) D v w) (ha:bl a.natAbs≤20000000) (hf:Fr D w):Calls Tryz.prog 172 #[v] w (Rt (fB (-a)) D w):=by
 obtain ⟨s,A,n,c,rfl,hB⟩:=h;have:=q0x (qeP (s:=s) hB.2 (by have:=hB.n_le (k:=1000000) (by omega); omega) hf)
 rwa [q0I,show sgn (!s) a.natAbs = -a by have:=hB.sgn; cases s <;> simp_all [sgn] <;> omega] at this
def qeJ (h:In (fB a) D v w) (ha:bl a.natAbs≤20000000) (hf:Fr D w):Calls Tryz.prog 148 #[v] w fun e w'=>e=.returned (.int .i64 a.sign)∧Ext w w':=by
 obtain ⟨s,A,n,c,rfl,hB⟩:=h;have:=qhw (s:=s) hB.2 (by have:=hB.n_le (k:=1000000) (by omega); omega) hf
 rwa [q0I,hB.sgn] at this
def q5z (h:In (fB a) D v w) (ha:bl a.natAbs≤20000000):Calls Tryz.prog 155 #[v] w fun e w'=>e=.returned (.int .i64 (bl a.natAbs:Nat))∧Ext w w':=by
 obtain ⟨s,A,n,c,rfl,hB⟩:=h;have:=qcN (s:=s) hB.2 (by have:=hB.n_le (k:=1000000) (by omega); omega)
 rwa [q0I] at this
def qnJ (h:In (fB a) D v w) (ha:bl a.natAbs≤20000000) {m:Nat} (hm:m≤1000000000000) (hf:Fr D w):Calls Tryz.prog 251 #[v,.int .i64 m] w fun e w'=>e=.returned (.bool (decide (a.natAbs % 2 ^ m≠0)))∧Ext w w':=by
 obtain ⟨s,A,n,c,rfl,hB⟩:=h;have:=qiD (s:=s) hB.2 (by have:=hB.n_le (k:=1000000) (by omega); omega) hm hf
 rwa [q0I] at this
def qkf (h:In (fB a) D v w) (h':In (fB b) D v' w) (ha:bl a.natAbs≤20000000) (hb:bl b.natAbs≤20000000) (hf:Fr D w):Calls Tryz.prog 153 #[v,v'] w (Rt (fB (a+b)) D w):=by
 obtain ⟨s,A,n,c,rfl,hB⟩:=h;obtain ⟨s',A',n',c',rfl,hB'⟩:=h';have:=q0x (qeT (s:=s) (s':=s') hB.2 hB'.2 (by have:=hB.n_le (k:=1000000) (by omega); omega) (by have:=hB'.n_le (k:=1000000) (by omega); omega) hf)
 rwa [q0I,q0I,hB.sgn,hB'.sgn] at this
def qsH (h:In (fB a) D v w) (h':In (fB b) D v' w) (ha:bl a.natAbs≤20000000) (hb:bl b.natAbs≤20000000) (hf:Fr D w):Calls Tryz.prog 219 #[v,v'] w (Rt (fB (a-b)) D w):=by
 obtain ⟨s,A,n,c,rfl,hB⟩:=h;obtain ⟨s',A',n',c',rfl,hB'⟩:=h';have:=q0x (qeI (s:=s) (s':=s') hB.2 hB'.2 (by have:=hB.n_le (k:=1000000) (by omega); omega) (by have:=hB'.n_le (k:=1000000) (by omega); omega) hf)
 rwa [q0I,q0I,hB.sgn,hB'.sgn] at this
def qsJ (h:In (fB a) D v w) (h':In (fB b) D v' w) (ha:bl a.natAbs≤20000000) (hb:bl b.natAbs≤20000000) (hf:Fr D w):Calls Tryz.prog 233 #[v,v'] w (Rt (fB (a*b)) D w):=by
 obtain ⟨s,A,n,c,rfl,hB⟩:=h;obtain ⟨s',A',n',c',rfl,hB'⟩:=h';have:=q0x (qnG (s:=s) (s':=s') hB.2 hB'.2 (by have:=hB.n_le (k:=1000000) (by omega); omega) (by have:=hB'.n_le (k:=1000000) (by omega); omega) hf)
 rwa [q0I,q0I,hB.sgn,hB'.sgn] at this
def q7U (h:In (fB a) D v w) (ha:bl a.natAbs≤20000000) {m:Int} (h1 : -1000000000≤m) (h2:m≤1000000000) (hf:Fr D w):Calls Tryz.prog 154 #[v,.int .i64 m] w (Rt (fB (shI a m)) D w):=by
 obtain ⟨s,A,n,c,rfl,hB⟩:=h;have:=q0x (qeK (s:=s) hB.2 (by have:=hB.n_le (k:=1000000) (by omega); omega) h1 h2 hf)
 rwa [q0I,hB.sgn] at this
def q6f (h1 : -9223372036854775808≤a) (h2:a≤9223372036854775807) (hf:Fr D w):Calls Tryz.prog 150 #[.int .i64 a] w (Rt (fB a) D w):=q0x (q5y h1 h2 hf)
end
end Go.Proofs.YtbcmhlhgljoolaaGreatDoor
namespace Go.E
open Go Go.RowKit
def q0h (vs:List Value):List Value:=vs.flatMap fun v=>v.cells.toList
def Cel (sz:Nat) (v:Value):Prop:=v.cells.size=sz∧v.cells.toList.all (·.oneCell')=true
def Shp.cel {k:Nat} {v:Value} (h:Shp k v):Cel k v:=by
 obtain ⟨cs,rfl,h1,h2⟩:=h; exact ⟨h1,h2⟩
structure Els {α:Type} (G:α→Fam) (D:Nat→Prop) (sz:Nat) (w:World) (l:List α) (vs:List Value):Prop where
 len:vs.length=l.length
 get:∀ (i:Nat) (x:α),l[i]?=some x→∃ v,vs[i]?=some v∧In (G x) D v w∧Cel sz v
section
variable {α:Type} {G:α→Fam} {D D':Nat→Prop} {sz:Nat} {w w':World} {l:List α} {vs:List Value}
def Els.kp (h:Els G D sz w l vs) (k:Kp D w w'):Els G D sz w' l vs:=⟨h.len,fun i x hx=>by obtain ⟨v,a,b,c⟩:=h.get i x hx; exact ⟨v,a,b.kp k,c⟩⟩
def Els.sub (h:Els G D sz w l vs) (k:∀ k,k < w.heap.size→D k→D' k):Els G D' sz w l vs:=⟨h.len,fun i x hx=>by obtain ⟨v,a,b,c⟩:=h.get i x hx; exact ⟨v,a,b.sub k,c⟩⟩
def Els.nil:Els G D sz w [] []:=⟨rfl,fun i x hx=>by simp at hx⟩
def Els.snoc (h:Els G D sz w l vs) {x:α} {v:Value} (hv:In (G x) D v w) (hc:Cel sz v):Els G D sz w (l ++ [x]) (vs ++ [v]):=by
 refine ⟨by simp [h.len],fun i y hy=>?_⟩
 rcases Nat.lt_or_ge i l.length with hi | hi
 ·rw [List.getElem?_append_left hi] at hy;obtain ⟨u,a,b⟩:=h.get i y hy;exact ⟨u,by rw [List.getElem?_append_left (by rw [h.len]; exact hi)]; exact a,b⟩
 ·rw [List.getElem?_append_right hi] at hy;have h0:i-l.length=0:=by
   rcases Nat.eq_zero_or_pos (i-l.length) with h0 | h0
   ·exact h0
   ·rw [List.getElem?_eq_none (by simp; omega)] at hy; cases hy
  rw [h0] at hy;simp only [List.getElem?_cons_zero,Option.some.injEq] at hy;subst hy;refine ⟨v,?_,hv,hc⟩;rw [List.getElem?_append_right (by rw [h.len]; exact hi),h.len,h0]; rfl
def q5c {vs:List Value} {sz:Nat} (hv:∀ v ∈ vs,v.cells.size=sz) {i j:Nat} {v:Value} (hi:vs[i]?=some v) (hj:j < sz):(q0h vs)[i*sz+j]?=v.cells[j]?:=by
 induction vs generalizing i with
 | nil=>simp at hi
 | cons u vs ih =>
  have h1:=hv u List.mem_cons_self;unfold q0h at *;rw [List.flatMap_cons];cases i with
  | zero =>
   simp at hi; subst hi;rw [List.getElem?_append_left (by simp; omega)]; simp
  | succ i =>
   rw [List.getElem?_append_right (by rw [Array.length_toList,h1,Nat.succ_mul]; omega),Array.length_toList,h1];have:=ih (fun x hx=>hv x (List.mem_cons_of_mem _ hx)) (i:=i) (by simpa using hi);rw [← this]; congr 1; rw [Nat.succ_mul]; omega
def qfd (vs:List Value) (v:Value):q0h (vs ++ [v])=q0h vs ++ v.cells.toList:=by simp [q0h]
end
def fSl {α : Type} (sz : Nat) (G : α → Fam) (l : List α) : Fam :=
  ⟨fun D v w => ∃ A n c vs, v = .slice A n c ∧ Row w D sz A n c (q0h vs) ∧ Els G D sz w l vs ∧ l.length = n,
   fun k ⟨A, n, c, vs, e, h1, h2, h3⟩ => ⟨A, n, c, vs, e, h1.kp k, h2.kp k, h3⟩,
   fun k ⟨A, n, c, vs, e, h1, h2, h3⟩ => ⟨A, n, c, vs, e, h1.sub k, h2.sub k, h3⟩⟩
def fSc {α:Type} (f:α→Value) (l:List α):Fam :=
 ⟨fun D v w=>∃ A n c,v=.slice A n c∧Row w D 1 A n c (l.map f),fun k ⟨A,n,c,e,h⟩=>⟨A,n,c,e,h.kp k⟩,fun k ⟨A,n,c,e,h⟩=>⟨A,n,c,e,h.sub k⟩⟩
section
variable {α:Type} {G:α→Fam} {f:α→Value} {D D':Nat→Prop} {sz:Nat} {w w':World} {l:List α} {vs:List Value} {A:Option Addr} {n c:Nat} {v:Value}
def In.sc_row (h:In (fSc f l) D (.slice A n c) w):Row w D 1 A n c (l.map f):=by
 obtain ⟨_,_,_,e,h⟩:=h; cases e; exact h
def In.sc_len (h:In (fSc f l) D (.slice A n c) w):l.length=n:=by have:=h.sc_row.len; simpa using this
def In.sc_get (h:In (fSc f l) D (.slice A n c) w) {i:Nat} (hi:i < l.length):∃ ad,A=some ad∧w.cell? (ad.add i)=some (f l[i]):=by
 obtain ⟨ad,h1,h2⟩:=h.sc_row.get (j:=i) (by simpa using hi);exact ⟨ad,h1,by rw [h2]; simp⟩
def In.sc_nil:In (fSc f ([]:List α)) D (.slice none 0 0) w:=⟨none,0,0,rfl,Row.nil _ _ _⟩
def In.sl_len (h:In (fSl sz G l) D (.slice A n c) w):l.length=n:=by obtain ⟨_,_,_,_,e,_,_,h⟩:=h; cases e; exact h
def qkd {w:World} {p:Addr}:∀ (cs:List Value) (i:Nat),(∀ j u,cs[j]?=some u→w.cell? (p.add (i+j))=some u)→q1C w p i cs.length=some cs
 | [],_,_=>rfl
 | c :: cs,i,h=>by
  rw [List.length_cons,rd_s,show w.cell? (p.add i)=some c from h 0 c rfl,qkd cs (i+1) (fun j u hu=>by rw [show i+1+j=i+(j+1) by omega]; exact h (j+1) u (by simpa using hu))]; rfl
def q4A {α:Type} (G:α→Fam) (T sz:Nat) (w:World) (D:Nat→Prop) (B:Nat) (A:Option Addr) (n c:Nat) (l:List α):Prop :=
 ∃ vs,Own w B T sz A n c (q0h vs)∧Els G (fun k=>D k∧nb A k) sz w l vs∧l.length=n
variable {T B:Nat}
def q4A.nil:q4A G T sz w D B none 0 0 []:=⟨[],Own.nil _ _ _ _,Els.nil,rfl⟩
def Own.blk_lt {xs:List Value} (h:Own w B T sz A n c xs):∀ a,A=some a→a.block < w.heap.size∧B≤a.block:=by
 intro a ha
 rcases h.form with ⟨h0,_⟩ | ⟨g,_,h0,hb,hg,_⟩
 ·rw [h0] at ha; cases ha
 ·rw [h0] at ha; obtain rfl:=Option.some.inj ha; exact ⟨hg.lt,hb⟩
def q4A.in (h:q4A G T sz w D B A n c l) (hd:∀ k,B≤k→D k):In (fSl sz G l) D (.slice A n c) w:=by
 obtain ⟨vs,h1,h2,h3⟩:=h;exact ⟨A,n,c,vs,rfl,h1.row.sub fun k _ hk=>hd k hk,h2.sub fun k _ hk=>hk.1,h3⟩
def q4A.len (h:q4A G T sz w D B A n c l):l.length=n:=by obtain ⟨_,_,_,h⟩:=h; exact h
def q4A.ext (h:q4A G T sz w D B A n c l) (k:Ext w w'):q4A G T sz w' D B A n c l:=by
 obtain ⟨vs,h1,h2,h3⟩:=h;exact ⟨vs,h1.ext k,h2.kp (Kp.of_ext k),h3⟩
def q4A.kp (h:q4A G T sz w D B A n c l) {D':Nat→Prop} (k:Kp D' w w') (hd:∀ k,D k→D' k) (ha:∀ a,A=some a→D' a.block):q4A G T sz w' D B A n c l:=by
 obtain ⟨vs,h1,h2,h3⟩:=h;exact ⟨vs,h1.kp k ha,h2.kp (k.mono fun j _ hj=>hd j hj.1),h3⟩
def In.grew {H:Fam} {u:Value} {A':Option Addr} (h:In H (fun k=>D k∧nb A k) u w) (k:Kp (nb A) w w') (ha:A'=A∨∃ g,w.heap.size≤g∧A'=some ⟨g,0,none⟩):In H (fun k=>D k∧nb A' k) u w':=by
 have h1:In H (fun k=>(D k∧nb A k)∧k < w.heap.size) u w:=h.sub fun j hj hd=>⟨hd,hj⟩;refine (h1.kp (k.mono fun j _ hj=>hj.1.2)).sub fun j _ hj=>⟨hj.1.1,?_⟩
 rcases ha with rfl | ⟨g,hg,rfl⟩
 ·exact hj.1.2
 ·intro a ha; cases ha; simp only; have:=hj.2; omega
def Fr.nb (h:Fr D w) (ha:∀ a,A=some a→a.block < w.heap.size):Fr (fun k=>D k∧nb A k) w:=fun k hk=>⟨h k hk,fun a h0=>by have:=ha a h0; omega⟩
end
section
variable {P:Program} {w:World} {α:Type} {G:α→Fam}
end
end Go.E
namespace Go.Sp
def qbj (q r a b:Nat) (ha:a < 2) (hb:b < 2):(2*q+a) &&& (2*r+b)=2*(q &&& r)+(a*b):=by
 have hab:a*b < 2:=by
  rcases Nat.lt_or_ge a 1 with h | h
  ·rw [show a=0 by omega]; simp
  ·rw [show a=1 by omega]; omega
 apply Nat.eq_of_testBit_eq
 intro i;cases i with
 | zero =>
  rw [Nat.testBit_and,Nat.testBit_zero,Nat.testBit_zero,Nat.testBit_zero];have e1:(2*q+a) % 2=a:=by omega
  have e2:(2*r+b) % 2=b:=by omega
  have e3:(2*(q &&& r)+a*b) % 2=a*b:=by omega
  rw [e1,e2,e3]
  rcases Nat.lt_or_ge a 1 with h | h
  ·rw [show a=0 by omega]; simp
  ·rw [show a=1 by omega]; simp
 | succ i =>
  rw [Nat.testBit_and,Nat.testBit_succ,Nat.testBit_succ,Nat.testBit_succ];have e1:(2*q+a) / 2=q:=by omega
  have e2:(2*r+b) / 2=r:=by omega
  have e3:(2*(q &&& r)+a*b) / 2=q &&& r:=by omega
  rw [e1,e2,e3,Nat.testBit_and]
def qjw {q n:Nat} (h:q < 2 ^ n):q &&& (2 ^ n-(q+1))=0:=by
 apply Nat.eq_of_testBit_eq
 intro i;rw [Nat.testBit_and,Nat.testBit_two_pow_sub_succ h,Nat.zero_testBit];cases q.testBit i <;> simp
def iso:∀ {n x:Nat},0 < x→x < 2 ^ n→x &&& (2 ^ n-x)=2 ^ tz x
 | 0,x,h1,h2=>by simp at h2; omega
 | n+1,x,h1,h2=>by
  rw [Nat.pow_succ] at h2
  by_cases ho:x % 2=1
  ·rw [qaY ho];have hq:x / 2 < 2 ^ n:=by omega
   have e1:x=2*(x / 2)+1:=by omega
   have e2:2 ^ (n+1)-x=2*(2 ^ n-(x / 2+1))+1:=by rw [Nat.pow_succ]; omega
   rw [e2];generalize hy:x / 2=y at *;rw [e1,qbj _ _ 1 1 Oq Oq,qjw hq]
  ·have hq:x / 2 < 2 ^ n:=by omega
   have e1:x=2*(x / 2)+0:=by omega
   have e2:2 ^ (n+1)-x=2*(2 ^ n-x / 2)+0:=by rw [Nat.pow_succ]; omega
   have ht:tz x=tz (x / 2)+1:=by
    have:=qkR (n:=x / 2) Oq 1
    rwa [show x / 2*2 ^ 1=x by omega] at this
   have ih:=iso (n:=n) (x:=x / 2) Oq hq;rw [ht,e2,Nat.pow_succ,← ih];generalize hy:x / 2=y at *;rw [e1,qbj _ _ 0 0 Oq (by omega)]; omega
def qdU:List Nat:=[0,1,28,2,29,14,24,3,30,22,20,15,25,17,4,8,31,27,13,23,21,19,16,7,26,12,18,6,11,5,10,9]
def qm9:((List.range 32).all fun k=>Nat.beq (qdU.getD (2 ^ k*125613361 % 4294967296 / 134217728) 99) k)=true:=by decide
def qm8 {k:Nat} (h:k < 32):qdU.getD (2 ^ k*125613361 % 4294967296 / 134217728) 99=k:=by
 have:=qm9;rw [List.all_eq_true] at this;exact Nat.eq_of_beq_eq_true (this k (List.mem_range.2 h))
end Go.Sp
namespace Go.Proofs.YtbcmhlhgljoolaaGreatDoor
open Go Go.E Go.Sp
def q2i (w:World):Prop:=∀ k,k < 32→w.cell? ⟨0,k,none⟩=some (.int .u8 ((qdU.getD k 99:Nat):Int))
def q2i.ext {w w':World} (h:q2i w) (k:Ext w w'):q2i w':=fun i hi=>k.cell (D:=fun _=>True) trivial (h i hi)
def que:qch Tryz.prog 241=some (32,1):=by kernel_rfl
def qdN {x:Nat} {w:World} (hT:q2i w) (hx0:0 < x) (hx:x < 4294967296) :
  Calls Tryz.prog 222 #[.int .u32 x] w fun e w'=>e=.returned (.int .i64 (tz x:Nat))∧w=w':=by
 refine q0J Tryz.func222 rfl Tryz.ntmps222 (by kernel_rfl) ?_;refine Wz ?_;refine q0B fun K0 hK0=>?_;have h0:((x:Int) == 0)=false:=by rw [q8u]; exact decide_eq_false Oq
 refine Wz ?_;refine q02 rfl (fun hc=>by rw [h0] at hc; cases hc) (fun hc=>q0G (hK0 _ _ ?_));clear hK0;have ht:=q7B Oq hx;have hp:2 ^ tz x < 4294967296:=Nat.pow_lt_pow_right Oq ht;have e1:IntKind.u32.wrap (0-(x:Int))=((4294967296-x:Nat):Int):=by rw [q2o]; omega
 have e2:q0y .and .u32 (x:Int) ((4294967296-x:Nat):Int)=((2 ^ tz x:Nat):Int):=by
  rw [qbk hx (by omega)];exact congrArg Nat.cast (iso (n:=32) hx0 hx)
 have e3:IntKind.u32.wrap (((2 ^ tz x:Nat):Int)*125613361)=((2 ^ tz x*125613361 % 4294967296:Nat):Int):=by rw [q2o]; omega
 have hi:2 ^ tz x*125613361 % 4294967296 / 134217728 < 32:=by omega
 have e4:(0:Int)≤((2 ^ tz x*125613361 % 4294967296 / 134217728:Nat):Int)∧((2 ^ tz x*125613361 % 4294967296 / 134217728:Nat):Int) < (32:Nat):=by omega
 have hg:=hT _ hi;rw [qm8 ht] at hg;have e5:IntKind.i64.wrap ((tz x:Nat):Int)=((tz x:Nat):Int):=i64_in Oq Oq;refine q0A fun K hK=>?_;simp -implicitDefEqProofs (disch:=omega) only [go_sem,Nat.reduceEqDiff,Nat.reduceAdd,↓reduceIte,e1,e2,e3,e4,que,hg,e5,ev];refine hK _ _ ?_; clear hK K;refine q0O ?_
 try simp only [q0D,q0S]
 refine q1S rfl ⟨rfl,rfl⟩
def qsG {D:Nat→Prop} {A:Option Addr} {n c:Nat} {l:List Nat} {s:Bool} {w:World} (hT:q2i w) (h:U32 w D A n c l) (hb:n≤900000000) :
  Calls Tryz.prog 158 #[.agg #[.bool s,.slice A n c]] w fun e w'=>e=.returned (.int .i64 (tz (val l):Nat))∧Ext w w':=by
 refine q0J Tryz.func158 rfl Tryz.ntmps158 (by kernel_rfl) ?_;refine q0A fun K hK=>?_;refine Zz ?_;refine q01 ?_;intro g1 w1 hg1 hx1 hb1 hs1;refine hK _ _ ?_; clear hK;have hc1:w1.cell? ⟨g1,1,none⟩=some (.slice A n c):=hb1.cell 1;refine q0A fun K hK=>?_;refine Zz1 hc1 ?_;refine q0F q3B (q18 (h.ext hx1) Oq) ?_;rintro _ w2 ⟨A2,n2,c2,rfl,hx2,hO⟩; refine ⟨_,rfl,?_⟩;refine hK _ _ ?_; clear hK;have hx:=hx1.trans hx2;have hU:U32 w2 (fun _=>True) A2 n2 c2 (lim (val l)):=hO.u32 fun _ _=>trivial;have hlen:=hU.len;have hn2:n2≤900000000:=by have h2:=q24 h; omega
 replace hT:=hT.ext hx;refine q0B fun K0 hK0=>?_;refine Wz ?_;refine q0X ?_;refine q0a (fun e2 w2'=>w2'=w2∧∃ k:Nat,e2 4=.int .i64 k∧k≤n2∧val ((lim (val l)).take k)=0) (fun e2 _=>n2-(RowKit.intOf (e2 4)).toNat) ⟨rfl,0,rfl,Nat.zero_le _,by simp [val]⟩ ?_;rintro e1 w1 ⟨rfl,k,h4,hkn,hv⟩ hkk;have h3:e1 3=.slice A2 n2 c2:=(hkk 3 (by kernel_rfl)).trans Ue;clear hkk;refine q0B fun K1 hK1=>?_
 by_cases hlt:k < n2
 ·have hlt':(k:Int) < n2:=by omega
  refine Wz3 h4 h3 hlt' ?_;refine Wt (q0G (hK1 _ _ ?_));clear hK1;refine q0N fun K hK=>?_;have e2:(0:Int)≤k∧(k:Int) < n2:=by omega
  obtain ⟨ad,rfl,hcc⟩:=hU.cell hlt;refine Wz4 h4 h3 e2 hcc ?_
  by_cases hz:dg (lim (val l)) k=0
  ·have hz':(((dg (lim (val l)) k:Nat):Int) != 0)=false:=by rw [qlw]; simpa using hz
   refine q02 rfl (fun hc=>by rw [hz'] at hc; cases hc) (fun hc=>q0G (hK _ _ ?_));clear hK;refine q0Q fun K9 hK9=>?_;refine Zz2 h4 @i64_in ?_;refine hK9 _ _ ?_; clear hK9 K9;refine ⟨⟨rfl,k+1,rfl,by omega,q2P.2 ⟨hv,hz⟩⟩,?_⟩;simp only [q0E,↓reduceIte,RowKit.intOf,h4]; omega
  ·have hz':(((dg (lim (val l)) k:Nat):Int) != 0)=true:=by rw [qlw]; simpa using hz
   refine q02 rfl (fun hc=>?_) (fun hc=>by rw [hz'] at hc; cases hc);have htv:=qkQ (q1b _) Oq hv hz;rw [q0I] at htv;have hlt32:=q7B hz (hU.dg_lt k);have hs1:IntKind.i64.wrap (32*(k:Int))=((32*k:Nat):Int):=by rw [i64_in Oq (by omega)]; omega
   have hs2:IntKind.i64.wrap (((32*k:Nat):Int)+((tz (dg (lim (val l)) k):Nat):Int))=((tz (val l):Nat):Int):=by
    unfold dg at *;rw [i64_in Oq (by omega)]; omega
   refine q0A fun K hK=>?_;refine Zz5 h4 h3 e2 hcc hs1 ?_;refine q0F qgV (qdN hT Oq (hU.dg_lt _)) ?_;rintro _ w3 ⟨rfl,rfl⟩; refine ⟨_,rfl,?_⟩;refine Zz1 hs2 ?_;refine hK _ _ ?_; clear hK;refine q0O ?_
   try simp only [q0D,q0S]
   refine q1S rfl ⟨rfl,hx⟩
 ·have hlt':¬ (k:Int) < n2:=by omega
  refine Wz3 h4 h3 hlt' ?_;refine Wf (q04 ?_);obtain rfl:k=n2:=by omega
  refine hK0 _ _ ?_; clear hK0 hK1;refine Wz ?_;have h0:val l=0:=by
   rw [q0K _ _ Oq,q0I] at hv; exact hv
  refine q0O ?_
  try simp only [q0D,q0S]
  refine q1S rfl ⟨by rw [h0]; rfl,hx⟩
def qsF {D:Nat→Prop} {v:Value} {w:World} {a:Int} (hT:q2i w) (h:In (fB a) D v w) (ha:bl a.natAbs≤20000000):Calls Tryz.prog 158 #[v] w fun e w'=>e=.returned (.int .i64 (tz a.natAbs:Nat))∧Ext w w':=by
 obtain ⟨s,A,n,c,rfl,hB⟩:=h;have:=qsG (s:=s) hT hB.2 (by have:=hB.n_le (k:=1000000) (by omega); omega)
 rwa [q0I] at this
def qsK {D:Nat→Prop} {v:Value} {w:World} {a:Int} (h:In (fB a) D v w) (h0:0≤a) (ha:a≤9223372036854775807) (hf:Fr D w):Calls Tryz.prog 211 #[v] w fun e w'=>e=.returned (.tuple #[.int .i64 a,.bool true])∧Ext w w':=by
 obtain ⟨s,A,n,c,rfl,hB⟩:=h;refine q0J Tryz.func211 rfl Tryz.ntmps211 (by kernel_rfl) ?_;refine q0A fun K hK=>?_;refine Zz ?_;refine q01 ?_;intro g1 w1 hg1 hx1 hb1 hs1;refine hK _ _ ?_; clear hK K;have hx:Ext w w1:=hx1;replace hB:=(hB.sub (Dx.keep (a:=w.heap.size) (b:=w1.heap.size) rfl)).ext hx;have hD:Fr (Dx D w.heap.size w1.heap.size) w1:=Dx.fr (hf.kp hx) (Nat.le_refl _);have c1_0:∀ w',Ext w1 w'→w'.cell? ⟨g1,0,none⟩=some _:=fun w' hw=>(Blk.ext hb1 hw).c0;have c1_1:∀ w',Ext w1 w'→w'.cell? ⟨g1,1,none⟩=some _:=fun w' hw=>(Blk.ext hb1 hw).c1;have l1:∀ w',Ext w1 w'→ldV w' (some (some 2)) (.pointer (some ⟨g1,0,none⟩))=some (.agg _):=fun w' hw=>(Blk.ext hb1 hw).ld rfl;clear hx1;have hbl:bl a.natAbs≤63:=q0T (Nat.lt_of_le_of_lt (show a.natAbs≤9223372036854775807 by omega) (by decide));refine q0A fun K hK=>?_;refine Zz1 (l1 _ (Kp.refl _ _)) ?_;refine Cr q6s (qeO hB.in Oq hD) fun v2 w2 hx2 h2=>?_;obtain ⟨s2,A2,n2,c2,rfl,hB2⟩:=h2;refine q00 (hb1.ext hx2) q0s rfl rfl fun w3 hk3 hb3=>?_;refine hK _ _ ?_; clear hK;have hx3:Ext w w3:=(hx.trans hx2).under hk3 (fun k hk=>by omega);replace hB2:=hB2.own hk3 Oq Oq;have c3_0:∀ w',Ext w3 w'→w'.cell? ⟨g1,0,none⟩=some _:=fun w' hw=>(Blk.ext hb3 hw).c0;have c3_1:∀ w',Ext w3 w'→w'.cell? ⟨g1,1,none⟩=some _:=fun w' hw=>(Blk.ext hb3 hw).c1;have l3:∀ w',Ext w3 w'→ldV w' (some (some 2)) (.pointer (some ⟨g1,0,none⟩))=some (.agg _):=fun w' hw=>(Blk.ext hb3 hw).ld rfl;have hs2:s2=false:=by rw [hB2.1]; exact decide_eq_false Oq
 subst hs2;have hn2:n2≤2:=hB2.n_le Oq;have hn2':¬ (n2:Int) > 2:=by omega
 have hlen:=hB2.len;refine q0B fun K0 hK0=>?_;refine Wz2 (c3_1 _ (Kp.refl _ _)) hn2' ?_;refine Wf (q0G (hK0 _ _ ?_));clear hK0;refine Wz ?_;refine q0B fun K0 hK0=>?_;refine Wz ?_;refine q0X ?_;refine q0a (fun e2 w2'=>w2'=w3∧∃ i:Nat,e2 5=.int .i64 i∧e2 4=.int .u64 (val ((lim a.natAbs).take i):Nat)∧i≤n2) (fun e2 _=>n2-(RowKit.intOf (e2 5)).toNat) ⟨rfl,0,rfl,rfl,Nat.zero_le _⟩ ?_;rintro e1 w1 ⟨rfl,i,k5,k4,hi⟩ hkk;have k1:e1 1=.pointer (some ⟨g1,0,none⟩):=(hkk 1 (by kernel_rfl)).trans Ue;clear hkk;refine q0B fun K1 hK1=>?_
 by_cases hlt:i < n2
 ·have hlt':(i:Int) < n2:=by omega
  refine Wz4 k5 k1 (c3_1 _ (Kp.refl _ _)) hlt' ?_;refine Wt (q0G (hK1 _ _ ?_));clear hK1;refine q0N fun K hK=>?_;have e2:(0:Int)≤i∧(i:Int) < n2:=by omega
  obtain ⟨ad,rfl,hcc⟩:=hB2.2.cell hlt;have hd:=hB2.2.dg_lt i;have hs:IntKind.i64.wrap (32*(i:Int))=((32*i:Nat):Int):=by rw [i64_in Oq (by omega)]; omega
  have hp:2 ^ (32*i)≤4294967296:=Nat.pow_le_pow_right (n:=2) Oq (show 32*i≤32 by omega);have hm:dg (lim a.natAbs) i*2 ^ (32*i)≤4294967295*4294967296:=Nat.mul_le_mul Oq hp;have e3:dg (lim a.natAbs) i*2 ^ (32*i) % 18446744073709551616=dg (lim a.natAbs) i*2 ^ (32*i):=Nat.mod_eq_of_lt Oq;have hvt:=q1V ((q1b a.natAbs).take i);rw [List.length_take,Nat.min_eq_left Oq,q9B,← Nat.pow_mul] at hvt;have e4:val ((lim a.natAbs).take i) ||| dg (lim a.natAbs) i*2 ^ (32*i)=val ((lim a.natAbs).take (i+1)):=by
   rw [q2H hvt,vts,q9B,← Nat.pow_mul,Nat.mul_comm (2 ^ (32*i))]; rfl
  have hvl:val ((lim a.natAbs).take i) < 18446744073709551616:=by omega
  refine q0Q fun K9 hK9=>?_;refine Zz9 k5 k4 k1 (c3_1 _ (Kp.refl _ _)) e2 hcc hs e3 e4 ?_;refine hK9 _ _ ?_; clear hK9 K9;refine hK _ _ ?_; clear hK;refine q0Q fun K9 hK9=>?_;refine Zz2 k5 @i64_in ?_;refine hK9 _ _ ?_; clear hK9 K9;exact ⟨⟨rfl,i+1,rfl,rfl,by omega⟩,by simp only [q0E,↓reduceIte,RowKit.intOf,k5]; omega⟩
 ·have hlt':¬ (i:Int) < n2:=by omega
  refine Wz4 k5 k1 (c3_1 _ (Kp.refl _ _)) hlt' ?_;refine Wf (q04 (hK0 _ _ ?_));clear hK0 hK1;rw [q0K _ _ Oq,q0I] at k4;refine q0B fun K0 hK0=>?_;refine Wz2 k1 (c3_0 _ (Kp.refl _ _)) ?_;refine Wf (q0G (hK0 _ _ ?_));clear hK0;have e1:¬ (((a.natAbs:Nat):Int) > 9223372036854775807):=by omega
  refine q0B fun K0 hK0=>?_;refine Wz2 k4 e1 ?_;refine Wf (q0G (hK0 _ _ ?_));clear hK0;have e2:IntKind.i64.wrap ((a.natAbs:Nat):Int)=a:=by rw [i64_in Oq (by omega)]; omega
  refine Wz2 k4 e2 ?_;refine q0O ?_
  try simp only [q0D,q0S]
  refine q8S rfl ⟨rfl,hx3⟩
def qnC {D:Nat→Prop} {v:Value} {w:World} {a:Int} {n:Nat} (h:In (fB a) D v w) (ha:bl a.natAbs≤20000000) (hn:n≤1048576) (hf:Fr D w):Calls Tryz.prog 159 #[v,.int .i64 n] w (Rt (fB (shI a (-(n:Int)))) D w):=by
 obtain ⟨s,A,m,c,rfl,hB⟩:=h;refine q0J Tryz.func159 rfl Tryz.ntmps159 (by kernel_rfl) ?_;refine q0A fun K hK=>?_;refine Zz ?_;refine q01 ?_;intro g2 w2 hg2 hx2 hb2 hs2;refine q0r ?_;intro g4 w4 hg4 hx4 hb4 hs4;refine hK _ _ ?_; clear hK K;have hx:Ext w w4:=(hx2.trans hx4);replace hb2:=(hb2.ext hx4);replace hB:=(hB.sub (Dx.keep (a:=w.heap.size) (b:=w4.heap.size) rfl)).ext hx;have hD:Fr (Dx D w.heap.size w4.heap.size) w4:=Dx.fr (hf.kp hx) (Nat.le_refl _);have c2_0:∀ w',Ext w4 w'→w'.cell? ⟨g2,0,none⟩=some _:=fun w' hw=>(Blk.ext hb2 hw).c0;have c2_1:∀ w',Ext w4 w'→w'.cell? ⟨g2,1,none⟩=some _:=fun w' hw=>(Blk.ext hb2 hw).c1;have l2:∀ w',Ext w4 w'→ldV w' (some (some 2)) (.pointer (some ⟨g2,0,none⟩))=some (.agg _):=fun w' hw=>(Blk.ext hb2 hw).ld rfl;clear hx2 hx4;refine q0N fun K0 hK0=>?_;refine q0a (fun e2 w2'=>w2'=w4∧e2 1=.int .i64 n) (fun e2 _=>0) ⟨rfl,Ue⟩ ?_;rintro e1 w1 ⟨rfl,k1⟩ hkk;have k2:e1 2=.pointer (some ⟨g2,0,none⟩):=(hkk 2 (by kernel_rfl)).trans Ue;have k4:e1 4=.pointer (some ⟨g4,0,none⟩):=(hkk 4 (by kernel_rfl)).trans Ue;clear hkk;have hn':¬ (n:Int) > 1048576:=by omega
 refine q0B fun K1 hK1=>?_;refine Wz2 k1 hn' ?_;refine Wf (q04 (hK0 _ _ ?_));clear hK0 hK1;have e1:IntKind.i64.wrap (0-(n:Int)) = -(n:Int):=by rw [i64_in Oq (by omega)]; omega
 refine q0A fun K hK=>?_;refine Zz5 k1 k2 k4 (l2 _ (Kp.refl _ _)) e1 ?_;refine Cr qg2 (q7U hB.in ha Oq Oq hD) fun v5 w5 hx5 h5=>?_;refine q1h (hb4.ext hx5) q0s rfl (q4g h5) fun w90 hk90 hb90=>?_;refine hK _ _ ?_; clear hK;refine q0O ?_
 try simp only [q0D,q0S]
 exact qcJ rfl Rf q1Z hb90 (q4g h5) (Rt.own (hx.trans hx5) h5 hk90 Oq Oq Oq)
def qam {D:Nat→Prop} {A:Option Addr} {n c:Nat} {l:List Nat} {s:Bool} {e V:Int} {w:World} (hT:q2i w) (h:In (fU l) D (.slice A n c) w) (hb:bl (val l)≤1000000) (hn:n≤900000000) (he1 : -1000000≤e) (he2:e≤1000000) (hv:mkV (sgn s (val l)) e=some V) (hf:Fr D w) :
  Calls Tryz.prog 103 #[.agg #[.bool s,.slice A n c],.int .i64 e] w (Rt (fV V) D w):=by
 refine q0J Tryz.func103 rfl Tryz.ntmps103 (by kernel_rfl) ?_;refine q0A fun K hK=>?_;refine Zz ?_;refine q01 ?_;intro g2 w2 hg2 hx2 hb2 hs2;refine q0r ?_;intro g4 w4 hg4 hx4 hb4 hs4;refine hK _ _ ?_; clear hK K;have hx:Ext w w4:=(hx2.trans hx4);replace hb2:=(hb2.ext hx4);replace h:=(h.nL (L:=[g2,g4]) (by intro g hg; simp at hg; omega)).ext hx;have hD:Fr (Dl D [g2,g4]) w4:=hf.nL hx (by intro g hg; simp at hg; omega);clear hx2 hx4;obtain ⟨m,hm⟩:∃ m,m=sgn s (val l):=⟨_,rfl⟩;rw [← hm] at hv;have hmb:bl m.natAbs≤1000000:=by rw [hm,q1R]; exact hb
 refine q0A fun K hK=>?_;refine Zz1 hb2.l2 ?_;refine Cr q6s (q0x (q55 (s:=s) h.u32 Oq hD)) fun v5 w5 hx5 h5=>?_;replace h:=h.ext hx5;replace hb2:=hb2.ext hx5;replace hb4:=hb4.ext hx5;replace hD:=hD.kp hx5;replace hx:=hx.trans hx5;clear hx5;rw [← hm] at h5;obtain ⟨s5,A5,n5,c5,rfl,_⟩:=id h5;refine q0r ?_;intro g6 w6a hg6 hx6a hb6a hs6;have hgl6:=hx.size;have hn6hb2:=hb2.lt;have hn6hb4:=hb4.lt;refine q00 hb6a q0s rfl rfl fun w6 hk6 hb6=>?_;have hy6:Ext w5 w6:=hx6a.under hk6 (fun k hk=>by omega);replace h:=((h.nw (g:=g6) Oq).ext hx6a).ow hk6 (by simp);replace h5:=((h5.nw (g:=g6) Oq).ext hx6a).ow hk6 (by simp);replace hb2:=hb2.ext hy6;replace hb4:=hb4.ext hy6;replace hD:=(hD.nw (g:=g6) hx6a Oq).ow hk6;replace hx:=hx.trans hy6;have hq6:=hk6.size;clear hx6a hk6 hb6a hy6;refine hK _ _ ?_; clear hK;have hlen:=h5.big.len;have hp:=@q0R m.natAbs;refine q0B fun K0 hK0=>?_;refine Wz1 hb6.c1 ?_
 by_cases hz:m=0
 ·have hz':((n5:Int) == 0)=true:=by rw [q8u]; exact decide_eq_true Oq
  refine q02 rfl (fun hc=>?_) (fun hc=>by rw [hz'] at hc; cases hc);have hV:V=0:=by rw [hz,q2R] at hv; exact (Option.some.inj hv).symm
  have h7:In (fV V) (Dl D [g6,g2,g4]) (.agg #[.bool false,.bool false,.slice none 0 0,.int .i64 0]) w6:=by
   subst hV; exact ⟨false,none,0,0,rfl,⟨rfl,U32.nil⟩,by simp [q0k,q1c]⟩
  refine q0A fun K hK=>?_;refine Zz ?_;refine q1h hb4 qdd rfl (qhH h7) fun w90 hk90 hb90=>?_;refine hK _ _ ?_; clear hK;refine q0O ?_
  try simp only [q0D,q0S]
  exact qcJ rfl Rf qgi hb90 (qhH h7) (Rt.fin hx h7 hk90 (by simp) Oq)
 ·have hz':((n5:Int) == 0)=false:=by rw [q8u]; exact decide_eq_false Oq
  refine q02 rfl (fun hc=>by rw [hz'] at hc; cases hc) (fun hc=>q0G (hK0 _ _ ?_));clear hK0;obtain ⟨hv1,hv2,hv3⟩:=q71 hz hv;obtain ⟨hv4,hv5,_,hv6⟩:=q5C hv;have htl:=qh3 (n:=m.natAbs) Oq;have hbo:=qaG hz;refine q0B fun K0 hK0=>?_;have e1:¬ (e > 65536):=by omega
  refine Wz1 e1 ?_;refine Wf (q0G (hK0 _ _ ?_));clear hK0;refine q0A fun K hK=>?_;refine Zz1 hb6.l2 ?_;refine Ck qll (qsF (hT.ext hx) h5 Oq) fun w7 hx7=>?_;replace h:=h.ext hx7;replace h5:=h5.ext hx7;replace hb2:=hb2.ext hx7;replace hb4:=hb4.ext hx7;replace hb6:=hb6.ext hx7;replace hD:=hD.kp hx7;replace hx:=hx.trans hx7;clear hx7;refine hK _ _ ?_; clear hK;have e2:IntKind.i64.wrap (e+((tz m.natAbs:Nat):Int))=e+(tz m.natAbs:Nat):=i64_in Oq Oq;refine Wz1 e2 ?_;refine q0A fun K hK=>?_;refine Zz1 hb6.l2 ?_;refine Cr qg4 (qeU h5 Oq hD) fun v8 w8 hx8 h8=>?_;replace h:=h.ext hx8;replace h5:=h5.ext hx8;replace hb2:=hb2.ext hx8;replace hb4:=hb4.ext hx8;replace hb6:=hb6.ext hx8;replace hD:=hD.kp hx8;replace hx:=hx.trans hx8;clear hx8;obtain ⟨s8,A8,n8,c8,rfl,_⟩:=id h8;refine q00 hb6 q0s rfl rfl fun w9 hk9 hz9=>?_;replace h:=h.ow hk9 (by simp);replace h5:=h5.ow hk9 (by simp);replace h8:=h8.ow hk9 (by simp);replace hb2:=hb2.kpne hk9 Oq;replace hb4:=hb4.kpne hk9 Oq;replace hD:=hD.ow hk9;replace hx:=hx.under hk9 (fun k hk=>by omega);clear hb6 hk9;have hb6:=hz9; clear hz9;refine hK _ _ ?_; clear hK;refine q0A fun K hK=>?_;refine Zz1 hb6.l2 ?_;refine Cr qlk (qnC h8 Om Oq hD) fun v10 w10 hx10 h10=>?_;replace h:=h.ext hx10;replace h5:=h5.ext hx10;replace h8:=h8.ext hx10;replace hb2:=hb2.ext hx10;replace hb4:=hb4.ext hx10;replace hb6:=hb6.ext hx10;replace hD:=hD.kp hx10;replace hx:=hx.trans hx10;clear hx10;rw [qri] at h10;obtain ⟨s10,A10,n10,c10,rfl,_⟩:=id h10;refine q00 hb6 q0s rfl rfl fun w11 hk11 hz11=>?_;replace h:=h.ow hk11 (by simp);replace h5:=h5.ow hk11 (by simp);replace h8:=h8.ow hk11 (by simp);replace h10:=h10.ow hk11 (by simp);replace hb2:=hb2.kpne hk11 Oq;replace hb4:=hb4.kpne hk11 Oq;replace hD:=hD.ow hk11;replace hx:=hx.under hk11 (fun k hk=>by omega);clear hb6 hk11;have hb6:=hz11; clear hz11;refine hK _ _ ?_; clear hK;refine q0B fun K0 hK0=>?_;have e3:¬ (e+((tz m.natAbs:Nat):Int) < -65536):=by omega
  refine q0A fun K hK=>?_;refine Zz2 e3 hb6.l2 ?_;refine Ck qg1 (q5z h10 Om) fun w12 hx12=>?_;replace h:=h.ext hx12;replace h5:=h5.ext hx12;replace h8:=h8.ext hx12;replace h10:=h10.ext hx12;replace hb2:=hb2.ext hx12;replace hb4:=hb4.ext hx12;replace hb6:=hb6.ext hx12;replace hD:=hD.kp hx12;replace hx:=hx.trans hx12;clear hx12;have e4:IntKind.i64.wrap (e+((tz m.natAbs:Nat):Int)+((bl ((((od m).natAbs:Nat):Int)).natAbs:Nat):Int))=e+(bl m.natAbs:Nat):=by
   rw [Int.natAbs_natCast,i64_in Oq (by omega)]; omega
  have e5:¬ (e+((bl m.natAbs:Nat):Int) > 65536):=by omega
  refine Zz2 e4 e5 ?_;refine hK _ _ ?_; clear hK;refine Wf (q0G (hK0 _ _ ?_));clear hK0;refine q0A fun K hK=>?_;refine Zz1 hb2.c0 ?_;refine q6b hb6 siz4 rfl (Nat.succ_pos _) rfl fun w13 hk13 hz13 hs13=>?_;replace h:=h.ow hk13 (by simp);replace h5:=h5.ow hk13 (by simp);replace h8:=h8.ow hk13 (by simp);replace h10:=h10.ow hk13 (by simp);replace hb2:=hb2.kpne hk13 Oq;replace hb4:=hb4.kpne hk13 Oq;replace hD:=hD.ow hk13;replace hx:=hx.under hk13 (fun k hk=>by omega);clear hk13;replace hb6:Blk w13 g6 _ #[.bool s,.slice A10 n10 c10]:=hz13;clear hz13;refine hK _ _ ?_; clear hK;have hs:s=decide (m < 0):=by
   rw [hm,q91];have:0 < val l:=by
    rcases Nat.eq_zero_or_pos (val l) with h0 | h0
    ·exfalso; apply hz; rw [hm,h0]; cases s <;> rfl
    ·exact h0
   simp [this]
  have h14:In (fB (od m)) (Dl D [g6,g2,g4]) (.agg #[.bool s,.slice A10 n10 c10]) w13:=Big.in ⟨by rw [q1u]; exact hs,h10.big.2⟩;have h15:=in_V h14 hv4.symm (hv5 hz).2.symm hv6;refine q0A fun K hK=>?_;refine Zz1 hb6.l2 ?_;refine q1h hb4 qdd rfl (qhH h15) fun w90 hk90 hb90=>?_;refine hK _ _ ?_; clear hK;refine q0O ?_
  try simp only [q0D,q0S]
  exact qcJ rfl Rf qgi hb90 (qhH h15) (Rt.fin hx h15 hk90 (by simp) Oq)
def qnI {D:Nat→Prop} {v:Value} {m e V:Int} {w:World} (hT:q2i w) (h:In (fB m) D v w) (hb:bl m.natAbs≤1000000) (he1 : -1000000≤e) (he2:e≤1000000) (hv:mkV m e=some V) (hf:Fr D w) :
  Calls Tryz.prog 103 #[v,.int .i64 e] w (Rt (fV V) D w):=by
 obtain ⟨s,A,n,c,rfl,hB⟩:=h;exact qam (s:=s) hT hB.2.in (by rw [q0I]; exact hb) (by have:=hB.n_le (k:=100000) (by omega); omega) he1 he2 (by rw [q0I,hB.sgn]; exact hv) hf
def q1L {V:Int} (h:q0k V) : -65536≤dyE V∧dyE V≤65536∧bl (od V).natAbs≤131072:=⟨qfv,by have:=qbW h; omega,q3b h⟩
end Go.Proofs.YtbcmhlhgljoolaaGreatDoor
namespace Go.Sp
def qdi (a k:Nat):shI (a:Int) (-(k:Int))=((a / 2 ^ k:Nat):Int):=by
 unfold shI
 split
 ·rename_i h;have:k=0:=by omega
  subst this; simp
 ·rw [show (- -(k:Int)).toNat=k by omega,← q1E]; rfl
def q3r {a:Nat}:(tz a=0∧a≠0) ↔ a % 2=1:=by
 constructor
 ·rintro ⟨h1,h2⟩;obtain ⟨q,hq,he⟩:=q3L h2;rw [h1] at he; omega
 ·intro h; exact ⟨qaY h,by omega⟩
def q1I (l:List Int):Int:=l.foldl (·+·) 0
def q1T (l:List Int) (x:Int):q1I (l ++ [x])=q1I l+x:=by simp [q1I,List.foldl_append]
def qa9:q1I []=0:=rfl
def q5o (l:List Int) (i:Nat) (x:Int) (h:l[i]?=some x):q1I (l.take (i+1))=q1I (l.take i)+x:=by
 obtain ⟨hlt,he⟩:=List.getElem?_eq_some_iff.1 h;rw [List.take_succ_eq_append_getElem hlt,q1T,he]
def qd4 {K:Nat}:∀ (i:Nat) (l:List Int),(∀ x ∈ l,bl x.natAbs≤K)→(q1I (l.take i)).natAbs≤i*2 ^ K
 | 0,l,_=>by rw [List.take_zero]; exact Nat.zero_le _
 | i+1,l,h=>by
  have ih:=qd4 i l h;cases hx:l[i]? with
  | none =>
   have:l.take (i+1)=l.take i:=by rw [List.take_of_length_le (by have:=List.getElem?_eq_none_iff.1 hx; omega),List.take_of_length_le (List.getElem?_eq_none_iff.1 hx)]
   rw [this,Nat.add_mul,Nat.one_mul]; exact Nat.le_trans ih (Nat.le_add_right _ _)
  | some x =>
   rw [q5o l i x hx,Nat.add_mul,Nat.one_mul];have h1:=q1d (h x (List.mem_of_getElem? hx));refine Nat.le_trans (Int.natAbs_add_le _ _) ?_;exact Nat.add_le_add ih (Nat.le_of_lt h1)
def q7F {K i:Nat} {l:List Int} (h:∀ x ∈ l,bl x.natAbs≤K) (hi:i≤1024):bl (q1I (l.take i)).natAbs≤K+11:=by
 refine q0T (Nat.lt_of_le_of_lt (qd4 i l h) ?_);have h2:i*2 ^ K≤1024*2 ^ K:=Nat.mul_le_mul_right _ hi;have h3:2 ^ (K+11)=2 ^ K*2048:=by rw [Nat.pow_add]
 have:=q0P K;omega
def qk0 {i:Nat} {l:List Int} (h:∀ x ∈ l,q0k x) (hi:i≤1024):bl (q1I (l.take i)).natAbs≤131083:=q7F h hi
def q44 {m S:Int} {k:Nat} (h:m*(2:Int) ^ k=S):bl m.natAbs≤bl S.natAbs:=by
 rw [← h,q0U];exact q0d (Nat.le_mul_of_pos_right _ (q0P k))
end Go.Sp
namespace Go.E
open Go Go.Sp
section
variable {P:Program} {t:TypeId} {k':IntKind} {a b:Nat}
def qhl:q0z P .shr t (.int .u64 (a:Int)) (.int k' 52)=some (.int .u64 ((a / 4503599627370496:Nat):Int)):=by
 rw [q2L,if_neg (by omega)];exact congrArg (fun x=>some (Value.int .u64 x)) (q8g a 4503599627370496)
def qml:q0z P .shr t (.int .u64 (a:Int)) (.int k' 1)=some (.int .u64 ((a / 2:Nat):Int)):=by
 rw [q2L,if_neg (by omega)];exact congrArg (fun x=>some (Value.int .u64 x)) (q8g a 2)
def q48 (ha:a < 18446744073709551616):q0y .and .u64 (a:Int) 2047=((a % 2048:Nat):Int):=by
 have:=q4a ha (show 2047 < 18446744073709551616 by omega);rw [Nat.and_two_pow_sub_one_eq_mod a 11] at this;exact this
def q7p (ha:a < 18446744073709551616):q0y .and .u64 (a:Int) 4503599627370495=((a % 4503599627370496:Nat):Int):=by
 have:=q4a ha (show 4503599627370495 < 18446744073709551616 by omega);rw [Nat.and_two_pow_sub_one_eq_mod a 52] at this;exact this
def q2M (ha:a < 18446744073709551616):q0y .and .u64 (a:Int) 4294967295=((a % 4294967296:Nat):Int):=by
 have:=q4a ha (show 4294967295 < 18446744073709551616 by omega);rw [Nat.and_two_pow_sub_one_eq_mod a 32] at this;exact this
def qaP (ha:a < 18446744073709551616):q0y .and .u64 (a:Int) 1=((a % 2:Nat):Int):=by
 have:=q4a ha (show 1 < 18446744073709551616 by omega);rw [Nat.and_two_pow_sub_one_eq_mod a 1] at this;exact this
def qpn (a k:Nat):a &&& 2 ^ k=if a.testBit k=true then 2 ^ k else 0:=by
 apply Nat.eq_of_testBit_eq; intro i
 rw [Nat.testBit_and,Nat.testBit_two_pow]
 by_cases h:k=i
 ·subst h; cases ht:a.testBit k <;> simp [Nat.testBit_two_pow]
 ·simp only [h,decide_false,Bool.and_false]
  split <;> simp [Nat.testBit_two_pow,h]
def qjv (ha:a < 18446744073709551616):q0y .and .u64 (a:Int) 9223372036854775808=if 9223372036854775808≤a then 9223372036854775808 else 0:=by
 have:=q4a ha (show 9223372036854775808 < 18446744073709551616 by omega);have h2:a &&& 9223372036854775808=if 9223372036854775808≤a then 9223372036854775808 else 0:=by
  have key:=qpn a 63;rw [Nat.testBit_eq_decide_div_mod_eq] at key;rw [show (9223372036854775808:Nat)=2 ^ 63 by rfl,key]
  by_cases h:9223372036854775808≤a
  ·rw [if_pos (decide_eq_true Oq),if_pos (by omega)]
  ·rw [if_neg (by rw [decide_eq_true_eq]; omega),if_neg (by omega)]
 rw [h2] at this;rw [show (9223372036854775808:Int)=((9223372036854775808:Nat):Int) by rfl,this]
 split <;> rfl
def qe6 (ha:a < 18446744073709551616):(q0y .and .u64 (a:Int) 9223372036854775808 != 0)=decide (9223372036854775808≤a):=by
 rw [qjv ha]
 split
 ·rename_i h; rw [decide_eq_true h]; rfl
 ·rename_i h; rw [decide_eq_false h]; rfl
def qkl (ha:a < 4503599627370496):q0y .or .u64 (a:Int) 4503599627370496=((4503599627370496+a:Nat):Int):=by
 have:=qcR (a:=a) (b:=4503599627370496) Oq Oq;have h2:=q2H (c:=a) (m:=1) (k:=52) Oq;rw [Nat.one_mul] at h2;rw [show a ||| 4503599627370496=a+4503599627370496 from h2] at this;rw [show (4503599627370496:Int)=((4503599627370496:Nat):Int) by rfl,this,Nat.add_comm]
def qe2 (ha:a < 9223372036854775808):q0y .or .u64 (a:Int) 9223372036854775808=((a+9223372036854775808:Nat):Int):=by
 have:=qcR (a:=a) (b:=9223372036854775808) Oq Oq;have h2:=q2H (c:=a) (m:=1) (k:=63) Oq;rw [Nat.one_mul] at h2;rw [show a ||| 9223372036854775808=a+9223372036854775808 from h2] at this;rw [show (9223372036854775808:Int)=((9223372036854775808:Nat):Int) by rfl,this]
def qaf (h:a < 4096):q0z P .shl t (.int .u64 (a:Int)) (.int k' 52)=some (.int .u64 ((a*4503599627370496:Nat):Int)):=by
 have:=qdh (P:=P) (t:=t) (k':=k') (a:=a) (b:=52) Oq;rw [show a*2 ^ 52 % 18446744073709551616=a*4503599627370496 by omega] at this;exact this
def qkm (ha:a < 2048) (hb:b < 4503599627370496):q0y .or .u64 ((a*4503599627370496:Nat):Int) (b:Int)=((a*4503599627370496+b:Nat):Int):=by
 have:=qcR (a:=a*4503599627370496) (b:=b) Oq Oq;have h2:=q2H (c:=b) (m:=a) (k:=52) Oq;rw [this,Nat.or_comm,show b ||| a*4503599627370496=b+a*4503599627370496 from h2,Nat.add_comm]
end
attribute [go_sem high] qhl qml
end Go.E
namespace Go.Sp
open Go.E
def q0Y (f:Nat):Prop:=f / 4503599627370496 % 2048≠2047
instance (f:Nat):Decidable (q0Y f):=by unfold q0Y; infer_instance
def qav {m E:Int} (hE : -65536≤E) (hb:bl m.natAbs+(E+65536).toNat≤131072):mkV m E=some (m*(2:Int) ^ (E+65536).toNat):=by
 rw [q5a hE rfl];refine q37 ?_;unfold q0k
 by_cases h:m=0
 ·subst h; rw [Int.zero_mul]; exact Nat.zero_le _
 ·rw [q0U,q1i (by omega)]; exact hb
def q9a {f:Nat} (hf:q0Y f):∃ V,ofF f=some V∧mkV (sgn (decide (9223372036854775808≤f)) (if f / 4503599627370496 % 2048=0 then f % 4503599627370496 else 4503599627370496+f % 4503599627370496)) (if f / 4503599627370496 % 2048=0 then -1074 else (f / 4503599627370496 % 2048:Nat)-1075)=some V:=by
 unfold q0Y at hf;have hx:=Nat.mod_lt (f / 4503599627370496) (show 0 < 2048 by omega);have hm:=Nat.mod_lt f (show 0 < 4503599627370496 by omega);unfold ofF;rw [if_neg hf];generalize f / 4503599627370496 % 2048=x at *;generalize f % 4503599627370496=m at *
 split
 ·refine ⟨_,rfl,?_⟩;have hb:bl m≤52:=q0T hm;rw [qav Oq (by rw [q1R]; omega)]; rfl
 ·refine ⟨_,rfl,?_⟩;have hb:bl (4503599627370496+m)≤53:=q0T (Nat.lt_of_lt_of_le (show 4503599627370496+m < 9007199254740992 by omega) (Nat.le_refl _));rw [qav Oq (by rw [q1R]; omega)];rw [show ((x:Int)-1075+65536).toNat=64461+x by omega]
def fR (mode V:Int):Nat:=if V=0 then 0 else rF mode (decide (V < 0)) V.natAbs (2 ^ 65536)
def fQ (mode a b:Int):Nat:=if a=0 then 0 else rF mode (decide (a < 0) != decide (b < 0)) a.natAbs b.natAbs
def rE_VK {mode V:Int} {neg:Bool} {K:Nat} (hK:K=65536) (h:V≠0):rE mode neg (od V).natAbs 1 (dyE V)=rF mode neg V.natAbs (2 ^ K):=by
 have h1:=q6h V;have h2:=q3c h;have ho:0 < (od V).natAbs:=by omega
 have hd:dyE V=(tz V.natAbs:Int)-65536:=by unfold dyE; rw [if_neg h]
 have hV:0 < V.natAbs:=by omega
 unfold rE;refine q58 (Nat.mul_pos ho (q0P _)) (Nat.mul_pos Nat.one_pos (q0P _)) hV (q0P _) ?_;generalize dyE V=e at *;generalize tz V.natAbs=k at *;rw [← h1,Nat.one_mul,Nat.mul_assoc,Nat.mul_assoc,← Nat.pow_add,← Nat.pow_add]
 congr 2; omega
def rE_V {mode V:Int} {neg:Bool} (h:V≠0):rE mode neg (od V).natAbs 1 (dyE V)=rF mode neg V.natAbs (2 ^ 65536):=rE_VK (K:=65536) rfl h
def qmv {mode:Int} {neg:Bool} {N D:Nat}:N / D≤rq mode neg N D:=by unfold rq; (repeat' split) <;> omega
def n_ge {mode:Int} {neg:Bool} {N D:Nat} {e q:Int} (hD:0 < D) (h:D≤N) (hq:q=e+bl (N / D)-53):4503599627370496≤rq mode neg (N*2 ^ (e-q).toNat) (D*2 ^ (q-e).toNat):=by
 refine Nat.le_trans ?_ qmv;rw [qaB];have h1:=qcU hD h (e-q).toNat;have hp:=Nat.div_pos h hD;have hb:=q45 (n:=N / D) Oq;have h52:(2:Nat) ^ 52=4503599627370496:=by decide
 rw [← h52,Nat.le_div_iff_mul_le (q0P _),← Nat.pow_add];have hne:N*2 ^ (e-q).toNat / D≠0:=fun h0=>by
  rw [h0,q1c] at h1; omega
 have h2:=q7l hne;rw [h1] at h2;rw [show 52+(q-e).toNat=bl (N / D)+(e-q).toNat-1 by omega];exact h2
def qnL {mode:Int} {neg:Bool} {N D:Nat} {e:Int} (hD:0 < D) (h:D≤N) (ht:1024≤e+bl (N / D)-1):rE mode neg N D e=qhE mode neg:=by
 rw [qeR hD h];have hq:max (e+(bl (N / D):Int)-53) (-1074)=e+bl (N / D)-53:=by omega
 rw [hq];have hn:=n_ge (mode:=mode) (neg:=neg) hD h (q:=e+bl (N / D)-53) rfl;unfold fin fin2
 split
 ·rw [if_neg Oq,if_pos (by omega)]
 ·rw [if_neg Oq,if_pos (by omega)]
end Go.Sp
namespace Go.Proofs.YtbcmhlhgljoolaaGreatDoor
open Go Go.E Go.Sp
def q80 {z:Int} {w:World}:Calls Tryz.prog 269 #[.int .i64 z] w fun e w'=>e=.returned (.bool false)∧w=w':=by
 refine q0J Tryz.func269 rfl Tryz.ntmps269 (by kernel_rfl) ?_;refine Wz ?_;have q:(z != z)=false:=by simp
 refine Wz1 q ?_;refine q0O ?_
 try simp only [q0D,q0S]
 refine q1S rfl ⟨rfl,rfl⟩
def qe8 {z:Int} {w:World}:Calls Tryz.prog 272 #[.int .u32 z] w fun e w'=>e=.returned (.bool false)∧w=w':=by
 refine q0J Tryz.func272 rfl Tryz.ntmps272 (by kernel_rfl) ?_;refine Wz ?_;have q:(z != z)=false:=by simp
 refine Wz1 q ?_;refine q0O ?_
 try simp only [q0D,q0S]
 refine q1S rfl ⟨rfl,rfl⟩
def qgJ {a b:Nat} {w:World}:Calls Tryz.prog 266 #[.int .i64 (a:Int),.int .i64 (b:Int)] w fun e w'=>e=.returned (.int .i64 (q2C a b))∧w=w':=by
 refine q0J Tryz.func266 rfl Tryz.ntmps266 (by kernel_rfl) ?_;refine Wz ?_;refine q0A fun K hK=>?_;refine Zz ?_;refine q0F qgQ (q80) ?_;rintro _ _ ⟨rfl,rfl⟩; refine ⟨_,rfl,?_⟩;refine hK _ _ ?_; clear hK;refine q0A fun K hK=>?_;refine Zz ?_;refine q0F qgQ (q80) ?_;rintro _ _ ⟨rfl,rfl⟩; refine ⟨_,rfl,?_⟩;refine hK _ _ ?_; clear hK;refine q0B fun K0 hK0=>?_;refine Wz ?_;refine Wf (q0G (hK0 _ _ ?_));clear hK0;refine q0B fun K0 hK0=>?_;refine Wz ?_;refine Wf (q0G (hK0 _ _ ?_));clear hK0;refine q0B fun K0 hK0=>?_
 by_cases h1:a < b
 ·have q:(a:Int) < b:=by omega
  refine Wz1 q ?_;refine Wt ?_;refine Wz ?_;refine q0O ?_
  try simp only [q0D,q0S]
  refine q1S rfl ⟨by simp [q2C,h1,upd],rfl⟩
 ·have q:¬ (a:Int) < b:=by omega
  refine Wz1 q ?_;refine Wf (q0G (hK0 _ _ ?_));clear hK0;refine q0B fun K0 hK0=>?_
  by_cases h2:b < a
  ·have q2:(a:Int) > b:=by omega
   refine Wz1 q2 ?_;refine Wt ?_;refine Wz ?_;refine q0O ?_
   try simp only [q0D,q0S]
   refine q1S rfl ⟨by simp [q2C,h1,show ¬ a=b by omega,upd],rfl⟩
  ·have q2:¬ (a:Int) > b:=by omega
   refine Wz1 q2 ?_;refine Wf (q0G (hK0 _ _ ?_));clear hK0;refine Wz ?_;refine q0O ?_
   try simp only [q0D,q0S]
   refine q1S rfl ⟨by simp [q2C,h1,show a=b by omega,upd],rfl⟩
def qos {a b:Nat} {w:World}:Calls Tryz.prog 267 #[.int .u32 (a:Int),.int .u32 (b:Int)] w fun e w'=>e=.returned (.int .i64 (q2C a b))∧w=w':=by
 refine q0J Tryz.func267 rfl Tryz.ntmps267 (by kernel_rfl) ?_;refine Wz ?_;refine q0A fun K hK=>?_;refine Zz ?_;refine q0F qgP (qe8) ?_;rintro _ _ ⟨rfl,rfl⟩; refine ⟨_,rfl,?_⟩;refine hK _ _ ?_; clear hK;refine q0A fun K hK=>?_;refine Zz ?_;refine q0F qgP (qe8) ?_;rintro _ _ ⟨rfl,rfl⟩; refine ⟨_,rfl,?_⟩;refine hK _ _ ?_; clear hK;refine q0B fun K0 hK0=>?_;refine Wz ?_;refine Wf (q0G (hK0 _ _ ?_));clear hK0;refine q0B fun K0 hK0=>?_;refine Wz ?_;refine Wf (q0G (hK0 _ _ ?_));clear hK0;refine q0B fun K0 hK0=>?_
 by_cases h1:a < b
 ·have q:(a:Int) < b:=by omega
  refine Wz1 q ?_;refine Wt ?_;refine Wz ?_;refine q0O ?_
  try simp only [q0D,q0S]
  refine q1S rfl ⟨by simp [q2C,h1,upd],rfl⟩
 ·have q:¬ (a:Int) < b:=by omega
  refine Wz1 q ?_;refine Wf (q0G (hK0 _ _ ?_));clear hK0;refine q0B fun K0 hK0=>?_
  by_cases h2:b < a
  ·have q2:(a:Int) > b:=by omega
   refine Wz1 q2 ?_;refine Wt ?_;refine Wz ?_;refine q0O ?_
   try simp only [q0D,q0S]
   refine q1S rfl ⟨by simp [q2C,h1,show ¬ a=b by omega,upd],rfl⟩
  ·have q2:¬ (a:Int) > b:=by omega
   refine Wz1 q2 ?_;refine Wf (q0G (hK0 _ _ ?_));clear hK0;refine Wz ?_;refine q0O ?_
   try simp only [q0D,q0S]
   refine q1S rfl ⟨by simp [q2C,h1,show a=b by omega,upd],rfl⟩
def qcc {D D':Nat→Prop} {A A':Option Addr} {n n' c c':Nat} {x y:Nat} {w:World} (h:In (fU (lim x)) D (.slice A n c) w) (h':In (fU (lim y)) D' (.slice A' n' c') w) (hb:n≤1000000000) (hb':n'≤1000000000) :
  Calls Tryz.prog 246 #[.slice A n c,.slice A' n' c'] w fun e w'=>e=.returned (.int .i64 (q2C x y))∧Ext w w':=by
 have hl:=h.u32.len;have hl':=h'.u32.len;have hx:Ext w w:=Kp.refl _ _;refine q0J Tryz.func246 rfl Tryz.ntmps246 (by kernel_rfl) ?_;refine Wz ?_;refine q0B fun K0 hK0=>?_
 by_cases hne:n=n'
 ·subst hne;have e1:((n:Int) != n)=false:=by simp
  refine Wz1 e1 ?_;refine Wf (q0G (hK0 _ _ ?_));clear hK0;refine q0B fun K0 hK0=>?_;refine Wz1 @i64_in ?_;refine q0X ?_;refine q0a (fun e2 w2=>∃ k:Nat,e2 5=.int .i64 ((k:Int)-1)∧k≤n∧Ext w w2∧(lim x).drop k=(lim y).drop k) (fun e2 _=>(RowKit.intOf (e2 5)+1).toNat) ⟨n,rfl,Nat.le_refl _,Kp.refl _ _,by rw [List.drop_of_length_le Oq,List.drop_of_length_le (by omega)]⟩ ?_;clear hx;rintro e1 w1 ⟨k,h5,hk,hx,hdr⟩ hkk;have h0:e1 0=.slice A n c:=(hkk 0 (by kernel_rfl)).trans rfl;have h1:e1 1=.slice A' n c':=(hkk 1 (by kernel_rfl)).trans rfl;clear hkk;replace h:=h.ext hx;replace h':=h'.ext hx;refine q0B fun K1 hK1=>?_
  by_cases hpos:0 < k
  ·have hp':((k:Int)-1 ≥ 0):=by omega
   refine Wz2 h5 hp' ?_;refine Wt (q0G (hK1 _ _ ?_));clear hK1;refine q0N fun K hK=>?_;have hj:k-1 < n:=by omega
   obtain ⟨ad,rfl,-⟩:=h.u32.cell hj;obtain ⟨ad',rfl,-⟩:=h'.u32.cell hj;have e1':((k:Int)-1).toNat=k-1:=by omega
   have e2':(0:Int)≤k-1∧(k:Int)-1 < n:=by omega
   refine q0B fun K1 hK1=>?_;refine qcw q0l [true,true,true,true,true,true,true,true,true] (by kernel_rfl) fun KE hKE=>?_;simp -implicitDefEqProofs (maxSteps:=600000) (disch:=omega) only [go_sem,Nat.reduceEqDiff,Nat.reduceAdd,↓reduceIte,h0,h1,h5,e1',e2',h.u32.cx hj,h'.u32.cx hj];refine hKE _ fun w2 hx2=>?_; clear hKE KE;replace h:=h.ext hx2;replace h':=h'.ext hx2;replace hx:=hx.trans hx2;refine hK1 _ _ ?_; clear hK1
   by_cases hd:dg (lim x) (k-1)=dg (lim y) (k-1)
   ·have hd':(((dg (lim x) (k-1):Nat):Int) != ((dg (lim y) (k-1):Nat):Int))=false:=by simp [hd]
    refine q02 rfl (fun hc=>by rw [hd'] at hc; cases hc) (fun hc=>q0G (hK _ _ ?_));clear hK;refine q0Q fun K9 hK9=>?_;refine Zz2 h5 @i64_in ?_;refine hK9 _ _ ?_; clear hK9 K9;refine ⟨⟨k-1,by simp only [q0E,↓reduceIte]; congr 1; omega,by omega,hx,?_⟩,?_⟩
    ·rw [List.drop_eq_getElem_cons (l:=lim x) (i:=k-1) Oq,List.drop_eq_getElem_cons (l:=lim y) (i:=k-1) Oq,show k-1+1=k by omega,hdr];have:=hd;unfold dg at this;rw [q1F Oq,q1F (by omega)] at this;rw [this]
    ·simp only [q0E,↓reduceIte,RowKit.intOf,h5]; omega
   ·have hd':(((dg (lim x) (k-1):Nat):Int) != ((dg (lim y) (k-1):Nat):Int))=true:=by rw [bne_iff_ne]; exact fun e=>hd (Int.ofNat.inj e)
    refine q02 rfl (fun hc=>?_) (fun hc=>by rw [hd'] at hc; cases hc);clear hK;refine q0B fun K1 hK1=>?_;refine qaR q0l (Kp (fun k=>k ∉ ([]:List Nat))) (fun _ _=>False) (Kp.pre _) [true,true,true,true,true,true,true,true,false,false] [false,false,false,false,false,false,false,false,false,false] [1,1,1,1,1,1,1,1,1,1] (by kernel_rfl) ?_
    apply Exists.intro
    refine ⟨fun wE hE KE hKE=>?_,fun wE hE KE hKE=>?_,fun wE hxE hr=>?_⟩
    ·skip
     replace hE:=Kp.all hE;replace h:=h.ext hE;replace h':=h'.ext hE;refine Zz7 h0 h1 h5 e1' e2' (h.u32.cx hj) (h'.u32.cx hj) ?_;exact hKE
    ·exact hE.elim
    simp only [q2D,q2F,q2E];replace h:=h.ext hxE;replace h':=h'.ext hxE;replace hx:=hx.trans hxE;clear hr;simp -implicitDefEqProofs (disch:=omega) only [go_sem,Nat.reduceEqDiff,Nat.reduceAdd,↓reduceIte,List.toList_toArray,h0,h1,h5,e1',e2',h.u32.cx hj,h'.u32.cx hj];refine q0F ql4 (qos) ?_;rintro _ _ ⟨rfl,rfl⟩; refine ⟨_,rfl,?_⟩;simp only [q0o];refine hK1 _ _ ?_; clear hK1;have tops:∀ {a b:Nat},(lim a).length=n→(lim b).length=n→(lim a).drop k=(lim b).drop k→dg (lim a) (k-1) < dg (lim b) (k-1)→a < b:=by
     intro a b ha hb' hab hlt;have:=q4E (i:=k-1) (q1b a) (ha.trans hb'.symm) Oq (by rw [show k-1+1=k by omega]; exact hab) hlt;simpa [q0I] using this
    have hcm:q2C (dg (lim x) (k-1)) (dg (lim y) (k-1))=q2C x y:=by
     by_cases hlt:dg (lim x) (k-1) < dg (lim y) (k-1)
     ·have:=tops hl hl' hdr hlt;simp [q2C,hlt,this]
     ·have:=tops hl' hl hdr.symm Oq;simp [q2C,hlt,hd,show ¬ x < y by omega,show ¬ x=y by omega]
    refine q0O ?_
    try simp only [q0D,q0S]
    refine q1S rfl ⟨by simp only [q0E,Nat.reduceEqDiff,↓reduceIte]; rw [hcm],hx⟩
  ·obtain rfl:k=0:=by omega
   have hp':¬ (((0:Nat):Int)-1 ≥ 0):=by omega
   refine Wz2 h5 hp' ?_;refine Wf (q04 (hK0 _ _ ?_));refine Wz ?_;have:x=y:=by
    have:=congrArg val hdr;simpa [q0I] using this
   refine q0O ?_
   try simp only [q0D,q0S]
   refine q1S rfl ⟨by simp [q2C,upd,this],hx⟩
 ·have e1:((n:Int) != n')=true:=by rw [bne_iff_ne]; omega
  refine Wz1 e1 ?_;refine Wt ?_;refine q0A fun K hK=>?_;refine Zz ?_;refine q0F ql5 (qgJ) ?_;rintro _ _ ⟨rfl,rfl⟩; refine ⟨_,rfl,?_⟩;refine hK _ _ ?_; clear hK;have hcm:q2C n n'=q2C x y:=by
   by_cases hlt:n < n'
   ·have:=q2S (m:=x) (n:=y) Oq;simp [q2C,hlt,this]
   ·have:=q2S (m:=y) (n:=x) Oq;simp [q2C,hlt,hne,show ¬ x < y by omega,show ¬ x=y by omega]
  refine q0O ?_
  try simp only [q0D,q0S]
  refine q1S rfl ⟨by simp only [q0E,Nat.reduceEqDiff,↓reduceIte]; rw [hcm],hx⟩
def qeq {D:Nat→Prop} {A:Option Addr} {n c:Nat} {x:Nat} {w:World} (h:In (fU (lim x)) D (.slice A n c) w) (hb:n≤1000000000):Calls Tryz.prog 241 #[.slice A n c] w fun e w'=>e=.returned (.int .i64 (bl x:Nat))∧w=w':=by
 have hl:=h.u32.len;have hpos:=@q0R x;refine q0J Tryz.func241 rfl Tryz.ntmps241 (by kernel_rfl) ?_;refine Wz ?_;refine q0B fun K0 hK0=>?_
 by_cases hz:n=0
 ·have q:((n:Int) == 0)=true:=by rw [q8u]; exact decide_eq_true hz
  refine Wz1 q ?_;refine Wt ?_;refine Wz ?_;have h0:x=0:=by omega
  refine q0O ?_
  try simp only [q0D,q0S]
  refine q1S rfl ⟨by simp [h0,q1c,upd],rfl⟩
 ·have q:((n:Int) == 0)=false:=by rw [q8u]; exact decide_eq_false hz
  refine Wz1 q ?_;refine Wf (q0G (hK0 _ _ ?_));clear hK0;have hj:n-1 < n:=by omega
  obtain ⟨ad,rfl,-⟩:=h.u32.cell hj;have hs1:IntKind.i64.wrap ((n:Int)-1)=((n-1:Nat):Int):=by rw [i64_in Oq (by omega)]; omega
  have hs2:IntKind.i64.wrap (((n-1:Nat):Int)*32)=((32*(n-1):Nat):Int):=by rw [i64_in Oq (by omega)]; omega
  have r1:(0:Int)≤(n-1:Nat)∧((n-1:Nat):Int) < n:=by omega
  refine q0A fun K hK=>?_;refine Zz4 hs1 hs2 r1 (h.u32.cx hj) ?_;refine q0F qb7 (q74 (h.u32.dg_lt _)) ?_;rintro _ _ ⟨rfl,rfl⟩; refine ⟨_,rfl,?_⟩;have hbl:=q6t (n:=x) Oq;rw [hl] at hbl;have hb2:bl (dg (lim x) (n-1))≤32:=q0T (h.u32.dg_lt _);have hs3:IntKind.i64.wrap (((32*(n-1):Nat):Int)+((bl (dg (lim x) (n-1)):Nat):Int))=((bl x:Nat):Int):=by
   unfold dg at *;rw [i64_in Oq (by omega)]; omega
  refine Zz1 hs3 ?_;refine hK _ _ ?_; clear hK;refine q0O ?_
  try simp only [q0D,q0S]
  refine q1S rfl ⟨rfl,rfl⟩
def q12.cx {w:World} {Bd g n c:Nat} {o:List Nat} (h:q12 w Bd (some ⟨g,0,none⟩) n c o) {j:Nat} (hj:j < n):w.cell? ⟨g,j,none⟩=some (.int .u32 ((o.getD j 0:Nat):Int)):=by
 have hl:o.length=n:=by have:=h.1.len; simpa using this
 obtain ⟨g',hg,_,hc,_⟩:=h.1.cell (j:=j) (by simp; omega);cases hg;rw [hc]; simp [q7z,show j < o.length by omega]
def q12.len {w:World} {Bd n c:Nat} {A:Option Addr} {o:List Nat} (h:q12 w Bd A n c o):o.length=n:=by have:=h.1.len; simpa using this
def q12.ext {w w':World} {Bd n c:Nat} {A:Option Addr} {o:List Nat} (h:q12 w Bd A n c o) (k:Ext w w'):q12 w' Bd A n c o:=⟨h.1.ext k,h.2⟩
def q9P {D:Nat→Prop} {A:Option Addr} {n c:Nat} {l:List Nat} {w:World} (h:U32 w D A n c l) (hb:n≤1000000000):Calls Tryz.prog 238 #[.slice A n c] w (Rt (fU (lim (val l))) D w) :=
 (qdO h hb).mono fun _ _ ⟨_,e,hw,hU⟩=>by subst hw; exact ⟨_,e,Kp.refl _ _,hU.in⟩
def qnT {D:Nat→Prop} {A A':Option Addr} {n n' c c':Nat} {x y:Nat} {w:World} (h:In (fU (lim x)) D (.slice A n c) w) (h':In (fU (lim y)) D (.slice A' n' c') w) (hb:n≤900000000) (hb':n'≤900000000) (hf:Fr D w) :
  Calls Tryz.prog 243 #[.slice A n c,.slice A' n' c'] w (Rt (fU (lim (x+y))) D w):=by
 refine q0J Tryz.func243 rfl Tryz.ntmps243 (by kernel_rfl) ?_;refine Wz ?_;refine q0B fun K0 hK0=>?_;have main:∀ (e1:Env) (A A':Option Addr) (n n' c c' x' y':Nat),In (fU (lim x')) D (.slice A n c) w→In (fU (lim y')) D (.slice A' n' c') w→n≤900000000→n'≤n→x'+y'=x+y→e1 0=.slice A n c→e1 1=.slice A' n' c'→K0 e1 w:=by
  clear h h' hb hb';intro e1 A A' n n' c c' x' y' h h' hb hb' hxy g0 g1;have hl:=h.u32.len;have hl':=h'.u32.len;refine hK0 _ _ ?_; clear hK0;have hs:IntKind.i64.wrap ((n:Int)+1)=((n+1:Nat):Int):=by rw [i64_in Oq (by omega)]; omega
  refine q0A fun K hK=>?_;refine Zz2 g0 hs ?_;refine q6D (l:=0) (Nat.zero_le _) Oq (by unfold maxLen; omega) fun w0 hx0 hO0 _=>?_;refine hK _ _ ?_; clear hK;refine Wz ?_;refine q0B fun K0 hK0=>?_;refine Wz1 g0 ?_;refine q0X ?_;refine q0a (fun e2 w2=>∃ (k cr:Nat) (A2:Option Addr) (c2:Nat) (o:List Nat),e2 23=.int .i64 k∧e2 6=.int .u64 cr∧e2 5=.slice A2 k c2∧k≤n∧cr≤1∧Ext w w2∧q12 w2 w.heap.size A2 k c2 o∧val o+B ^ k*cr=val ((lim x').take k)+val ((lim y').take k)) (fun e2 _=>n-(RowKit.intOf (e2 23)).toNat) ⟨0,0,_,_,[],rfl,Ue,Ue,Nat.zero_le _,Nat.zero_le _,hx0,⟨by simpa using hO0,q1w.nil⟩,by simp [val]⟩ ?_;rintro e2 w1 ⟨k,cr,A2,c2,o,k23,k6,k5,hkm,hcr,hx,hO,hv⟩ hkk;have k1:e2 1=.slice A' n' c':=(hkk 1 (by kernel_rfl)).trans Ue;have k21:e2 21=.slice A n c:=(hkk 21 (by kernel_rfl)).trans Ue;have k22:e2 22=.int .i64 n:=(hkk 22 (by kernel_rfl)).trans Ue;clear hkk;have hd1:=h.u32.dg_lt k;have hd2:=h'.u32.dg_lt k
  by_cases hlt:k < n
  ·have hlt':(k:Int) < n:=by omega
   refine Wz3 k23 k22 hlt' ?_;refine q0B fun K1 hK1=>?_;refine Wt (q0G (hK1 _ _ ?_));clear hK1;refine q0N fun K hK=>?_;obtain ⟨ad,rfl,-⟩:=h.u32.cell hlt;have e2':(0:Int)≤k∧(k:Int) < n:=by omega
   refine q0A fun K hK=>?_;simp -implicitDefEqProofs (disch:=omega) only [go_sem,Nat.reduceEqDiff,Nat.reduceAdd,↓reduceIte,k21,k23,e2',(h.ext hx).u32.cx hlt];refine hK _ _ ?_; clear hK K;refine Wz1 k6 ?_;refine q0B fun K1 hK1=>?_;have st2:∀ (e3:Env),e3 23=.int .i64 k→e3 9=.int .u64 ((cr+dg (lim x') k+dg (lim y') k:Nat):Int)→e3 5=.slice A2 k c2→K1 e3 w1:=by
    intro e3 q23 q9 q5;refine hK1 _ _ ?_; clear hK1;have ea:=q2M (a:=cr+dg (lim x') k+dg (lim y') k) Oq;have eb:(cr+dg (lim x') k+dg (lim y') k) % 4294967296 % 4294967296=(cr+dg (lim x') k+dg (lim y') k) % 4294967296:=Nat.mod_mod _ _;refine q0A fun K9 hK9=>?_;refine Zz4 q9 q5 ea eb ?_;refine q7X hO (Nat.mod_lt _ Oq) Oq hx.size ?_;intro v1 A3 c3 w3 hO3 hk3 hat;refine hK9 _ _ ?_; clear hK9;refine q0Q fun K9 hK9=>?_;refine Zz1 q9 ?_;refine hK9 _ _ ?_; clear hK9 K9;refine hK _ _ ?_; clear hK;refine q0Q fun K9 hK9=>?_;refine Zz2 q23 @i64_in ?_;refine hK9 _ _ ?_; clear hK9 K9;refine ⟨⟨k+1,_,A3,c3,_,rfl,Ue,Ue,by omega,by omega,hO.1.under hx hk3,hO3,?_⟩,by simp only [q0E,↓reduceIte,RowKit.intOf,k23]; omega⟩;rw [vts,vts];have:=q7q (x:=dg (lim x') k) (y:=dg (lim y') k) hO.len hv;unfold B at this ⊢;unfold dg at this ⊢;omega
   by_cases hb2:k < n'
   ·have hb2':(k:Int) < n':=by omega
    refine Wz2 k1 hb2' ?_;refine Wt ?_;obtain ⟨ad2,rfl,-⟩:=h'.u32.cell hb2;have e3':(0:Int)≤k∧(k:Int) < n':=by omega
    have es:dg (lim x') k+cr+dg (lim y') k=cr+dg (lim x') k+dg (lim y') k:=by omega
    refine q0Q fun K9 hK9=>?_;simp -implicitDefEqProofs (disch:=omega) only [go_sem,Nat.reduceEqDiff,Nat.reduceAdd,↓reduceIte,k1,e3',(h'.ext hx).u32.cx hb2,es];refine hK9 _ _ ?_; clear hK9 K9;exact st2 _ Ue Ue Ue
   ·have hb2':¬ (k:Int) < n':=by omega
    refine Wz2 k1 hb2' ?_;refine Wf (q0G ?_);have hz:dg (lim y') k=0:=q62 Oq;exact st2 _ Ue (by simp only [q0E,Nat.reduceEqDiff,↓reduceIte]; rw [hz]; congr 2; omega) Ue
  ·have hlt':¬ (k:Int) < n:=by omega
   refine Wz3 k23 k22 hlt' ?_;refine q0B fun K1 hK1=>?_;refine Wf (q04 ?_);obtain rfl:k=n:=by omega
   refine hK0 _ _ ?_; clear hK0 hK1;refine q0A fun K9 hK9=>?_;refine Zz2 k5 k6 ?_;refine q7X hO (Nat.mod_lt _ Oq) Oq hx.size ?_;intro v1 A3 c3 w3 hO3 hk3 hat;have hx3:Ext w w3:=hO.1.under hx hk3;have hval:val (o ++ [cr % 4294967296])=x+y:=by
    rw [q2m,hO.len,Nat.mod_eq_of_lt Oq,hv,q0K _ _ Oq,q0K _ _ Oq,q0I,q0I,hxy]
   refine Cr q1M (q9P (hO3.u32 hf) Oq) fun v4 w4 hx4 h4=>?_;rw [hval] at h4;refine hK9 _ _ ?_; clear hK9;refine q0O ?_
   try simp only [q0D,q0S]
   refine q1S rfl ⟨_,rfl,hx3.trans hx4,by simp only [q0E,↓reduceIte]; exact h4⟩
 by_cases hlt:n < n'
 ·have q:(n:Int) < n':=by omega
  refine Wz1 q ?_;refine Wt ?_;refine q0Q fun K9 hK9=>?_;refine Zz ?_;refine hK9 _ _ ?_; clear hK9 K9;exact main _ A' A n' n c' c y x h' h hb' Oq Oq Ue Ue
 ·have q:¬ (n:Int) < n':=by omega
  refine Wz1 q ?_;refine Wf (q0G ?_);exact main _ A A' n n' c c' x y h h' hb Oq rfl Ue Ue
def qd5 {t:Nat} {br x y:Nat} (hbr:br≤1) (hx:x < 4294967296) (hy:y < 4294967296) (ht:t=((x+(18446744073709551616-br)) % 18446744073709551616+(18446744073709551616-y)) % 18446744073709551616):t / 4294967296 % 2=t / 9223372036854775808:=by omega
def qiT {D:Nat→Prop} {A A':Option Addr} {n n' c c':Nat} {x y:Nat} {w:World} (h:In (fU (lim x)) D (.slice A n c) w) (h':In (fU (lim y)) D (.slice A' n' c') w) (hb:n≤900000000) (hle:y≤x) (hf:Fr D w) :
  Calls Tryz.prog 244 #[.slice A n c,.slice A' n' c'] w (Rt (fU (lim (x-y))) D w):=by
 have hl:=h.u32.len;have hl':=h'.u32.len;have hn:n'≤n:=by have:=q2t hle; omega
 refine q0J Tryz.func244 rfl Tryz.ntmps244 (by kernel_rfl) ?_;refine Wz ?_;refine q0A fun K hK=>?_;refine Zz ?_;refine mkU (Nat.le_refl _) Oq fun w0 hx0 hO0=>?_;generalize hg:w.heap.size=g at hO0;refine hK _ _ ?_; clear hK;refine Wz ?_;refine q0B fun K0 hK0=>?_;refine Wz ?_;refine q0X ?_;refine q0a (fun e2 w2=>∃ (k br:Nat) (o:List Nat),e2 15=.int .i64 k∧e2 6=.int .u64 br∧k≤n∧br≤1∧Ext w w2∧q12 w2 g (some ⟨g,0,none⟩) n n o∧val (o.take k)+val ((lim y).take k)=val ((lim x).take k)+B ^ k*br) (fun e2 _=>n-(RowKit.intOf (e2 15)).toNat) ⟨0,0,_,rfl,Ue,Nat.zero_le _,Nat.zero_le _,hx0,hO0,by simp [val]⟩ ?_;rintro e2 w1 ⟨k,br,o,k15,k6,hkm,hbr,hx,hO,hv⟩ hkk;have k1:e2 1=.slice A' n' c':=(hkk 1 (by kernel_rfl)).trans Ue;have k5:e2 5=.slice (some ⟨g,0,none⟩) n n:=(hkk 5 (by kernel_rfl)).trans Ue;have k13:e2 13=.slice A n c:=(hkk 13 (by kernel_rfl)).trans Ue;have k14:e2 14=.int .i64 n:=(hkk 14 (by kernel_rfl)).trans Ue;clear hkk;have hol:=hO.len;have hd1:=h.u32.dg_lt k;have hd2:=h'.u32.dg_lt k
 by_cases hlt:k < n
 ·have hlt':(k:Int) < n:=by omega
  refine Wz3 k15 k14 hlt' ?_;refine q0B fun K1 hK1=>?_;refine Wt (q0G (hK1 _ _ ?_));clear hK1;refine q0N fun K hK=>?_;obtain ⟨ad,rfl,-⟩:=h.u32.cell hlt;have e2':(0:Int)≤k∧(k:Int) < n:=by omega
  refine q0A fun K hK=>?_;simp -implicitDefEqProofs (disch:=omega) only [go_sem,Nat.reduceEqDiff,Nat.reduceAdd,↓reduceIte,k13,k15,e2',(h.ext hx).u32.cx hlt];refine hK _ _ ?_; clear hK K;refine q0A fun K hK=>?_;simp -implicitDefEqProofs (disch:=omega) only [go_sem,Nat.reduceEqDiff,Nat.reduceAdd,↓reduceIte,k6,q5q];refine hK _ _ ?_; clear hK K;refine q0B fun K1 hK1=>?_;have st2:∀ (e3:Env) (t:Nat),e3 15=.int .i64 k→e3 7=.int .i64 k→e3 9=.int .u64 (t:Nat)→e3 5=.slice (some ⟨g,0,none⟩) n n→t=((dg (lim x) k+(18446744073709551616-br)) % 18446744073709551616+(18446744073709551616-dg (lim y) k)) % 18446744073709551616→K1 e3 w1:=by
   intro e3 t q15 q7 q9 q5 ht;refine hK1 _ _ ?_; clear hK1;have htl:t < 18446744073709551616:=by omega
   have ea:=q2M (a:=t) htl;have eb:t % 4294967296 % 4294967296=t % 4294967296:=Nat.mod_mod _ _;refine q0A fun K9 hK9=>?_;refine Zz6 q9 q5 q7 ea eb e2' ?_;refine q1q hO hlt (Nat.mod_lt _ Oq) fun w3 hO3 hk3 hs3=>?_;refine hK9 _ _ ?_; clear hK9;have ec:=qaP (a:=t / 4294967296) Oq;refine q0Q fun K9 hK9=>?_;refine Zz2 q9 ec ?_;refine hK9 _ _ ?_; clear hK9 K9;refine hK _ _ ?_; clear hK;refine q0Q fun K9 hK9=>?_;refine Zz2 q15 @i64_in ?_;refine hK9 _ _ ?_; clear hK9 K9;have htk:(o.set k (t % 4294967296)).take (k+1)=o.take k ++ [t % 4294967296]:=by
    rw [q33 _ _ (by simp; omega),q2p]
    congr 2
    rw [List.getD_eq_getElem?_getD,List.getElem?_set_self (by omega)]; rfl
   have key:=qaa (o:=o.take k) (i:=k) (by rw [List.length_take,hol]; omega) hv hbr hd1 hd2 ht;have hs2:=qd5 hbr hd1 hd2 ht;refine ⟨⟨k+1,_,_,rfl,Ue,by omega,by omega,by subst hg; exact hO.1.under hx hk3,hO3,?_⟩,by simp only [q0E,↓reduceIte,RowKit.intOf,k15]; omega⟩;rw [htk,vts,vts,hs2]; exact key.1
  by_cases hb2:k < n'
  ·have hb2':(k:Int) < n':=by omega
   refine Wz2 k1 hb2' ?_;refine Wt ?_;obtain ⟨ad2,rfl,-⟩:=h'.u32.cell hb2;have e3':(0:Int)≤k∧(k:Int) < n':=by omega
   refine q0Q fun K9 hK9=>?_;simp -implicitDefEqProofs (disch:=omega) only [go_sem,Nat.reduceEqDiff,Nat.reduceAdd,↓reduceIte,k1,e3',(h'.ext hx).u32.cx hb2,q5q];refine hK9 _ _ ?_; clear hK9 K9;exact st2 _ _ Ue Ue Ue Ue rfl
  ·have hb2':¬ (k:Int) < n':=by omega
   refine Wz2 k1 hb2' ?_;refine Wf (q0G ?_);have hz:dg (lim y) k=0:=q62 Oq;exact st2 _ _ Ue Ue Ue Ue (by rw [hz]; omega)
 ·have hlt':¬ (k:Int) < n:=by omega
  refine Wz3 k15 k14 hlt' ?_;refine q0B fun K1 hK1=>?_;refine Wf (q04 ?_);obtain rfl:k=n:=by omega
  refine hK0 _ _ ?_; clear hK0 hK1;rw [List.take_of_length_le Oq,q0K _ _ Oq,q0K _ _ Oq,q0I,q0I] at hv;have hlt2:=q1V hO.2;rw [hol] at hlt2;have hbr0:br=0:=by
   rcases Nat.eq_zero_or_pos br with h0 | h0
   ·exact h0
   ·have:br=1:=by omega
    rw [this] at hv; omega
  rw [hbr0] at hv;refine q0A fun K9 hK9=>?_;refine Zz1 k5 ?_;refine Cr q1M (q9P (hO.u32 fun k hk=>hf k Oq) Oq) fun v4 w4 hx4 h4=>?_;rw [show val o=x-y by omega] at h4;refine hK9 _ _ ?_; clear hK9;refine q0O ?_
  try simp only [q0D,q0S]
  refine q1S rfl ⟨_,rfl,hx.trans hx4,by simp only [q0E,↓reduceIte]; exact h4⟩
end Go.Proofs.YtbcmhlhgljoolaaGreatDoor
namespace Go.E
open Go
def qgr {P:Program} {ops:Array Oper} {K:Env→World→Prop} {l2:List Oper}:∀ (l1:List Oper) (e:Env) (w:World),WLo P ops K (l1 ++ l2) e w=WLo P ops (fun e w=>WLo P ops K l2 e w) l1 e w
 | [],_,_=>by rw [List.nil_append,qgq]
 | o :: l1,e,w=>by
  rw [List.cons_append,q4b,q4b]
  congr 1
  funext v w'
  exact qgr l1 _ _
def qpx {P:Program} {ops:Array Oper} {K:Env→World→Prop} {l:List Oper} {e:Env} {w:World} (m:Nat) (h:∀ K':Env→World→Prop,(∀ e w,WLo P ops K (l.drop m) e w→K' e w)→WLo P ops K' (l.take m) e w):WLo P ops K l e w:=by
 have h1:=h (fun e w=>WLo P ops K (l.drop m) e w) fun _ _ h=>h;rw [← qgr,List.take_append_drop] at h1;exact h1
def qhX {P:Program} {d:Option Nat} {ty:TypeId} {pos:String} {af:Array Edge} {g:Option (Nat × Bool)} {e:Env} {w:World} {K:Value→World→Prop} {f:FuncId} {x:Operand} {xs:List Operand} {ts:Array TypeId}
  (hx:ev e x=.func (.func f) #[] #[]) (h:q7j P f (xs.map (ev e)) w K):wo P ⟨d,.call ⟨.value x,xs.toArray,ts⟩,ty,pos,af,g⟩ e w K:=by
 have h2:wo P ⟨d,.call ⟨.value (.func f),xs.toArray,ts⟩,ty,pos,af,g⟩ e w K:=by rw [qdD]; exact h
 have h3:=q6x h2;have key:execOp (ev e) ⟨d,.call ⟨.value x,xs.toArray,ts⟩,ty,pos,af,g⟩=execOp (ev e) ⟨d,.call ⟨.value (.func f),xs.toArray,ts⟩,ty,pos,af,g⟩:=by
  simp only [execOp,resolve,hx]; rfl
 have h4:WO P ⟨d,.call ⟨.value x,xs.toArray,ts⟩,ty,pos,af,g⟩ e w K:=by
  unfold WO at *; rw [key]; exact h3
 cases x with
 | func f' =>
  have:f'=f:=by simp [ev] at hx; exact hx
  subst this; exact h2
 | tmp t=>exact h4
 | const v=>exact h4
 | global g=>exact h4
def quoN {P:Program} {t:TypeId} {a b:Nat} (hb:b≠0) (ha:a < 18446744073709551616):q0z P .quo t (.int .u64 (a:Int)) (.int .u64 (b:Int))=some (.int .u64 ((a / b:Nat):Int)):=by
 rw [qaJ,if_neg (by omega)];have:Int.tdiv (a:Int) (b:Int)=((a / b:Nat):Int):=rfl;have h2:a / b≤a:=Nat.div_le_self a b;rw [this];generalize a / b=q at *;rw [u64_in Oq (by omega)]
def remN {P:Program} {t:TypeId} {a b:Nat} (hb:b≠0):q0z P .rem t (.int .u64 (a:Int)) (.int .u64 (b:Int))=some (.int .u64 ((a % b:Nat):Int)):=by
 rw [qaI,if_neg (by omega)]; rfl
end Go.E
namespace Go.Proofs.YtbcmhlhgljoolaaGreatDoor
open Go Go.E Go.Sp
def qh4 {D:Nat→Prop} {A A':Option Addr} {n n' c c':Nat} {x y:Nat} {w:World} (h:In (fU (lim x)) D (.slice A n c) w) (h':In (fU (lim y)) D (.slice A' n' c') w) (hb:n≤400000000) (hb':n'≤400000000) (hf:Fr D w) :
  Calls Tryz.prog 247 #[.slice A n c,.slice A' n' c'] w (Rt (fU (lim (x*y))) D w):=by
 have hl:=h.u32.len;have hl':=h'.u32.len;have hp1:=@q0R x;have hp2:=@q0R y;refine q0J Tryz.func247 rfl Tryz.ntmps247 (by kernel_rfl) ?_;refine Wz ?_;refine q0B fun K0 hK0=>?_
 by_cases hz:n=0
 ·have q:((n:Int) == 0)=true:=by rw [q8u]; exact decide_eq_true hz
  refine Wz1 q ?_;refine Wt ?_;refine Wz ?_;have h0:x*y=0:=by rw [show x=0 by omega,Nat.zero_mul]
  rw [h0];refine q0O ?_
  try simp only [q0D,q0S]
  refine q1S rfl ⟨_,rfl,Kp.refl _ _,⟨none,0,0,rfl,U32.nil⟩⟩
 have q1:((n:Int) == 0)=false:=by rw [q8u]; exact decide_eq_false hz
 by_cases hz':n'=0
 ·have q:((n':Int) == 0)=true:=by rw [q8u]; exact decide_eq_true hz'
  refine Wz2 q1 q ?_;refine Wt ?_;refine Wz ?_;have h0:x*y=0:=by rw [show y=0 by omega,Nat.mul_zero]
  rw [h0];refine q0O ?_
  try simp only [q0D,q0S]
  refine q1S rfl ⟨_,rfl,Kp.refl _ _,⟨none,0,0,rfl,U32.nil⟩⟩
 have q2:((n':Int) == 0)=false:=by rw [q8u]; exact decide_eq_false hz'
 refine Wz2 q1 q2 ?_;refine Wf (q0G (hK0 _ _ ?_));clear hK0;have hsum:IntKind.i64.wrap ((n:Int)+(n':Int))=((n+n':Nat):Int):=by rw [i64_in Oq (by omega)]; omega
 refine q0A fun K hK=>?_;refine Zz1 hsum ?_;refine mkU (Nat.le_refl _) Oq fun w0 hx0 hO0=>?_;generalize hg:w.heap.size=g at hO0;refine hK _ _ ?_; clear hK;refine q0B fun K0 hK0=>?_;refine Wz ?_;refine q0X ?_;refine q0a (fun e2 w2=>∃ (i:Nat) (o:List Nat),e2 28=.int .i64 i∧i≤n∧Ext w w2∧q12 w2 g (some ⟨g,0,none⟩) (n+n') (n+n') o∧val o=val ((lim x).take i)*y∧∀ q,i+n'≤q→o.getD q 0=0) (fun e2 _=>n-(RowKit.intOf (e2 28)).toNat) ⟨0,_,rfl,Nat.zero_le _,hx0,hO0,by simp [val,q1p],fun q _=>by simp [List.getD_eq_getElem?_getD,List.getElem?_replicate]; split <;> rfl⟩ ?_;rintro e1 w1 ⟨i,o,k28,hin,hx,hO,hv,hzr⟩ hkk;have k1:e1 1=.slice A' n' c':=(hkk 1 (by kernel_rfl)).trans Ue;have k5:e1 5=.slice (some ⟨g,0,none⟩) (n+n') (n+n'):=(hkk 5 (by kernel_rfl)).trans Ue;have k26:e1 26=.slice A n c:=(hkk 26 (by kernel_rfl)).trans Ue;have k27:e1 27=.int .i64 n:=(hkk 27 (by kernel_rfl)).trans Ue;clear hkk
 by_cases hlt:i < n
 ·have hlt':(i:Int) < n:=by omega
  refine Wz3 k28 k27 hlt' ?_;refine q0B fun K1 hK1=>?_;refine Wt (q0G (hK1 _ _ ?_));clear hK1;refine q0N fun K hK=>?_;have hd1:=h.u32.dg_lt i;obtain ⟨ad,rfl,-⟩:=h.u32.cell hlt;have e2':(0:Int)≤i∧(i:Int) < n:=by omega
  refine q0A fun K hK=>?_;simp -implicitDefEqProofs (disch:=omega) only [go_sem,Nat.reduceEqDiff,Nat.reduceAdd,↓reduceIte,k26,k28,e2',(h.ext hx).u32.cx hlt];refine hK _ _ ?_; clear hK K;refine Wz ?_;refine q0B fun K1 hK1=>?_;refine Wz1 k1 ?_;refine q0X ?_;refine q0a (fun e2 w2=>∃ (j cr:Nat) (o:List Nat),e2 35=.int .i64 j∧e2 8=.int .u64 cr∧j≤n'∧cr < 4294967296∧Ext w w2∧q12 w2 g (some ⟨g,0,none⟩) (n+n') (n+n') o∧val o+B ^ (i+j)*cr=val ((lim x).take i)*y+B ^ i*(dg (lim x) i*val ((lim y).take j))∧∀ q,i+n'≤q→o.getD q 0=0) (fun e2 _=>n'-(RowKit.intOf (e2 35)).toNat) ⟨0,0,o,rfl,Ue,Nat.zero_le _,by omega,hx,hO,by simp [hv,val],hzr⟩ ?_;clear hv hzr hO hx;rintro e2 w2 ⟨j,cr,o,k35,k8,hjn,hcr,hx,hO,hv,hzr⟩ hkk;have g1:e2 1=.slice A' n' c':=(hkk 1 (by kernel_rfl)).trans Ue;have g5:e2 5=.slice (some ⟨g,0,none⟩) (n+n') (n+n'):=(hkk 5 (by kernel_rfl)).trans Ue;have g6:e2 6=.int .i64 i:=(hkk 6 (by kernel_rfl)).trans Ue;have g7:e2 7=.int .u32 (dg (lim x) i:Nat):=(hkk 7 (by kernel_rfl)).trans Ue;have g28:e2 28=.int .i64 i:=(hkk 28 (by kernel_rfl)).trans Ue;have g33:e2 33=.slice A' n' c':=(hkk 33 (by kernel_rfl)).trans Ue;have g34:e2 34=.int .i64 n':=(hkk 34 (by kernel_rfl)).trans Ue;clear hkk;have hol:=hO.len
  by_cases hjt:j < n'
  ·have hjt':(j:Int) < n':=by omega
   refine Wz3 k35 g34 hjt' ?_;refine q0B fun K2 hK2=>?_;refine Wt (q0G (hK2 _ _ ?_));clear hK2;refine q0N fun K3 hK3=>?_;have hd2:=h'.u32.dg_lt j;obtain ⟨ad2,rfl,-⟩:=h'.u32.cell hjt;obtain ⟨q,hqe⟩:∃ q,q=i+j:=⟨_,rfl⟩;have hqn:q < n+n':=by omega
   have hd3:=hO.2.get q;have hbd:=q81 hcr hd1 hd2 hd3;unfold B at hd3;have hs:IntKind.i64.wrap ((i:Int)+(j:Int))=(q:Int):=by rw [i64_in Oq (by omega)]; omega
   have r2:(0:Int)≤j∧(j:Int) < n':=by omega
   have r3:(0:Int)≤q∧(q:Int) < (n+n':Nat):=by omega
   have m0:dg (lim x) i*dg (lim y) j < 18446744073709551616:=by omega
   have m1:dg (lim x) i*dg (lim y) j+o.getD q 0 < 18446744073709551616:=by unfold dg at *; omega
   have m2:dg (lim x) i*dg (lim y) j+o.getD q 0+cr < 18446744073709551616:=by unfold dg at *; omega
   have m3:dg (lim x) i*dg (lim y) j+o.getD q 0+cr=cr+dg (lim x) i*dg (lim y) j+o.getD q 0:=by omega
   refine q0A fun K hK=>?_;simp -implicitDefEqProofs (disch:=omega) only [go_sem,Nat.reduceEqDiff,Nat.reduceAdd,↓reduceIte,g33,k35,r2,(h'.ext hx).u32.cx hjt];refine hK _ _ ?_; clear hK K;refine q0A fun K hK=>?_;simp -implicitDefEqProofs (disch:=omega) only [go_sem,Nat.reduceEqDiff,Nat.reduceAdd,↓reduceIte,g7,g5,g6,k8,hs,r3,hO.cx hqn,qec m0,q8y m1,q8y m2];refine hK _ _ ?_; clear hK K;have ea:=q2M (a:=dg (lim x) i*dg (lim y) j+o.getD q 0+cr) m2;have eb:(dg (lim x) i*dg (lim y) j+o.getD q 0+cr) % 4294967296 % 4294967296=(dg (lim x) i*dg (lim y) j+o.getD q 0+cr) % 4294967296:=Nat.mod_mod _ _;refine q0A fun K hK=>?_;refine Zz6 g5 g6 hs r3 ea eb ?_;refine q1q hO hqn (Nat.mod_lt _ Oq) fun w4 hO4 hk4 hs4=>?_;refine hK _ _ ?_; clear hK;refine q0Q fun K9 hK9=>?_;refine Zz ?_;refine hK9 _ _ ?_; clear hK9 K9;refine hK3 _ _ ?_; clear hK3;refine q0Q fun K9 hK9=>?_;refine Zz2 k35 @i64_in ?_;refine hK9 _ _ ?_; clear hK9 K9;have hv':val o+B ^ q*cr=val ((lim x).take i)*y+B ^ i*(dg (lim x) i*val ((lim y).take j)):=by rw [hqe]; exact hv
   have key:=qat (x:=dg (lim x) i) (y:=dg (lim y) j) (by omega:q < o.length) hv';rw [m3] at hO4 ⊢;refine ⟨⟨j+1,_,_,rfl,Ue,by omega,?_,by subst hg; exact hO.1.under hx hk4,hO4,?_,?_⟩,by simp only [q0E,↓reduceIte,RowKit.intOf,k35]; omega⟩
   ·have:=hbd.1;unfold dg at *;omega
   ·rw [← Nat.add_assoc,← hqe,key,vts,hqe,Nat.pow_add,Nat.mul_add,Nat.mul_add];unfold dg;rw [Nat.add_assoc]
    congr 2
    rw [Nat.mul_assoc,Nat.mul_left_comm (B ^ j)]
   ·intro q' hq';rw [q0v (by omega)]; exact hzr q' hq'
  ·have hjt':¬ (j:Int) < n':=by omega
   refine Wz3 k35 g34 hjt' ?_;refine q0B fun K2 hK2=>?_;refine Wf (q04 (hK1 _ _ ?_));clear hK1 hK2;obtain rfl:j=n':=by omega
   have hs:IntKind.i64.wrap ((i:Int)+(j:Int))=((i+j:Nat):Int):=by rw [i64_in Oq (by omega)]; omega
   have r3:(0:Int)≤(i+j:Nat)∧((i+j:Nat):Int) < (n+j:Nat):=by omega
   refine q0Q fun K9 hK9=>?_;refine Zz6 g5 g6 g1 k8 hs r3 ?_;refine q1q hO Oq (Nat.mod_lt _ Oq) fun w4 hO4 hk4 hs4=>?_;refine hK9 _ _ ?_; clear hK9 K9;refine hK _ _ ?_; clear hK;refine q0Q fun K9 hK9=>?_;refine Zz2 g28 @i64_in ?_;refine hK9 _ _ ?_; clear hK9 K9;refine ⟨⟨i+1,_,rfl,by omega,by subst hg; exact hO.1.under hx hk4,hO4,?_,?_⟩,by simp only [q0E,↓reduceIte,RowKit.intOf,k28]; omega⟩
   ·have h1:=q3q (o:=o) (p:=i+j) (cr % 4294967296) Oq;rw [hzr (i+j) Oq,Nat.mul_zero,Nat.add_zero,Nat.mod_eq_of_lt hcr] at h1;rw [q0K (lim y) _ Oq,q0I] at hv;rw [Nat.mod_eq_of_lt hcr,h1,hv,vts,Nat.add_mul,Nat.mul_assoc]
    rfl
   ·intro q' hq';rw [q0v (by omega)]; exact hzr q' Oq
 ·have hlt':¬ (i:Int) < n:=by omega
  refine Wz3 k28 k27 hlt' ?_;refine q0B fun K1 hK1=>?_;refine Wf (q04 ?_);obtain rfl:i=n:=by omega
  refine hK0 _ _ ?_; clear hK0 hK1;rw [q0K _ _ Oq,q0I] at hv;refine q0A fun K9 hK9=>?_;refine Zz1 k5 ?_;refine Cr q1M (q9P (hO.u32 fun k hk=>hf k Oq) Oq) fun v4 w4 hx4 h4=>?_;rw [hv] at h4;refine hK9 _ _ ?_; clear hK9;refine q0O ?_
  try simp only [q0D,q0S]
  refine q1S rfl ⟨_,rfl,hx.trans hx4,by simp only [q0E,↓reduceIte]; exact h4⟩
def up_ok {D:Nat→Prop} {A:Option Addr} {n c m:Nat} {x:Nat} {w:World} (h:In (fU (lim x)) D (.slice A n c) w) (hb:n≤400000000) (hm:m≤1000000000) (hf:Fr D w) :
  Calls Tryz.prog 263 #[.slice A n c,.int .i64 m] w (Rt (fU (lim (x*2 ^ m))) D w):=by
 have hl:=h.u32.len;have hp1:=@q0R x;refine q0J Tryz.func263 rfl Tryz.ntmps263 (by kernel_rfl) ?_;refine Wz ?_;refine q0B fun K0 hK0=>?_
 by_cases hz:n=0
 ·have q:((n:Int) == 0)=true:=by rw [q8u]; exact decide_eq_true hz
  refine Wz1 q ?_;refine Wt ?_;refine Wz ?_;have h0:x*2 ^ m=0:=by rw [show x=0 by omega,Nat.zero_mul]
  rw [h0];refine q0O ?_
  try simp only [q0D,q0S]
  refine q1S rfl ⟨_,rfl,Kp.refl _ _,⟨none,0,0,rfl,U32.nil⟩⟩
 have q1:((n:Int) == 0)=false:=by rw [q8u]; exact decide_eq_false hz
 refine Wz1 q1 ?_;refine Wf (q0G (hK0 _ _ ?_));clear hK0;have hk:m % 32 < 32:=Nat.mod_lt _ Oq;have hmm:32*(m / 32)+m % 32=m:=Nat.div_add_mod m 32;obtain ⟨wh,hwh⟩:∃ wh,wh=m / 32:=⟨_,rfl⟩;obtain ⟨pt,hpt⟩:∃ pt,pt=m % 32:=⟨_,rfl⟩;rw [← hwh,← hpt] at hmm;rw [← hpt] at hk;have hp:2 ^ pt≤2147483648:=Nat.pow_le_pow_right (n:=2) Oq (show pt≤31 by omega);have hp0:=q0P pt;have ew:=hwh.symm;have ep:=hpt.symm;have eu:IntKind.u64.wrap (pt:Int)=pt:=u64_in Oq Oq;refine Wz3 ew ep eu ?_;have hs1:IntKind.i64.wrap ((wh:Int)+(n:Int))=((wh+n:Nat):Int):=by rw [i64_in Oq (by omega)]; omega
 have hs2:IntKind.i64.wrap (((wh+n:Nat):Int)+1)=((wh+n+1:Nat):Int):=by rw [i64_in Oq (by omega)]; omega
 refine q0A fun K hK=>?_;refine Zz2 hs1 hs2 ?_;refine mkU (Nat.le_refl _) Oq fun w0 hx0 hO0=>?_;generalize hg:w.heap.size=g at hO0;refine hK _ _ ?_; clear hK;refine q0B fun K0 hK0=>?_;refine Wz ?_;refine q0X ?_;refine q0a (fun e2 w2=>∃ (i:Nat) (o:List Nat),e2 27=.int .i64 i∧i≤n∧Ext w w2∧q12 w2 g (some ⟨g,0,none⟩) (wh+n+1) (wh+n+1) o∧val o=B ^ wh*(2 ^ pt*val ((lim x).take i))∧o.getD (wh+i) 0 < 2 ^ pt∧∀ q,wh+i < q→o.getD q 0=0) (fun e2 _=>n-(RowKit.intOf (e2 27)).toNat) ⟨0,_,rfl,Nat.zero_le _,hx0,hO0,by simp [val,q1p],by rw [List.getD_eq_getElem?_getD,List.getElem?_replicate]; split <;> exact hp0,fun q _=>by rw [List.getD_eq_getElem?_getD,List.getElem?_replicate]; split <;> rfl⟩ ?_;rintro e1 w1 ⟨i,o,k27,hin,hx,hO,hv,hlo,hzr⟩ hkk;have k5:e1 5=.int .i64 wh:=(hkk 5 (by kernel_rfl)).trans Ue;have k6:e1 6=.int .u64 pt:=(hkk 6 (by kernel_rfl)).trans Ue;have k7:e1 7=.slice (some ⟨g,0,none⟩) (wh+n+1) (wh+n+1):=(hkk 7 (by kernel_rfl)).trans Ue;have k25:e1 25=.slice A n c:=(hkk 25 (by kernel_rfl)).trans Ue;have k26:e1 26=.int .i64 n:=(hkk 26 (by kernel_rfl)).trans Ue;clear hkk;have hol:=hO.len
 by_cases hlt:i < n
 ·have hlt':(i:Int) < n:=by omega
  refine Wz3 k27 k26 hlt' ?_;refine q0B fun K1 hK1=>?_;refine Wt (q0G (hK1 _ _ ?_));clear hK1;refine q0N fun K hK=>?_;have hd1:=h.u32.dg_lt i;obtain ⟨d,hde⟩:∃ d,d=dg (lim x) i:=⟨_,rfl⟩;obtain ⟨ad,rfl,-⟩:=h.u32.cell hlt;have hcx:=(h.ext hx).u32.cx hlt;rw [← hde] at hd1 hcx;have e2':(0:Int)≤i∧(i:Int) < n:=by omega
  have hpr:d*2 ^ pt≤4294967295*2 ^ pt:=Nat.mul_le_mul_right _ Oq;have ht64:d*2 ^ pt < 18446744073709551616:=by omega
  have e3:d*2 ^ pt % 18446744073709551616=d*2 ^ pt:=Nat.mod_eq_of_lt ht64;refine Wz4 k25 k27 e2' hcx ?_;refine Wz2 k6 e3 ?_;obtain ⟨p,hpe⟩:∃ p,p=wh+i:=⟨_,rfl⟩;rw [← hpe] at hlo hzr;have hs:IntKind.i64.wrap ((wh:Int)+(i:Int))=(p:Int):=by rw [i64_in Oq (by omega)]; omega
  have hs':IntKind.i64.wrap ((p:Int)+1)=((p+1:Nat):Int):=by rw [i64_in Oq (by omega)]; omega
  have hpn:p < wh+n+1:=by omega
  have r3:(0:Int)≤p∧(p:Int) < (wh+n+1:Nat):=by omega
  have r4:(0:Int)≤(p+1:Nat)∧((p+1:Nat):Int) < (wh+n+1:Nat):=by omega
  obtain ⟨t,hte⟩:∃ t,t=d*2 ^ pt:=⟨_,rfl⟩;rw [← hte] at ht64 e3 hpr ⊢;have ea:=q2M (a:=t) ht64;have eb:t % 4294967296 % 4294967296=t % 4294967296:=Nat.mod_mod _ _;have hlow:o.getD p 0+t % 4294967296 < 4294967296∧o.getD p 0 ||| t % 4294967296=o.getD p 0+t % 4294967296:=by
   have hmul:t % 4294967296=2 ^ pt*(d % 2 ^ (32-pt)):=by
    have e:4294967296=2 ^ pt*2 ^ (32-pt):=by rw [← Nat.pow_add,show pt+(32-pt)=32 by omega]
    rw [hte,Nat.mul_comm d,e,Nat.mul_mod_mul_left]
   have hlt:=Nat.mod_lt d (q0P (32-pt));have e:2 ^ pt*2 ^ (32-pt)=4294967296:=by rw [← Nat.pow_add,show pt+(32-pt)=32 by omega]
   have h2:2 ^ pt*(d % 2 ^ (32-pt))+2 ^ pt≤4294967296:=by rw [← Nat.mul_succ,← e]; exact Nat.mul_le_mul_left _ hlt
   refine ⟨by omega,?_⟩;rw [hmul,Nat.mul_comm];exact q2H hlo
  have hod:o.getD p 0 < 4294967296:=by omega
  refine q0A fun K9 hK9=>?_;refine Zz9 k7 k5 k27 hs r3 (hO.cx hpn) ea eb hlow.2 ?_;refine q1q hO hpn hlow.1 fun w3 hO3 hk3 hs3=>?_;refine hK9 _ _ ?_; clear hK9;have hx3:Ext w w3:=by subst hg; exact hO.1.under hx hk3
  have hq1:t / 4294967296 < 4294967296:=by omega
  have hq2:t / 4294967296 % 4294967296=t / 4294967296:=Nat.mod_eq_of_lt hq1;refine q0Q fun K9 hK9=>?_;refine Zz6 k7 k5 hs hs' r4 hq2 ?_;refine q1q hO3 Oq hq1 fun w4 hO4 hk4 hs4=>?_;refine hK9 _ _ ?_; clear hK9;refine hK _ _ ?_; clear hK;refine q0Q fun K9 hK9=>?_;refine Zz2 k27 @i64_in ?_;refine hK9 _ _ ?_; clear hK9 K9;have hol3:=hO3.len;refine ⟨⟨i+1,_,rfl,by omega,by subst hg; exact hO3.1.under hx3 hk4,hO4,?_,?_,?_⟩,by simp only [q0E,↓reduceIte,RowKit.intOf,k27]; omega⟩
  ·have v1:=q3q (o:=o) (p:=p) (o.getD p 0+t % 4294967296) Oq;have v2:=q3q (o:=o.set p (o.getD p 0+t % 4294967296)) (p:=p+1) (t / 4294967296) Oq;rw [q0v Oq,hzr (p+1) Oq,Nat.mul_zero,Nat.add_zero] at v2;have hde':(lim x).getD i 0=d:=hde.symm;rw [v2,vts,hde'];have hB:B ^ (p+1)*(t / 4294967296)=B ^ p*(4294967296*(t / 4294967296)):=by rw [Nat.pow_succ,Nat.mul_assoc]; rfl
   have hB2:B ^ p*(t % 4294967296)+B ^ p*(4294967296*(t / 4294967296))=B ^ p*t:=by rw [← Nat.mul_add,Nat.mod_add_div]
   have hB3:B ^ p*t=B ^ wh*(2 ^ pt*(B ^ i*d)):=by
    rw [hpe,hte,Nat.pow_add,Nat.mul_assoc]
    congr 1
    rw [Nat.mul_comm d,Nat.mul_left_comm]
   rw [Nat.mul_add (B ^ p)] at v1;rw [Nat.mul_add,Nat.mul_add,← hv,← hB3,← hB2,hB];omega
  ·rw [show wh+(i+1)=p+1 by omega,List.getD_eq_getElem?_getD,List.getElem?_set_self (by omega)]
   show t / 4294967296 < 2 ^ pt
   rw [Nat.div_lt_iff_lt_mul (by omega)];have:4294967295*2 ^ pt < 2 ^ pt*4294967296:=by rw [Nat.mul_comm]; exact Nat.mul_lt_mul_of_pos_left Oq hp0
   omega
  ·intro q hq;rw [q0v Oq,q0v (by omega)]; exact hzr q Oq
 ·have hlt':¬ (i:Int) < n:=by omega
  refine Wz3 k27 k26 hlt' ?_;refine q0B fun K1 hK1=>?_;refine Wf (q04 ?_);obtain rfl:i=n:=by omega
  refine hK0 _ _ ?_; clear hK0 hK1;rw [q0K _ _ Oq,q0I] at hv;have hval:val o=x*2 ^ m:=by
   rw [hv,q9B,← Nat.pow_mul,← Nat.mul_assoc,← Nat.pow_add,hmm,Nat.mul_comm]
  refine q0A fun K9 hK9=>?_;refine Zz1 k7 ?_;refine Cr q1M (q9P (hO.u32 fun k hk=>hf k Oq) Oq) fun v4 w4 hx4 h4=>?_;rw [hval] at h4;refine hK9 _ _ ?_; clear hK9;refine q0O ?_
  try simp only [q0D,q0S]
  refine q1S rfl ⟨_,rfl,hx.trans hx4,by simp only [q0E,↓reduceIte]; exact h4⟩
def qj5 {x:Nat} {w:World}:Calls Tryz.prog 271 #[.int .u32 (x:Int)] w fun e w'=>e=.returned (.bool (decide (x≠0)))∧w=w':=by
 refine q0J Tryz.func271 rfl Tryz.ntmps271 (by kernel_rfl) ?_;refine Wz ?_;have q:((x:Int) != 0)=decide (x≠0):=qlw;refine Wz1 q ?_;refine q0O ?_
 try simp only [q0D,q0S]
 refine q1S rfl ⟨rfl,rfl⟩
def qnt {D:Nat→Prop} {A:Option Addr} {n c:Nat} {l:List Nat} {w:World} (h:In (fU l) D (.slice A n c) w) (hb:n≤1000000000) :
  Calls Tryz.prog 274 #[.slice A n c,.func (.func 271) #[] #[]] w fun e w'=>∃ r:Int,e=.returned (.int .i64 r)∧w=w'∧(r ≥ 0 ↔ val l≠0):=by
 have hl:=h.u32.len;refine q0J Tryz.func274 rfl Tryz.ntmps274 (by kernel_rfl) ?_;refine Wz ?_;refine q0B fun K0 hK0=>?_;refine Wz ?_;refine q0X ?_;refine q0a (fun e2 w2=>w2=w∧∃ k:Nat,e2 8=.int .i64 k∧k≤n∧val (l.take k)=0) (fun e2 _=>n-(RowKit.intOf (e2 8)).toNat) ⟨rfl,0,rfl,Nat.zero_le _,by simp [val]⟩ ?_;rintro e1 w1 ⟨rfl,k,k8,hk,hv⟩ hkk;have k0:e1 0=.slice A n c:=(hkk 0 (by kernel_rfl)).trans Ue;have k1:e1 1=.func (.func 271) #[] #[]:=(hkk 1 (by kernel_rfl)).trans Ue;have k7:e1 7=.int .i64 n:=(hkk 7 (by kernel_rfl)).trans Ue;clear hkk
 by_cases hlt:k < n
 ·have hlt':(k:Int) < n:=by omega
  refine Wz3 k8 k7 hlt' ?_;refine q0B fun K1 hK1=>?_;refine Wt (q0G (hK1 _ _ ?_));clear hK1;refine q0N fun K hK=>?_;obtain ⟨ad,rfl,-⟩:=h.u32.cell hlt;have e2':(0:Int)≤k∧(k:Int) < n:=by omega
  refine Wz1 k8 ?_;refine q0A fun K9 hK9=>?_;refine Zz4 k0 k1 e2' (h.u32.cx hlt) ?_
  set_option maxRecDepth 20000 in
  refine qhX (f:=271) (by simp only [qlP,q0E,Nat.reduceEqDiff,↓reduceIte]; try assumption) ?_;refine Zz ?_;refine q0F ql1 (qj5) ?_;rintro _ _ ⟨rfl,rfl⟩; refine ⟨_,rfl,?_⟩;refine hK9 _ _ ?_; clear hK9
  by_cases hz:dg l k=0
  ·have q:decide (dg l k≠0)=false:=by simp [hz]
   refine q02 rfl (fun hc=>by rw [q] at hc; cases hc) (fun hc=>q0G (hK _ _ ?_));clear hK;refine q0Q fun K9 hK9=>?_;refine Zz2 k8 @i64_in ?_;refine hK9 _ _ ?_; clear hK9 K9;exact ⟨⟨rfl,k+1,rfl,by omega,q2P.2 ⟨hv,hz⟩⟩,by simp only [q0E,↓reduceIte,RowKit.intOf,k8]; omega⟩
  ·have q:decide (dg l k≠0)=true:=by simp [hz]
   refine q02 rfl (fun hc=>?_) (fun hc=>by rw [q] at hc; cases hc);refine Wz ?_;refine q0O ?_
   try simp only [q0D,q0S]
   refine q1S rfl ⟨k,by simp only [q0E,Nat.reduceEqDiff,↓reduceIte],rfl,?_⟩;refine ⟨fun _ h0=>?_,fun _=>by omega⟩;have h1:=q1G l (k+1) Oq;have h2:val (l.take (k+1))=0:=by rw [h0] at h1; omega
   exact hz (q2P.1 h2).2
 ·have hlt':¬ (k:Int) < n:=by omega
  refine Wz3 k8 k7 hlt' ?_;refine q0B fun K1 hK1=>?_;refine Wf (q04 (hK0 _ _ ?_));rw [List.take_of_length_le (by omega)] at hv;refine Wz ?_;exact q0O (q1S rfl ⟨-1,by simp only [q0E,Nat.reduceEqDiff,↓reduceIte],rfl,⟨fun h=>by omega,fun h=>absurd hv h⟩⟩)
def qon {D:Nat→Prop} {A:Option Addr} {n c:Nat} {l:List Nat} {w:World} (h:In (fU l) D (.slice A n c) w) (hb:n≤1000000000) :
  Calls Tryz.prog 270 #[.slice A n c,.func (.func 271) #[] #[]] w fun e w'=>e=.returned (.bool (decide (val l≠0)))∧w=w':=by
 refine q0J Tryz.func270 rfl Tryz.ntmps270 (by kernel_rfl) ?_;refine Wz ?_;refine q0A fun K hK=>?_;refine Zz ?_;refine q0F qlZ (qnt h hb) ?_;rintro _ _ ⟨r,rfl,rfl,hr⟩; refine ⟨_,rfl,?_⟩;have q:decide (r ≥ 0)=decide (val l≠0):=by rw [decide_eq_decide]; exact hr
 refine Zz ?_;refine hK _ _ ?_; clear hK;refine q0O (q1S rfl ⟨?_,rfl⟩);simp only [q0E,Nat.reduceEqDiff,↓reduceIte];exact congrArg (fun b=>Ending.returned (.bool b)) q
def qoh {D:Nat→Prop} {A:Option Addr} {n c m:Nat} {x:Nat} {w:World} (h:In (fU (lim x)) D (.slice A n c) w) (hb:n≤400000000) (hm:m≤1000000000) (hf:Fr D w) :
  Calls Tryz.prog 265 #[.slice A n c,.int .i64 m] w (Rt (fP (fU (lim (x / 2 ^ m))) (fc (.bool (decide (x % 2 ^ m≠0))))) D w):=by
 have hl:=h.u32.len;have hp1:=@q0R x;refine q0J Tryz.func265 rfl Tryz.ntmps265 (by kernel_rfl) ?_;refine Wz ?_;have hk:m % 32 < 32:=Nat.mod_lt _ Oq;have hmm:32*(m / 32)+m % 32=m:=Nat.div_add_mod m 32;obtain ⟨wh,hwh⟩:∃ wh,wh=m / 32:=⟨_,rfl⟩;obtain ⟨pt,hpt⟩:∃ pt,pt=m % 32:=⟨_,rfl⟩;rw [← hwh,← hpt] at hmm;rw [← hpt] at hk;have hp:2 ^ pt≤2147483648:=Nat.pow_le_pow_right (n:=2) Oq (show pt≤31 by omega);have hp0:=q0P pt;have ew:=hwh.symm;have ep:=hpt.symm;have eu:IntKind.u64.wrap (pt:Int)=pt:=u64_in Oq Oq;refine Wz3 ew ep eu ?_;refine q0B fun K0 hK0=>?_
 by_cases hge:n≤wh
 ·have q:((wh:Int) ≥ n):=by omega
  refine Wz1 q ?_;refine Wt ?_;refine Wz ?_;have hxl:x < 2 ^ m:=by
   have h1:=q1X x;rw [hl,q9B,← Nat.pow_mul] at h1;exact Nat.lt_of_lt_of_le h1 (Nat.pow_le_pow_right Oq Oq)
  rw [Nat.div_eq_of_lt hxl,Nat.mod_eq_of_lt hxl];refine q0O (q8S rfl ⟨_,rfl,Kp.refl _ _,⟨_,_,rfl,⟨none,0,0,rfl,U32.nil⟩,?_⟩⟩);simp only [q0E,Nat.reduceEqDiff,↓reduceIte];exact congrArg Value.bool (by rw [decide_eq_decide]; omega)
 ·have q:¬ ((wh:Int) ≥ n):=by omega
  refine Wz1 q ?_;refine Wf (q0G (hK0 _ _ ?_));clear hK0;have hwn:wh < n:=by omega
  have hfst:In (fU ((lim x).take wh)) D (.slice A wh c) w:=(h.u32.take Oq).in;have r1:(0:Int)≤wh∧(wh:Int)≤c:=by have:=h.u32.cap; omega
  have r2:(0:Int)≤wh∧(wh:Int) < n:=by omega
  have hdw:=h.u32.dg_lt wh;have hlost:=qaw (q1b x) wh pt Oq;rw [hmm,q0I] at hlost;obtain ⟨ad,rfl,-⟩:=h.u32.cell hwn;have hs1:IntKind.u32.wrap (((2 ^ pt:Nat):Int)-1)=((2 ^ pt-1:Nat):Int):=qd7 hp0 Oq;have ha1:q0y .and .u32 ((dg (lim x) wh:Nat):Int) ((2 ^ pt-1:Nat):Int)=((dg (lim x) wh % 2 ^ pt:Nat):Int):=by
   rw [qbk hdw Oq,Nat.and_two_pow_sub_one_eq_mod]
  have main:∀ e1:Env,e1 0=.slice (some ad) n c→e1 6=.int .i64 wh→e1 7=.int .u64 pt→e1 8=.bool (decide (x % 2 ^ m≠0))→W Tryz.prog 86 (match Tryz.f265.body with | some (.seq _ (.seq _ (.seq _ (.seq _ c))))=>c | _=>.skip) (q9D Tryz.prog Tryz.f265 (Rt (fP (fU (lim (x / 2 ^ m))) (fc (.bool (decide (x % 2 ^ m≠0))))) D w)) e1 w:=by
   intro e1 k0 k6 k7 k8;have hs2:IntKind.i64.wrap ((n:Int)-(wh:Int))=((n-wh:Nat):Int):=by rw [i64_in Oq (by omega)]; omega
   refine q0A fun K hK=>?_;refine Zz3 k0 k6 hs2 ?_;refine mkU (Nat.le_refl _) Oq fun w0 hx0 hO0=>?_;generalize hg:w.heap.size=g at hO0;refine hK _ _ ?_; clear hK;refine q0B fun K0 hK0=>?_;refine Wz ?_;refine q0X ?_;refine q0a (fun e2 w2=>∃ (j:Nat) (o:List Nat),e2 46=.int .i64 j∧j≤n-wh∧Ext w w2∧q12 w2 g (some ⟨g,0,none⟩) (n-wh) (n-wh) o∧val (o.take j)+B ^ j*(val ((lim x).drop (wh+j)) / 2 ^ pt)=val ((lim x).drop wh) / 2 ^ pt) (fun e2 _=>n-(RowKit.intOf (e2 46)).toNat) ⟨0,_,rfl,Nat.zero_le _,hx0,hO0,by simp [val]⟩ ?_;rintro e2 w1 ⟨j,o,k46,hj,hx,hO,hv⟩ hkk;have g0:e2 0=.slice (some ad) n c:=by have:=hkk 0 (by kernel_rfl); simp only [q0E,Nat.reduceEqDiff,↓reduceIte,k0] at this; exact this
   have g6:e2 6=.int .i64 wh:=by have:=hkk 6 (by kernel_rfl); simp only [q0E,Nat.reduceEqDiff,↓reduceIte,k6] at this; exact this
   have g7:e2 7=.int .u64 pt:=by have:=hkk 7 (by kernel_rfl); simp only [q0E,Nat.reduceEqDiff,↓reduceIte,k7] at this; exact this
   have g8:e2 8=.bool (decide (x % 2 ^ m≠0)):=by have:=hkk 8 (by kernel_rfl); simp only [q0E,Nat.reduceEqDiff,↓reduceIte,k8] at this; exact this
   have g9:e2 9=.slice (some ⟨g,0,none⟩) (n-wh) (n-wh):=by have:=hkk 9 (by kernel_rfl); simp only [q0E,Nat.reduceEqDiff,↓reduceIte] at this; exact this
   have g45:e2 45=.int .i64 ((n-wh:Nat):Int):=by have:=hkk 45 (by kernel_rfl); simp only [q0E,Nat.reduceEqDiff,↓reduceIte] at this; exact this
   clear hkk;have hol:=hO.len
   by_cases hlt:j < n-wh
   ·have hlt':(j:Int) < (n-wh:Nat):=by omega
    refine Wz3 k46 g45 hlt' ?_;refine q0B fun K1 hK1=>?_;refine Wt (q0G (hK1 _ _ ?_));clear hK1;refine q0N fun K hK=>?_;obtain ⟨p,hpe⟩:∃ p,p=wh+j:=⟨_,rfl⟩;have hs:IntKind.i64.wrap ((wh:Int)+(j:Int))=(p:Int):=by rw [i64_in Oq (by omega)]; omega
    obtain ⟨p1,hp1e⟩:∃ p1,p1=p+1:=⟨_,rfl⟩;have hs':IntKind.i64.wrap ((p:Int)+1)=(p1:Int):=by rw [i64_in Oq (by omega)]; omega
    have r3:(0:Int)≤p∧(p:Int) < n:=by omega
    have r5:(0:Int)≤j∧(j:Int) < (n-wh:Nat):=by omega
    have hpn:p < n:=by omega
    have hd1:=h.u32.dg_lt p;have hd2:=h.u32.dg_lt p1;refine Wz1 k46 ?_;refine q0A fun K hK=>?_;simp -implicitDefEqProofs (disch:=omega) only [go_sem,Nat.reduceEqDiff,Nat.reduceAdd,↓reduceIte,g0,g6,hs,r3,(h.ext hx).u32.cx hpn];refine hK _ _ ?_; clear hK K;refine q0B fun K1 hK1=>?_;have st:∀ e3:Env,e3 46=.int .i64 j→e3 10=.int .i64 j→e3 11=.int .u64 ((dg (lim x) p+dg (lim x) p1*4294967296:Nat):Int)→e3 7=.int .u64 pt→e3 9=.slice (some ⟨g,0,none⟩) (n-wh) (n-wh)→K1 e3 w1:=by
     intro e3 q46 q10 q11 q7 q9;refine hK1 _ _ ?_; clear hK1;obtain ⟨t,hte⟩:∃ t,t=(dg (lim x) p+dg (lim x) p1*4294967296) / 2 ^ pt:=⟨_,rfl⟩;have htl:t < 18446744073709551616:=by
      have:=Nat.div_le_self (dg (lim x) p+dg (lim x) p1*4294967296) (2 ^ pt);omega
     have hte':=hte.symm;have ea:=q2M (a:=t) htl;have eb:t % 4294967296 % 4294967296=t % 4294967296:=Nat.mod_mod _ _;refine q0Q fun K9 hK9=>?_;refine Zz8 q9 q10 q11 q7 hte' ea eb r5 ?_;refine q1q hO hlt (Nat.mod_lt _ Oq) fun w3 hO3 hk3 hs3=>?_;refine hK9 _ _ ?_; clear hK9;refine hK _ _ ?_; clear hK;refine q0Q fun K9 hK9=>?_;refine Zz2 q46 @i64_in ?_;refine hK9 _ _ ?_; clear hK9 K9;have htk:(o.set j (t % 4294967296)).take (j+1)=o.take j ++ [t % 4294967296]:=by
      rw [q33 _ _ (by simp; omega),q2p]
      congr 2
      rw [List.getD_eq_getElem?_getD,List.getElem?_set_self (by omega)]; rfl
     have key:=qae (o:=o.take j) (j:=j) (Nat.le_of_lt hk) (q1b x) (by rw [List.length_take,hol]; omega) hv;refine ⟨⟨j+1,_,rfl,by omega,by subst hg; exact hO.1.under hx hk3,hO3,?_⟩,by simp only [q0E,↓reduceIte,RowKit.intOf,k46]; omega⟩;rw [htk,hte,hp1e,hpe]; exact key
    by_cases hn1:p1 < n
    ·have hn':(p1:Int) < n:=by omega
     refine Wz6 g6 k46 hs hs' g0 hn' ?_;refine Wt ?_;have r4:(0:Int)≤p1∧(p1:Int) < n:=by omega
     have e6:dg (lim x) p1*4294967296 % 18446744073709551616=dg (lim x) p1*4294967296:=Nat.mod_eq_of_lt Oq;have e7:dg (lim x) p ||| dg (lim x) p1*4294967296=dg (lim x) p+dg (lim x) p1*4294967296:=q2H (k:=32) hd1;refine q0Q fun K9 hK9=>?_;simp -implicitDefEqProofs (disch:=omega) only [go_sem,Nat.reduceEqDiff,Nat.reduceAdd,↓reduceIte,g6,k46,hs,hs',g0,r4,(h.ext hx).u32.cx hn1,e6,e7];refine hK9 _ _ ?_; clear hK9 K9;exact st _ Ue Ue Ue Ue Ue
    ·have hn':¬ (p1:Int) < n:=by omega
     refine Wz6 g6 k46 hs hs' g0 hn' ?_;refine Wf (q0G ?_);have hz:dg (lim x) p1=0:=q62 Oq;refine st _ Ue Ue ?_ Ue Ue;rw [hz]; exact Ue
   ·have hlt':¬ (j:Int) < (n-wh:Nat):=by omega
    refine Wz3 k46 g45 hlt' ?_;refine q0B fun K1 hK1=>?_;refine Wf (q04 ?_);obtain rfl:j=n-wh:=by omega
    refine hK0 _ _ ?_; clear hK0 hK1;have hd0:val ((lim x).drop (wh+(n-wh)))=0:=by rw [List.drop_of_length_le (by omega)]; rfl
    rw [hd0,Nat.zero_div,Nat.mul_zero,Nat.add_zero,q2n (q1b x),q0I,Nat.div_div_eq_div_mul,q9B,← Nat.pow_mul,← Nat.pow_add,hmm,List.take_of_length_le (by omega)] at hv;refine q0A fun K9 hK9=>?_;refine Zz2 g9 g8 ?_;refine Cr q1M (q9P (hO.u32 fun k hk=>hf k Oq) Oq) fun v4 w4 hx4 h4=>?_;rw [hv] at h4;refine hK9 _ _ ?_; clear hK9;refine q0O (q8S rfl ⟨_,rfl,hx.trans hx4,⟨_,_,rfl,?_,?_⟩⟩)
    ·simp only [q0E,Nat.reduceEqDiff,↓reduceIte]; exact h4
    ·simp only [q0E,Nat.reduceEqDiff,↓reduceIte]; rfl
  refine q0A fun K hK=>?_;refine qpx 4 fun KC hKC=>?_;simp -implicitDefEqProofs (disch:=omega) only [go_sem,Nat.reduceEqDiff,Nat.reduceAdd,↓reduceIte,List.take_succ_cons,List.take_zero,r1];refine q0F ql2 (qon hfst Oq) ?_;rintro _ _ ⟨rfl,rfl⟩; refine ⟨_,rfl,?_⟩;refine hKC _ _ ?_; clear hKC KC
  by_cases hv0:val ((lim x).take wh)=0
  ·have q1:decide (val ((lim x).take wh)≠0)=false:=by simp [hv0]
   have q2:(((dg (lim x) wh % 2 ^ pt:Nat):Int) != 0)=decide (x % 2 ^ m≠0):=by
    rw [qlw,decide_eq_decide];unfold dg;rw [hv0] at hlost;simp only [true_and] at hlost;omega
   simp -implicitDefEqProofs (disch:=omega) only [go_sem,Nat.reduceEqDiff,Nat.reduceAdd,↓reduceIte,List.drop_succ_cons,List.drop_zero,q1,r2,h.u32.cx hwn,hs1,ha1,q2];refine hK _ _ ?_; clear hK;exact main _ Ue Ue Ue Ue
  ·have q1:decide (val ((lim x).take wh)≠0)=true:=by simp [hv0]
   simp -implicitDefEqProofs (disch:=omega) only [go_sem,Nat.reduceEqDiff,Nat.reduceAdd,↓reduceIte,List.drop_succ_cons,List.drop_zero,q1];refine hK _ _ ?_; clear hK;refine main _ Ue Ue Ue ?_;simp only [q0E,Nat.reduceEqDiff,↓reduceIte];refine congrArg Value.bool ?_
   symm
   rw [decide_eq_true_eq];intro h0;exact hv0 (hlost.1 h0).1
def qb0 {D:Nat→Prop} {A:Option Addr} {n c:Nat} {l:List Nat} {w:World} (h:U32 w D A n c l) (hb:n≤1000000000) :
  Calls Tryz.prog 197 #[.slice A n c] w fun e w'=>∃ A' c',e=.returned (.slice A' n c')∧Ext w w'∧q12 w' w.heap.size A' n c' l:=by
 refine q0J Tryz.func197 rfl Tryz.ntmps197 (by kernel_rfl) ?_;refine Wz ?_;refine q0B fun K1 hK1=>?_;refine q0A fun K hK=>?_;refine Zz ?_;refine hK _ _ ?_; clear hK;cases A with
 | none =>
  have hn:n=0:=by
   rcases Nat.eq_zero_or_pos n with h0 | h0
   ·exact h0
   ·obtain ⟨ad,h1,_⟩:=h.cell h0; cases h1
  subst hn;have hl:l=[]:=List.eq_nil_of_length_eq_zero h.len;subst hl;refine Wt ?_;refine Wz ?_;refine q0O ?_
  try simp only [q0D,q0S]
  refine q1S rfl ⟨none,0,rfl,Kp.refl _ _,Own.nil _ _ _ _,q1w.nil⟩
 | some ad =>
  refine Wf (q0G (hK1 _ _ ?_));clear hK1;refine q0A fun K hK=>?_;refine Zz ?_;refine q3i fun w1 hx1 hb1 hs1=>?_;have hO:q12 w1 w.heap.size (some ⟨w.heap.size,0,none⟩) 0 0 []:=⟨by
   have:=Own.made (w:=w1) (w':=w) (B:=w.heap.size) (sz:=1) (n:=0) (c:=0) hb1 (Nat.le_refl _) (by simp [maxLen]) rfl (Nat.le_refl _);simpa using this,q1w.nil⟩
  have hl:=h.len;refine q7o (xs:=[]) qo4 rfl Oq hO.1 (h.ext hx1).1 (fun u hu=>by
   obtain ⟨d,_,rfl⟩:=List.mem_map.1 hu; rfl) Oq hx1.size fun A' c' w' ho hk hat=>?_
  refine hK _ _ ?_; clear hK;refine q0O (q1S rfl ⟨A',c',by simp [upd],hO.1.under hx1 hk,?_,h.2⟩);simpa using ho
def qmA {D : Nat → Prop} {A : Option Addr} {n c : Nat} {l : List Nat} {s : Bool} {w : World} (h : U32 w D A n c l) (hb : n ≤ 1000000000) (hf : Fr D w) :
    Calls Tryz.prog 196 #[.bool s, .slice A n c] w fun e w' => ∃ s' A' n' c', e = .returned (.agg #[.bool s', .slice A' n' c']) ∧ Ext w w' ∧ Big w' D s' A' n' c' (sgn s (val l)) := by
  refine q0J Tryz.func196 rfl Tryz.ntmps196 (by kernel_rfl) ?_
  refine q0A fun K hK => ?_
  refine Zz ?_
  refine q0r ?_
  intro g1 w1 hg1 hx1 hb1 hs1
  refine hK _ _ ?_; clear hK
  refine q0A fun K hK => ?_
  refine Zz ?_
  refine q0F q1M (qdO ((h.sub (Dx.keep (a := w.heap.size) (b := w1.heap.size) rfl)).ext hx1) hb) ?_
  rintro _ w2 ⟨m, rfl, rfl, hU⟩; refine ⟨_, rfl, ?_⟩
  refine hK _ _ ?_; clear hK
  have hml := hU.len
  have hpos := @q0R (val l)
  refine q0B fun K1 hK1 => ?_
  refine q0A fun K hK => ?_
  refine Zz ?_
  refine hK _ _ ?_; clear hK
  by_cases hm : m = 0
  · have hv : val l = 0 := by omega
    have hm' : ((m : Int) == 0) = true := by simp [hm]
    refine q02 rfl (fun hc => ?_) (fun hc => by rw [hm'] at hc; cases hc)
    refine q0A fun K hK => ?_
    refine Zz ?_
    refine q00 hb1 q0s rfl rfl fun w9 hk9 hb9 => ?_
    refine hK _ _ ?_; clear hK
    refine q0O ?_
    simp only [q0D, q0S]
    refine (q3D rfl (q0p rfl q1Z hb9 rfl) ⟨_, _, _, _, rfl, hx1.under hk9 (fun k hk => by omega), ?_⟩)
    rw [hv]
    exact ⟨by cases s <;> rfl, by rw [q1R]; exact U32.nil⟩
  · have hm' : ((m : Int) == 0) = false := by simp [hm]
    refine q02 rfl (fun hc => by rw [hm'] at hc; cases hc) (fun hc => q0G (hK1 _ _ ?_))
    clear hK1
    have hB : Big w1 (Dx D w.heap.size w1.heap.size) s A m c (sgn s (val l)) := ⟨by rw [q91]; have : 0 < val l := by omega
                                                                                    simp [this], by rw [q1R]; exact hU⟩
    refine q0A fun K hK => ?_
    refine Zz ?_
    refine q00 hb1 q0s rfl rfl fun w9 hk9 hb9 => ?_
    refine hK _ _ ?_; clear hK
    refine q0O ?_
    try simp only [q0D, q0S]
    exact (q3D rfl (q0p (by first | exact rfl | assumption) q1Z hb9 rfl) ⟨_, _, _, _, rfl, (hx1).under hk9 (fun k hk => by omega), (hB.kp (hk9.mono fun k _ h => Dx.ne h Oq Oq)).sub fun k _ h => h.1⟩)
def qoA {D:Nat→Prop} {A:Option Addr} {n c:Nat} {l:List Nat} {s:Bool} {w:World} (h:U32 w D A n c l) (hb:n≤1000000000) (hf:Fr D w) :
  Calls Tryz.prog 131 #[.agg #[.bool s,.slice A n c]] w fun e w'=>∃ s' A' n' c',e=.returned (.agg #[.bool s',.slice A' n' c'])∧Ext w w'∧Big w' D s' A' n' c' (sgn (!s) (val l)):=by
 refine q0J Tryz.func131 rfl Tryz.ntmps131 (by kernel_rfl) ?_;refine q0A fun K hK=>?_;refine Zz ?_;refine q01 ?_;intro g1 w1 hg1 hx1 hb1 hs1;refine q0r ?_;intro g2 w2 hg2 hx2 hb2 hs2;refine hK _ _ ?_; clear hK;replace hb1:=hb1.ext hx2;have hD:Fr (Dx D w.heap.size w2.heap.size) w2:=Dx.fr ((hf.kp hx1).kp hx2) (Nat.le_refl _);have hU:U32 w2 (Dx D w.heap.size w2.heap.size) A n c l:=((h.sub (Dx.keep rfl)).ext hx1).ext hx2;have hc0:∀ w',Ext w2 w'→w'.cell? ⟨g1,0,none⟩=some (.bool s):=fun w' hw=>(hb1.ext hw).cell 0;have hc1:∀ w',Ext w2 w'→w'.cell? ⟨g1,1,none⟩=some (.slice A n c):=fun w' hw=>(hb1.ext hw).cell 1;refine q0B fun K hK=>?_
 apply qgn q0l (Kp.pre (fun _=>True)) [(3,is (.pointer (some ⟨g1,0,none⟩))),(4,is (.bool s)),(5,is (.bool !s)),(6,is (.pointer (some ⟨g1,1,none⟩))),(7,is (.slice A n c)),
  (8,⟨fun v w'=>∃ A' c',v=.slice A' n c'∧U32 w' (Dx D w.heap.size w2.heap.size) A' n c' l,fun v w w' hk ⟨A',c',h1,h2⟩=>⟨A',c',h1,h2.ext hk⟩⟩),
  (9,⟨fun v w'=>∃ s' A' n' c',v=.agg #[.bool s',.slice A' n' c']∧Big w' (Dx D w.heap.size w2.heap.size) s' A' n' c' (sgn (!s) (val l)),fun v w w' hk ⟨s',A',n',c',h1,h2⟩=>⟨s',A',n',c',h1,h2.ext hk⟩⟩)]
 ·kernel_rfl
 ·refine q1j (fun e' w' hw hd ho=>?_) ?_
  ·skip
   have o1:=ho 1 (by kernel_rfl) (by kernel_rfl);simp -implicitDefEqProofs (disch:=omega) only [go_sem,Nat.reduceEqDiff,Nat.reduceAdd,↓reduceIte,o1];exact ⟨Kp.refl _ _,by first | exact (rfl) | (intro d hd; cases hd; exact (rfl))⟩
  refine q1j (fun e' w' hw hd ho=>?_) ?_
  ·skip
   have h3:=hd 3 (by kernel_rfl);change _=_ at h3;simp -implicitDefEqProofs (disch:=omega) only [go_sem,Nat.reduceEqDiff,Nat.reduceAdd,↓reduceIte,h3,hc0 _ hw];exact ⟨Kp.refl _ _,by first | exact (rfl) | (intro d hd; cases hd; exact (rfl))⟩
  refine q1j (fun e' w' hw hd ho=>?_) ?_
  ·skip
   have h4:=hd 4 (by kernel_rfl);change _=_ at h4;refine Zz1 h4 ?_;exact ⟨Kp.refl _ _,by first | exact (rfl) | (intro d hd; cases hd; exact (rfl))⟩
  refine q1j (fun e' w' hw hd ho=>?_) ?_
  ·skip
   have o1:=ho 1 (by kernel_rfl) (by kernel_rfl);simp -implicitDefEqProofs (disch:=omega) only [go_sem,Nat.reduceEqDiff,Nat.reduceAdd,↓reduceIte,o1];exact ⟨Kp.refl _ _,by first | exact (rfl) | (intro d hd; cases hd; exact (rfl))⟩
  refine q1j (fun e' w' hw hd ho=>?_) ?_
  ·skip
   have h6:=hd 6 (by kernel_rfl);change _=_ at h6;simp -implicitDefEqProofs (disch:=omega) only [go_sem,Nat.reduceEqDiff,Nat.reduceAdd,↓reduceIte,h6,hc1 _ hw];exact ⟨Kp.refl _ _,by first | exact (rfl) | (intro d hd; cases hd; exact (rfl))⟩
  refine q1j (fun e' w' hw hd ho=>?_) ?_
  ·skip
   have h7:=hd 7 (by kernel_rfl);change _=_ at h7;refine Zz1 h7 ?_;refine q0F q6r (qb0 (hU.ext hw) hb) ?_;rintro _ w3 ⟨A3,c3,rfl,hx3,hO3⟩; refine ⟨_,rfl,?_⟩;exact ⟨hx3,fun d hd=>by cases hd; exact ⟨A3,c3,rfl,hO3.u32 fun k hk=>hD k (by have:=hw.size; omega)⟩⟩
  refine q1j (fun e' w' hw hd ho=>?_) ?_
  ·skip
   have h5:=hd 5 (by kernel_rfl);have h8:=hd 8 (by kernel_rfl);change _=_ at h5;obtain ⟨A',c',h8,hU8⟩:=h8;refine Zz2 h5 h8 ?_;refine q0F q2X (qmA hU8 hb (hD.kp hw)) ?_;rintro _ w3 ⟨s3,A3,n3,c3,rfl,hx3,hB3⟩; refine ⟨_,rfl,?_⟩;exact ⟨hx3,fun d hd=>by cases hd; exact ⟨s3,A3,n3,c3,rfl,hB3⟩⟩
  exact qdb
 ·intro e' w' hw hs ho;obtain ⟨s9,A9,n9,c9,h9,hB9⟩:=hs 9 (by kernel_rfl);have h2:=ho 2 (by kernel_rfl);refine q0w ?_;refine Zz2 h9 h2 ?_;replace hb2:=hb2.ext hw;refine q00 hb2 q0s rfl rfl fun w9 hk9 hb9=>?_;refine hK _ _ ?_; clear hK;refine q0O ?_
  try simp only [q0D,q0S]
  exact (q3D rfl (q0p (by first | exact rfl | assumption) q1Z hb9 rfl) ⟨_,_,_,_,rfl,(((hx1.trans hx2).trans hw)).under hk9 (fun k hk=>by omega),(hB9.kp (hk9.mono fun k _ h=>Dx.ne h Oq Oq)).sub fun k _ h=>h.1⟩)
section
variable {D:Nat→Prop} {v v':Value} {w:World} {x y:Nat} {l:List Nat}
def q05 (h:bl x≤20000000):(lim x).length≤700000:=by rw [q3h]; omega
def q68 (h:In (fU l) D v w) (hb:l.length≤1000000000):Calls Tryz.prog 238 #[v] w (Rt (fU (lim (val l))) D w):=by
 obtain ⟨A,n,c,rfl,hU⟩:=h;exact q9P hU (by have:=hU.len; omega)
def q2Z (h:In (fU (lim x)) D v w) (hb:bl x≤20000000):Calls Tryz.prog 238 #[v] w (Rt (fU (lim x)) D w):=by
 have:=q68 h (by have:=q05 hb; omega)
 rwa [q0I] at this
def q7h (h:In (fU l) D v w) (hb:l.length≤1000000000) (hf:Fr D w):Calls Tryz.prog 197 #[v] w (Rt (fU l) D w):=by
 obtain ⟨A,n,c,rfl,hU⟩:=h;exact (qb0 hU (by have:=hU.len; omega)).mono fun _ _ ⟨_,_,e,hx,hO⟩=>⟨_,e,hx,(hO.u32 hf).in⟩
def q5T {s:Bool} (h:In (fU l) D v w) (hb:l.length≤1000000000) (hf:Fr D w):Calls Tryz.prog 196 #[.bool s,v] w (Rt (fB (sgn s (val l))) D w):=by
 obtain ⟨A,n,c,rfl,hU⟩:=h;exact q0x (qmA hU (by have:=hU.len; omega) hf)
def qkj (h:In (fU (lim x)) D v w) (h':In (fU (lim y)) D v' w) (hb:bl x≤20000000) (hb':bl y≤20000000) (hf:Fr D w):Calls Tryz.prog 243 #[v,v'] w (Rt (fU (lim (x+y))) D w):=by
 obtain ⟨A,n,c,rfl,hU⟩:=h;obtain ⟨A',n',c',rfl,hU'⟩:=h';exact qnT hU.in hU'.in (by have:=hU.len; have:=q05 hb; omega) (by have:=hU'.len; have:=q05 hb'; omega) hf
def qeh (h:In (fU (lim x)) D v w) (h':In (fU (lim y)) D v' w) (hb:bl x≤20000000) (hle:y≤x) (hf:Fr D w):Calls Tryz.prog 244 #[v,v'] w (Rt (fU (lim (x-y))) D w):=by
 obtain ⟨A,n,c,rfl,hU⟩:=h;obtain ⟨A',n',c',rfl,hU'⟩:=h';exact qiT hU.in hU'.in (by have:=hU.len; have:=q05 hb; omega) hle hf
def qm3 (h:In (fU (lim x)) D v w) (h':In (fU (lim y)) D v' w) (hb:bl x≤20000000) (hb':bl y≤20000000) (hf:Fr D w):Calls Tryz.prog 247 #[v,v'] w (Rt (fU (lim (x*y))) D w):=by
 obtain ⟨A,n,c,rfl,hU⟩:=h;obtain ⟨A',n',c',rfl,hU'⟩:=h';exact qh4 hU.in hU'.in (by have:=hU.len; have:=q05 hb; omega) (by have:=hU'.len; have:=q05 hb'; omega) hf
def up_v {m:Nat} (h:In (fU (lim x)) D v w) (hb:bl x≤20000000) (hm:m≤1000000000) (hf:Fr D w):Calls Tryz.prog 263 #[v,.int .i64 m] w (Rt (fU (lim (x*2 ^ m))) D w):=by
 obtain ⟨A,n,c,rfl,hU⟩:=h;exact up_ok hU.in (by have:=hU.len; have:=q05 hb; omega) hm hf
def qlT {m:Nat} (h:In (fU (lim x)) D v w) (hb:bl x≤20000000) (hm:m≤1000000000) (hf:Fr D w):Calls Tryz.prog 265 #[v,.int .i64 m] w (Rt (fP (fU (lim (x / 2 ^ m))) (fc (.bool (decide (x % 2 ^ m≠0))))) D w):=by
 obtain ⟨A,n,c,rfl,hU⟩:=h;exact qoh hU.in (by have:=hU.len; have:=q05 hb; omega) hm hf
def q3X {D':Nat→Prop} (h:In (fU (lim x)) D v w) (h':In (fU (lim y)) D' v' w) (hb:bl x≤20000000) (hb':bl y≤20000000):Calls Tryz.prog 246 #[v,v'] w fun e w'=>e=.returned (.int .i64 (q2C x y))∧Ext w w':=by
 obtain ⟨A,n,c,rfl,hU⟩:=h;obtain ⟨A',n',c',rfl,hU'⟩:=h';exact qcc hU.in hU'.in (by have:=hU.len; have:=q05 hb; omega) (by have:=hU'.len; have:=q05 hb'; omega)
def qiZ (h:In (fU (lim x)) D v w) (hb:bl x≤20000000):Calls Tryz.prog 241 #[v] w fun e w'=>e=.returned (.int .i64 (bl x:Nat))∧w=w':=by
 obtain ⟨A,n,c,rfl,hU⟩:=h;exact qeq hU.in (by have:=hU.len; have:=q05 hb; omega)
def qtA {a:Int} (h:In (fB a) D v w) (ha:bl a.natAbs≤20000000) (hf:Fr D w):Calls Tryz.prog 131 #[v] w (Rt (fB (-a)) D w):=by
 obtain ⟨s,A,n,c,rfl,hB⟩:=h;have:=q0x (qoA (s:=s) hB.2 (by have:=hB.n_le (k:=1000000) (by omega); omega) hf)
 rwa [q0I,show sgn (!s) a.natAbs = -a by have:=hB.sgn; cases s <;> simp_all [sgn] <;> omega] at this
def qnz {a:Int} (h:In (fB a) D v w) (ha:bl a.natAbs≤20000000) (hf:Fr D w):Calls Tryz.prog 235 #[v] w (Rt (fB a) D w):=by
 obtain ⟨s,A,n,c,rfl,_⟩:=id h;have hsg:=h.big.sgn;have hm:=h.mag;have hl:=q05 ha;refine q0J Tryz.func235 rfl Tryz.ntmps235 (by kernel_rfl) ?_;refine q0A fun K hK=>?_;refine Zz ?_;refine q01 ?_;intro g1 w1 hg1 hx1 hb1 hs1;refine q0r ?_;intro g2 w2 hg2 hx2 hb2 hs2;refine hK _ _ ?_; clear hK K;have hx:Ext w w2:=(hx1.trans hx2);replace hb1:=(hb1.ext hx2);replace hm:=(hm.nL (L:=[g1,g2]) (by intro g hg; simp at hg; omega)).ext hx;have hD:Fr (Dl D [g1,g2]) w2:=hf.nL hx (by intro g hg; simp at hg; omega);clear hx1 hx2;refine q0B fun K hK=>?_;refine qaR q0l (Kp (fun k=>k ∉ ([]:List Nat))) (fun _ _=>False) (Kp.pre _) [true,true,true,true,false,false,false] [false,false,false,false,false,false,false] [1,1,1,1,0,1,1] (by kernel_rfl) ?_
 apply Exists.intro
 refine ⟨fun wE hE KE hKE=>?_,fun wE hE KE hKE=>?_,fun wE hxE hr=>?_⟩
 ·skip
  replace hE:=Kp.all hE;replace hb1:=hb1.ext hE;replace hb2:=hb2.ext hE;replace hm:=hm.ext hE;refine Zz2 hb1.c0 hb1.c1 ?_;exact hKE
 ·exact hE.elim
 simp only [q2D,q2F,q2E];replace hm:=hm.ext hxE;replace hb1:=hb1.ext hxE;replace hb2:=hb2.ext hxE;replace hD:=hD.kp hxE;replace hx:=hx.trans hxE;simp -implicitDefEqProofs (disch:=omega) only [go_sem,Nat.reduceEqDiff,Nat.reduceAdd,↓reduceIte,List.toList_toArray,hb1.c0,hb1.c1];refine Cr q6r (q7h hm Oq hD) fun v5 w5 hx5 h5=>?_;replace hm:=hm.ext hx5;replace hb1:=hb1.ext hx5;replace hb2:=hb2.ext hx5;replace hD:=hD.kp hx5;replace hx:=hx.trans hx5;replace hr:=hr.trans (Kp.of_ext hx5);clear hx5;refine ⟨hr,?_⟩;refine Cr q2X (q5T h5 Oq hD) fun v6 w6 hx6 h6=>?_;replace hm:=hm.ext hx6;replace h5:=h5.ext hx6;replace hb1:=hb1.ext hx6;replace hb2:=hb2.ext hx6;replace hD:=hD.kp hx6;replace hx:=hx.trans hx6;clear hx6;rw [q0I,hsg] at h6;refine q1h hb2 q0s rfl (q4g h6) fun w90 hk90 hb90=>?_;refine hK _ _ ?_; clear hK;refine q0O ?_
 try simp only [q0D,q0S]
 exact qcJ rfl Rf q1Z hb90 (q4g h6) (Rt.fin hx h6 hk90 (by simp) Oq)
def qtF {a:Int} (h:In (fB a) D v w) (ha:bl a.natAbs≤20000000) (hf:Fr D w):Calls Tryz.prog 187 #[v] w (Rt (fB a.natAbs) D w):=by
 obtain ⟨s,A,n,c,rfl,_⟩:=id h;have hm:=h.mag;have hl:=q05 ha;refine q0J Tryz.func187 rfl Tryz.ntmps187 (by kernel_rfl) ?_;refine q0A fun K hK=>?_;refine Zz ?_;refine q01 ?_;intro g1 w1 hg1 hx1 hb1 hs1;refine q0r ?_;intro g2 w2 hg2 hx2 hb2 hs2;refine hK _ _ ?_; clear hK K;have hx:Ext w w2:=(hx1.trans hx2);replace hb1:=(hb1.ext hx2);replace hm:=(hm.nL (L:=[g1,g2]) (by intro g hg; simp at hg; omega)).ext hx;have hD:Fr (Dl D [g1,g2]) w2:=hf.nL hx (by intro g hg; simp at hg; omega);clear hx1 hx2;refine q0A fun K hK=>?_;refine Zz1 hb1.c1 ?_;refine Cr q6r (q7h hm Oq hD) fun v5 w5 hx5 h5=>?_;replace hm:=hm.ext hx5;replace hb1:=hb1.ext hx5;replace hb2:=hb2.ext hx5;replace hD:=hD.kp hx5;replace hx:=hx.trans hx5;clear hx5;refine Cr q2X (q5T h5 Oq hD) fun v6 w6 hx6 h6=>?_;replace hm:=hm.ext hx6;replace h5:=h5.ext hx6;replace hb1:=hb1.ext hx6;replace hb2:=hb2.ext hx6;replace hD:=hD.kp hx6;replace hx:=hx.trans hx6;clear hx6;rw [q0I] at h6;refine q1h hb2 q0s rfl (q4g h6) fun w90 hk90 hb90=>?_;refine hK _ _ ?_; clear hK;refine q0O ?_
 try simp only [q0D,q0S]
 exact qcJ rfl Rf q1Z hb90 (q4g h6) (Rt.fin hx h6 hk90 (by simp) Oq)
def qcY {z:Int} (h1 : -9223372036854775808≤z) (h2:z≤9223372036854775807) (hf:Fr D w):Calls Tryz.prog 129 #[.int .i64 z] w (Rt (fB z) D w):=by
 refine q0J Tryz.func129 rfl Tryz.ntmps129 (by kernel_rfl) ?_;refine q0A fun K hK=>?_;refine Zz ?_;refine q0r ?_;intro g2 w2 hg2 hx2 hb2 hs2;refine hK _ _ ?_; clear hK K;have hx:Ext w w2:=hx2;have hD:Fr (Dl D [g2]) w2:=hf.nL hx (by intro g hg; simp at hg; omega);clear hx2;refine Wz ?_;refine q0B fun K0 hK0=>?_;have fin:∀ e1:Env,e1 2=.pointer (some ⟨g2,0,none⟩)→e1 0=.int .i64 z→e1 3=.int .u64 (z.natAbs:Nat)→K0 e1 w2:=by
  intro e1 k2 k0 k3;refine hK0 _ _ ?_; clear hK0;have ea:=q2M (a:=z.natAbs) Oq;have eb:z.natAbs % 4294967296 % 4294967296=z.natAbs % 4294967296:=Nat.mod_mod _ _;refine q0A fun K hK=>?_;refine Zz5 k2 k0 k3 ea eb ?_;refine q3i fun w4 hx4 hb4 hs4=>?_;have hU:U32 w4 (Dl D [g2]) _ 2 2 _:=(own2 hb4 (Nat.mod_lt _ Oq) (Nat.mod_lt _ Oq)).u32 fun k hk=>hD k hk;replace hb2:=hb2.ext hx4;replace hD:=hD.kp hx4;replace hx:=hx.trans hx4;have hv:val [z.natAbs % 4294967296,z.natAbs / 4294967296 % 4294967296]=z.natAbs:=by simp only [val,B]; omega
  refine Cr q2X (q5T (s:=decide (z < 0)) hU.in (by simp) hD) fun v5 w5 hx5 h5=>?_;replace hb2:=hb2.ext hx5;replace hD:=hD.kp hx5;replace hx:=hx.trans hx5;clear hx5;rw [hv,q51] at h5;refine q1h hb2 q0s rfl (q4g h5) fun w90 hk90 hb90=>?_;refine hK _ _ ?_; clear hK;refine q0O ?_
  try simp only [q0D,q0S]
  exact qcJ rfl Rf q1Z hb90 (q4g h5) (Rt.fin hx h5 hk90 (by simp) Oq)
 by_cases hn:z < 0
 ·refine Wz1 hn ?_;refine Wt ?_;have e1:IntKind.u64.wrap (0-IntKind.u64.wrap z)=((z.natAbs:Nat):Int):=by rw [q1O,q1O]; omega
  refine q0Q fun K9 hK9=>?_;refine Zz1 e1 ?_;refine hK9 _ _ ?_; clear hK9 K9;exact fin _ Ue Ue Ue
 ·have hn':¬ z < 0:=hn;refine Wz1 hn' ?_;refine Wf (q0G ?_);exact fin _ Ue Ue (by simp only [q0E,Nat.reduceEqDiff,↓reduceIte]; rw [u64_in Oq (by omega)]; congr 1; omega)
def q9k {a:Int} (h:In (fB a) D v w) (ha:bl a.natAbs≤20000000):Calls Tryz.prog 176 #[v] w fun e w'=>e=.returned (.int .i64 a.sign)∧Ext w w':=by
 obtain ⟨s,A,n,c,rfl,_⟩:=id h;have hm:=h.mag;have hsg:=h.sg;have hp:=@q0R a.natAbs;refine q0J Tryz.func176 rfl Tryz.ntmps176 (by kernel_rfl) ?_;refine q0A fun K hK=>?_;refine Zz ?_;refine q01 ?_;intro g1 w1 hg1 hx1 hb1 hs1;refine hK _ _ ?_; clear hK K;have hx:Ext w w1:=hx1;replace hm:=hm.ext hx;clear hx1;refine q0N fun K hK=>?_;refine q0A fun K1 hK1=>?_;refine Zz1 hb1.c1 ?_;refine Cr q1M (q2Z hm ha) fun v6 w6 hx6 h6=>?_;replace hm:=hm.ext hx6;replace hb1:=hb1.ext hx6;replace hx:=hx.trans hx6;clear hx6;obtain ⟨A6,n6,c6,rfl,_⟩:=id h6;have hlen:=h6.u32.len;refine Zz ?_;refine hK1 _ _ ?_; clear hK1 K1
 by_cases hz:n6=0
 ·have q:((n6:Int) == 0)=true:=by rw [q8u]; exact decide_eq_true hz
  refine q02 rfl (fun hc=>?_) (fun hc=>by rw [q] at hc; cases hc);refine Wz ?_;have h0:a=0:=by omega
  refine q0O ?_
  try simp only [q0D,q0S]
  refine q1S rfl ⟨by rw [h0]; rfl,hx⟩
 ·have q:((n6:Int) == 0)=false:=by rw [q8u]; exact decide_eq_false hz
  refine q02 rfl (fun hc=>by rw [q] at hc; cases hc) (fun hc=>?_);refine Wz1 hb1.c0 ?_
  by_cases hn:a < 0
  ·have hs:s=true:=by rw [hsg]; simpa using hn
   subst hs;refine Wt ?_;refine Wz ?_;refine q0O ?_
   try simp only [q0D,q0S]
   refine q1S rfl ⟨by rw [Int.sign_eq_neg_one_of_neg hn]; rfl,hx⟩
  ·have hs:s=false:=by rw [hsg]; simpa using hn
   subst hs;refine Wf (q0G (hK _ _ ?_));refine Wz ?_;refine q0O ?_
   try simp only [q0D,q0S]
   refine q1S rfl ⟨by rw [Int.sign_eq_one_of_pos (by omega)]; rfl,hx⟩
def qfB {a:Int} (h:In (fB a) D v w) (ha:bl a.natAbs≤20000000):Calls Tryz.prog 191 #[v] w fun e w'=>e=.returned (.int .i64 (bl a.natAbs:Nat))∧Ext w w':=by
 obtain ⟨s,A,n,c,rfl,_⟩:=id h;have hm:=h.mag;refine q0J Tryz.func191 rfl Tryz.ntmps191 (by kernel_rfl) ?_;refine q0A fun K hK=>?_;refine Zz ?_;refine q01 ?_;intro g1 w1 hg1 hx1 hb1 hs1;refine hK _ _ ?_; clear hK K;have hx:Ext w w1:=hx1;replace hm:=hm.ext hx;clear hx1;refine q0A fun K hK=>?_;refine Zz1 hb1.c1 ?_;refine Cr q1M (q2Z hm ha) fun v6 w6 hx6 h6=>?_;replace hm:=hm.ext hx6;replace hb1:=hb1.ext hx6;replace hx:=hx.trans hx6;clear hx6;refine q0F qlb (qiZ h6 ha) ?_;rintro _ _ ⟨rfl,rfl⟩; refine ⟨_,rfl,?_⟩;refine hK _ _ ?_; clear hK;refine q0O ?_
 try simp only [q0D,q0S]
 refine q1S rfl ⟨rfl,hx⟩
def iTZ_v {a:Int} (hT:q2i w) (h:In (fB a) D v w) (ha:bl a.natAbs≤20000000):Calls Tryz.prog 236 #[v] w fun e w'=>e=.returned (.int .i64 (tz a.natAbs:Nat))∧Ext w w':=by
 obtain ⟨s,A,n,c,rfl,_⟩:=id h;have hm:=h.mag;have hlim:=q05 ha;have hlen:=hm.u32.len;refine q0J Tryz.func236 rfl Tryz.ntmps236 (by kernel_rfl) ?_;refine q0A fun K hK=>?_;refine Zz ?_;refine q01 ?_;intro g1 w1 hg1 hx1 hb1 hs1;refine hK _ _ ?_; clear hK K;have hx:Ext w w1:=hx1;replace hm:=hm.ext hx;clear hx1;replace hT:=hT.ext hx;refine q0B fun K0 hK0=>?_;refine Wz1 hb1.c1 ?_;refine q0X ?_;refine q0a (fun e2 w2'=>w2'=w1∧∃ k:Nat,e2 8=.int .i64 k∧k≤n∧val ((lim a.natAbs).take k)=0) (fun e2 _=>n-(RowKit.intOf (e2 8)).toNat) ⟨rfl,0,rfl,Nat.zero_le _,by simp [val]⟩ ?_;rintro e1 w2 ⟨rfl,k,k8,hkn,hv⟩ hkk;have k6:e1 6=.slice A n c:=(hkk 6 (by kernel_rfl)).trans Ue;have k7:e1 7=.int .i64 n:=(hkk 7 (by kernel_rfl)).trans Ue;clear hkk
 by_cases hlt:k < n
 ·have hlt':(k:Int) < n:=by omega
  refine Wz3 k8 k7 hlt' ?_;refine q0B fun K1 hK1=>?_;refine Wt (q0G (hK1 _ _ ?_));clear hK1;refine q0N fun K hK=>?_;have e2:(0:Int)≤k∧(k:Int) < n:=by omega
  obtain ⟨ad,rfl,-⟩:=hm.u32.cell hlt;refine Wz4 k8 k6 e2 (hm.u32.cx hlt) ?_;refine Wz ?_
  by_cases hz:dg (lim a.natAbs) k=0
  ·have hz':(((dg (lim a.natAbs) k:Nat):Int) != 0)=false:=by rw [qlw]; simpa using hz
   refine q02 rfl (fun hc=>by rw [hz'] at hc; cases hc) (fun hc=>q0G (hK _ _ ?_));clear hK;refine q0Q fun K9 hK9=>?_;refine Zz2 k8 @i64_in ?_;refine hK9 _ _ ?_; clear hK9 K9;refine ⟨⟨rfl,k+1,rfl,by omega,q2P.2 ⟨hv,hz⟩⟩,?_⟩;simp only [q0E,↓reduceIte,RowKit.intOf,k8]; omega
  ·have hz':(((dg (lim a.natAbs) k:Nat):Int) != 0)=true:=by rw [qlw]; simpa using hz
   refine q02 rfl (fun hc=>?_) (fun hc=>by rw [hz'] at hc; cases hc);have htv:=qkQ (q1b _) Oq hv hz;rw [q0I] at htv;have hlt32:=q7B hz (hm.u32.dg_lt k);have hs1:IntKind.i64.wrap ((k:Int)*32)=((32*k:Nat):Int):=by rw [i64_in Oq (by omega)]; omega
   have hs2:IntKind.i64.wrap (((32*k:Nat):Int)+((tz (dg (lim a.natAbs) k):Nat):Int))=((tz a.natAbs:Nat):Int):=by
    unfold dg at *;rw [i64_in Oq (by omega)]; omega
   refine q0A fun K hK=>?_;refine Zz1 hs1 ?_;refine q0F qgV (qdN hT Oq (hm.u32.dg_lt _)) ?_;rintro _ _ ⟨rfl,rfl⟩; refine ⟨_,rfl,?_⟩;refine Zz1 hs2 ?_;refine hK _ _ ?_; clear hK;refine q0O ?_
   try simp only [q0D,q0S]
   refine q1S rfl ⟨rfl,hx⟩
 ·have hlt':¬ (k:Int) < n:=by omega
  refine Wz3 k8 k7 hlt' ?_;refine q0B fun K1 hK1=>?_;refine Wf (q04 (hK0 _ _ ?_));obtain rfl:k=n:=by omega
  refine Wz ?_;have h0:a.natAbs=0:=by
   rw [q0K _ _ Oq,q0I] at hv; exact hv
  refine q0O ?_
  try simp only [q0D,q0S]
  refine q1S rfl ⟨by rw [h0]; rfl,hx⟩
end
def qgK {x y:Nat}:(q2C x y ≥ 0) ↔ y≤x:=by unfold q2C; split <;> (try split) <;> omega
section
variable {D:Nat→Prop} {v v':Value} {w:World} {x y:Nat} {a b:Int}
def qfC {A A':Option Addr} {n n' c c':Nat} {l l':List Nat} {s s':Bool} (h:In (fU l) D (.slice A n c) w) (h':In (fU l') D (.slice A' n' c') w) (hb:l.length≤600000) (hb':l'.length≤600000) (hf:Fr D w) :
  Calls Tryz.prog 195 #[.agg #[.bool s,.slice A n c],.agg #[.bool s',.slice A' n' c']] w (Rt (fB (sgn s (val l)+sgn s' (val l'))) D w):=by
 have hx1:bl (val l)≤19200000:=by have:=qlx h.u32.2; omega
 have hx2:bl (val l')≤19200000:=by have:=qlx h'.u32.2; omega
 refine q0J Tryz.func195 rfl Tryz.ntmps195 (by kernel_rfl) ?_;refine q0A fun K hK=>?_;refine Zz ?_;refine q01 ?_;intro g2 w2 hg2 hx2 hb2 hs2;refine q01 ?_;intro g3 w3 hg3 hx3 hb3 hs3;refine q0r ?_;intro g4 w4 hg4 hx4 hb4 hs4;refine hK _ _ ?_; clear hK K;have hx:Ext w w4:=((hx2.trans hx3).trans hx4);replace hb2:=((hb2.ext hx3).ext hx4);replace hb3:=(hb3.ext hx4);replace h:=(h.nL (L:=[g2,g3,g4]) (by intro g hg; simp at hg; omega)).ext hx;replace h':=(h'.nL (L:=[g2,g3,g4]) (by intro g hg; simp at hg; omega)).ext hx;have hD:Fr (Dl D [g2,g3,g4]) w4:=hf.nL hx (by intro g hg; simp at hg; omega);clear hx2 hx3 hx4;obtain ⟨p,hp⟩:∃ p,p=val l:=⟨_,rfl⟩;obtain ⟨r,hre⟩:∃ r,r=val l':=⟨_,rfl⟩;rw [← hp] at hx1;rw [← hre] at hx2;have hbs:bl (p+r)≤19200001:=q3Y hx1 hx2;have hl1:=q05 (x:=p+r) Oq;refine q0B fun K hK=>?_;refine qaR q0l (Kp (fun k=>k ∉ ([]:List Nat))) (fun _ _=>False) (Kp.pre _) [true,true,false,true,true,false,false,false] [false,false,false,false,false,false,false,false] [1,1,0,1,1,1,1,1] (by kernel_rfl) ?_
 apply Exists.intro
 refine ⟨fun wE hE KE hKE=>?_,fun wE hE KE hKE=>?_,fun wE hxE hr=>?_⟩
 ·skip
  replace hE:=Kp.all hE;replace hb2:=hb2.ext hE;replace hb3:=hb3.ext hE;replace hb4:=hb4.ext hE;replace h:=h.ext hE;replace h':=h'.ext hE;refine Zz2 hb2.c1 hb3.c1 ?_;exact hKE
 ·exact hE.elim
 simp only [q2D,q2F,q2E];replace h:=h.ext hxE;replace h':=h'.ext hxE;replace hb2:=hb2.ext hxE;replace hb3:=hb3.ext hxE;replace hb4:=hb4.ext hxE;replace hD:=hD.kp hxE;replace hx:=hx.trans hxE;simp -implicitDefEqProofs (disch:=omega) only [go_sem,Nat.reduceEqDiff,Nat.reduceAdd,↓reduceIte,List.toList_toArray,hb2.c1,hb3.c1];refine Cr q1M (q68 h Oq) fun v5 w5 hx5 h5=>?_;replace h:=h.ext hx5;replace h':=h'.ext hx5;replace hb2:=hb2.ext hx5;replace hb3:=hb3.ext hx5;replace hb4:=hb4.ext hx5;replace hD:=hD.kp hx5;replace hx:=hx.trans hx5;replace hr:=hr.trans (Kp.of_ext hx5);clear hx5;refine ⟨hr,?_⟩;refine Cr q1M (q68 h' Oq) fun v6 w6 hx6 h6=>?_;replace h:=h.ext hx6;replace h':=h'.ext hx6;replace h5:=h5.ext hx6;replace hb2:=hb2.ext hx6;replace hb3:=hb3.ext hx6;replace hb4:=hb4.ext hx6;replace hD:=hD.kp hx6;replace hx:=hx.trans hx6;clear hx6;rw [← hp] at h5;rw [← hre] at h6;simp only [q0o];refine hK _ _ ?_; clear hK K;rw [← hp,← hre];refine q0N fun K0 hK0=>?_
 by_cases hss:s=s'
 ·subst hss;have q:(s == s)=true:=by simp
  refine Wz3 hb2.c0 hb3.c0 q ?_;refine Wt ?_;refine q0B fun K hK=>?_;refine qaR q0l (Kp (fun k=>k ∉ ([]:List Nat))) (fun _ _=>False) (Kp.pre _) [true,true,true,true,false,false,false] [false,false,false,false,false,false,false] [1,1,1,1,0,1,1] (by kernel_rfl) ?_
  apply Exists.intro
  refine ⟨fun wE hE KE hKE=>?_,fun wE hE KE hKE=>?_,fun wE hxE hr=>?_⟩
  ·skip
   replace hE:=Kp.all hE;replace hb2:=hb2.ext hE;replace hb3:=hb3.ext hE;replace hb4:=hb4.ext hE;replace h:=h.ext hE;replace h':=h'.ext hE;replace h5:=h5.ext hE;replace h6:=h6.ext hE;refine Zz1 hb2.c0 ?_;exact hKE
  ·exact hE.elim
  simp only [q2D,q2F,q2E];replace h:=h.ext hxE;replace h':=h'.ext hxE;replace h5:=h5.ext hxE;replace h6:=h6.ext hxE;replace hb2:=hb2.ext hxE;replace hb3:=hb3.ext hxE;replace hb4:=hb4.ext hxE;replace hD:=hD.kp hxE;replace hx:=hx.trans hxE;simp -implicitDefEqProofs (disch:=omega) only [go_sem,Nat.reduceEqDiff,Nat.reduceAdd,↓reduceIte,List.toList_toArray,hb2.c0];refine Cr qgU (qkj h5 h6 Oq Oq hD) fun v7 w7 hx7 h7=>?_;replace h:=h.ext hx7;replace h':=h'.ext hx7;replace h5:=h5.ext hx7;replace h6:=h6.ext hx7;replace hb2:=hb2.ext hx7;replace hb3:=hb3.ext hx7;replace hb4:=hb4.ext hx7;replace hD:=hD.kp hx7;replace hx:=hx.trans hx7;replace hr:=hr.trans (Kp.of_ext hx7);clear hx7;refine ⟨hr,?_⟩;refine Cr q2X (q5T (s:=s) h7 Oq hD) fun v8 w8 hx8 h8=>?_;replace h:=h.ext hx8;replace h':=h'.ext hx8;replace h5:=h5.ext hx8;replace h6:=h6.ext hx8;replace h7:=h7.ext hx8;replace hb2:=hb2.ext hx8;replace hb3:=hb3.ext hx8;replace hb4:=hb4.ext hx8;replace hD:=hD.kp hx8;replace hx:=hx.trans hx8;clear hx8;rw [q0I] at h8;rw [show sgn s (p+r)=sgn s p+sgn s r by cases s <;> simp [sgn] <;> omega] at h8;refine q1h hb4 q0s rfl (q4g h8) fun w90 hk90 hb90=>?_;refine hK _ _ ?_; clear hK;refine q0O ?_
  try simp only [q0D,q0S]
  exact qcJ rfl Rf q1Z hb90 (q4g h8) (Rt.fin hx h8 hk90 (by simp) Oq)
 ·have q:(s == s')=false:=by cases s <;> cases s' <;> simp_all
  have hs':s'=!s:=by cases s <;> cases s' <;> simp_all
  refine Wz3 hb2.c0 hb3.c0 q ?_;refine Wf ?_;refine q0A fun K1 hK1=>?_;refine Zz ?_;refine Ck q6q (q3X h5 h6 Oq Oq) fun w9 hx9=>?_;replace h:=h.ext hx9;replace h':=h'.ext hx9;replace h5:=h5.ext hx9;replace h6:=h6.ext hx9;replace hb2:=hb2.ext hx9;replace hb3:=hb3.ext hx9;replace hb4:=hb4.ext hx9;replace hD:=hD.kp hx9;replace hx:=hx.trans hx9;clear hx9
  by_cases hle:r≤p
  ·have q2:q2C p r ≥ 0:=qgK.2 hle;have hl2:=q05 (x:=p-r) (by have:=q0d (Nat.sub_le p r); omega);refine Zz1 q2 ?_;refine hK1 _ _ ?_; clear hK1;refine Wt ?_;refine q0B fun K hK=>?_;refine qaR q0l (Kp (fun k=>k ∉ ([]:List Nat))) (fun _ _=>False) (Kp.pre _) [true,true,true,true,false,false,false] [false,false,false,false,false,false,false] [1,1,1,1,0,1,1] (by kernel_rfl) ?_
   apply Exists.intro
   refine ⟨fun wE hE KE hKE=>?_,fun wE hE KE hKE=>?_,fun wE hxE hr=>?_⟩
   ·skip
    replace hE:=Kp.all hE;replace hb2:=hb2.ext hE;replace hb3:=hb3.ext hE;replace hb4:=hb4.ext hE;replace h:=h.ext hE;replace h':=h'.ext hE;replace h5:=h5.ext hE;replace h6:=h6.ext hE;refine Zz1 hb2.c0 ?_;exact hKE
   ·exact hE.elim
   simp only [q2D,q2F,q2E];replace h:=h.ext hxE;replace h':=h'.ext hxE;replace h5:=h5.ext hxE;replace h6:=h6.ext hxE;replace hb2:=hb2.ext hxE;replace hb3:=hb3.ext hxE;replace hb4:=hb4.ext hxE;replace hD:=hD.kp hxE;replace hx:=hx.trans hxE;simp -implicitDefEqProofs (disch:=omega) only [go_sem,Nat.reduceEqDiff,Nat.reduceAdd,↓reduceIte,List.toList_toArray,hb2.c0];refine Cr qgT (qeh h5 h6 Oq hle hD) fun v7 w7 hx7 h7=>?_;replace h:=h.ext hx7;replace h':=h'.ext hx7;replace h5:=h5.ext hx7;replace h6:=h6.ext hx7;replace hb2:=hb2.ext hx7;replace hb3:=hb3.ext hx7;replace hb4:=hb4.ext hx7;replace hD:=hD.kp hx7;replace hx:=hx.trans hx7;replace hr:=hr.trans (Kp.of_ext hx7);clear hx7;refine ⟨hr,?_⟩;refine Cr q2X (q5T (s:=s) h7 Oq hD) fun v8 w8 hx8 h8=>?_;replace h:=h.ext hx8;replace h':=h'.ext hx8;replace h5:=h5.ext hx8;replace h6:=h6.ext hx8;replace h7:=h7.ext hx8;replace hb2:=hb2.ext hx8;replace hb3:=hb3.ext hx8;replace hb4:=hb4.ext hx8;replace hD:=hD.kp hx8;replace hx:=hx.trans hx8;clear hx8;rw [q0I] at h8;rw [show sgn s (p-r)=sgn s p+sgn s' r by rw [hs']; cases s <;> simp [sgn] <;> omega] at h8;refine q1h hb4 q0s rfl (q4g h8) fun w90 hk90 hb90=>?_;refine hK _ _ ?_; clear hK;refine q0O ?_
   try simp only [q0D,q0S]
   exact qcJ rfl Rf q1Z hb90 (q4g h8) (Rt.fin hx h8 hk90 (by simp) Oq)
  ·have q2:¬ (q2C p r ≥ 0):=fun h=>hle (qgK.1 h);have hl2:=q05 (x:=r-p) (by have:=q0d (Nat.sub_le r p); omega);refine Zz1 q2 ?_;refine hK1 _ _ ?_; clear hK1;refine Wf (q0G (hK0 _ _ ?_));clear hK0;refine q0B fun K hK=>?_;refine qaR q0l (Kp (fun k=>k ∉ ([]:List Nat))) (fun _ _=>False) (Kp.pre _) [true,true,true,true,false,false,false] [false,false,false,false,false,false,false] [1,1,1,1,0,1,1] (by kernel_rfl) ?_
   apply Exists.intro
   refine ⟨fun wE hE KE hKE=>?_,fun wE hE KE hKE=>?_,fun wE hxE hr=>?_⟩
   ·skip
    replace hE:=Kp.all hE;replace hb2:=hb2.ext hE;replace hb3:=hb3.ext hE;replace hb4:=hb4.ext hE;replace h:=h.ext hE;replace h':=h'.ext hE;replace h5:=h5.ext hE;replace h6:=h6.ext hE;refine Zz1 hb3.c0 ?_;exact hKE
   ·exact hE.elim
   simp only [q2D,q2F,q2E];replace h:=h.ext hxE;replace h':=h'.ext hxE;replace h5:=h5.ext hxE;replace h6:=h6.ext hxE;replace hb2:=hb2.ext hxE;replace hb3:=hb3.ext hxE;replace hb4:=hb4.ext hxE;replace hD:=hD.kp hxE;replace hx:=hx.trans hxE;simp -implicitDefEqProofs (disch:=omega) only [go_sem,Nat.reduceEqDiff,Nat.reduceAdd,↓reduceIte,List.toList_toArray,hb3.c0];refine Cr qgT (qeh h6 h5 Oq Oq hD) fun v7 w7 hx7 h7=>?_;replace h:=h.ext hx7;replace h':=h'.ext hx7;replace h5:=h5.ext hx7;replace h6:=h6.ext hx7;replace hb2:=hb2.ext hx7;replace hb3:=hb3.ext hx7;replace hb4:=hb4.ext hx7;replace hD:=hD.kp hx7;replace hx:=hx.trans hx7;replace hr:=hr.trans (Kp.of_ext hx7);clear hx7;refine ⟨hr,?_⟩;refine Cr q2X (q5T (s:=s') h7 Oq hD) fun v8 w8 hx8 h8=>?_;replace h:=h.ext hx8;replace h':=h'.ext hx8;replace h5:=h5.ext hx8;replace h6:=h6.ext hx8;replace h7:=h7.ext hx8;replace hb2:=hb2.ext hx8;replace hb3:=hb3.ext hx8;replace hb4:=hb4.ext hx8;replace hD:=hD.kp hx8;replace hx:=hx.trans hx8;clear hx8;rw [q0I] at h8;rw [show sgn s' (r-p)=sgn s p+sgn s' r by rw [hs']; cases s <;> simp [sgn] <;> omega] at h8;refine q1h hb4 q0s rfl (q4g h8) fun w90 hk90 hb90=>?_;refine hK _ _ ?_; clear hK;refine q0O ?_
   try simp only [q0D,q0S]
   exact qcJ rfl Rf q1Z hb90 (q4g h8) (Rt.fin hx h8 hk90 (by simp) Oq)
def qtE (h:In (fB a) D v w) (h':In (fB b) D v' w) (ha:bl a.natAbs≤19000000) (hb:bl b.natAbs≤19000000) (hf:Fr D w):Calls Tryz.prog 195 #[v,v'] w (Rt (fB (a+b)) D w):=by
 obtain ⟨s,A,n,c,rfl,hB⟩:=h;obtain ⟨s',A',n',c',rfl,hB'⟩:=h';have:=qfC (s:=s) (s':=s') hB.2.in hB'.2.in (by rw [q3h]; omega) (by rw [q3h]; omega) hf
 rwa [q0I,q0I,hB.sgn,hB'.sgn] at this
def qsz (h:In (fB a) D v w) (h':In (fB b) D v' w) (ha:bl a.natAbs≤19000000) (hb:bl b.natAbs≤19000000) (hf:Fr D w):Calls Tryz.prog 259 #[v,v'] w (Rt (fB (a-b)) D w):=by
 obtain ⟨s,A,n,c,rfl,hB⟩:=h;obtain ⟨s',A',n',c',rfl,hB'⟩:=h';have h1:=hB.2.in;have h2:=hB'.2.in;refine q0J Tryz.func259 rfl Tryz.ntmps259 (by kernel_rfl) ?_;refine q0A fun K hK=>?_;refine Zz ?_;refine q01 ?_;intro g2 w2 hg2 hx2 hb2 hs2;refine q01 ?_;intro g3 w3 hg3 hx3 hb3 hs3;refine q0r ?_;intro g4 w4 hg4 hx4 hb4 hs4;refine hK _ _ ?_; clear hK K;have hx:Ext w w4:=((hx2.trans hx3).trans hx4);replace hb2:=((hb2.ext hx3).ext hx4);replace hb3:=(hb3.ext hx4);replace h1:=(h1.nL (L:=[g2,g3,g4]) (by intro g hg; simp at hg; omega)).ext hx;replace h2:=(h2.nL (L:=[g2,g3,g4]) (by intro g hg; simp at hg; omega)).ext hx;have hD:Fr (Dl D [g2,g3,g4]) w4:=hf.nL hx (by intro g hg; simp at hg; omega);clear hx2 hx3 hx4;refine q0A fun K hK=>?_;refine Zz1 hb3.c0 ?_;refine q6b hb3 siz4 rfl (Nat.succ_pos _) rfl fun w6 hk6 hz6 hs6=>?_;replace h1:=h1.ow hk6 (by simp);replace h2:=h2.ow hk6 (by simp);replace hb2:=hb2.kpne hk6 Oq;replace hb4:=hb4.kpne hk6 Oq;replace hD:=hD.ow hk6;replace hx:=hx.under hk6 (fun k hk=>by omega);clear hk6;replace hb3:Blk w6 g3 _ #[.bool !s',.slice A' n' c']:=hz6;clear hz6;refine hK _ _ ?_; clear hK;refine q0A fun K hK=>?_;refine Zz2 hb2.l2 hb3.l2 ?_;refine Cr qlf (qfC (s:=s) (s':=!s') h1 h2 (by rw [q3h]; omega) (by rw [q3h]; omega) hD) fun v7 w7 hx7 h7=>?_;replace h1:=h1.ext hx7;replace h2:=h2.ext hx7;replace hb2:=hb2.ext hx7;replace hb3:=hb3.ext hx7;replace hb4:=hb4.ext hx7;replace hD:=hD.kp hx7;replace hx:=hx.trans hx7;clear hx7;rw [q0I,q0I,hB.sgn,show sgn (!s') b.natAbs = -b by have:=hB'.sgn; cases s' <;> simp_all [sgn] <;> omega,← Int.sub_eq_add_neg] at h7;refine q1h hb4 q0s rfl (q4g h7) fun w90 hk90 hb90=>?_;refine hK _ _ ?_; clear hK;refine q0O ?_
 try simp only [q0D,q0S]
 exact qcJ rfl Rf q1Z hb90 (q4g h7) (Rt.fin hx h7 hk90 (by simp) Oq)
def qtB (h:In (fB a) D v w) (h':In (fB b) D v' w) (ha:bl a.natAbs≤9000000) (hb:bl b.natAbs≤9000000) (hf:Fr D w):Calls Tryz.prog 199 #[v,v'] w (Rt (fB (a*b)) D w):=by
 obtain ⟨s,A,n,c,rfl,hB⟩:=h;obtain ⟨s',A',n',c',rfl,hB'⟩:=h';have h1:=hB.2.in;have h2:=hB'.2.in;have hml:=q2K a.natAbs b.natAbs;have hl1:=q05 (x:=a.natAbs*b.natAbs) Oq;refine q0J Tryz.func199 rfl Tryz.ntmps199 (by kernel_rfl) ?_;refine q0A fun K hK=>?_;refine Zz ?_;refine q01 ?_;intro g2 w2 hg2 hx2 hb2 hs2;refine q01 ?_;intro g3 w3 hg3 hx3 hb3 hs3;refine q0r ?_;intro g4 w4 hg4 hx4 hb4 hs4;refine hK _ _ ?_; clear hK K;have hx:Ext w w4:=((hx2.trans hx3).trans hx4);replace hb2:=((hb2.ext hx3).ext hx4);replace hb3:=(hb3.ext hx4);replace h1:=(h1.nL (L:=[g2,g3,g4]) (by intro g hg; simp at hg; omega)).ext hx;replace h2:=(h2.nL (L:=[g2,g3,g4]) (by intro g hg; simp at hg; omega)).ext hx;have hD:Fr (Dl D [g2,g3,g4]) w4:=hf.nL hx (by intro g hg; simp at hg; omega);clear hx2 hx3 hx4;refine q0B fun K hK=>?_;refine qaR q0l (Kp (fun k=>k ∉ ([]:List Nat))) (fun _ _=>False) (Kp.pre _) [true,true,true,true,true,true,true,false,true,true,false,false,false,false] [false,false,false,false,false,false,false,false,false,false,false,false,false,false] [1,1,1,1,1,1,1,0,1,1,0,0,1,1] (by kernel_rfl) ?_
 apply Exists.intro
 refine ⟨fun wE hE KE hKE=>?_,fun wE hE KE hKE=>?_,fun wE hxE hr=>?_⟩
 ·skip
  replace hE:=Kp.all hE;replace hb2:=hb2.ext hE;replace hb3:=hb3.ext hE;replace hb4:=hb4.ext hE;replace h1:=h1.ext hE;replace h2:=h2.ext hE;refine Zz4 hb2.c0 hb2.c1 hb3.c0 hb3.c1 ?_;exact hKE
 ·exact hE.elim
 simp only [q2D,q2F,q2E];replace h1:=h1.ext hxE;replace h2:=h2.ext hxE;replace hb2:=hb2.ext hxE;replace hb3:=hb3.ext hxE;replace hb4:=hb4.ext hxE;replace hD:=hD.kp hxE;replace hx:=hx.trans hxE;simp -implicitDefEqProofs (disch:=omega) only [go_sem,Nat.reduceEqDiff,Nat.reduceAdd,↓reduceIte,List.toList_toArray,hb2.c0,hb2.c1,hb3.c0,hb3.c1];refine Cr q1M (q2Z h1 Oq) fun v5 w5 hx5 h5=>?_;replace h1:=h1.ext hx5;replace h2:=h2.ext hx5;replace hb2:=hb2.ext hx5;replace hb3:=hb3.ext hx5;replace hb4:=hb4.ext hx5;replace hD:=hD.kp hx5;replace hx:=hx.trans hx5;replace hr:=hr.trans (Kp.of_ext hx5);clear hx5;refine ⟨hr,?_⟩;refine Cr q1M (q2Z h2 Oq) fun v6 w6 hx6 h6=>?_;replace h1:=h1.ext hx6;replace h2:=h2.ext hx6;replace h5:=h5.ext hx6;replace hb2:=hb2.ext hx6;replace hb3:=hb3.ext hx6;replace hb4:=hb4.ext hx6;replace hD:=hD.kp hx6;replace hx:=hx.trans hx6;replace hr:=hr.trans (Kp.of_ext hx6);clear hx6;refine ⟨hr,?_⟩;refine Cr ql9 (qm3 h5 h6 Oq Oq hD) fun v7 w7 hx7 h7=>?_;replace h1:=h1.ext hx7;replace h2:=h2.ext hx7;replace h5:=h5.ext hx7;replace h6:=h6.ext hx7;replace hb2:=hb2.ext hx7;replace hb3:=hb3.ext hx7;replace hb4:=hb4.ext hx7;replace hD:=hD.kp hx7;replace hx:=hx.trans hx7;replace hr:=hr.trans (Kp.of_ext hx7);clear hx7;refine ⟨hr,?_⟩;refine Cr q2X (q5T (s:=s != s') h7 Oq hD) fun v8 w8 hx8 h8=>?_;replace h1:=h1.ext hx8;replace h2:=h2.ext hx8;replace h5:=h5.ext hx8;replace h6:=h6.ext hx8;replace h7:=h7.ext hx8;replace hb2:=hb2.ext hx8;replace hb3:=hb3.ext hx8;replace hb4:=hb4.ext hx8;replace hD:=hD.kp hx8;replace hx:=hx.trans hx8;clear hx8;rw [q0I,← qdj,hB.sgn,hB'.sgn] at h8;refine q1h hb4 q0s rfl (q4g h8) fun w90 hk90 hb90=>?_;refine hK _ _ ?_; clear hK;refine q0O ?_
 try simp only [q0D,q0S]
 exact qcJ rfl Rf q1Z hb90 (q4g h8) (Rt.fin hx h8 hk90 (by simp) Oq)
def qtD (h:In (fB a) D v w) (h':In (fB b) D v' w) (ha:bl a.natAbs≤19000000) (hb:bl b.natAbs≤19000000):Calls Tryz.prog 260 #[v,v'] w fun e w'=>e=.returned (.int .i64 (Int.sign (a-b)))∧Ext w w':=by
 obtain ⟨s,A,n,c,rfl,_⟩:=id h;obtain ⟨s',A',n',c',rfl,_⟩:=id h';have h1:=h.mag;have h2:=h'.mag;refine q0J Tryz.func260 rfl Tryz.ntmps260 (by kernel_rfl) ?_;refine q0A fun K hK=>?_;refine Zz ?_;refine q01 ?_;intro g2 w2 hg2 hx2 hb2 hs2;refine q01 ?_;intro g3 w3 hg3 hx3 hb3 hs3;refine hK _ _ ?_; clear hK K;have hx:Ext w w3:=(hx2.trans hx3);replace hb2:=(hb2.ext hx3);replace h:=h.ext hx;replace h':=h'.ext hx;replace h1:=h1.ext hx;replace h2:=h2.ext hx;clear hx2 hx3;refine q0B fun K hK=>?_;refine qaR q0l (Kp (fun k=>k ∉ ([]:List Nat))) (fun _ _=>False) (Kp.pre _) [true,false,true,false,false,false] [false,false,false,false,false,false] [1,0,1,1,1,1] (by kernel_rfl) ?_
 apply Exists.intro
 refine ⟨fun wE hE KE hKE=>?_,fun wE hE KE hKE=>?_,fun wE hxE hr=>?_⟩
 ·skip
  replace hE:=Kp.all hE;replace hb2:=hb2.ext hE;replace hb3:=hb3.ext hE;replace h:=h.ext hE;replace h':=h'.ext hE;replace h1:=h1.ext hE;replace h2:=h2.ext hE;refine Zz2 hb2.l2 hb3.l2 ?_;exact hKE
 ·exact hE.elim
 simp only [q2D,q2F,q2E];replace h:=h.ext hxE;replace h':=h'.ext hxE;replace h1:=h1.ext hxE;replace h2:=h2.ext hxE;replace hb2:=hb2.ext hxE;replace hb3:=hb3.ext hxE;replace hx:=hx.trans hxE;simp -implicitDefEqProofs (disch:=omega) only [go_sem,Nat.reduceEqDiff,Nat.reduceAdd,↓reduceIte,List.toList_toArray,hb2.l2,hb3.l2];refine Ck qgZ (q9k h Oq) fun w5 hx5=>?_;replace h:=h.ext hx5;replace h':=h'.ext hx5;replace h1:=h1.ext hx5;replace h2:=h2.ext hx5;replace hb2:=hb2.ext hx5;replace hb3:=hb3.ext hx5;replace hx:=hx.trans hx5;replace hr:=hr.trans (Kp.of_ext hx5);clear hx5;refine ⟨hr,?_⟩;refine Ck qgZ (q9k h' Oq) fun w6 hx6=>?_;replace h:=h.ext hx6;replace h':=h'.ext hx6;replace h1:=h1.ext hx6;replace h2:=h2.ext hx6;replace hb2:=hb2.ext hx6;replace hb3:=hb3.ext hx6;replace hx:=hx.trans hx6;clear hx6;simp only [q0o];refine hK _ _ ?_; clear hK K;refine q0N fun K0 hK0=>?_;have hsa:a.sign=if a < 0 then -1 else if a=0 then 0 else 1:=by
  rcases Int.lt_trichotomy a 0 with h | h | h
  ·rw [if_pos h,Int.sign_eq_neg_one_of_neg h]
  ·subst h; rfl
  ·rw [if_neg Oq,if_neg Oq,Int.sign_eq_one_of_pos h]
 have hsb:b.sign=if b < 0 then -1 else if b=0 then 0 else 1:=by
  rcases Int.lt_trichotomy b 0 with h | h | h
  ·rw [if_pos h,Int.sign_eq_neg_one_of_neg h]
  ·subst h; rfl
  ·rw [if_neg Oq,if_neg Oq,Int.sign_eq_one_of_pos h]
 obtain ⟨p,hp⟩:∃ p,p=a.sign:=⟨_,rfl⟩;obtain ⟨r,hre⟩:∃ r,r=b.sign:=⟨_,rfl⟩;rw [← hp,← hre];rw [← hp] at hsa;rw [← hre] at hsb
 by_cases hlt:p < r
 ·refine Wz1 hlt ?_;refine Wt ?_;refine Wz ?_;have hab:a < b:=by split at hsa <;> split at hsb <;> (try split at hsa) <;> (try split at hsb) <;> omega
  refine q0O ?_
  try simp only [q0D,q0S]
  refine q1S rfl ⟨by rw [Int.sign_eq_neg_one_of_neg (by omega)]; rfl,hx⟩
 ·refine Wz1 hlt ?_;refine Wf ?_
  by_cases hgt:p > r
  ·refine Wz1 hgt ?_;refine Wt ?_;refine Wz ?_;have hab:b < a:=by split at hsa <;> split at hsb <;> (try split at hsa) <;> (try split at hsb) <;> omega
   refine q0O ?_
   try simp only [q0D,q0S]
   refine q1S rfl ⟨by rw [Int.sign_eq_one_of_pos (by omega)]; rfl,hx⟩
  ·refine Wz1 hgt ?_;refine Wf (q0G (hK0 _ _ ?_));clear hK0;have hpr:p=r:=by omega
   refine q0B fun K hK=>?_;refine qaR q0l (Kp (fun k=>k ∉ ([]:List Nat))) (fun _ _=>False) (Kp.pre _) [true,true,true,false,true,true,false,false,false,false] [false,false,false,false,false,false,false,false,false,false] [1,1,1,0,1,1,0,0,1,1] (by kernel_rfl) ?_
   apply Exists.intro
   refine ⟨fun wE hE KE hKE=>?_,fun wE hE KE hKE=>?_,fun wE hxE hr=>?_⟩
   ·skip
    replace hE:=Kp.all hE;replace hb2:=hb2.ext hE;replace hb3:=hb3.ext hE;replace h:=h.ext hE;replace h':=h'.ext hE;replace h1:=h1.ext hE;replace h2:=h2.ext hE;refine Zz2 hb2.c1 hb3.c1 ?_;exact hKE
   ·exact hE.elim
   simp only [q2D,q2F,q2E];replace h:=h.ext hxE;replace h':=h'.ext hxE;replace h1:=h1.ext hxE;replace h2:=h2.ext hxE;replace hb2:=hb2.ext hxE;replace hb3:=hb3.ext hxE;replace hx:=hx.trans hxE;simp -implicitDefEqProofs (disch:=omega) only [go_sem,Nat.reduceEqDiff,Nat.reduceAdd,↓reduceIte,List.toList_toArray,hb2.c1,hb3.c1];refine Cr q1M (q2Z h1 Oq) fun v7 w7 hx7 h7=>?_;replace h:=h.ext hx7;replace h':=h'.ext hx7;replace h1:=h1.ext hx7;replace h2:=h2.ext hx7;replace hb2:=hb2.ext hx7;replace hb3:=hb3.ext hx7;replace hx:=hx.trans hx7;replace hr:=hr.trans (Kp.of_ext hx7);clear hx7;refine ⟨hr,?_⟩;refine Cr q1M (q2Z h2 Oq) fun v8 w8 hx8 h8=>?_;replace h:=h.ext hx8;replace h':=h'.ext hx8;replace h1:=h1.ext hx8;replace h2:=h2.ext hx8;replace h7:=h7.ext hx8;replace hb2:=hb2.ext hx8;replace hb3:=hb3.ext hx8;replace hx:=hx.trans hx8;replace hr:=hr.trans (Kp.of_ext hx8);clear hx8;refine ⟨hr,?_⟩;refine Ck q6q (q3X h7 h8 Oq Oq) fun w9 hx9=>?_;replace h:=h.ext hx9;replace h':=h'.ext hx9;replace h1:=h1.ext hx9;replace h2:=h2.ext hx9;replace h7:=h7.ext hx9;replace h8:=h8.ext hx9;replace hb2:=hb2.ext hx9;replace hb3:=hb3.ext hx9;replace hx:=hx.trans hx9;replace hr:=hr.trans (Kp.of_ext hx9);clear hx9;refine ⟨hr,?_⟩;have hm:IntKind.i64.wrap (p*q2C a.natAbs b.natAbs)=Int.sign (a-b):=by
    have hval:p*q2C a.natAbs b.natAbs=Int.sign (a-b):=by
     have hsd:(a-b).sign=if a < b then -1 else if a=b then 0 else 1:=by
      rcases Int.lt_trichotomy a b with h | h | h
      ·rw [if_pos h,Int.sign_eq_neg_one_of_neg (by omega)]
      ·subst h; simp
      ·rw [if_neg Oq,if_neg Oq,Int.sign_eq_one_of_pos (by omega)]
     rw [hsd];unfold q2C;rw [hsa] at hpr ⊢;rw [hsb] at hpr
     by_cases ha0:a < 0
     ·simp only [ha0,if_true] at hpr ⊢;have hb0:b < 0:=by
       by_cases hb0:b < 0
       ·exact hb0
       ·rw [if_neg hb0] at hpr; split at hpr <;> omega
      split
      ·rw [if_neg Oq,if_neg (by omega)]; rfl
      ·split
       ·rw [if_neg Oq,if_pos (by omega)]; rfl
       ·rw [if_pos (by omega)]; rfl
     ·by_cases ha1:a=0
      ·subst ha1;have hb0:b=0:=by
        by_cases hb0:b < 0
        ·simp [hb0] at hpr
        ·by_cases hb1:b=0
         ·exact hb1
         ·simp [hb0,hb1] at hpr
       subst hb0; simp
      ·simp only [ha0,ha1,if_false] at hpr ⊢;have hb0:0 < b:=by
        by_cases hb0:b < 0
        ·simp [hb0] at hpr
        ·by_cases hb1:b=0
         ·simp [hb1] at hpr
         ·omega
       rw [Int.one_mul]
       split
       ·rw [if_pos (by omega)]
       ·split
        ·rw [if_neg Oq,if_pos (by omega)]
        ·rw [if_neg Oq,if_neg (by omega)]
    rw [hval];have : -1≤Int.sign (a-b)∧Int.sign (a-b)≤1:=by
     rcases Int.lt_trichotomy (a-b) 0 with h | h | h
     ·rw [Int.sign_eq_neg_one_of_neg h]; omega
     ·rw [h]; decide
     ·rw [Int.sign_eq_one_of_pos h]; omega
    exact i64_in Oq Oq
   simp only [go_sem,hm,q0o];refine hK _ _ ?_; clear hK K;refine q0O ?_
   try simp only [q0D,q0S]
   refine q1S rfl ⟨rfl,hx⟩
def qtC (h:In (fB a) D v w) (h0:0≤a) (ha:a≤9223372036854775807):Calls Tryz.prog 186 #[v] w fun e w'=>e=.returned (.tuple #[.int .i64 a,.bool true])∧Ext w w':=by
 obtain ⟨s,A,n,c,rfl,_⟩:=id h;have hm:=h.mag;have hs:s=false:=by rw [h.sg]; exact decide_eq_false Oq
 subst hs;have hbl:bl a.natAbs≤63:=q0T (Nat.lt_of_le_of_lt (show a.natAbs≤9223372036854775807 by omega) (by decide));refine q0J Tryz.func186 rfl Tryz.ntmps186 (by kernel_rfl) ?_;refine q0A fun K hK=>?_;refine Zz ?_;refine q01 ?_;intro g1 w1 hg1 hx1 hb1 hs1;refine hK _ _ ?_; clear hK K;have hx:Ext w w1:=hx1;replace hm:=hm.ext hx;clear hx1;refine q0A fun K hK=>?_;refine Zz1 hb1.c1 ?_;refine Cr q1M (q2Z hm Oq) fun v2 w2 hx2 h2=>?_;replace hm:=hm.ext hx2;replace hb1:=hb1.ext hx2;replace hx:=hx.trans hx2;clear hx2;obtain ⟨A2,n2,c2,rfl,_⟩:=id h2;have hlen:=h2.u32.len;have hn2:n2≤2:=by rw [← hlen,q3h]; omega
 have hn2':¬ (n2:Int) > 2:=by omega
 refine hK _ _ ?_; clear hK;refine q0B fun K0 hK0=>?_;refine Wz1 hn2' ?_;refine Wf (q0G (hK0 _ _ ?_));clear hK0;refine Wz ?_;refine q0B fun K0 hK0=>?_;refine Wz ?_;refine q0X ?_;refine q0a (fun e2 w2'=>w2'=w2∧∃ i:Nat,e2 16=.int .i64 i∧e2 5=.int .u64 (val ((lim a.natAbs).take i):Nat)∧i≤n2) (fun e2 _=>n2-(RowKit.intOf (e2 16)).toNat) ⟨rfl,0,rfl,Ue,Nat.zero_le _⟩ ?_;rintro e1 w1 ⟨rfl,i,k16,k5,hi⟩ hkk;have k1:e1 1=.pointer (some ⟨g1,0,none⟩):=(hkk 1 (by kernel_rfl)).trans Ue;have k14:e1 14=.slice A2 n2 c2:=(hkk 14 (by kernel_rfl)).trans Ue;have k15:e1 15=.int .i64 n2:=(hkk 15 (by kernel_rfl)).trans Ue;clear hkk
 by_cases hlt:i < n2
 ·have hlt':(i:Int) < n2:=by omega
  refine Wz3 k16 k15 hlt' ?_;refine q0B fun K1 hK1=>?_;refine Wt (q0G (hK1 _ _ ?_));clear hK1;refine q0N fun K hK=>?_;have e2:(0:Int)≤i∧(i:Int) < n2:=by omega
  obtain ⟨ad,rfl,-⟩:=h2.u32.cell hlt;have hd:=h2.u32.dg_lt i;have hs:IntKind.i64.wrap (32*(i:Int))=((32*i:Nat):Int):=by rw [i64_in Oq (by omega)]; omega
  have hp:2 ^ (32*i)≤4294967296:=Nat.pow_le_pow_right (n:=2) Oq (show 32*i≤32 by omega);have hmu:dg (lim a.natAbs) i*2 ^ (32*i)≤4294967295*4294967296:=Nat.mul_le_mul Oq hp;have e3:dg (lim a.natAbs) i*2 ^ (32*i) % 18446744073709551616=dg (lim a.natAbs) i*2 ^ (32*i):=Nat.mod_eq_of_lt Oq;have hvt:=q1V ((q1b a.natAbs).take i);rw [List.length_take,Nat.min_eq_left Oq,q9B,← Nat.pow_mul] at hvt;have e4:val ((lim a.natAbs).take i) ||| dg (lim a.natAbs) i*2 ^ (32*i)=val ((lim a.natAbs).take (i+1)):=by
   rw [q2H hvt,vts,q9B,← Nat.pow_mul,Nat.mul_comm (2 ^ (32*i))]; rfl
  have hvl:val ((lim a.natAbs).take i) < 18446744073709551616:=by omega
  refine Wz4 k14 k16 e2 (h2.u32.cx hlt) ?_;refine q0Q fun K9 hK9=>?_;refine Zz4 k5 hs e3 e4 ?_;refine hK9 _ _ ?_; clear hK9 K9;refine hK _ _ ?_; clear hK;refine q0Q fun K9 hK9=>?_;refine Zz2 k16 @i64_in ?_;refine hK9 _ _ ?_; clear hK9 K9;exact ⟨⟨rfl,i+1,rfl,Ue,by omega⟩,by simp only [q0E,↓reduceIte,RowKit.intOf,k16]; omega⟩
 ·have hlt':¬ (i:Int) < n2:=by omega
  refine Wz3 k16 k15 hlt' ?_;refine q0B fun K1 hK1=>?_;refine Wf (q04 (hK0 _ _ ?_));clear hK0 hK1;rw [q0K _ _ Oq,q0I] at k5;have e1:((a.natAbs:Nat):Int) < 9223372036854775808:=by omega
  have e2:IntKind.i64.wrap ((a.natAbs:Nat):Int)=a:=by rw [i64_in Oq (by omega)]; omega
  refine q0N fun K hK=>?_;refine Wz2 k1 hb1.c0 ?_;refine Wf ?_;refine Wz4 k1 k5 hb1.c0 e1 ?_;refine Wt ?_;refine Wz2 k5 e2 ?_;refine q0O ?_
  try simp only [q0D,q0S]
  refine q8S rfl ⟨rfl,hx⟩
end
def qcE {d r x q v V vo B:Nat} (hq:q=(r*B+x) / d) (hV:V=x+B*v) (hv:v=vo*d+r):V=(q+B*vo)*d+(r*B+x) % d:=by
 have:=Nat.div_add_mod (r*B+x) d;rw [← hq] at this;rw [hV,hv,Nat.mul_add,Nat.add_mul,Nat.mul_comm q d,Nat.mul_comm B r,Nat.mul_assoc];omega
def qmq (s:Bool) (x k:Nat):sgn s (x*2 ^ k)=sgn s x*(2:Int) ^ k:=by
 cases s <;> simp [sgn,Int.neg_mul]
def own1 {w w1:World} {a:Nat} (hb:Blk w1 w.heap.size 135 #[.int .u32 a]) (ha:a < 4294967296):q12 w1 w.heap.size (some ⟨w.heap.size,0,none⟩) 1 1 [a]:=by
 refine ⟨?_,fun d hd=>?_⟩
 ·have:=Own.made (w:=w1) (w':=w) (B:=w.heap.size) (sz:=1) (n:=1) (c:=1) hb (Nat.le_refl _) (by simp [maxLen]) rfl (Nat.le_refl _);simpa [q7z] using this
 ·simp at hd; subst hd; exact ha
def q6S:bl 1=1:=rfl
def qnk:lim 1=[1]:=rfl
def qhp {D:Nat→Prop} {A:Option Addr} {n c d:Nat} {x:Nat} {w:World} (h:In (fU (lim x)) D (.slice A n c) w) (hb:n≤400000000) (hd0:d≠0) (hd:d < 4294967296) (hf:Fr D w) :
  Calls Tryz.prog 261 #[.slice A n c,.int .u32 (d:Nat)] w (Rt (fP (fU (lim (x / d))) (fc (.int .u32 ((x % d:Nat):Int)))) D w):=by
 have hl:=h.u32.len;refine q0J Tryz.func261 rfl Tryz.ntmps261 (by kernel_rfl) ?_;refine Wz ?_;refine q0A fun K hK=>?_;refine Zz ?_;refine mkU (Nat.le_refl _) Oq fun w0 hx0 hO0=>?_;generalize hg:w.heap.size=g at hO0;refine hK _ _ ?_; clear hK;refine Wz ?_;refine q0B fun K0 hK0=>?_;refine Wz ?_;refine q0X ?_;refine q0a (fun e2 w2=>∃ (i r:Nat) (o:List Nat),e2 8=.int .i64 ((i:Int)-1)∧e2 7=.int .u64 r∧i≤n∧r < d∧Ext w w2∧q12 w2 g (some ⟨g,0,none⟩) n n o∧val ((lim x).drop i)=val (o.drop i)*d+r) (fun e2 _=>(RowKit.intOf (e2 8)+1).toNat) ⟨n,0,_,by simp only [q0E,Nat.reduceEqDiff,↓reduceIte]; rw [i64_in Oq (by omega)],Ue,Nat.le_refl _,by omega,hx0,hO0,by rw [List.drop_of_length_le Oq,List.drop_of_length_le (by simp)]; simp [val]⟩ ?_;rintro e1 w1 ⟨i,r,o,k8,k7,hin,hr0,hx,hO,hv⟩ hkk;have k0:e1 0=.slice A n c:=(hkk 0 (by kernel_rfl)).trans Ue;have k1:e1 1=.int .u32 d:=(hkk 1 (by kernel_rfl)).trans Ue;have k6:e1 6=.slice (some ⟨g,0,none⟩) n n:=(hkk 6 (by kernel_rfl)).trans Ue;clear hkk;have hol:=hO.len;refine q0B fun K1 hK1=>?_
 rcases i with _ | j
 ·have q:¬ (((0:Nat):Int)-1 ≥ 0):=by omega
  refine Wz2 k8 q ?_;refine Wf (q04 (hK0 _ _ ?_));clear hK0 hK1;rw [List.drop_zero,List.drop_zero,q0I] at hv;have hdv:x / d=val o:=by rw [hv,Nat.mul_comm,Nat.mul_add_div Oq,Nat.div_eq_of_lt hr0]; omega
  have hmv:x % d=r:=by rw [hv,Nat.mul_comm,Nat.mul_add_mod,Nat.mod_eq_of_lt hr0]
  rw [hdv,hmv];have er:r % 4294967296=r:=Nat.mod_eq_of_lt Oq;refine q0A fun K9 hK9=>?_;refine Zz3 k6 k7 er ?_;refine Cr q1M (q9P (hO.u32 fun k hk=>hf k Oq) Oq) fun v4 w4 hx4 h4=>?_;refine hK9 _ _ ?_; clear hK9;refine q0O ?_
  try simp only [q0D,q0S]
  refine q8S rfl ⟨_,rfl,hx.trans hx4,⟨_,_,rfl,by simp only [q0E,Nat.reduceEqDiff,↓reduceIte]; exact h4,Ue⟩⟩
 ·have q:(((j+1:Nat):Int)-1 ≥ 0):=by omega
  have k8':e1 8=.int .i64 j:=by rw [k8]; congr 1; omega
  have q':((j:Int) ≥ 0):=by omega
  refine Wz2 k8' q' ?_;refine Wt (q0G (hK1 _ _ ?_));clear hK1;refine q0N fun K hK=>?_;have hj:j < n:=by omega
  obtain ⟨ad,rfl,-⟩:=h.u32.cell hj;have e2:(0:Int)≤j∧(j:Int) < n:=by omega
  have hdg:=h.u32.dg_lt j;have hrB:r*4294967296≤4294967294*4294967296:=Nat.mul_le_mul_right _ Oq;have e3:r*4294967296 % 18446744073709551616=r*4294967296:=Nat.mod_eq_of_lt Oq;have e4:r*4294967296 ||| dg (lim x) j=r*4294967296+dg (lim x) j:=by
   rw [Nat.or_comm,Nat.add_comm]; exact q2H (k:=32) hdg
  refine q0A fun K hK=>?_;simp -implicitDefEqProofs (disch:=omega) only [go_sem,Nat.reduceEqDiff,Nat.reduceAdd,↓reduceIte,k7,k0,k8',e2,(h.ext hx).u32.cx hj,e3,e4];refine hK _ _ ?_; clear hK K;obtain ⟨qq,hqq⟩:∃ qq,qq=(r*4294967296+dg (lim x) j) / d:=⟨_,rfl⟩;have hql:qq < 4294967296:=by
   rw [hqq,Nat.div_lt_iff_lt_mul (by omega)];have:r*4294967296+4294967296≤4294967296*d:=by rw [← Nat.succ_mul,Nat.mul_comm]; exact Nat.mul_le_mul_left _ hr0
   omega
  have hqe:=hqq.symm;have eq2:qq % 4294967296=qq:=Nat.mod_eq_of_lt hql;have hcur:r*4294967296+dg (lim x) j < 18446744073709551616:=by omega
  refine q0A fun K9 hK9=>?_;simp -implicitDefEqProofs (disch:=omega) only [go_sem,Nat.reduceEqDiff,Nat.reduceAdd,↓reduceIte,k6,k1,k8',e2,quoN hd0 hcur,hqe,eq2];refine q1q hO hj hql fun w3 hO3 hk3 hs3=>?_;refine hK9 _ _ ?_; clear hK9 K9;refine q0Q fun K9 hK9=>?_;simp -implicitDefEqProofs (disch:=omega) only [go_sem,Nat.reduceEqDiff,Nat.reduceAdd,↓reduceIte,k1,remN hd0];refine hK9 _ _ ?_; clear hK9 K9;refine hK _ _ ?_; clear hK;have e5:IntKind.i64.wrap ((j:Int)-1)=(j:Int)-1:=i64_in Oq Oq;refine q0Q fun K9 hK9=>?_;refine Zz2 k8' e5 ?_;refine hK9 _ _ ?_; clear hK9 K9;refine ⟨⟨j,_,_,rfl,Ue,by omega,Nat.mod_lt _ Oq,by subst hg; exact hO.1.under hx hk3,hO3,?_⟩,by simp only [q0E,↓reduceIte,RowKit.intOf,k8']; omega⟩;have h1:=q1r (lim x) j;have h2:=q1r (o.set j qq) j;rw [List.getD_eq_getElem?_getD,List.getElem?_set_self Oq,List.drop_set_of_lt (show j < j+1 by omega)] at h2;simp only [Option.getD_some] at h2;rw [h2];exact qcE hqq h1 hv
section
variable {D:Nat→Prop} {v v':Value} {w:World} {x y d:Nat} {a b:Int}
def qmn (h:In (fU (lim x)) D v w) (hb:bl x≤20000000) (hd0:d≠0) (hd:d < 4294967296) (hf:Fr D w):Calls Tryz.prog 261 #[v,.int .u32 (d:Nat)] w (Rt (fP (fU (lim (x / d))) (fc (.int .u32 ((x % d:Nat):Int)))) D w):=by
 obtain ⟨A,n,c,rfl,hU⟩:=h;exact qhp hU.in (by have:=hU.len; have:=q05 hb; omega) hd0 hd hf
def qi9 {m:Int} (h:In (fB a) D v w) (ha:bl a.natAbs≤10000000) (h1 : -1048576≤m) (h2:m≤1048576) (hf:Fr D w) :
  Calls Tryz.prog 245 #[v,.int .i64 m] w (Rt (fP (fB (shI a m)) (fc (.int .i64 0))) D w):=by
 obtain ⟨s,A,n,c,rfl,hB⟩:=h;have hm:=hB.2.in;have hsg:=hB.sgn;refine q0J Tryz.func245 rfl Tryz.ntmps245 (by kernel_rfl) ?_;refine q0A fun K hK=>?_;refine Zz ?_;refine q01 ?_;intro g2 w2 hg2 hx2 hb2 hs2;refine q0r ?_;intro g4 w4 hg4 hx4 hb4 hs4;refine hK _ _ ?_; clear hK K;have hx:Ext w w4:=(hx2.trans hx4);replace hb2:=(hb2.ext hx4);replace hm:=(hm.nL (L:=[g2,g4]) (by intro g hg; simp at hg; omega)).ext hx;have hD:Fr (Dl D [g2,g4]) w4:=hf.nL hx (by intro g hg; simp at hg; omega);clear hx2 hx4;refine q0B fun K0 hK0=>?_;have q1:¬ (m < -1048576):=by omega
 have q2:¬ (m > 1048576):=by omega
 refine Wz2 q1 q2 ?_;refine Wf (q0G (hK0 _ _ ?_));clear hK0;refine q0A fun K hK=>?_;refine Zz1 hb2.c1 ?_;refine Cr q1M (q2Z hm Oq) fun v6 w6 hx6 h6=>?_;replace hm:=hm.ext hx6;replace hb2:=hb2.ext hx6;replace hb4:=hb4.ext hx6;replace hD:=hD.kp hx6;replace hx:=hx.trans hx6;clear hx6;refine hK _ _ ?_; clear hK;refine q0B fun K0 hK0=>?_
 by_cases hm0:0≤m
 ·have q:m ≥ 0:=hm0;obtain ⟨k,rfl⟩:∃ k:Nat,m=k:=⟨m.toNat,by omega⟩;have hml:=q2K a.natAbs (2 ^ k);have hpl:bl (2 ^ k)≤k+1:=q0T (Nat.pow_lt_pow_right Oq Oq);have hl1:=q05 (x:=a.natAbs*2 ^ k) Oq;refine Wz1 q ?_;refine Wt ?_;refine q0B fun K hK=>?_;refine qaR q0l (Kp (fun k=>k ∉ ([]:List Nat))) (fun _ _=>False) (Kp.pre _) [true,true,true,true,false,false,false,false] [false,false,false,false,false,false,false,false] [1,1,1,1,0,1,1,1] (by kernel_rfl) ?_
  apply Exists.intro
  refine ⟨fun wE hE KE hKE=>?_,fun wE hE KE hKE=>?_,fun wE hxE hr=>?_⟩
  ·skip
   replace hE:=Kp.all hE;replace hb2:=hb2.ext hE;replace hb4:=hb4.ext hE;replace hm:=hm.ext hE;replace h6:=h6.ext hE;refine Zz1 hb2.c0 ?_;exact hKE
  ·exact hE.elim
  simp only [q2D,q2F,q2E];replace hm:=hm.ext hxE;replace h6:=h6.ext hxE;replace hb2:=hb2.ext hxE;replace hb4:=hb4.ext hxE;replace hD:=hD.kp hxE;replace hx:=hx.trans hxE;simp -implicitDefEqProofs (disch:=omega) only [go_sem,Nat.reduceEqDiff,Nat.reduceAdd,↓reduceIte,List.toList_toArray,hb2.c0];refine Cr qb6 (up_v h6 Oq Oq hD) fun v7 w7 hx7 h7=>?_;replace hm:=hm.ext hx7;replace h6:=h6.ext hx7;replace hb2:=hb2.ext hx7;replace hb4:=hb4.ext hx7;replace hD:=hD.kp hx7;replace hx:=hx.trans hx7;replace hr:=hr.trans (Kp.of_ext hx7);clear hx7;refine ⟨hr,?_⟩;refine Cr q2X (q5T (s:=s) h7 Oq hD) fun v8 w8 hx8 h8=>?_;replace hm:=hm.ext hx8;replace h6:=h6.ext hx8;replace h7:=h7.ext hx8;replace hb2:=hb2.ext hx8;replace hb4:=hb4.ext hx8;replace hD:=hD.kp hx8;replace hx:=hx.trans hx8;clear hx8;rw [q0I] at h8;have hs:sgn s (a.natAbs*2 ^ k)=shI a k:=by
   unfold shI; rw [if_pos Oq,Int.toNat_natCast,qmq,hsg]
  rw [hs] at h8;refine q1h hb4 q0s rfl (q4g h8) fun w90 hk90 hb90=>?_
  try refine Zz ?_
  refine hK _ _ ?_; clear hK;refine q0O ?_
  try simp only [q0D,q0S]
  exact qmw rfl Rf q1Z hb90 (q4g h8) ⟨_,rfl,hx.under hk90 (fun k hk=>by omega),⟨_,_,rfl,(h8.ow hk90 (by simp)).ul,Ue⟩⟩
 ·have q:¬ m ≥ 0:=hm0;obtain ⟨k,hk⟩:∃ k:Nat,k=(-m).toNat:=⟨_,rfl⟩;have hmk:m = -(k:Int):=by omega
  subst hmk;refine Wz1 q ?_;refine Wf (q0G (hK0 _ _ ?_));clear hK0;have hkk:IntKind.i64.wrap (0 - -(k:Int))=(k:Int):=by rw [i64_in Oq (by omega)]; omega
  have hkk2:IntKind.i64.wrap (- -(k:Int))=(k:Int):=by rw [i64_in Oq (by omega)]; omega
  refine q0A fun K hK=>?_;refine Zz2 hkk hkk2 ?_;refine Cr qgR (qlT h6 Oq Oq hD) fun v7 w7 hx7 h7=>?_;replace hm:=hm.ext hx7;replace h6:=h6.ext hx7;replace hb2:=hb2.ext hx7;replace hb4:=hb4.ext hx7;replace hD:=hD.kp hx7;replace hx:=hx.trans hx7;clear hx7;obtain ⟨v8,v9,rfl,h8,rfl⟩:=h7;replace h8:In _ _ v8 _:=h8;refine Zz ?_;refine hK _ _ ?_; clear hK;have hdl:=q0d (Nat.div_le_self a.natAbs (2 ^ k));have hab:a=sgn s a.natAbs:=hsg.symm;refine q0B fun K1 hK1=>?_
  by_cases hsl:s=true∧a.natAbs % 2 ^ k≠0
  ·obtain ⟨rfl,hlo⟩:=hsl;have hlo':decide (a.natAbs % 2 ^ k≠0)=true:=decide_eq_true hlo;refine Wz2 hb2.c0 hlo' ?_;refine Wt ?_;refine q0Q fun K9 hK9=>?_;refine Zz ?_;refine q3i fun w4 hx4 hb4' hs4=>?_;have hU:U32 w4 (Dl D [g2,g4]) _ 1 1 _:=(own1 (a:=1) hb4' Oq).u32 fun k hk=>hD k hk;replace hm:=hm.ext hx4;replace h6:=h6.ext hx4;replace h8:=h8.ext hx4;replace hb2:=hb2.ext hx4;replace hb4:=hb4.ext hx4;replace hD:=hD.kp hx4;replace hx:=hx.trans hx4;have h9:=hU.in;rw [← qnk] at h9;refine Cr qgU (qkj h8 h9 Oq (by rw [q6S]; omega) hD) fun v10 w10 hx10 h10=>?_;replace hm:=hm.ext hx10;replace h6:=h6.ext hx10;replace h8:=h8.ext hx10;replace hb2:=hb2.ext hx10;replace hb4:=hb4.ext hx10;replace hD:=hD.kp hx10;replace hx:=hx.trans hx10;clear hx10;refine hK9 _ _ ?_; clear hK9 K9;refine hK1 _ _ ?_; clear hK1;have hbs:=q3Y (a:=a.natAbs / 2 ^ k) (b:=1) (k:=10000001) Oq (by rw [q6S]; omega);have hl1:=q05 (x:=a.natAbs / 2 ^ k+1) Oq;refine q0A fun K hK=>?_;refine Zz1 hb2.c0 ?_;refine Cr q2X (q5T (s:=true) h10 Oq hD) fun v11 w11 hx11 h11=>?_;replace hm:=hm.ext hx11;replace h6:=h6.ext hx11;replace h8:=h8.ext hx11;replace h10:=h10.ext hx11;replace hb2:=hb2.ext hx11;replace hb4:=hb4.ext hx11;replace hD:=hD.kp hx11;replace hx:=hx.trans hx11;clear hx11;rw [q0I] at h11;have hs:sgn true (a.natAbs / 2 ^ k+1)=shI a (-(k:Int)):=by
    have hn:a = -(a.natAbs:Int):=hab;unfold shI
    by_cases hk0:k=0
    ·subst hk0; simp [Nat.mod_one] at hlo
    ·rw [if_neg Oq,show (- -(k:Int)).toNat=k by omega]
     conv=>rhs; rw [hn]
     rw [q90,if_pos hlo]; simp [sgn]; omega
   rw [hs] at h11;refine q1h hb4 q0s rfl (q4g h11) fun w90 hk90 hb90=>?_
   try refine Zz ?_
   refine hK _ _ ?_; clear hK;refine q0O ?_
   try simp only [q0D,q0S]
   exact qmw rfl Rf q1Z hb90 (q4g h11) ⟨_,rfl,hx.under hk90 (fun k hk=>by omega),⟨_,_,rfl,(h11.ow hk90 (by simp)).ul,Ue⟩⟩
  ·have hq:s=true→a.natAbs % 2 ^ k=0:=fun h=>Decidable.byContradiction fun h2=>hsl ⟨h,h2⟩;have main:K1=K1:=rfl;have hs:sgn s (a.natAbs / 2 ^ k)=shI a (-(k:Int)):=by
    unfold shI
    by_cases hk0:k=0
    ·subst hk0; simp [hsg]
    ·rw [if_neg Oq,show (- -(k:Int)).toNat=k by omega]
     conv=>rhs; rw [hab]
     cases s with
     | false=>simp [sgn]
     | true =>
      have hlo:¬ (a.natAbs % 2 ^ k≠0):=fun h=>hsl ⟨rfl,h⟩;rw [show sgn true a.natAbs = -(a.natAbs:Int) from rfl,q90,if_neg hlo]; simp [sgn]
   have hl1:=q05 (x:=a.natAbs / 2 ^ k) Oq;have st:∀ e1:Env,e1 2=.pointer (some ⟨g2,0,none⟩)→e1 4=.pointer (some ⟨g4,0,none⟩)→e1 7=v8→K1 e1 w7:=by
    intro e1 q2 q4 q7;refine hK1 _ _ ?_; clear hK1;refine q0A fun K hK=>?_;refine Zz4 hb2.c0 q2 q4 q7 ?_;refine Cr q2X (q5T (s:=s) h8 Oq hD) fun v11 w11 hx11 h11=>?_;replace hm:=hm.ext hx11;replace h6:=h6.ext hx11;replace h8:=h8.ext hx11;replace hb2:=hb2.ext hx11;replace hb4:=hb4.ext hx11;replace hD:=hD.kp hx11;replace hx:=hx.trans hx11;clear hx11;rw [q0I,hs] at h11;refine q1h hb4 q0s rfl (q4g h11) fun w90 hk90 hb90=>?_
    try refine Zz ?_
    refine hK _ _ ?_; clear hK;refine q0O ?_
    try simp only [q0D,q0S]
    exact qmw rfl Rf q1Z hb90 (q4g h11) ⟨_,rfl,hx.under hk90 (fun k hk=>by omega),⟨_,_,rfl,(h11.ow hk90 (by simp)).ul,Ue⟩⟩
   cases s with
   | false =>
    refine Wz1 hb2.c0 ?_;refine Wf (q0G ?_);exact st _ Ue Ue Ue
   | true =>
    have hlo':decide (a.natAbs % 2 ^ k≠0)=false:=decide_eq_false (fun h=>h (hq rfl));refine Wz2 hb2.c0 hlo' ?_;refine Wf (q0G ?_);exact st _ Ue Ue Ue
end
end Go.Proofs.YtbcmhlhgljoolaaGreatDoor
namespace Go.E
open Go
def retS3 {P:Program} {fn:Func} {R:Ending→World→Prop} {e:Env} {w:World} {a T t g k a' T' t' g' k' u:Nat} {v v':Value} (h:fn.results=#[.cell a T,.cell a' T',.tmp u]) (he:e a=.pointer (some ⟨g,0,none⟩)) (hk:q0f P T=some (some k)) (hb:Blk w g t v.cells) (hv:Shp k v) (he':e a'=.pointer (some ⟨g',0,none⟩)) (hk':q0f P T'=some (some k')) (hb':Blk w g' t' v'.cells) (hv':Shp k' v') (hR:R (.returned (.tuple #[v,v',e u])) w):q9D P fn R .ret e w :=
 qmy h (qak he hk hb hv) (qak he' hk' hb' hv') rfl hR
end Go.E
namespace Go.Proofs.YtbcmhlhgljoolaaGreatDoor
open Go Go.E Go.Sp
def lim_1 {y:Nat} (h0:y≠0) (h:y < 4294967296):lim y=[y]:=by
 rw [q3v h0,show y / B=0 from Nat.div_eq_of_lt h,q2U,show y % B=y from Nat.mod_eq_of_lt h]
section
variable {D:Nat→Prop} {v v':Value} {w:World} {x y d:Nat} {a b:Int}
def qj7 (h:In (fU (lim x)) D v w) (h':In (fU (lim y)) D v' w) (hb:bl x≤20000000) (hd0:y≠0) (hd:y < 4294967296) (hf:Fr D w):Calls Tryz.prog 242 #[v,v'] w (Rt (fP (fU (lim (x / y))) (fU (lim (x % y)))) D w):=by
 have hby:bl y≤32:=q0T hd;have hlx:=q05 hb;have hx:Ext w w:=Kp.refl _ _;have hD:=hf;refine q0J Tryz.func242 rfl Tryz.ntmps242 (by kernel_rfl) ?_;refine Wz ?_;refine q0B fun K0 hK0=>?_;refine q0A fun K hK=>?_;refine Zz ?_;refine Ck q6q (q3X h h' hb Oq) fun w1 hx1=>?_;replace h:=h.ext hx1;replace h':=h'.ext hx1;replace hD:=hD.kp hx1;replace hx:=hx.trans hx1;clear hx1
 by_cases hlt:x < y
 ·have q:q2C x y < 0:=by unfold q2C; rw [if_pos hlt]; omega
  refine Zz1 q ?_;refine hK _ _ ?_; clear hK;refine Wt ?_;refine q0A fun K hK=>?_;refine Zz ?_;refine Cr q6r (q7h h Oq hD) fun v2 w2 hx2 h2=>?_;replace h:=h.ext hx2;replace h':=h'.ext hx2;replace hD:=hD.kp hx2;replace hx:=hx.trans hx2;clear hx2;refine hK _ _ ?_; clear hK;rw [Nat.div_eq_of_lt hlt,Nat.mod_eq_of_lt hlt];refine q0O ?_
  try simp only [q0D,q0S]
  refine q8S rfl ⟨_,rfl,hx,⟨_,_,rfl,?_,?_⟩⟩
  ·simp only [q0E,Nat.reduceEqDiff,↓reduceIte]; rw [q2U]; exact ⟨none,0,0,rfl,U32.nil⟩
  ·simp only [q0E,Nat.reduceEqDiff,↓reduceIte]; exact h2
 ·have q:¬ q2C x y < 0:=by unfold q2C; rw [if_neg hlt]; split <;> omega
  refine Zz1 q ?_;refine hK _ _ ?_; clear hK;refine Wf (q0G (hK0 _ _ ?_));clear hK0;obtain ⟨A',n',c',rfl,_⟩:=id h';have hlen:=h'.u32.len;have hl1:=lim_1 hd0 hd;rw [hl1] at hlen;have hn1:n'=1:=by simpa using hlen.symm
  subst hn1;obtain ⟨ad,rfl,-⟩:=h'.u32.cell (j:=0) Oq;have hcx:=h'.u32.cx (j:=0) Oq;rw [hl1] at hcx;have hcx':w1.cell? ad=some (.int .u32 (y:Nat)):=hcx;refine q0B fun K0 hK0=>?_;refine Wz ?_;refine Wt ?_;have r1:(0:Int)≤0∧(0:Int) < ((1:Nat):Int):=by omega
  refine q0A fun K hK=>?_;simp -implicitDefEqProofs (disch:=omega) only [go_sem,Nat.reduceEqDiff,Nat.reduceAdd,↓reduceIte,r1,Int.toNat_zero,hcx'];refine Cr ql7 (qmn h hb hd0 hd hD) fun v2 w2 hx2 h2=>?_;replace h:=h.ext hx2;replace h':=h'.ext hx2;replace hD:=hD.kp hx2;replace hx:=hx.trans hx2;clear hx2;obtain ⟨v8,v9,rfl,h8,rfl⟩:=h2;replace h8:In _ _ v8 _:=h8;refine Zz ?_;refine hK _ _ ?_; clear hK;have hml:x % y < 4294967296:=Nat.lt_trans (Nat.mod_lt _ Oq) hd;refine q0A fun K hK=>?_;refine Zz ?_;refine q3i fun w4 hx4 hb4' hs4=>?_;have h9:=((own1 hb4' hml).u32 fun k hk=>hD k hk).in;replace h:=h.ext hx4;replace h':=h'.ext hx4;replace h8:=h8.ext hx4;replace hD:=hD.kp hx4;replace hx:=hx.trans hx4;refine Cr q1M (q68 h9 (by simp)) fun v5 w5 hx5 h5=>?_;replace h:=h.ext hx5;replace h':=h'.ext hx5;replace h8:=h8.ext hx5;replace hD:=hD.kp hx5;replace hx:=hx.trans hx5;clear hx5;refine hK _ _ ?_; clear hK;refine q0O ?_
  try simp only [q0D,q0S]
  refine q8S rfl ⟨_,rfl,hx,⟨_,_,rfl,?_,?_⟩⟩
  ·simp only [q0E,Nat.reduceEqDiff,↓reduceIte]; exact h8
  ·simp only [q0E,Nat.reduceEqDiff,↓reduceIte];rw [show val [x % y]=x % y by simp [val]] at h5;exact h5
end
end Go.Proofs.YtbcmhlhgljoolaaGreatDoor
namespace Go.Sp
open Go.E
section
variable {p T U V v1 v0 q rest top u0:Nat}
def qo3 (hU:U < (T+1)*p) (hV:(v1*B+v0)*p≤V) (hT:T=top*B+u0) (hr:rest+q*v1=top) (hc:rest*B+u0 < q*v0):U < q*V:=by
 have h1:T+1≤q*(v1*B+v0):=by
  rw [hT,← hr,Nat.add_mul,Nat.mul_add,← Nat.mul_assoc];generalize q*v1*B=x at *;generalize rest*B=y at *;omega
 refine Nat.lt_of_lt_of_le hU (Nat.le_trans (Nat.mul_le_mul_right p h1) ?_);rw [Nat.mul_assoc];exact Nat.mul_le_mul_left q hV
def qfp (hU:T*p≤U) (hV:V≤(v1*B+v0+1)*p) (hT:T=top*B+u0) (hr:rest+q*v1=top) (hc:q*v0≤rest*B+u0) (hq:q≤v1*B+v0+1):(q-1)*V≤U:=by
 rcases Nat.eq_zero_or_pos q with h0 | h0
 ·subst h0; simp
 have h1:q*(v1*B+v0)≤T:=by
  rw [hT,← hr,Nat.add_mul,Nat.mul_add,← Nat.mul_assoc];generalize q*v1*B=x at *;generalize rest*B=y at *;omega
 have h2:(q-1)*(v1*B+v0+1)≤q*(v1*B+v0):=by
  generalize v1*B+v0=W at *;obtain ⟨k,rfl⟩:∃ k,q=k+1:=⟨q-1,by omega⟩;rw [Nat.add_sub_cancel,Nat.mul_add,Nat.add_mul,Nat.mul_one,Nat.one_mul];omega
 refine Nat.le_trans (Nat.mul_le_mul_left (q-1) hV) (Nat.le_trans ?_ hU);rw [← Nat.mul_assoc];exact Nat.mul_le_mul_right p (Nat.le_trans h2 h1)
end
def qed {u P b t:Nat} (hu:u < 4294967296) (hb:b≤1) (ht:t=(u+18446744073709551616-P % 4294967296-b) % 18446744073709551616) :
  P % 4294967296+b+t % 4294967296=u+4294967296*(t / 4294967296 % 2)∧t / 4294967296 % 2≤1:=by
 have:=Nat.mod_lt P (show 0 < 4294967296 by omega);omega
def q82 {W i c b x u q Ui Vi t:Nat} (h:W+q*Vi=Ui+B ^ i*(c+b)) (hu:u < 4294967296) (hb:b≤1) (ht:t=(u+18446744073709551616-(q*x+c) % 4294967296-b) % 18446744073709551616) :
  W+B ^ i*(t % 4294967296)+q*(Vi+B ^ i*x)=Ui+B ^ i*u+B ^ (i+1)*((q*x+c) / 4294967296+t / 4294967296 % 2):=by
 obtain ⟨h1,_⟩:=qed hu hb ht;have h2:=Nat.div_add_mod (q*x+c) 4294967296;have hB:B=4294967296:=rfl;rw [Nat.pow_succ,Nat.mul_add q,Nat.mul_left_comm q];generalize (q*x+c) / 4294967296=d at *;generalize (q*x+c) % 4294967296=m at *;generalize hy:q*x=y at *;generalize t / 4294967296 % 2=b' at *;generalize t % 4294967296=r at *;generalize B ^ i=X at *;have e1:X*B*(d+b')=X*(4294967296*d)+X*(4294967296*b'):=by rw [hB,Nat.mul_assoc,← Nat.mul_add,Nat.mul_add]
 have e2:X*(c+b)+X*r+X*y=X*u+X*(4294967296*d)+X*(4294967296*b'):=by
  rw [← Nat.mul_add,← Nat.mul_add,← Nat.mul_add,← Nat.mul_add]
  congr 1
  omega
 rw [e1];omega
def qiR {W n c b u q Un V t:Nat} (h:W+q*V=Un+B ^ n*(c+b)) (hu:u < 4294967296) (hc:c+b≤4294967296) (ht:t=(u+18446744073709551616-c-b) % 18446744073709551616) :
  W+B ^ n*(t % 4294967296)+q*V=Un+B ^ n*u+B ^ (n+1)*(t / 4294967296 % 2)∧t / 4294967296 % 2≤1:=by
 have h1:c+b+t % 4294967296=u+4294967296*(t / 4294967296 % 2)∧t / 4294967296 % 2≤1:=by omega
 refine ⟨?_,h1.2⟩;have hB:B=4294967296:=rfl;rw [Nat.pow_succ];generalize t / 4294967296 % 2=b' at *;generalize t % 4294967296=r at *;generalize B ^ n=X at *;have e1:X*B*b'=X*(4294967296*b'):=by rw [hB,Nat.mul_assoc]
 have e2:X*(c+b)+X*r=X*u+X*(4294967296*b'):=by
  rw [← Nat.mul_add,← Nat.mul_add]
  congr 1
  omega
 rw [e1];omega
def qgB {U V q M W ng:Nat} (hV:0 < V) (hle:(q-1)*V≤U) (hlt:U < (q+1)*V) (hW:W < M) (hVM:V≤M) (h:W+q*V=U+M*ng) (hn:ng≤1) :
  (ng=0→U / V=q∧U % V=W)∧(ng=1→0 < q∧U / V=q-1∧(W+V) % M=U % V∧U % V < V):=by
 refine ⟨fun h0=>?_,fun h1=>?_⟩
 ·subst h0;rw [Nat.mul_zero,Nat.add_zero] at h;have hWV:W < V:=by
   rw [Nat.add_mul,Nat.one_mul] at hlt;omega
  have e:U=V*q+W:=by rw [Nat.mul_comm]; omega
  rw [e];exact ⟨by rw [Nat.mul_add_div hV,Nat.div_eq_of_lt hWV,Nat.add_zero],by rw [Nat.mul_add_mod,Nat.mod_eq_of_lt hWV]⟩
 ·subst h1;rw [Nat.mul_one] at h;have hq:0 < q:=by
   rcases Nat.eq_zero_or_pos q with h0 | h0
   ·subst h0; rw [Nat.zero_mul] at h; omega
   ·exact h0
  obtain ⟨k,rfl⟩:∃ k,q=k+1:=⟨q-1,by omega⟩;rw [Nat.add_sub_cancel] at hle ⊢;rw [Nat.add_mul,Nat.one_mul] at h;have hr:U-k*V < V:=by omega
  have e:U=V*k+(U-k*V):=by rw [Nat.mul_comm]; omega
  have e1:U / V=k:=by rw [e,Nat.mul_add_div hV,Nat.div_eq_of_lt hr,Nat.add_zero]
  have e2:U % V=U-k*V:=by
   have:=Nat.div_add_mod U V;rw [e1,Nat.mul_comm] at this;omega
  refine ⟨hq,e1,?_,Nat.mod_lt _ hV⟩;rw [e2,show W+V=U-k*V+M*1 by omega,Nat.add_mul_mod_self_left,Nat.mod_eq_of_lt (by omega)]
def q22 (o:List Nat) (j i:Nat):val ((o.drop j).take (i+1))=val ((o.drop j).take i)+B ^ i*o.getD (j+i) 0:=by
 rw [vts,List.getD_eq_getElem?_getD,List.getElem?_drop,← List.getD_eq_getElem?_getD]
def qag (o:List Nat) (j i d:Nat):((o.set (j+i) d).drop j).take i=(o.drop j).take i:=by
 apply List.ext_getElem?
 intro k;rw [List.getElem?_take,List.getElem?_take]
 split
 ·rw [List.getElem?_drop,List.getElem?_drop,List.getElem?_set_ne (by omega)]
 ·rfl
def top2 {l:List Nat} {n:Nat} (ha:q1w l) (hn:2≤n):∃ low,low < B ^ (n-2)∧val (l.take n)=low+B ^ (n-2)*(l.getD (n-2) 0+B*l.getD (n-1) 0):=by
 refine ⟨val (l.take (n-2)),?_,?_⟩
 ·have h1:=q1V (ha.take (n-2));refine Nat.lt_of_lt_of_le h1 (Nat.pow_le_pow_right q4d ?_);rw [List.length_take]; omega
 ·have h1:=vts l (n-2);have h2:=vts l (n-2+1);rw [show n-2+1+1=n by omega,h1,show n-2+1=n-1 by omega] at h2;rw [h2,show n-1=(n-2)+1 by omega,Nat.pow_succ,Nat.mul_add,← Nat.mul_assoc,Nat.add_assoc]
def qfo {p T U V v1 v0 top u0:Nat} (hU:U < (T+1)*p) (hV:(v1*B+v0)*p≤V) (hT:T=top*B+u0) (hu:u0 < B) (hv:0 < v1):U < (top / v1+1)*V:=by
 have h1:T+1≤(top / v1+1)*(v1*B+v0):=by
  have h2:top+1≤(top / v1+1)*v1:=by
   have:=Nat.div_add_mod top v1;have h3:=Nat.mod_lt top hv;rw [Nat.add_mul,Nat.one_mul,Nat.mul_comm]; omega
  have h4:(top+1)*B≤(top / v1+1)*v1*B:=Nat.mul_le_mul_right B h2;rw [Nat.mul_add,← Nat.mul_assoc];rw [Nat.add_mul,Nat.one_mul] at h4;omega
 refine Nat.lt_of_lt_of_le hU (Nat.le_trans (Nat.mul_le_mul_right p h1) ?_);rw [Nat.mul_assoc];exact Nat.mul_le_mul_left _ hV
def qjX {v1 v0 top q rest u0:Nat} (hr:rest+q*v1=top) (ht:top < v1*B+B) (hb:B≤rest) (hv0:v0 < B):q < B∧q*v0≤rest*B+u0:=by
 have h1:q*v1 < v1*B:=by omega
 have hq:q < B:=by
  rcases Nat.lt_or_ge q B with h | h
  ·exact h
  ·have:=Nat.mul_le_mul_left v1 h;rw [Nat.mul_comm q v1] at h1; omega
 have h2:q*v0≤B*B:=Nat.mul_le_mul (Nat.le_of_lt hq) (Nat.le_of_lt hv0);have h3:B*B≤rest*B:=Nat.mul_le_mul_right B hb;exact ⟨hq,by omega⟩
def qpu {Z S i cr a x:Nat} (h:Z+B ^ i*cr=S):Z+B ^ i*((a+x+cr) % 4294967296)+B ^ (i+1)*((a+x+cr) / 4294967296)=S+B ^ i*a+B ^ i*x:=by
 have h2:=Nat.div_add_mod (a+x+cr) 4294967296;have hB:B=4294967296:=rfl;rw [Nat.pow_succ];generalize (a+x+cr) / 4294967296=d at *;generalize (a+x+cr) % 4294967296=r at *;generalize B ^ i=X at *;have e1:X*B*d=X*(4294967296*d):=by rw [hB,Nat.mul_assoc]
 have e2:X*r+X*(4294967296*d)=X*a+X*x+X*cr:=by
  rw [← Nat.mul_add,← Nat.mul_add,← Nat.mul_add]
  congr 1
  omega
 rw [e1];omega
def qhT {Z n a cr S:Nat} (hZ:Z < B ^ n) (h:Z+B ^ n*(a+cr)=S):Z+B ^ n*((a+cr) % 4294967296)=S % B ^ (n+1):=by
 have hB:B=4294967296:=rfl;rw [← h,Nat.pow_succ,Nat.mod_mul,Nat.add_mul_mod_self_left,Nat.mod_eq_of_lt hZ,Nat.add_mul_div_left _ _ Oq,Nat.div_eq_of_lt hZ,Nat.zero_add,hB]
end Go.Sp
