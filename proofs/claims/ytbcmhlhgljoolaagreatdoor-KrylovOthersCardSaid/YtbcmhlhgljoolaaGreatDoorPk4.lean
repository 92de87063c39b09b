/- Krylov. 4/6. -/
import Derived.Test.YtbcmhlhgljoolaaGreatDoorPk3
set_option linter.unusedSimpArgs false
set_option linter.unusedVariables false
set_option maxRecDepth 20000
set_option maxHeartbeats 2000000
set_option linter.defProp false
namespace Go.Proofs.YtbcmhlhgljoolaaGreatDoor
open Go Go.E Go.Sp
def qsD (V:Int):(od V).sign=V.sign:=by
 conv=>rhs; rw [← q1S V,Int.sign_mul,Int.sign_eq_one_of_pos (q0U _),Int.mul_one]
section
variable {a b m e V:Int}
def q3s {s:Bool} (hs:s=decide (a < 0)) (ha:bl a.natAbs≤10000000) (h1 : -1048576≤m) (h2:m≤1048576):ACt 193 [sT s a,iv m] (bT (shI a m)):=by
 have C1:=@q8k;refine ac0 Tryz.func193 Tryz.ntmps193 [.cell 4 72] ?_;exact wk trivial
def q8L {s:Bool} {N:Nat} (hs:s=decide (a < 0)) (ha:bl a.natAbs≤10000000) (hn:N≤1048576):ACt 237 [sT s a,iv N] (bT (shI a (-(N:Int)))):=by
 have C1:=@q8k;refine ac0 Tryz.func237 Tryz.ntmps237 [.cell 4 72] ?_;refine wk ?_;refine q0A (fun _:Unit=>True) [1,2,4] [2,4] Lk Lk (fun _=>[]) (fun _=>[]) (fun _=>0) () trivial ?_ ?_
 ·refine LeM [] rfl rfl ?_;exact Zy
 ·intro _ _;exact wk1 @Int.zero_sub trivial
def qsL {D:Nat→Prop} {v:Value} {w:World} (h:Rd w D (.ag [bv false,bv false,q5A,iv 0]) (fun _=>none) h0 v):Rd w D (dT 0) (fun _=>none) h0 v:=by
 unfold Rd at h;obtain ⟨vs,rfl,h1⟩:=h;obtain ⟨_,_,_,_,rfl,h2,h3,h4,h5⟩:=rd_4 h1;rw [q9o h2,q9o h3,q9o h4,q9o h5];have h6:In (fV 0) D (.agg #[.bool false,.bool false,.slice none 0 0,.int .i64 0]) w:=⟨false,none,0,0,rfl,⟨rfl,U32.nil⟩,by simp [q05,q1V]⟩;exact (q2h.2 h6).1
def qqL {s:Bool} (hs:s=decide (m < 0)) (hb:bl m.natAbs≤1000000) (he1 : -1000000≤e) (he2:e≤1000000) (hv:mkV m e=some V):ACt 175 [.ag [bv false,bv s,.fm (fL m),iv e]] (.tu [dT V,bv true]):=by
 have C1:=@qi3;have C2:=@q4K
 by_cases hz:m=0
 ·obtain rfl:V=0:=by rw [hz,q1s] at hv; exact (Option.some.inj hv).symm
  refine q9R (r:=.tu [.ag [bv false,bv false,q5A,iv 0],bv true]) (fun D w v h=>?_) ?_
  ·unfold Rd at h ⊢;obtain ⟨vs,rfl,h1⟩:=h;obtain ⟨_,_,rfl,h2,h3⟩:=qk9 h1;refine ⟨_,rfl,?_⟩;unfold RdL;exact ⟨_,_,rfl,qsL h2,RdL.one h3⟩
  ·have e1:(m.sign == 0)=true:=by rw [hz]; rfl
   refine ac0 Tryz.func175 Tryz.ntmps175 [.cell 2 74,.tmp 3] ?_;exact wk1 e1 trivial
 ·have hz':(m.sign == 0)=false:=by
   rw [beq_eq_false_iff_ne]; intro h0; exact hz (Int.sign_eq_zero_iff_zero.1 h0)
  obtain ⟨hv1,hv2,hv3⟩:=q73 hz hv;obtain ⟨hv4,hv5,_,hv6⟩:=q31 hv;have htl:=qh5 (n:=m.natAbs) Oq;have hbo:=qa5 hz;have C3:=@qlC;have C4:=@q3Q;have C5:=@q8L;have f1:=(qm5 m).trans hv4.symm;have f2:=(hv5 hz).2.symm;refine ac0 Tryz.func175 Tryz.ntmps175 [.cell 2 74,.tmp 3] ?_;exact wk1 (x3 hz' f1 f2) trivial
def qc2 (hV:q05 V):ACt 175 [dT V] (.tu [dT V,bv true]):=by
 obtain ⟨h1,h2,h3⟩:=q0u hV;exact qqL rfl Oq Oq Oq (qb1 hV)
def q6y (hV:q05 V):ACt 124 [dT V] (dT V):=by
 have C1:=qc2 hV;refine ac0 Tryz.func124 Tryz.ntmps124 [.cell 2 74] ?_;exact wk trivial
def q2W (hV:q05 V):ACt 117 [dT V] (iv V.sign):=by
 have C1:=qc2 hV;have C2:=@q4K;have:=(q0u hV).2.2;refine ac0 Tryz.func117 Tryz.ntmps117 [.tmp 2] ?_;exact wk1 (qsD V) trivial
def qde (hV:q05 V):ACt 133 [dT V] (dT (-V)):=by
 have C1:=qc2 hV;have C2:=@qaK;have:=(q0u hV).2.2;have f1:=(qkj V).symm;have f2:=qgU V;refine ac0 Tryz.func133 Tryz.ntmps133 [.cell 2 74] ?_;exact wk1 (x2 f1 f2) trivial
def q5W {s:Bool} (hs:s=decide (m < 0)) (hb:bl m.natAbs≤1000000) (he1 : -1000000≤e) (he2:e≤1000000) (hv:mkV m e=some V):ACt 132 [sT s m,iv e] (dT V):=by
 have C1:=qqL hs hb he1 he2 hv;refine ac0 Tryz.func132 Tryz.ntmps132 [.cell 4 74] ?_;exact wk trivial
def qdc (ha:q05 a) (hb:q05 b):ACt 198 [dT a,dT b] (.tu [dT a,dT b,bv true]):=by
 have C1:=qc2 ha;have C2:=qc2 hb;refine ac0 Tryz.func198 Tryz.ntmps198 [.cell 4 74,.cell 5 74,.tmp 6] ?_;exact wk trivial
def q5j (ha:q05 a) (hb:q05 b) (hv:mkV (a*b) (-131072)=some V):ACt 134 [dT a,dT b] (dT V):=by
 obtain ⟨ha1,ha2,ha3⟩:=q0u ha;obtain ⟨hb1,hb22,hb33⟩:=q0u hb;have hmul:=q44 (od a).natAbs (od b).natAbs;rw [← Int.natAbs_mul] at hmul;have C1:=qdc ha hb;have C2:=@qnb;have C3:=q5W (m:=od a*od b) (e:=dyE a+dyE b) rfl Oq Oq Oq ((qfK a b).trans hv);refine ac0 Tryz.func134 Tryz.ntmps134 [.cell 4 74] ?_;exact wk trivial
end
abbrev reT (neg:Bool) (q:Nat) (e:Int) (inx:Bool):PV:=.ag [bv neg,bv false,.fm (fL q),iv e,bv inx]
section
variable {neg inx:Bool} {q k:Nat} {e p:Int}
def qhU (hb:bl q≤1000000) (he1 : -1000000≤e) (he2:e≤1000000):ACt 185 [reT neg q e inx] (iv (e+bl q-1)):=by
 have C1:=@q3Q;refine ac0 Tryz.func185 Tryz.ntmps185 [.tmp 2] ?_;exact wk trivial
def qlv (hq:q≠0) (hb:bl q≤1000000) (hk:0 < k) (hk2:k≤5000000):ACt 240 [reT neg q e inx,iv k] (.tu [bT (q / 2 ^ k:Nat),iv (Go.Sp.hf q k inx),bv (decide (q % 2 ^ k=0) && !inx)]):=by
 have C1:=@q3Q
 by_cases hkb:bl q < k
 ·have hqp:=q28 q;have hp1:2 ^ bl q≤2 ^ (k-1):=Nat.pow_le_pow_right Oq Oq;have hp2:2 ^ (k-1)≤2 ^ k:=Nat.pow_le_pow_right Oq Oq;have hmod:q % 2 ^ k=q:=Nat.mod_eq_of_lt Oq;have hdiv:q / 2 ^ k=0:=Nat.div_eq_of_lt Oq;have hhf:Go.Sp.hf q k inx = -1:=by
   unfold Go.Sp.hf;have:(((q % 2 ^ k:Nat):Int)-2 ^ (k-1)).sign = -1:=by
    refine Int.sign_eq_neg_one_of_neg ?_;rw [hmod,← q09]; omega
   rw [this]; simp
  have hex:(decide (q % 2 ^ k=0) && !inx)=false:=by rw [hmod,decide_eq_false hq]; rfl
  rw [hdiv,hhf,hex];refine ac0 Tryz.func240 Tryz.ntmps240 [.cell 4 72,.tmp 5,.tmp 6] ?_;exact wk trivial
 ·have C2:=@q8L;have C3:=@q3s;have C4:=@qna;have C5:=@q3g;have C6:=@qnd;have C7:=@q4K;have hsh:shI ((q:Nat):Int) (-(k:Int))=((q / 2 ^ k:Nat):Int):=by
   unfold shI; rw [if_neg (by omega),show (- -(k:Int)).toNat=k by omega,← q09]; rfl
  have hql:bl (q / 2 ^ k)≤1000000:=Nat.le_trans (q0d (Nat.div_le_self _ _)) hb;have hsl:shI ((q / 2 ^ k:Nat):Int) (k:Int)=((q / 2 ^ k*2 ^ k:Nat):Int):=by
   unfold shI; rw [if_pos (by omega),Int.toNat_natCast,← q09]; simp
  have hbm:bl (q / 2 ^ k*2 ^ k)≤1000000:=Nat.le_trans (q0d (Nat.div_mul_le_self _ _)) hb;have hrs:((q:Nat):Int)-((q / 2 ^ k*2 ^ k:Nat):Int)=((q % 2 ^ k:Nat):Int):=by
   have:=Nat.div_add_mod q (2 ^ k);rw [Nat.mul_comm] at this; omega
  have hbr:bl (q % 2 ^ k)≤1000000:=Nat.le_trans (q0d (Nat.mod_le _ _)) hb;have hs1:shI 1 ((k:Int)-1)=(2:Int) ^ (k-1):=by
   unfold shI; rw [if_pos (by omega),show ((k:Int)-1).toNat=k-1 by omega,Int.one_mul]
  have hb1:bl ((2:Int) ^ (k-1)).natAbs≤k:=by
   rw [q6k]; exact q0M (Nat.pow_lt_pow_right (by omega) (by omega))
  have hb2:bl (1:Int).natAbs≤1:=by show bl 1≤_; rw [q9L]; omega
  have sE:(((q % 2 ^ k:Nat):Int).sign == 0)=decide (q % 2 ^ k=0):=by
   by_cases h0:q % 2 ^ k=0
   ·rw [h0]; rfl
   ·rw [decide_eq_false h0,beq_eq_false_iff_ne];intro h; exact h0 (by have:=Int.sign_eq_zero_iff_zero.1 h; omega)
  have hhf:Go.Sp.hf q k inx=if (((q % 2 ^ k:Nat):Int)-2 ^ (k-1)).sign=0∧inx=true then 1 else (((q % 2 ^ k:Nat):Int)-2 ^ (k-1)).sign:=rfl
  rw [hhf];generalize hr:q % 2 ^ k=r at *;generalize hz:q / 2 ^ k=z at *;generalize hw:z*2 ^ k=zw at *;generalize hP:(2:Int) ^ (k-1)=P at *;refine ac0 Tryz.func240 Tryz.ntmps240 [.cell 4 72,.tmp 5,.tmp 6] ?_;refine wk1 (x4 hsh hsl hrs hs1) ?_
  by_cases hS:((r:Int)-P).sign=0
  ·rw [hS];cases inx
   ·rw [if_neg fun h=>Bool.noConfusion h.2]
    by_cases h0:r=0
    ·exact wk1 (x2 sE (decide_eq_true h0)) trivial
    ·exact wk1 (x2 sE (decide_eq_false h0)) trivial
   ·rw [if_pos ⟨rfl,rfl⟩]
    by_cases h0:r=0
    ·exact wk1 (x2 sE (decide_eq_true h0)) trivial
    ·exact wk1 (x2 sE (decide_eq_false h0)) trivial
  ·rw [if_neg fun h=>hS h.1]
   by_cases h0:r=0
   ·exact wk1 (x2 sE (decide_eq_true h0)) trivial
   ·exact wk1 (x2 sE (decide_eq_false h0)) trivial
def qhT (hq:q≠0) (hb:bl q≤900000) (he1 : -900000≤e) (he2:e≤900000) (hp1 : -100000≤p) (hp2:p≤1000000):ACt 188 [reT neg q e inx,iv p,iv 0] (bT (sgn neg (qnQ q e p inx))):=by
 have C1:=@q3s;have C2:=@qaK;have s0:∀ n:Nat,sgn false n=n:=fun n=>rfl;have s1:∀ n:Nat,sgn true n = -(n:Int):=fun n=>rfl
 by_cases hpe:p≤e
 ·have hsl:shI ((q:Nat):Int) (e-p)=((q*2 ^ (e-p).toNat:Nat):Int):=by
   unfold shI; rw [if_pos (by omega),← q09]; simp
  have hbq:bl (q*2 ^ (e-p).toNat)≤2000000:=by rw [q1O hq]; omega
  rw [show qnQ q e p inx=q*2 ^ (e-p).toNat from if_pos hpe];generalize q*2 ^ (e-p).toNat=z at *;refine ac0 Tryz.func188 Tryz.ntmps188 [.cell 6 72] ?_;cases neg
  ·exact wk1 (x2 hsl s0) trivial
  ·exact wk1 (x2 hsl s1) trivial
 ·obtain ⟨k,hk⟩:∃ k:Nat,p-e=k:=⟨(p-e).toNat,by omega⟩;have hbq:bl (q / 2 ^ k)≤2000000:=Nat.le_trans (q0d (Nat.div_le_self _ _)) Oq;have C3:=qlv (neg:=neg) (inx:=inx) (e:=e) (q:=q) (k:=k) hq Oq Oq Oq;have C4:=@q3g;have C5:=@qaN;have C6:=@q4K;have C7:=@qlC;have hb2:bl (1:Int).natAbs≤1:=by show bl 1≤_; rw [q9L]; omega
  have hm:qnQ q e p inx=q / 2 ^ k+(if ¬ (q % 2 ^ k=0∧inx=false)∧(0 < Go.Sp.hf q k inx∨(Go.Sp.hf q k inx=0∧q / 2 ^ k % 2=1)) then 1 else 0):=by
   unfold qnQ; rw [if_neg hpe,show (p-e).toNat=k by omega]
  generalize qnQ q e p inx=m at *;generalize Go.Sp.hf q k inx=H at *;generalize hr:q % 2 ^ k=r at *;generalize hz:q / 2 ^ k=z at *;have hbz:bl ((z:Int)+1).natAbs≤2000001:=by
   have:=q6T (k:=2000000) (a:=z) (b:=1) (by omega) (by rw [q9L]; omega);exact this
  have e2:((z+1:Nat):Int)=(z:Int)+1:=rfl;refine ac0 Tryz.func188 Tryz.ntmps188 [.cell 6 72] ?_
  by_cases hex:r=0∧inx=false
  ·have f:(decide (r=0) && !inx)=true:=by simp [hex]
   rw [if_neg fun h=>h.1 hex,Nat.add_zero] at hm;subst hm;cases neg
   ·exact wk1 (x3 hk f s0) trivial
   ·exact wk1 (x3 hk f s1) trivial
  ·have f:(decide (r=0) && !inx)=false:=by
    rw [Bool.and_eq_false_iff]
    by_cases h:r=0
    ·exact .inr (by cases inx <;> simp_all)
    ·exact .inl (decide_eq_false h)
   by_cases hh:0 < H
   ·rw [if_pos ⟨hex,.inl hh⟩] at hm;subst hm;cases neg
    ·exact wk1 (x4 hk f s0 e2) trivial
    ·exact wk1 (x4 hk f s1 e2) trivial
   ·by_cases h0:H=0
    ·by_cases hodd:z % 2=1
     ·rw [if_pos ⟨hex,.inr ⟨h0,hodd⟩⟩] at hm;subst hm;have q3:(((z:Nat):Int).sign != 0)=true:=by rw [Int.sign_eq_one_of_pos (by omega)]; rfl
      have q4:(((tz z:Nat):Int) == 0)=true:=by rw [qao hodd]; rfl
      cases neg
      ·exact wk1 (x6 hk f q3 q4 s0 e2) trivial
      ·exact wk1 (x6 hk f q3 q4 s1 e2) trivial
     ·rw [if_neg fun h=>h.2.elim hh fun h=>hodd h.2,Nat.add_zero] at hm;subst hm
      by_cases hz0:m=0
      ·have q3:(((m:Nat):Int).sign != 0)=false:=by rw [hz0]; rfl
       cases neg
       ·exact wk1 (x4 hk f q3 s0) trivial
       ·exact wk1 (x4 hk f q3 s1) trivial
      ·have q3:(((m:Nat):Int).sign != 0)=true:=by rw [Int.sign_eq_one_of_pos (by omega)]; rfl
       have q4:(((tz m:Nat):Int) == 0)=false:=by
        rw [beq0];refine decide_eq_false fun h0=>hodd ?_;obtain ⟨r,hr,he⟩:=q2p hz0;rw [h0,Nat.pow_zero,Nat.mul_one] at he;omega
       cases neg
       ·exact wk1 (x5 hk f q3 q4 s0) trivial
       ·exact wk1 (x5 hk f q3 q4 s1) trivial
    ·rw [if_neg fun h=>h.2.elim hh fun h=>h0 h.1,Nat.add_zero] at hm;subst hm;cases neg
     ·exact wk1 (x3 hk f s0) trivial
     ·exact wk1 (x3 hk f s1) trivial
end
def qdd {a b:Int} (hA:q05 a) (hB:q05 b) (ha:a≠0) (hb:b≠0):∃ k:Nat,(bl (od b).natAbs+58 < bl ((od a).natAbs*2 ^ k)∧k≤140000∧bl ((od a).natAbs*2 ^ k)≤140000) ∧
  ACt 126 [dT a,dT b,iv 56] (reT (decide (a < 0) != decide (b < 0)) ((od a).natAbs*2 ^ k / (od b).natAbs) (dyE a-k-dyE b) (decide ((od a).natAbs*2 ^ k % (od b).natAbs≠0))):=by
 obtain ⟨ha1,ha2,ha3⟩:=q0u hA;obtain ⟨hb1,hb2,hb3⟩:=q0u hB;have hoa:=q3W ha;have hob:=q3W hb;rw [← q15 a,← q15 b];have C1:=@q3Q;have C2:=@qaO;have C3:=@q3s;have C4:=@qdB;have C5:=@q4K;obtain ⟨p,hp⟩:∃ p,(od a).natAbs=p:=⟨_,rfl⟩;obtain ⟨r,hr⟩:∃ r,(od b).natAbs=r:=⟨_,rfl⟩;have hbp:=hp ▸ ha3;have hbr:=hr ▸ hb3;rw [hp,hr];have hp0:p≠0:=by omega
 have hr0:r≠0:=by omega
 obtain ⟨k,hk⟩:∃ k:Nat,max 0 (56+3+((bl r:Nat):Int)-((bl p:Nat):Int))=k:=⟨(max 0 (56+3+((bl r:Nat):Int)-((bl p:Nat):Int))).toNat,by omega⟩;have hbN:bl (p*2 ^ k)=bl p+k:=q1O hp0 k;refine ⟨k,⟨by omega,by omega,by omega⟩,?_⟩;have hsh:shI ((p:Nat):Int) (k:Int)=((p*2 ^ k:Nat):Int):=by
  unfold shI; rw [if_pos (by omega),Int.toNat_natCast,← q09]; simp
 have hml:bl (p*2 ^ k % r)≤300000:=Nat.le_trans (q0d (Nat.mod_le _ _)) Oq;have sE:(((p*2 ^ k % r:Nat):Int).sign != 0)=decide (p*2 ^ k % r≠0):=by
  by_cases h0:p*2 ^ k % r=0
  ·rw [h0]; rfl
  ·rw [decide_eq_true h0,bne_iff_ne];intro h; exact h0 (by have:=Int.sign_eq_zero_iff_zero.1 h; omega)
 refine ac0 Tryz.func126 Tryz.ntmps126 [.cell 6 155] ?_;exact wk1 (x6 hp hr @qkp hk hsh sE) trivial
def clD {l:List Int}:ClL (l.map fun x=>dT x):=fun x hx=>by
 obtain ⟨z,_,rfl⟩:=List.mem_map.1 hx;intro y hy;simp at hy
 rcases hy with rfl | rfl | rfl | rfl <;> trivial
def q90 {l:List Int} (hn:l.length≤1000) (ho:∀ x ∈ l,q05 x) (hv:q05 (q0o l)):ACt 127 [.sl (some 4) (l.map fun V=>pV V)] (dT (q0o l)):=by
 refine ac0 Tryz.func127 Tryz.ntmps127 [.cell 2 74] ?_;refine wk ?_;refine q0A (fun q:Nat × Int=>q.1≤l.length ∧ -65536≤q.2∧q.2≤0∧∀ x ∈ l.take q.1,q.2≤dyE x) [0,2,12,13] [2] Lk Lk (fun q=>[(14,iv q.1),(4,iv q.2),(3,.ow 1001 (some 4) 0 q.1)]) (fun q=>[(1001,⟨74,some 4,(l.take q.1).map fun x=>dT x,false⟩)]) (fun q=>l.length-q.1) (0,0) ⟨Nat.zero_le _,by omega,by omega,fun x hx=>by simp at hx⟩ ?_ ?_
 ·refine LeM [(1001,none)] rfl rfl ?_;refine Zz ?_
  rfl
 ·rintro ⟨i,lo⟩ ⟨hi,hlo1,hlo2,hmin⟩;simp only at hi hlo1 hlo2 hmin ⊢
  by_cases hlt:i < l.length
  ·obtain ⟨x,hxi⟩:∃ x,l[i]?=some x:=⟨_,List.getElem?_eq_getElem Oq⟩;have hox:=ho x (List.mem_of_getElem? hxi);obtain ⟨hd1,hd2,hd3⟩:=q0u hox;have C1:=quu (by kernel_rfl) fun h=>qc2 h (V:=x);have htk:l.take (i+1)=l.take i ++ [x]:=by
    obtain ⟨hlt,he⟩:=List.getElem?_eq_some_iff.1 hxi;rw [List.take_succ_eq_append_getElem hlt,he]
   have ht:(l.take i).length=i:=by rw [List.length_take]; omega
   refine wk1 (x3 hxi @qko ht) ?_;refine ⟨(i+1,min lo (dyE x)),⟨by simp only; omega,by simp only; omega,by simp only; omega,fun y hy=>?_⟩,by simp only; omega,?_⟩
   ·simp only at hy ⊢;rw [htk] at hy
    rcases List.mem_append.1 hy with hy | hy
    ·have:=hmin y hy; omega
    ·simp at hy; subst hy; omega
   ·simp only;refine LeM [(1001,some 33)] rfl rfl ?_;refine Zz ?_;exact ⟨by omega,q0Y (by rw [htk,List.map_append]; rfl) clD⟩
  ·obtain rfl:i=l.length:=by omega
   rw [List.take_length] at hmin;refine wk ?_;refine q0A (fun q:Nat × Int=>q.1≤l.length∧q.2*(2:Int) ^ (lo+65536).toNat=q0o (l.take q.1)) [2,4,9,35,36] [2,1001] Lk Lk (fun q=>[(37,iv q.1)]) (fun q=>[(9,⟨72,some 2,[bT q.2],false⟩)]) (fun q=>l.length-q.1) (0,0) ⟨Nat.zero_le _,by rw [Int.zero_mul]; rfl⟩ ?_ ?_
   ·refine LeM [] rfl rfl ?_;refine Zz ?_;exact ⟨rfl,rfl,q0Y rfl clD⟩
   ·rintro ⟨j,tot⟩ ⟨hj,hs⟩;simp only at hj hs ⊢;have hbs:=qkV (i:=j) ho Oq;have hbt:=q42 hs
    by_cases hlt:j < l.length
    ·obtain ⟨x,hxi⟩:∃ x,l[j]?=some x:=⟨_,List.getElem?_eq_getElem Oq⟩;have hox:=ho x (List.mem_of_getElem? hxi);obtain ⟨hd1,hd2,hd3⟩:=q0u hox;have hst:=q5q l j x hxi;have hlo:=hmin x (List.mem_of_getElem? hxi);have hsh:shI (od x) (dyE x-lo)=od x*(2:Int) ^ (dyE x-lo).toNat:=by unfold shI; rw [if_pos (by omega)]
     have hlf:=q24 (V:=x) (E:=lo) Oq Oq;have hb12:=q42 hlf;have hbx:bl x.natAbs≤131072:=hox;have C1:=@q3s;have C2:=@qaN;refine wk1 (x2 hxi hsh) ?_;refine ⟨(j+1,tot+od x*(2:Int) ^ (dyE x-lo).toNat),⟨by simp only; omega,by simp only; rw [hst,Int.add_mul,hs,hlf]⟩,by simp only; omega,?_⟩;simp only;refine LeM [] rfl rfl ?_;refine Zz ?_;exact ⟨by omega,q0Y rfl clD⟩
    ·obtain rfl:j=l.length:=by omega
     rw [List.take_length] at hs hbs hbt;have C1:=@q5W;have hmk:mkV tot lo=some (q0o l):=by rw [q5a (by omega) hs]; exact q3N hv
     exact wk trivial
def fOk {f:Nat} {V:Int} (hv:ofF f=some V):q05 V:=by
 have hfin:q0J f:=fun h=>by unfold ofF at hv; rw [if_pos h] at hv; cases hv
 obtain ⟨V',hv',hmk⟩:=q70 hfin;rw [hv] at hv'; cases hv';exact (q31 hmk).2.2.2
section
variable {f:Nat} {neg:Bool}
def q6M (hf:f < 18446744073709551616):ACt 128 [uv f] (.tu [iv (f / 4503599627370496 % 2048:Nat),uv (f % 4503599627370496:Nat)]):=by
 have h1:=q3U (a:=f / 4503599627370496) Oq;have h2:=q5g hf;refine ac0 Tryz.func128 Tryz.ntmps128 [.tmp 2,.tmp 3] ?_;exact wk1 (x2 h1 h2) trivial
def qgL (hf:f < 18446744073709551616):ACt 130 [uv f] (bv (decide (9223372036854775808≤f))):=by
 have h2:=qaA hf;refine ac0 Tryz.func130 Tryz.ntmps130 [.tmp 2] ?_;exact wk1 h2 trivial
def q6o (hf:f < 9223372036854775808):ACt 189 [uv f,bv neg] (uv (sb neg f:Nat)):=by
 have h:=qfB hf;refine ac0 Tryz.func189 Tryz.ntmps189 [.tmp 4] ?_;cases neg
 ·exact wk1 (show sb false f=f from rfl) trivial
 ·exact wk1 (x2 h (show sb true f=f+9223372036854775808 from rfl)) trivial
def q4p (hf:f < 18446744073709551616):ACt 63 [uv f] (bv (decide (q0J f))):=by
 have C1:=q6M hf;have h2:(((f / 4503599627370496 % 2048:Nat):Int) != 2047)=decide (q0J f):=quB (b:=2047);refine ac0 Tryz.func63 Tryz.ntmps63 [.tmp 2] ?_;exact wk1 h2 trivial
def qjS:ACt 190 [bv neg,iv 0] (uv (qhJ 0 neg:Nat)):=by
 have C1:=q6o (f:=9218868437227405312) (neg:=neg) Oq;have e:qhJ 0 neg=sb neg 9218868437227405312:=by simp [qhJ]
 refine ac0 Tryz.func190 Tryz.ntmps190 [.tmp 4] ?_;exact wk1 e trivial
def q3B {V:Int} (hf:f < 18446744073709551616) (hv:ofF f=some V):ACt 62 [uv f] (dT V):=by
 have hfin:q0J f:=fun h=>by unfold ofF at hv; rw [if_pos h] at hv; cases hv
 obtain ⟨V',hv',hmk⟩:=q70 hfin;rw [hv] at hv'; cases hv';have C1:=q6M hf;have C2:=qgL hf;have C3:=@q3g;have C4:=@qaK;have C5:=@q5W;have hxm:=Nat.mod_lt (f / 4503599627370496) (show 0 < 2048 by omega);have hm:=Nat.mod_lt f (show 0 < 4503599627370496 by omega);unfold q0J at hfin;generalize f / 4503599627370496 % 2048=x at *;generalize f % 4503599627370496=m at *;generalize decide (9223372036854775808≤f)=sg at *;have h4:=qkg hm;obtain ⟨M,hM⟩:∃ M,M=if x=0 then m else 4503599627370496+m:=⟨_,rfl⟩
 have hMl:M < 9007199254740992:=by rw [hM]; split <;> omega
 have hbl:bl M≤53:=q0M (show M < 2 ^ 53 by omega);have hbn:bl (-(M:Int)).natAbs≤53:=by rw [Int.natAbs_neg]; exact hbl
 refine ac0 Tryz.func62 Tryz.ntmps62 [.cell 2 74] ?_
 by_cases hx0:x=0
 ·rw [if_pos hx0] at hM;subst hM;rw [if_pos hx0,if_pos hx0] at hmk;cases sg
  ·exact wk trivial
  ·exact wk trivial
 ·rw [if_neg hx0] at hM;rw [if_neg hx0,if_neg hx0,← hM] at hmk;rw [← hM] at h4;cases sg
  ·exact wk1 h4 trivial
  ·exact wk1 h4 trivial
end
def qnc {a:Int} {s:Bool} (hs:s=decide (a < 0)) (h0:0≤a) (ha:a≤9223372036854775807):ACt 186 [sT s a] (.tu [iv a,bv true]):=q3F (qi6 hs h0 ha)
def q6K {N M:Nat} {neg:Bool} {e:Int} (hM:0 < M) (hN:M≤N) (hmb:N % M≠0→55≤bl (N / M)) (hb:bl (N / M)≤200000) (he1 : -400000≤e) (he2:e≤400000):ACt 125 [reT neg (N / M) e (decide (N % M≠0)),iv 0] (uv (rE 0 neg N M e:Nat)):=by
 have hp:=Nat.div_pos hN hM;have hL1:=q43 (n:=N / M) Oq;have hval:=qes (mode:=0) (neg:=neg) (e:=e) hM hN;have hnle:=qms (mode:=0) (neg:=neg) (e:=e) (q:=max (e+(bl (N / M):Int)-53) (-1074)) hM hN Oq;have hmul:=qnP (neg:=neg) (e:=e) (p:=max (e+(bl (N / M):Int)-53) (-1074)) hM (fun h=>by have:=hmb h; omega);have C1:=qhU (neg:=neg) (q:=N / M) (e:=e) (inx:=decide (N % M≠0)) Oq Oq Oq;obtain ⟨L,hL⟩:∃ L,bl (N / M)=L:=⟨_,rfl⟩;rw [hL] at hmb hb hval hnle hmul hL1 C1;obtain ⟨q,hq⟩:∃ q,max (e+(L:Int)-53) (-1074)=q:=⟨_,rfl⟩;rw [hq] at hval hnle hmul;have hq':max (e+(L:Int)-1-52) (-1074)=q:=by omega
 have C2:=qhT (neg:=neg) (inx:=decide (N % M≠0)) (q:=N / M) (e:=e) (p:=q) Oq Oq Oq Oq Oq Oq;rw [hmul] at C2;obtain ⟨r,hr⟩:∃ r,rq 0 neg (N*2 ^ (e-q).toNat) (M*2 ^ (q-e).toNat)=r:=⟨_,rfl⟩;rw [hr] at hval hnle C2;have hbr:bl r≤54:=q0M (Nat.lt_of_le_of_lt hnle (by decide));have hsn:=q1f neg r;have hbs:bl (sgn neg r).natAbs≤54:=by rw [hsn]; exact hbr
 have C3:=@qaO;have C4:=@qnc;have C5:=@q6o;have C6:=@qjS;have e2:IntKind.u64.wrap ((r:Nat):Int)=r:=u64_in Oq Oq;rw [hval];generalize N / M=d at *;generalize decide (N % M≠0)=ix at *;clear hmul hmb hp hval hr;unfold Go.Sp.fin Go.Sp.q7h;have comp:∀ (q2:Int) (n2:Nat),0≤q2+1075→¬ 2047≤q2+1075→4503599627370496≤n2→n2 < 9007199254740992→∃ x:Nat,q2+1075=x∧(q2+1075).toNat=x∧IntKind.u64.wrap (x:Int)=x∧(q0q Tryz.prog .shl 30 (.int .u64 (x:Int)) (.int .u64 52)=some (.int .u64 ((x*4503599627370496:Nat):Int)))∧IntKind.u64.wrap ((n2:Int)-4503599627370496)=((n2-4503599627370496:Nat):Int)∧q0n .or .u64 ((x*4503599627370496:Nat):Int) ((n2-4503599627370496:Nat):Int)=((x*4503599627370496+(n2-4503599627370496):Nat):Int)∧x*4503599627370496+(n2-4503599627370496) < 9223372036854775808:=fun q2 n2 h1 h2 h3 h4 =>
  ⟨(q2+1075).toNat,by omega,rfl,u64_in (by omega) (by omega),qbJ (by omega),by rw [u64_in (by omega) (by omega)]; omega,qkh (by omega) (by omega),by omega⟩
 refine ac0 Tryz.func125 Tryz.ntmps125 [.tmp 4] ?_
 by_cases h53:r=9007199254740992
 ·rw [if_pos h53,if_neg (by omega)]
  by_cases hov:2047≤q+1+1075
  ·rw [if_pos hov];exact wk1 (x3 hq' hsn e2) trivial
  ·rw [if_neg hov];obtain ⟨x,f1,f2,f3,f4,f5,f6,f7⟩:=comp (q+1) 4503599627370496 Oq hov Oq Oq;rw [f2,Nat.sub_self,Nat.add_zero];rw [Nat.sub_self,Nat.add_zero] at f6 f7;replace f5:IntKind.u64.wrap (4503599627370496-4503599627370496)=0:=f5;replace f6:q0n .or .u64 ((x*4503599627370496:Nat):Int) 0=((x*4503599627370496:Nat):Int):=f6;exact wk1 (x6 hq' hsn e2 f1 f3 (x3 f4 f5 f6)) trivial
 ·rw [if_neg h53]
  by_cases h52:r < 4503599627370496
  ·rw [if_pos h52];exact wk1 (x3 hq' hsn e2) trivial
  ·rw [if_neg h52]
   by_cases hov:2047≤q+1075
   ·rw [if_pos hov];exact wk1 (x3 hq' hsn e2) trivial
   ·rw [if_neg hov];obtain ⟨x,f1,f2,f3,f4,f5,f6,f7⟩:=comp q r Oq hov Oq Oq;rw [f2];exact wk1 (x6 hq' hsn e2 f1 f3 (x3 f4 f5 f6)) trivial
def qaZ {a b:Int} (hA:q05 a) (hB:q05 b) (hb0:b≠0):ACt 60 [dT a,dT b,iv 0] (uv (fQ 0 a b:Nat)):=by
 have C1:=q6y hA;have C2:=q6y hB;have C3:=q2W hA;have C4:=q2W hB;have q1:(b.sign == 0)=false:=by
  rw [beq_eq_false_iff_ne]; intro h; exact hb0 (Int.sign_eq_zero_iff_zero.1 h)
 refine ac0 Tryz.func60 Tryz.ntmps60 [.tmp 6] ?_
 by_cases ha0:a=0
 ·have q2:(a.sign == 0)=true:=by rw [ha0]; rfl
  rw [show ((fQ 0 a b:Nat):Int)=0 by rw [show fQ 0 a b=0 from if_pos ha0]; rfl];exact wk1 (x2 q1 q2) trivial
 ·have q2:(a.sign == 0)=false:=by
   rw [beq_eq_false_iff_ne]; intro h; exact ha0 (Int.sign_eq_zero_iff_zero.1 h)
  obtain ⟨k,⟨c1,c2,c3⟩,C5⟩:=qdd hA hB ha0 hb0;have hob:=q3W hb0;have hd1:=q0u hA;have hd2:=q0u hB;have hge:=q9N (N:=(od a).natAbs*2 ^ k) (M:=(od b).natAbs) Oq (k:=57) Oq;have hle:bl ((od a).natAbs*2 ^ k / (od b).natAbs)≤140000:=Nat.le_trans (q0d (Nat.div_le_self _ _)) c3;have hMN:(od b).natAbs≤(od a).natAbs*2 ^ k:=by
   rcases Nat.lt_or_ge ((od a).natAbs*2 ^ k) (od b).natAbs with h | h
   ·have:=q0d (Nat.le_of_lt h); omega
   ·exact h
  have C6:=q6K (neg:=decide (a < 0) != decide (b < 0)) (e:=dyE a-k-dyE b) Oq hMN (fun _=>by omega) Oq Oq Oq;rw [qka ha0 hb0,show rF 0 (decide (a < 0) != decide (b < 0)) a.natAbs b.natAbs=fQ 0 a b from (if_neg ha0).symm] at C6;exact wk1 (x2 q1 q2) trivial
end Go.Proofs.YtbcmhlhgljoolaaGreatDoor
namespace Go.E
open Go
section
variable {G:Fam} {D:Nat→Prop} {A:Option Addr} {v:Value} {w w':World} {L:List Nat} {α:Type} {H:α→Fam} {T sz B n c:Nat} {l:List α}
def q3o.blk_lt (h:q3o H T sz w D B A n c l):∀ a,A=some a→a.block < w.heap.size∧B≤a.block:=by
 obtain ⟨vs,h1,_⟩:=h;exact h1.blk_lt
def q3o.nb (h:q3o H T sz w D B A n c l) {k:Nat} (hk:k < B):nb A k:=fun a ha=>by have:=h.blk_lt a ha; omega
def q3o.under {w0:World} (h:q3o H T sz w D B A n c l) (hx:Ext w0 w) (k:Kp (Go.E.nb A) w w') (hB:w0.heap.size≤B):Ext w0 w':=hx.under k fun j hj=>h.nb Oq
end
end Go.E
namespace Go.Proofs.YtbcmhlhgljoolaaGreatDoor
open Go Go.E Go.Sp
def qtu (a b c d:Value):bsV Tryz.prog 125 1 [(0,.agg #[a,b,c,d])]=some (74,#[a,b,c,d]):=by
 unfold bsV;simp only [qgR];have hr:Array.range 4=#[0,1,2,3]:=rfl;simp [Instr.fill,Value.cells,hr]
section
variable {f:Nat} {w:World}
def qiG (hf:f < 18446744073709551616):Calls Tryz.prog 128 #[.int .u64 f] w fun e w'=>e=.returned (.tuple #[.int .i64 (f / 4503599627370496 % 2048:Nat),.int .u64 (f % 4503599627370496:Nat)])∧w=w':=by
 refine q1U Tryz.func128 rfl Tryz.ntmps128 (by kernel_rfl) ?_;refine Wz ?_;have h1:=q3U (a:=f / 4503599627370496) Oq;have h2:=q5g (a:=f) hf;have h3:IntKind.i64.wrap ((f / 4503599627370496 % 2048:Nat):Int)=((f / 4503599627370496 % 2048:Nat):Int):=i64_in Oq Oq;refine Wz3 h1 h2 h3 ?_;refine q48 ?_
 try simp only [q13,q5S]
 refine qre rfl ⟨by simp only [q1R,Nat.reduceEqDiff,↓reduceIte],rfl⟩
def q5C (hf:f < 18446744073709551616):Calls Tryz.prog 63 #[.int .u64 f] w fun e w'=>e=.returned (.bool (decide (q0J f)))∧w=w':=by
 refine q1U Tryz.func63 rfl Tryz.ntmps63 (by kernel_rfl) ?_;refine Wz ?_;refine q0P fun K hK=>?_;refine Zz ?_;refine q0h ql6 (qiG hf) ?_;rintro _ _ ⟨rfl,rfl⟩; refine ⟨_,rfl,?_⟩;have h2:(((f / 4503599627370496 % 2048:Nat):Int) != 2047)=decide (q0J f):=quB (b:=2047);refine Zz ?_;refine hK _ _ ?_; clear hK;refine Wz1 h2 ?_;refine q48 ?_
 try simp only [q13,q5S]
 refine qmf rfl ⟨by simp only [q1R,Nat.reduceEqDiff,↓reduceIte],rfl⟩
end
section
variable {g:FuncId} {al:List PV} {vs:List Value} {V:Int} {c:Value} {D:Nat→Prop} {w:World} {v v':Value} {a b:Int}
def acV (h:ACt g al (dT V)) (ho:q05 V) (hT:q2j w) (hF:Fr D w) (hR:RdL w D al (fun _=>none) h0 vs):Calls Tryz.prog g vs.toArray w (Rt (fV V) D w):=(h.2 D w vs hT hF hR).mono fun x w' ⟨v,h1,h2,h3⟩=>⟨v,h1,h2,q2h.1 ⟨h3,ho⟩⟩
def acK (h:ACt g al (.vl c)) (hT:q2j w) (hF:Fr D w) (hR:RdL w D al (fun _=>none) h0 vs):Calls Tryz.prog g vs.toArray w fun e w'=>e=.returned c∧Ext w w':=(h.2 D w vs hT hF hR).mono fun x w' ⟨v,h1,h2,h3⟩=>⟨by rw [h1,q9o h3],h2⟩
def rdV (h:In (fV V) D v w):Rd w D (dT V) (fun _=>none) h0 v:=(q2h.2 h).1
def RdL.two {x y:PV} (h1:Rd w D x (fun _=>none) h0 v) (h2:Rd w D y (fun _=>none) h0 v'):RdL w D [x,y] (fun _=>none) h0 [v,v']:=by
 unfold RdL;exact ⟨_,_,rfl,h1,RdL.one h2⟩
def qgK {f:Nat} (hT:q2j w) (hf:f < 18446744073709551616) (hv:ofF f=some V) (hfr:Fr D w):Calls Tryz.prog 62 #[.int .u64 f] w (Rt (fV V) D w):=acV (q3B hf hv) (fOk hv) hT hfr (RdL.one q2g)
def qt1 (hT:q2j w) (h:In (fV a) D v w) (h':In (fV b) D v' w) (hv:mkV (a*b) (-131072)=some V) (hf:Fr D w):Calls Tryz.prog 134 #[v,v'] w (Rt (fV V) D w):=acV (q5j h.ok h'.ok hv) (q31 hv).2.2.2 hT hf (RdL.two (rdV h) (rdV h'))
def qt0 (hT:q2j w) (h:In (fV V) D v w) (hf:Fr D w):Calls Tryz.prog 133 #[v] w (Rt (fV (-V)) D w):=acV (qde h.ok) (qbu h.ok) hT hf (RdL.one (rdV h))
def qlJ (hT:q2j w) (h:In (fV a) D v w) (h':In (fV b) D v' w) (hb0:b≠0) (hf:Fr D w):Calls Tryz.prog 60 #[v,v',.int .i64 0] w fun x w'=>x=.returned (.int .u64 (fQ 0 a b:Nat))∧Ext w w':=acK (qaZ h.ok h'.ok hb0) hT hf (by
 unfold RdL;exact ⟨_,_,rfl,rdV h,RdL.two (rdV h') q2g⟩)
def qtZ {A:Option Addr} {n c:Nat} {l:List Int} (hT:q2j w) (h:In (fSl 4 fV l) D (.slice A n c) w) (hn:n≤1000) (ho:∀ x ∈ l,q05 x) (hv:q05 (q0o l)) (hf:Fr D w) :
  Calls Tryz.prog 127 #[.slice A n c] w (Rt (fV (q0o l)) D w):=by
 have hl:=h.sl_len;obtain ⟨_,_,_,vs,e,h1,⟨h2,h3⟩,h4⟩:=h;cases e;refine acV (q90 Oq ho hv) hv hT hf (RdL.one ?_);unfold Rd;refine ⟨A,n,c,vs,rfl,h1,by simpa using h4,RdL.iff.2 ⟨by simpa using h2.symm,fun i x v hx hv=>?_⟩,fun v hv=>?_⟩
 ·rw [List.getElem?_map] at hx;obtain ⟨V,hV,rfl⟩:=Option.map_eq_some_iff.1 hx;obtain ⟨u,hu,q1,_⟩:=h3 i V hV;rw [hv] at hu; cases hu;exact q9p q1
 ·obtain ⟨i,hi,rfl⟩:=List.getElem_of_mem hv;obtain ⟨u,hu,q1,_⟩:=h3 i l[i] (List.getElem?_eq_getElem Oq);rw [List.getElem?_eq_getElem hi] at hu;cases hu;exact fitV _ _ _ q1
end
def q0c (l:List Nat):Prop:=∀ f ∈ l,f < 18446744073709551616∧q0J f
section
variable {D:Nat→Prop} {A:Option Addr} {n c:Nat} {l:List Nat} {w:World}
def qnG {w:World} {B E n c:Nat} {A:Option Addr} {α:Type} {f:α→Value} {l:List α} {D:Nat→Prop} (h:Own w B E 1 A n c (l.map f)) (hd:∀ k,B≤k→D k):In (fSc f l) D (.slice A n c) w:=⟨A,n,c,rfl,h.row.sub fun k _ hk=>hd k hk⟩
def qc7 (n:Nat):List Int:=(List.range n).map fun k:Nat=>(k:Int)
def qdk (n:Nat):qc7 (n+1)=qc7 n ++ [(n:Int)]:=by unfold qc7; rw [List.range_succ,List.map_append]; rfl
def qam (n:Nat):(qc7 n).length=n:=by simp [qc7]
end
end Go.Proofs.YtbcmhlhgljoolaaGreatDoor
namespace Go.E
open Go
def qbF {P:Program} {w:World} {T E Bd g n c:Nat} {xs:List Value} {v:Value} (h:Own w Bd E 1 (some ⟨g,0,none⟩) n c xs) {j:Nat} (hj:j < n) (hs:q0S P T=some 1) (hv:v.cells=#[v]) (h1:v.oneCell'=true) {K:World→Prop}
  (hK:∀ w',Own w' Bd E 1 (some ⟨g,0,none⟩) n c (xs.set j v)→Kp (fun k=>k≠g) w w'→w'.heap.size=w.heap.size→K w'):q4y P T w (.pointer (some ⟨g,j,none⟩)) v K:=by
 have hl:xs.length=n:=by have:=h.len; simpa using this
 obtain ⟨g',hg,hb,hc,hfz⟩:=h.cell (j:=j) Oq;cases hg;rw [qbE,hv];refine ⟨hs,⟨?_,?_,h1,trivial⟩,?_⟩
 ·rw [q0e,Nat.add_zero,hc]; rfl
 ·rw [q0e,Nat.add_zero]; exact hfz
 ·refine hK _ ?_ ?_ ?_
  ·have:=h.set j v;simpa [stN,q0e] using this
  ·simp only [stN,q0e,Nat.add_zero];exact Kp.setCell w (fun _ h=>h rfl) v
  ·simp [stN,World.setCell]
end Go.E
namespace Go.Proofs.YtbcmhlhgljoolaaGreatDoor
open Go Go.E Go.Sp
def qlA (l:List Int):Prop:=(∀ x ∈ l,0≤x∧x < l.length)∧l.Nodup
section
variable {D:Nat→Prop} {A:Option Addr} {n c:Nat} {l:List Int} {w:World}
end
end Go.Proofs.YtbcmhlhgljoolaaGreatDoor
namespace Go.E
open Go Go.Sp
section
variable {D:Nat→Prop} {A:Option Addr} {n c:Nat} {w:World}
def In.ixI {l:List Int} (h:In (fSc q4L l) D (.slice A n c) w) {i:Nat} {x:Int} (hi:l[i]?=some x):∃ ad,A=some ad∧((0:Int)≤(i:Int)∧(i:Int) < n)∧w.cell? (ad.add i)=some (.int .i64 x):=by
 obtain ⟨hlt,he⟩:=List.getElem?_eq_some_iff.1 hi;obtain ⟨ad,hA,hc⟩:=h.sc_get hlt;have:=h.sc_len;exact ⟨ad,hA,by omega,by rw [hc,he]; rfl⟩
def In.ixU {l:List Nat} (h:In (fSc q2T l) D (.slice A n c) w) {i:Nat} {x:Nat} (hi:l[i]?=some x):∃ ad,A=some ad∧((0:Int)≤(i:Int)∧(i:Int) < n)∧w.cell? (ad.add i)=some (.int .u64 (x:Int)):=by
 obtain ⟨hlt,he⟩:=List.getElem?_eq_some_iff.1 hi;obtain ⟨ad,hA,hc⟩:=h.sc_get hlt;have:=h.sc_len;exact ⟨ad,hA,by omega,by rw [hc,he]; rfl⟩
end
end Go.E
namespace Go.Proofs.YtbcmhlhgljoolaaGreatDoor
open Go Go.E Go.Sp
structure Fac where
 pm:List Int
 cp:List Int
 ri:List Int
 vs:List Nat
structure Col (f:Fac) (j a b:Nat):Prop where
 ha:f.cp[j]?=some (a:Int)
 hb:f.cp[j+1]?=some (b:Int)
 lt:a < b
 le:b≤f.ri.length
 first:f.ri[a]?=some (j:Int)
 last:∃ z:Int,f.ri[b-1]?=some z∧z < f.pm.length
 inc:∀ i,a < i→i < b→∃ y z:Int,f.ri[i-1]?=some y∧f.ri[i]?=some z∧y < z
 diag:∃ (x:Nat) (V:Int),f.vs[a]?=some x∧ofF x=some V∧0 < V
structure FacOk (f:Fac):Prop where
 perm:qlA f.pm
 n:f.pm.length≤200
 cpl:f.cp.length=f.pm.length+1
 ril:f.ri.length=f.vs.length
 rib:f.ri.length≤1000000
 c0:f.cp[0]?=some 0
 cn:f.cp[f.pm.length]?=some (f.ri.length:Int)
 col:∀ j,j < f.pm.length→∃ a b,Col f j a b
 vals:q0c f.vs
def fFac (f:Fac):Fam:=⟨fun D v w=>∃ a b c d,v=.agg #[a,b,c,d]∧(fSc q4L f.pm).p D a w∧(fSc q4L f.cp).p D b w∧(fSc q4L f.ri).p D c w∧(fSc q2T f.vs).p D d w,fun k ⟨a,b,c,d,e,h1,h2,h3,h4⟩=>⟨a,b,c,d,e,(fSc q4L f.pm).kp k h1,(fSc q4L f.cp).kp k h2,(fSc q4L f.ri).kp k h3,(fSc q2T f.vs).kp k h4⟩,fun k ⟨a,b,c,d,e,h1,h2,h3,h4⟩=>⟨a,b,c,d,e,(fSc q4L f.pm).sub k h1,(fSc q4L f.cp).sub k h2,(fSc q4L f.ri).sub k h3,(fSc q2T f.vs).sub k h4⟩⟩
def q8v {D:Nat→Prop} {f:Fac} {v:Value} {w:World} (h:In (fFac f) D v w):∃ A1 n1 c1 A2 n2 c2 A3 n3 c3 A4 n4 c4,v=.agg #[.slice A1 n1 c1,.slice A2 n2 c2,.slice A3 n3 c3,.slice A4 n4 c4]∧In (fSc q4L f.pm) D (.slice A1 n1 c1) w∧In (fSc q4L f.cp) D (.slice A2 n2 c2) w∧In (fSc q4L f.ri) D (.slice A3 n3 c3) w∧In (fSc q2T f.vs) D (.slice A4 n4 c4) w:=by
 obtain ⟨a,b,c,d,rfl,h1,h2,h3,h4⟩:=h;obtain ⟨A1,n1,c1,rfl,r1⟩:=h1;obtain ⟨A2,n2,c2,rfl,r2⟩:=h2;obtain ⟨A3,n3,c3,rfl,r3⟩:=h3;obtain ⟨A4,n4,c4,rfl,r4⟩:=h4;exact ⟨_,_,_,_,_,_,_,_,_,_,_,_,rfl,⟨_,_,_,rfl,r1⟩,⟨_,_,_,rfl,r2⟩,⟨_,_,_,rfl,r3⟩,⟨_,_,_,rfl,r4⟩⟩
def slv (s:Option Addr × Nat × Nat):Value:=.slice s.1 s.2.1 s.2.2
structure Sums (w:World) (D:Nat→Prop) (L:List Nat) (N0 g n:Nat) (rows:List (List Int)) (ss:List (Option Addr × Nat × Nat)):Prop where
 own:Own w N0 125 1 (some ⟨g,0,none⟩) n n (ss.map slv)
 len:ss.length=rows.length
 row:∀ (i:Nat) (s:Option Addr × Nat × Nat) (r:List Int),ss[i]?=some s→rows[i]?=some r→q3o fV 74 4 w (Dl D L) N0 s.1 s.2.1 s.2.2 r
 mem:∀ (i:Nat) (s:Option Addr × Nat × Nat) (a:Addr),ss[i]?=some s→s.1=some a→a.block ∈ L∧a.block≠g
 ne:∀ (i j:Nat) (s t:Option Addr × Nat × Nat) (a b:Addr),i≠j→ss[i]?=some s→ss[j]?=some t→s.1=some a→t.1=some b→a.block≠b.block
 gL:g ∈ L
 lo:∀ k ∈ L,N0≤k
 hi:∀ k ∈ L,k < w.heap.size
def qp5 {α:Type} {G:α→Fam} {T sz B n c:Nat} {A:Option Addr} {w:World} {D D':Nat→Prop} {l:List α} (h:q3o G T sz w D' B A n c l) (h1:∀ k,D' k→D k) (h2:∀ k,B≤k→D k):In (fSl sz G l) D (.slice A n c) w:=by
 obtain ⟨vs,a1,a2,a3⟩:=h;exact ⟨A,n,c,vs,rfl,a1.row.sub fun k _ hk=>h2 k hk,a2.sub fun k _ hk=>h1 k hk.1,a3⟩
section
variable {D:Nat→Prop} {L:List Nat} {N0 g n:Nat} {rows:List (List Int)} {ss:List (Option Addr × Nat × Nat)} {w w':World}
def Sums.ext (h:Sums w D L N0 g n rows ss) (k:Ext w w'):Sums w' D L N0 g n rows ss :=
 ⟨h.own.ext k,h.len,fun i s r a b=>(h.row i s r a b).ext k,h.mem,h.ne,h.gL,h.lo,fun j hj=>Nat.lt_of_lt_of_le (h.hi j hj) k.size⟩
def Sums.sub {D':Nat→Prop} (h:Sums w D L N0 g n rows ss) (hd:∀ k,k < w.heap.size→D k→D' k):Sums w D' L N0 g n rows ss :=
 ⟨h.own,h.len,fun i s r a b=>by
  obtain ⟨vs,a1,a2,a3⟩:=h.row i s r a b;exact ⟨vs,a1,a2.sub fun k hk hq=>⟨⟨hd k hk hq.1.1,hq.1.2⟩,hq.2⟩,a3⟩,h.mem,h.ne,h.gL,h.lo,h.hi⟩
def Sums.get (h:Sums w D L N0 g n rows ss) {i:Nat} {r:List Int} (hr:rows[i]?=some r) (hD:∀ k,N0≤k→D k):∃ A m c,ss[i]?=some (A,m,c)∧i < n∧w.cell? ⟨g,i,none⟩=some (.slice A m c)∧In (fSl 4 fV r) D (.slice A m c) w:=by
 have hlt:=(List.getElem?_eq_some_iff.1 hr).1;have hlen:=h.len;have hn:ss.length=n:=by have:=h.own.len; simpa using this
 obtain ⟨⟨A,m,c⟩,hs⟩:∃ s,ss[i]?=some s:=⟨_,List.getElem?_eq_getElem Oq⟩;obtain ⟨g',hg,_,hc,_⟩:=h.own.cell (j:=i) (by simp; omega);cases hg;refine ⟨A,m,c,hs,by omega,?_,qp5 (h.row i _ r hs hr) (fun k hk=>hk.1) hD⟩;rw [hc];obtain ⟨h1,h2⟩:=List.getElem?_eq_some_iff.1 hs;simp [h2,slv]
def qaq {i:Nat} {r:List Int} (hT:q2j w) (hS:Sums w D L N0 g n rows ss) (hr:rows[i]?=some r) (hl:r.length≤1000) (ho:∀ x ∈ r,q05 x) (hv:q05 (q0o r)) (hD0:∀ k,N0≤k→D k) (hf:Fr D w) :
  Calls Tryz.prog 61 #[.slice (some ⟨g,0,none⟩) n n,.int .i64 i] w (Rt (fV (q0o r)) D w):=by
 obtain ⟨A,m,c,_,hin,hcell,hrow⟩:=hS.get hr hD0;have hm:=hrow.sl_len;refine q1U Tryz.func61 rfl Tryz.ntmps61 (by kernel_rfl) ?_;refine q0P fun K hK=>?_;refine Zz ?_;refine qu4 ?_;intro g4 w4 hg4 hx4 hb4 hs4;refine hK _ _ ?_; clear hK K;have hx:Ext w w4:=hx4;replace hrow:=(hrow.nL (L:=[g4]) (by intro g hg; simp at hg; omega)).ext hx;have hD:Fr (Dl D [g4]) w4:=hf.nL hx (by intro g hg; simp at hg; omega);clear hx4;have hcell':w4.cell? ⟨g,i,none⟩=some (.slice A m c):=hx.cell (D:=fun _=>True) trivial hcell;have e1:(0:Int)≤i∧(i:Int) < n:=by omega
 refine q0P fun K hK=>?_;refine Zz2 e1 hcell' ?_;refine Cr ql7 (qtZ (hT.ext hx) hrow Oq ho hv hD) fun v5 w5 hx5 h5=>?_;replace hrow:=hrow.ext hx5;replace hb4:=hb4.ext hx5;replace hD:=hD.kp hx5;replace hx:=hx.trans hx5;clear hx5;refine qqn hb4 qrG rfl (fV_s h5) fun w90 hk90 hb90=>?_;refine hK _ _ ?_; clear hK;refine q48 ?_
 try simp only [q13,q5S]
 exact retS rfl Rf quk hb90 (fV_s h5) (Rt.fin hx h5 hk90 (by simp) Oq)
end
def qcT {α:Type} {G:α→Fam} {T sz B n c:Nat} {A:Option Addr} {w:World} {D D':Nat→Prop} {l:List α} (h:q3o G T sz w D B A n c l) (h1:∀ k,k < w.heap.size→D k→nb A k→D' k):q3o G T sz w D' B A n c l:=by
 obtain ⟨vs,a1,a2,a3⟩:=h;exact ⟨vs,a1,a2.sub fun k hk hd=>⟨h1 k hk hd.1 hd.2,hd.2⟩,a3⟩
section
variable {D:Nat→Prop} {L:List Nat} {N0 g n i:Nat} {rows:List (List Int)} {ss:List (Option Addr × Nat × Nat)} {w w2 w3:World} {A A':Option Addr} {m c m' c':Nat} {r r':List Int}
def q1T {α:Type} {l:List α} {i j:Nat} {x y:α} (hj:(l.set i x)[j]?=some y):(i=j∧y=x∧i < l.length)∨(i≠j∧l[j]?=some y):=by
 by_cases h:i=j
 ·subst h
  rcases Nat.lt_or_ge i l.length with h1 | h1
  ·rw [List.getElem?_set_self h1] at hj;exact .inl ⟨rfl,(Option.some.inj hj).symm,h1⟩
  ·rw [List.getElem?_eq_none (by simpa using h1)] at hj; cases hj
 ·rw [List.getElem?_set_ne h] at hj;exact .inr ⟨h,hj⟩
def Sums.push (h:Sums w D L N0 g n rows ss) (hs:ss[i]?=some (A,m,c)) (hO:q3o fV 74 4 w2 (Dl D L) N0 A' m' c' r') (hk:Kp (nb A) w w2) (hat:A'=A∨∃ g',w.heap.size≤g'∧A'=some ⟨g',0,none⟩)
  (ho:Own w3 N0 125 1 (some ⟨g,0,none⟩) n n ((ss.set i (A',m',c')).map slv)) (hk3:Kp (fun k=>k≠g) w2 w3) (hs3:w3.heap.size=w2.heap.size) :
  ∃ L',(∀ k ∈ L,k ∈ L')∧(∀ k ∈ L',k ∈ L∨w.heap.size≤k)∧Sums w3 D L' N0 g n (rows.set i r') (ss.set i (A',m',c')):=by
 have hgs:=h.hi g h.gL;have hgl:=h.lo g h.gL;have hsz:=hk.size;have hnA:∀ k,k ∉ L→nb A k:=fun k hk a ha he=>hk (by have:=(h.mem i _ a hs ha).1; rw [he] at this; exact this);have hother:∀ (j:Nat) (s:Option Addr × Nat × Nat) (q:List Int),i≠j→ss[j]?=some s→rows[j]?=some q→q3o fV 74 4 w3 (Dl D L) N0 s.1 s.2.1 s.2.2 q:=fun j s q hij hsj hq=>by
  refine ((h.row j s q hsj hq).kp hk (fun k hd=>hnA k hd.2) fun a ha b hb=>?_).kp hk3 (fun k hd e=>hd.2 (e ▸ h.gL)) fun a ha=>(h.mem j s a hsj ha).2;exact h.ne i j _ s b a hij hs hsj hb ha
 rcases hat with rfl | ⟨g',hg',rfl⟩
 ·refine ⟨L,fun k hk=>hk,fun k hk=>.inl hk,ho,by simpa using h.len,fun j s q hsj hq=>?_,fun j s a hsj ha=>?_,fun j k s t a b hjk hsj htk ha hb=>?_,h.gL,h.lo,fun k hk=>by have:=h.hi k hk; omega⟩
  ·rcases q1T hsj with ⟨rfl,rfl,hlt⟩ | ⟨hne,hsj⟩
   ·rcases q1T hq with ⟨_,rfl,_⟩ | ⟨hne,_⟩
    ·exact hO.kp hk3 (fun k hd e=>hd.2 (e ▸ h.gL)) fun a ha=>(h.mem i _ a hs ha).2
    ·exact absurd rfl hne
   ·rcases q1T hq with ⟨rfl,_,_⟩ | ⟨_,hq⟩
    ·exact absurd rfl hne
    ·exact hother j s q hne hsj hq
  ·rcases q1T hsj with ⟨rfl,rfl,hlt⟩ | ⟨hne,hsj⟩
   ·exact h.mem i _ a hs ha
   ·exact h.mem j s a hsj ha
  ·rcases q1T hsj with ⟨rfl,rfl,hlt⟩ | ⟨hne,hsj⟩ <;> rcases q1T htk with ⟨rfl,rfl,hlt2⟩ | ⟨hne2,htk⟩
   ·exact absurd rfl hjk
   ·exact h.ne i k _ t a b hjk hs htk ha hb
   ·exact h.ne j i s _ a b hjk hsj hs ha hb
   ·exact h.ne j k s t a b hjk hsj htk ha hb
 ·have hlt':=hO.blk_lt _ rfl;simp only at hlt';refine ⟨g' :: L,fun k hk=>List.mem_cons_of_mem _ hk,fun k hk=>?_,ho,by simpa using h.len,fun j s q hsj hq=>?_,fun j s a hsj ha=>?_,fun j k s t a b hjk hsj htk ha hb=>?_,List.mem_cons_of_mem _ h.gL,fun k hk=>?_,fun k hk=>?_⟩
  ·rcases List.mem_cons.1 hk with rfl | hk
   ·exact .inr hg'
   ·exact .inl hk
  ·rcases q1T hsj with ⟨rfl,rfl,hlt⟩ | ⟨hne,hsj⟩
   ·rcases q1T hq with ⟨_,rfl,_⟩ | ⟨hne,_⟩
    ·have h1:q3o fV 74 4 w3 (Dl D L) N0 (some ⟨g',0,none⟩) m' c' q:=hO.kp hk3 (fun k hd e=>hd.2 (e ▸ h.gL)) fun a ha=>by cases ha; simp only; omega
     refine qcT h1 fun k _ hd hn=>⟨hd.1,fun hm=>?_⟩
     rcases List.mem_cons.1 hm with e | hm
     ·exact hn _ rfl e.symm
     ·exact hd.2 hm
    ·exact absurd rfl hne
   ·rcases q1T hq with ⟨rfl,_,_⟩ | ⟨_,hq⟩
    ·exact absurd rfl hne
    ·have h1:q3o fV 74 4 w (Dl D (g' :: L)) N0 s.1 s.2.1 s.2.2 q:=qcT (h.row j s q hsj hq) fun k hk hd _=>⟨hd.1,fun hm=>by
      rcases List.mem_cons.1 hm with e | hm
      ·omega
      ·exact hd.2 hm⟩
     refine (h1.kp hk (fun k hd=>hnA k fun hm=>hd.2 (List.mem_cons_of_mem _ hm)) fun a ha b hb=>?_).kp hk3 (fun k hd e=>hd.2 (List.mem_cons_of_mem _ (e ▸ h.gL))) fun a ha=>(h.mem j s a hsj ha).2;exact h.ne i j _ s b a hne hs hsj hb ha
  ·rcases q1T hsj with ⟨rfl,rfl,hlt⟩ | ⟨hne,hsj⟩
   ·cases ha;exact ⟨List.mem_cons_self,by simp only; omega⟩
   ·obtain ⟨h1,h2⟩:=h.mem j s a hsj ha;exact ⟨List.mem_cons_of_mem _ h1,h2⟩
  ·rcases q1T hsj with ⟨rfl,rfl,hlt⟩ | ⟨hne,hsj⟩ <;> rcases q1T htk with ⟨rfl,rfl,hlt2⟩ | ⟨hne2,htk⟩
   ·exact absurd rfl hjk
   ·cases ha;have:=h.hi _ (h.mem k t b htk hb).1;simp only; omega
   ·cases hb;have:=h.hi _ (h.mem j s a hsj ha).1;simp only; omega
   ·exact h.ne j k s t a b hjk hsj htk ha hb
  ·rcases List.mem_cons.1 hk with rfl | hk
   ·omega
   ·exact h.lo k hk
  ·rcases List.mem_cons.1 hk with rfl | hk
   ·omega
   ·have:=h.hi k hk; omega
end
def appV {w:World} {ty B n c g2:Nat} {A:Option Addr} {D:Nat→Prop} {l:List Int} {V:Int} {v:Value} (hO:q3o fV 74 4 w D B A n c l) (hv:In (fV V) (fun k=>D k∧nb A k) v w) (hb2:Blk w g2 74 v.cells) (hn:n≤1000000000) (hb:B≤w.heap.size) {K:Value→World→Prop}
  (hK:∀ A' c' w',q3o fV 74 4 w' D B A' (n+1) c' (l ++ [V])→Kp (nb A) w w'→(A'=A∨∃ g,w.heap.size≤g∧A'=some ⟨g,0,none⟩)→K (.slice A' (n+1) c') w') :
  qji Tryz.prog #[125,125] ty [.slice A n c,.slice (some ⟨g2,0,none⟩) 1 1] w K:=by
 obtain ⟨vs,h1,h2,h3⟩:=hO;have hc:=(fV_s hv).cel;have hr:Row w (fun _=>True) 4 (some ⟨g2,0,none⟩) 1 1 v.cells.toList:=⟨Nat.le_refl _,by rw [Array.length_toList,hc.1],fun _=>⟨⟨g2,0,none⟩,rfl,trivial,fun j u hu=>by rw [q0e,Nat.zero_add,hb2.cell]; simpa using hu⟩⟩;refine qgm qgR rfl Oq h1 hr (fun u hu=>List.all_eq_true.1 hc.2 u hu) Oq hb fun A' c' w' ho hk hat=>?_;have hat':A'=A∨∃ g,w.heap.size≤g∧A'=some ⟨g,0,none⟩:=hat.imp id fun h=>⟨_,Nat.le_refl _,h⟩;refine hK A' c' w' ⟨vs ++ [v],by rw [qgD]; exact ho,?_,by simp [h3]⟩ hk hat';have hs:=h2.snoc hv hc;exact ⟨hs.len,fun i y hy=>by
  obtain ⟨u,a,b,c⟩:=hs.get i y hy;exact ⟨u,a,b.grew hk hat',c⟩⟩
section
variable {D:Nat→Prop} {L:List Nat} {N0 g n i:Nat} {rows:List (List Int)} {ss:List (Option Addr × Nat × Nat)} {w w2 w3:World} {r:List Int} {x y:Nat} {a b V:Int}
def q5r (hT:q2j w) (hS:Sums w D L N0 g n rows ss) (hr0:rows[i]?=some r) (hx0:x < 18446744073709551616) (hy0:y < 18446744073709551616) (hxa:ofF x=some a) (hyb:ofF y=some b) (hV:mkV (a*b) (-131072)=some V) (hl:r.length≤1000000) (hf:Fr D w) :
  Calls Tryz.prog 64 #[.slice (some ⟨g,0,none⟩) n n,.int .i64 i,.int .u64 x,.int .u64 y] w fun e w'=>e=.returned (.tuple #[])∧Kp (fun k=>k ∉ L) w w'∧∃ L' ss',(∀ k ∈ L,k ∈ L')∧(∀ k ∈ L',k ∈ L∨w.heap.size≤k)∧Sums w' D L' N0 g n (rows.set i (r ++ [-V])) ss':=by
 obtain ⟨A,m,c,hss,hin,hcell,hrow⟩:=(hS.sub (D':=fun _=>True) fun _ _ _=>trivial).get hr0 fun _ _=>trivial;have hm:=hrow.sl_len;have e1:(0:Int)≤i∧(i:Int) < n:=by omega
 have hOi:=hS.row i _ r hss hr0;have hD:Fr (Dl D L) w:=fun k hk=>⟨hf k hk,fun hm=>by have:=hS.hi k hm; omega⟩;obtain ⟨X,hX1,hX2,hX3⟩:∃ X:List Nat,(∀ k,k ∉ X→nb A k)∧(∀ k ∈ X,k ∈ L∧k≠g)∧(∀ k,nb A k→k ∉ X):=by
  cases A with
  | none=>exact ⟨[],fun k _ a ha=>(by cases ha),fun k hk=>(by simp at hk),fun k _=>(by simp)⟩
  | some ad =>
   refine ⟨[ad.block],fun k hk a ha=>(by cases ha; simp at hk; exact fun e=>hk e.symm),fun k hk=>?_,fun k hk=>?_⟩
   ·simp at hk; subst hk; exact hS.mem i _ ad hss rfl
   ·simp; exact fun e=>hk ad rfl e.symm
 have hg0:g ∉ X:=fun h=>(hX2 g h).2 rfl;refine q1U Tryz.func64 rfl Tryz.ntmps64 (by kernel_rfl) ?_;have hx:Ext w w:=Kp.refl _ _;refine quw q4G (Kp (fun k=>k ∉ X)) (fun _ _=>False) (Kp.pre _) [true,true,true,true,true,true,true,false,true,false,false,false,false,false,false,false] [false,false,false,false,false,false,false,false,false,false,false,false,false,false,false,false] [1,1,1,1,1,1,1,0,1,0,0,0,0,0,1,1] (by kernel_rfl) ?_
 apply Exists.intro
 refine ⟨fun wE hE KE hKE=>?_,fun wE hE KE hKE=>?_,fun wE hxE hr=>?_⟩
 ·have hcellE:=hE.cell (D:=fun k=>k ∉ X) (w':=wE) (by exact hg0) hcell;refine Zz2 e1 hcellE ?_;exact hKE
 ·exact hE.elim
 simp only [q82,q84,q83];have hcellE:=hxE.cell (D:=fun _=>True) trivial hcell;have hnA:∀ k,k ∉ L→nb A k:=fun k hk a ha he=>hk (by have:=(hS.mem i _ a hss ha).1; rw [he] at this; exact this);simp -implicitDefEqProofs (disch:=omega) only [go_sem,Nat.reduceEqDiff,Nat.reduceAdd,↓reduceIte,List.toList_toArray,e1,hcellE];refine q0h qdQ (qgK (hT.ext hxE) hx0 hxa (hD.kp hxE)) ?_;rintro _ w7 ⟨v7,rfl,hx7,h7⟩; refine ⟨_,rfl,⟨hr.trans (Kp.of_ext hx7),?_⟩⟩;have hy7:=hxE.trans hx7;refine q0h qdQ (qgK (hT.ext hy7) hy0 hyb (hD.kp hy7)) ?_;rintro _ w9 ⟨v9,rfl,hx9,h9⟩; refine ⟨_,rfl,⟨(hr.trans (Kp.of_ext hx7)).trans (Kp.of_ext hx9),?_⟩⟩;have hy9:=hy7.trans hx9;refine q0h ql4 (qt1 (hT.ext hy9) (h7.ext hx9) h9 hV (hD.kp hy9)) ?_;rintro _ w10 ⟨v10,rfl,hx10,h10⟩; refine ⟨_,rfl,⟨((hr.trans (Kp.of_ext hx7)).trans (Kp.of_ext hx9)).trans (Kp.of_ext hx10),?_⟩⟩;have hy10:=hy9.trans hx10;refine q0h ql5 (qt0 (hT.ext hy10) h10 (hD.kp hy10)) ?_;rintro _ w11 ⟨v11,rfl,hx11,h11⟩; refine ⟨_,rfl,⟨(((hr.trans (Kp.of_ext hx7)).trans (Kp.of_ext hx9)).trans (Kp.of_ext hx10)).trans (Kp.of_ext hx11),?_⟩⟩;have hy11:=hy10.trans hx11;obtain ⟨s0,A0,n0,c0,rfl,_⟩:=id h11;rw [qtu];refine qge fun w12 hx12 hb12 hs12=>⟨((((hr.trans (Kp.of_ext hx7)).trans (Kp.of_ext hx9)).trans (Kp.of_ext hx10)).trans (Kp.of_ext hx11)).trans (Kp.of_ext hx12),?_⟩;have hy12:=hy11.trans hx12;have hr12:=((((hr.trans (Kp.of_ext hx7)).trans (Kp.of_ext hx9)).trans (Kp.of_ext hx10)).trans (Kp.of_ext hx11)).trans (Kp.of_ext hx12);have hS12:=hS.ext hy12;have hO12:q3o fV 74 4 w12 (Dl D L) N0 A m c r:=hS12.row i _ r hss hr0;have h12:=h11.ext hx12;refine appV hO12 (h12.sub fun k _ hd=>⟨hd,hnA k hd.2⟩) hb12 Oq (by have:=hS.lo g hS.gL; have:=hS.hi g hS.gL; have:=hy12.size; omega) fun A' c' w13 hO13 hk13 hat=>⟨hr12.trans (hk13.mono fun k _ hk=>hX1 k hk),?_⟩;have hown:Own w13 N0 125 1 (some ⟨g,0,none⟩) n n (ss.map slv):=hS12.own.kp hk13 fun a ha b hb=>by
  cases ha;exact (hS.mem i _ b hss hb).2
 refine qbF hown hin qeO rfl rfl fun w14 hO14 hk14 hs14=>?_;have hO14':Own w14 N0 125 1 (some ⟨g,0,none⟩) n n ((ss.set i (A',m+1,c')).map slv):=by rw [List.map_set]; exact hO14
 obtain ⟨L',g1,g2,g3⟩:=hS12.push hss hO13 hk13 hat hO14' hk14 hs14;refine ret0n rfl ⟨rfl,?_,L',_,g1,fun k hk=>?_,g3⟩
 ·exact ((hy12.mono fun _ _ _=>trivial).trans (hk13.mono fun k _ hk=>hnA k hk)).trans (hk14.mono fun k _ hk e=>hk (e ▸ hS.gL))
 ·rcases g2 k hk with h | h
  ·exact .inl h
  ·exact .inr (Nat.le_trans hy12.size h)
end
def newRow {w1 w2:World} {D:Nat→Prop} {N0:Nat} {V:Int} {v:Value} (hb:Blk w2 w1.heap.size 74 v.cells) (hv:In (fV V) (fun k=>D k∧nb (some ⟨w1.heap.size,0,none⟩) k) v w2) (hN:N0≤w1.heap.size):q3o fV 74 4 w2 D N0 (some ⟨w1.heap.size,0,none⟩) 1 1 [V]:=by
 have hc:=(fV_s hv).cel;have h1:=Own.made (w:=w2) (w':=w1) (B:=N0) (sz:=4) (n:=1) (c:=1) hb (Nat.le_refl _) (by simp [maxLen]) (by rw [hc.1]) hN;refine ⟨[v],?_,by simpa using (Els.nil (G:=fV) (sz:=4)).snoc hv hc,rfl⟩;have:v.cells.toList.take (1*4)=q02 [v]:=by
  rw [List.take_of_length_le (by rw [Array.length_toList,hc.1]; omega)]; simp [q02]
 rw [← this]; exact h1
def q7Q (vals:List Int) (i n:Nat):List (List Int):=(vals.take i).map (fun V=>[V]) ++ List.replicate (n-i) []
def qee {vals:List Int} {i n:Nat} {V:Int} (hV:vals[i]?=some V) (hn:vals.length=n):(q7Q vals i n).set i [V]=q7Q vals (i+1) n:=by
 obtain ⟨hlt,he⟩:=List.getElem?_eq_some_iff.1 hV;unfold q7Q;rw [List.take_succ_eq_append_getElem hlt,he,List.map_append,show n-i=(n-(i+1))+1 by omega,List.replicate_succ,List.set_append_right _ _ (by simp; omega)];simp [Nat.min_eq_left (Nat.le_of_lt hlt)]
def qcL {D:Nat→Prop} {A:Option Addr} {n c:Nat} {l:List Nat} {vals:List Int} {w:World} (hT:q2j w) (h:In (fSc q2T l) D (.slice A n c) w) (hl:vals.length=l.length) (hn:n≤1000000) (hv:∀ (i x:Nat),l[i]?=some x→x < 18446744073709551616∧∃ V,vals[i]?=some V∧ofF x=some V) (hf:Fr D w) :
  Calls Tryz.prog 59 #[.slice A n c] w fun e w'=>e=.returned (.slice (some ⟨w.heap.size,0,none⟩) n n)∧Ext w w'∧∃ L ss,Sums w' D L w.heap.size w.heap.size n (vals.map fun V=>[V]) ss:=by
 have hln:=h.sc_len;refine q1U Tryz.func59 rfl Tryz.ntmps59 (by kernel_rfl) ?_;refine Wz ?_;refine q0P fun K hK=>?_;refine Zz ?_;refine q8a (Nat.le_refl _) Oq (by unfold maxLen; omega) fun w0 hx0 hO0 hs0=>?_;generalize hg:w.heap.size=g at hO0;refine hK _ _ ?_; clear hK;refine q0f fun K0 hK0=>?_;refine Wz ?_;have hS0:Sums w0 D [g] g g n (q7Q vals 0 n) (List.replicate n (none,0,0)):=by
  refine ⟨by simpa [slv] using hO0,by simp [q7Q],?_,?_,?_,by simp,?_,?_⟩
  ·intro i s r hs hr;rw [List.getElem?_replicate] at hs;simp only [q7Q,List.take_zero,List.map_nil,List.nil_append,List.getElem?_replicate] at hr
   split at hs
   ·split at hr
    ·cases hs;cases hr;exact q3o.nil
    ·cases hr
   ·cases hs
  ·intro i s a hs ha;rw [List.getElem?_replicate] at hs
   split at hs
   ·cases hs;cases ha
   ·cases hs
  ·intro i j s t a b _ hs _ ha _;rw [List.getElem?_replicate] at hs
   split at hs
   ·cases hs;cases ha
   ·cases hs
  ·intro k hk;simp at hk;omega
  ·intro k hk;simp at hk;omega
 refine q3n ?_;refine q9S (fun e2 w'=>∃ (i:Nat) (L:List Nat) (ss:List (Option Addr × Nat × Nat)),e2 11=.int .i64 i∧i≤n∧Ext w w'∧Sums w' D L g g n (q7Q vals i n) ss∧∀ j,i≤j→j < n→ss[j]?=some (none,0,0)) (fun e2 _=>n-(RowKit.intOf (e2 11)).toNat) ⟨0,_,_,rfl,Nat.zero_le _,hx0,hS0,fun j _ hj=>by rw [List.getElem?_replicate,if_pos hj]⟩ ?_;rintro e1 w1 ⟨i,L,ss,k11,hi,hx,hS,hss⟩ hkk;have k3:e1 3=.slice (some ⟨g,0,none⟩) n n:=(hkk 3 (by kernel_rfl)).trans Ue;have k9:e1 9=.slice A n c:=(hkk 9 (by kernel_rfl)).trans Ue;have k10:e1 10=.int .i64 n:=(hkk 10 (by kernel_rfl)).trans Ue;clear hkk
 by_cases hlt:i < n
 ·have hlt':(i:Int) < n:=by omega
  refine Wz3 k11 k10 hlt' ?_;refine q0f fun K1 hK1=>?_;refine Wt (q2f (hK1 _ _ ?_));clear hK1;refine q3G fun K hK=>?_;obtain ⟨x,hxi⟩:∃ x,l[i]?=some x:=⟨_,List.getElem?_eq_getElem Oq⟩;obtain ⟨hx1,V,hV1,hV2⟩:=hv i x hxi;obtain ⟨ad,rfl,i1,x1⟩:=(h.ext hx).ixU hxi;have hD:Fr (Dl D L) w1:=fun k hk=>⟨hf k (Nat.le_trans hx.size hk),fun hm=>by have:=hS.hi k hm; omega⟩;refine Wz4 k9 k11 i1 x1 ?_;refine q5D fun K9 hK9=>?_;refine Zz2 k3 i1 ?_;refine Cr qdQ (qgK (hT.ext hx) hx1 hV2 hD) fun v5 w5 hx5 h5=>?_;obtain ⟨s0,A0,n0,c0,rfl,_⟩:=id h5;simp -implicitDefEqProofs (disch:=omega) only [go_sem,Nat.reduceEqDiff,Nat.reduceAdd,↓reduceIte,qtu];refine qge fun w6 hx6 hb6 hs6=>?_;have hS5:=hS.ext hx5;have hg5:=hS5.hi g hS5.gL;have hOn:=newRow hb6 ((h5.sub (D':=fun k=>Dl D L k∧nb (some ⟨w5.heap.size,0,none⟩) k) fun k hk hd=>⟨hd,fun a ha e=>by cases ha; simp only at e; omega⟩).ext hx6) (Nat.le_of_lt hg5);have hsi:=hss i (Nat.le_refl _) hlt;refine qbF (hS5.ext hx6).own hlt qeO rfl rfl fun w7 hO7 hk7 hs7=>?_;refine hK9 _ _ ?_; clear hK9;have hO7':Own w7 g 125 1 (some ⟨g,0,none⟩) n n ((ss.set i (some ⟨w5.heap.size,0,none⟩,1,1)).map slv):=by rw [List.map_set]; exact hO7
  obtain ⟨L',g1,g2,g3⟩:=hS5.push hsi hOn (Kp.of_ext hx6) (.inr ⟨_,Nat.le_refl _,rfl⟩) hO7' hk7 hs7;rw [qee hV1 (by omega)] at g3;refine hK _ _ ?_; clear hK;refine q5D fun K9 hK9=>?_;refine Zz2 k11 @i64_in ?_;refine hK9 _ _ ?_; clear hK9 K9;refine ⟨⟨i+1,L',_,rfl,by omega,((hx.trans hx5).trans hx6).under hk7 fun k hk=>by omega,g3,fun j hj1 hj2=>?_⟩,by simp only [q1R,↓reduceIte,RowKit.intOf,k11]; omega⟩;rw [List.getElem?_set_ne (by omega)]; exact hss j Oq hj2
 ·have hlt':¬ (i:Int) < n:=by omega
  refine Wz3 k11 k10 hlt' ?_;refine q0f fun K1 hK1=>?_;refine Wf (q6r (hK0 _ _ ?_));obtain rfl:i=n:=by omega
  have hr:q7Q vals i i=vals.map fun V=>[V]:=by
   unfold q7Q; rw [List.take_of_length_le Oq,Nat.sub_self]; simp
  rw [hr] at hS;refine Wz1 k3 ?_;refine q48 ?_
  try simp only [q13,q5S]
  refine qmf rfl ⟨by simp only [q1R,Nat.reduceEqDiff,↓reduceIte,hg],hx,L,ss,by rw [hg]; exact hS⟩
end Go.Proofs.YtbcmhlhgljoolaaGreatDoor
namespace Go.Sp
open Go Go.E
def q4z (raw:List Nat):Nat→List Int
 | 0=>[]
 | i+1=>(q4z raw i).take (q07 ((q5G raw (700+i) / 2:Nat):Int) (i+1)) ++ [(i:Int)] ++ (q4z raw i).drop (q07 ((q5G raw (700+i) / 2:Nat):Int) (i+1))
def q6B (raw:List Nat):∀ n,(q4z raw n).length=n
 | 0=>rfl
 | n+1=>by
  have ih:=q6B raw n;have:=q72 (a:=((q5G raw (700+n) / 2:Nat):Int)) (n:=n+1) Oq;unfold q4z;simp only [List.length_append,List.length_take,List.length_drop,List.length_singleton,ih];omega
def q7Z (raw:List Nat):∀ n (x:Int),x ∈ q4z raw n→0≤x∧x < n
 | 0,x,h=>by simp [q4z] at h
 | n+1,x,h=>by
  unfold q4z at h;rw [List.mem_append,List.mem_append] at h
  rcases h with (h | h) | h
  ·have:=q7Z raw n x (List.mem_of_mem_take h); omega
  ·simp at h; omega
  ·have:=q7Z raw n x (List.mem_of_mem_drop h); omega
def q87 (raw:List Nat):∀ n,(q4z raw n).Nodup
 | 0=>by simp [q4z]
 | n+1=>by
  have ih:=q87 raw n;unfold q4z;generalize q07 _ _=p;have hp:((q4z raw n).take p ++ [(n:Int)] ++ (q4z raw n).drop p).Perm ((n:Int) :: q4z raw n):=by
   rw [List.append_assoc];have h1:((q4z raw n).take p ++ (n:Int) :: (q4z raw n).drop p).Perm ((n:Int) :: ((q4z raw n).take p ++ (q4z raw n).drop p)):=List.perm_middle;rw [List.take_append_drop] at h1;exact h1
  rw [hp.nodup_iff,List.nodup_cons];exact ⟨fun h=>by have:=q7Z raw n _ h; omega,ih⟩
end Go.Sp
namespace Go.Proofs.YtbcmhlhgljoolaaGreatDoor
open Go.Sp
def qiI (raw:List Nat) (n:Nat):qlA (q4z raw n):=⟨fun x hx=>by rw [q6B]; exact q7Z raw n x hx,q87 raw n⟩
end Go.Proofs.YtbcmhlhgljoolaaGreatDoor
namespace Go.Sp
open Go Go.E
def ofZ (x:Nat):Int:=(ofF x).getD 0
def q1M (x y:Nat):Int:=(mkV (ofZ x*ofZ y) (-131072)).getD 0
def q58 {f:Nat} (hf:q0J f):∃ (m:Int) (k:Nat),ofF f=some (m*(2:Int) ^ k)∧bl m.natAbs≤53∧64462≤k∧k≤66507:=by
 unfold q0J at hf;have hx:=Nat.mod_lt (f / 4503599627370496) (show 0 < 2048 by omega);have hm:=Nat.mod_lt f (show 0 < 4503599627370496 by omega);unfold ofF;rw [if_neg hf];generalize f / 4503599627370496 % 2048=x at *;generalize f % 4503599627370496=m at *;have h53:∀ n:Nat,n < 9007199254740992→bl n≤53:=fun n h=>q0M (Nat.lt_of_lt_of_le h (Nat.le_refl _))
 split
 ·exact ⟨_,64462,rfl,by rw [q1f]; exact h53 _ Oq,by omega,by omega⟩
 ·exact ⟨_,64461+x,rfl,by rw [q1f]; exact h53 _ Oq,by omega,by omega⟩
def q0j {f:Nat} {V:Int} (h:ofF f=some V):ofZ f=V:=by unfold ofZ; rw [h]; rfl
def q0Q {f:Nat} (hf:q0J f):ofF f=some (ofZ f):=by
 obtain ⟨m,k,h,_⟩:=q58 hf;rw [q0j h,h]
def q4F {f:Nat} (hf:q0J f):bl (ofZ f).natAbs≤67600:=by
 obtain ⟨m,k,h,h1,h2,h3⟩:=q58 hf;rw [q0j h]
 by_cases hm:m=0
 ·subst hm; rw [Int.zero_mul]; simp [q1V]
 ·rw [q0K,q1O (by omega)]; omega
def q04 {x y:Nat} (hx:q0J x) (hy:q0J y):mkV (ofZ x*ofZ y) (-131072)=some (q1M x y)∧bl (q1M x y).natAbs≤67600:=by
 obtain ⟨m,k,h,h1,h2,h3⟩:=q58 hx;obtain ⟨m',k',h',h1',h2',h3'⟩:=q58 hy;have e:ofZ x*ofZ y=m*m'*(2:Int) ^ (k+k'):=by
  rw [q0j h,q0j h',Int.pow_add];simp only [Int.mul_assoc,Int.mul_left_comm,Int.mul_comm]
 unfold q1M;rw [e,q2z]
 by_cases hM:m*m'=0
 ·rw [hM,q1s]; exact ⟨rfl,by simp [q1V]⟩
 ·have hb:bl (m*m').natAbs≤106:=by
   rw [Int.natAbs_mul];exact Nat.le_trans (q44 _ _) Oq
  generalize m*m'=M at *;have ht:=qh5 (n:=M.natAbs) Oq;unfold mkV;rw [if_neg hM,if_pos (by omega)];refine ⟨rfl,?_⟩;have ho:=qa5 hM;have hne:=q3W hM;rw [Option.getD_some,q0K,q1O (by omega)];omega
end Go.Sp
namespace Go.Proofs.YtbcmhlhgljoolaaGreatDoor
open Go Go.E Go.Sp
def qeG (f:Fac) (q:Nat):Nat→Nat→List (List Int)→List (List Int)
 | _,0,rows=>rows
 | p,c+1,rows=>qeG f q (p+1) c (rows.set (f.ri.getD p 0).toNat (rows.getD (f.ri.getD p 0).toNat [] ++ [-(q1M (f.vs.getD p 0) q)]))
def qhL (f:Fac):List Int→List (List Int)→List Nat→Option (List Nat)
 | [],_,ys=>some ys
 | k :: ks,rows,ys =>
  if q0J (fQ 0 (q0o (rows.getD k.toNat [])) (ofZ (f.vs.getD (f.cp.getD k.toNat 0).toNat 0))) then
   qhL f ks (qeG f (fQ 0 (q0o (rows.getD k.toNat [])) (ofZ (f.vs.getD (f.cp.getD k.toNat 0).toNat 0))) ((f.cp.getD k.toNat 0).toNat+1) ((f.cp.getD (k.toNat+1) 0).toNat-((f.cp.getD k.toNat 0).toNat+1)) rows) (ys.set k.toNat (fQ 0 (q0o (rows.getD k.toNat [])) (ofZ (f.vs.getD (f.cp.getD k.toNat 0).toNat 0))))
  else none
def getD_some {α:Type} {l:List α} {i:Nat} {x d:α} (h:l[i]?=some x):l.getD i d=x:=by rw [List.getD_eq_getElem?_getD,h]; rfl
def q8p {f:Fac} {k a b x:Nat} {ks:List Int} {rows:List (List Int)} {ys:List Nat} {r:List Int} (ha:f.cp[k]?=some (a:Int)) (hb:f.cp[k+1]?=some (b:Int)) (hx:f.vs[a]?=some x) (hr:rows[k]?=some r) :
  qhL f ((k:Int) :: ks) rows ys=if q0J (fQ 0 (q0o r) (ofZ x)) then qhL f ks (qeG f (fQ 0 (q0o r) (ofZ x)) (a+1) (b-(a+1)) rows) (ys.set k (fQ 0 (q0o r) (ofZ x))) else none:=by
 rw [qhL,show ((k:Int)).toNat=k by omega,getD_some ha,getD_some hb,getD_some hr,show ((a:Int)).toNat=a by omega,show ((b:Int)).toNat=b by omega,getD_some hx]
def q8X {f:Fac} {q p c i x:Nat} {rows:List (List Int)} {r:List Int} (hi:f.ri[p]?=some (i:Int)) (hx:f.vs[p]?=some x) (hr:rows[i]?=some r) :
  qeG f q p (c+1) rows=qeG f q (p+1) c (rows.set i (r ++ [-(q1M x q)])):=by
 show qeG f q (p+1) c _=_
 rw [getD_some hi,show ((i:Int)).toNat=i by omega,getD_some hx,getD_some hr]
def qbD {f:Fac} {q:Nat}:∀ (c p:Nat) (rows:List (List Int)),(qeG f q p c rows).length=rows.length
 | 0,_,_=>rfl
 | c+1,p,rows=>by
  show (qeG f q (p+1) c _).length=_
  rw [qbD]; simp
def Col.mono {f:Fac} {j a b:Nat} (h:Col f j a b):∀ (d p:Nat) (y z:Int),a≤p→p+d < b→f.ri[p]?=some y→f.ri[p+d]?=some z→(if d=0 then y=z else y < z)
 | 0,p,y,z,_,_,h1,h2=>by
  rw [if_pos rfl];rw [Nat.add_zero,h1] at h2; exact Option.some.inj h2
 | d+1,p,y,z,ha,hb,h1,h2=>by
  rw [if_neg (by omega)];obtain ⟨u,v,hu,hv,huv⟩:=h.inc (p+(d+1)) Oq hb;rw [h2] at hv;obtain rfl:=Option.some.inj hv;have:=h.mono d p y u ha Oq h1 (by rw [show p+d=p+(d+1)-1 by omega]; exact hu)
  split at this <;> omega
def Col.row {f:Fac} {j a b p:Nat} (h:Col f j a b) (hn:f.pm.length≤200) (h1:a < p) (h2:p < b):∃ i:Nat,f.ri[p]?=some (i:Int)∧j < i∧i < f.pm.length:=by
 have hle:=h.le;obtain ⟨z,hz⟩:∃ z,f.ri[p]?=some z:=⟨_,List.getElem?_eq_getElem Oq⟩;have m1:=h.mono (p-a) a j z (Nat.le_refl _) Oq h.first (by rw [show a+(p-a)=p by omega]; exact hz)
 rw [if_neg (by omega)] at m1;obtain ⟨l,hl,hlt⟩:=h.last;have m2:=h.mono (b-1-p) p z l Oq Oq hz (by rw [show p+(b-1-p)=b-1 by omega]; exact hl);have:z≤l:=by split at m2 <;> omega
 refine ⟨z.toNat,?_,by omega,by omega⟩;rw [hz]; congr 1; omega
def q2S (f:Fac) (x:Int):Nat→Nat→Nat
 | _,0=>0
 | a,k+1=>if f.ri[a]?=some x then f.vs.getD a 0 else q2S f x (a+1) k
def q7d {l:List Nat} {i:Nat} (h:∀ x ∈ l,x < 18446744073709551616∧q0J x):l.getD i 0 < 18446744073709551616∧q0J (l.getD i 0):=by
 rw [List.getD_eq_getElem?_getD];cases hx:l[i]? with
 | none=>exact ⟨by simp,by unfold q0J; simp⟩
 | some x=>exact h x (List.mem_of_getElem? hx)
def q2u {x:Nat} {V:Int} (hx:x < 18446744073709551616) (hv:ofF x=some V):ACt 38 [uv x] (pV V):=by
 obtain ⟨V',hv',hmk⟩:=q70 (f:=x) fun h=>by unfold ofF at hv; rw [if_pos h] at hv; cases hv
 rw [hv] at hv'; cases hv';exact qew (q3F (qsB hx hv)) (q31 hmk).2.2.2
def clI {l:List Int}:ClL (l.map fun z=>iv z):=fun x hx=>by
 obtain ⟨e,_,rfl⟩:=List.mem_map.1 hx
 trivial
def qrF {id m n:Nat} (h:m≤n):slP (some 1) none (some (iv (m:Int))) (.ow id none 0 n)=some (.ow id none 0 m):=by
 simp [slP,q8J,ksz];omega
def qrE {id m n:Nat} (h:m≤n):slP (some 1) (some (iv (m:Int))) none (.ow id none 0 n)=some (.ow id none m (n-m)):=by
 simp [slP,q8J,ksz];omega
def qiH {raw:List Nat} {N:Nat} (hr:raw.length≤9223372036854775807) (hN:N≤1000000):ACt 32 [pF raw,iv N] (pI (q4z raw N)):=by
 have hol:=q6B raw;refine ac0 Tryz.func32 Tryz.ntmps32 [.tmp 4] ?_;refine wk ?_;refine q0A (fun i=>i≤N) [0,1] [] Lk Lk (fun i:Nat=>[(6,iv i),(5,.ow 1001 none 0 i)]) (fun i=>[(1001,⟨3,none,(q4z raw i).map fun z=>iv z,false⟩)]) (fun i=>N-i) 0 (Nat.zero_le _) ?_ ?_
 ·refine LeM [(1001,some 8)] rfl rfl ?_;refine Zz ?_;exact ⟨rfl,rfl⟩
 ·intro i hi
  by_cases hlt:i < N
  ·have C1:=q92 (raw:=raw) (k:=700+(i:Int)) hr Oq Oq;have C2:=q30 (a:=((q5G raw (700+(i:Int)) / 2:Nat):Int)) (n:=i+1) Oq (by have:=q35 raw (700+(i:Int)); omega) Oq Oq;have e2':IntKind.i64.wrap ((i:Int)+1)=((i+1:Nat):Int):=by rw [i64_in (by omega) (by omega)]; omega
   have e3':IntKind.i64.wrap ((q5G raw (700+i) / 2:Nat):Int)=((q5G raw (700+i) / 2:Nat):Int):=i64_in Oq (by have:=q35 raw (700+(i:Int)); omega);have hs:q4z raw (i+1)=(q4z raw i).take (q07 ((q5G raw (700+i) / 2:Nat):Int) (i+1)) ++ [(i:Int)] ++ (q4z raw i).drop (q07 ((q5G raw (700+i) / 2:Nat):Int) (i+1)):=rfl;have hlt2:=q72 (a:=((q5G raw (700+i) / 2:Nat):Int)) (n:=i+1) Oq;have hl:=hol i;generalize q07 ((q5G raw (700+i) / 2:Nat):Int) (i+1)=m at *;generalize q4z raw i=L at *;have f1:slP (some 1) none (some (iv (m:Int))) (.ow 1001 none 0 i)=some (.ow 1001 none 0 m):=qrF Oq;have f2:slP (some 1) (some (iv (m:Int))) none (.ow 1001 none 0 i)=some (.ow 1001 none m (i-m)):=qrE Oq;have f3:(List.take m (List.map (fun z=>iv z) L)).length=m:=by
    rw [List.length_take,List.length_map];omega
   have f4:(List.drop m (List.map (fun z=>iv z) L)).length=i-m:=by rw [List.length_drop,List.length_map,hl]
   have f5:List.take (i-m) (List.drop m (List.map (fun z=>iv z) L))=List.drop m (List.map (fun z=>iv z) L):=List.take_of_length_le Oq;refine wk1 (x6 e2' e3' hl f1 f2 (x3 f3 f4 f5)) ?_;refine ⟨i+1,by omega,by omega,?_⟩;rw [hs];have f6:(List.take m (List.map (fun z=>iv z) L) ++ [iv (i:Int)] ++ List.drop m (List.map (fun z=>iv z) L))=(List.take m L ++ [(i:Int)] ++ List.drop m L).map fun z=>iv z:=by simp
   refine LeM [(1001,some 34)] rfl rfl ?_;refine Zz ?_;rw [f6];exact ⟨by omega,q0Y rfl clI⟩
  ·obtain rfl:i=N:=by omega
   exact wk1 (hol i) trivial
end Go.Proofs.YtbcmhlhgljoolaaGreatDoor
namespace Go.Sp
open Go Go.E
def q29 {a:Nat} (ha:a < 18446744073709551616):q0n .andNot .u64 (a:Int) 9223372036854775808=((a % 9223372036854775808:Nat):Int):=by
 have h2:(BitVec.ofInt 64 (a:Int) &&& ~~~(BitVec.ofInt 64 9223372036854775808)).toNat=a % 9223372036854775808:=by
  rw [show ~~~(BitVec.ofInt 64 9223372036854775808)=BitVec.ofNat 64 9223372036854775807 from rfl,q33,BitVec.toNat_and,BitVec.toNat_ofNat,BitVec.toNat_ofNat,Nat.mod_eq_of_lt ha];exact Nat.and_two_pow_sub_one_eq_mod a 63
 show IntKind.u64.wrap ((BitVec.ofInt 64 (a:Int) &&& ~~~(BitVec.ofInt 64 9223372036854775808)).toNat:Int)=_
 rw [h2,q0r];omega
def qhV {a:Nat} (ha:a < 18446744073709551616):q0n .xor .u64 (a:Int) 9223372036854775808=((if a < 9223372036854775808 then a+9223372036854775808 else a-9223372036854775808:Nat):Int):=by
 have h2:(BitVec.ofInt 64 (a:Int) ^^^ BitVec.ofInt 64 9223372036854775808).toNat=if a < 9223372036854775808 then a+9223372036854775808 else a-9223372036854775808:=by
  rw [show BitVec.ofInt 64 9223372036854775808=BitVec.ofNat 64 (2 ^ 63) from rfl,q33,BitVec.toNat_xor,BitVec.toNat_ofNat,BitVec.toNat_ofNat,Nat.mod_eq_of_lt ha];have h3:a ^^^ 2 ^ 63=(a % 2 ^ 63)+(if a < 2 ^ 63 then 2 ^ 63 else 0):=by
   apply Nat.eq_of_testBit_eq
   intro i;have hm:a % 2 ^ 63 < 2 ^ 63:=Nat.mod_lt _ (by decide);rw [Nat.testBit_xor,Nat.testBit_two_pow];have e:a.testBit 63=decide (2 ^ 63≤a):=by
    rw [Nat.testBit_eq_decide_div_mod_eq]
    congr 1
    rw [eq_iff_iff];omega
   by_cases hlt:a < 2 ^ 63
   ·rw [if_pos hlt,Nat.mod_eq_of_lt hlt,Nat.add_comm];rw [show (2:Nat) ^ 63+a=2 ^ 63*1+a by omega,Nat.testBit_two_pow_mul_add 1 hlt]
    by_cases hi:i < 63
    ·rw [if_pos hi]; simp [Nat.ne_of_gt hi]
    ·rw [if_neg hi,Nat.testBit_lt_two_pow (Nat.lt_of_lt_of_le hlt (Nat.pow_le_pow_right (by omega) (by omega))),Bool.false_xor]
     by_cases h63:i=63
     ·subst h63; simp
     ·obtain ⟨k,hk⟩:∃ k,i-63=k+1:=⟨i-64,by omega⟩;rw [hk,Nat.testBit_succ]; simp; omega
   ·rw [if_neg hlt,Nat.add_zero,Nat.testBit_mod_two_pow]
    by_cases hi:i < 63
    ·simp [hi,Nat.ne_of_gt hi]
    ·by_cases h63:i=63
     ·subst h63; rw [e]; simp; omega
     ·rw [Nat.testBit_lt_two_pow (Nat.lt_of_lt_of_le (show a < 2 ^ 64 by omega) (Nat.pow_le_pow_right (by omega) (by omega)))];simp [hi]; omega
  rw [h3]
  split <;> omega
 show IntKind.u64.wrap ((BitVec.ofInt 64 (a:Int) ^^^ BitVec.ofInt 64 9223372036854775808).toNat:Int)=_
 rw [h2,q0r]
 split <;> omega
def q5V (f:Nat):Nat:=f % 9223372036854775808
def q5P (f:Nat):Nat:=if f < 9223372036854775808 then f+9223372036854775808 else f-9223372036854775808
def q6Y (f:Nat):Int:=if 9223372036854775808≤f then -(q5V f:Int) else q5V f
def qj7 (a b:Int):Int:=if a < b then -1 else if b < a then 1 else 0
def q3m {f:Nat}:q5V f < 9223372036854775808:=Nat.mod_lt _ Oq
def q7x {f:Nat} (h:q0J f):q0J (q5V f):=by unfold q0J q5V at *; omega
def q5b {f:Nat} (h:q0J f):q3e f≠3:=by unfold q0J at h; unfold q3e; rw [if_neg fun q=>h q.1,if_neg h]; split <;> omega
def qfY {f:Nat} (hf:f < 18446744073709551616):q3e f=0 ↔ q5V f=0:=by
 unfold q3e q5V
 constructor
 ·intro h
  split at h
  ·cases h
  ·split at h
   ·cases h
   ·split at h
    ·omega
    ·cases h
 ·intro h;rw [if_neg (by omega),if_neg (by omega),if_pos (by omega)]
end Go.Sp
namespace Go.Proofs.YtbcmhlhgljoolaaGreatDoor
open Go Go.E Go.Sp
section
variable {f g:Nat}
def q7i (hf:f < 18446744073709551616):ACt 79 [uv f] (iv (q3e f:Nat)):=by
 have C1:=@q6M f hf;unfold q3e;generalize f / 4503599627370496 % 2048=x at *;generalize f % 4503599627370496=m at *;refine ac0 Tryz.func79 Tryz.ntmps79 [.tmp 2] ?_
 by_cases hx2:x=2047
 ·by_cases hm0:m=0
  ·rw [if_neg (by simp [hm0]),if_pos hx2];exact wk1 (show ((2:Nat):Int)=2 from rfl) trivial
  ·rw [if_pos ⟨hx2,hm0⟩];exact wk1 (show ((3:Nat):Int)=3 from rfl) trivial
 ·rw [if_neg fun h=>hx2 h.1,if_neg hx2]
  by_cases hx0:x=0
  ·by_cases hm0:m=0
   ·rw [if_pos ⟨hx0,hm0⟩];exact wk1 (show ((0:Nat):Int)=0 from rfl) trivial
   ·rw [if_neg fun h=>hm0 h.2];exact wk1 (show ((1:Nat):Int)=1 from rfl) trivial
  ·rw [if_neg fun h=>hx0 h.1];exact wk1 (show ((1:Nat):Int)=1 from rfl) trivial
def qgM {l:List Nat} (hl:q0c l) (hn:l.length≤1000):ACt 201 [pF l] (bv false):=by
 refine ac0 Tryz.func201 Tryz.ntmps201 [.tmp 2] ?_;refine wk ?_;refine q0A (fun i=>i≤l.length) [5,6] [] Lk Lk (fun i:Nat=>[(7,iv i)]) (fun _=>[]) (fun i=>l.length-i) 0 (Nat.zero_le _) ?_ ?_
 ·refine LeM [] rfl rfl ?_;refine Zz ?_
  rfl
 ·intro i hi
  by_cases hlt:i < l.length
  ·obtain ⟨x,hx⟩:∃ x,l[i]?=some x:=⟨_,List.getElem?_eq_getElem hlt⟩;obtain ⟨h1,h2⟩:=hl x (List.mem_of_getElem? hx);have C1:=q7i h1;have q:(((q3e x:Nat):Int) == 3)=false:=by
    have:=q5b h2;simp; omega
   refine wk1 (x2 hx q) ?_;refine ⟨i+1,by omega,by omega,?_⟩;refine LeM [] rfl rfl ?_;refine Zz ?_;omega
  ·exact wk trivial
def q8x (hf:f < 18446744073709551616):ACt 202 [uv f] (iv (q6Y f)):=by
 have C1:=@qgL f hf;have h1:=q29 hf;have h2:=q3m (f:=f);unfold q6Y;rw [show f % 9223372036854775808=q5V f from rfl] at h1;refine ac0 Tryz.func202 Tryz.ntmps202 [.tmp 2] ?_
 by_cases h:9223372036854775808≤f
 ·rw [if_pos h];rw [decide_eq_true h] at C1;exact wk1 (x2 h1 @Int.zero_sub) trivial
 ·rw [if_neg h];rw [decide_eq_false h] at C1;exact wk1 h1 trivial
def qoD (hf:f < 18446744073709551616) (h:q0J f):ACt 140 [uv f] (uv (q5V f:Nat)):=by
 have C1:ACt 201 [.sl none [uv f]] (bv false):=qgM (l:=[f]) (fun x hx=>by simp at hx; subst hx; exact ⟨hf,h⟩) (by simp);have N1:Nz (bv false):=qsE;have h1:=q29 hf;rw [show f % 9223372036854775808=q5V f from rfl] at h1;refine ac0 Tryz.func140 Tryz.ntmps140 [.tmp 2] ?_;exact wk1 h1 trivial
def qoC (hf:f < 18446744073709551616) (h:q0J f) (hg:g < 18446744073709551616) (hgf:q0J g):ACt 139 [uv f,uv g] (.tu [iv (qj7 (q6Y f) (q6Y g)),bv true]):=by
 have C1:ACt 201 [.sl none [uv f,uv g]] (bv false):=qgM (l:=[f,g]) (fun x hx=>by simp at hx; rcases hx with rfl | rfl <;> exact ⟨by assumption,by assumption⟩) (by simp);have N1:Nz (bv false):=qsE;have C2:=q8x hf;have C3:=q8x hg;unfold qj7;generalize q6Y f=x at *;generalize q6Y g=y at *;refine ac0 Tryz.func139 Tryz.ntmps139 [.tmp 4,.tmp 5] ?_
 by_cases h1:x < y
 ·rw [if_pos h1];exact wk trivial
 ·rw [if_neg h1]
  by_cases h2:y < x
  ·rw [if_pos h2];exact wk trivial
  ·rw [if_neg h2];exact wk trivial
def qep (hf:f < 18446744073709551616):ACt 104 [uv f] (bv (decide (9223372036854775808≤f))):=by
 have h2:=qaA hf;refine ac0 Tryz.func104 Tryz.ntmps104 [.tmp 2] ?_;exact wk1 h2 trivial
def q54 (hf:f < 18446744073709551616) (h:q0J f):ACt 97 [uv f] (bv false):=by
 have:=qmn hf
 rwa [decide_eq_false (q5b h)] at this
def qer (hf:f < 18446744073709551616):ACt 204 [uv f] (iv (q6Y f)):=by
 have C1:=qep hf;have h1:=q29 hf;have h2:=q3m (f:=f);unfold q6Y;rw [show f % 9223372036854775808=q5V f from rfl] at h1;refine ac0 Tryz.func204 Tryz.ntmps204 [.tmp 2] ?_
 by_cases h:9223372036854775808≤f
 ·rw [if_pos h];rw [decide_eq_true h] at C1;exact wk1 (x2 h1 @Int.zero_sub) trivial
 ·rw [if_neg h];rw [decide_eq_false h] at C1;rw [show q5V f=f from Nat.mod_eq_of_lt (by omega)];exact wk trivial
def qmu (hf:f < 18446744073709551616) (h:q0J f):ACt 145 [uv f] (uv (q5V f:Nat)):=by
 have C1:=q54 hf h;have h1:=q29 hf;rw [show f % 9223372036854775808=q5V f from rfl] at h1;refine ac0 Tryz.func145 Tryz.ntmps145 [.tmp 2] ?_;exact wk1 h1 trivial
def qmm (hf:f < 18446744073709551616) (h:q0J f):ACt 90 [uv f] (uv (q5P f:Nat)):=by
 have C1:=q54 hf h;have h1:=qhV hf;rw [show (if f < 9223372036854775808 then f+9223372036854775808 else f-9223372036854775808)=q5P f from rfl] at h1;refine ac0 Tryz.func90 Tryz.ntmps90 [.tmp 2] ?_;exact wk1 h1 trivial
def qmt (hf:f < 18446744073709551616) (h:q0J f) (hg:g < 18446744073709551616) (hgf:q0J g):ACt 144 [uv f,uv g] (.tu [iv (qj7 (q6Y f) (q6Y g)),bv true]):=by
 have C1:=q54 hf h;have C4:=q54 hg hgf;have C2:=qer hf;have C3:=qer hg;unfold qj7;generalize q6Y f=x at *;generalize q6Y g=y at *;refine ac0 Tryz.func144 Tryz.ntmps144 [.tmp 4,.tmp 5] ?_
 by_cases h1:x < y
 ·rw [if_pos h1];exact wk trivial
 ·rw [if_neg h1]
  by_cases h2:y < x
  ·rw [if_pos h2];exact wk trivial
  ·rw [if_neg h2];exact wk trivial
end
def q9f {a:Int} (ha:bl a.natAbs≤20000000):ACt 151 [bT a] (bT a.natAbs):=q3F (q7Y ha)
def qmT {a:Int} (ha:bl a.natAbs≤20000000):ACt 172 [bT a] (bT (-a)):=q3F (qbR rfl ha)
def qfJ {V:Int} (h:q05 V):mkV (-od V) (dyE V)=some (-V):=by
 have:=qb1 (qbu h)
 rwa [qkj,qgU] at this
def qnS {V:Int} (h:q05 V):mkV ((od V).natAbs:Int) (dyE V)=some (V.natAbs:Int):=by
 have hs:=q15 V
 by_cases hv:V < 0
 ·rw [decide_eq_true hv] at hs;have ho:od V < 0:=of_decide_eq_true hs;rw [show ((od V).natAbs:Int) = -od V by omega,show (V.natAbs:Int) = -V by omega];exact qfJ h
 ·rw [decide_eq_false hv] at hs;have ho:¬ od V < 0:=of_decide_eq_false hs;rw [show ((od V).natAbs:Int)=od V by omega,show (V.natAbs:Int)=V by omega];exact qb1 h
def qg2 {V:Int}:ACt 112 [pV V] (pV (-V)):=quu ql8 fun ho=>by
 have hb:=q1w ho;have h1:=q9A (V:=V);have h2:=q6p ho;have cN:=q08 ho;have cB:=qmT (a:=od V) Oq;have cM:=q3S rfl (m := -od V) (e:=dyE V) (by rw [Int.natAbs_neg]; omega) (by omega) (by omega) (qfJ ho);unfold dT at cN ⊢;unfold bT at cB cM;refine ac0 Tryz.func112 Tryz.ntmps112 [.cell 2 74] ?_;exact wk trivial
def qoS {V:Int}:ACt 92 [pV V] (pV (V.natAbs:Int)):=quu qtf fun ho=>by
 have hb:=q1w ho;have h1:=q9A (V:=V);have h2:=q6p ho;have cN:=q08 ho;have cB:=q9f (a:=od V) Oq;have cM:=q3S rfl (m:=((od V).natAbs:Int)) (e:=dyE V) (by rw [Int.natAbs_natCast]; omega) (by omega) (by omega) (qnS ho);unfold dT at cN ⊢;unfold bT at cB cM;refine ac0 Tryz.func92 Tryz.ntmps92 [.cell 2 74] ?_;exact wk trivial
def q1C {a:Int} (ha:bl a.natAbs≤20000000):ACt 148 [bT a] (iv a.sign):=q5f rfl ha
def q2J {a m:Int} (ha:bl a.natAbs≤20000000) (h1 : -1000000000≤m) (h2:m≤1000000000):ACt 154 [bT a,iv m] (bT (shI a m)):=q4W rfl ha h1 h2
structure Aln (A B x y e:Int):Prop where
 e1 : -65536≤e
 e2:e≤65536
 a:x*(2:Int) ^ (e+65536).toNat=A
 b:y*(2:Int) ^ (e+65536).toNat=B
def qfR {x V:Int} {k:Nat} (h:x*(2:Int) ^ k=V) (hv:q05 V):bl x.natAbs≤131072:=by
 subst h;unfold q05 at hv;rw [q0K] at hv
 by_cases h0:x.natAbs=0
 ·rw [h0]; simp [bl]
 ·rw [q1O h0] at hv; omega
def Aln.bl {A B x y e:Int} (h:Aln A B x y e) (ha:q05 A) (hb:q05 B):Sp.bl x.natAbs≤131072∧Sp.bl y.natAbs≤131072:=⟨qfR h.a ha,qfR h.b hb⟩
def q7I {a b:Int} (h1 : -65536≤a∧a≤65536) (h2 : -65536≤b∧b≤65536):IntKind.i64.wrap (a-b)=a-b:=i64_in Oq Oq
def q9E {A B:Int} (hA:q05 A) (hB:q05 B):∃ x y e,ACt 207 [dT A,dT B] (.tu [bT x,bT y,iv e])∧Aln A B x y e:=by
 have a1:=q9A (V:=A);have a2:=q6p hA;have b1:=q9A (V:=B);have b2:=q6p hB;have a3:=q1w hA;have b3:=q1w hB;have sA:=q1C (a:=od A) Oq;have sB:=q1C (a:=od B) Oq;have shA:=q2J (a:=od A) (m:=dyE A-dyE B) Oq Oq Oq;have shB:=q2J (a:=od B) (m:=dyE B-dyE A) Oq Oq Oq;have wA:=q7I (a:=dyE A) (b:=dyE B) Oq Oq;have wB:=q7I (a:=dyE B) (b:=dyE A) Oq Oq;unfold bT at *
 by_cases hA0:od A=0
 ·have e1:((od A).sign == 0)=true:=by rw [hA0]; rfl
  refine ⟨od A,od B,dyE B,?_,⟨b1,by omega,?_,?_⟩⟩
  ·unfold dT;refine ac0 Tryz.func207 Tryz.ntmps207 [.cell 4 72,.cell 5 72,.tmp 6] ?_;exact wk1 e1 trivial
  ·have:A=0:=by
    have:=q1S A;rw [hA0] at this; simpa using this.symm
   rw [hA0,this]; simp
  ·have:=q24 b1 (Int.le_refl (dyE B));simpa using this
 have e1:((od A).sign == 0)=false:=by simpa [Int.sign_eq_zero_iff_zero] using hA0
 by_cases hB0:od B=0
 ·have e2:((od B).sign == 0)=true:=by rw [hB0]; rfl
  refine ⟨od A,od B,dyE A,?_,⟨a1,by omega,?_,?_⟩⟩
  ·unfold dT;refine ac0 Tryz.func207 Tryz.ntmps207 [.cell 4 72,.cell 5 72,.tmp 6] ?_;exact wk1 (x2 e1 e2) trivial
  ·have:=q24 a1 (Int.le_refl (dyE A));simpa using this
  ·have:B=0:=by
    have:=q1S B;rw [hB0] at this; simpa using this.symm
   rw [hB0,this]; simp
 have e2:((od B).sign == 0)=false:=by simpa [Int.sign_eq_zero_iff_zero] using hB0
 by_cases hlt:dyE B < dyE A
 ·refine ⟨shI (od A) (dyE A-dyE B),od B,dyE B,?_,⟨b1,by omega,?_,?_⟩⟩
  ·unfold dT;refine ac0 Tryz.func207 Tryz.ntmps207 [.cell 4 72,.cell 5 72,.tmp 6] ?_;exact wk1 (x4 e1 e2 hlt wA) trivial
  ·unfold shI;rw [if_pos (by omega)];exact q24 b1 Oq
  ·have:=q24 b1 (Int.le_refl (dyE B));simpa using this
 ·refine ⟨od A,shI (od B) (dyE B-dyE A),dyE A,?_,⟨a1,by omega,?_,?_⟩⟩
  ·unfold dT;refine ac0 Tryz.func207 Tryz.ntmps207 [.cell 4 72,.cell 5 72,.tmp 6] ?_;exact wk1 (x4 e1 e2 hlt wB) trivial
  ·have:=q24 a1 (Int.le_refl (dyE A));simpa using this
  ·unfold shI;rw [if_pos (by omega)];exact q24 a1 Oq
def quH {a b:Int} {k:Nat} (ha:bl a.natAbs≤k) (hb:bl b.natAbs≤k):bl (a-b).natAbs≤k+1:=by
 have h1:=q1P ha;have h2:=q1P hb;exact q9M.2 (by rw [Nat.pow_succ]; omega)
def qa6 {a b:Int} {k:Nat} (ha:bl a.natAbs≤k) (hb:bl b.natAbs≤k):bl (a+b).natAbs≤k+1:=by
 have h1:=q1P ha;have h2:=q1P hb;exact q9M.2 (by rw [Nat.pow_succ]; omega)
def qeD {a b:Int} (ha:bl a.natAbs≤20000000) (hb:bl b.natAbs≤20000000):ACt 153 [bT a,bT b] (bT (a+b)):=q3F (q7X rfl rfl ha hb)
def qmS {a b:Int} (ha:bl a.natAbs≤20000000) (hb:bl b.natAbs≤20000000):ACt 219 [bT a,bT b] (bT (a-b)):=q3F (qbO rfl rfl ha hb)
def q9d {a b:Int} (ha:bl a.natAbs≤10000000) (hb:bl b.natAbs≤10000000):ACt 258 [bT a,bT b] (iv (a-b).sign):=by
 have cS:=qmS (a:=a) (b:=b) Oq Oq;have cG:=q1C (a:=a-b) (by have:=quH ha hb; omega);unfold bT at *;refine ac0 Tryz.func258 Tryz.ntmps258 [.tmp 4] ?_;exact wk trivial
def q4Y {V:Int}:ACt 88 [pV V] (iv V.sign):=quu qtg fun ho=>by
 have hb:=q1w ho;have cN:=q08 ho;have cS:=q1C (a:=od V) Oq;have es:(od V).sign=V.sign:=by
  conv=>rhs; rw [← q1S V,Int.sign_mul,Int.sign_eq_one_of_pos (q0U _),Int.mul_one]
 rw [es] at cS;unfold dT at cN ⊢;unfold bT at cS;refine ac0 Tryz.func88 Tryz.ntmps88 [.tmp 2] ?_;exact wk trivial
def Aln.sgn {A B x y e:Int} (h:Aln A B x y e):(x-y).sign=(A-B).sign:=by
 rw [← h.a,← h.b,← Int.sub_mul,Int.sign_mul,Int.sign_eq_one_of_pos (q0U _),Int.mul_one]
def Aln.sum {A B x y e:Int} (h:Aln A B x y e) (ho:q05 (A+B)):mkV (x+y) e=some (A+B):=by
 rw [q5a h.e1 (V:=A+B) (by rw [Int.add_mul,h.a,h.b]),q3N ho]
def dCmp_ac {A B:Int}:ACt 239 [pV A,pV B] (.tu [iv (A-B).sign,bv true]):=ac_2 qlU fun ⟨hA,hB⟩=>by
 have cA:=q08 hA;have cB:=q08 hB;obtain ⟨x,y,e,cL,hL⟩:=q9E hA hB;obtain ⟨l1,l2⟩:=hL.bl hA hB;have cC:=q9d (a:=x) (b:=y) Oq Oq;rw [hL.sgn] at cC;unfold dT at cA cB cL ⊢;unfold bT at cL cC;refine ac0 Tryz.func239 Tryz.ntmps239 [.tmp 4,.tmp 5] ?_;exact wk trivial
def qoR {A B:Int} (ho:q05 (A+B)):ACt 149 [pV A,pV B] (pV (A+B)):=ac_2 ql2 fun ⟨hA,hB⟩=>by
 have cA:=q08 hA;have cB:=q08 hB;obtain ⟨x,y,e,cL,hL⟩:=q9E hA hB;obtain ⟨l1,l2⟩:=hL.bl hA hB;have cC:=qeD (a:=x) (b:=y) Oq Oq;have cM:=q3S rfl (m:=x+y) (e:=e) (V:=A+B) (by have:=qa6 l1 l2; omega) (by have:=hL.e1; omega) (by have:=hL.e2; omega) (hL.sum ho);unfold dT at cA cB cL ⊢;unfold bT at cL cC cM;refine ac0 Tryz.func149 Tryz.ntmps149 [.cell 4 74] ?_;exact wk trivial
section
variable {A B:Int}
def q91 (hA:q05 A) (hB:q05 B):∃ x y e,ACt 249 [dT A,dT B] (.tu [bT x,bT y,iv e])∧Aln A B x y e:=by
 obtain ⟨a1,a2,a3⟩:=q0u hA;obtain ⟨b1,b2,b3⟩:=q0u hB;have C1:=@q3s;have key:∀ e:Int,e≤dyE A→e≤dyE B → -65536≤e→e≤65536→Aln A B (shI (od A) (dyE A-e)) (shI (od B) (dyE B-e)) e:=fun e h1 h2 h3 h4 =>
  ⟨h3,h4,by unfold shI; rw [if_pos (by omega)]; exact q24 h3 h1,by unfold shI; rw [if_pos (by omega)]; exact q24 h3 h2⟩
 obtain ⟨e,he⟩:∃ e,min (dyE A) (dyE B)=e:=⟨_,rfl⟩;refine ⟨_,_,e,?_,key e Oq Oq Oq Oq⟩;refine ac0 Tryz.func249 Tryz.ntmps249 [.cell 4 72,.cell 5 72,.tmp 6] ?_;exact wk1 he trivial
def qlw (hA:q05 A) (hB:q05 B) (ho:q05 (A+B)):ACt 203 [dT A,dT B] (dT (A+B)):=by
 obtain ⟨x,y,e,C1,hL⟩:=q91 hA hB;obtain ⟨l1,l2⟩:=hL.bl hA hB;have C2:=qdc hA hB;have C3:=@qaN;have h1:=hL.e1;have h2:=hL.e2;have h3:=qa6 l1 l2;have C4:=q5W (m:=x+y) (e:=e) rfl Oq Oq Oq (hL.sum ho);refine ac0 Tryz.func203 Tryz.ntmps203 [.cell 4 74] ?_;exact wk trivial
def qqM (hA:q05 A):ACt 184 [dT A] (reT (decide (od A < 0)) (od A).natAbs (dyE A) false):=by
 have C1:=@qaO;have:=(q0u hA).2.2;refine ac0 Tryz.func184 Tryz.ntmps184 [.cell 2 155] ?_;exact wk trivial
def q8w (hA:q05 A):ACt 123 [dT A,iv 0] (uv (fR 0 A:Nat)):=by
 obtain ⟨hd1,hd2,hd3⟩:=q0u hA;have C1:=q6y hA;have C2:=q2W hA;have C3:=qqM hA;refine ac0 Tryz.func123 Tryz.ntmps123 [.tmp 4] ?_
 by_cases hz:A=0
 ·have q1:(A.sign == 0)=true:=by rw [hz]; rfl
  rw [show ((fR 0 A:Nat):Int)=0 by rw [show fR 0 A=0 from if_pos hz]; rfl];exact wk1 q1 trivial
 ·have q1:(A.sign == 0)=false:=by
   rw [beq_eq_false_iff_ne]; intro h; exact hz (Int.sign_eq_zero_iff_zero.1 h)
  have hod:=q3W hz;have C4:=q6K (N:=(od A).natAbs) (M:=1) (neg:=decide (od A < 0)) (e:=dyE A) Nat.one_pos (by omega) (by rw [Nat.mod_one]; intro h; exact absurd rfl h) (by rw [Nat.div_one]; omega) (by omega) (by omega);rw [Nat.div_one,Nat.mod_one,show decide ((0:Nat)≠0)=false from rfl,rE_V hz,q15,show rF 0 (decide (A < 0)) A.natAbs (2 ^ 65536)=fR 0 A from (if_neg hz).symm] at C4;rw [← q15] at C4;exact wk1 q1 trivial
def qen:ACt 70 [pV A] (uv (fR 0 A:Nat)):=by
 have C1:=q5z (V:=A) (mode:=0);refine ac0 Tryz.func70 Tryz.ntmps70 [.tmp 2] ?_;exact wk trivial
end
def q2B (l:List Nat) (i:Nat):Nat:=(l.take i).foldl (fun b x=>max b (q5V x)) 0
def qeN {l:List Nat} {i x:Nat} (h:l[i]?=some x):q2B l (i+1)=max (q2B l i) (q5V x):=by
 obtain ⟨h1,h2⟩:=List.getElem?_eq_some_iff.1 h;unfold q2B;rw [List.take_succ_eq_append_getElem h1,List.foldl_append,h2]
 rfl
def q5s {l:List Nat} (hl:q0c l):∀ i,i≤l.length→q2B l i < 9223372036854775808∧q0J (q2B l i)
 | 0,_=>⟨by simp [q2B],by simp [q2B,q0J]⟩
 | i+1,hi=>by
  have ih:=q5s hl i Oq;obtain ⟨x,hx⟩:∃ x,l[i]?=some x:=⟨_,List.getElem?_eq_getElem Oq⟩;rw [qeN hx];have:=(hl x (List.mem_of_getElem? hx)).2;have h1:=q3m (f:=x);have h2:=q7x this
  rcases Nat.le_total (q2B l i) (q5V x) with h | h
  ·rw [Nat.max_eq_right h]; exact ⟨h1,h2⟩
  ·rw [Nat.max_eq_left h]; exact ih
def qbb {f:Nat} (h:f < 9223372036854775808):q6Y f=f:=by
 unfold q6Y q5V;rw [if_neg (by omega),Nat.mod_eq_of_lt h]
def qcA {a b:Nat} (ha:a < 9223372036854775808) (hb:b < 9223372036854775808):(0 < qj7 (q6Y a) (q6Y b)→max b a=a)∧(¬ 0 < qj7 (q6Y a) (q6Y b)→max b a=b):=by
 rw [qbb ha,qbb hb];unfold qj7
 constructor
 ·intro h
  split at h
  ·omega
  ·split at h
   ·omega
   ·omega
 ·intro h
  split at h
  ·omega
  ·split at h
   ·omega
   ·omega
section
variable {l:List Nat}
def qbc (hl:q0c l) (hn:l.length≤1000000):ACt 78 [pF l] (uv (q2B l l.length:Nat)):=by
 have hs:=q5s hl;refine ac0 Tryz.func78 Tryz.ntmps78 [.tmp 2] ?_;refine wk ?_;refine q0A (fun i=>i≤l.length) [8,9] [] Lk Lk (fun i:Nat=>[(10,iv i),(3,uv (q2B l i:Nat))]) (fun _=>[]) (fun i=>l.length-i) 0 (Nat.zero_le _) ?_ ?_
 ·refine LeM [] rfl rfl ?_;refine Zz ?_;exact ⟨rfl,rfl⟩
 ·intro i hi
  by_cases hlt:i < l.length
  ·obtain ⟨x,hx⟩:∃ x,l[i]?=some x:=⟨_,List.getElem?_eq_getElem hlt⟩;obtain ⟨h1,h2⟩:=hl x (List.mem_of_getElem? hx);obtain ⟨h3,h4⟩:=hs i hi;have C1:=q7i h1;have q:(((q3e x:Nat):Int) == 3)=false:=by
    have:=q5b h2;simp; omega
   have C2:=qoD h1 h2;have C3:=qoC (f:=q5V x) (g:=q2B l i) (by have:=q3m (f:=x); omega) (q7x h2) Oq h4;have hm:=qcA (q3m (f:=x)) h3;have es:=qeN hx;generalize qj7 (q6Y (q5V x)) (q6Y (q2B l i))=c at *
   by_cases hc:c > 0
   ·rw [hm.1 hc] at es;refine wk1 (x2 hx q) ?_;refine ⟨i+1,by omega,by omega,?_⟩;rw [es];refine LeM [] rfl rfl ?_;refine Zz ?_;omega
   ·rw [hm.2 hc] at es;refine wk1 (x2 hx q) ?_;refine ⟨i+1,by omega,by omega,?_⟩;rw [es];refine LeM [] rfl rfl ?_;refine Zz ?_;omega
  ·obtain rfl:i=l.length:=by omega
   exact wk trivial
def q6u (hl:q0c l) (hn:l.length≤1000000):ACt 84 [pF l] (uv (q2B l l.length:Nat)):=by
 have hs:=q5s hl;refine ac0 Tryz.func84 Tryz.ntmps84 [.tmp 2] ?_;refine wk ?_;refine q0A (fun i=>i≤l.length) [0] [] Lk Lk (fun i:Nat=>[(4,iv i),(3,uv (q2B l i:Nat))]) (fun _=>[]) (fun i=>l.length-i) 0 (Nat.zero_le _) ?_ ?_
 ·refine LeM [] rfl rfl ?_;refine Zz ?_;exact ⟨rfl,rfl⟩
 ·intro i hi
  by_cases hlt:i < l.length
  ·obtain ⟨x,hx⟩:∃ x,l[i]?=some x:=⟨_,List.getElem?_eq_getElem hlt⟩;obtain ⟨h1,h2⟩:=hl x (List.mem_of_getElem? hx);obtain ⟨h3,h4⟩:=hs i hi;have C1:=qbS h1;have q:(((q3e x:Nat):Int) == 3)=false:=by
    have:=q5b h2;simp; omega
   have C2:=qmu h1 h2;have C3:=qmt (f:=q5V x) (g:=q2B l i) (by have:=q3m (f:=x); omega) (q7x h2) Oq h4;have hm:=qcA (q3m (f:=x)) h3;have es:=qeN hx;generalize qj7 (q6Y (q5V x)) (q6Y (q2B l i))=c at *
   by_cases hc:c > 0
   ·rw [hm.1 hc] at es;refine wk1 (x2 hx q) ?_;refine ⟨i+1,by omega,by omega,?_⟩;rw [es];refine LeM [] rfl rfl ?_;refine Zz ?_;omega
   ·rw [hm.2 hc] at es;refine wk1 (x2 hx q) ?_;refine ⟨i+1,by omega,by omega,?_⟩;rw [es];refine LeM [] rfl rfl ?_;refine Zz ?_;omega
  ·obtain rfl:i=l.length:=by omega
   exact wk trivial
end
end Go.Proofs.YtbcmhlhgljoolaaGreatDoor
namespace Go.Sp
open Go.E
def ixF (l:List Nat):Nat→Nat→Int
 | _,0 => -1
 | i,m+1=>if q0J (l.getD i 0) then ixF l (i+1) m else i
def qkz {l:List Nat}:∀ (m i:Nat),0≤ixF l i m ↔ ∃ j,i≤j∧j < i+m∧¬ q0J (l.getD j 0)
 | 0,i=>by unfold ixF; exact ⟨fun h=>by omega,fun ⟨j,h1,h2,_⟩=>by omega⟩
 | m+1,i=>by
  unfold ixF
  by_cases h:q0J (l.getD i 0)
  ·rw [if_pos h,qkz m (i+1)]
   constructor
   ·rintro ⟨j,h1,h2,h3⟩; exact ⟨j,by omega,by omega,h3⟩
   ·rintro ⟨j,h1,h2,h3⟩;refine ⟨j,?_,by omega,h3⟩
    rcases Nat.eq_or_lt_of_le h1 with e | e
    ·subst e; exact absurd h h3
    ·omega
  ·rw [if_neg h];exact ⟨fun _=>⟨i,Nat.le_refl _,by omega,h⟩,fun _=>by omega⟩
def qn2 {l:List Nat}:decide (0≤ixF l 0 l.length)=!decide (∀ x ∈ l,q0J x):=by
 rw [← decide_not,decide_eq_decide,qkz]
 constructor
 ·rintro ⟨j,_,h2,h3⟩ h;have hj:j < l.length:=by omega
  rw [List.getD_eq_getElem?_getD,List.getElem?_eq_getElem hj] at h3;exact h3 (h _ (List.getElem_mem hj))
 ·intro h;refine Classical.byContradiction fun hn=>h fun x hx=>?_;obtain ⟨j,hj,rfl⟩:=List.getElem_of_mem hx;refine Classical.byContradiction fun hf=>hn ⟨j,Nat.zero_le _,by omega,?_⟩;rw [List.getD_eq_getElem?_getD,List.getElem?_eq_getElem hj];exact hf
end Go.Sp
namespace Go.Proofs.YtbcmhlhgljoolaaGreatDoor
open Go Go.E Go.Sp
section
variable {l:List Nat} {f:FuncId}
def pe_fn {s:Nat→PV}:pe s (.func f)=.vl (.func (.func f) #[] #[]):=rfl
attribute [go_sem] pe_fn
def q8j (hf:∀ x:Nat,x < 18446744073709551616→ACt f [uv x] (bv (!decide (q0J x)))) (hu:∀ x ∈ l,x < 18446744073709551616) (hn:l.length≤1000000) :
  ACt 224 [pF l,.vl (.func (.func f) #[] #[])] (iv (ixF l 0 l.length)):=by
 refine ac0 Tryz.func224 Tryz.ntmps224 [.tmp 4] ?_;refine wk ?_;refine q0A (fun i=>i≤l.length∧ixF l 0 l.length=ixF l i (l.length-i)) [0,1,7] [] Lk Lk (fun i:Nat=>[(8,iv i)]) (fun _=>[]) (fun i=>l.length-i) 0 ⟨Nat.zero_le _,rfl⟩ ?_ ?_
 ·refine LeM [] rfl rfl ?_;refine Zz ?_
  rfl
 ·rintro i ⟨hi,hx⟩
  by_cases hlt:i < l.length
  ·obtain ⟨x,hxi⟩:∃ x,l[i]?=some x:=⟨_,List.getElem?_eq_getElem hlt⟩;have C1:=hf x (hu x (List.mem_of_getElem? hxi));rw [show l.length-i=(l.length-(i+1))+1 by omega,ixF,getD_some hxi] at hx;refine wk1 hxi ?_;refine qdY fun K hK=>?_;refine Zz1 hxi ?_;refine qbp qvq ?_;simp only [List.append_nil]
   try refine Zz ?_
   refine q0N C1 ?_
   try refine Zz ?_
   refine hK _ _ ?_; clear hK K
   by_cases h:q0J x
   ·rw [if_pos h] at hx;refine wk1 (decide_eq_true h) ?_;refine ⟨i+1,⟨by omega,by rw [show l.length-(i+1)=l.length-(i+1) from rfl]; exact hx⟩,by omega,?_⟩;refine LeM [] rfl rfl ?_;refine Zz ?_;omega
   ·rw [if_neg h] at hx;rw [hx];exact wk1 (decide_eq_false h) trivial
  ·obtain rfl:i=l.length:=by omega
   rw [Nat.sub_self,ixF] at hx;rw [hx];exact wk trivial
def q3C (hf:∀ x:Nat,x < 18446744073709551616→ACt f [uv x] (bv (!decide (q0J x)))) (hu:∀ x ∈ l,x < 18446744073709551616) (hn:l.length≤1000000) :
  ACt 162 [pF l,.vl (.func (.func f) #[] #[])] (bv (!decide (∀ x ∈ l,q0J x))):=by
 have C1:=q8j hf hu hn;rw [← qn2];generalize ixF l 0 l.length=z at *;refine ac0 Tryz.func162 Tryz.ntmps162 [.tmp 4] ?_;exact wk trivial
def qaG {x:Nat} (hx:x < 18446744073709551616):ACt 164 [uv x] (bv (!decide (q0J x))):=by
 have C1:=q4p hx;refine ac0 Tryz.func164 Tryz.ntmps164 [.tmp 2] ?_;exact wk trivial
def q3P (hu:∀ x ∈ l,x < 18446744073709551616) (hn:l.length≤1000000):ACt 106 [pF l] (bv (decide (∀ x ∈ l,q0J x))):=by
 have C1:=q3C (f:=164) (fun x hx=>qaG hx) hu hn;generalize decide (∀ x ∈ l,q0J x)=b at *;refine ac0 Tryz.func106 Tryz.ntmps106 [.tmp 2] ?_;exact wk1 @Bool.not_not trivial
end

def q2R (l:List Int) (n:Int):Prop:=(l.length:Int)=n∧(∀ x ∈ l,0≤x∧x < n)∧l.Nodup
def q5H (l:List Int) (i:Nat):List Bool:=(List.range l.length).map fun k:Nat=>decide ((k:Int) ∈ l.take i)
def q7O {l:List Int} {i:Nat}:(q5H l i).length=l.length:=by simp [q5H]
def qe1 {l:List Int}:List.replicate l.length false=q5H l 0:=by simp [q5H,List.map_const']
def q7P {l:List Int} {i k:Nat} (hk:k < l.length):(q5H l i)[k]?=some (decide ((k:Int) ∈ l.take i)):=by simp [q5H,hk]
def q7N {l:List Int} {i k:Nat} (hi:l[i]?=some (k:Int)):(q5H l i).set k true=q5H l (i+1):=by
 obtain ⟨hlt,he⟩:=List.getElem?_eq_some_iff.1 hi
 apply List.ext_getElem?
 intro m;rw [List.getElem?_set];simp only [q5H,List.getElem?_map,List.length_map,List.length_range,List.take_succ_eq_append_getElem hlt,he,List.mem_append,List.mem_singleton]
 by_cases hm:m < l.length
 ·rw [List.getElem?_range hm]
  by_cases hkm:k=m
  ·subst hkm; simp [hm]
  ·rw [if_neg hkm]; simp; omega
 ·rw [List.getElem?_eq_none (by simp; omega)]
  by_cases hkm:k=m <;> simp [hkm] <;> omega
open Classical in
def qbQ {l:List Int} {n:Int} (hn : -1000000≤n∧n≤1000000):ACt 135 [pI l,iv n] (bv (decide (q2R l n))):=by
 refine ac0 Tryz.func135 Tryz.ntmps135 [.tmp 4] ?_;refine wk ?_
 by_cases hl:(l.length:Int)=n
 ·subst hl;have e1:((l.length:Int) != l.length)=false:=by simp
  refine wk1 e1 ?_;refine q0A (fun i=>i≤l.length∧(∀ x ∈ l.take i,0≤x∧x < l.length)∧(l.take i).Nodup) [0,1,5] [] Lk Lk (fun i:Nat=>[(6,iv i)]) (fun i=>[(12,⟨4,none,(q5H l i).map fun z=>bv z,false⟩)]) (fun i=>l.length-i) 0 ⟨Nat.zero_le _,by simp,by simp⟩ ?_ ?_
  ·refine LeM [] rfl rfl ?_;refine Zz ?_;exact ⟨rfl,qe1⟩
  ·rintro i ⟨hi,hr,hd⟩;refine wk ?_
   by_cases hlt:i < l.length
   ·have hlt':(i:Int) < l.length:=by omega
    refine wk1 hlt' ?_;obtain ⟨x,hx⟩:∃ x,l[i]?=some x:=⟨_,List.getElem?_eq_getElem hlt⟩;have hmem:=List.mem_of_getElem? hx;have ht:l.take (i+1)=l.take i ++ [x]:=by rw [List.take_succ_eq_append_getElem hlt]; congr 2; exact Option.some.inj ((List.getElem?_eq_getElem hlt).symm.trans hx)
    refine wk ?_
    by_cases hx0:x < 0
    ·refine wk1 (x2 hx hx0) ?_;exact (decide_eq_false fun h=>by have:=(h.2.1 x hmem).1; omega).symm
    ·obtain ⟨k,rfl⟩:∃ k:Nat,x=k:=⟨x.toNat,by omega⟩
     by_cases hxn:(l.length:Int)≤k
     ·refine wk1 (x3 hx hx0 hxn) ?_;exact (decide_eq_false fun h=>by have:=(h.2.1 _ hmem).2; omega).symm
     ·have hk:k < l.length:=by omega
      have hs:=q7P (i:=i) hk
      by_cases hm:(k:Int) ∈ l.take i
      ·refine wk1 (x5 hx hx0 hxn hs hm) ?_;refine (decide_eq_false fun h=>?_).symm;have:=(h.2.2.sublist (List.take_sublist (i+1) l));rw [ht,List.nodup_append] at this;exact this.2.2 _ hm _ (by simp) rfl
      ·refine wk1 (x6 hx hx0 hxn hs hm @q7O) ?_;refine ⟨i+1,⟨by omega,?_,?_⟩,by omega,?_⟩
       ·rw [ht];intro y hy
        rcases List.mem_append.1 hy with hy | hy
        ·exact hr y hy
        ·simp at hy; subst hy; omega
       ·rw [ht,List.nodup_append];exact ⟨hd,by simp,fun a ha b hb e=>by simp at hb; subst hb; subst e; exact hm ha⟩
       ·refine LeM [] rfl rfl ?_;refine Zz ?_;exact ⟨by omega,q7N hx⟩
   ·have hlt':¬ (i:Int) < l.length:=by omega
    have hil:i=l.length:=by omega
    refine wk1 hlt' ?_;rw [hil,List.take_length] at hr hd;exact (decide_eq_true ⟨rfl,hr,hd⟩).symm
 ·have e1:((l.length:Int) != n)=true:=by simpa using hl
  refine wk1 e1 ?_;exact (decide_eq_false fun h=>hl h.1).symm
def q2q {α:Type} {l:List α} {i:Nat} {x:α} (hx:l[i]?=some x):l.take (i+1)=l.take i ++ [x]:=by
 obtain ⟨h1,h2⟩:=List.getElem?_eq_some_iff.1 hx;rw [List.take_succ_eq_append_getElem h1,h2]
def q5Y {α:Type} {p:α→Prop} {l:List α} {i:Nat} {x:α} (hx:l[i]?=some x) (h:∀ y ∈ l.take i,p y) (hp:p x):∀ y ∈ l.take (i+1),p y:=by
 rw [q2q hx];intro y hy
 rcases List.mem_append.1 hy with hy | hy
 ·exact h y hy
 ·simp at hy; subst hy; exact hp
def qky {l:List Int} {v:Int} (hl:l.length≤9223372036854775807):ACt 225 [pI l,iv v] (bv (decide (v ∈ l))):=by
 refine ac0 Tryz.func225 Tryz.ntmps225 [.tmp 4] ?_;refine wk ?_;refine q0A (fun i=>i≤l.length∧∀ x ∈ l.take i,¬ v=x) [0,1] [] Lk Lk (fun i:Nat=>[(5,iv i)]) (fun _=>[]) (fun i=>l.length-i) 0 ⟨Nat.zero_le _,by simp⟩ ?_ ?_
 ·refine LeM [] rfl rfl ?_;refine Zz ?_
  rfl
 ·rintro i ⟨hi,hr⟩;refine wk ?_
  by_cases hlt:i < l.length
  ·have hlt':(i:Int) < l.length:=by omega
   refine wk1 hlt' ?_;obtain ⟨x,hx⟩:∃ x,l[i]?=some x:=⟨_,List.getElem?_eq_getElem hlt⟩;refine wk1 hx ?_
   by_cases hv:v=x
   ·have e1:(x == v)=true:=by simpa using hv.symm
    refine wk1 e1 ?_;exact (decide_eq_true (hv ▸ List.mem_of_getElem? hx)).symm
   ·have e1:(x == v)=false:=by simpa using fun e=>hv e.symm
    refine wk1 e1 ?_;refine ⟨i+1,⟨by omega,q5Y hx hr hv⟩,by omega,?_⟩;refine LeM [] rfl rfl ?_;refine Zz ?_;omega
  ·have hlt':¬ (i:Int) < l.length:=by omega
   refine wk1 hlt' ?_;obtain rfl:i=l.length:=by omega
   rw [List.take_length] at hr;exact (decide_eq_false fun h=>hr v h rfl).symm
def Asc (l:List Int):Prop:=∀ (i:Nat) (x y:Int),l[i]?=some x→l[i+1]?=some y→x < y
open Classical in
def qn1 {l:List Int} (hl:l.length≤9223372036854775807):ACt 52 [pI l] (bv (decide (Asc l))):=by
 refine ac0 Tryz.func52 Tryz.ntmps52 [.tmp 2] ?_;refine wk ?_;refine q0A (fun i=>(i≤l.length∨i=1)∧0 < i∧∀ j x y,j+1 < i→l[j]?=some x→l[j+1]?=some y→x < y) [0] [] Lk Lk (fun i:Nat=>[(3,iv i)]) (fun _=>[]) (fun i=>l.length-i) 1 ⟨.inr rfl,by omega,by omega⟩ ?_ ?_
 ·refine LeM [] rfl rfl ?_;refine Zz ?_
  rfl
 ·rintro i ⟨hi,hi0,hr⟩;refine wk ?_
  by_cases hlt:i < l.length
  ·have hlt':(i:Int) < l.length:=by omega
   refine wk1 hlt' ?_;obtain ⟨i,rfl⟩:∃ i',i=i'+1:=⟨i-1,by omega⟩;obtain ⟨y,hy⟩:∃ x,l[i+1]?=some x:=⟨_,List.getElem?_eq_getElem hlt⟩;obtain ⟨x,hx⟩:∃ x,l[i]?=some x:=⟨_,List.getElem?_eq_getElem Oq⟩;have e0:IntKind.i64.wrap (((i+1:Nat):Int)-1)=i:=by rw [i64_in (by omega) (by omega)]; omega
   by_cases hv:y≤x
   ·refine wk1 (x4 hx hy hv e0) ?_;refine (decide_eq_false fun h=>?_).symm;have:=h i x y hx hy;omega
   ·refine wk1 (x4 hx hy hv e0) ?_;refine ⟨i+1+1,⟨by omega,by omega,fun j x' y' hj hx' hy'=>?_⟩,by omega,?_⟩
    ·by_cases hji:j=i
     ·subst hji;rw [hx] at hx'; rw [hy] at hy';cases hx'; cases hy'; omega
     ·exact hr j x' y' Oq hx' hy'
    ·refine LeM [] rfl rfl ?_;refine Zz ?_;omega
  ·have hlt':¬ (i:Int) < l.length:=by omega
   refine wk1 hlt' ?_;refine (decide_eq_true fun j x y hx hy=>hr j x y ?_ hx hy).symm;have:=(List.getElem?_eq_some_iff.1 hy).1;omega
open Classical in
def qiZ {l:List Int} {n:Int} (hn : -1000000≤n∧n≤1000000):ACt 231 [pI l,iv n] (bv (decide (q2R l n))):=by
 refine ac0 Tryz.func231 Tryz.ntmps231 [.tmp 4] ?_;refine wk ?_
 by_cases hl:(l.length:Int)=n
 ·subst hl;have e1:((l.length:Int) != l.length)=false:=by simp
  refine wk1 e1 ?_;refine q0A (fun i=>i≤l.length∧(∀ x ∈ l.take i,0≤x∧x < l.length)∧(l.take i).Nodup) [0,1,5] [] Lk Lk (fun i:Nat=>[(6,iv i)]) (fun i=>[(12,⟨4,none,(q5H l i).map fun z=>bv z,false⟩)]) (fun i=>l.length-i) 0 ⟨Nat.zero_le _,by simp,by simp⟩ ?_ ?_
  ·refine LeM [] rfl rfl ?_;refine Zz ?_;exact ⟨rfl,qe1⟩
  ·rintro i ⟨hi,hr,hd⟩;refine wk ?_
   by_cases hlt:i < l.length
   ·have hlt':(i:Int) < l.length:=by omega
    refine wk1 hlt' ?_;obtain ⟨x,hx⟩:∃ x,l[i]?=some x:=⟨_,List.getElem?_eq_getElem hlt⟩;have hmem:=List.mem_of_getElem? hx;have ht:l.take (i+1)=l.take i ++ [x]:=by rw [List.take_succ_eq_append_getElem hlt]; congr 2; exact Option.some.inj ((List.getElem?_eq_getElem hlt).symm.trans hx)
    refine wk ?_
    by_cases hx0:x < 0
    ·refine wk1 (x2 hx hx0) ?_;exact (decide_eq_false fun h=>by have:=(h.2.1 x hmem).1; omega).symm
    ·obtain ⟨k,rfl⟩:∃ k:Nat,x=k:=⟨x.toNat,by omega⟩
     by_cases hxn:(l.length:Int)≤k
     ·refine wk1 (x3 hx hx0 hxn) ?_;exact (decide_eq_false fun h=>by have:=(h.2.1 _ hmem).2; omega).symm
     ·have hk:k < l.length:=by omega
      have hs:=q7P (i:=i) hk
      by_cases hm:(k:Int) ∈ l.take i
      ·refine wk1 (x5 hx hx0 hxn hs hm) ?_;refine (decide_eq_false fun h=>?_).symm;have:=(h.2.2.sublist (List.take_sublist (i+1) l));rw [ht,List.nodup_append] at this;exact this.2.2 _ hm _ (by simp) rfl
      ·refine wk1 (x6 hx hx0 hxn hs hm @q7O) ?_;refine ⟨i+1,⟨by omega,?_,?_⟩,by omega,?_⟩
       ·rw [ht];intro y hy
        rcases List.mem_append.1 hy with hy | hy
        ·exact hr y hy
        ·simp at hy; subst hy; omega
       ·rw [ht,List.nodup_append];exact ⟨hd,by simp,fun a ha b hb e=>by simp at hb; subst hb; subst e; exact hm ha⟩
       ·refine LeM [] rfl rfl ?_;refine Zz ?_;exact ⟨by omega,q7N hx⟩
   ·have hlt':¬ (i:Int) < l.length:=by omega
    have hil:i=l.length:=by omega
    refine wk1 hlt' ?_;rw [hil,List.take_length] at hr hd;exact (decide_eq_true ⟨rfl,hr,hd⟩).symm
 ·have e1:((l.length:Int) != n)=true:=by simpa using hl
  refine wk1 e1 ?_;exact (decide_eq_false fun h=>hl h.1).symm
def qcS (l:List Int) (n:Int):Prop:=∀ x ∈ l,0≤x∧x < n
open Classical in
def qeo {l:List Int} {n:Int} (hl:l.length≤9223372036854775807):ACt 254 [pI l,iv n] (bv (decide (qcS l n))):=by
 refine ac0 Tryz.func254 Tryz.ntmps254 [.tmp 4] ?_;refine wk ?_;refine q0A (fun i=>i≤l.length∧∀ x ∈ l.take i,0≤x∧x < n) [0,1] [] Lk Lk (fun i:Nat=>[(5,iv i)]) (fun _=>[]) (fun i=>l.length-i) 0 ⟨Nat.zero_le _,by simp⟩ ?_ ?_
 ·refine LeM [] rfl rfl ?_;refine Zz ?_
  rfl
 ·rintro i ⟨hi,hr⟩;refine wk ?_
  by_cases hlt:i < l.length
  ·have hlt':(i:Int) < l.length:=by omega
   refine wk1 hlt' ?_;obtain ⟨x,hx⟩:∃ x,l[i]?=some x:=⟨_,List.getElem?_eq_getElem hlt⟩;have hm:=List.mem_of_getElem? hx
   by_cases hx0:x < 0
   ·refine wk1 (x2 hx hx0) ?_;exact (decide_eq_false fun h=>by have:=h x hm; omega).symm
   ·by_cases hxn:n≤x
    ·refine wk1 (x3 hx hx0 hxn) ?_;exact (decide_eq_false fun h=>by have:=h x hm; omega).symm
    ·refine wk1 (x3 hx hx0 hxn) ?_;refine ⟨i+1,⟨by omega,q5Y hx hr Oq⟩,by omega,?_⟩;refine LeM [] rfl rfl ?_;refine Zz ?_;omega
  ·have hlt':¬ (i:Int) < l.length:=by omega
   refine wk1 hlt' ?_;obtain rfl:i=l.length:=by omega
   rw [List.take_length] at hr;exact (decide_eq_true (p:=qcS l n) hr).symm
open Classical in
def qcj {l:List Nat} (hl:l.length≤9223372036854775807) (hu:∀ x ∈ l,x < 18446744073709551616):ACt 142 [pF l] (bv (decide (∀ x ∈ l,q0J x))):=by
 refine ac0 Tryz.func142 Tryz.ntmps142 [.tmp 2] ?_;refine wk ?_;refine q0A (fun i=>i≤l.length∧∀ x ∈ l.take i,q0J x) [0] [] Lk Lk (fun i:Nat=>[(3,iv i)]) (fun _=>[]) (fun i=>l.length-i) 0 ⟨Nat.zero_le _,by simp⟩ ?_ ?_
 ·refine LeM [] rfl rfl ?_;refine Zz ?_
  rfl
 ·rintro i ⟨hi,hr⟩;refine wk ?_
  by_cases hlt:i < l.length
  ·have hlt':(i:Int) < l.length:=by omega
   refine wk1 hlt' ?_;obtain ⟨x,hx⟩:∃ x,l[i]?=some x:=⟨_,List.getElem?_eq_getElem hlt⟩;have hm:=List.mem_of_getElem? hx;have C1:=(q1i (hu x hm));refine wk1 hx ?_
   by_cases hf:q0J x
   ·refine wk1 hf ?_;refine ⟨i+1,⟨by omega,q5Y hx hr hf⟩,by omega,?_⟩;refine LeM [] rfl rfl ?_;refine Zz ?_;omega
   ·refine wk1 hf ?_;exact (decide_eq_false fun h=>hf (h x hm)).symm
  ·have hlt':¬ (i:Int) < l.length:=by omega
   refine wk1 hlt' ?_;obtain rfl:i=l.length:=by omega
   rw [List.take_length] at hr;exact (decide_eq_true hr).symm
def q2M (rows cols:Int) (st ix:List Int) (vl:List Nat):PV:=.ag [iv rows,iv cols,pI st,pI ix,pF vl]
structure MSz (rows cols:Int) (ix:List Int):Prop where
 r0:¬ rows < 0
 r1:¬ 200 < rows
 c0:¬ cols < 0
 c1:¬ 200 < cols
 i1:¬ (10000:Int) < ix.length
structure MPt (cols:Int) (st ix:List Int) (vl:List Nat):Prop where
 v:vl.length=ix.length
 s:(st.length:Int)=cols+1
 f:st[0]?=some 0
 l:st[cols.toNat]?=some (ix.length:Int)
 m:∀ (j:Nat) (x y:Int),st[j]?=some x→st[j+1]?=some y→x≤y
def MIx1 (rows:Int) (ix:List Int) (x:Int) (k:Nat):Prop:=∀ v,ix[k]?=some v→0≤v∧v < rows∧(x < k→∀ u,ix[k-1]?=some u→u < v)
def MIx (rows:Int) (st ix:List Int):Prop:=∀ (j:Nat) (x y:Int),st[j]?=some x→st[j+1]?=some y→∀ k:Nat,x≤k→(k:Int) < y→MIx1 rows ix x k
open Classical in
noncomputable def q2n (rows cols:Int) (st ix:List Int) (vl:List Nat):Int :=
 if MSz rows cols ix then (if MPt cols st ix vl∧MIx rows st ix then (if ∀ x ∈ vl,q0J x then 0 else 4) else 1) else 6
def MPt.nn {cols:Int} {st ix:List Int} {vl:List Nat} (h:MPt cols st ix vl):∀ (j:Nat) (x:Int),st[j]?=some x→0≤x
 | 0,x,hx=>by rw [h.f] at hx; cases hx; omega
 | j+1,x,hx=>by
  have hlt:=(List.getElem?_eq_some_iff.1 hx).1;have hj:st[j]?=some st[j]:=List.getElem?_eq_getElem Oq;have:=h.m j _ _ hj hx;have:=h.nn j _ hj;omega
def MPt.ub {cols:Int} {st ix:List Int} {vl:List Nat} (h:MPt cols st ix vl) (hc:0≤cols):∀ (d j:Nat) (x:Int),j+d=cols.toNat→st[j]?=some x→x≤ix.length
 | 0,j,x,hd,hx=>by
  have:j=cols.toNat:=by omega
  subst this;rw [h.l] at hx; cases hx; omega
 | d+1,j,x,hd,hx=>by
  have hlt:j+1 < st.length:=by have:=h.s; omega
  have hj:st[j+1]?=some st[j+1]:=List.getElem?_eq_getElem hlt;have:=h.m j _ _ hx hj;have:=h.ub hc d (j+1) _ Oq hj;omega
def q55 {rows cols:Int} {st ix:List Int} {vl:List Nat} (hl:st.length≤9223372036854775807) (hli:ix.length≤9223372036854775807) (hlv:vl.length≤9223372036854775807) (hu:∀ x ∈ vl,x < 18446744073709551616) :
  ACt 81 [q2M rows cols st ix vl] (iv (q2n rows cols st ix vl)):=by
 have c6:¬ MSz rows cols ix→q2n rows cols st ix vl=6:=fun h=>if_neg h;have c1:MSz rows cols ix→¬ (MPt cols st ix vl∧MIx rows st ix)→q2n rows cols st ix vl=1:=fun h h2=>by unfold q2n; rw [if_pos h,if_neg h2]
 have c0:MSz rows cols ix→MPt cols st ix vl∧MIx rows st ix→q2n rows cols st ix vl=if ∀ x ∈ vl,q0J x then 0 else 4:=fun h h2=>by unfold q2n; rw [if_pos h,if_pos h2]
 generalize q2n rows cols st ix vl=res at *;unfold q2M;refine ac0 Tryz.func81 Tryz.ntmps81 [.tmp 2] ?_;refine wk ?_
 by_cases h1:rows < 0
 ·refine wk1 h1 ?_;rw [c6 fun h=>h.r0 h1]
 by_cases h2:200 < rows
 ·refine wk1 (x2 h1 h2) ?_;rw [c6 fun h=>h.r1 h2]
 by_cases h3:cols < 0
 ·refine wk1 (x3 h1 h2 h3) ?_;rw [c6 fun h=>h.c0 h3]
 by_cases h4:200 < cols
 ·refine wk1 (x4 h1 h2 h3 h4) ?_;rw [c6 fun h=>h.c1 h4]
 by_cases h5:(10000:Int) < ix.length
 ·refine wk1 (x5 h1 h2 h3 h4 h5) ?_;rw [c6 fun h=>h.i1 h5]
 refine wk1 (x5 h1 h2 h3 h4 h5) ?_;have hz:MSz rows cols ix:=⟨h1,h2,h3,h4,h5⟩;obtain ⟨n,rfl⟩:∃ n:Nat,cols=n:=⟨cols.toNat,by omega⟩;refine wk ?_;have w0:IntKind.i64.wrap ((n:Int)+1)=(n:Int)+1:=i64_in Oq Oq
 by_cases hv:vl.length=ix.length
 case neg =>
  have e1:((vl.length:Int) != ix.length)=true:=by simp; omega
  refine wk1 e1 ?_;rw [c1 hz fun h=>hv h.1.v]
 have e1:((vl.length:Int) != ix.length)=false:=by simp; omega
 by_cases hs:st.length=n+1
 case neg =>
  have e2:((st.length:Int) != (n:Int)+1)=true:=by simp; omega
  refine wk1 (x3 e1 w0 e2) ?_;rw [c1 hz fun h=>by have:=h.1.s; omega]
 have e2:((st.length:Int) != (n:Int)+1)=false:=by simp; omega
 obtain ⟨x0,hx0⟩:∃ x,st[0]?=some x:=⟨_,List.getElem?_eq_getElem Oq⟩;obtain ⟨xn,hxn⟩:∃ x,st[n]?=some x:=⟨_,List.getElem?_eq_getElem Oq⟩
 by_cases h0:x0=0
 case neg =>
  have e3:(x0 != 0)=true:=by simpa using h0
  refine wk1 (x5 e1 w0 e2 hx0 e3) ?_;rw [c1 hz fun h=>by have:=h.1.f; rw [hx0] at this; exact h0 (Option.some.inj this)]
 subst h0;have e3:((0:Int) != 0)=false:=rfl
 by_cases hn:xn=ix.length
 case neg =>
  have e4:(xn != (ix.length:Int))=true:=by simpa using hn
  refine wk1 (x6 e1 w0 e2 hx0 e3 (x2 hxn e4)) ?_;rw [c1 hz fun h=>by have:=h.1.l; rw [Int.toNat_natCast,hxn] at this; exact hn (Option.some.inj this)]
 subst hn;have e4:((ix.length:Int) != (ix.length:Int))=false:=by simp
 refine wk1 (x6 e1 w0 e2 hx0 e3 (x2 hxn e4)) ?_;have hp:∀ {j:Nat} {x:Int},(∀ (j:Nat) (x y:Int),st[j]?=some x→st[j+1]?=some y→x≤y)→MPt n st ix vl:=fun hm=>⟨hv,by omega,hx0,by rw [Int.toNat_natCast]; exact hxn,hm⟩;refine q3p [1,3,4] Lk ?_;refine wk ?_;refine q0A (fun i=>i≤n∧∀ j x y,j < i→st[j]?=some x→st[j+1]?=some y→x≤y) [1] [1] Lk Lk (fun i:Nat=>[(4,iv i)]) (fun _=>[]) (fun i=>n-i) 0 ⟨Nat.zero_le _,by omega⟩ ?_ ?_
 ·refine LeM [] rfl rfl ?_;refine Zz ?_
  rfl
 ·rintro i ⟨hi,hr⟩;refine wk ?_
  by_cases hlt:i < n
  ·have hlt':(i:Int) < n:=by omega
   refine wk1 hlt' ?_;obtain ⟨x,hx⟩:∃ x,st[i]?=some x:=⟨_,List.getElem?_eq_getElem Oq⟩;obtain ⟨y,hy⟩:∃ x,st[i+1]?=some x:=⟨_,List.getElem?_eq_getElem Oq⟩;have wi:IntKind.i64.wrap ((i:Int)+1)=((i+1:Nat):Int):=by rw [i64_in (by omega) (by omega)]; omega
   by_cases hxy:y < x
   ·refine wk1 (x4 hx hy wi hxy) ?_;rw [c1 hz fun h=>by have:=h.1.m i x y hx hy; omega]
   ·refine wk1 (x4 hx hy wi hxy) ?_;refine ⟨i+1,⟨by omega,fun j x' y' hj hx' hy'=>?_⟩,by omega,?_⟩
    ·by_cases hji:j=i
     ·subst hji;rw [hx] at hx'; rw [hy] at hy';cases hx'; cases hy'; omega
     ·exact hr j x' y' Oq hx' hy'
    ·refine LeM [] rfl rfl ?_;exact Zy
  ·have hlt':¬ (i:Int) < n:=by omega
   refine wk1 hlt' ?_;obtain rfl:i=n:=by omega
   have hP:MPt i st ix vl:=⟨hv,by omega,hx0,by rw [Int.toNat_natCast]; exact hxn,fun j x y hx hy=>hr j x y (by have:=(List.getElem?_eq_some_iff.1 hy).1; omega) hx hy⟩;clear hr hp hlt hlt';refine wk ?_;refine q0A (fun j=>j≤i∧∀ j' x y,j' < j→st[j']?=some x→st[j'+1]?=some y→∀ k:Nat,x≤k→(k:Int) < y→MIx1 rows ix x k) [1] [1] Lk Lk (fun j:Nat=>[(5,iv j)]) (fun _=>[]) (fun j=>i-j) 0 ⟨Nat.zero_le _,by omega⟩ ?_ ?_
   ·refine LeM [] rfl rfl ?_;refine Zz ?_
    rfl
   ·rintro j ⟨hj,hr⟩;refine wk ?_
    by_cases hlt:j < i
    ·have hlt':(j:Int) < i:=by omega
     refine wk1 hlt' ?_;obtain ⟨x,hx⟩:∃ x,st[j]?=some x:=⟨_,List.getElem?_eq_getElem Oq⟩;obtain ⟨y,hy⟩:∃ x,st[j+1]?=some x:=⟨_,List.getElem?_eq_getElem Oq⟩;have wi:IntKind.i64.wrap ((j:Int)+1)=((j+1:Nat):Int):=by rw [i64_in (by omega) (by omega)]; omega
     have hxy:=hP.m j x y hx hy;obtain ⟨a,rfl⟩:∃ a:Nat,x=a:=⟨x.toNat,by have:=hP.nn j x hx; omega⟩;obtain ⟨b,rfl⟩:∃ b:Nat,y=b:=⟨y.toNat,by omega⟩;have hb:b≤ix.length:=by have:=hP.ub (by omega) (i-(j+1)) (j+1) b (by rw [Int.toNat_natCast]; omega) hy; omega
     refine wk1 hx ?_;refine q0A (fun k=>a≤k∧k≤b∧∀ k':Nat,a≤k'→k' < k→MIx1 rows ix a k') [1,5] [1] Lk Lk (fun k:Nat=>[(6,iv k)]) (fun _=>[]) (fun k=>b-k) a ⟨Nat.le_refl _,by omega,by omega⟩ ?_ ?_
     ·refine LeM [] rfl rfl ?_;exact Zy
     ·rintro k ⟨hk,hkb,hrk⟩;refine wk ?_
      by_cases hltk:k < b
      ·have hltk':(k:Int) < b:=by omega
       refine wk1 (x3 wi hy hltk') ?_;obtain ⟨v,hv⟩:∃ v,ix[k]?=some v:=⟨_,List.getElem?_eq_getElem Oq⟩;have fin:(¬ (0≤v∧v < rows∧((a:Int) < k→∀ u,ix[k-1]?=some u→u < v)))→res=1:=fun hb'=>c1 hz fun h=>hb' (h.2 j a b hx hy k Oq Oq v hv);have ok:0≤v→v < rows→((a:Int) < k→∀ u,ix[k-1]?=some u→u < v)→∀ k':Nat,a≤k'→k' < k+1→MIx1 rows ix a k':=fun q1 q2 q3 k' hk' hk1=>by
        by_cases hkk:k'=k
        ·subst hkk;intro v' hv';rw [hv] at hv'; cases hv';exact ⟨q1,q2,q3⟩
        ·exact hrk k' hk' Oq
       by_cases hv0:v < 0
       ·refine wk1 (x2 hv hv0) ?_;rw [fin fun h=>by omega]
       ·by_cases hvr:rows≤v
        ·refine wk1 (x3 hv hv0 hvr) ?_;rw [fin fun h=>by omega]
        ·by_cases hak:(a:Int) < k
         ·obtain ⟨k,rfl⟩:∃ k',k=k'+1:=⟨k-1,by omega⟩;obtain ⟨u,hu⟩:∃ v,ix[k]?=some v:=⟨_,List.getElem?_eq_getElem Oq⟩;have wk:IntKind.i64.wrap (((k+1:Nat):Int)-1)=k:=by rw [i64_in (by omega) (by omega)]; omega
          by_cases huv:v≤u
          ·refine wk1 (x6 hv hv0 hvr hx hak (x3 @wk hu huv)) ?_;rw [fin fun h=>by have:=h.2.2 hak u hu; omega]
          ·refine wk1 (x6 hv hv0 hvr hx hak (x3 @wk hu huv)) ?_;refine ⟨k+1+1,⟨by omega,by omega,ok Oq Oq fun _ u' hu'=>?_⟩,by omega,?_⟩
           ·rw [Nat.add_sub_cancel,hu] at hu'; cases hu'; omega
           ·refine LeM [] rfl rfl ?_;refine Zz ?_;omega
         ·refine wk1 (x5 hv hv0 hvr hx hak) ?_;refine ⟨k+1,⟨by omega,by omega,ok Oq Oq fun h=>absurd h hak⟩,by omega,?_⟩;refine LeM [] rfl rfl ?_;refine Zz ?_;omega
      ·have hltk':¬ (k:Int) < b:=by omega
       refine wk1 (x3 wi hy hltk') ?_;refine ⟨j+1,⟨by omega,fun j' x' y' hj' hx' hy' k' h1' h2'=>?_⟩,by omega,?_⟩
       ·by_cases hji:j'=j
        ·subst hji;rw [hx] at hx'; rw [hy] at hy';cases hx'; cases hy';exact hrk k' Oq Oq
        ·exact hr j' x' y' Oq hx' hy' k' h1' h2'
       ·refine LeM [] rfl rfl ?_;exact Zy
    ·have hlt':¬ (j:Int) < i:=by omega
     refine wk1 hlt' ?_;obtain rfl:j=i:=by omega
     have hX:MIx rows st ix:=fun j' x y hx hy=>hr j' x y (by have:=(List.getElem?_eq_some_iff.1 hy).1; omega) hx hy;have c0:=c0 hz ⟨hP,hX⟩;have C1:=(qcj hlv hu);refine wk ?_
     by_cases hf:∀ x ∈ vl,q0J x
     ·rw [if_pos hf] at c0;have ef:∀ (i:Decidable (∀ x ∈ vl,q0J x)),@decide _ i=true:=fun _=>decide_eq_true hf;refine wk1 ef ?_;rw [c0]
     ·rw [if_neg hf] at c0;have ef:∀ (i:Decidable (∀ x ∈ vl,q0J x)),@decide _ i=false:=fun _=>decide_eq_false hf;refine wk1 ef ?_;rw [c0]
def q8q (ix:List Int) (i:Int) (a b:Nat):Option Nat:=(List.range' a (b-a)).find? fun k=>decide (ix[k]?=some i)
def qlH {ix:List Int} {i v:Int} {a b:Nat} (h:a < b) (hv:ix[a]?=some v) (hn:¬ v=i):q8q ix i a b=q8q ix i (a+1) b:=by
 unfold q8q;rw [show b-a=(b-(a+1))+1 by omega,List.range'_succ,List.find?_cons,hv];have:decide (some v=some i)=false:=decide_eq_false fun e=>hn (Option.some.inj e);rw [this]
def qfi {ix:List Int} {v:Int} {a b:Nat} (h:a < b) (hv:ix[a]?=some v):q8q ix v a b=some a:=by
 unfold q8q;rw [show b-a=(b-(a+1))+1 by omega,List.range'_succ,List.find?_cons,hv];have:decide (some v=some v)=true:=decide_eq_true rfl;rw [this]
def qfj {ix:List Int} {v:Int} {a b:Nat} (h:b≤a):q8q ix v a b=none:=by
 unfold q8q;rw [show b-a=0 by omega]; rfl
def qg5 (st ix:List Int) (i:Int) (j:Nat):Option Nat:=q8q ix i (st.getD j 0).toNat (st.getD (j+1) 0).toNat
open Classical in
noncomputable def qqo (rows cols:Int) (st ix:List Int) (i j:Int):Bool:=if 0≤i∧i < rows∧0≤j∧j < cols then (qg5 st ix i j.toNat).isSome else false
open Classical in
noncomputable def atM (rows cols:Int) (st ix:List Int) (vl:List Nat) (i j:Int):Nat:=if q2n rows cols st ix vl=0∧0≤j∧j < cols then (match qg5 st ix i j.toNat with | some k=>vl.getD k 0 | none=>0) else 0
def chk0 {rows cols:Int} {st ix:List Int} {vl:List Nat} (h:q2n rows cols st ix vl=0):MSz rows cols ix∧MPt cols st ix vl∧MIx rows st ix∧∀ x ∈ vl,q0J x:=by
 unfold q2n at h
 split at h
 ·split at h
  ·split at h
   ·exact ⟨‹_›,(‹_∧_›).1,(‹_∧_›).2,‹_›⟩
   ·cases h
  ·cases h
 ·cases h
def MPt.col {n:Nat} {st ix:List Int} {vl:List Nat} (h:MPt n st ix vl) {j:Nat} (hj:j < n):∃ a b:Nat,st[j]?=some (a:Int)∧st[j+1]?=some (b:Int)∧a≤b∧b≤ix.length∧(st.getD j 0).toNat=a∧(st.getD (j+1) 0).toNat=b:=by
 have hs:=h.s;obtain ⟨x,hx⟩:∃ x,st[j]?=some x:=⟨_,List.getElem?_eq_getElem Oq⟩;obtain ⟨y,hy⟩:∃ x,st[j+1]?=some x:=⟨_,List.getElem?_eq_getElem Oq⟩;have h1:=h.nn j x hx;have h2:=h.nn (j+1) y hy;have h3:=h.m j x y hx hy;have h4:=h.ub (by omega) (n-(j+1)) (j+1) y (by rw [Int.toNat_natCast]; omega) hy;refine ⟨x.toNat,y.toNat,by rw [hx]; congr 1; omega,by rw [hy]; congr 1; omega,by omega,by omega,?_,?_⟩
 ·rw [List.getD_eq_getElem?_getD,hx]; rfl
 ·rw [List.getD_eq_getElem?_getD,hy]; rfl
def qch {rows cols i j:Int} {st ix:List Int} {vl:List Nat} (hc:cols≤200) (hi:ix.length≤10000) (hP:MPt cols st ix vl):ACt 96 [q2M rows cols st ix vl,iv i,iv j] (bv (qqo rows cols st ix i j)):=by
 have c0:¬ (0≤i∧i < rows∧0≤j∧j < cols)→qqo rows cols st ix i j=false:=fun h=>if_neg h;have c1:(0≤i∧i < rows∧0≤j∧j < cols)→qqo rows cols st ix i j=(qg5 st ix i j.toNat).isSome:=fun h=>if_pos h;generalize qqo rows cols st ix i j=res at *;unfold q2M;refine ac0 Tryz.func96 Tryz.ntmps96 [.tmp 6] ?_;refine wk ?_
 by_cases h1:i < 0
 ·refine wk1 h1 ?_;rw [c0 fun h=>by omega]
 by_cases h2:rows≤i
 ·refine wk1 (x2 h1 h2) ?_;rw [c0 fun h=>by omega]
 by_cases h3:j < 0
 ·refine wk1 (x3 h1 h2 h3) ?_;rw [c0 fun h=>by omega]
 by_cases h4:cols≤j
 ·refine wk1 (x4 h1 h2 h3 h4) ?_;rw [c0 fun h=>by omega]
 refine wk1 (x4 h1 h2 h3 h4) ?_;have d1:=c1 ⟨by omega,by omega,by omega,by omega⟩;obtain ⟨j,rfl⟩:∃ j':Nat,j=j':=⟨j.toNat,by omega⟩;obtain ⟨n,rfl⟩:∃ n:Nat,cols=n:=⟨cols.toNat,by omega⟩;obtain ⟨a,b,hx,hy,hab,hb,ea,eb⟩:=hP.col (show j < n by omega);rw [Int.toNat_natCast] at d1;unfold qg5 at d1;rw [ea,eb] at d1;have wi:IntKind.i64.wrap ((j:Int)+1)=((j+1:Nat):Int):=by rw [i64_in (by omega) (by omega)]; omega
 refine wk1 hx ?_;refine q3p [1,2,3,7] Lk ?_;refine wk ?_;refine q0A (fun k=>a≤k∧k≤b∧q8q ix i a b=q8q ix i k b) [1,2,3] [3] Lk Lk (fun k:Nat=>[(7,iv k)]) (fun _=>[]) (fun k=>b-k) a ⟨Nat.le_refl _,hab,rfl⟩ ?_ ?_
 ·refine LeM [] rfl rfl ?_;exact Zy
 ·rintro k ⟨hk,hkb,hr⟩;refine wk ?_
  by_cases hlt:k < b
  ·have hlt':(k:Int) < b:=by omega
   refine wk1 (x3 wi hy hlt') ?_;obtain ⟨v,hv⟩:∃ v,ix[k]?=some v:=⟨_,List.getElem?_eq_getElem Oq⟩
   by_cases hvi:v=i
   ·subst hvi;have e1:(v == v)=true:=by simp
    refine wk1 (x2 hv e1) ?_;rw [d1,hr,qfi hlt hv]; rfl
   ·have e1:(v == i)=false:=by simpa using hvi
    refine wk1 (x2 hv e1) ?_;refine ⟨k+1,⟨by omega,by omega,by rw [hr,qlH hlt hv hvi]⟩,by omega,?_⟩;refine LeM [] rfl rfl ?_;refine Zz ?_;omega
  ·have hlt':¬ (k:Int) < b:=by omega
   refine wk1 (x3 wi hy hlt') ?_;rw [d1,hr,qfj (by omega)]; rfl
def qrj {rows cols i j:Int} {st ix:List Int} {vl:List Nat} (hl:st.length≤9223372036854775807) (hli:ix.length≤9223372036854775807) (hlv:vl.length≤9223372036854775807) (hu:∀ x ∈ vl,x < 18446744073709551616):ACt 93 [q2M rows cols st ix vl,iv i,iv j] (uv (atM rows cols st ix vl i j:Nat)):=by
 have c0:¬ (q2n rows cols st ix vl=0∧0≤j∧j < cols)→atM rows cols st ix vl i j=0:=fun h=>if_neg h;have c1:(q2n rows cols st ix vl=0∧0≤j∧j < cols)→atM rows cols st ix vl i j=(match qg5 st ix i j.toNat with | some k=>vl.getD k 0 | none=>0):=fun h=>if_pos h;have hA:=q55 (rows:=rows) (cols:=cols) hl hli hlv hu;generalize atM rows cols st ix vl i j=res at *;unfold q2M at *;refine ac0 Tryz.func93 Tryz.ntmps93 [.tmp 6] ?_;refine wk ?_
 by_cases hz:q2n rows cols st ix vl=0
 case neg =>
  have e1:(q2n rows cols st ix vl != 0)=true:=by simpa using hz
  refine wk1 e1 ?_;rw [c0 fun h=>hz h.1]; rfl
 have e1:(q2n rows cols st ix vl != 0)=false:=by simpa using hz
 by_cases h3:j < 0
 ·refine wk1 (x2 e1 h3) ?_;rw [c0 fun h=>by omega]; rfl
 by_cases h4:cols≤j
 ·refine wk1 (x3 e1 h3 h4) ?_;rw [c0 fun h=>by omega]; rfl
 refine wk1 (x3 e1 h3 h4) ?_;have d1:=c1 ⟨hz,by omega,by omega⟩;obtain ⟨hz1,hP,hX,hfn⟩:=chk0 hz;have hc:=hz1.c1;have hi:=hz1.i1;obtain ⟨j,rfl⟩:∃ j':Nat,j=j':=⟨j.toNat,by omega⟩;obtain ⟨n,rfl⟩:∃ n:Nat,cols=n:=⟨cols.toNat,by omega⟩;obtain ⟨a,b,hx,hy,hab,hb,ea,eb⟩:=hP.col (show j < n by omega);rw [Int.toNat_natCast] at d1;unfold qg5 at d1;rw [ea,eb] at d1;have wi:IntKind.i64.wrap ((j:Int)+1)=((j+1:Nat):Int):=by rw [i64_in (by omega) (by omega)]; omega
 refine wk1 hx ?_;refine q3p [1,2,3,7] Lk ?_;refine wk ?_;refine q0A (fun k=>a≤k∧k≤b∧q8q ix i a b=q8q ix i k b) [1,2,3] [3] Lk Lk (fun k:Nat=>[(7,iv k)]) (fun _=>[]) (fun k=>b-k) a ⟨Nat.le_refl _,hab,rfl⟩ ?_ ?_
 ·refine LeM [] rfl rfl ?_;exact Zy
 ·rintro k ⟨hk,hkb,hr⟩;refine wk ?_
  by_cases hlt:k < b
  ·have hlt':(k:Int) < b:=by omega
   refine wk1 (x3 wi hy hlt') ?_;obtain ⟨v,hv⟩:∃ v,ix[k]?=some v:=⟨_,List.getElem?_eq_getElem Oq⟩
   by_cases hvi:v=i
   ·subst hvi;have e1:(v == v)=true:=by simp
    refine wk1 (x2 hv e1) ?_;obtain ⟨u,hu'⟩:∃ u,vl[k]?=some u:=⟨_,List.getElem?_eq_getElem (by have:=hP.v; omega)⟩;refine wk1 hu' ?_;rw [d1,hr,qfi hlt hv];simp only [List.getD_eq_getElem?_getD,hu']; rfl
   ·have e1:(v == i)=false:=by simpa using hvi
    refine wk1 (x2 hv e1) ?_;refine ⟨k+1,⟨by omega,by omega,by rw [hr,qlH hlt hv hvi]⟩,by omega,?_⟩;refine LeM [] rfl rfl ?_;refine Zz ?_;omega
  ·have hlt':¬ (k:Int) < b:=by omega
   refine wk1 (x3 wi hy hlt') ?_;rw [d1,hr,qfj (by omega)]; rfl
def qbW (e:Int × Int × Nat):PV:=.ag [iv e.1,iv e.2.1,uv e.2.2]
def pE (l:List (Int × Int × Nat)):PV:=.sl (some 3) (l.map qbW)
def qd7 (ix:List Int) (vl:List Nat) (j a b:Nat):List (Int × Int × Nat):=(List.range' a (b-a)).map fun k=>(ix.getD k 0,(j:Int),vl.getD k 0)
def qdK (st ix:List Int) (vl:List Nat) (n:Nat):List (Int × Int × Nat):=(List.range n).flatMap fun j=>qd7 ix vl j (st.getD j 0).toNat (st.getD (j+1) 0).toNat
open Classical in
noncomputable def entM (rows cols:Int) (st ix:List Int) (vl:List Nat):List (Int × Int × Nat):=if q2n rows cols st ix vl=0 then qdK st ix vl cols.toNat else []
def qsx {ix:List Int} {vl:List Nat} {j a k:Nat} {v:Int} {u:Nat} (h:a≤k) (hv:ix[k]?=some v) (hu:vl[k]?=some u):qd7 ix vl j a (k+1)=qd7 ix vl j a k ++ [(v,(j:Int),u)]:=by
 unfold qd7;rw [show k+1-a=(k-a)+1 by omega,List.range'_1_concat,List.map_append,show a+(k-a)=k by omega];simp [List.getD_eq_getElem?_getD,hv,hu]
def qsy {ix:List Int} {vl:List Nat} {j a:Nat}:qd7 ix vl j a a=[]:=by simp [qd7]
def qbr {ix:List Int} {vl:List Nat} {j a b:Nat}:(qd7 ix vl j a b).length=b-a:=by simp [qd7]
def qlM {st ix:List Int} {vl:List Nat} {j a b:Nat} (ha:(st.getD j 0).toNat=a) (hb:(st.getD (j+1) 0).toNat=b):qdK st ix vl (j+1)=qdK st ix vl j ++ qd7 ix vl j a b:=by
 simp only [qdK,List.range_succ,List.flatMap_append,List.flatMap_cons,List.flatMap_nil,List.append_nil,ha,hb]
def q5e {n:Nat} {st ix:List Int} {vl:List Nat} (hP:MPt n st ix vl):∀ j,j≤n→(qdK st ix vl j).length=(st.getD j 0).toNat
 | 0,_=>by simp [qdK,List.getD_eq_getElem?_getD,hP.f]
 | j+1,hj=>by
  obtain ⟨a,b,hx,hy,hab,hb,ea,eb⟩:=hP.col (show j < n by omega);rw [qlM ea eb,List.length_append,q5e hP j (by omega),qbr,ea,eb]; omega
def clE {l:List (Int × Int × Nat)}:ClL (l.map qbW):=fun x hx=>by
 obtain ⟨e,_,rfl⟩:=List.mem_map.1 hx;intro y hy;simp only [List.mem_cons,List.not_mem_nil,or_false] at hy
 rcases hy with rfl | rfl | rfl <;> trivial
def qhB {τ:Nat→Option Nat} {h h':Hp} {l m:List PV} {k:List (Int × Int × Nat)} (he:l=m) (hm:m=k.map qbW):LeL τ h h' l m:=q0Y he (by rw [hm]; exact clE)
def qgQ {rows cols:Int} {st ix:List Int} {vl:List Nat}:(q2n rows cols st ix vl=0→entM rows cols st ix vl=qdK st ix vl cols.toNat)∧(¬ q2n rows cols st ix vl=0→entM rows cols st ix vl=[]):=⟨fun h=>if_pos h,fun h=>if_neg h⟩
def q9r {rows cols:Int} {st ix:List Int} {vl:List Nat} (hl:st.length≤9223372036854775807) (hli:ix.length≤9223372036854775807) (hlv:vl.length≤9223372036854775807) (hu:∀ x ∈ vl,x < 18446744073709551616):ACt 227 [q2M rows cols st ix vl] (pE (entM rows cols st ix vl)):=by
 have hA:=q55 (rows:=rows) (cols:=cols) hl hli hlv hu;obtain ⟨c1,c0⟩:=qgQ (rows:=rows) (cols:=cols) (st:=st) (ix:=ix) (vl:=vl);generalize entM rows cols st ix vl=res at *;unfold q2M at *;unfold pE;refine ac0 Tryz.func227 Tryz.ntmps227 [.tmp 2] ?_;refine wk ?_
 by_cases hz:q2n rows cols st ix vl=0
 case neg =>
  have e1:(q2n rows cols st ix vl != 0)=true:=by simpa using hz
  exact wk1 (x2 e1 (c0 hz)) trivial
 have e1:(q2n rows cols st ix vl != 0)=false:=by simpa using hz
 refine wk1 e1 ?_;have d1:=c1 hz;obtain ⟨hz1,hP,hX,hfn⟩:=chk0 hz;have hc:=hz1.c1;have hi:=hz1.i1;obtain ⟨n,rfl⟩:∃ n:Nat,cols=n:=⟨cols.toNat,by have:=hz1.c0; omega⟩;rw [Int.toNat_natCast] at d1;subst d1;refine wk ?_;refine q0A (fun j=>j≤n) [1] [1] Lk Lk (fun j:Nat=>[(4,iv j),(3,.ow 1001 (some 3) 0 (st.getD j 0).toNat)]) (fun j=>[(1001,⟨224,some 3,(qdK st ix vl j).map qbW,false⟩)]) (fun j=>n-j) 0 (Nat.zero_le _) ?_ ?_
 ·refine LeM [(1001,none)] rfl rfl ?_;refine Zz ?_;exact ⟨⟨rfl,by simp [List.getD_eq_getElem?_getD,hP.f]⟩,rfl⟩
 ·intro j hj
  by_cases hlt:j < n
  ·have hlt':(j:Int) < n:=by omega
   obtain ⟨a,b,hx,hy,hab,hb,ea,eb⟩:=hP.col hlt;have hUl:=q5e hP j Oq;rw [ea] at hUl;rw [ea];have wi:IntKind.i64.wrap ((j:Int)+1)=((j+1:Nat):Int):=by rw [i64_in (by omega) (by omega)]; omega
   refine wk1 (x2 hlt' hx) ?_;refine q0A (fun k=>a≤k∧k≤b) [1,4] [1] Lk Lk (fun k:Nat=>[(5,iv k),(3,.ow 1002 (some 3) 0 k)]) (fun k=>[(1002,⟨224,some 3,(qdK st ix vl j ++ qd7 ix vl j a k).map qbW,false⟩)]) (fun k=>b-k) a ⟨Nat.le_refl _,hab⟩ ?_ ?_
   ·refine LeM [(1002,some 1001)] rfl rfl ?_;simp -implicitDefEqProofs (disch:=omega) only [go_sem,Nat.reduceEqDiff,Nat.reduceAdd,↓reduceIte,qsy,List.append_nil];exact qhB rfl rfl
   ·rintro k ⟨hk,hkb⟩;refine wk ?_
    by_cases hltk:k < b
    ·have hltk':(k:Int) < b:=by omega
     refine wk1 (x3 wi hy hltk') ?_;obtain ⟨v,hv⟩:∃ v,ix[k]?=some v:=⟨_,List.getElem?_eq_getElem Oq⟩;obtain ⟨u,hu'⟩:∃ u,vl[k]?=some u:=⟨_,List.getElem?_eq_getElem (by have:=hP.v; omega)⟩;have hlen:(qdK st ix vl j ++ qd7 ix vl j a k).length=k:=by rw [List.length_append,hUl,qbr]; omega
     refine wk1 (x3 hv hu' hlen) ?_;refine ⟨k+1,⟨by omega,by omega⟩,by omega,?_⟩;rw [qsx hk hv hu',← List.append_assoc];refine LeM [(1002,some 44)] rfl rfl ?_;refine Zz ?_;exact ⟨by omega,qhB (by simp [qbW]) rfl⟩
    ·have hltk':¬ (k:Int) < b:=by omega
     refine wk1 (x3 wi hy hltk') ?_;obtain rfl:k=b:=by omega
     refine ⟨j+1,by omega,by omega,?_⟩;rw [qlM ea eb,eb];refine LeM [(1001,some 1002)] rfl rfl ?_;refine Zz ?_;exact qhB rfl rfl
  ·have hlt':¬ (j:Int) < n:=by omega
   obtain rfl:j=n:=by omega
   refine q3J (LeM [] rfl rfl (xs:=[(1,.pt 1 0 0),(4,iv j),(3,pE (qdK st ix vl j))]) (kv:=[]) (bs:=[(1,⟨52,some 5,[.ag [iv rows,iv j,pI st,pI ix,pF vl]],false⟩)]) (kb:=[]) ?_) ?_
   ·unfold pE
    try refine Zz ?_
    refine q1z (T:=224) rfl clE (fun i hi=>?_) ?_
    ·have hi:some i=some 1001:=hi;cases hi
     rfl
    ·rw [List.drop_zero]; exact List.take_of_length_le (by rw [List.length_map,q5e hP j (by omega)]; exact Nat.le_refl _)
   unfold pE;exact wk1 hlt' trivial
def tC (f:Nat→Nat→Option Nat) (j:Nat) (p:List Int × List Nat):Nat→List Int × List Nat
 | 0=>p
 | i+1=>match f j i with
  | some x=>((tC f j p i).1 ++ [(i:Int)],(tC f j p i).2 ++ [x])
  | none=>tC f j p i
def tM (f:Nat→Nat→Option Nat) (R:Nat):Nat→List Int × List Int × List Nat
 | 0=>([0],[],[])
 | j+1=>((tM f R j).1 ++ [((tC f j (tM f R j).2 R).1.length:Int)],tC f j (tM f R j).2 R)
def pT (R C:Nat) (f:Nat→Nat→Option Nat):PV:=q2M R C (tM f R C).1 (tM f R C).2.1 (tM f R C).2.2
def qay {f:Nat→Nat→Option Nat} {j:Nat} {p:List Int × List Nat} (hp:p.1.length=p.2.length):∀ i,(tC f j p i).1.length=(tC f j p i).2.length∧p.1.length≤(tC f j p i).1.length∧(tC f j p i).1.length≤p.1.length+i
 | 0=>⟨hp,Nat.le_refl _,Nat.le_refl _⟩
 | i+1=>by
  have:=qay (f:=f) (j:=j) hp i;simp only [tC]
  split
  ·simp only [List.length_append,List.length_cons,List.length_nil]; omega
  ·omega
def q18 {f:Nat→Nat→Option Nat} {R:Nat}:∀ j,(tM f R j).1.length=j+1∧(tM f R j).2.1.length=(tM f R j).2.2.length∧(tM f R j).2.1.length≤j*R
 | 0=>⟨rfl,rfl,by simp [tM]⟩
 | j+1=>by
  have h1:=q18 (f:=f) (R:=R) j;have h2:=qay (f:=f) (j:=j) h1.2.1 R;simp only [tM];refine ⟨by simp [h1.1],h2.1,?_⟩;rw [Nat.succ_mul]; omega
def pkL (l:List (Int × Int × Nat)) (R C:Nat):Nat→List Int
 | 0=>List.replicate (R*C) 0
 | i+1=>match l[i]? with
  | some e=>(pkL l R C i).set (e.2.1.toNat*R+e.1.toNat) ((i:Int)+1)
  | none=>pkL l R C i
def q9t {l:List (Int × Int × Nat)} {R C:Nat}:∀ i,(pkL l R C i).length=R*C
 | 0=>by simp [pkL]
 | i+1=>by
  have:=q9t (l:=l) (R:=R) (C:=C) i;simp only [pkL]
  split <;> simp [this]
def qfA {l:List (Int × Int × Nat)} {R C:Nat}:∀ i,∀ x ∈ pkL l R C i,0≤x∧x≤i
 | 0,x,hx=>by simp [pkL] at hx; omega
 | i+1,x,hx=>by
  simp only [pkL] at hx
  split at hx
  ·rcases List.mem_or_eq_of_mem_set hx with hx | hx
   ·have:=qfA i x hx; omega
   ·omega
  ·have:=qfA i x hx; omega
def pkF (l:List (Int × Int × Nat)) (R C:Nat) (j i:Nat):Option Nat:=match (pkL l R C l.length)[j*R+i]? with | some k=>if 0 < k then (l[(k-1).toNat]?).map (·.2.2) else none | none=>none
def qfF {j C i R:Nat} (hj:j < C) (hi:i < R):j*R+i < R*C:=by
 have:(j+1)*R≤C*R:=Nat.mul_le_mul_right _ hj;rw [Nat.succ_mul,Nat.mul_comm C R] at this;omega
def qhz {R C:Nat} {l:List (Int × Int × Nat)} (hR:R≤1000) (hC:C≤1000) (hl:l.length≤1000000) (hin:∀ e ∈ l,(0≤e.1∧e.1 < R)∧0≤e.2.1∧e.2.1 < C) :
  ACt 228 [iv R,iv C,pE l] (pT R C (pkF l R C)):=by
 have hRC:R*C≤1000*1000:=Nat.mul_le_mul hR hC;have wRC:IntKind.i64.wrap ((R:Int)*C)=((R*C:Nat):Int):=by
  rw [← Int.natCast_mul]; exact i64_in (by omega) (by omega)
 unfold pE;refine ac0 Tryz.func228 Tryz.ntmps228 [.cell 6 52] ?_;refine wk1 wRC ?_;refine q3p [0,1,2,6,7,8,9] Lk ?_;refine wk ?_;refine q0A (fun i=>i≤l.length) [0,1,2,6,7,8] [6,7,15] Lk Lk (fun i:Nat=>[(9,iv i)]) (fun i=>[(20,⟨3,none,(pkL l R C i).map fun z=>iv z,false⟩)]) (fun i=>l.length-i) 0 (Nat.zero_le _) ?_ ?_
 ·refine LeM [] rfl rfl ?_;refine Zz ?_;exact ⟨rfl,rfl⟩
 ·intro i hi;refine wk ?_
  by_cases hlt:i < l.length
  ·have hlt':(i:Int) < l.length:=by omega
   refine wk1 hlt' ?_;obtain ⟨⟨er,ec,ev⟩,he⟩:∃ e,l[i]?=some e:=⟨_,List.getElem?_eq_getElem hlt⟩;have hr:=hin _ (List.mem_of_getElem? he);simp only at hr;obtain ⟨r,rfl⟩:∃ r:Nat,er=r:=⟨er.toNat,by omega⟩;obtain ⟨c,rfl⟩:∃ c:Nat,ec=c:=⟨ec.toNat,by omega⟩;have hlt2:=qfF (show c < C by omega) (show r < R by omega);have hln:=q9t (l:=l) (R:=R) (C:=C) i;have w1:IntKind.i64.wrap ((c:Int)*R)=((c*R:Nat):Int):=by
    rw [← Int.natCast_mul]; exact i64_in (by omega) (by omega)
   have w2:IntKind.i64.wrap (((c*R:Nat):Int)+r)=((c*R+r:Nat):Int):=by
    rw [← Int.natCast_add]; exact i64_in (by omega) (by omega)
   have w3:IntKind.i64.wrap ((i:Int)+1)=(i:Int)+1:=i64_in Oq Oq;refine wk1 (x6 he @qbW.eq_1 w1 w2 w3 hln) ?_;refine ⟨i+1,by omega,by omega,?_⟩;have ek:pkL l R C (i+1)=(pkL l R C i).set (c*R+r) ((i:Int)+1):=by simp only [pkL,he,Int.toNat_natCast]
   rw [ek];refine LeM [] rfl rfl ?_;refine Zz ?_;omega
  ·have hlt':¬ (i:Int) < l.length:=by omega
   obtain rfl:i=l.length:=by omega
   refine wk1 hlt' ?_;have hln:=q9t (l:=l) (R:=R) (C:=C) l.length;have hub:=qfA (l:=l) (R:=R) (C:=C) l.length;have hf:∀ j i,pkF l R C j i=match (pkL l R C l.length)[j*R+i]? with | some k=>if 0 < k then (l[(k-1).toNat]?).map (·.2.2) else none | none=>none:=fun _ _=>rfl
   generalize pkF l R C=F at *;generalize pkL l R C l.length=cs at *;unfold pT q2M;refine wk ?_;refine q0A (fun j=>j≤C) [0,1,2,6,7,8] [6,20] Lk Lk (fun j:Nat=>[(10,iv j)]) (fun j=>[(7,⟨52,some 5,[.ag [iv R,iv C,.ow 1001 none 0 (tM F R j).1.length,.ow 1002 none 0 (tM F R j).2.1.length,.ow 1003 none 0 (tM F R j).2.2.length]],false⟩),(1001,⟨3,none,(tM F R j).1.map fun z=>iv z,false⟩),(1002,⟨3,none,(tM F R j).2.1.map fun z=>iv z,false⟩),(1003,⟨30,none,(tM F R j).2.2.map fun z:Nat=>uv z,false⟩)]) (fun j=>C-j) 0 (Nat.zero_le _) ?_ ?_
   ·refine LeM [(1001,some 15),(1002,none),(1003,none)] rfl rfl ?_;refine Zz ?_;exact ⟨rfl,⟨rfl,rfl,rfl⟩,rfl,rfl,rfl⟩
   ·intro j hj;have hg:=q18 (f:=F) (R:=R) j;have hjR:j*R≤1000*1000:=Nat.mul_le_mul Oq hR;refine wk ?_
    by_cases hlt:j < C
    ·have hlt':(j:Int) < C:=by omega
     refine wk1 hlt' ?_;refine q0A (fun i=>i≤R) [0,1,2,6,7,8,10] [6,20,1001] Lk Lk (fun i:Nat=>[(11,iv i)]) (fun i=>[(7,⟨52,some 5,[.ag [iv R,iv C,.ow 1001 none 0 (tM F R j).1.length,.ow 1002 none 0 (tC F j (tM F R j).2 i).1.length,.ow 1003 none 0 (tC F j (tM F R j).2 i).2.length]],false⟩),(1002,⟨3,none,(tC F j (tM F R j).2 i).1.map fun z=>iv z,false⟩),(1003,⟨30,none,(tC F j (tM F R j).2 i).2.map fun z:Nat=>uv z,false⟩)]) (fun i=>R-i) 0 (Nat.zero_le _) ?_ ?_
     ·refine LeM [] rfl rfl ?_;refine Zz ?_;exact ⟨rfl,⟨rfl,rfl⟩,rfl,rfl⟩
     ·intro i hi;have hq:=qay (f:=F) (j:=j) hg.2.1 i;refine wk ?_
      by_cases hlt2:i < R
      ·have hlt2':(i:Int) < R:=by omega
       refine wk1 hlt2' ?_;have hcl:=qfF (show j < C by omega) hlt2;have w1:IntKind.i64.wrap ((j:Int)*R)=((j*R:Nat):Int):=by
        rw [← Int.natCast_mul]; exact i64_in (by omega) (by omega)
       have w2:IntKind.i64.wrap (((j*R:Nat):Int)+i)=((j*R+i:Nat):Int):=by
        rw [← Int.natCast_add]; exact i64_in (by omega) (by omega)
       obtain ⟨x,hx⟩:∃ x,cs[j*R+i]?=some x:=⟨_,List.getElem?_eq_getElem Oq⟩;have hxb:=hub x (List.mem_of_getElem? hx);have hfx:=hf j i;rw [hx] at hfx;simp only at hfx;refine wk1 (x4 w1 w2 hx hln) ?_
       by_cases hx0:0 < x
       ·rw [if_pos hx0] at hfx;obtain ⟨k,rfl⟩:∃ k:Nat,x=((k+1:Nat):Int):=⟨(x-1).toNat,by omega⟩;obtain ⟨⟨er,ec,ev⟩,he⟩:∃ e,l[k]?=some e:=⟨_,List.getElem?_eq_getElem Oq⟩;rw [show (((k+1:Nat):Int)-1).toNat=k by omega,he] at hfx;have w3:IntKind.i64.wrap (((k+1:Nat):Int)-1)=(k:Int):=by rw [i64_in (by omega) (by omega)]; omega
        have e0:decide ((0:Int) < ((k+1:Nat):Int))=true:=decide_eq_true hx0;refine wk1 (x4 hx0 w3 he @qbW.eq_1) ?_;have eg:tC F j (tM F R j).2 (i+1)=((tC F j (tM F R j).2 i).1 ++ [(i:Int)],(tC F j (tM F R j).2 i).2 ++ [ev]):=by
         simp only [tC,hfx,Option.map_some]
        refine ⟨i+1,by omega,by omega,?_⟩;rw [eg];refine LeM [(1002,some 68),(1003,some 79)] rfl rfl ?_;refine Zz ?_;omega
       ·rw [if_neg hx0] at hfx;refine wk1 hx0 ?_;have eg:tC F j (tM F R j).2 (i+1)=tC F j (tM F R j).2 i:=by simp only [tC,hfx]
        refine ⟨i+1,by omega,by omega,?_⟩;rw [eg];refine LeM [] rfl rfl ?_;refine Zz ?_;omega
      ·have hlt2':¬ (i:Int) < R:=by omega
       obtain rfl:i=R:=by omega
       refine wk1 hlt2' ?_;refine ⟨j+1,by omega,by omega,?_⟩;refine LeM [(1001,some 87)] rfl rfl ?_;refine Zz ?_;exact ⟨by omega,⟨by simp [tM],rfl,rfl⟩,rfl,rfl,rfl⟩
    ·have hlt':¬ (j:Int) < C:=by omega
     obtain rfl:j=C:=by omega
     exact wk1 hlt' trivial
def q5B {α β:Type} {f g:α→List β}:∀ {l:List α},(∀ x ∈ l,f x=g x)→l.flatMap f=l.flatMap g
 | [],_=>rfl
 | a :: l,h=>by rw [List.flatMap_cons,List.flatMap_cons,h a List.mem_cons_self,q5B fun x hx=>h x (List.mem_cons_of_mem _ hx)]
section
variable {f:Nat→Nat→Option Nat} {R C:Nat}
def tZ (f:Nat→Nat→Option Nat) (j i:Nat):List (Nat × Nat):=(List.range i).filterMap fun k=>(f j k).map fun x=>(k,x)
def qqh {j i:Nat}:tZ f j (i+1)=tZ f j i ++ (match f j i with | some x=>[(i,x)] | none=>[]):=by
 unfold tZ;rw [List.range_succ,List.filterMap_append]
 congr 1
 cases h:f j i <;> simp [h]
def q3z {j i k x:Nat}:(k,x) ∈ tZ f j i ↔ k < i∧f j k=some x:=by
 unfold tZ;rw [List.mem_filterMap]
 constructor
 ·rintro ⟨a,ha,h⟩;obtain ⟨y,hy,h2⟩:=Option.map_eq_some_iff.1 h;cases h2;exact ⟨List.mem_range.1 ha,hy⟩
 ·rintro ⟨h1,h2⟩;exact ⟨k,List.mem_range.2 h1,by rw [h2]; rfl⟩
def qkQ {j:Nat}:∀ i,(tZ f j i).Pairwise fun a b=>a.1 < b.1
 | 0=>by simp [tZ]
 | i+1=>by
  rw [qqh,List.pairwise_append];refine ⟨qkQ i,?_,fun a ha b hb=>?_⟩
  ·split <;> simp
  ·have h1:=(q3z.1 (show (a.1,a.2) ∈ tZ f j i from ha)).1
   split at hb
   ·simp at hb; subst hb; exact h1
   ·cases hb
def q9e {j:Nat} {p:List Int × List Nat}:∀ i,tC f j p i=(p.1 ++ (tZ f j i).map (fun q=>(q.1:Int)),p.2 ++ (tZ f j i).map (·.2))
 | 0=>by simp [tC,tZ]
 | i+1=>by
  rw [tC,qqh,q9e i];cases h:f j i <;> simp
def tO (f:Nat→Nat→Option Nat) (R j:Nat):Nat:=(tM f R j).2.1.length
def qhg {j:Nat}:tO f R (j+1)=tO f R j+(tZ f j R).length:=by simp [tO,tM,q9e]
def tM_st {j:Nat}:(tM f R j).1[j]?=some (tO f R j:Int):=by
 cases j with
 | zero=>simp [tM,tO]
 | succ j =>
  have:=(q18 (f:=f) (R:=R) j).1;simp only [tM,tO];rw [List.getElem?_append_right (by omega),this];simp
def qdx {j:Nat}:∀ d,∃ a b c,(tM f R (j+d)).1=(tM f R j).1 ++ a∧(tM f R (j+d)).2.1=(tM f R j).2.1 ++ b∧(tM f R (j+d)).2.2=(tM f R j).2.2 ++ c
 | 0=>⟨[],[],[],by simp,by simp,by simp⟩
 | d+1=>by
  obtain ⟨a,b,c,h1,h2,h3⟩:=qdx (j:=j) d;have e1:(tM f R (j+(d+1))).1=(tM f R (j+d)).1 ++ [((tC f (j+d) (tM f R (j+d)).2 R).1.length:Int)]:=rfl;have e2:(tM f R (j+(d+1))).2=tC f (j+d) (tM f R (j+d)).2 R:=rfl;rw [q9e] at e2;rw [e1,e2,h1,h2,h3];simp only [List.append_assoc];exact ⟨_,_,_,rfl,rfl,rfl⟩
def q2K {j:Nat} (hj:j≤C):(tM f R C).1[j]?=some (tO f R j:Int):=by
 obtain ⟨a,b,c,h1,_,_⟩:=qdx (f:=f) (R:=R) (j:=j) (C-j);rw [show j+(C-j)=C by omega] at h1;rw [h1,List.getElem?_append_left (by rw [(q18 j).1]; omega)];exact tM_st
def qqj {j:Nat} (hj:j < C):∃ b c,(tM f R C).2.1=(tM f R j).2.1 ++ (tZ f j R).map (fun q=>(q.1:Int)) ++ b∧(tM f R C).2.2=(tM f R j).2.2 ++ (tZ f j R).map (·.2) ++ c:=by
 obtain ⟨a,b,c,_,h2,h3⟩:=qdx (f:=f) (R:=R) (j:=j+1) (C-(j+1));rw [show j+1+(C-(j+1))=C by omega] at h2 h3;refine ⟨b,c,?_,?_⟩
 ·rw [h2]; simp only [tM,q9e]
 ·rw [h3]; simp only [tM,q9e]
def q9b {j k:Nat} (hj:j < C) (h1:tO f R j≤k) (h2:k < tO f R (j+1)):∃ q,(tZ f j R)[k-tO f R j]?=some q∧(tM f R C).2.1[k]?=some (q.1:Int)∧(tM f R C).2.2[k]?=some q.2:=by
 obtain ⟨b,c,e1,e2⟩:=qqj (f:=f) (R:=R) hj;rw [qhg] at h2;have hl:=(q18 (f:=f) (R:=R) j).2.1;have ho:tO f R j=(tM f R j).2.1.length:=rfl;obtain ⟨q,hq⟩:∃ q,(tZ f j R)[k-tO f R j]?=some q:=⟨_,List.getElem?_eq_getElem Oq⟩;refine ⟨q,hq,?_,?_⟩
 ·rw [e1,List.getElem?_append_left (by simp; omega),List.getElem?_append_right (by omega),List.getElem?_map,← ho,hq]; rfl
 ·rw [e2,List.getElem?_append_left (by simp; omega),List.getElem?_append_right (by omega),List.getElem?_map,← hl,← ho,hq]; rfl
def qmU:MPt C (tM f R C).1 (tM f R C).2.1 (tM f R C).2.2:=by
 have hl:=q18 (f:=f) (R:=R) C;refine ⟨hl.2.1.symm,by omega,?_,by rw [Int.toNat_natCast]; exact q2K (Nat.le_refl _),fun j x y hx hy=>?_⟩
 ·rw [q2K (Nat.zero_le _)]; rfl
 ·have h1:=(List.getElem?_eq_some_iff.1 hy).1;rw [q2K (by omega)] at hx hy;cases hx; cases hy;have:=qhg (f:=f) (R:=R) (j:=j);omega
def qqi:MIx R (tM f R C).1 (tM f R C).2.1:=fun j x y hx hy k h1 h2 v hv=>by
 have hl:=q18 (f:=f) (R:=R) C;have h3:=(List.getElem?_eq_some_iff.1 hy).1;rw [q2K (by omega)] at hx hy;cases hx; cases hy;obtain ⟨q,q1,q2,q3⟩:=q9b (f:=f) (R:=R) (C:=C) (j:=j) (k:=k) Oq Oq Oq;rw [hv] at q2;cases q2;have:=(q3z.1 (show (q.1,q.2) ∈ _ from List.mem_of_getElem? q1)).1;refine ⟨by omega,by omega,fun hk u hu=>?_⟩;obtain ⟨p,p1,p2,p3⟩:=q9b (f:=f) (R:=R) (C:=C) (j:=j) (k:=k-1) Oq Oq Oq;rw [hu] at p2;cases p2;have ha:=List.pairwise_iff_getElem.1 (qkQ (f:=f) (j:=j) R);obtain ⟨a1,a2⟩:=List.getElem?_eq_some_iff.1 p1;obtain ⟨b1,b2⟩:=List.getElem?_eq_some_iff.1 q1;have:=ha _ _ a1 b1 Oq;rw [a2,b2] at this;omega
def q9a {x:Nat}:∀ C,x ∈ (tM f R C).2.2→∃ j i,j < C∧i < R∧f j i=some x
 | 0,h=>by simp [tM] at h
 | C+1,h=>by
  simp only [tM,q9e,List.mem_append] at h
  rcases h with h | h
  ·obtain ⟨j,i,h1,h2,h3⟩:=q9a C h;exact ⟨j,i,by omega,h2,h3⟩
  ·obtain ⟨⟨k,y⟩,hq,rfl⟩:=List.mem_map.1 h;have:=q3z.1 hq;exact ⟨C,k,by omega,this.1,this.2⟩
def qqk (hR:R≤200) (hC:C≤200) (hRC:C*R≤10000) (hf:∀ j i x,j < C→i < R→f j i=some x→q0J x):q2n R C (tM f R C).1 (tM f R C).2.1 (tM f R C).2.2=0:=by
 have hl:=q18 (f:=f) (R:=R) C;have hz:MSz R C (tM f R C).2.1:=⟨by omega,by omega,by omega,by omega,by omega⟩;unfold q2n;rw [if_pos hz,if_pos ⟨qmU,qqi⟩,if_pos];intro x hx;obtain ⟨j,i,h1,h2,h3⟩:=q9a C hx;exact hf j i x h1 h2 h3
def qkS:∀ n,n≤C→qdK (tM f R C).1 (tM f R C).2.1 (tM f R C).2.2 n=(List.range n).flatMap fun j=>(tZ f j R).map fun q=>((q.1:Int),(j:Int),q.2):=fun n hn=>by
 unfold qdK;refine q5B fun j hj=>?_;have hj:=List.mem_range.1 hj;have e1:((tM f R C).1.getD j 0).toNat=tO f R j:=by rw [List.getD_eq_getElem?_getD,q2K (by omega)]; rfl
 have e2:((tM f R C).1.getD (j+1) 0).toNat=tO f R (j+1):=by rw [List.getD_eq_getElem?_getD,q2K (by omega)]; rfl
 rw [e1,e2];unfold qd7;have hs:=qhg (f:=f) (R:=R) (j:=j)
 apply List.ext_getElem?
 intro k;rw [List.getElem?_map,List.getElem?_map]
 by_cases hk:k < (tZ f j R).length
 ·rw [List.getElem?_range' (by omega)];obtain ⟨q,q1,q2,q3⟩:=q9b (f:=f) (R:=R) (C:=C) (j:=j) (k:=tO f R j+k) Oq Oq Oq;rw [Nat.add_sub_cancel_left] at q1;simp only [Nat.one_mul,Option.map_some,List.getD_eq_getElem?_getD,q2,q3,q1]
  rfl
 ·rw [List.getElem?_eq_none (by simp; omega),List.getElem?_eq_none (by omega)]; rfl
end
def qmy {R j i c r:Nat} (hi:i < R) (hr:r < R) (h:c*R+r=j*R+i):c=j∧r=i:=by
 have h1:(c*R+r) / R=c:=by rw [Nat.mul_comm,Nat.mul_add_div (by omega),Nat.div_eq_of_lt hr]; omega
 have h2:(j*R+i) / R=j:=by rw [Nat.mul_comm,Nat.mul_add_div (by omega),Nat.div_eq_of_lt hi]; omega
 have:c=j:=by rw [← h1,← h2,h]
 subst this;exact ⟨rfl,by omega⟩
def qke {l:List (Int × Int × Nat)} {R C:Nat} (hin:∀ e ∈ l,(0≤e.1∧e.1 < R)∧0≤e.2.1∧e.2.1 < C) {j i:Nat} (hi:i < R) (hj:j < C):∀ n,n≤l.length→∃ k,(pkL l R C n)[j*R+i]?=some k∧((k=0∧∀ m < n,∀ e,l[m]?=some e→¬ (e.1=i∧e.2.1=j))∨∃ m e,k=((m+1:Nat):Int)∧l[m]?=some e∧e.1=i∧e.2.1=j)
 | 0,_=>⟨0,by simp [pkL,qfF hj hi],.inl ⟨rfl,fun m hm=>by omega⟩⟩
 | n+1,hn=>by
  obtain ⟨k,hk,h⟩:=qke hin hi hj n Oq;obtain ⟨e,he⟩:∃ e,l[n]?=some e:=⟨_,List.getElem?_eq_getElem Oq⟩;have hr:=hin e (List.mem_of_getElem? he);have hlt:=(List.getElem?_eq_some_iff.1 hk).1;simp only [pkL,he]
  by_cases hp:e.2.1.toNat*R+e.1.toNat=j*R+i
  ·obtain ⟨q1,q2⟩:=qmy hi Oq hp;refine ⟨(n:Int)+1,by rw [hp,List.getElem?_set_self hlt],.inr ⟨n,e,by omega,he,by omega,by omega⟩⟩
  ·refine ⟨k,by rw [List.getElem?_set_ne hp]; exact hk,h.imp (fun ⟨h1,h2⟩=>⟨h1,fun m hm e' he' hee=>?_⟩) id⟩
   by_cases hmn:m=n
   ·subst hmn;rw [he] at he'; cases he'
    apply hp
    rw [hee.1,hee.2,Int.toNat_natCast,Int.toNat_natCast]
   ·exact h2 m Oq e' he' hee
def qrv {l:List (Int × Int × Nat)} {R C:Nat} {g:Nat→Nat→Option Nat} (hg:∀ e,e ∈ l ↔ ∃ j i x,j < C∧i < R∧g j i=some x∧e=((i:Int),(j:Int),x)) {j i:Nat} (hi:i < R) (hj:j < C):pkF l R C j i=g j i:=by
 have hin:∀ e ∈ l,(0≤e.1∧e.1 < R)∧0≤e.2.1∧e.2.1 < C:=fun e he=>by
  obtain ⟨j,i,x,h1,h2,_,rfl⟩:=(hg e).1 he;exact ⟨⟨by simp,by simp; omega⟩,by simp,by simp; omega⟩
 obtain ⟨k,hk,h⟩:=qke hin hi hj l.length (Nat.le_refl _);unfold pkF;rw [hk];simp only
 rcases h with ⟨rfl,h2⟩ | ⟨m,e,rfl,he,e1,e2⟩
 ·rw [if_neg (by omega)];cases hx:g j i with
  | none=>rfl
  | some x =>
   obtain ⟨m,hm⟩:=List.getElem?_of_mem ((hg (i,j,x)).2 ⟨j,i,x,hj,hi,hx,rfl⟩);exact absurd ⟨rfl,rfl⟩ (h2 m (List.getElem?_eq_some_iff.1 hm).1 _ hm)
 ·rw [if_pos (by omega),show (((m+1:Nat):Int)-1).toNat=m by omega,he];obtain ⟨j',i',x,_,_,hx,rfl⟩:=(hg e).1 (List.mem_of_getElem? he);simp only at e1 e2;have:i'=i:=by omega
  have:j'=j:=by omega
  subst i'; subst j';rw [hx]; rfl
def qeB {f g:Nat→Nat→Option Nat} {j:Nat} {p:List Int × List Nat}:∀ i,(∀ k,k < i→f j k=g j k)→tC f j p i=tC g j p i
 | 0,_=>rfl
 | i+1,h=>by rw [tC,tC,h i (by omega),qeB i fun k hk=>h k (by omega)]
def qdy {f g:Nat→Nat→Option Nat} {R:Nat}:∀ C,(∀ j i,j < C→i < R→f j i=g j i)→tM f R C=tM g R C
 | 0,_=>rfl
 | C+1,h=>by rw [tM,tM,qdy C fun j i hj=>h j i (by omega),qeB R fun k hk=>h C k (by omega) hk]
def tE (f:Nat→Nat→Option Nat) (R C:Nat):List (Int × Int × Nat):=(List.range C).flatMap fun j=>(tZ f j R).map fun q=>((q.1:Int),(j:Int),q.2)
def qax {f:Nat→Nat→Option Nat} {R C:Nat} {e:Int × Int × Nat}:e ∈ tE f R C ↔ ∃ j i x,j < C∧i < R∧f j i=some x∧e=((i:Int),(j:Int),x):=by
 unfold tE;rw [List.mem_flatMap]
 constructor
 ·rintro ⟨j,hj,he⟩;obtain ⟨⟨i,x⟩,hq,rfl⟩:=List.mem_map.1 he;have:=q3z.1 hq;exact ⟨j,i,x,List.mem_range.1 hj,this.1,this.2,rfl⟩
 ·rintro ⟨j,i,x,h1,h2,h3,rfl⟩;exact ⟨j,List.mem_range.2 h1,List.mem_map.2 ⟨(i,x),q3z.2 ⟨h2,h3⟩,rfl⟩⟩
def qkT {f:Nat→Nat→Option Nat} {R C:Nat}:(tE f R C).length=(tM f R C).2.1.length:=by
 have h1:=q5e (qmU (f:=f) (R:=R) (C:=C)) C (Nat.le_refl _);rw [qkS C (Nat.le_refl _),List.getD_eq_getElem?_getD,q2K (Nat.le_refl _)] at h1;exact h1
def q75 (f:Nat→Nat→Option Nat) (j i:Nat):Option Nat:=if j≤i then f j i else none
structure TOk (f:Nat→Nat→Option Nat) (R C:Nat):Prop where
 r:R≤200
 c:C≤200
 m:C*R≤10000
 u:∀ j i x,j < C→i < R→f j i=some x→x < 18446744073709551616
 v:∀ j i x,j < C→i < R→f j i=some x→q0J x
def TOk.vl {f:Nat→Nat→Option Nat} {R C:Nat} (h:TOk f R C):(tM f R C).1.length≤9223372036854775807∧(tM f R C).2.1.length≤9223372036854775807∧(tM f R C).2.2.length≤9223372036854775807∧(∀ x ∈ (tM f R C).2.2,x < 18446744073709551616):=by
 have:=q18 (f:=f) (R:=R) C;have:=h.c;have:=h.m;refine ⟨by omega,by omega,by omega,fun x hx=>?_⟩;obtain ⟨j,i,h1,h2,h3⟩:=q9a C hx;exact h.u j i x h1 h2 h3
def TOk.chk {f:Nat→Nat→Option Nat} {R C:Nat} (h:TOk f R C):q2n R C (tM f R C).1 (tM f R C).2.1 (tM f R C).2.2=0:=qqk h.r h.c h.m h.v
def q7G {f:Nat→Nat→Option Nat} {R C:Nat} (h:TOk f R C):ACt 81 [pT R C f] (iv 0):=by
 obtain ⟨h1,h2,h3,h4⟩:=h.vl;have:=q55 (rows:=R) (cols:=C) h1 h2 h3 h4;rw [h.chk] at this;exact this
def qeA {f:Nat→Nat→Option Nat} {R C:Nat} (h:TOk f R C):ACt 227 [pT R C f] (pE (tE f R C)):=by
 obtain ⟨h1,h2,h3,h4⟩:=h.vl;have:=q9r (rows:=R) (cols:=C) h1 h2 h3 h4;rw [qgQ.1 h.chk,Int.toNat_natCast,qkS C (Nat.le_refl _)] at this;exact this
def qhf {l:List (Int × Int × Nat)} {g:Nat→Nat→Option Nat} {R C:Nat} (hR:R≤1000) (hC:C≤1000) (hl:l.length≤1000000) (hg:∀ e,e ∈ l ↔ ∃ j i x,j < C∧i < R∧g j i=some x∧e=((i:Int),(j:Int),x)):ACt 228 [iv R,iv C,pE l] (pT R C g):=by
 have:=qhz (R:=R) (C:=C) (l:=l) hR hC hl fun e he=>by
  obtain ⟨j,i,x,h1,h2,_,rfl⟩:=(hg e).1 he;exact ⟨⟨by simp,by simp; omega⟩,by simp,by simp; omega⟩
 unfold pT at this ⊢;rw [qdy C fun j i hj hi=>qrv hg hi hj] at this;exact this
def qdz {f:Nat→Nat→Option Nat} {R C:Nat} (h:TOk f R C):ACt 169 [pT R C f] (.tu [pT R C (q75 f),iv 0]):=by
 have hA:=q7G h;have hE:=qeA h;have hlen:(tE f R C).length≤10000:=by rw [qkT]; have:=(q18 (f:=f) (R:=R) C).2.2; have:=h.m; omega
 have hP:∀ l:List (Int × Int × Nat),l.length≤10000→l=(tE f R C).filter (fun e=>decide (e.2.1≤e.1))→ACt 228 [iv R,iv C,pE l] (pT R C (q75 f)):=fun l hl he=>qhf (by have:=h.r; omega) (by have:=h.c; omega) Oq fun e=>by
  rw [he,List.mem_filter,qax]
  constructor
  ·rintro ⟨⟨j,i,x,h1,h2,h3,rfl⟩,h4⟩;have h4:(j:Int)≤i:=by simpa using h4
   exact ⟨j,i,x,h1,h2,by unfold q75; rw [if_pos (by omega)]; exact h3,rfl⟩
  ·rintro ⟨j,i,x,h1,h2,h3,rfl⟩;unfold q75 at h3
   split at h3
   ·exact ⟨⟨j,i,x,h1,h2,h3,rfl⟩,by simp; omega⟩
   ·cases h3
 have hpt:pT R C f=q2M R C (tM f R C).1 (tM f R C).2.1 (tM f R C).2.2:=rfl;obtain ⟨st',ix',vl',hpl⟩:∃ st' ix' vl',pT R C (q75 f)=.ag [iv R,iv C,pI st',pI ix',pF vl']:=⟨_,_,_,rfl⟩;rw [hpl] at hP ⊢;generalize tE f R C=L at *;rw [hpt] at hA hE ⊢;clear hpt;unfold q2M at hA hE ⊢;generalize (tM f R C).1=st at *;generalize (tM f R C).2.1=ix at *;generalize (tM f R C).2.2=vl at *;refine act qlY Tryz.func169 rfl Tryz.ntmps169 (by kernel_rfl) ?_;refine Az ?_;have e0:((0:Int) != 0)=false:=rfl;unfold pE at hE;refine q1n fun K0 hK0=>?_;refine qdY fun K hK=>?_;refine Zz ?_;refine q0N hA ?_
 try refine Zz ?_
 refine hK _ _ ?_; clear hK K;refine Az1 e0 ?_;refine A_f Cz ?_;refine q8C (hK0 _ _ ?_); clear hK0 K0;refine Az ?_;refine qdY fun K hK=>?_;refine Zz ?_;refine q0N hE ?_
 try refine Zz ?_
 refine hK _ _ ?_; clear hK K;refine q1n fun K0 hK0=>?_;refine Az ?_;refine q8E ?_;obtain ⟨F,hF⟩:∃ F:Nat→List (Int × Int × Nat),F=fun k=>(L.take k).filter (fun e=>decide (e.2.1≤e.1)):=⟨_,rfl⟩;have F0:F 0=[]:=by rw [hF]; simp
 have Fs:∀ k e,L[k]?=some e→F (k+1)=F k ++ (if e.2.1≤e.1 then [e] else []):=fun k e he=>by
  rw [hF];simp only [q2q he,List.filter_append]
  congr 1
  by_cases h:e.2.1≤e.1 <;> simp [h]
 have Fl:∀ k,(F k).length≤L.length:=fun k=>by
  rw [hF];have:=List.length_filter_le (fun e:Int × Int × Nat=>decide (e.2.1≤e.1)) (L.take k);have:(L.take k).length≤L.length:=by rw [List.length_take]; omega
  simp only;omega
 refine q0A (fun k=>k≤L.length) [1,2,3,6] [1,2] Lk Lk (fun k:Nat=>[(7,iv k),(5,.ow 1001 (some 3) 0 (F k).length)]) (fun k=>[(1001,⟨224,some 3,(F k).map qbW,false⟩)]) (fun k=>L.length-k) 0 (Nat.zero_le _) ?_ ?_
 ·refine LeM [(1001,none)] rfl rfl ?_;refine Zz ?_;rw [F0];exact ⟨⟨rfl,rfl⟩,rfl⟩
 ·intro k hk;have hFk:=Fl k;refine q1n fun K1 hK1=>?_
  by_cases hlt:k < L.length
  ·have hlt':(k:Int) < L.length:=by omega
   refine Az1 hlt' ?_;refine A_t Cz ?_;refine q8C (hK1 _ _ ?_); clear hK1 K1;refine A_sb fun Kb hKb=>?_;obtain ⟨⟨er,ec,ev⟩,he⟩:∃ e,L[k]?=some e:=⟨_,List.getElem?_eq_getElem hlt⟩;have hs:=Fs k _ he;simp only at hs
   by_cases hge:ec≤er
   ·rw [if_pos hge] at hs;refine A_sd [] q4G (by kernel_rfl) fun K hK=>?_;simp -implicitDefEqProofs (disch:=omega) only [go_sem,Nat.reduceEqDiff,Nat.reduceAdd,↓reduceIte,he,qbW,hge];refine hK _ _ ?_; clear hK K;refine A_t Cz ?_;refine q9X fun K9 hK9=>?_;simp -implicitDefEqProofs (disch:=omega) only [go_sem,Nat.reduceEqDiff,Nat.reduceAdd,↓reduceIte,he,qbW];refine hK9 _ _ ?_; clear hK9 K9;refine hKb _ _ ?_; clear hKb;refine q9X fun K9 hK9=>?_;refine Zz1 @i64_in ?_;refine hK9 _ _ ?_; clear hK9 K9;refine ⟨k+1,by omega,by omega,?_⟩;rw [hs];refine LeM [(1001,some 39)] rfl rfl ?_;refine Zz ?_;exact ⟨by omega,qhB (by simp [qbW]) rfl⟩
   ·rw [if_neg hge,List.append_nil] at hs;refine A_sd [] q4G (by kernel_rfl) fun K hK=>?_;simp -implicitDefEqProofs (disch:=omega) only [go_sem,Nat.reduceEqDiff,Nat.reduceAdd,↓reduceIte,he,qbW,hge];refine hK _ _ ?_; clear hK K;refine A_f Cz ?_;refine q8C (hKb _ _ ?_); clear hKb;refine q9X fun K9 hK9=>?_;refine Zz1 @i64_in ?_;refine hK9 _ _ ?_; clear hK9 K9;refine ⟨k+1,by omega,by omega,?_⟩;rw [hs];refine LeM [] rfl rfl ?_;refine Zz ?_;exact ⟨by omega,qhB rfl rfl⟩
  ·have hlt':¬ (k:Int) < L.length:=by omega
   obtain rfl:k=L.length:=by omega
   refine Az1 hlt' ?_;refine A_f Cz ?_;refine qhF (hK0 _ _ ?_); clear hK0;have hP:=hP (F L.length) (by omega) (by rw [hF]; simp);refine q3J (LeM [] rfl rfl (xs:=[(1,.pt 1 0 0),(2,.pt 2 0 0),(5,pE (F L.length))]) (kv:=[]) (bs:=[(1,⟨52,some 5,[.ag [iv R,iv C,pI st,pI ix,pF vl]],false⟩),(2,⟨52,some 5,[.ag [iv 0,iv 0,.vl (.slice none 0 0),.vl (.slice none 0 0),.vl (.slice none 0 0)]],false⟩)]) (kb:=[]) ?_) ?_
   ·unfold pE;refine Zz ?_;refine q1z (T:=224) rfl clE (fun i hi=>?_) ?_
    ·have hi:some i=some 1001:=hi;cases hi
     rfl
    ·rw [List.drop_zero]; exact List.take_of_length_le (by simp)
   ·unfold pE at hP ⊢;refine qdY fun K hK=>?_;refine Zz ?_;refine q0N hP ?_
    try refine Zz ?_
    refine hK _ _ ?_; clear hK K;refine qhD (rt (rs:=[.cell 2 52,.tmp 3]) rfl rfl ?_ (.inl rfl));exact Zy
def pG (adj:List (List Int)):PV:=.ag [.sl none (adj.map fun l=>pI l)]
def GRow (adj:List (List Int)) (v:Nat) (w:Int):Prop:=0≤w∧w < adj.length∧¬ w=v∧∀ l,adj[w.toNat]?=some l→(v:Int) ∈ l
def GOk (adj:List (List Int)):Prop:=∀ (v:Nat) (l:List Int),adj[v]?=some l→Asc l∧∀ w ∈ l,GRow adj v w
open Classical in
noncomputable def qdP (adj:List (List Int)):Int:=if (200:Int) < adj.length then 6 else if GOk adj then 0 else 1
def qaT {adj:List (List Int)} (hl:∀ l ∈ adj,l.length≤9223372036854775807):ACt 165 [pG adj] (iv (qdP adj)):=by
 have c6:(200:Int) < adj.length→qdP adj=6:=fun h=>if_pos h;have c1:¬ (200:Int) < adj.length→¬ GOk adj→qdP adj=1:=fun h h2=>by unfold qdP; rw [if_neg h,if_neg h2]
 have c0:¬ (200:Int) < adj.length→GOk adj→qdP adj=0:=fun h h2=>by unfold qdP; rw [if_neg h,if_pos h2]
 generalize qdP adj=res at *;unfold pG;refine ac0 Tryz.func165 Tryz.ntmps165 [.tmp 2] ?_;refine wk ?_
 by_cases hn:(200:Int) < adj.length
 ·refine wk1 hn ?_;rw [c6 hn]
 refine wk1 hn ?_;have c1:=c1 hn;have c0:=c0 hn;refine q3p [1,3,4] Lk ?_;refine wk ?_;refine q0A (fun v=>v≤adj.length∧∀ v' l,v' < v→adj[v']?=some l→Asc l∧∀ w ∈ l,GRow adj v' w) [1,3] [1] Lk Lk (fun v:Nat=>[(4,iv v)]) (fun _=>[]) (fun v=>adj.length-v) 0 ⟨Nat.zero_le _,by omega⟩ ?_ ?_
 ·refine LeM [] rfl rfl ?_;refine Zz ?_
  rfl
 ·rintro v ⟨hv,hr⟩;refine wk ?_
  by_cases hlt:v < adj.length
  ·have hlt':(v:Int) < adj.length:=by omega
   refine wk1 hlt' ?_;obtain ⟨l,hx⟩:∃ l,adj[v]?=some l:=⟨_,List.getElem?_eq_getElem hlt⟩;have hll:=hl l (List.mem_of_getElem? hx);have C1:=(qn1 hll);refine wk1 hx ?_
   by_cases ha:Asc l
   case neg =>
    have ea:∀ (i:Decidable (Asc l)),@decide _ i=false:=fun _=>decide_eq_false ha;refine wk1 ea ?_;rw [c1 fun h=>ha (h v l hx).1]
   have ea:∀ (i:Decidable (Asc l)),@decide _ i=true:=fun _=>decide_eq_true ha;refine wk1 ea ?_;refine q0A (fun k=>k≤l.length∧∀ w ∈ l.take k,GRow adj v w) [1,3,4] [1] Lk Lk (fun k:Nat=>[(5,iv k)]) (fun _=>[]) (fun k=>l.length-k) 0 ⟨Nat.zero_le _,by simp⟩ ?_ ?_
   ·refine LeM [] rfl rfl ?_;refine Zz ?_
    rfl
   ·rintro k ⟨hk,hrk⟩;refine wk ?_
    by_cases hltk:k < l.length
    ·have hltk':(k:Int) < l.length:=by omega
     refine wk1 (x2 hx hltk') ?_;obtain ⟨w,hw⟩:∃ w,l[k]?=some w:=⟨_,List.getElem?_eq_getElem hltk⟩;have bad:¬ GRow adj v w→res=1:=fun h=>c1 fun hG=>h ((hG v l hx).2 w (List.mem_of_getElem? hw));refine wk1 (x2 hx hw) ?_
     by_cases h1:w < 0
     ·refine wk1 h1 ?_;rw [bad fun h=>by have:=h.1; omega]
     by_cases h2:(adj.length:Int)≤w
     ·refine wk1 (x2 h1 h2) ?_;rw [bad fun h=>by have:=h.2.1; omega]
     by_cases hwv:w=v
     ·have e1:(w == (v:Int))=true:=by simpa using hwv
      refine wk1 (x3 h1 h2 e1) ?_;rw [bad fun h=>h.2.2.1 hwv]
     have e1:(w == (v:Int))=false:=by simpa using hwv
     obtain ⟨w,rfl⟩:∃ w':Nat,w=w':=⟨w.toNat,by omega⟩;obtain ⟨m,hm⟩:∃ m,adj[w]?=some m:=⟨_,List.getElem?_eq_getElem Oq⟩;have C2:=qky (v:=(v:Int)) (hl m (List.mem_of_getElem? hm));refine wk1 (x4 h1 h2 e1 hm) ?_
     by_cases hin:(v:Int) ∈ m
     ·have ei:∀ (i:Decidable ((v:Int) ∈ m)),@decide _ i=true:=fun _=>decide_eq_true hin;refine wk1 (x4 ei h1 h2 e1) ?_;refine ⟨k+1,⟨by omega,q5Y hw hrk ⟨by omega,by omega,hwv,fun l' hl'=>?_⟩⟩,by omega,?_⟩
      ·rw [Int.toNat_natCast,hm] at hl';cases hl';exact hin
      ·refine LeM [] rfl rfl ?_;refine Zz ?_;omega
     ·have ei:∀ (i:Decidable ((v:Int) ∈ m)),@decide _ i=false:=fun _=>decide_eq_false hin;refine wk1 (x4 ei h1 h2 e1) ?_;rw [bad fun h=>hin (h.2.2.2 m (by rw [Int.toNat_natCast]; exact hm))]
    ·have hltk':¬ (k:Int) < l.length:=by omega
     obtain rfl:k=l.length:=by omega
     refine wk1 (x2 hx hltk') ?_;rw [List.take_length] at hrk;refine wk ?_;refine ⟨v+1,⟨by omega,fun v' l' hv' hx'=>?_⟩,by omega,?_⟩
     ·by_cases hvv:v'=v
      ·subst hvv;rw [hx] at hx'; cases hx';exact ⟨ha,hrk⟩
      ·exact hr v' l' Oq hx'
     ·refine LeM [] rfl rfl ?_;refine Zz ?_;omega
  ·have hlt':¬ (v:Int) < adj.length:=by omega
   obtain rfl:v=adj.length:=by omega
   refine wk1 hlt' ?_;rw [c0 fun v l hx=>hr v l (List.getElem?_eq_some_iff.1 hx).1 hx]
section
def qcn (t:Nat→Nat→Bool) (n:Nat):PV:=.sl none ((List.range n).map fun v=>.sl none ((List.range n).map fun w=>bv (t v w)))
def q1F (t:Nat→Nat→Bool) (v w:Nat):Bool:=decide (v≠w) && (t v w || t w v)
def frL (t:Nat→Nat→Bool) (v w:Nat):List Int:=((List.range w).filter fun x=>q1F t v x).map fun x:Nat=>(x:Int)
def frG (t:Nat→Nat→Bool) (n:Nat):List (List Int):=(List.range n).map fun v=>frL t v n
def q2G {τ:Nat→Option Nat} {h h':Hp} {a b c d:List PV} (h1:LeL τ h h' a c) (h2:LeL τ h h' b d):LeL τ h h' (a ++ b) (c ++ d):=by
 obtain ⟨l1,e1⟩:=h1;obtain ⟨l2,e2⟩:=h2;refine ⟨by simp [l1,l2],fun i x y hx hy=>?_⟩
 by_cases hi:i < a.length
 ·rw [List.getElem?_append_left hi] at hx;rw [List.getElem?_append_left (by omega)] at hy;exact e1 i x y hx hy
 ·rw [List.getElem?_append_right (by omega)] at hx;rw [List.getElem?_append_right (by omega),← l1] at hy;exact e2 _ x y hx hy
def qnk {t:Nat→Nat→Bool} {v w:Nat}:frL t v (w+1)=frL t v w ++ (if q1F t v w=true then [(w:Int)] else []):=by
 unfold frL;rw [List.range_succ,List.filter_append,List.map_append]
 congr 1
 cases h:q1F t v w <;> simp [h]
def qff {t:Nat→Nat→Bool} {v w:Nat}:(frL t v w).length≤w:=by
 unfold frL;have:=List.length_filter_le (fun x=>q1F t v x) (List.range w);simp only [List.length_map,List.length_range] at *;exact this
def clR {α:Type} {f:α→List Int} {l:List α}:ClL (l.map fun v=>pI (f v)):=fun x hx=>by
 obtain ⟨e,_,rfl⟩:=List.mem_map.1 hx
 trivial
def qv1 {α:Type} {f:α→List Int} {l:List α} {τ:Nat→Option Nat} {h h':Hp}:LeL τ h h' (l.map fun v=>pI (f v)) (l.map fun v=>pI (f v))=True:=eq_true (q0Y rfl clR)
attribute [local go_sem] qv1
def q4P {t:Nat→Nat→Bool} {n:Nat} (hn:n≤1000):ACt 230 [qcn t n] (pG (frG t n)):=by
 unfold qcn pG;refine ac0 Tryz.func230 Tryz.ntmps230 [.cell 2 141] ?_;refine wk ?_;refine q0A (fun v=>v≤n) [0,2,3] [2] Lk Lk (fun v:Nat=>[(4,iv v)]) (fun v=>[(3,⟨141,some 1,[.ag [.ow 1001 none 0 v]],false⟩),(1001,⟨24,none,(List.range v).map fun v=>pI (frL t v n),false⟩)]) (fun v=>n-v) 0 (Nat.zero_le _) ?_ ?_
 ·refine LeM [(1001,none)] rfl rfl ?_;refine Zz ?_;exact ⟨rfl,rfl⟩
 ·intro v hv;refine wk ?_
  by_cases hlt:v < n
  ·have hlt':(v:Int) < n:=by omega
   refine wk1 hlt' ?_;refine q0A (fun w=>w≤n) [0,2,3,4] [2,3,1001] Lk Lk (fun w:Nat=>[(6,iv w),(5,.ow 1002 none 0 (frL t v w).length)]) (fun w=>[(1002,⟨3,none,(frL t v w).map fun z=>iv z,false⟩)]) (fun w=>n-w) 0 (Nat.zero_le _) ?_ ?_
   ·refine LeM [(1002,none)] rfl rfl ?_;refine Zz ?_;simp [frL]
   ·intro w hw;have hlen:=qff (t:=t) (v:=v) (w:=w);refine wk ?_
    by_cases hltw:w < n
    ·have hltw':(w:Int) < n:=by omega
     refine wk1 hltw' ?_;have r1:(List.range n)[v]?=some v:=List.getElem?_range hlt;have r2:(List.range n)[w]?=some w:=List.getElem?_range hltw;have skip:q1F t v w=false→frL t v (w+1)=frL t v w:=fun h=>by rw [qnk,h]; simp
     have push:q1F t v w=true→frL t v (w+1)=frL t v w ++ [(w:Int)]:=fun h=>by rw [qnk,h]; simp
     have no:q1F t v w=false→True:=fun _=>trivial
     by_cases hvw:v=w
     ·have e1:((v:Int) != (w:Int))=false:=by simp; omega
      have hj:q1F t v w=false:=by unfold q1F; simp [hvw]
      refine wk1 e1 ?_;refine ⟨w+1,by omega,by omega,?_⟩;rw [skip hj];refine LeM [] rfl rfl ?_;refine Zz ?_
      first | omega | exact ⟨by omega,trivial⟩ | (refine ⟨?_,?_⟩ <;> first | omega | trivial)
     have e1:((v:Int) != (w:Int))=true:=by simp; omega
     have hjj:q1F t v w=(t v w || t w v):=by unfold q1F; simp [hvw]
     cases h1:t v w
     ·cases h2:t w v
      ·have hj:q1F t v w=false:=by rw [hjj,h1,h2]; rfl
       refine wk1 (x5 e1 r1 r2 h1 h2) ?_;refine ⟨w+1,by omega,by omega,?_⟩;rw [skip hj];refine LeM [] rfl rfl ?_;refine Zz ?_
       first | omega | exact ⟨by omega,trivial⟩ | trace_state
      ·have hj:q1F t v w=true:=by rw [hjj,h1,h2]; rfl
       refine wk1 (x5 e1 r1 r2 h1 h2) ?_;refine ⟨w+1,by omega,by omega,?_⟩;rw [push hj];refine LeM [(1002,some 43)] rfl rfl ?_;refine Zz ?_;omega
     ·have hj:q1F t v w=true:=by rw [hjj,h1]; rfl
      refine wk1 (x4 e1 r1 r2 h1) ?_;refine ⟨w+1,by omega,by omega,?_⟩;rw [push hj];refine LeM [(1002,some 43)] rfl rfl ?_;refine Zz ?_;omega
    ·have hltw':¬ (w:Int) < n:=by omega
     obtain rfl:w=n:=by omega
     refine wk1 hltw' ?_;refine ⟨v+1,by omega,by omega,?_⟩;rw [List.range_succ,List.map_append];refine LeM [(1001,some 48)] rfl rfl ?_;refine Zz ?_;refine ⟨by omega,q2G (q0Y rfl clR) ?_⟩;rw [q16];refine q1z (T:=3) (l:=(frL t v w).map fun z:Int=>iv z) ?_ clI (fun i hi=>?_) ?_
     ·try simp -implicitDefEqProofs (disch:=omega) only [go_sem,Nat.reduceEqDiff,Nat.reduceAdd,↓reduceIte]
     ·unfold q1Q at hi
      split at hi
      ·cases hi
      ·obtain rfl:i=1002:=by cases hi; rfl
       try simp -implicitDefEqProofs (disch:=omega) only [go_sem,Nat.reduceEqDiff,Nat.reduceAdd,↓reduceIte]
     ·rw [List.drop_zero]; exact List.take_of_length_le (by simp)
  ·have hlt':¬ (v:Int) < n:=by omega
   obtain rfl:v=n:=by omega
   refine wk1 hlt' ?_;rw [List.take_of_length_le (by simp),frG,List.map_map]; rfl
end
open Classical in
noncomputable def sqM (rows cols:Int) (st ix:List Int) (vl:List Nat) (order:List Int):Int :=
 if q2n rows cols st ix vl=0 then (if rows=cols then (if q2R order rows then 0 else 90) else 5) else q2n rows cols st ix vl
def qci {rows cols:Int} {st ix order:List Int} {vl:List Nat} (hl:st.length≤9223372036854775807) (hli:ix.length≤9223372036854775807) (hlv:vl.length≤9223372036854775807) (hu:∀ x ∈ vl,x < 18446744073709551616):ACt 108 [q2M rows cols st ix vl,pI order] (iv (sqM rows cols st ix vl order)):=by
 have hA:=q55 (rows:=rows) (cols:=cols) hl hli hlv hu;have c1:¬ q2n rows cols st ix vl=0→sqM rows cols st ix vl order=q2n rows cols st ix vl:=fun h=>if_neg h;have c2:q2n rows cols st ix vl=0→¬ rows=cols→sqM rows cols st ix vl order=5:=fun h h2=>by unfold sqM; rw [if_pos h,if_neg h2]
 have c3:q2n rows cols st ix vl=0→rows=cols→¬ q2R order rows→sqM rows cols st ix vl order=90:=fun h h2 h3=>by unfold sqM; rw [if_pos h,if_pos h2,if_neg h3]
 have c4:q2n rows cols st ix vl=0→rows=cols→q2R order rows→sqM rows cols st ix vl order=0:=fun h h2 h3=>by unfold sqM; rw [if_pos h,if_pos h2,if_pos h3]
 generalize sqM rows cols st ix vl order=res at *;unfold q2M at *;refine ac0 Tryz.func108 Tryz.ntmps108 [.tmp 4] ?_;refine wk ?_
 by_cases hz:q2n rows cols st ix vl=0
 case neg =>
  have e1:(q2n rows cols st ix vl != 0)=true:=by simpa using hz
  refine wk1 e1 ?_;rw [c1 hz]
 have e1:(q2n rows cols st ix vl != 0)=false:=by simpa using hz
 refine wk1 e1 ?_;obtain ⟨hz1,_⟩:=chk0 hz;have b0:=hz1.r0;have b1:=hz1.r1;refine wk ?_
 by_cases hrc:rows=cols
 case neg =>
  have e2:(rows != cols)=true:=by simpa using hrc
  refine wk1 e2 ?_;rw [c2 hz hrc]
 have e2:(rows != cols)=false:=by simpa using hrc
 have C1:=@qbQ;refine wk1 e2 ?_
 by_cases hp:q2R order rows
 ·have ep:∀ (i:Decidable (q2R order rows)),@decide _ i=true:=fun _=>decide_eq_true hp;refine wk1 ep ?_;rw [c4 hz hrc hp]
 ·have ep:∀ (i:Decidable (q2R order rows)),@decide _ i=false:=fun _=>decide_eq_false hp;refine wk1 ep ?_;rw [c3 hz hrc hp]
def qc9 {f:Nat→Nat→Option Nat} {R:Nat} {order:List Int} (h:TOk f R R) (hp:q2R order R):ACt 108 [pT R R f,pI order] (iv 0):=by
 obtain ⟨h1,h2,h3,h4⟩:=h.vl;have:=qci (rows:=R) (cols:=R) (order:=order) h1 h2 h3 h4;unfold sqM at this;rw [if_pos h.chk,if_pos rfl,if_pos hp] at this;exact this
def qbh {ix:List Int} {i:Int}:∀ {d a:Nat} {k:Nat},q8q ix i a (a+d)=some k→a≤k∧k < a+d∧ix[k]?=some i:=fun {d a k} h=>by
 unfold q8q at h;have h1:=List.find?_some h;have h2:=List.mem_of_find?_eq_some h;rw [List.mem_range'_1] at h2;exact ⟨h2.1,by omega,by simpa using h1⟩
def qii {ix:List Int} {i:Int} {d a:Nat} (h:q8q ix i a (a+d)=none):∀ k,a≤k→k < a+d→¬ ix[k]?=some i:=fun k h1 h2 h3=>by
 unfold q8q at h;have:=List.find?_eq_none.1 h k (by rw [List.mem_range'_1]; omega);simp [h3] at this
def qkR {f:Nat→Nat→Option Nat} {R C i j:Nat} (hi:i < R) (hj:j < C):(match qg5 (tM f R C).1 (tM f R C).2.1 i j with | some k=>(tM f R C).2.2[k]? | none=>none)=f j i:=by
 have e1:((tM f R C).1.getD j 0).toNat=tO f R j:=by rw [List.getD_eq_getElem?_getD,q2K (by omega)]; rfl
 have e2:((tM f R C).1.getD (j+1) 0).toNat=tO f R (j+1):=by rw [List.getD_eq_getElem?_getD,q2K (by omega)]; rfl
 unfold qg5;rw [e1,e2,qhg];cases h:q8q (tM f R C).2.1 i (tO f R j) (tO f R j+(tZ f j R).length) with
 | some k =>
  obtain ⟨h1,h2,h3⟩:=qbh h;obtain ⟨q,q1,q2,q3⟩:=q9b (f:=f) (R:=R) (C:=C) (j:=j) (k:=k) hj h1 (by rw [qhg]; exact h2);rw [q2] at h3;have hqi:q.1=i:=by have:=Option.some.inj h3; omega
  have:=(q3z.1 (show (q.1,q.2) ∈ _ from List.mem_of_getElem? q1)).2;simp only;rw [q3,← this,hqi]
 | none =>
  cases hx:f j i with
  | none=>rfl
  | some x =>
   obtain ⟨m,hm⟩:=List.getElem?_of_mem (q3z.2 ⟨hi,hx⟩:(i,x) ∈ tZ f j R);have hml:=(List.getElem?_eq_some_iff.1 hm).1;obtain ⟨q,q1,q2,q3⟩:=q9b (f:=f) (R:=R) (C:=C) (j:=j) (k:=tO f R j+m) hj (by omega) (by rw [qhg]; omega);rw [Nat.add_sub_cancel_left,hm] at q1;cases q1;exact absurd q2 (qii h _ Oq Oq)
def qeC {f:Nat→Nat→Option Nat} {R C i j:Nat} (h:TOk f R C) (hi:i < R) (hj:j < C):ACt 93 [pT R C f,iv i,iv j] (uv (((f j i).getD 0:Nat):Int)):=by
 obtain ⟨h1,h2,h3,h4⟩:=h.vl;have:=qrj (rows:=R) (cols:=C) (i:=i) (j:=j) h1 h2 h3 h4;unfold atM at this;rw [if_pos ⟨h.chk,by omega,by omega⟩,Int.toNat_natCast] at this;have hf:=qkR (f:=f) hi hj;cases hc:qg5 (tM f R C).1 (tM f R C).2.1 i j with
 | some k =>
  rw [hc] at this hf;simp only at this hf;rw [List.getD_eq_getElem?_getD,hf] at this;exact this
 | none =>
  rw [hc] at this hf;simp only at this hf;rw [← hf];exact this
def qc8 {f:Nat→Nat→Option Nat} {R C i j:Nat} (h:TOk f R C) (hi:i < R) (hj:j < C):ACt 96 [pT R C f,iv i,iv j] (bv (f j i).isSome):=by
 have hl:=q18 (f:=f) (R:=R) C;have hm:=h.m;have hcc:=h.c;have:=qch (rows:=R) (cols:=C) (i:=i) (j:=j) (st:=(tM f R C).1) (ix:=(tM f R C).2.1) (vl:=(tM f R C).2.2) Oq Oq qmU;unfold qqo at this;rw [if_pos ⟨by omega,by omega,by omega,by omega⟩,Int.toNat_natCast] at this;have hf:=qkR (f:=f) hi hj;cases hc:qg5 (tM f R C).1 (tM f R C).2.1 i j with
 | some k =>
  rw [hc] at this hf;simp only at this hf;have hk:k < (tM f R C).2.2.length:=by
   unfold qg5 at hc;have e1:((tM f R C).1.getD j 0).toNat=tO f R j:=by rw [List.getD_eq_getElem?_getD,q2K (by omega)]; rfl
   have e2:((tM f R C).1.getD (j+1) 0).toNat=tO f R (j+1):=by rw [List.getD_eq_getElem?_getD,q2K (by omega)]; rfl
   rw [e1,e2,qhg] at hc;have:=(List.getElem?_eq_some_iff.1 (qbh hc).2.2).1;omega
  rw [← hf,List.getElem?_eq_getElem hk];exact this
 | none =>
  rw [hc] at this hf;simp only at this hf;rw [← hf];exact this
def q68 {x:Nat}:ACt 87 [uv x] (bv (decide (x=0∨x=9223372036854775808))):=by
 have h0:((x:Int) == 0)=decide (x=0):=by
  rw [Bool.eq_iff_iff,beq_iff_eq,decide_eq_true_iff]; omega
 have h1:((x:Int) == 9223372036854775808)=decide (x=9223372036854775808):=by
  rw [Bool.eq_iff_iff,beq_iff_eq,decide_eq_true_iff]; omega
 refine ac0 Tryz.func87 Tryz.ntmps87 [.tmp 2] ?_;refine wk ?_
 by_cases e0:x=0
 ·refine wk1 (x2 h0 (decide_eq_true e0)) ?_;simp [e0]
 ·by_cases e1:x=9223372036854775808
  ·refine wk1 (x4 h0 (decide_eq_false e0) h1 (decide_eq_true e1)) ?_;simp [e1]
  ·refine wk1 (x4 h0 (decide_eq_false e0) h1 (decide_eq_false e1)) ?_;simp [e0,e1]
def q2V {x y:Nat} {A B V:Int} (hx:x < 18446744073709551616) (hy:y < 18446744073709551616) (ha:ofF x=some A) (hb:ofF y=some B) (hv:mkV (A*B) (-131072)=some V):ACt 113 [uv x,uv y] (pV V):=by
 refine ac0 Tryz.func113 Tryz.ntmps113 [.cell 4 74] ?_;have C1:=(q2u hx ha);have C2:=(q2u hy hb);have C3:=(qmo hv);exact wk trivial
def q6v {A B:Int} {x:Nat} (h:ACt 137 [pV A,pV B,iv 0] (uv x)):ACt 72 [pV A,pV B] (uv x):=by
 refine ac0 Tryz.func72 Tryz.ntmps72 [.tmp 4] ?_;have C1:=@h;exact wk trivial
def qhN {A:Int} {x:Nat} (h:ACt 174 [pV A,iv 0] (uv x)):ACt 114 [pV A] (uv x):=by
 refine ac0 Tryz.func114 Tryz.ntmps114 [.tmp 2] ?_;have C1:=@h;exact wk trivial
def qca {x y:Nat} (hx:bl x≤20000000) (hy:bl y≤20000000) (hy0:y≠0):ACt 268 [.fm (fL x),.fm (fL y)] (.tu [.fm (fL (x / y:Nat)),.fm (fL (x % y:Nat))]):=q3F (qgX hx hy hy0)
def q8V {s:Bool} {z:Nat} (hz:bl z≤20000000):ACt 208 [bv s,.fm (fL z)] (bT (sgn s z)):=by
 have C:=q1N (s:=s) (q0B z) (q32 hz);rw [q0C] at C;exact q3F C
def q8U {a:Int} (ha:bl a.natAbs≤20000000):ACt 157 [bT a] (bT a):=q3F (q4E rfl ha)
def q3K {a:Int} (ha:bl a.natAbs≤20000000):ACt 155 [bT a] (iv (bl a.natAbs:Nat)):=q3F (q3a ha)
def q9c {a:Int} (h1 : -9223372036854775808≤a) (h2:a≤9223372036854775807):ACt 150 [iv a] (bT a):=q3F (q2v h1 h2)
def q6d {a b:Nat} (ha:bl a≤20000000) (hb:bl b≤20000000) (hb0:b≠0):ACt 248 [bT a,bT b] (.tu [bT (a / b:Nat),bT (a % b:Nat)]):=by
 have h1:=q0d (Nat.div_le_self a b);have h2:=q0d (Nat.mod_le a b);have cA:=q8U (a:=a) (by rw [Int.natAbs_natCast]; exact ha);have cB:=q8U (a:=b) (by rw [Int.natAbs_natCast]; exact hb);have cD:=qca ha hb hb0;have cQ:=q8V (s:=false) (z:=a / b) Oq;have cR:=q8V (s:=false) (z:=a % b) Oq;have cS:=q1C (a:=(a % b:Nat)) (by rw [Int.natAbs_natCast]; omega);rw [q80] at cQ cR;have d:∀ z:Nat,decide ((z:Int) < 0)=false:=fun z=>decide_eq_false Oq;have hs:((a % b:Nat):Int).sign < 0 ↔ False:=by
  rcases Nat.eq_zero_or_pos (a % b) with h | h
  ·rw [h]; simp
  ·rw [Int.sign_eq_one_of_pos (by omega)]; simp
 generalize ((a % b:Nat):Int).sign=sg at *;generalize a % b=r at *;generalize a / b=q at *;have hs':¬ sg < 0:=fun h=>hs.1 h;have e0:(false != false)=false:=rfl;unfold bT at *;rw [d] at *;simp only [d] at *;refine ac0 Tryz.func248 Tryz.ntmps248 [.cell 4 72,.cell 5 72] ?_;exact wk1 (x2 e0 hs') trivial
def nwt (a x:Nat):Nat:=if h:x≤(x+a / x) / 2 then x else nwt a ((x+a / x) / 2)
termination_by x
decreasing_by omega
def qnM {a x:Nat} (h:x≤(x+a / x) / 2):nwt a x=x:=by rw [nwt,dif_pos h]
def qnL {a x:Nat} (h:¬ x≤(x+a / x) / 2):nwt a x=nwt a ((x+a / x) / 2):=by rw [nwt,dif_neg h]
def sqN (a:Nat):Nat:=nwt a (2 ^ ((bl a+1) / 2))
def qkl {a k:Nat} (ha:0 < a):∀ x,0 < x→bl x≤k→0 < nwt a x∧bl (nwt a x)≤k:=fun x=>by
 induction x using Nat.strongRecOn with
 | _ x ih =>
  intro hx hk
  by_cases h:x≤(x+a / x) / 2
  ·rw [qnM h]; exact ⟨hx,hk⟩
  ·rw [qnL h];refine ih _ Oq ?_ (Nat.le_trans (q0d Oq) hk)
   by_cases h1:x=1
   ·subst h1; rw [Nat.div_one]; omega
   ·generalize a / x=q; omega
def qhd {a:Nat} (ha0:0 < a) (ha:bl a≤1000000):ACt 257 [bT a] (bT (sqN a:Nat)):=by
 have cS:=q1C (a:=a) (by rw [Int.natAbs_natCast]; omega);have cB:=q3K (a:=a) (by rw [Int.natAbs_natCast]; omega);rw [Int.natAbs_natCast] at cB;have c1:=q9c (a:=1) Oq Oq;have e0:((a:Int).sign == 0)=false:=by rw [Int.sign_eq_one_of_pos (by omega)]; rfl
 obtain ⟨k,hk⟩:∃ k,k=(bl a+1) / 2:=⟨_,rfl⟩;have cH:=q2J (a:=1) (m:=k) (Nat.le_trans (q0M (k:=1) (by decide)) Oq) Oq Oq;have eH:shI 1 (k:Int)=((2 ^ k:Nat):Int):=by unfold shI; rw [if_pos (by omega),Int.one_mul,Int.toNat_natCast]; simp
 rw [eH] at cH;have hx0:0 < 2 ^ k:=Nat.pos_of_ne_zero (by simp);have hbx:bl (2 ^ k)≤500002:=Nat.le_trans (q0M (k:=k+1) (Nat.pow_lt_pow_right Oq Oq)) Oq;have hres:sqN a=nwt a (2 ^ k):=by rw [hk]; rfl
 rw [hres];clear hres eH;have dk:Int.tdiv ((bl a:Int)+1) 2=(k:Int):=by rw [hk]; rfl
 have cDM:∀ x:Nat,x≠0→bl x≤500002→_:=fun x h1 h2=>q6d (a:=a) (b:=x) Oq Oq h1;have cAd:∀ x q:Nat,bl x≤500002→bl q≤1000000→_:=fun x q h1 h2=>qeD (a:=x) (b:=q) (by rw [Int.natAbs_natCast]; omega) (by rw [Int.natAbs_natCast]; omega);generalize hx2:2 ^ k=x0 at *;have d:∀ z:Nat,decide ((z:Int) < 0)=false:=fun z=>decide_eq_false Oq;unfold bT at *;refine ac0 Tryz.func257 Tryz.ntmps257 [.cell 2 72] ?_;refine wk1 e0 ?_;have e2:((2:Int)=0)=False:=eq_false Oq;refine wk1 (x2 dk e2) ?_;refine q0A (fun x:Nat=>0 < x∧bl x≤500002∧nwt a x=nwt a x0) [1,2] [1,2] Lk Lk (fun _=>[(3,.pt 1001 0 0)]) (fun x=>[(1001,⟨72,some 2,[.ag [bv (decide ((x:Int) < 0)),.fm (fL x)]],false⟩)]) (fun x=>x) x0 ⟨hx0,hbx,rfl⟩ ?_ ?_
 ·refine LeM [(1001,some 3)] rfl rfl ?_;exact Zy
 ·rintro x ⟨hx,hbl,hr⟩;have hq:bl (a / x)≤1000000:=Nat.le_trans (q0d (Nat.div_le_self a x)) ha;have cD:=cDM x Oq hbl;have cA:=cAd x (a / x) hbl hq;have eA:(x:Int)+((a / x:Nat):Int)=((x+a / x:Nat):Int):=by omega
  rw [eA] at cA;have hbs:bl (x+a / x)≤1000001:=q6T Oq hq;have cH:=q2J (a:=(x+a / x:Nat)) (m := -1) (by rw [Int.natAbs_natCast]; omega) (by omega) (by omega);have eH:shI ((x+a / x:Nat):Int) (-1)=(((x+a / x) / 2:Nat):Int):=by unfold shI; rw [if_neg (by omega)]; rfl
  rw [eH] at cH;have hby:bl ((x+a / x) / 2)≤1000001:=Nat.le_trans (q0d (Nat.div_le_self _ 2)) hbs;have cC:=q9d (a:=((x+a / x) / 2:Nat)) (b:=x) (by rw [Int.natAbs_natCast]; omega) (by rw [Int.natAbs_natCast]; omega);have hy0:0 < (x+a / x) / 2:=by
   by_cases h1:x=1
   ·subst h1; rw [Nat.div_one]; omega
   ·generalize a / x=q; omega
  have n1:=@qnM a x;have n2:=@qnL a x;generalize (x+a / x) / 2=y at *;generalize x+a / x=z at *;generalize a / x=q at *;generalize a % x=r at *;unfold bT at *;simp only [d] at cA cD cH cC
  by_cases hxy:x≤y
  ·have es:(0:Int)≤((y:Int)-(x:Int)).sign:=by
    rcases Nat.lt_or_ge x y with h | h
    ·rw [Int.sign_eq_one_of_pos (by omega)]; omega
    ·rw [show (y:Int)-x=0 by omega]; simp
   refine wk1 es ?_;rw [← hr,n1 hxy]
  ·have es:¬ (0:Int)≤((y:Int)-(x:Int)).sign:=by
    rw [Int.sign_eq_neg_one_of_neg (by omega)]; omega
   refine wk1 es ?_;refine ⟨y,⟨hy0,Nat.le_trans (q0d (by omega)) hbl,by rw [← n2 hxy,hr]⟩,by omega,?_⟩;refine LeM [] rfl rfl ?_;exact Zy
def q5o {N M:Nat} {neg more:Bool} {mode e:Int} (hM:0 < M) (hN:M≤N) (hm:more=decide (N % M≠0)) (hmb:more=true→55≤bl (N / M)) (hb:bl (N / M)≤200000) (he1 : -200000≤e) (he2:e≤200000) :
  ACt 152 [bv neg,bT (N / M:Nat),iv e,bv more,iv mode] (uv (rE mode neg N M e:Nat)):=q5y rfl hM hN hm hmb hb he1 he2
def qhh {a b:Int} (ha:bl a.natAbs≤20000000) (hb:bl b.natAbs≤20000000):ACt 233 [bT a,bT b] (bT (a*b)):=qbt rfl rfl ha hb
def rtK (a b:Nat):Nat:=62+bl b-bl a
def qdw {a b:Nat} (ha0:a≠0) (hb0:b≠0) (ha:bl a≤200000) (hb:bl b≤200000) :
  ACt 200 [bT a,bT b,iv 60] (.tu [bT (a*2 ^ rtK a b / b:Nat),iv (-(rtK a b:Int)),bv (decide (a*2 ^ rtK a b % b≠0))]):=by
 obtain ⟨k,hk⟩:∃ k,k=rtK a b:=⟨_,rfl⟩;rw [← hk];unfold rtK at hk;have cA:=q3K (a:=a) (by rw [Int.natAbs_natCast]; omega);have cB:=q3K (a:=b) (by rw [Int.natAbs_natCast]; omega);rw [Int.natAbs_natCast] at cA cB;have cH:=q2J (a:=a) (m:=k) (by rw [Int.natAbs_natCast]; omega) (by omega) (by omega);have eH:shI a (k:Int)=((a*2 ^ k:Nat):Int):=by unfold shI; rw [if_pos (by omega),Int.toNat_natCast]; simp
 rw [eH] at cH;have hbk:bl (a*2 ^ k)≤600000:=by rw [q1O ha0]; omega
 have cD:=q6d (a:=a*2 ^ k) (b:=b) Oq Oq hb0;have hbm:=q0d (Nat.mod_le (a*2 ^ k) b);have cS:=q1C (a:=(a*2 ^ k % b:Nat)) (by rw [Int.natAbs_natCast]; omega);have w1:IntKind.i64.wrap ((62:Int)+(bl b:Nat))=((62+bl b:Nat):Int):=by rw [i64_in (by omega) (by omega)]; omega
 have w2:IntKind.i64.wrap (((62+bl b:Nat):Int)-(bl a:Nat))=((62+bl b:Nat):Int)-(bl a:Nat):=i64_in Oq Oq;have em:max (((62+bl b:Nat):Int)-(bl a:Nat)) 0=(k:Int):=by omega
 have w3:IntKind.i64.wrap (0-(k:Int)) = -(k:Int):=by rw [i64_in (by omega) (by omega)]; omega
 have es:(((a*2 ^ k % b:Nat):Int).sign != 0)=decide (a*2 ^ k % b≠0):=by
  by_cases h:a*2 ^ k % b=0
  ·rw [h]; rfl
  ·rw [Int.sign_eq_one_of_pos (by omega),decide_eq_true h]; rfl
 generalize decide (a*2 ^ k % b≠0)=mr at *;generalize ((a*2 ^ k % b:Nat):Int).sign=sg at *;generalize a*2 ^ k % b=r at *;generalize a*2 ^ k / b=q at *;generalize a*2 ^ k=m at *;unfold bT at *;have w0:IntKind.i64.wrap ((60:Int)+2)=62:=rfl;refine ac0 Tryz.func200 Tryz.ntmps200 [.cell 6 72,.tmp 7,.tmp 8] ?_;exact wk1 (x6 w0 w1 w2 em w3 es) trivial
def q9q {A B mode:Int} (hB0:B≠0):ACt 137 [pV A,pV B,iv mode] (uv (fQ mode A B:Nat)):=q6W (al':=[dT A,dT B,iv mode]) (p:=q05 A∧q05 B) qgc (fun D w vs hR=>by
 obtain ⟨a,b,c,rfl,h1,h2,h3⟩:=rd_3 hR;obtain ⟨h4,h5⟩:=q2h.2 (q7U h1);obtain ⟨h6,h7⟩:=q2h.2 (q7U h2);refine ⟨?_,h5,h7⟩;unfold RdL;refine ⟨_,_,rfl,h4,?_⟩;unfold RdL;exact ⟨_,_,rfl,h6,RdL.one h3⟩) fun ⟨hA,hB⟩=>by
 obtain ⟨a1,a2,a3⟩:=q0u hA;obtain ⟨b1,b2,b3⟩:=q0u hB;have b4:=q6p hB;have cA:=q08 hA;have cB:=q08 hB;have sB:=q1C (a:=od B) Oq;have sA:=q1C (a:=od A) Oq;have oB:=q3W hB0;have e1:((od B).sign == 0)=false:=by simpa [Int.sign_eq_zero_iff_zero] using oB
 by_cases hA0:A=0
 ·have oA:od A=0:=by
   have:=q1S A;rw [hA0] at this ⊢
   rcases Int.mul_eq_zero.1 this with h | h
   ·exact h
   ·exact absurd h (Int.ne_of_gt (q0U _))
  have e2:((od A).sign == 0)=true:=by rw [oA]; rfl
  have hres:fQ mode A B=0:=by unfold fQ; rw [if_pos hA0]
  rw [hres];unfold dT at *;unfold bT at *;refine ac0 Tryz.func137 Tryz.ntmps137 [.tmp 6] ?_;refine wk1 (x2 e1 e2) ?_
  rfl
 have oA:=q3W hA0;have e2:((od A).sign == 0)=false:=by simpa [Int.sign_eq_zero_iff_zero] using oA
 have tA:=q9f (a:=od A) Oq;have tB:=q9f (a:=od B) Oq;have pA:(od A).natAbs≠0:=by omega
 have pB:(od B).natAbs≠0:=by omega
 have cR:=qdw pA pB Oq Oq;obtain ⟨k,hk⟩:∃ k,k=rtK (od A).natAbs (od B).natAbs:=⟨_,rfl⟩;rw [← hk] at cR;have hk2:62+bl (od B).natAbs-bl (od A).natAbs=k:=hk.symm;have hbk:=q1O pA (k:=k);have hge:=q9N pB (N:=(od A).natAbs*2 ^ k) (k:=60) (by rw [hbk]; omega);have hle:(od B).natAbs≤(od A).natAbs*2 ^ k:=by
  rcases Nat.lt_or_ge ((od A).natAbs*2 ^ k) (od B).natAbs with h | h
  ·rw [Nat.div_eq_of_lt h] at hge; simp [bl] at hge
  ·exact h
 have hbq:=q0d (Nat.div_le_self ((od A).natAbs*2 ^ k) (od B).natAbs);have hrd:=q5o (N:=(od A).natAbs*2 ^ k) (M:=(od B).natAbs) (neg:=decide (A < 0) != decide (B < 0)) (mode:=mode) (e:=dyE A-k-dyE B) (Nat.pos_of_ne_zero pB) hle rfl (fun _=>by omega) Oq Oq Oq;rw [qka hA0 hB0] at hrd;have hres:fQ mode A B=rF mode (decide (A < 0) != decide (B < 0)) A.natAbs B.natAbs:=by unfold fQ; rw [if_neg hA0]
 rw [hres];have w1:IntKind.i64.wrap (dyE A-dyE B)=dyE A-dyE B:=q7I Oq Oq;have w2:IntKind.i64.wrap (dyE A-dyE B + -(k:Int))=dyE A-k-dyE B:=by rw [i64_in (by omega) (by omega)]; omega
 have s1:=q15 A;have s2:=q15 B;generalize rF mode (decide (A < 0) != decide (B < 0)) A.natAbs B.natAbs=res at *;generalize decide ((od A).natAbs*2 ^ k % (od B).natAbs≠0)=mr at *;generalize (od A).natAbs*2 ^ k / (od B).natAbs=q at *;have d1:∀ z:Nat,decide ((z:Int) < 0)=false:=fun z=>decide_eq_false Oq;unfold dT at *;unfold bT at *;rw [← s1,← s2] at hrd;refine ac0 Tryz.func137 Tryz.ntmps137 [.tmp 6] ?_;exact wk1 (x4 e1 e2 w1 w2) trivial
def qiL {a x s:Nat} (hs:s*s≤a) (hx:0 < x):s≤(x+a / x) / 2:=by
 have h1:=Nat.div_add_mod a x;have h2:=Nat.mod_lt a hx;generalize a / x=q at *;generalize a % x=r at *
 rcases Nat.lt_or_ge (x+q) (2*s) with h | h
 ·exfalso
  have h3:x*(q+1)≤x*(2*s-x):=Nat.mul_le_mul_left x Oq;have h4:x*(2*s-x)≤s*s:=by
   rcases Nat.le_total x s with h5 | h5
   ·obtain ⟨d,rfl⟩:∃ d,s=x+d:=⟨s-x,by omega⟩;rw [show 2*(x+d)-x=x+2*d by omega,Nat.mul_add,Nat.mul_add,Nat.add_mul,Nat.add_mul];have:x*(2*d)=x*d+d*x:=by rw [Nat.mul_comm d x,← Nat.two_mul,Nat.mul_left_comm]
    omega
   ·obtain ⟨d,rfl⟩:∃ d,x=s+d:=⟨x-s,by omega⟩
    rcases Nat.le_total d s with h6 | h6
    ·obtain ⟨t,rfl⟩:∃ t,s=d+t:=⟨s-d,by omega⟩;rw [show 2*(d+t)-(d+t+d)=t by omega];have e1:(d+t+d)*t=d*t+t*t+d*t:=by rw [Nat.add_mul,Nat.add_mul]
     have e2:(d+t)*(d+t)=d*d+t*d+(d*t+t*t):=by rw [Nat.mul_add,Nat.add_mul,Nat.add_mul]
     have e3:t*d=d*t:=Nat.mul_comm _ _;omega
    ·rw [show 2*s-(s+d)=0 by omega]; omega
  rw [Nat.mul_add,Nat.mul_one] at h3;omega
 ·omega
def qsG {a s:Nat} (hs:s*s≤a):∀ x,0 < x→0 < s→s≤x→s≤nwt a x:=fun x=>by
 induction x using Nat.strongRecOn with
 | _ x ih =>
  intro hx h0 hsx;have hy:=qiL hs hx
  by_cases h:x≤(x+a / x) / 2
  ·rw [qnM h]; exact hsx
  ·rw [qnL h];exact ih _ Oq Oq h0 hy
def qrC {a:Nat} (ha:111≤bl a) (hb:bl a≤400000):55≤bl (sqN a)∧bl (sqN a)≤200002∧0 < sqN a:=by
 have ha0:0 < a:=by
  rcases Nat.eq_zero_or_pos a with h | h
  ·subst h; simp [bl] at ha
  ·exact h
 obtain ⟨k,hk⟩:∃ k,k=(bl a+1) / 2:=⟨_,rfl⟩;have hx0:0 < 2 ^ k:=Nat.pos_of_ne_zero (by simp);have e:sqN a=nwt a (2 ^ k):=by rw [hk]; rfl
 have h1:=qkl (k:=k+1) ha0 (2 ^ k) hx0 (q0M (Nat.pow_lt_pow_right Oq Oq));have h2:2 ^ 54≤nwt a (2 ^ k):=by
  refine qsG (s:=2 ^ 54) ?_ _ hx0 (by decide) (Nat.pow_le_pow_right Oq Oq);rw [← Nat.pow_add]
  rcases Nat.lt_or_ge a (2 ^ (54+54)) with h | h
  ·have:=q0M h; omega
  ·exact h
 rw [← e] at h1 h2;refine ⟨?_,by omega,h1.1⟩
 rcases Nat.lt_or_ge (bl (sqN a)) 55 with h | h
 ·have:=q1P (k:=54) (show bl (sqN a)≤54 by omega);omega
 ·exact h
def td2 (z:Int) : -(z.natAbs:Int)≤Int.tdiv z 2∧Int.tdiv z 2≤z.natAbs ∧ -2≤Int.tmod z 2∧Int.tmod z 2≤2:=by
 have key:∀ n:Nat,Int.tdiv (n:Int) 2=((n / 2:Nat):Int)∧Int.tmod (n:Int) 2=((n % 2:Nat):Int):=fun n=>⟨rfl,rfl⟩;obtain ⟨n,rfl | rfl⟩:=Int.eq_nat_or_neg z
 ·rw [(key n).1,(key n).2]; omega
 ·rw [Int.neg_tdiv,Int.neg_tmod,(key n).1,(key n).2]; omega
def qhe {a:Nat} {x:Int} (ha0:a≠0) (ha:bl a≤150000) (h1 : -70000≤x) (h2:x≤70000):∃ (q:Nat) (e:Int) (more:Bool),ACt 234 [bT a,iv x,iv 60] (.tu [bT q,iv e,bv more])∧55≤bl q∧bl q≤200000∧0 < q ∧ -200000≤e∧e≤200000:=by
 have cB:=q3K (a:=a) (by rw [Int.natAbs_natCast]; omega);rw [Int.natAbs_natCast] at cB;obtain ⟨k0,hk0⟩:∃ k0,k0=126-bl a:=⟨_,rfl⟩;obtain ⟨od,hod⟩:∃ b,b=(Int.tmod (x-(k0:Int)) 2 != 0):=⟨_,rfl⟩;obtain ⟨k,hk⟩:∃ k,k=if od then k0+1 else k0:=⟨_,rfl⟩
 have hkb:k0≤k∧k≤k0+1:=by rw [hk]; split <;> omega
 have t1:=td2 (x-(k0:Int));have t2:=td2 (x-(k:Int));have cH:=q2J (a:=a) (m:=k) (by rw [Int.natAbs_natCast]; omega) (by omega) (by omega);have eH:shI a (k:Int)=((a*2 ^ k:Nat):Int):=by unfold shI; rw [if_pos (by omega),Int.toNat_natCast]; simp
 rw [eH] at cH;have hbk:bl (a*2 ^ k)=bl a+k:=q1O ha0 k;have hlp:=q43 ha0;have hm0:0 < a*2 ^ k:=Nat.mul_pos (Nat.pos_of_ne_zero ha0) (q0G k);have cS:=qhd hm0 Oq;obtain ⟨q1,q2,q3⟩:=qrC (a:=a*2 ^ k) Oq Oq;have hq:bl (sqN (a*2 ^ k))≤200000:=by
  have:=(qkl (k:=(bl (a*2 ^ k)+1) / 2+1) hm0 (2 ^ ((bl (a*2 ^ k)+1) / 2)) (q0G _) (q0M (Nat.pow_lt_pow_right Oq Oq))).2;have e:sqN (a*2 ^ k)=nwt (a*2 ^ k) (2 ^ ((bl (a*2 ^ k)+1) / 2)):=rfl;rw [e]; omega
 have cM:=qhh (a:=sqN (a*2 ^ k)) (b:=sqN (a*2 ^ k)) (by rw [Int.natAbs_natCast]; omega) (by rw [Int.natAbs_natCast]; omega);have hmm:=q44 (sqN (a*2 ^ k)) (sqN (a*2 ^ k));have cC:=q9d (a:=(sqN (a*2 ^ k):Int)*sqN (a*2 ^ k)) (b:=(a*2 ^ k:Nat)) (by rw [Int.natAbs_mul,Int.natAbs_natCast]; omega) (by rw [Int.natAbs_natCast]; omega);refine ⟨sqN (a*2 ^ k),Int.tdiv (x-k) 2,(((sqN (a*2 ^ k):Int)*sqN (a*2 ^ k)-(a*2 ^ k:Nat)).sign != 0),?_,q1,hq,q3,by omega,by omega⟩;clear q1 q2 q3 hq hmm;have w1:IntKind.i64.wrap ((126:Int)-(bl a:Nat))=(126:Int)-(bl a:Nat):=i64_in Oq Oq;have em:max ((126:Int)-(bl a:Nat)) 0=(k0:Int):=by omega
 have w2:IntKind.i64.wrap (x-(k0:Int))=x-k0:=i64_in Oq Oq;have w3:IntKind.i64.wrap (Int.tmod (x-(k0:Int)) 2)=Int.tmod (x-(k0:Int)) 2:=i64_in Oq Oq;have w4:IntKind.i64.wrap ((k0:Int)+1)=((k0+1:Nat):Int):=by rw [i64_in (by omega) (by omega)]; omega
 have w5:IntKind.i64.wrap (x-(k:Int))=x-k:=i64_in Oq Oq;have w6:IntKind.i64.wrap (Int.tdiv (x-(k:Int)) 2)=Int.tdiv (x-(k:Int)) 2:=i64_in Oq Oq;have e2:((2:Int)=0)=False:=eq_false Oq;have v0:IntKind.i64.wrap ((2:Int)*60)=120:=rfl;have v1:IntKind.i64.wrap ((120:Int)+6)=126:=rfl;generalize (((sqN (a*2 ^ k):Int)*sqN (a*2 ^ k)-(a*2 ^ k:Nat)).sign)=sg at *;generalize sqN (a*2 ^ k)=q at *;generalize (q:Int)*q=qq at *;generalize a*2 ^ k=m at *;unfold bT at *;refine ac0 Tryz.func234 Tryz.ntmps234 [.cell 6 72,.tmp 7,.tmp 8] ?_;refine wk1 (x6 v0 v1 w1 em w2 (x3 w3 e2 hod.symm)) ?_;refine qqE fun K0 hK0=>?_;have fin:∀ (s:Nat→PV) (h:Hp),s 1=iv x→s 3=.pt 3 0 0→s 6=.pt 6 0 0→s 9=iv k→h 3=some ⟨72,some 2,[.ag [bv (decide ((a:Int) < 0)),.fm (fL a)]],false⟩→h 6=some ⟨72,some 2,[.ag [.vl (.bool false),q5A]],false⟩→h 10=none→K0 s h:=fun s h s1 s3 s6 s9 h3 h6 h10=>by
  refine hK0 _ _ ?_; clear hK0 K0;exact wk1 (x6 s1 s3 s6 s9 h3 (x5 h6 h10 w5 w6 e2)) trivial
 cases od with
 | false =>
  have:k=k0:=by simpa using hk
  subst this;refine wk ?_;refine fin _ _ ?_ ?_ ?_ ?_ ?_ ?_ ?_ <;> first | rfl | simp -implicitDefEqProofs (disch:=omega) only [go_sem,Nat.reduceEqDiff,Nat.reduceAdd,↓reduceIte]
 | true =>
  have:k=k0+1:=by simpa using hk
  subst this;refine wk1 w4 ?_;refine fin _ _ ?_ ?_ ?_ ?_ ?_ ?_ ?_ <;> first | rfl | simp -implicitDefEqProofs (disch:=omega) only [go_sem,Nat.reduceEqDiff,Nat.reduceAdd,↓reduceIte]
open Classical in
def q7V {V:Int} (hV:0 < V):∃ x:Nat,x < 18446744073709551616∧ACt 174 [pV V,iv 0] (uv x):=by
 by_cases hA:q05 V
 case neg =>
  refine ⟨0,by omega,qcF,fun D w vs hT hF hR=>?_⟩;obtain ⟨_,_,rfl,h3,_⟩:=qk9 hR;exact (hA ((q2h (ρ:=fun _=>none) (h:=h0)).2 (q7U h3)).2).elim
 obtain ⟨a1,a2,a3⟩:=q0u hA;have oA:=q3W (show V≠0 by omega);have s1:=q15 V;have hpos:0 < od V:=by
  have h1:decide (od V < 0)=false:=by rw [s1]; exact decide_eq_false (by omega)
  have:=of_decide_eq_false h1;omega
 obtain ⟨a,ha⟩:∃ a:Nat,od V=a:=⟨(od V).toNat,by omega⟩;have ha0:a≠0:=by omega
 obtain ⟨q,e,more,cR,q1,q2,q3,e1,e2⟩:=qhe (a:=a) (x:=dyE V) ha0 (by rw [ha,Int.natAbs_natCast] at a3; omega) (by omega) (by omega);obtain ⟨N,M,hM,hN,hNM,hmore⟩:∃ N M:Nat,0 < M∧M≤N∧N / M=q∧more=decide (N % M≠0):=by
  cases more with
  | false=>exact ⟨q,1,by omega,by omega,Nat.div_one q,by rw [Nat.mod_one]; rfl⟩
  | true=>exact ⟨2*q+1,2,by omega,by omega,by omega,by rw [show (2*q+1) % 2=1 by omega]; rfl⟩
 have hrd:=q5o (N:=N) (M:=M) (neg:=false) (mode:=0) (e:=e) hM hN hmore (fun _=>by rw [hNM]; exact q1) (by rw [hNM]; exact q2) e1 e2;refine ⟨rE 0 false N M e,qmr hM hN,?_⟩;rw [hNM] at hrd;generalize rE 0 false N M e=res at *;have cA:=q08 hA;have sA:=q1C (a:=od V) Oq;have g1:¬ (od V).sign < 0:=by rw [Int.sign_eq_one_of_pos hpos]; omega
 have g2:((od V).sign == 0)=false:=by rw [Int.sign_eq_one_of_pos hpos]; rfl
 rw [← ha] at cR;refine q6W (al':=[dT V,iv 0]) (p:=True) qcF (fun D w vs hR=>by
  obtain ⟨b,c,rfl,h1,h2⟩:=qk9 hR;refine ⟨?_,trivial⟩;unfold RdL;exact ⟨_,_,rfl,(q2h.2 (q7U h1)).1,RdL.one h2⟩) fun _=>?_
 unfold dT at *;unfold bT at *;refine ac0 Tryz.func174 Tryz.ntmps174 [.tmp 4] ?_;exact wk1 (x2 g1 g2) trivial
open Classical in
noncomputable def qef (V:Int):Nat:=if h:0 < V then (q7V h).choose else 0
def qhv {V:Int}:qef V < 18446744073709551616:=by
 unfold qef
 split
 ·rename_i h; exact (q7V h).choose_spec.1
 ·omega
def qhx {V:Int} (hV:0 < V):ACt 174 [pV V,iv 0] (uv (qef V:Nat)):=by
 unfold qef;rw [dif_pos hV];exact (q7V hV).choose_spec.2
def q8G (raw:List Nat) (k:Int) (st n:Nat):List Nat:=(List.range n).map fun i:Nat=>q25 st (q5G raw (k+i))
def q5X {raw:List Nat} {k:Int} {st n:Nat}:(q8G raw k st n).length=n:=by simp [q8G]
def qqS {raw:List Nat} {k:Int} {st n:Nat}:q8G raw k st (n+1)=q8G raw k st n ++ [q25 st (q5G raw (k+n))]:=by simp [q8G,List.range_succ]
def keep (x:Nat):Prop:=0 < x / 1099511627776 % 3
instance {x:Nat}:Decidable (keep x):=inferInstanceAs (Decidable (_ < _))
def gC (raw:List Nat) (R st j:Nat) (p:List Int × List Nat):Nat→List Int × List Nat
 | 0=>p
 | i+1=>let q:=gC raw R st j p i
  if keep (q5G raw (100+j*R+i)) then (q.1 ++ [(i:Int)],q.2 ++ [q25 st (q5G raw (100+j*R+i))]) else q
def gM (raw:List Nat) (R st:Nat):Nat→List Int × List Int × List Nat
 | 0=>([0],[],[])
 | j+1=>let m:=gM raw R st j
  let p:=gC raw R st j m.2 R
  (m.1 ++ [(p.1.length:Int)],p)
abbrev pM (R C:Int) (m:List Int × List Int × List Nat):PV:=.ag [iv R,iv C,pI m.1,pI m.2.1,pF m.2.2]
def qfd {raw:List Nat} {R st j:Nat} {p:List Int × List Nat} (hp:p.1.length=p.2.length):∀ i,(gC raw R st j p i).1.length=(gC raw R st j p i).2.length∧(gC raw R st j p i).1.length≤p.1.length+i
 | 0=>⟨hp,Nat.le_refl _⟩
 | i+1=>by
  have:=qfd (raw:=raw) (R:=R) (st:=st) (j:=j) hp i;simp only [gC]
  split
  ·simp only [List.length_append,List.length_cons,List.length_nil]; omega
  ·omega
def qlE {raw:List Nat} {R st:Nat}:∀ j,(gM raw R st j).1.length=j+1∧(gM raw R st j).2.1.length=(gM raw R st j).2.2.length∧(gM raw R st j).2.1.length≤j*R
 | 0=>⟨rfl,rfl,by simp [gM]⟩
 | j+1=>by
  have h1:=qlE (raw:=raw) (R:=R) (st:=st) j;have h2:=qfd (raw:=raw) (R:=R) (st:=st) (j:=j) h1.2.1 R;simp only [gM];refine ⟨by simp [h1.1],h2.1,?_⟩;rw [Nat.succ_mul]; omega
def qdG {raw : List Nat} {st : Int} {R C : Nat} (hr : raw.length ≤ 9223372036854775807) (hR : R ≤ 1000) (hC : C ≤ 1000) (h3 : -9223372036854775808 ≤ st) (h4 : st ≤ 9223372036854775807) :
    ACt 29 [pF raw, iv R, iv C, iv st] (pM R C (gM raw R (q07 st 4) C)) := by
  refine ac0 Tryz.func29 Tryz.ntmps29 [.cell 8 52] ?_
  refine wk ?_
  obtain ⟨sm, hsm⟩ : ∃ sm, sm = q07 st 4 := ⟨_, rfl⟩
  rw [← hsm]
  refine q0A (fun j => j ≤ C) [0, 1, 2, 3, 8, 9] [8] Lk Lk (fun j : Nat => [(10, iv j)]) (fun j => [(9, ⟨52, some 5, [.ag [iv R, iv C, .ow 1001 none 0 (gM raw R sm j).1.length, .ow 1002 none 0 (gM raw R sm j).2.1.length, .ow 1003 none 0 (gM raw R sm j).2.2.length]], false⟩), (1001, ⟨3, none, (gM raw R sm j).1.map fun z => iv z, false⟩), (1002, ⟨3, none, (gM raw R sm j).2.1.map fun z => iv z, false⟩), (1003, ⟨30, none, (gM raw R sm j).2.2.map fun z : Nat => uv z, false⟩)]) (fun j => C - j) 0 (Nat.zero_le _) ?_ ?_
  · refine LeM [(1001, some 15), (1002, none), (1003, none)] rfl rfl ?_
    refine Zz ?_
    exact ⟨rfl, ⟨rfl, rfl, rfl⟩, rfl, rfl, rfl⟩
  · intro j hj
    have hg := qlE (raw := raw) (R := R) (st := sm) j
    have hjR : j * R ≤ 1000 * 1000 := Nat.mul_le_mul Oq hR
    refine wk ?_
    by_cases hlt : j < C
    · have hlt' : (j : Int) < C := by omega
      refine wk1 hlt' ?_
      refine q0A (fun i => i ≤ R) [0, 1, 2, 3, 8, 9, 10] [8, 1001] Lk Lk (fun i : Nat => [(11, iv i)]) (fun i => [(9, ⟨52, some 5, [.ag [iv R, iv C, .ow 1001 none 0 (gM raw R sm j).1.length, .ow 1002 none 0 (gC raw R sm j (gM raw R sm j).2 i).1.length, .ow 1003 none 0 (gC raw R sm j (gM raw R sm j).2 i).2.length]], false⟩), (1002, ⟨3, none, (gC raw R sm j (gM raw R sm j).2 i).1.map fun z => iv z, false⟩), (1003, ⟨30, none, (gC raw R sm j (gM raw R sm j).2 i).2.map fun z : Nat => uv z, false⟩)]) (fun i => R - i) 0 (Nat.zero_le _) ?_ ?_
      · refine LeM [] rfl rfl ?_
        refine Zz ?_
        exact ⟨rfl, ⟨rfl, rfl⟩, rfl, rfl⟩
      · intro i hi
        have hq := qfd (raw := raw) (R := R) (st := sm) (j := j) hg.2.1 i
        refine wk ?_
        by_cases hlt2 : i < R
        · have hlt2' : (i : Int) < R := by omega
          refine wk1 hlt2' ?_
          have e0 : 0 ≤ (j : Int) * R := Int.mul_nonneg Oq Oq
          have e1 : (j : Int) * R ≤ 1000000 := by have : ((j * R : Nat) : Int) ≤ 1000000 := by omega
                                                  rwa [Int.natCast_mul] at this
          obtain ⟨x, hx⟩ : ∃ x, x = q5G raw (100 + j * R + i) := ⟨_, rfl⟩
          have hxl : x < 18446744073709551616 := by rw [hx]; exact q35 _ _
          have e2 : (((x : Nat) : Int).fdiv (2 ^ min (Int.toNat 40) 64)) = ((x / 1099511627776 : Nat) : Int) := by
            show (((x : Nat) : Int).fdiv (2 ^ 40)) = _
            rw [show ((2 : Int) ^ 40) = ((1099511627776 : Nat) : Int) from rfl, Int.fdiv_eq_ediv_of_nonneg _ (by omega)]; rfl
          have e3 : (((x / 1099511627776 : Nat) : Int).tmod 3) = ((x / 1099511627776 % 3 : Nat) : Int) := by rw [Int.tmod_eq_emod_of_nonneg (by omega)]; rfl
          have C1 := @q92
          have C2 := @qkm
          have ek : (decide (((x / 1099511627776 % 3 : Nat) : Int) > 0)) = decide (keep x) := by unfold keep; congr 1; exact propext ⟨fun h => by omega, fun h => by omega⟩
          by_cases hkp : keep x
          · refine wk1 (x6 hx.symm hsm.symm e2 e3 ek hkp) ?_
            have eg : gC raw R sm j (gM raw R sm j).2 (i + 1) = ((gC raw R sm j (gM raw R sm j).2 i).1 ++ [(i : Int)], (gC raw R sm j (gM raw R sm j).2 i).2 ++ [q25 sm x]) := by
              simp only [gC]; rw [← hx, if_pos hkp]
            refine ⟨i + 1, by omega, by omega, ?_⟩
            rw [eg]
            refine LeM [(1002, some 43), (1003, some 51)] rfl rfl ?_
            refine Zz ?_
            omega
          · refine wk1 (x5 hx.symm e2 e3 ek hkp) ?_
            refine ⟨i + 1, by omega, by omega, ?_⟩
            have eg : gC raw R sm j (gM raw R sm j).2 (i + 1) = gC raw R sm j (gM raw R sm j).2 i := by
              simp only [gC]; rw [← hx, if_neg hkp]
            rw [eg]
            refine LeM [] rfl rfl ?_
            refine Zz ?_
            omega
        · have hlt2' : ¬ (i : Int) < R := by omega
          obtain rfl : i = R := by omega
          refine wk1 hlt2' ?_
          refine ⟨j + 1, by omega, by omega, ?_⟩
          refine LeM [(1001, some 59)] rfl rfl ?_
          refine Zz ?_
          exact ⟨by omega, ⟨by simp [gM], rfl, rfl⟩, rfl, rfl, rfl⟩
    · have hlt' : ¬ (j : Int) < C := by omega
      obtain rfl : j = C := by omega
      exact wk1 (x2 hlt' hsm.symm) trivial
def gF (raw:List Nat) (R st:Nat) (j i:Nat):Option Nat:=if keep (q5G raw (100+j*R+i)) then some (q25 st (q5G raw (100+j*R+i))) else none
def gC_s {raw:List Nat} {R st j i:Nat} {p:List Int × List Nat} {x:Nat} (hx:q5G raw (100+j*R+i)=x):gC raw R st j p (i+1)=if keep x then ((gC raw R st j p i).1 ++ [(i:Int)],(gC raw R st j p i).2 ++ [q25 st x]) else gC raw R st j p i:=by
 subst hx; rfl
def gF_x {raw:List Nat} {R st j i x:Nat} (hx:q5G raw (100+j*R+i)=x):gF raw R st j i=if keep x then some (q25 st x) else none:=by
 subst hx; rfl
def qmV {f:Nat→Nat→Option Nat} {j i x:Nat} {p:List Int × List Nat} (h:f j i=some x):tC f j p (i+1)=((tC f j p i).1 ++ [(i:Int)],(tC f j p i).2 ++ [x]):=by simp only [tC,h]
def qql {f:Nat→Nat→Option Nat} {j i:Nat} {p:List Int × List Nat} (h:f j i=none):tC f j p (i+1)=tC f j p i:=by simp only [tC,h]
def gC_eq {raw:List Nat} {R st j:Nat} {p:List Int × List Nat} {G:Nat→Nat→Option Nat} (hG:∀ i,G j i=gF raw R st j i) (i:Nat):gC raw R st j p i=tC G j p i:=by
 induction i with
 | zero=>unfold gC tC; rfl
 | succ i ih =>
  obtain ⟨x,hx⟩:∃ x,q5G raw (100+j*R+i)=x:=⟨_,rfl⟩;have e2:=(hG i).trans (gF_x (R:=R) (st:=st) hx);rw [gC_s hx,ih]
  by_cases h:keep x
  ·rw [if_pos h] at e2 ⊢;rw [qmV e2]
  ·rw [if_neg h] at e2 ⊢;rw [qql e2]
def gM_eq {raw:List Nat} {R st:Nat} (j:Nat):gM raw R st j=tM (gF raw R st) R j:=by
 induction j with
 | zero=>rfl
 | succ j ih =>
  have e1:gM raw R st (j+1)=((gM raw R st j).1 ++ [((gC raw R st j (gM raw R st j).2 R).1.length:Int)],gC raw R st j (gM raw R st j).2 R):=rfl;rw [e1,ih,gC_eq (G:=gF raw R st) fun _=>rfl]; rfl
def q3h {raw:List Nat} {st:Int} {R C:Nat} (hr:raw.length≤9223372036854775807) (hR:R≤1000) (hC:C≤1000) (h3 : -9223372036854775808≤st) (h4:st≤9223372036854775807) :
  ACt 29 [pF raw,iv R,iv C,iv st] (pT R C (gF raw R (q07 st 4))):=by
 have:=qdG (R:=R) (C:=C) hr hR hC h3 h4;rw [gM_eq] at this;exact this
def num1_ok {x:Nat} (hx:x < 18446744073709551616):q0J (q25 1 x)∧q25 1 x < 18446744073709551616:=by
 unfold q0J q25;rw [if_pos rfl];omega
def qnO {x:Nat} (hx:x < 18446744073709551616):q0J (q25 2 x)∧q25 2 x < 18446744073709551616:=by
 unfold q0J q25;rw [if_neg (by omega),if_pos rfl];have h1:x / 9223372036854775808≤1:=by omega
 have h2:x / 256 % 81 < 81:=by omega
 have h3:x / 2251799813685248 % 2≤1:=by omega
 generalize x / 9223372036854775808=a at *;generalize x / 256 % 81=b at *;generalize x / 2251799813685248 % 2=c at *;omega
def qfD {k x:Nat} (hx:x < 18446744073709551616):q0J (q25 k x)∧q25 k x < 18446744073709551616:=by
 by_cases h1:k=1
 ·subst h1;unfold q0J q25;rw [if_pos rfl];omega
 by_cases h2:k=2
 ·subst h2; exact qnO hx
 by_cases h3:k=3
 ·subst h3;unfold q0J q25;rw [if_neg (by omega),if_neg (by omega),if_pos rfl]
  split <;> omega
 have hs:=q7M x;unfold q25;rw [if_neg h1,if_neg h2,if_neg h3];exact ⟨q4o Oq,qfk Oq⟩
def qig {raw:List Nat} {R C st:Nat} (hR:R≤200) (hC:C≤200) (hm:C*R≤10000):TOk (gF raw R st) R C:=by
 have key:∀ j i x,gF raw R st j i=some x→q0J x∧x < 18446744073709551616:=fun j i x h=>by
  obtain ⟨u,hu⟩:∃ u,q5G raw (100+j*R+i)=u:=⟨_,rfl⟩;have hl:u < 18446744073709551616:=by rw [← hu]; exact q35 _ _
  rw [gF_x hu] at h
  split at h
  ·have h:=Option.some.inj h;rw [← h]; exact qfD hl
  ·cases h
 exact ⟨hR,hC,hm,fun j i x _ _ h=>(key j i x h).2,fun j i x _ _ h=>(key j i x h).1⟩
section
variable {D:Nat→Prop} {L:List Nat} {N0 g n gy:Nat} {rows:List (List Int)} {ss:List (Option Addr × Nat × Nat)} {w w':World}
def Sums.kpo (h:Sums w D L N0 g n rows ss) (k:Kp (fun k=>k≠gy) w w') (hD:∀ k,D k→k≠gy) (hg:gy ∉ L):Sums w' D L N0 g n rows ss :=
 ⟨h.own.kp k (fun a ha=>by cases ha; exact fun e=>hg (e ▸ h.gL)),h.len,fun i s r a b=>(h.row i s r a b).kp k (fun k hd=>hD k hd.1) (fun A hA e=>hg (e ▸ (h.mem i s A a hA).1)),h.mem,h.ne,h.gL,h.lo,fun j hj=>Nat.lt_of_lt_of_le (h.hi j hj) k.size⟩
def qri {mode:Int} {neg:Bool} {N M:Nat} (hN:0 < N) (hM:0 < M):rF mode neg N M < 18446744073709551616:=by
 have h1:M≤N*2 ^ bl M:=Nat.le_trans (Nat.le_of_lt (q28 M)) (Nat.le_mul_of_pos_left _ hN);have:=qmr (mode:=mode) (neg:=neg) (e := -((bl M:Nat):Int)) hM h1;unfold rE at this;rw [show (-((bl M:Nat):Int)).toNat=0 by omega,show (- -((bl M:Nat):Int)).toNat=bl M by omega,Nat.pow_zero,Nat.mul_one,q56 hN hM (q0G _)] at this;exact this
def q6L {mode a b:Int} (hb:b≠0):fQ mode a b < 18446744073709551616:=by
 unfold fQ
 split
 ·omega
 ·exact qri Oq Oq
def qsq:Option (List Nat)→Fam
 | some ys=>fP (fSc q2T ys) (fc (.int .i64 0))
 | none=>fP (fSc q2T []) (fc (.int .i64 233))
structure RowsOk (f:Fac) (k:Nat) (rows:List (List Int)):Prop where
 len:rows.length=f.pm.length
 row:∀ r ∈ rows,r.length≤1+k∧∀ x ∈ r,bl x.natAbs≤67600
structure RowsIn (f:Fac) (k p b:Nat) (rows:List (List Int)):Prop where
 len:rows.length=f.pm.length
 row:∀ (i:Nat) (r:List Int),rows[i]?=some r→r.length≤2+k∧((∃ p',p≤p'∧p' < b∧f.ri[p']?=some (i:Int))→r.length≤1+k)∧∀ x ∈ r,bl x.natAbs≤67600
def RowsOk.into {f:Fac} {k p b:Nat} (h:RowsOk f k rows):RowsIn f k p b rows :=
 ⟨h.len,fun i r hr=>by
  obtain ⟨h1,h2⟩:=h.row r (List.mem_of_getElem? hr);exact ⟨by omega,fun _=>h1,h2⟩⟩
def RowsIn.out {f:Fac} {k p b:Nat} (h:RowsIn f k p b rows):RowsOk f (k+1) rows :=
 ⟨h.len,fun r hr=>by
  obtain ⟨i,hi⟩:=List.mem_iff_getElem?.1 hr;obtain ⟨h1,_,h2⟩:=h.row i r hi;exact ⟨by omega,h2⟩⟩
def RowsIn.step {f:Fac} {j a k p b i:Nat} {r:List Int} {x q:Nat} (hc:Col f j a b) (h:RowsIn f k p b rows) (hp1:a < p) (hp2:p < b) (hi:f.ri[p]?=some (i:Int)) (hr:rows[i]?=some r) (hx:q0J x) (hq:q0J q):RowsIn f k (p+1) b (rows.set i (r ++ [-(q1M x q)])):=by
 have h2:=(q04 hx hq).2;obtain ⟨l1,l2,l3⟩:=h.row i r hr;refine ⟨by rw [List.length_set]; exact h.len,fun i' r' hr'=>?_⟩
 rcases q1T hr' with ⟨rfl,rfl,_⟩ | ⟨hne,hr'⟩
 ·have:=l2 ⟨p,Nat.le_refl _,hp2,hi⟩;refine ⟨by simp; omega,?_,fun y hy=>?_⟩
  ·rintro ⟨p',h1,h2,h3⟩;have:=hc.mono (p'-p) p i i Oq Oq hi (by rw [show p+(p'-p)=p' by omega]; exact h3);rw [if_neg (by omega)] at this; omega
  ·rcases List.mem_append.1 hy with hy | hy
   ·exact l3 y hy
   ·simp at hy; subst hy; rwa [Int.natAbs_neg]
 ·obtain ⟨m1,m2,m3⟩:=h.row i' r' hr';exact ⟨m1,fun ⟨p',h1,h2,h3⟩=>m2 ⟨p',by omega,h2,h3⟩,m3⟩
def qed {k:Nat} {f:Fac} {r:List Int} (h:RowsOk f k rows) (hr:r ∈ rows) (hk:k≤500):r.length≤501∧(∀ x ∈ r,q05 x)∧q05 (q0o r):=by
 obtain ⟨h1,h2⟩:=h.row r hr;refine ⟨by omega,fun x hx=>?_,?_⟩
 ·have:=h2 x hx; unfold q05; omega
 ·have:=q5p (i:=r.length) h2 Oq;rw [List.take_length] at this;unfold q05; omega
end
def inI {D:Nat→Prop} {a:Addr} {n c i:Nat} {l:List Int} {w:World} {z:Int} (h:In (fSc q4L l) D (.slice (some a) n c) w) (hi:l[i]?=some z):w.cell? (a.add i)=some (.int .i64 z):=by
 obtain ⟨_,hc,_,x⟩:=h.ixI hi; cases hc; exact x
def inU {D:Nat→Prop} {a:Addr} {n c i:Nat} {l:List Nat} {w:World} {z:Nat} (h:In (fSc q2T l) D (.slice (some a) n c) w) (hi:l[i]?=some z):w.cell? (a.add i)=some (.int .u64 (z:Int)):=by
 obtain ⟨_,hc,_,x⟩:=h.ixU hi; cases hc; exact x
def owG {B g n c j:Nat} {xs:List Value} {v:Value} {w:World} (h:Own w B 30 1 (some ⟨g,0,none⟩) n c xs) (hj:xs[j]?=some v):w.cell? ⟨g,j,none⟩=some v:=by
 obtain ⟨_,hg,_,hc,_⟩:=h.cell (List.getElem?_eq_some_iff.1 hj).1;cases hg;rw [hc]; exact (List.getElem?_eq_getElem _).symm.trans hj
def qdH {E:Nat→Prop} {f:Fac} {v:Value} {A A2:Option Addr} {n c n2 c2:Nat} {l:List Nat} {ps:List Int} {w:World} (hT:q2j w) (h:In (fFac f) E v w) (ho:FacOk f) (hb:In (fSc q2T l) E (.slice A n c) w) (hl:q0c l) (hn:n=f.pm.length)
  (hp:In (fSc q4L ps) E (.slice A2 n2 c2) w) (hps:∀ x ∈ ps,0≤x∧x < n) (hpl:n2≤200) (hf:Fr E w) :
  Calls Tryz.prog 49 #[v,.slice A n c,.slice A2 n2 c2] w (Rt (qsq (qhL f ps (l.map fun x=>[ofZ x]) (List.replicate n 0))) E w):=by
 obtain ⟨A3,n3,c3,A4,n4,c4,A5,n5,c5,A6,n6,c6,rfl,h1,h2,h3,h4⟩:=q8v h;have l1:=h1.sc_len;have l2:=h2.sc_len;have l3:=h3.sc_len;have l4:=h4.sc_len;have lb:=hb.sc_len;have lp:=hp.sc_len;have hnb:=ho.n;have hbeg:=fun {w':World} {D':Nat→Prop} (hx:Ext w w') (hd:∀ k,k < w.heap.size→D' k) (hf':Fr D' w')=>qcL (D:=D') (vals:=l.map ofZ) (hT.ext hx) ((hb.sub fun k hk _=>hd k hk).ext hx) (by simp) Oq (fun i x hi=>⟨(hl x (List.mem_of_getElem? hi)).1,ofZ x,by simp [hi],q0Q (hl x (List.mem_of_getElem? hi)).2⟩) hf';obtain ⟨N,hN⟩:∃ N,N=w.heap.size:=⟨_,rfl⟩;have b2:=h2.db (w':=w);have b3:=h3.db (w':=w);have b4:=h4.db (w':=w);have bp:=hp.db (w':=w);rw [← hN] at b2 b3 b4 bp;refine q1U Tryz.func49 rfl Tryz.ntmps49 (by kernel_rfl) ?_;refine q0P fun K hK=>?_;refine Zz ?_;refine qgf ?_;intro g3 w3 hg3 hx3 hb3 hs3;refine hK _ _ ?_; clear hK K;have hx:Ext w w3:=hx3;replace b2:=b2.ext hx;replace b3:=b3.ext hx;replace b4:=b4.ext hx;replace bp:=bp.ext hx;clear hx3;refine qgu (fun e' w'=>∃ (N0 g gy:Nat) (L:List Nat) (ss:List (Option Addr × Nat × Nat)),e' 3=.pointer (some ⟨g3,0,none⟩)∧e' 2=.slice A2 n2 c2∧e' 8=.slice (some ⟨g,0,none⟩) n n∧e' 9=.slice (some ⟨gy,0,none⟩) n n∧Ext w3 w'∧Sums w' (fun k=>k≠gy) L N0 g n (l.map fun x=>[ofZ x]) ss∧Own w' N 30 1 (some ⟨gy,0,none⟩) n n (List.replicate n (q2T 0))∧gy ∉ L∧g3 < N0∧N≤N0∧g3 < gy) ?_ ?_
 ·refine W_dA q4G (.one 0 (.one 2 (.one 3 (.alt (.one 1 (.one 5 (.one 4 (.one 6 .fin)))) (.one 4 (.one 1 (.one 5 (.one 6 .fin)))))))) (by kernel_rfl) fun KE wE hKE hxE=>?_;replace b2:=b2.ext hxE;replace b3:=b3.ext hxE;replace b4:=b4.ext hxE;replace bp:=bp.ext hxE;replace hb3:=hb3.ext hxE;replace hx:=hx.trans hxE;simp only [q4g] at hKE;have hlt3:=hb3.lt;have hmm:(l.map ofZ).map (fun V=>[V])=l.map fun x=>[ofZ x]:=by rw [List.map_map]; rfl
  rw [hmm] at hbeg;have hrp:List.replicate n (Value.int .u64 0)=List.replicate n (q2T 0):=rfl;have hNE:=hx.size;rw [← hN] at hNE;simp -implicitDefEqProofs (disch:=omega) only [go_sem,Nat.reduceEqDiff,Nat.reduceAdd,↓reduceIte,qgw,qgx,qlg,qbZ,qfE,List.toList_toArray];refine ⟨?_,?_⟩
  ·refine q0h qgb (hbeg (D':=fun _=>True) hx (fun _ _=>trivial) (Fr.triv _)) ?_;rintro _ w14 ⟨rfl,hx14,L,ss,hS⟩; refine ⟨_,rfl,?_⟩;refine q8a (Nat.le_refl _) Oq (by unfold maxLen; omega) fun w17 hx17 hO17 hs17=>?_;have hs14:=hx14.size;refine hKE _ _ ⟨_,_,w14.heap.size,L,ss,Ue,Ue,Ue,Ue,(hxE.trans hx14).trans hx17,(hS.sub (D':=fun k=>k≠w14.heap.size) fun k hk _=>by omega).ext hx17,hO17.mono Oq,fun hm=>?_,hlt3,hNE,by omega⟩;have:=hS.hi _ hm;omega
  ·refine q8a (Nat.le_refl _) Oq (by unfold maxLen; omega) fun w17 hx17 hO17 hs17=>?_;refine q0h qgb (hbeg (D':=fun k=>k≠wE.heap.size) (hx.trans hx17) (fun k hk=>by omega) (fun k hk=>by omega)) ?_;rintro _ w14 ⟨rfl,hx14,L,ss,hS⟩; refine ⟨_,rfl,?_⟩;refine hKE _ _ ⟨_,_,wE.heap.size,L,ss,Ue,Ue,Ue,Ue,(hxE.trans hx17).trans hx14,hS,(hO17.mono Oq).ext hx14,fun hm=>?_,by omega,by omega,hlt3⟩;have:=hS.lo _ hm;omega
 ·rintro e0 w1 ⟨N0,g,gy,L,ss,k3,k2,k8,k9,hx1,hS,hO,hgL,hgN,hNN,hg3y⟩;replace b2:=b2.ext hx1;replace b3:=b3.ext hx1;replace b4:=b4.ext hx1;replace bp:=bp.ext hx1;replace hb3:=hb3.ext hx1;replace hx:=hx.trans hx1;refine q0f fun K0 hK0=>?_;refine Wz1 k2 ?_;refine q3n ?_;refine q9S (fun e2 w2=>∃ (i:Nat) (L:List Nat) (rows:List (List Int)) (ys:List Nat) (ss:List (Option Addr × Nat × Nat)),e2 20=.int .i64 i∧i≤n2∧Ext w w2∧Blk w2 g3 27 #[.slice A3 n3 c3,.slice A4 n4 c4,.slice A5 n5 c5,.slice A6 n6 c6]∧In (fSc q4L f.cp) (Db E N) (.slice A4 n4 c4) w2∧In (fSc q4L f.ri) (Db E N) (.slice A5 n5 c5) w2∧In (fSc q2T f.vs) (Db E N) (.slice A6 n6 c6) w2∧In (fSc q4L ps) (Db E N) (.slice A2 n2 c2) w2∧Sums w2 (fun k=>k≠gy) L N0 g n rows ss∧Own w2 N 30 1 (some ⟨gy,0,none⟩) n n (ys.map q2T)∧gy ∉ L∧RowsOk f i rows∧ys.length=n∧qhL f (ps.drop i) rows ys=qhL f ps (l.map fun x=>[ofZ x]) (List.replicate n 0)) (fun e2 _=>n2-(RowKit.intOf (e2 20)).toNat) ⟨0,L,_,_,ss,rfl,Nat.zero_le _,hx,hb3,b2,b3,b4,bp,hS,by rw [List.map_replicate]; exact hO,hgL,⟨by simp; omega,fun r hr=>?_⟩,by simp,rfl⟩ ?_
  ·rw [List.mem_map] at hr;obtain ⟨y,hy,rfl⟩:=hr;exact ⟨by simp,fun x hx=>by simp at hx; subst hx; exact q4F (hl y hy).2⟩
  clear hx hb3 b2 b3 b4 bp hS hO hgL;rintro e1 w2 ⟨i,L,rows,ys,ss,k20,hi,hx,hb3,b2,b3,b4,bp,hS,hO,hgL,hR,hys,hfw⟩ hkk;have r3:e1 3=.pointer (some ⟨g3,0,none⟩):=(hkk 3 (by kernel_rfl)).trans Ue;have r8:e1 8=.slice (some ⟨g,0,none⟩) n n:=(hkk 8 (by kernel_rfl)).trans Ue;have r9:e1 9=.slice (some ⟨gy,0,none⟩) n n:=(hkk 9 (by kernel_rfl)).trans Ue;have r18:e1 18=.slice A2 n2 c2:=(hkk 18 (by kernel_rfl)).trans Ue;have r19:e1 19=.int .i64 n2:=(hkk 19 (by kernel_rfl)).trans Ue;clear hkk
  by_cases hlt:i < n2
  ·have hlt':(i:Int) < n2:=by omega
   refine Wz3 k20 r19 hlt' ?_;refine q0f fun K1 hK1=>?_;refine Wt (q2f (hK1 _ _ ?_));clear hK1;refine q3G fun K hK=>?_;obtain ⟨x,hxi⟩:∃ x,ps[i]?=some x:=⟨_,List.getElem?_eq_getElem Oq⟩;obtain ⟨hx0,hxn⟩:=hps x (List.mem_of_getElem? hxi);obtain ⟨k,rfl⟩:∃ k:Nat,x=(k:Int):=⟨x.toNat,by omega⟩;obtain ⟨adp,rfl,ip,xp⟩:=bp.ixI hxi;obtain ⟨a,b,hcol⟩:=ho.col k Oq;obtain ⟨dx,dV,d1,d2,d3⟩:=hcol.diag;obtain ⟨ad2,rfl,i2,x2⟩:=b2.ixI hcol.ha;obtain ⟨ad4,rfl,i4,x4⟩:=b4.ixU d1;have hrl:=hR.len;obtain ⟨r,hrk⟩:∃ r,rows[k]?=some r:=⟨_,List.getElem?_eq_getElem Oq⟩;obtain ⟨s1,s2,s3⟩:=qed hR (List.mem_of_getElem? hrk) Oq;obtain ⟨hdx,hdf⟩:=ho.vals dx (List.mem_of_getElem? d1);obtain ⟨q,hq⟩:∃ q,q=fQ 0 (q0o r) dV:=⟨_,rfl⟩;obtain ⟨D,hDq⟩:∃ D:Nat→Prop,D=fun _=>True:=⟨_,rfl⟩;have hDl:∀ k,Dl D [] k:=fun k=>⟨by rw [hDq]; trivial,by simp⟩;have hD:Fr (Dl D []) w2:=fun k _=>hDl k;have ik:(0:Int)≤(k:Int)∧(k:Int) < n:=by omega
   refine Wz4 r18 k20 ip xp ?_;refine q0f fun K2 hK2=>?_;have hqu:=fun {w:World} {v v':Value} (hT:q2j w) (h:In (fV (q0o r)) (Dl D []) v w) (h':In (fV dV) (Dl D []) v' w) (hf:Fr (Dl D []) w)=>qlJ hT h h' Oq hf;rw [← hq] at hqu;clear x2 x4 xp;refine quw q4G (Kp (fun k=>k ∉ ([]:List Nat))) (fun _ _=>False) (Kp.pre _) [true,true,true,true,false,true,true,true,true,true,true,true,true,true,false,false,false,false] [false,false,false,false,false,false,false,false,false,false,false,false,false,false,false,false,false,false] [1,1,1,1,0,1,1,1,1,1,1,1,1,1,0,0,1,1] (by kernel_rfl) ?_
   apply Exists.intro
   refine ⟨fun wE hE KE hKE=>?_,fun wE hE KE hKE=>?_,fun wE hxE hr=>?_⟩
   ·skip
    replace hE:=Kp.all hE;replace hb3:=hb3.ext hE;replace b2:=b2.ext hE;replace b3:=b3.ext hE;replace b4:=b4.ext hE;replace bp:=bp.ext hE;replace hS:=hS.ext hE;replace hO:=hO.ext hE;refine Zz10 r3 r8 r9 hb3.c1 hb3.c3 i2 (inI b2 hcol.ha) i4 (inU b4 d1) ik ?_;exact hKE
   ·exact hE.elim
   simp only [q82,q84,q83];replace b2:=b2.ext hxE;replace b3:=b3.ext hxE;replace b4:=b4.ext hxE;replace bp:=bp.ext hxE;replace hS:=hS.ext hxE;replace hO:=hO.ext hxE;replace hb3:=hb3.ext hxE;replace hD:=hD.kp hxE;replace hx:=hx.trans hxE;simp -implicitDefEqProofs (disch:=omega) only [go_sem,Nat.reduceEqDiff,Nat.reduceAdd,↓reduceIte,List.toList_toArray,r3,r8,r9,hb3.c1,hb3.c3,i2,(inI b2 hcol.ha),i4,(inU b4 d1),ik];refine Cr qoc (qaq (hT.ext hx) (hS.sub (D':=Dl D []) fun k _ _=>hDl k) hrk Oq s2 s3 (fun k _=>hDl k) hD) fun v28 w28 hx28 h28=>?_;replace b2:=b2.ext hx28;replace b3:=b3.ext hx28;replace b4:=b4.ext hx28;replace bp:=bp.ext hx28;replace hS:=hS.ext hx28;replace hO:=hO.ext hx28;replace hb3:=hb3.ext hx28;replace hD:=hD.kp hx28;replace hx:=hx.trans hx28;replace hr:=hr.trans (Kp.of_ext hx28);clear hx28;refine ⟨hr,?_⟩;refine Cr qdQ (qgK (hT.ext hx) hdx d2 hD) fun v38 w38 hx38 h38=>?_;replace b2:=b2.ext hx38;replace b3:=b3.ext hx38;replace b4:=b4.ext hx38;replace bp:=bp.ext hx38;replace hS:=hS.ext hx38;replace hO:=hO.ext hx38;replace h28:=h28.ext hx38;replace hb3:=hb3.ext hx38;replace hD:=hD.kp hx38;replace hx:=hx.trans hx38;replace hr:=hr.trans (Kp.of_ext hx38);clear hx38;refine ⟨hr,?_⟩;refine Ck qod (hqu (hT.ext hx) h28 h38 hD) fun w39 hx39=>?_;replace b2:=b2.ext hx39;replace b3:=b3.ext hx39;replace b4:=b4.ext hx39;replace bp:=bp.ext hx39;replace hS:=hS.ext hx39;replace hO:=hO.ext hx39;replace h28:=h28.ext hx39;replace h38:=h38.ext hx39;replace hb3:=hb3.ext hx39;replace hD:=hD.kp hx39;replace hx:=hx.trans hx39;replace hr:=hr.trans (Kp.of_ext hx39);clear hx39;refine ⟨hr,?_⟩;have hqlt:q < 18446744073709551616:=by rw [hq]; exact q6L Oq
   have hyl:(ys.map q2T).length=n:=by rw [List.length_map]; exact hys
   refine qbF hO (by omega:k < n) qm0 rfl rfl fun w5 hO5 hk5 hs5=>?_;replace hS:=hS.kpo hk5 (fun _ h=>h) hgL;replace b2:=b2.kpb hk5 fun k hk=>by omega
   replace b3:=b3.kpb hk5 fun k hk=>by omega
   replace b4:=b4.kpb hk5 fun k hk=>by omega
   replace bp:=bp.kpb hk5 fun k hk=>by omega
   replace hb3:=hb3.kpne hk5 Oq;replace hx:=hx.under hk5 fun k hk=>by omega
   have cy:=hO5.cell_set Oq;have hO6:Own w5 N 30 1 (some ⟨gy,0,none⟩) n n ((ys.set k q).map q2T):=by rw [List.map_set]; exact hO5
   clear hO hO5 hk5 hD;simp only [q4g];refine hK2 _ _ ?_; clear hK2;refine q0f fun K3 hK3=>?_;refine q0P fun K hK=>?_;refine Zz3 r9 ik cy ?_;refine q0h qob (q5C hqlt) ?_;rintro _ _ ⟨rfl,rfl⟩; refine ⟨_,rfl,?_⟩;have hdr:ps.drop i=(k:Int) :: ps.drop (i+1):=by
    rw [List.drop_eq_getElem_cons (by omega)]
    congr 1
    exact Option.some.inj ((List.getElem?_eq_getElem Oq).symm.trans hxi)
   rw [hdr,q8p hcol.ha hcol.hb d1 hrk,q0j d2,← hq] at hfw
   by_cases hfin:q0J q
   ·rw [if_pos hfin] at hfw;rw [decide_eq_true hfin];refine Zz ?_;refine hK _ _ ?_; clear hK;refine Wf (q2f (hK3 _ _ ?_));clear hK3;obtain ⟨k1,hk1⟩:∃ k1,k1=k+1:=⟨_,rfl⟩;have hcb:=hcol.hb;rw [← hk1] at hcb;have hle:=hcol.le;have hlt:=hcol.lt;have hrib:=ho.rib;have hril:=ho.ril;obtain ⟨_,hcc,i2',x2'⟩:=b2.ixI hcol.ha;cases hcc;have e1':IntKind.i64.wrap ((a:Int)+1)=((a+1:Nat):Int):=by rw [i64_in Oq (by omega)]; omega
    have e2':IntKind.i64.wrap ((k:Int)+1)=(k1:Int):=by rw [i64_in Oq (by omega)]; omega
    clear cy i2;refine Wz5 r3 hb3.c1 i2' x2' e1' ?_;refine q3n ?_;refine q9S (fun e2 w2=>∃ (p:Nat) (L:List Nat) (rows':List (List Int)) (ss:List (Option Addr × Nat × Nat)),e2 12=.int .i64 p∧a+1≤p∧p≤b∧Ext w w2∧Blk w2 g3 27 #[.slice A3 n3 c3,.slice (some ad2) n4 c4,.slice A5 n5 c5,.slice (some ad4) n6 c6]∧In (fSc q4L f.cp) (Db E N) (.slice (some ad2) n4 c4) w2∧In (fSc q4L f.ri) (Db E N) (.slice A5 n5 c5) w2∧In (fSc q2T f.vs) (Db E N) (.slice (some ad4) n6 c6) w2∧In (fSc q4L ps) (Db E N) (.slice (some adp) n2 c2) w2∧Sums w2 (fun k=>k≠gy) L N0 g n rows' ss∧Own w2 N 30 1 (some ⟨gy,0,none⟩) n n ((ys.set k q).map q2T)∧gy ∉ L∧RowsIn f i p b rows'∧qeG f q p (b-p) rows'=qeG f q (a+1) (b-(a+1)) rows) (fun e2 _=>b-(RowKit.intOf (e2 12)).toNat) ⟨a+1,L,rows,ss,rfl,Nat.le_refl _,hlt,hx,hb3,b2,b3,b4,bp,hS,hO6,hgL,hR.into,rfl⟩ ?_;clear hx hb3 b2 b3 b4 bp hS hO6 hgL x2' hrk hR hrl s1 s2 s3;rintro e3 w6 ⟨p,L,rows',ss,k12,hp1,hp2,hx,hb3,b2,b3,b4,bp,hS,hO,hgL,hR,hsub⟩ hkk;have q3:e3 3=.pointer (some ⟨g3,0,none⟩):=(hkk 3 (by kernel_rfl)).trans Ue;have q8:e3 8=.slice (some ⟨g,0,none⟩) n n:=(hkk 8 (by kernel_rfl)).trans Ue;have q9:e3 9=.slice (some ⟨gy,0,none⟩) n n:=(hkk 9 (by kernel_rfl)).trans Ue;have q11:e3 11=.int .i64 k:=(hkk 11 (by kernel_rfl)).trans Ue;have q20:e3 20=.int .i64 i:=(hkk 20 (by kernel_rfl)).trans Ue;clear hkk;obtain ⟨_,hcc,i2,x2⟩:=b2.ixI hcb;cases hcc
    by_cases hlt2:p < b
    ·have hlt2':(p:Int) < b:=by omega
     refine q0f fun K5 hK5=>?_;refine q0P fun K hK=>?_;simp -implicitDefEqProofs (disch:=omega) only [go_sem,Nat.reduceEqDiff,Nat.reduceAdd,↓reduceIte,k12,q3,hb3.c1,q11,e2',i2,x2,hlt2'];refine hK _ _ ?_; clear hK K;refine Wt (q2f (hK5 _ _ ?_));clear hK5;refine q3G fun K6 hK6=>?_;obtain ⟨j0,hj1,hj2,hj3⟩:=hcol.row ho.n Oq hlt2;obtain ⟨xv,hxv⟩:∃ xv,f.vs[p]?=some xv:=⟨_,List.getElem?_eq_getElem Oq⟩;obtain ⟨hv1,hv2⟩:=ho.vals xv (List.mem_of_getElem? hxv);obtain ⟨ad5,rfl,i5,x5⟩:=b3.ixI hj1;obtain ⟨_,hcc,i6,x6⟩:=b4.ixU hxv;cases hcc;have hyu:((ys.set k q).map q2T)[k]?=some (.int .u64 (q:Int)):=by rw [List.getElem?_map,List.getElem?_set_self (by omega)]; rfl
     have hrl:=hR.len;obtain ⟨r,hrk⟩:∃ r,rows'[j0]?=some r:=⟨_,List.getElem?_eq_getElem Oq⟩;have hrl2:=(hR.row j0 r hrk).1;have hgy:gy < w6.heap.size:=by
      rcases hO.form with ⟨h0,_⟩ | ⟨_,_,h0,_,hb,_⟩
      ·cases h0
      ·cases h0; exact hb.lt
     clear x2 x5 x6;obtain ⟨hmu,_⟩:=q04 hv2 hfin;refine quw q4G (Kp (fun k=>k ∉ ([]:List Nat))) (fun _ _=>False) (Kp.pre _) [true,true,true,true,true,true,true,true,true,true,true,true,true,true,true,false] [false,false,false,false,false,false,false,false,false,false,false,false,false,false,false,false] [1,1,1,1,1,1,1,1,1,1,1,1,1,1,1,1] (by kernel_rfl) ?_
     apply Exists.intro
     refine ⟨fun wE hE KE hKE=>?_,fun wE hE KE hKE=>?_,fun wE hxE hr=>?_⟩
     ·skip
      replace hE:=Kp.all hE;replace hb3:=hb3.ext hE;replace b2:=b2.ext hE;replace b3:=b3.ext hE;replace b4:=b4.ext hE;replace bp:=bp.ext hE;replace hS:=hS.ext hE;replace hO:=hO.ext hE;refine Zz13 k12 q3 q8 q9 q11 hb3.c2 hb3.c3 i5 (inI b3 hj1) i6 (inU b4 hxv) ik (owG hO hyu) ?_;exact hKE
     ·exact hE.elim
     simp only [q82,q84,q83];replace b2:=b2.ext hxE;replace b3:=b3.ext hxE;replace b4:=b4.ext hxE;replace bp:=bp.ext hxE;replace hS:=hS.ext hxE;replace hO:=hO.ext hxE;replace hb3:=hb3.ext hxE;replace hx:=hx.trans hxE;clear hr;simp -implicitDefEqProofs (disch:=omega) only [go_sem,Nat.reduceEqDiff,Nat.reduceAdd,↓reduceIte,List.toList_toArray,k12,q3,q8,q9,q11,hb3.c2,hb3.c3,i5,(inI b3 hj1),i6,(inU b4 hxv),ik,(owG hO hyu)];have hw':=hxE.size;refine q0h qoa (q5r (hT.ext hx) hS hrk hv1 hqlt (q0Q hv2) (q0Q hfin) hmu Oq (fun k hk=>by omega)) ?_;rintro _ w7 ⟨rfl,hk7,L',ss',hL1,hL2,hS7⟩; refine ⟨_,rfl,?_⟩;have hlo:∀ j,j < N→j ∉ L:=fun j hj hm=>by have:=hS.lo j hm; omega
     replace b2:=b2.kpb hk7 hlo;replace b3:=b3.kpb hk7 hlo;replace b4:=b4.kpb hk7 hlo;replace bp:=bp.kpb hk7 hlo;replace hb3:=hb3.kp hk7 fun hm=>by have:=hS.lo _ hm; omega
     replace hx:=hx.under hk7 fun j hj=>hlo j Oq;replace hO:=hO.kp hk7 fun a ha=>by cases ha; exact hgL
     have hgL7:gy ∉ L':=fun hm=>by
      rcases hL2 _ hm with h | h
      ·exact hgL h
      ·omega
     simp only [q4g,qs3];refine hK6 _ _ ?_; clear hK6;refine q5D fun K9 hK9=>?_;refine Zz2 k12 @i64_in ?_;refine hK9 _ _ ?_; clear hK9 K9;refine ⟨⟨p+1,L',_,ss',rfl,by omega,by omega,hx,hb3,b2,b3,b4,bp,hS7,hO,hgL7,hR.step hcol Oq hlt2 hj1 hrk hv2 hfin,?_⟩,by simp only [q1R,↓reduceIte,RowKit.intOf,k12]; omega⟩;rw [← hsub,show b-p=(b-(p+1))+1 by omega,q8X hj1 hxv hrk]
    ·have hlt2':¬ (p:Int) < b:=by omega
     refine q0f fun K5 hK5=>?_;refine q0P fun K hK=>?_;simp -implicitDefEqProofs (disch:=omega) only [go_sem,Nat.reduceEqDiff,Nat.reduceAdd,↓reduceIte,k12,q3,hb3.c1,q11,e2',i2,x2,hlt2'];refine hK _ _ ?_; clear hK K;refine Wf (q6r (hK _ _ ?_));obtain rfl:p=b:=by omega
     rw [Nat.sub_self] at hsub;rw [← hsub] at hfw;refine q5D fun K9 hK9=>?_;refine Zz2 q20 @i64_in ?_;refine hK9 _ _ ?_; clear hK9 K9;exact ⟨⟨i+1,L,rows',ys.set k q,ss,rfl,by omega,hx,hb3,b2,b3,b4,bp,hS,hO,hgL,hR.out,by rw [List.length_set]; exact hys,hfw⟩,by simp only [q1R,↓reduceIte,RowKit.intOf,k20]; omega⟩
   ·rw [if_neg hfin] at hfw;rw [decide_eq_false hfin];refine Zz ?_;refine hK _ _ ?_; clear hK;refine Wt ?_;refine Wz ?_;refine q48 ?_
    try simp only [q13,q5S]
    refine qre rfl ⟨_,rfl,hx,by rw [← hfw]; exact ⟨_,_,rfl,by simp only [q1R,Nat.reduceEqDiff,↓reduceIte]; exact In.sc_nil,by simp only [q1R,Nat.reduceEqDiff,↓reduceIte]; exact rfl⟩⟩
  ·have hlt':¬ (i:Int) < n2:=by omega
   refine Wz3 k20 r19 hlt' ?_;refine q0f fun K1 hK1=>?_;refine Wf (q6r (hK0 _ _ ?_));obtain rfl:i=n2:=by omega
   rw [List.drop_of_length_le (by omega)] at hfw;rw [← hfw];refine Wz1 r9 ?_;refine q48 ?_
   try simp only [q13,q5S]
   refine qre rfl ⟨_,rfl,hx,⟨_,_,rfl,by simp only [q1R,Nat.reduceEqDiff,↓reduceIte]; exact qnG hO fun k hk=>hf k Oq,by simp only [q1R,Nat.reduceEqDiff,↓reduceIte]; exact rfl⟩⟩
def qkk {V:Int}:Nz (pV V):=fun w D B v hB h=>by
 obtain ⟨s,A,n,c,rfl,⟨h1,h2⟩,h3⟩:=q7U h;refine q9p ⟨s,A,n,c,rfl,⟨h1,⟨h2.1.cap,h2.1.len,fun hx=>?_⟩,h2.2⟩,h3⟩;obtain ⟨ad,hA,hd,hcell⟩:=h2.1.at_ hx;refine ⟨ad,hA,⟨hd,fun hb=>?_⟩,hcell⟩;obtain ⟨cs,T,hb,hc⟩:=hB _ hb;obtain ⟨x,hx0⟩:∃ x,((lim (od V).natAbs).map u32v)[0]?=some x:=⟨_,List.getElem?_eq_getElem hx⟩;have h1:=hcell 0 x hx0;have h2:∃ d:Int,x=.int .u32 d:=by
  rw [List.getElem?_map] at hx0;cases hl:(lim (od V).natAbs)[0]? with
  | none=>rw [hl] at hx0; cases hx0
  | some d=>rw [hl] at hx0; exact ⟨_,(Option.some.inj hx0).symm⟩
 obtain ⟨d,rfl⟩:=h2;have h3:w.heap[ad.block]?=some (.cells cs T (0,0)):=hb;have h4:(ad.add 0).block=ad.block:=q1B ad 0;unfold World.cell? at h1;rw [h4,h3] at h1;simp only at h1
 split at h1
 ·cases h1
 ·have:=hc _ (Array.mem_toList_iff.2 (Array.mem_of_getElem? h1));cases this
abbrev pVs (l:List Int):PV:=.sl (some 4) (l.map fun V=>pV V)
def clV {l:List Int}:ClL (l.map fun V=>pV V):=fun x hx=>by
 obtain ⟨e,_,rfl⟩:=List.mem_map.1 hx
 trivial
def q7n {l:List Int} (hn:l.length≤1000) (hv:q05 (q0o l)):ACt 95 [pVs l] (pV (q0o l)):=⟨by kernel_rfl,fun D w vs hT hF hR=>by
 refine (qoL hn (fun x hx=>?_) hv).2 D w vs hT hF hR;obtain ⟨_,rfl,h3⟩:=qmi hR;obtain ⟨i,hi⟩:=List.mem_iff_getElem?.1 hx;unfold Rd at h3;obtain ⟨_,_,_,us,_,_,_,h5,_⟩:=h3;obtain ⟨v,_,hr⟩:=h5.get (show (l.map fun V=>pV V)[i]?=some (pV x) by simp [hi]);exact ((q2h (ρ:=fun _=>none) (h:=h0)).2 (q7U hr)).2⟩
def qsA:Int:=(mkV 1 0).getD 0
def q9x:mkV 1 0=some qsA∧bl qsA.natAbs≤67600:=by
 have h1:bl (Int.natAbs 1)≤1:=q0M (by decide);have h:=qb2 (m:=1) (E:=0) Oq Oq;unfold qsA;rw [h];refine ⟨rfl,?_⟩;obtain ⟨k,hk⟩:∃ k,k=((0:Int)+65536).toNat:=⟨_,rfl⟩;have hk2:k≤65536:=by omega
 rw [← hk,Option.getD_some,q0K,q1O (by decide)];omega
def dgL (G:Nat→Nat→Option Nat) (i:Nat):Nat→List Int
 | 0=>[qsA]
 | k+1=>if k=i then dgL G i k else dgL G i k ++ [((ofZ ((G (min i k) (max i k)).getD 0)).natAbs:Int)]
def dfF (G:Nat→Nat→Option Nat) (n j i:Nat):Option Nat:=if i=j then some (fR 2 (q0o (dgL G i n))) else G j i
def qaY {mode V:Int}:fR mode V < 18446744073709551616:=by
 unfold fR
 split
 ·omega
 ·exact qri Oq (by exact Nat.two_pow_pos 65536)
def TOk.fin {f:Nat→Nat→Option Nat} {R C j i:Nat} (h:TOk f R C) (hj:j < C) (hi:i < R):q0J ((f j i).getD 0)∧(f j i).getD 0 < 18446744073709551616:=by
 cases hx:f j i with
 | none=>exact ⟨by unfold q0J; simp,by simp⟩
 | some x=>exact ⟨h.v j i x hj hi hx,h.u j i x hj hi hx⟩
def qgZ {G:Nat→Nat→Option Nat} {n i:Nat} (h:TOk G n n) (hi:i < n):∀ k,k≤n→(dgL G i k).length≤k+1∧∀ x ∈ dgL G i k,bl x.natAbs≤67600
 | 0,_=>⟨Nat.le_refl _,fun x hx=>by unfold dgL at hx; simp at hx; subst hx; exact q9x.2⟩
 | k+1,hk=>by
  obtain ⟨h1,h2⟩:=qgZ h hi k Oq;unfold dgL
  split
  ·exact ⟨by omega,h2⟩
  ·refine ⟨by simp; omega,fun x hx=>?_⟩
   rcases List.mem_append.1 hx with hx | hx
   ·exact h2 x hx
   ·simp at hx; subst hx;rw [Int.natAbs_natCast];exact q4F (h.fin Oq Oq).1
def qbA {l:List Int} (h:∀ x ∈ l,bl x.natAbs≤67600) (hl:l.length≤1024):q05 (q0o l):=by
 have:=q5p h hl;rw [List.take_length] at this;unfold q05;omega
def q6Q {raw:List Nat} {st:Int} {n:Nat} (hr:raw.length≤9223372036854775807) (hn:n≤100) (h3 : -9223372036854775808≤st) (h4:st≤9223372036854775807) :
  ACt 30 [pF raw,iv n,iv st] (pT n n (dfF (gF raw n (q07 (q07 st 3:Nat) 4)) n)):=by
 have hs3:q07 st 3 < 3:=by unfold q07; omega
 have hnn:n*n≤100*100:=Nat.mul_le_mul hn hn;have cM:=q30 (a:=st) (n:=3) h3 h4 Oq Oq;have cG:=q3h (raw:=raw) (st:=(q07 st 3:Nat)) (R:=n) (C:=n) hr Oq Oq Oq Oq;have hG:=qig (raw:=raw) (R:=n) (C:=n) (st:=q07 (q07 st 3:Nat) 4) Oq Oq Oq;generalize gF raw n (q07 (q07 st 3:Nat) 4)=G at *;have cA:∀ {i j:Nat},i < n→j < n→_:=fun {i j} hi hj=>qeC (i:=i) (j:=j) hG hi hj;have cS:∀ {i j:Nat},i < n→j < n→_:=fun {i j} hi hj=>qc8 (i:=i) (j:=j) hG hi hj;generalize hFn:dfF G n=F;have hpt:pT n n F=pM n n (tM F n n):=rfl;have hpG:pT n n G=q2M n n (tM G n n).1 (tM G n n).2.1 (tM G n n).2.2:=rfl;rw [hpG] at cG;simp only [hpG] at cA cS;rw [hpt];clear hpG hpt;unfold q2M at cG cA cS;generalize (tM G n n).1=gs at *;generalize (tM G n n).2.1=gi at *;generalize (tM G n n).2.2=gv at *;have c1:=q86 (z:=1) Oq Oq q9x.1;refine ac0 Tryz.func30 Tryz.ntmps30 [.cell 6 52] ?_;refine wk ?_;refine q0A (fun j=>j≤n) [1,6,7,8] [6,7] Lk Lk (fun j:Nat=>[(9,iv j)]) (fun j=>[(8,⟨52,some 5,[.ag [iv n,iv n,.ow 1001 none 0 (tM F n j).1.length,.ow 1002 none 0 (tM F n j).2.1.length,.ow 1003 none 0 (tM F n j).2.2.length]],false⟩),(1001,⟨3,none,(tM F n j).1.map fun z=>iv z,false⟩),(1002,⟨3,none,(tM F n j).2.1.map fun z=>iv z,false⟩),(1003,⟨30,none,(tM F n j).2.2.map fun z:Nat=>uv z,false⟩)]) (fun j=>n-j) 0 (Nat.zero_le _) ?_ ?_
 ·refine LeM [(1001,some 21),(1002,none),(1003,none)] rfl rfl ?_;refine Zz ?_;exact ⟨rfl,⟨rfl,rfl,rfl⟩,rfl,rfl,rfl⟩
 ·intro j hj;have hg:=q18 (f:=F) (R:=n) j;have hjn:j*n≤100*100:=Nat.mul_le_mul Oq hn;refine wk ?_
  by_cases hlt:j < n
  ·have hlt':(j:Int) < n:=by omega
   refine wk1 hlt' ?_;have hM1:(tM F n (j+1)).1=(tM F n j).1 ++ [((tC F j (tM F n j).2 n).1.length:Int)]:=rfl;have hM2:(tM F n (j+1)).2=tC F j (tM F n j).2 n:=rfl;generalize (tM F n j).1=ms at *;generalize (tM F n j).2=mp at *;refine q0A (fun i=>i≤n) [1,6,7,8,9] [6,7,1001] Lk Lk (fun i:Nat=>[(10,iv i)]) (fun i=>[(8,⟨52,some 5,[.ag [iv n,iv n,.ow 1001 none 0 ms.length,.ow 1002 none 0 (tC F j mp i).1.length,.ow 1003 none 0 (tC F j mp i).2.length]],false⟩),(1002,⟨3,none,(tC F j mp i).1.map fun z=>iv z,false⟩),(1003,⟨30,none,(tC F j mp i).2.map fun z:Nat=>uv z,false⟩)]) (fun i=>n-i) 0 (Nat.zero_le _) ?_ ?_
   ·refine LeM [] rfl rfl ?_;refine Zz ?_;exact ⟨rfl,⟨rfl,rfl⟩,rfl,rfl⟩
   ·intro i hi;have hq:=qay (f:=F) (j:=j) hg.2.1 i;refine wk ?_
    by_cases hlt2:i < n
    ·have hlt2':(i:Int) < n:=by omega
     refine wk1 hlt2' ?_
     by_cases hij:i=j
     ·have e1:((i:Int) == (j:Int))=true:=by simp; omega
      have hF:F j i=some (fR 2 (q0o (dgL G i n))):=by rw [← hFn]; unfold dfF; rw [if_pos hij]
      obtain ⟨z,hz⟩:∃ z,z=fR 2 (q0o (dgL G i n)):=⟨_,rfl⟩;rw [← hz] at hF;have eg:=qmV (p:=mp) hF;refine wk1 e1 ?_;refine q0A (fun k=>k≤n) [1,6,7,8,9,10] [6,7,8,1001,1002,1003] Lk Lk (fun k:Nat=>[(12,iv k),(11,.ow 1004 (some 4) 0 (dgL G i k).length)]) (fun k=>[(1004,⟨74,some 4,(dgL G i k).map fun V=>pV V,false⟩)]) (fun k=>n-k) 0 (Nat.zero_le _) ?_ ?_
      ·refine LeM [(1004,some 37)] rfl rfl ?_;refine Zz ?_;exact ⟨⟨rfl,rfl⟩,q0Y rfl clV⟩
      ·intro k hk;obtain ⟨d1,d2⟩:=qgZ hG hlt2 k hk;refine wk ?_
       by_cases hlk:k < n
       ·have hlk':(k:Int) < n:=by omega
        refine wk1 hlk' ?_
        by_cases hki:k=i
        ·have e2:((k:Int) != (i:Int))=false:=by simp; omega
         have es:dgL G i (k+1)=dgL G i k:=by rw [dgL,if_pos hki]
         refine wk1 e2 ?_;refine ⟨k+1,by omega,by omega,?_⟩;rw [es];refine LeM [] rfl rfl ?_;refine Zz ?_;exact ⟨by omega,q0Y rfl clV⟩
        ·have e2:((k:Int) != (i:Int))=true:=by simp; omega
         obtain ⟨u,hu⟩:∃ u,u=(G (min i k) (max i k)).getD 0:=⟨_,rfl⟩;have hmx:max i k < n:=by omega
         have hmn:min i k < n:=by omega
         obtain ⟨f1,f2⟩:=hG.fin (j:=min i k) (i:=max i k) hmn hmx;have cE:=cA hmx hmn;rw [← hu] at f1 f2 cE;have cO:=q2u f2 (q0Q f1);have es:dgL G i (k+1)=dgL G i k ++ [((ofZ u).natAbs:Int)]:=by rw [dgL,if_neg hki,hu]
         have m1:max (i:Int) k=((max i k:Nat):Int):=by omega
         have m2:min (i:Int) k=((min i k:Nat):Int):=by omega
         have C1:=@qoS;refine wk1 (x3 e2 m1 m2) ?_;refine ⟨k+1,by omega,by omega,?_⟩;rw [es];refine LeM [(1004,some 58)] rfl rfl ?_;refine Zz ?_;exact ⟨by omega,q0Y (by simp) clV⟩
       ·have hlk':¬ (k:Int) < n:=by omega
        obtain rfl:k=n:=by omega
        have hsd:=qbA d2 Oq;have C2:=q7n (l:=dgL G i k) Oq hsd;have C3:=qkk (V:=q0o (dgL G i k));have C4:=q5z (V:=q0o (dgL G i k)) (mode:=2);rw [← hz] at C4;refine wk1 hlk' ?_;refine ⟨i+1,by omega,by omega,?_⟩;rw [eg];refine LeM [(1002,some 63),(1003,some 71)] rfl rfl ?_;refine Zz ?_;omega
     ·have e1:((i:Int) == (j:Int))=false:=by simp; omega
      have hF:F j i=G j i:=by rw [← hFn]; unfold dfF; rw [if_neg hij]
      have C5:=(cS hlt2 hlt);refine wk1 e1 ?_;have cE:=cA hlt2 hlt;cases hx:G j i with
      | none =>
       rw [hx] at hF;have eg:=qql (p:=mp) hF;have ei:(none:Option Nat).isSome=false:=rfl;refine wk1 ei ?_;refine ⟨i+1,by omega,by omega,?_⟩;rw [eg];refine LeM [] rfl rfl ?_;refine Zz ?_;omega
      | some z =>
       rw [hx] at hF cE;rw [Option.getD_some] at cE;have eg:=qmV (p:=mp) hF;have ei:(some z).isSome=true:=rfl;refine wk1 ei ?_;refine ⟨i+1,by omega,by omega,?_⟩;rw [eg];refine LeM [(1002,some 81),(1003,some 90)] rfl rfl ?_;refine Zz ?_;omega
    ·have hlt2':¬ (i:Int) < n:=by omega
     obtain rfl:i=n:=by omega
     refine wk1 hlt2' ?_;refine ⟨j+1,by omega,by omega,?_⟩;rw [hM1,hM2];refine LeM [(1001,some 98)] rfl rfl ?_;refine Zz ?_;omega
  ·have hlt':¬ (j:Int) < n:=by omega
   obtain rfl:j=n:=by omega
   exact wk1 hlt' trivial
abbrev tbH (N R n m:Nat) (g:Nat→Nat→Bool):Hp:=q4c 23 4 N R n m g
def q8o {n:Nat} (hn:n≤1000):q9Y 229 [iv n] h0 (.ow 5000 none 0 n) (tbH 5000 10000 n n fun _ _=>false):=by
 have hd:∀ {g:Nat→Nat→Bool} {m:Nat},∀ i b,tbH 5000 10000 n m g i=some b→win i:=fun i b hb=>q5Z Oq Oq Oq hb;refine qcQ qlV Tryz.func229 rfl Tryz.ntmps229 (by kernel_rfl) ?_ ?_ ?_ ?_
 ·intro i b hb; cases hb
 ·exact hd
 ·exact IdL.of fun x hx=>by simp at hx; subst hx; unfold IdP; trivial
 have hJ:∀ i,¬ (h0 i≠none):=fun i h=>h rfl;refine wk ?_;refine q00 (fun k=>k≤n) [0] [] Lk Lk (fun k:Nat=>[(4,iv k),(3,.ow 5000 none 0 k)]) (fun _=>[]) (fun k=>tbH 5000 10000 k n fun _ _=>false) (fun k=>n-k) 0 (Nat.zero_le _) ?_ ?_
 ·refine qdr hJ Oq Oq trivial ?_;refine Zz ?_
  rfl
 ·intro k hk;refine wk ?_
  by_cases hlt:k < n
  ·have hlt':(k:Int) < n:=by omega
   refine wk1 hlt' ?_;refine ⟨k+1,by omega,by omega,?_⟩;refine qas (o:=14) (r:=12) hJ ?_ ?_ (fun j hj=>?_) Oq Oq Oq Oq Oq Oq trivial ?_
   ·exact Zy
   ·refine Zz ?_;rw [q4j]
   ·exact Zy
   ·refine Zz ?_;omega
  ·have hlt':¬ (k:Int) < n:=by omega
   obtain rfl:k=n:=by omega
   refine wk1 hlt' ?_;refine (rtM (rs:=[.tmp 2]) rfl rfl Lq ?_ (.inl rfl));refine LeF q2a hd (q14 Oq Oq Oq) ?_;exact Zy
def adT (adj:List (List Int)) (v w:Nat):Bool:=decide ((w:Int) ∈ adj.getD v [])
def q8n {adj:List (List Int)} {n:Nat} (hl:adj.length=n) (hn:n≤1000) (hv:∀ l ∈ adj,l.length≤1000000∧∀ w ∈ l,0≤w∧w < n):q9Y 226 [pG adj] h0 (.ow 5002 none 0 n) (tbH 5002 20000 n n (adT adj)):=by
 have hd:∀ {g:Nat→Nat→Bool} {m:Nat},∀ i b,tbH 5002 20000 n m g i=some b→win i:=fun i b hb=>q5Z Oq Oq Oq hb;unfold pG;refine qcQ qlW Tryz.func226 rfl Tryz.ntmps226 (by kernel_rfl) ?_ ?_ ?_ ?_
 ·intro i b hb; cases hb
 ·exact hd
 ·exact IdL.of fun x hx=>by
   simp at hx; subst hx; unfold IdP;exact IdL.of fun x hx=>by simp at hx; subst hx; unfold IdP; trivial
 have hJ:∀ i,¬ (h0 i≠none):=fun i h=>h rfl;subst hl;refine wk ?_;refine q00 (fun k=>k≤adj.length) [1,3] [1] Lk Lk (fun k:Nat=>[(5,iv k),(4,.ow 5002 none 0 k)]) (fun _=>[]) (fun k=>tbH 5002 20000 k adj.length (adT adj)) (fun k=>adj.length-k) 0 (Nat.zero_le _) ?_ ?_
 ·refine qdr hJ (by omega) (by omega) (by simp [nmW]) ?_;refine Zz ?_;exact rfl
 ·intro k hk;refine wk ?_
  by_cases hlt:k < adj.length
  ·have hlt':(k:Int) < adj.length:=by omega
   obtain ⟨l,hx⟩:∃ l,adj[k]?=some l:=⟨_,List.getElem?_eq_getElem hlt⟩;obtain ⟨hll,hlv⟩:=hv l (List.mem_of_getElem? hx);refine wk1 hlt' ?_;refine q00 (fun i=>i≤l.length) [1,3,4,5] [1] Lk Lk (fun i:Nat=>[(7,iv i),(6,.ow 1001 none 0 adj.length)]) (fun i=>[(1001,⟨4,none,(List.range adj.length).map fun c:Nat=>bv (decide ((c:Int) ∈ l.take i)),false⟩)]) (fun _=>tbH 5002 20000 k adj.length (adT adj)) (fun i=>l.length-i) 0 (Nat.zero_le _) ?_ ?_
   ·refine LeW [(1001,some 17)] rfl rfl ?_ ?_ (by simp [q1o,q1Q,win]) ?_
    ·exact Ow
    ·exact q14 Oq Oq Oq
    ·refine Zz ?_;rw [q4j];exact ⟨rfl,qp7 fun c _=>by simp⟩
   ·intro i hi;refine wk ?_
    by_cases hi2:i < l.length
    ·have hi':(i:Int) < l.length:=by omega
     obtain ⟨w,hw⟩:∃ w,l[i]?=some w:=⟨_,List.getElem?_eq_getElem hi2⟩;obtain ⟨h1,h2⟩:=hlv w (List.mem_of_getElem? hw);obtain ⟨w,rfl⟩:∃ q:Nat,w=q:=⟨w.toNat,by omega⟩;refine wk1 (x3 hx hi' hw) ?_;refine ⟨i+1,by omega,by omega,?_⟩;refine LeW [] rfl rfl ?_ ?_ (by simp [q1o,q1Q,win]) ?_
     ·exact Ow
     ·exact q14 Oq Oq Oq
     ·refine Zz ?_;rw [q9n];refine ⟨by omega,qp7 fun c _=>?_⟩;rw [List.take_succ_eq_append_getElem hi2];have e:l[i]=(w:Int):=Option.some.inj ((List.getElem?_eq_getElem hi2).symm.trans hw);rw [e]
      by_cases hc:c=w <;> simp [hc]
      intro h; omega
    ·have hi':¬ (i:Int) < l.length:=by omega
     obtain rfl:i=l.length:=by omega
     refine wk1 (x2 hx hi') ?_;refine ⟨k+1,by omega,by omega,?_⟩;refine qas (o:=41) (r:=1001) hJ ?_ ?_ (fun j hj=>?_) (by omega) (by omega) (by omega) (by omega) (by omega) (by omega) (by simp [nmW]) ?_
     ·exact Zy
     ·refine Zz ?_;have e:∀ c:Nat,decide ((c:Int) ∈ l)=adT adj k c:=fun c=>by unfold adT; rw [List.getD_eq_getElem?_getD,hx]; rfl
      simp only [e]
     ·exact Zy
     ·refine Zz ?_;omega
  ·have hlt':¬ (k:Int) < adj.length:=by omega
   obtain rfl:k=adj.length:=by omega
   refine wk1 hlt' ?_;refine (rtM (rs:=[.tmp 2]) rfl rfl Lq ?_ (.inl rfl));refine LeF ?_ hd (q14 Oq Oq Oq) ?_
   ·exact Ow
   exact Zy
def qjV (l:List (Int × Int × Nat)) (k r c:Nat):Bool:=decide (∃ e ∈ l.take k,e.1=(r:Int)∧e.2.1=(c:Int))
def qhi (f:Nat→Nat→Option Nat) (r c:Nat):Bool:=(f c r).isSome
def qfh {t t':Nat→Nat→Bool} {n:Nat} (h:∀ r c,r < n→c < n→t r c=t' r c):frG t n=frG t' n:=by
 unfold frG;refine List.map_congr_left fun v hv=>?_;unfold frL
 congr 1
 refine List.filter_congr fun x hx=>?_;have hv:=List.mem_range.1 hv;have hx:=List.mem_range.1 hx;unfold q1F;rw [h v x hv hx,h x v hx hv]
def q65 {f:Nat→Nat→Option Nat} {n:Nat} (h:TOk f n n):ACt 170 [pT n n f] (.tu [pG (frG (qhi f) n),iv 0]):=by
 have cC:=q7G h;have cE:=qeA h;have hn:=h.r;have hlen:(tE f n n).length≤1000000:=by rw [qkT]; have:=(q18 (f:=f) (R:=n) n).2.2; have:n*n≤200*200:=Nat.mul_le_mul (by omega) (by omega); omega
 have hin:∀ e ∈ tE f n n,(0≤e.1∧e.1 < n)∧0≤e.2.1∧e.2.1 < n:=fun e he=>by
  obtain ⟨j,i,x,h1,h2,_,rfl⟩:=qax.1 he;simp only; omega
 have hfin:∀ r c,r < n→c < n→qjV (tE f n n) (tE f n n).length r c=qhi f r c:=fun r c hr hc=>by
  unfold qjV qhi;rw [List.take_length];cases hx:f c r with
  | none =>
   refine decide_eq_false fun ⟨e,he,h1,h2⟩=>?_;obtain ⟨j,i,x,_,_,h5,rfl⟩:=qax.1 he;simp only at h1 h2;obtain rfl:i=r:=by omega
   obtain rfl:j=c:=by omega
   rw [hx] at h5; cases h5
  | some x=>exact decide_eq_true ⟨_,qax.2 ⟨c,r,x,hc,hr,hx,rfl⟩,rfl,rfl⟩
 have cF:=q4P (t:=qjV (tE f n n) (tE f n n).length) (n:=n) Oq;have hfr:frG (qjV (tE f n n) (tE f n n).length) n=frG (qhi f) n:=by
  exact qfh hfin
 rw [hfr] at cF;clear hfr;have hpt:pT n n f=q2M n n (tM f n n).1 (tM f n n).2.1 (tM f n n).2.2:=rfl;obtain ⟨st,ix,vl,hpl⟩:∃ st ix vl,pT n n f=.ag [iv n,iv n,pI st,pI ix,pF vl]:=⟨_,_,_,rfl⟩;rw [hpl] at cC cE ⊢;clear hpl hpt hfin;unfold pG qcn at cF;unfold pG;generalize tE f n n=es at *;generalize frG (qhi f) n=adj at *;unfold pE qbW at cE;have e0:((0:Int) != 0)=false:=rfl;have eN:((n:Int) != n)=false:=by simp
 refine ac0 Tryz.func170 Tryz.ntmps170 [.cell 2 141,.tmp 3] ?_;refine wk1 (x2 e0 eN) ?_;refine qcV fun K hK=>?_;refine Zz ?_;refine jmF (q8o Oq) ?_ ?_
 ·exact Ow
 try refine Zz ?_
 refine hK _ _ ?_; clear hK K;refine wk ?_;refine q00 (fun k=>k≤es.length) [2,5,6] [2] Lk Lk (fun k:Nat=>[(7,iv k)]) (fun _=>[]) (fun k=>tbH 5000 10000 n n (qjV es k)) (fun k=>es.length-k) 0 (Nat.zero_le _) ?_ ?_
 ·refine LeW [] rfl rfl ?_ ?_ (by simp [q1o,q1Q,win]) ?_
  ·have:(fun (_ _:Nat)=>false)=qjV es 0:=by funext r c; simp [qjV]
   rw [this];exact Ow
  ·exact q14 Oq Oq Oq
  ·refine Zz ?_
   rfl
 ·intro k hk;refine wk ?_
  by_cases hlt:k < es.length
  ·have hlt':(k:Int) < es.length:=by omega
   obtain ⟨e,he⟩:∃ e,es[k]?=some e:=⟨_,List.getElem?_eq_getElem hlt⟩;obtain ⟨⟨h1,h2⟩,h3,h4⟩:=hin e (List.mem_of_getElem? he);obtain ⟨r,c,x⟩:=e;simp only at h1 h2 h3 h4;obtain ⟨r,rfl⟩:∃ q:Nat,r=q:=⟨r.toNat,by omega⟩;obtain ⟨c,rfl⟩:∃ q:Nat,c=q:=⟨c.toNat,by omega⟩;have hr2:r < n:=by omega
   have hc2:c < n:=by omega
   have r1:(List.range n)[r]?=some r:=List.getElem?_range hr2;refine wk1 (x3 hlt' he r1) ?_;refine ⟨k+1,by omega,by omega,?_⟩;refine LeW [] rfl rfl ?_ ?_ (by simp [q1o,q1Q,win]) ?_
   ·refine qac (qgt q2a) ?_;rw [q7F (by omega) hr2];refine q50 fun r' c' _ _=>?_;unfold qif qjV;rw [q2q he]
    by_cases hrc:r'=r∧c'=c
    ·obtain ⟨rfl,rfl⟩:=hrc;rw [if_pos ⟨rfl,rfl⟩];exact (decide_eq_true ⟨_,List.mem_append_right _ (List.mem_singleton.2 rfl),rfl,rfl⟩).symm
    ·rw [if_neg hrc];refine decide_eq_decide.2 ⟨fun ⟨e,h,q⟩=>⟨e,List.mem_append_left _ h,q⟩,fun ⟨e,h,q1,q2⟩=>?_⟩
     rcases List.mem_append.1 h with h | h
     ·exact ⟨e,h,q1,q2⟩
     ·rw [List.mem_singleton] at h;subst h;simp only at q1 q2;exact (hrc ⟨by omega,by omega⟩).elim
   ·exact q14 Oq Oq Oq
   ·refine Zz ?_;omega
  ·have hlt':¬ (k:Int) < es.length:=by omega
   obtain rfl:k=es.length:=by omega
   refine wk1 hlt' ?_;refine q3J (LeM [] rfl rfl (xs:=[(2,.pt 2 0 0),(5,qcn (qjV es es.length) n)]) (kv:=[]) (bs:=[(2,⟨141,some 1,[.ag [q5A]],false⟩)]) (kb:=[]) ?_) ?_
   ·unfold qcn;refine Zz ?_;exact qds q2a (by omega) (by omega) (by omega) (qaP (by simp [nmW]) (by simp [nmW])) fun i j hi _=>by cases hi; rfl
   unfold qcn;exact wk trivial
def qrZ {f:Nat→Nat→Option Nat} {R i j x y:Nat} {order:List Int} {V:Int} (h:TOk f R R) (hi:order[i]?=some (x:Int)) (hj:order[j]?=some (y:Int)) (hx:x < R) (hy:y < R) (hv:ofF ((f (min x y) (max x y)).getD 0)=some V):ACt 111 [pT R R f,pI order,iv i,iv j] (pV V):=by
 have hu:(f (min x y) (max x y)).getD 0 < 18446744073709551616:=by
  cases hf:f (min x y) (max x y) with
  | none=>simp
  | some u=>exact h.u _ _ u Oq Oq hf
 have cA:=qeC (i:=max x y) (j:=min x y) h Oq Oq;have m1:max (x:Int) y=((max x y:Nat):Int):=by omega
 have m2:min (x:Int) y=((min x y:Nat):Int):=by omega
 generalize (f (min x y) (max x y)).getD 0=u at *;have hpt:pT R R f=q2M R R (tM f R R).1 (tM f R R).2.1 (tM f R R).2.2:=rfl;rw [hpt] at cA ⊢;clear hpt;unfold q2M at *;refine ac0 Tryz.func111 Tryz.ntmps111 [.cell 8 74] ?_;have C1:=(q2u hu hv);exact wk1 (x4 hi hj m1 m2) trivial
open Classical in
def qei {l:List Int} (hl:l.length≤1000000):ACt 255 [pI l] (bv (decide (¬ l.Nodup))):=by
 refine ac0 Tryz.func255 Tryz.ntmps255 [.tmp 2] ?_;refine wk ?_;refine q0A (fun i=>i≤l.length∧(l.take i).Nodup) [0] [] Lk Lk (fun i:Nat=>[(3,iv i)]) (fun _=>[]) (fun i=>l.length-i) 0 ⟨Nat.zero_le _,by simp⟩ ?_ ?_
 ·refine LeM [] rfl rfl ?_;refine Zz ?_
  rfl
 ·rintro i ⟨hi,hr⟩;refine wk ?_
  by_cases hlt:i < l.length
  ·have hlt':(i:Int) < l.length:=by omega
   refine wk1 hlt' ?_;obtain ⟨x,hx⟩:∃ x,l[i]?=some x:=⟨_,List.getElem?_eq_getElem hlt⟩;have ht:=q2q hx;have es:slP (some 1) none (some (iv (i:Int))) (pI l)=some (pI (l.take i)):=by
    simp [slP,q8J,ksz,List.map_take];omega
   have C1:=qky (l:=l.take i) (v:=x) (by rw [List.length_take]; omega);refine wk1 (x2 hx es) ?_
   by_cases hm:x ∈ l.take i
   ·have em:∀ (i':Decidable (x ∈ l.take i)),@decide _ i'=true:=fun _=>decide_eq_true hm;refine wk1 em ?_;refine (@decide_eq_true (¬ l.Nodup) _ fun h=>?_).symm;have h2:=h.sublist (List.take_sublist (i+1) l);rw [ht,List.nodup_append] at h2;exact h2.2.2 _ hm _ (by simp) rfl
   ·have em:∀ (i':Decidable (x ∈ l.take i)),@decide _ i'=false:=fun _=>decide_eq_false hm;refine wk1 em ?_;refine ⟨i+1,⟨by omega,?_⟩,by omega,?_⟩
    ·rw [ht,List.nodup_append];exact ⟨hr,by simp,fun a ha b hb e=>by simp at hb; subst hb; subst e; exact hm ha⟩
    ·refine LeM [] rfl rfl ?_;refine Zz ?_;omega
  ·have hlt':¬ (i:Int) < l.length:=by omega
   obtain rfl:i=l.length:=by omega
   refine wk1 hlt' ?_;rw [List.take_length] at hr;exact (@decide_eq_false (¬ l.Nodup) _ fun h=>h hr).symm
def lfN (l:List Int) (r:Nat):Nat:=(l.getD r 0).toNat
def qi0 (adj:List (List Int)) (l:List Int) (i j r c:Nat):Bool:=decide (r < i∨(r=i∧c < j)) && adT adj (lfN l r) (lfN l c)
def qk4 (adj:List (List Int)) (l:List Int) (r c:Nat):Bool:=adT adj (lfN l r) (lfN l c)
def qaF {l:List Int} {r x:Nat} (h:l[r]?=some (x:Int)):lfN l r=x:=by
 unfold lfN; rw [List.getD_eq_getElem?_getD,h]; simp
def qaS {adj:List (List Int)} {l:List Int} {n m:Nat} (hn:adj.length=n) (hl:l.length=m) (hn2:n≤200) (hm:m≤1000) (hG:GOk adj) (hv:∀ q ∈ adj,q.length≤1000000∧∀ w ∈ q,0≤w∧w < n) (hr:∀ x ∈ l,0≤x∧x < n) (hd:l.Nodup) :
  ACt 232 [pG adj,pI l] (.tu [pG (frG (qk4 adj l) m),iv 0]):=by
 have cK:=qaT (adj:=adj) (fun q hq=>by have:=(hv q hq).1; omega);have c0:qdP adj=0:=by unfold qdP; rw [if_neg (by omega),if_pos hG]
 rw [c0] at cK;have cR:=qeo (l:=l) (n:=n) Oq;have eR:∀ (i:Decidable (qcS l n)),@decide _ i=true:=fun _=>decide_eq_true (by unfold qcS; exact hr);have cW:=qei (l:=l) Oq;have eW:∀ (i:Decidable (¬ l.Nodup)),@decide _ i=false:=fun _=>decide_eq_false (fun h=>h hd);have cT:=q8n hn Oq hv;have cF:=q4P (t:=qi0 adj l m 0) (n:=m) Oq;have hfr:frG (qi0 adj l m 0) m=frG (qk4 adj l) m:=qfh fun r c hr _=>by unfold qi0 qk4; rw [decide_eq_true (Or.inl hr),Bool.true_and]
 rw [hfr] at cF;clear hfr;generalize frG (qk4 adj l) m=res at *;have e0:((0:Int) != 0)=false:=rfl;subst hn;subst hl;unfold pG qcn at cF;unfold pG at cK cT;unfold pG;refine ac0 Tryz.func232 Tryz.ntmps232 [.cell 4 141,.tmp 5] ?_;refine wk1 (x3 e0 eR eW) ?_;refine qcV fun K hK=>?_;refine Zz ?_;refine jmF cT ?_ ?_
 ·exact Ow
 try refine Zz ?_
 refine hK _ _ ?_; clear hK K;refine wk ?_;refine q3J (LeM [] rfl rfl (xs:=[(1,pI l),(4,.pt 4 0 0),(7,qcn (adT adj) adj.length)]) (kv:=[]) (bs:=[(4,⟨141,some 1,[.ag [q5A]],false⟩)]) (kb:=[]) ?_) ?_
 ·unfold qcn;refine Zz ?_;refine qds (T1:=23) (T2:=4) (R:=20000) ?_ (by omega) (by omega) (by omega) (qaP (by simp [nmW]) (by simp [nmW])) fun i j hi _=>by cases hi; rfl
  exact Ow
 unfold qcn;refine wk ?_;refine qcV fun K hK=>?_;refine Zz ?_;refine jmF (q8o Oq) ?_ ?_
 ·exact Ow
 try refine Zz ?_
 refine hK _ _ ?_; clear hK K;refine wk ?_;refine q00 (fun i=>i≤l.length) [1,4,7,8] [4] Lk Lk (fun i:Nat=>[(9,iv i)]) (fun _=>[]) (fun i=>tbH 5000 10000 l.length l.length (qi0 adj l i 0)) (fun i=>l.length-i) 0 (Nat.zero_le _) ?_ ?_
 ·refine LeW [] rfl rfl ?_ ?_ (by simp [q1o,q1Q,win]) ?_
  ·refine qac (hw:=tbH 5000 10000 l.length l.length fun _ _=>false) ?_ (q50 fun r c _ _=>?_)
   ·exact Ow
   ·unfold qi0; rw [decide_eq_false (by omega)]; rfl
  ·exact q14 Oq Oq Oq
  ·refine Zz ?_
   rfl
 ·intro i hi;refine wk ?_
  by_cases hlt:i < l.length
  ·have hlt':(i:Int) < l.length:=by omega
   obtain ⟨a,ha⟩:∃ x,l[i]?=some x:=⟨_,List.getElem?_eq_getElem hlt⟩;obtain ⟨a1,a2⟩:=hr a (List.mem_of_getElem? ha);obtain ⟨a,rfl⟩:∃ q:Nat,a=q:=⟨a.toNat,by omega⟩;have ra:(List.range adj.length)[a]?=some a:=List.getElem?_range Oq;have ri:(List.range l.length)[i]?=some i:=List.getElem?_range hlt;refine wk1 hlt' ?_;refine q00 (fun j=>j≤l.length) [1,4,7,8,9] [4] Lk Lk (fun j:Nat=>[(10,iv j)]) (fun _=>[]) (fun j=>tbH 5000 10000 l.length l.length (qi0 adj l i j)) (fun j=>l.length-j) 0 (Nat.zero_le _) ?_ ?_
   ·refine LeW [] rfl rfl ?_ ?_ (by simp [q1o,q1Q,win]) ?_
    ·exact Ow
    ·exact q14 Oq Oq Oq
    ·refine Zz ?_
     rfl
   ·intro j hj;refine wk ?_
    by_cases hj2:j < l.length
    ·have hj':(j:Int) < l.length:=by omega
     obtain ⟨b,hb⟩:∃ x,l[j]?=some x:=⟨_,List.getElem?_eq_getElem hj2⟩;obtain ⟨b1,b2⟩:=hr b (List.mem_of_getElem? hb);obtain ⟨b,rfl⟩:∃ q:Nat,b=q:=⟨b.toNat,by omega⟩;have rb:(List.range adj.length)[b]?=some b:=List.getElem?_range Oq;refine wk1 (x6 hj' ha hb ra rb ri) ?_;refine ⟨j+1,by omega,by omega,?_⟩;refine LeW [] rfl rfl ?_ ?_ (by simp [q1o,q1Q,win]) ?_
     ·refine qac (qgt q2a) ?_;rw [q7F (by omega) hlt];refine q50 fun r c _ _=>?_;unfold qif qi0
      by_cases hrc:r=i∧c=j
      ·obtain ⟨rfl,rfl⟩:=hrc;rw [if_pos ⟨rfl,rfl⟩,decide_eq_true (by omega),Bool.true_and,qaF ha,qaF hb]
      ·rw [if_neg hrc]
       congr 1
       exact decide_eq_decide.2 ⟨fun h=>by omega,fun h=>by omega⟩
     ·exact q14 Oq Oq Oq
     ·refine Zz ?_;omega
    ·have hj':¬ (j:Int) < l.length:=by omega
     obtain rfl:j=l.length:=by omega
     refine wk1 hj' ?_;refine ⟨i+1,by omega,by omega,?_⟩;refine LeW [] rfl rfl ?_ ?_ (by simp [q1o,q1Q,win]) ?_
     ·refine qac q2a (q50 fun r c _ hc=>?_);unfold qi0
      congr 1
      exact decide_eq_decide.2 ⟨fun h=>by omega,fun h=>by omega⟩
     ·exact q14 Oq Oq Oq
     ·refine Zz ?_;omega
  ·have hlt':¬ (i:Int) < l.length:=by omega
   obtain rfl:i=l.length:=by omega
   refine wk1 hlt' ?_;refine q3J (LeM [] rfl rfl (xs:=[(4,.pt 4 0 0),(8,qcn (qi0 adj l l.length 0) l.length)]) (kv:=[]) (bs:=[(4,⟨141,some 1,[.ag [q5A]],false⟩)]) (kb:=[]) ?_) ?_
   ·unfold qcn;refine Zz ?_;exact qds (R:=10000) q2a (by omega) (by omega) (by omega) (qaP (by simp [nmW]) (by simp [nmW])) fun i j hi _=>by cases hi; rfl
   unfold qcn;exact wk trivial
def qaR {adj:List (List Int)} {l:List Int} {n:Nat} (hn:adj.length=n) (hn2:n≤200) (hG:GOk adj) (hv:∀ q ∈ adj,q.length≤1000000∧∀ w ∈ q,0≤w∧w < n) (hp:q2R l n) :
  ACt 171 [pG adj,pI l] (.tu [pG (frG (qk4 adj l) n),iv 0]):=by
 have hll:l.length=n:=by have:=hp.1; omega
 have cI:=qaS (l:=l) hn hll hn2 Oq hG hv hp.2.1 hp.2.2;have cK:=qaT (adj:=adj) (fun q hq=>by have:=(hv q hq).1; omega);have c0:qdP adj=0:=by unfold qdP; rw [if_neg (by omega),if_pos hG]
 rw [c0] at cK;have cP:=qiZ (l:=l) (n:=n) Oq;have eP:∀ (i:Decidable (q2R l n)),@decide _ i=true:=fun _=>decide_eq_true hp;generalize frG (qk4 adj l) n=res at *;have e0:((0:Int) != 0)=false:=rfl;have eN:((l.length:Int) != (adj.length:Int))=false:=by simp; omega
 subst hn;unfold pG at cI cK ⊢;refine ac0 Tryz.func171 Tryz.ntmps171 [.cell 4 141,.tmp 5] ?_;exact wk1 (x3 e0 eN eP) trivial
def elH (n:Nat) (g:Nat→Nat→Bool) (gn:Nat→Bool):Hp:=fun i=>if i=5000 then some ⟨220,some 2,[.ag [.ow 5002 none 0 n,.ow 5001 none 0 n]],false⟩ else if i=5001 then some ⟨4,none,(List.range n).map fun c=>bv (gn c),false⟩ else tbH 5002 20000 n n g i
section
variable {n:Nat} {g g':Nat→Nat→Bool} {gn gn':Nat→Bool} {h:Hp}
def qoK:elH n g gn 5000=some ⟨220,some 2,[.ag [.ow 5002 none 0 n,.ow 5001 none 0 n]],false⟩:=rfl
def qoJ:elH n g gn 5001=some ⟨4,none,(List.range n).map fun c=>bv (gn c),false⟩:=rfl
def qoI:elH n g gn 5002=some ⟨23,none,(List.range n).map fun j=>.ow (j+20000) none 0 n,false⟩:=rfl
def qoH {j:Nat} (hj:j < n):elH n g gn (j+20000)=some ⟨4,none,(List.range n).map fun c=>bv (g j c),false⟩:=by
 unfold elH;rw [if_neg (by omega),if_neg (by omega)];exact q6c Oq hj
def q4V {i:Nat} {b:Bk} (hb:elH n g gn i=some b):(i=5000∧b=⟨220,some 2,[.ag [.ow 5002 none 0 n,.ow 5001 none 0 n]],false⟩)∨(i=5001∧b=⟨4,none,(List.range n).map fun c=>bv (gn c),false⟩)∨(i≠5000∧i≠5001∧tbH 5002 20000 n n g i=some b):=by
 unfold elH at hb
 split at hb
 ·cases hb; exact .inl ⟨‹_›,rfl⟩
 ·split at hb
  ·cases hb; exact .inr (.inl ⟨‹_›,rfl⟩)
  ·exact .inr (.inr ⟨‹_›,‹_›,hb⟩)
def qlO {i:Nat} (hi:i < 5000):elH n g gn i=none:=by
 unfold elH;rw [if_neg (by omega),if_neg (by omega)];exact qqe Oq (.inl Oq)
attribute [go_sem ↓] qoK qoJ qoI qoH qlO
def q3j (hn:n≤1000) {i:Nat} {b:Bk} (hb:elH n g gn i=some b):win i:=by
 rcases q4V hb with ⟨rfl,_⟩ | ⟨rfl,_⟩ | ⟨_,_,h⟩
 ·exact ⟨by omega,by omega⟩
 ·exact ⟨by omega,by omega⟩
 ·exact q5Z Oq Oq Oq h
def qtM {i:Nat} (h:tbH 5002 20000 n n g i≠none):elH n g gn i≠none:=by
 unfold elH
 split
 ·exact Option.some_ne_none _
 ·split
  ·exact Option.some_ne_none _
  ·exact h
def q1v (hn:n≤1000):WfH (elH n g gn):=⟨fun i b hb=>by
 rcases q4V hb with ⟨_,rfl⟩ | ⟨_,rfl⟩ | ⟨_,_,h⟩
 ·refine ⟨rfl,IdL.of fun x hx=>?_⟩;simp at hx; subst hx;unfold IdP;refine IdL.of fun x hx=>?_;simp at hx
  rcases hx with rfl | rfl <;> (unfold IdP; exact ⟨⟨by omega,by omega⟩,Option.some_ne_none _⟩)
 ·exact ⟨rfl,qs5⟩
 ·obtain ⟨q1,q2⟩:=(q14 (T1:=23) (T2:=4) (N:=5002) (R:=20000) (n:=n) (m:=n) (g:=g) Oq Oq Oq).wf i b h;exact ⟨q1,IdL.of fun x hx=>by
   have:=q2.mem x hx
   rcases q1H h with ⟨_,rfl⟩ | ⟨_,_,rfl⟩
   ·obtain ⟨z,hz,rfl⟩:=List.mem_map.1 hx;unfold IdP at this ⊢;exact ⟨this.1,qtM this.2⟩
   ·obtain ⟨z,hz,rfl⟩:=List.mem_map.1 hx;unfold IdP; trivial⟩⟩
def qlN (hn:n≤1000):∀ i b,elH n g gn i=some b→win i∧b.st=false∧IdL win b.xs∧∃ b',elH n g' gn' i=some b'∧b'.k=b.k∧b.xs.length≤b'.xs.length:=fun i b hb=>by
 have hw:=q3j hn hb;obtain ⟨q1,q2⟩:=(q1v hn).wf i b hb;refine ⟨hw,q1,IdL.of fun x hx=>?_,?_⟩
 ·have:=q2.mem x hx
  rcases q4V hb with ⟨_,rfl⟩ | ⟨_,rfl⟩ | ⟨_,_,h⟩
  ·simp at hx; subst hx;unfold IdP;refine IdL.of fun x hx=>?_;simp at hx
   rcases hx with rfl | rfl <;> (unfold IdP; exact ⟨by omega,by omega⟩)
  ·obtain ⟨z,hz,rfl⟩:=List.mem_map.1 hx;unfold IdP; trivial
  ·rcases q1H h with ⟨_,rfl⟩ | ⟨_,_,rfl⟩
   ·obtain ⟨z,hz,rfl⟩:=List.mem_map.1 hx;unfold IdP at this ⊢;exact this.1
   ·obtain ⟨z,hz,rfl⟩:=List.mem_map.1 hx;unfold IdP; trivial
 ·rcases q4V hb with ⟨rfl,rfl⟩ | ⟨rfl,rfl⟩ | ⟨a1,a2,h⟩
  ·exact ⟨_,qoK,rfl,Nat.le_refl _⟩
  ·exact ⟨_,qoJ,rfl,by simp⟩
  ·rcases q1H h with ⟨rfl,rfl⟩ | ⟨b1,b2,rfl⟩
   ·exact ⟨_,qoI,rfl,Nat.le_refl _⟩
   ·have:=qoH (g:=g') (gn:=gn') (n:=n) (j:=i-20000) Oq;rw [Nat.sub_add_cancel b1] at this;exact ⟨_,this,rfl,by simp⟩
def qoG {r c:Nat} {b:Bool} (hr:r < n):q0R (elH n g gn) (r+20000) ⟨4,none,((List.range n).map fun y=>bv (g r y)).set c (bv b),false⟩=elH n (qif g r c b) gn:=by
 have:=q7F (T1:=23) (T2:=4) (N:=5002) (R:=20000) (m:=n) (g:=g) (c:=c) (b:=b) Oq hr
 funext i
 have e:=congrFun this i;unfold q0R at e ⊢;unfold elH
 by_cases hi:i=r+20000
 ·rw [if_pos hi] at e ⊢;rw [if_neg (by omega),if_neg (by omega)];exact e
 ·rw [if_neg hi] at e ⊢;have e:tbH 5002 20000 n n g i=tbH 5002 20000 n n (qif g r c b) i:=e;rw [e]
def qjX {c:Nat} {b:Bool}:q0R (elH n g gn) 5001 ⟨4,none,((List.range n).map fun y=>bv (gn y)).set c (bv b),false⟩=elH n g (fun y=>if y=c then b else gn y):=by
 funext i
 unfold q0R elH
 by_cases hi:i=5001
 ·rw [if_pos hi,if_neg (by omega),if_pos hi,q9n]
 ·rw [if_neg hi,if_neg hi]
  by_cases h0:i=5000
  ·rw [if_pos h0,if_pos h0]
  ·rw [if_neg h0,if_neg h0,if_neg hi]
def tb:Nat→Option Nat:=fun i=>if i=5000 then some 10 else if i=5001 then some 8 else some i
def qjW (hn:n≤1000) (h10:h 10=some ⟨220,some 2,[.ag [.ow 5002 none 0 n,.ow 8 none 0 n]],false⟩) (h8:h 8=some ⟨4,none,List.replicate n (bv false),false⟩) (hq:Wn h (tbH 5002 20000 n n g)):Le (fun i=>h0 i≠none) (fun _=>.pt 10 0 0) h (fun _=>.pt 5000 0 0) (elH n g fun _=>false):=by
 have tI:∀ i,i≠5000→i≠5001→tb i=some i:=fun i a b=>by unfold tb; rw [if_neg a,if_neg b]
 refine q2b tb (fun i b hb=>?_) (fun i j k b c hi hj ti tj=>?_) (fun _=>.pt (i:=5000) rfl qoK) fun i hi=>(hi rfl).elim
 ·rcases q4V hb with ⟨rfl,rfl⟩ | ⟨rfl,rfl⟩ | ⟨a1,a2,hb⟩
  ·refine ⟨_,h10,rfl,rfl,⟨rfl,rfl⟩,?_⟩;rw [q16,qli];exact ⟨.ow (tI 5002 Oq Oq) qoI,.ow (i:=5001) rfl qoJ,trivial⟩
  ·refine ⟨_,h8,rfl,rfl,⟨rfl,rfl⟩,?_⟩;rw [q4j];exact qp7 fun _ _=>rfl
  ·unfold LeB;rw [tI i a1 a2];have hw:win i:=q5Z Oq Oq Oq hb;obtain ⟨q1,q2⟩:=(q14 (T1:=23) (T2:=4) (N:=5002) (R:=20000) (n:=n) (m:=n) (g:=g) Oq Oq Oq).wf i b hb;refine ⟨b,(hq i hw).trans hb,rfl,rfl,⟨q1,q1⟩,?_⟩
   rcases q1H hb with ⟨rfl,rfl⟩ | ⟨_,_,rfl⟩
   ·exact LeL_self (p:=fun j=>∃ c,c < n∧j=c+20000) (fun j ⟨c,hc,e⟩=>by subst e; exact ⟨tI _ Oq Oq,_,qoH hc⟩) _ (qau fun c hc=>⟨c,hc,rfl⟩)
   ·exact LeL_self (p:=fun _=>False) (fun _ h=>h.elim) _ qs5
 ·have key:∀ i b,elH n g (fun _=>false) i=some b→∀ a,tb i=some a→(i=5000∧a=10)∨(i=5001∧a=8)∨(i=a∧5000≤a):=fun i b hb a ha=>by
   have hw:=q3j hn hb
   by_cases e1:i=5000
   ·subst e1; cases ha; exact .inl ⟨rfl,rfl⟩
   ·by_cases e2:i=5001
    ·subst e2; cases ha; exact .inr (.inl ⟨rfl,rfl⟩)
    ·rw [tI i e1 e2] at ha; cases ha; exact .inr (.inr ⟨rfl,hw.1⟩)
  rcases key i b hi k ti with ⟨e1,e2⟩ | ⟨e1,e2⟩ | ⟨e1,e2⟩ <;> rcases key j c hj k tj with ⟨f1,f2⟩ | ⟨f1,f2⟩ | ⟨f1,f2⟩ <;> omega
end
def ag243:q06 Tryz.prog 220=some (some 2):=by kernel_rfl
attribute [go_sem] ag243
def qgS {adj:List (List Int)} {n:Nat} (hl:adj.length=n) (hn:n≤1000) (hv:∀ l ∈ adj,l.length≤1000000∧∀ w ∈ l,0≤w∧w < n):q9Y 166 [pG adj] h0 (.pt 5000 0 0) (elH n (adT adj) fun _=>false):=by
 have cT:=q8n hl hn hv;subst hl;unfold pG at cT ⊢;refine qcQ ql1 Tryz.func166 rfl Tryz.ntmps166 (by kernel_rfl) ?_ ?_ ?_ ?_
 ·intro i b hb; cases hb
 ·exact fun i b hb=>q3j hn hb
 ·exact IdL.of fun x hx=>by
   simp at hx; subst hx; unfold IdP;exact IdL.of fun x hx=>by simp at hx; subst hx; unfold IdP; trivial
 refine wk ?_;refine A_dj q4G (.one 2 (.alt (.one 0 (.alt (.one 1 (.one 3 (.one 4 (.one 5 (.one 6 (.one 7 (.one 8 .fin))))))) (.one 3 (.one 4 (.alt (.one 1 (.one 5 (.one 6 (.one 7 (.one 8 .fin))))) (.one 5 (.one 1 (.one 6 (.one 7 (.one 8 .fin)))))))))) (.one 3 (.one 4 (.alt (.one 0 (.alt (.one 1 (.one 5 (.one 6 (.one 7 (.one 8 .fin))))) (.one 5 (.one 1 (.one 6 (.one 7 (.one 8 .fin))))))) (.one 5 (.one 0 (.one 1 (.one 6 (.one 7 (.one 8 .fin))))))))))) (by kernel_rfl) fun K hK=>?_;refine Zz ?_
 repeat' apply And.intro
 all_goals
  refine jm cT (by repeat (first | exact Wn_0 | refine Wn_l (by omega) ?_)) (by simp) ?_;refine Zz ?_;refine hK _ _ ?_; clear hK K;refine qhD ?_;refine rtM (rs:=[.tmp 2]) (l:=[.pt 10 0 0]) rfl rfl ?_ ?_ (.inl rfl)
  ·exact Zy
  rw [qsP];refine qjW hn ?_ ?_ ?_
  ·exact Zy
  ·exact Zy
  ·exact Ow
def nbL (g:Nat→Nat→Bool) (gn:Nat→Bool) (v k:Nat):List Nat:=(List.range k).filter fun w=>g v w && !gn w
abbrev pN (l:List Nat):PV:=.sl none (l.map fun z:Nat=>iv z)
def nbL_s {g:Nat→Nat→Bool} {gn:Nat→Bool} {v k:Nat}:nbL g gn v (k+1)=nbL g gn v k ++ (if (g v k && !gn k)=true then [k] else []):=by
 unfold nbL;rw [List.range_succ,List.filter_append]
 congr 1
 cases h:(g v k && !gn k) <;> simp [h]
def q71 {g:Nat→Nat→Bool} {gn:Nat→Bool} {v k:Nat}:(nbL g gn v k).length≤k:=by
 unfold nbL;have:=List.length_filter_le (fun w=>g v w && !gn w) (List.range k);simpa using this
def clN {l:List Nat}:ClL (l.map fun z:Nat=>iv z):=fun x hx=>by
 obtain ⟨e,_,rfl⟩:=List.mem_map.1 hx
 trivial
def q8y {n v:Nat} {g:Nat→Nat→Bool} {gn:Nat→Bool} (hn:n≤1000) (hv:v < n):q9Y 167 [.pt 5000 0 0,iv v] (elH n g gn) (pN (nbL g gn v n)) (elH n g gn):=by
 refine qcQ ql0 Tryz.func167 rfl Tryz.ntmps167 (by kernel_rfl) ?_ ?_ ?_ ?_
 ·exact qlN hn
 ·exact fun i b hb=>q3j hn hb
 ·exact IdL.of fun x hx=>by
   simp at hx
   rcases hx with rfl | rfl <;> unfold IdP <;> first | trivial | exact ⟨by omega,by omega⟩
 have rv:(List.range n)[v]?=some v:=List.getElem?_range hv;refine wk ?_;refine q00 (fun k=>k≤n) [0,1] [] Lk Lk (fun k:Nat=>[(6,iv k),(5,.ow 1001 none 0 (nbL g gn v k).length)]) (fun k=>[(1001,⟨3,none,(nbL g gn v k).map fun z:Nat=>iv z,false⟩)]) (fun _=>elH n g gn) (fun k=>n-k) 0 (Nat.zero_le _) ?_ ?_
 ·refine LeW [(1001,none)] rfl rfl ?_ ?_ (by simp [q1o,q1Q,win]) ?_
  ·exact Wn_r
  ·exact q1v hn
  ·refine Zz ?_;exact ⟨⟨rfl,rfl⟩,rfl⟩
 ·intro k hk;have hlen:=q71 (g:=g) (gn:=gn) (v:=v) (k:=k);refine wk ?_
  by_cases hlt:k < n
  ·have hlt':(k:Int) < n:=by omega
   have rk:(List.range n)[k]?=some k:=List.getElem?_range hlt;refine wk1 hlt' ?_;have hns:=nbL_s (g:=g) (gn:=gn) (v:=v) (k:=k);cases h1:g v k with
   | false =>
    rw [h1] at hns;simp only [Bool.false_and,Bool.false_eq_true,if_false,List.append_nil] at hns;refine wk1 (x3 rv rk h1) ?_;refine ⟨k+1,by omega,by omega,?_⟩;rw [hns];refine LeW [] rfl rfl ?_ ?_ (by simp [q1o,q1Q,win]) ?_
    ·exact Ow
    ·exact q1v hn
    ·refine Zz ?_;exact ⟨by omega,q0Y rfl clN⟩
   | true =>
    cases h2:gn k with
    | true =>
     rw [h1,h2] at hns;simp only [Bool.not_true,Bool.and_false,Bool.false_eq_true,if_false,List.append_nil] at hns;refine wk1 (x4 rv rk h1 h2) ?_;refine ⟨k+1,by omega,by omega,?_⟩;rw [hns];refine LeW [] rfl rfl ?_ ?_ (by simp [q1o,q1Q,win]) ?_
     ·exact Ow
     ·exact q1v hn
     ·refine Zz ?_;exact ⟨by omega,q0Y rfl clN⟩
    | false =>
     rw [h1,h2] at hns;simp only [Bool.not_false,Bool.and_true,if_true] at hns;refine wk1 (x4 rv rk h1 h2) ?_;refine ⟨k+1,by omega,by omega,?_⟩;rw [hns];refine LeW [(1001,some 39)] rfl rfl ?_ ?_ (by simp [q1o,q1Q,win]) ?_
     ·exact Ow
     ·exact q1v hn
     ·refine Zz ?_;exact ⟨by omega,q0Y (by simp) clN⟩
  ·have hlt':¬ (k:Int) < n:=by omega
   obtain rfl:k=n:=by omega
   refine wk1 hlt' ?_;refine (rtM (rs:=[.tmp 4]) rfl rfl Lq ?_ (.inl rfl));refine LeF q2a (fun i b hb=>q3j hn hb) (q1v hn) ?_;refine Zz ?_;refine q1z (T:=3) (qf4 Oq) clN (fun i hi=>?_) ?_
   ·cases hi; exact qlO Oq
   ·rw [List.drop_zero]; exact List.take_of_length_le (by simp)
def eJ (l:List Nat) (g:Nat→Nat→Bool) (i:Nat):Nat→Nat→Nat→Bool
 | 0=>g
 | j+1=>if i=j then eJ l g i j else qif (eJ l g i j) (l.getD i 0) (l.getD j 0) true
def eI (l:List Nat) (g:Nat→Nat→Bool):Nat→Nat→Nat→Bool
 | 0=>g
 | i+1=>eJ l (eI l g i) i l.length
def qoF (g:Nat→Nat→Bool) (gn:Nat→Bool) (v n:Nat):Nat→Nat→Bool:=eI (nbL g gn v n) g (nbL g gn v n).length
def qtD (gn:Nat→Bool) (v:Nat):Nat→Bool:=fun y=>if y=v then true else gn y
def qjZ {n v:Nat} {g:Nat→Nat→Bool} {gn:Nat→Bool} (hn:n≤1000) (hv:v < n):q9Y 168 [.pt 5000 0 0,iv v] (elH n g gn) (.tu []) (elH n (qoF g gn v n) (qtD gn v)):=by
 refine qcQ qlZ Tryz.func168 rfl Tryz.ntmps168 (by kernel_rfl) ?_ ?_ ?_ ?_
 ·exact qlN hn
 ·exact fun i b hb=>q3j hn hb
 ·exact IdL.of fun x hx=>by
   simp at hx
   rcases hx with rfl | rfl <;> unfold IdP <;> first | trivial | exact ⟨by omega,by omega⟩
 have rv:(List.range n)[v]?=some v:=List.getElem?_range hv;have hl:∀ (i x:Nat),(nbL g gn v n)[i]?=some x→x < n:=fun i x hx=>by
  have:=List.mem_of_getElem? hx;unfold nbL at this;exact List.mem_range.1 (List.mem_filter.1 this).1
 have hlen:=q71 (g:=g) (gn:=gn) (v:=v) (k:=n);unfold qoF;refine wk ?_;refine qcV fun K hK=>?_;refine Zz ?_;refine jm (q8y hn hv) ?_ (fun i h _=>h) ?_
 ·exact Wn_r
 try refine Zz ?_
 refine hK _ _ ?_; clear hK K;generalize nbL g gn v n=l at *
 try refine Zz ?_
 refine wk ?_;refine q00 (fun i=>i≤l.length) [0,1,4] [] Lk Lk (fun i:Nat=>[(5,iv i)]) (fun _=>[]) (fun i=>elH n (eI l g i) gn) (fun i=>l.length-i) 0 (Nat.zero_le _) ?_ ?_
 ·refine LeW [] rfl rfl ?_ ?_ (by simp [q1o,q1Q,win]) ?_
  ·exact q2a
  ·exact q1v hn
  ·refine Zz ?_
   rfl
 ·intro i hi;refine wk ?_
  by_cases hlt:i < l.length
  ·have hlt':(i:Int) < l.length:=by omega
   obtain ⟨a,ha⟩:∃ x,l[i]?=some x:=⟨_,List.getElem?_eq_getElem hlt⟩;have han:=hl i a ha;have ra:(List.range n)[a]?=some a:=List.getElem?_range han;have da:l.getD i 0=a:=by rw [List.getD_eq_getElem?_getD,ha]; rfl
   refine wk1 hlt' ?_;refine q00 (fun j=>j≤l.length) [0,1,4,5] [] Lk Lk (fun j:Nat=>[(6,iv j)]) (fun _=>[]) (fun j=>elH n (eJ l (eI l g i) i j) gn) (fun j=>l.length-j) 0 (Nat.zero_le _) ?_ ?_
   ·refine LeW [] rfl rfl ?_ ?_ (by simp [q1o,q1Q,win]) ?_
    ·exact q2a
    ·exact q1v hn
    ·refine Zz ?_;omega
   ·intro j hj;refine wk ?_
    by_cases hj2:j < l.length
    ·have hj':(j:Int) < l.length:=by omega
     obtain ⟨b,hb⟩:∃ x,l[j]?=some x:=⟨_,List.getElem?_eq_getElem hj2⟩;have hbn:=hl j b hb;have rb:(List.range n)[b]?=some b:=List.getElem?_range hbn;have db:l.getD j 0=b:=by rw [List.getD_eq_getElem?_getD,hb]; rfl
     refine wk1 hj' ?_
     by_cases hij:i=j
     ·have e1:((i:Int) != (j:Int))=false:=by simp; omega
      refine wk1 e1 ?_;refine ⟨j+1,by omega,by omega,?_⟩;have es:eJ l (eI l g i) i (j+1)=eJ l (eI l g i) i j:=by rw [eJ,if_pos hij]
      rw [es];refine LeW [] rfl rfl ?_ ?_ (by simp [q1o,q1Q,win]) ?_
      ·exact q2a
      ·exact q1v hn
      ·refine Zz ?_;omega
     ·have e1:((i:Int) != (j:Int))=true:=by simp; omega
      refine wk1 (x5 e1 ha hb ra rb) ?_;refine ⟨j+1,by omega,by omega,?_⟩;have es:eJ l (eI l g i) i (j+1)=qif (eJ l (eI l g i) i j) a b true:=by rw [eJ,if_neg hij,da,db]
      rw [es];refine LeW [] rfl rfl ?_ ?_ (by simp [q1o,q1Q,win]) ?_
      ·exact qac (qgt q2a) (qoG han)
      ·exact q1v hn
      ·refine Zz ?_;omega
    ·have hj':¬ (j:Int) < l.length:=by omega
     obtain rfl:j=l.length:=by omega
     refine wk1 hj' ?_;refine ⟨i+1,by omega,by omega,?_⟩;refine LeW [] rfl rfl ?_ ?_ (by simp [q1o,q1Q,win]) ?_
     ·exact q2a
     ·exact q1v hn
     ·refine Zz ?_;omega
  ·have hlt':¬ (i:Int) < l.length:=by omega
   obtain rfl:i=l.length:=by omega
   refine wk1 (x2 hlt' rv) ?_;refine rtM (rs:=[]) rfl rfl Lq ?_ (.inr rfl);refine LeF (qac (qgt q2a) qjX) (fun i b hb=>q3j hn hb) (q1v hn) ?_;exact Zy
def elS (g:Nat→Nat→Bool) (n:Nat):Nat→(Nat→Nat→Bool) × (Nat→Bool)
 | 0=>(g,fun _=>false)
 | j+1=>(qoF (elS g n j).1 (elS g n j).2 j n,qtD (elS g n j).2 j)
def qlR (g:Nat→Nat→Bool) (n j:Nat):List Nat:=j :: nbL (elS g n j).1 (elS g n j).2 j n
def q27 (g:Nat→Nat→Bool) (n k:Nat):List (List Nat):=(List.range k).map (qlR g n)
abbrev pNN (l:List (List Nat)):PV:=.sl none (l.map fun q=>pN q)
def clNN {l:List (List Nat)}:ClL (l.map fun q=>pN q):=fun x hx=>by
 obtain ⟨e,_,rfl⟩:=List.mem_map.1 hx
 trivial
def qoY {g:Nat→Nat→Bool} {n j x:Nat} (hj:j < n) (h:x ∈ qlR g n j):x < n:=by
 unfold qlR at h
 rcases List.mem_cons.1 h with rfl | h
 ·exact hj
 ·unfold nbL at h;exact List.mem_range.1 (List.mem_filter.1 h).1
def qbz {g:Nat→Nat→Bool} {n j:Nat}:(qlR g n j).length≤n+1:=by
 unfold qlR;have:=q71 (g:=(elS g n j).1) (gn:=(elS g n j).2) (v:=j) (k:=n);simp; omega
def qoX {g:Nat→Nat→Bool} {n k:Nat}:q27 g n (k+1)=q27 g n k ++ [qlR g n k]:=by
 unfold q27;rw [List.range_succ,List.map_append]; rfl
def qa3 {adj:List (List Int)} {n:Nat} (hl:adj.length=n) (hn:n≤200) (hG:GOk adj) (hv:∀ l ∈ adj,l.length≤1000000∧∀ w ∈ l,0≤w∧w < n):ACt 109 [pG adj] (.tu [pNN (q27 (adT adj) n n),iv 0]):=by
 have cB:=qgS hl Oq hv;have cK:=qaT (adj:=adj) (fun q hq=>by have:=(hv q hq).1; omega);have c0:qdP adj=0:=by unfold qdP; rw [if_neg (by omega),if_pos hG]
 rw [c0] at cK;clear c0;have e0:((0:Int) != 0)=false:=rfl;generalize adT adj=g at *;subst hl;unfold pG at cB cK ⊢;refine ac0 Tryz.func109 Tryz.ntmps109 [.tmp 2,.tmp 3] ?_;refine wk1 e0 ?_;refine qcV fun K hK=>?_;refine Zz ?_;refine jmF cB ?_ ?_
 ·exact Ow
 try refine Zz ?_
 refine hK _ _ ?_; clear hK K;refine wk ?_;refine q00 (fun j=>j≤adj.length) [1,5] [1] Lk Lk (fun j:Nat=>[(7,iv j),(6,.ow 1001 none 0 j)]) (fun j=>[(1001,⟨24,none,(q27 g adj.length j).map fun q=>pN q,false⟩)]) (fun j=>elH adj.length (elS g adj.length j).1 (elS g adj.length j).2) (fun j=>adj.length-j) 0 (Nat.zero_le _) ?_ ?_
 ·refine LeW [(1001,none)] rfl rfl ?_ ?_ (by simp [q1o,q1Q,win]) ?_
  ·exact q2a
  ·exact q1v Oq
  ·refine Zz ?_;exact ⟨rfl,rfl⟩
 ·intro j hj;refine wk ?_
  by_cases hlt:j < adj.length
  ·have hlt':(j:Int) < adj.length:=by omega
   refine wk1 hlt' ?_;have hnl:=q71 (g:=(elS g adj.length j).1) (gn:=(elS g adj.length j).2) (v:=j) (k:=adj.length);have hcl:(q27 g adj.length j).length=j:=by simp [q27]
   refine wk ?_;refine qcV fun K hK=>?_;refine Zz ?_;refine jmF (q8y (g:=(elS g adj.length j).1) (gn:=(elS g adj.length j).2) Oq hlt) ?_ ?_
   ·exact Ow
   refine Zz1 hcl ?_;refine hK _ _ ?_; clear hK K;refine qag fun K9 hK9=>?_;refine Zz ?_;refine jmF (qjZ (g:=(elS g adj.length j).1) (gn:=(elS g adj.length j).2) Oq hlt) ?_ ?_
   ·exact Ow
   try refine Zz ?_
   refine hK9 _ _ ?_; clear hK9 K9;refine wk ?_;refine ⟨j+1,by omega,by omega,?_⟩;refine LeW [(1001,some 30)] rfl rfl ?_ ?_ (by simp [q1o,q1Q,win]) ?_
   ·exact q2a
   ·exact q1v Oq
   ·refine Zz ?_;rw [qoX,List.map_append];refine ⟨by omega,q2G (q0Y rfl clNN) ?_⟩;rw [List.map_singleton,q16];refine q1z (T:=3) (l:=(qlR g adj.length j).map fun z:Nat=>iv z) ?_ clN (fun i hi=>?_) ?_
    ·refine Zz ?_
     rfl
    ·have:i=28:=by
      unfold q1Q at hi
      split at hi
      ·cases hi
      ·unfold q1Q at hi; cases hi; rfl
     subst this;exact Zy
    ·rw [List.drop_zero]; exact List.take_of_length_le (by simp [qlR]; omega)
  ·have hlt':¬ (j:Int) < adj.length:=by omega
   obtain rfl:j=adj.length:=by omega
   refine wk1 hlt' ?_;exact List.take_of_length_le (by simp [q27])
def qaV {t:Nat→Nat→Bool} {n:Nat}:(frG t n).length=n:=by simp [frG]
def q7e {t:Nat→Nat→Bool} {v n:Nat} {w:Int}:w ∈ frL t v n ↔ ∃ k:Nat,w=k∧k < n∧q1F t v k=true:=by
 unfold frL;rw [List.mem_map]
 constructor
 ·rintro ⟨k,hk,rfl⟩;obtain ⟨h1,h2⟩:=List.mem_filter.1 hk;exact ⟨k,rfl,List.mem_range.1 h1,h2⟩
 ·rintro ⟨k,rfl,h1,h2⟩;exact ⟨k,List.mem_filter.2 ⟨List.mem_range.2 h1,h2⟩,rfl⟩
def qaU {t:Nat→Nat→Bool} {v:Nat}:∀ n,Asc (frL t v n)
 | 0=>fun i x y h=>by simp [frL] at h
 | n+1=>fun i x y hx hy=>by
  rw [qnk] at hx hy
  split at hy
  ·by_cases h1:i+1 < (frL t v n).length
   ·rw [List.getElem?_append_left h1] at hy;rw [if_pos (by assumption),List.getElem?_append_left (by omega)] at hx;exact qaU n i x y hx hy
   ·have h2:i+1=(frL t v n).length:=by
     have:=(List.getElem?_eq_some_iff.1 hy).1;simp at this; omega
    rw [List.getElem?_append_right (by omega),h2] at hy;simp at hy;rw [if_pos (by assumption),List.getElem?_append_left (by omega)] at hx;obtain ⟨k,rfl,hk,_⟩:=q7e.1 (List.mem_of_getElem? hx);omega
  ·rw [if_neg (by assumption)] at hx;rw [List.append_nil] at hx hy;exact qaU n i x y hx hy
def qfg {t:Nat→Nat→Bool} {n v:Nat} {l:List Int} (h:(frG t n)[v]?=some l):v < n∧l=frL t v n:=by
 unfold frG at h;rw [List.getElem?_map] at h
 rcases Nat.lt_or_ge v n with hv | hv
 ·rw [List.getElem?_range hv] at h;cases h; exact ⟨hv,rfl⟩
 ·rw [List.getElem?_eq_none (by simpa using hv)] at h; cases h
def qaH {t:Nat→Nat→Bool} {v w:Nat}:q1F t v w=q1F t w v:=by
 unfold q1F;rw [Bool.or_comm]
 congr 1
 exact decide_eq_decide.2 ⟨Ne.symm,Ne.symm⟩
def qlF {t:Nat→Nat→Bool} {n:Nat}:GOk (frG t n):=fun v l hl=>by
 obtain ⟨hv,rfl⟩:=qfg hl;refine ⟨qaU n,fun w hw=>?_⟩;obtain ⟨k,rfl,hk,hj⟩:=q7e.1 hw;refine ⟨by omega,by rw [qaV]; omega,fun e=>?_,fun q hq=>?_⟩
 ·obtain rfl:k=v:=by omega
  simp [q1F] at hj
 ·rw [Int.toNat_natCast] at hq;obtain ⟨_,rfl⟩:=qfg hq;exact q7e.2 ⟨v,rfl,hv,by rw [qaH]; exact hj⟩
def qlG {t:Nat→Nat→Bool} {n:Nat} (hn:n≤1000):∀ l ∈ frG t n,l.length≤1000000∧∀ w ∈ l,0≤w∧w < n:=fun l hl=>by
 obtain ⟨v,hv,rfl⟩:=List.mem_map.1 hl;have:=qff (t:=t) (v:=v) (w:=n);refine ⟨by omega,fun w hw=>?_⟩;obtain ⟨k,rfl,hk,_⟩:=q7e.1 hw;omega
def q8b {f:Nat→Nat→Option Nat} {j i x:Nat} (h:q75 f j i=some x):f j i=some x:=by
 unfold q75 at h
 split at h
 ·exact h
 ·cases h
def qnU {f:Nat→Nat→Option Nat} {R C:Nat} (h:TOk f R C):TOk (q75 f) R C:=⟨h.r,h.c,h.m,fun j i x h1 h2 h3=>h.u j i x h1 h2 (q8b h3),fun j i x h1 h2 h3=>h.v j i x h1 h2 (q8b h3)⟩
def qck (f:Nat→Nat→Option Nat) (l:List Int) (n:Nat):List (List Int):=frG (qk4 (frG (qhi (q75 f)) n) l) n
def qe4 {f:Nat→Nat→Option Nat} {n:Nat} {l:List Int} (h:TOk f n n) (hp:q2R l n):ACt 110 [pT n n f,pI l] (pG (qck f l n)):=by
 have hn:=h.r;have cL:=qdz h;have cM:=q65 (qnU h);have cR:=qaR (adj:=frG (qhi (q75 f)) n) (l:=l) qaV hn qlF (qlG Oq) hp;have e:frG (qk4 (frG (qhi (q75 f)) n) l) n=qck f l n:=rfl;rw [e] at cR;clear e;generalize qck f l n=res at *;generalize frG (qhi (q75 f)) n=adj at *;have hpl:pT n n f=q2M n n (tM f n n).1 (tM f n n).2.1 (tM f n n).2.2:=rfl;have hpl2:pT n n (q75 f)=q2M n n (tM (q75 f) n n).1 (tM (q75 f) n n).2.1 (tM (q75 f) n n).2.2:=rfl;rw [hpl] at cL ⊢;rw [hpl2] at cL cM;clear hpl hpl2;unfold q2M at *;unfold pG at *;generalize (tM f n n).1=st at *;generalize (tM f n n).2.1=ix at *;generalize (tM f n n).2.2=vl at *;generalize (tM (q75 f) n n).1=st' at *;generalize (tM (q75 f) n n).2.1=ix' at *;generalize (tM (q75 f) n n).2.2=vl' at *;refine ac0 Tryz.func110 Tryz.ntmps110 [.cell 4 141] ?_;exact wk trivial
def qsC {V:Int} (h:V=0):od V=0:=by
 have:=q1S V;rw [h] at this ⊢
 rcases Int.mul_eq_zero.1 this with h | h
 ·exact h
 ·exact absurd h (Int.ne_of_gt (q0U _))
def qhy {A B mode:Int} (hB0:B=0):ACt 137 [pV A,pV B,iv mode] (uv 9221120237041090560):=q6W (al':=[dT A,dT B,iv mode]) (p:=q05 A∧q05 B) qgc (fun D w vs hR=>by
 obtain ⟨a,b,c,rfl,h1,h2,h3⟩:=rd_3 hR;obtain ⟨h4,h5⟩:=q2h.2 (q7U h1);obtain ⟨h6,h7⟩:=q2h.2 (q7U h2);refine ⟨?_,h5,h7⟩;unfold RdL;refine ⟨_,_,rfl,h4,?_⟩;unfold RdL;exact ⟨_,_,rfl,h6,RdL.one h3⟩) fun ⟨hA,hB⟩=>by
 have b3:=q1w hB;have cA:=q08 hA;have cB:=q08 hB;have sB:=q1C (a:=od B) Oq;have e1:((od B).sign == 0)=true:=by rw [qsC hB0]; rfl
 unfold dT at *;unfold bT at *;refine ac0 Tryz.func137 Tryz.ntmps137 [.tmp 6] ?_;exact wk1 e1 trivial
def qeu (mode A B:Int):Nat:=if B=0 then 9221120237041090560 else fQ mode A B
def qet {mode A B:Int}:qeu mode A B < 18446744073709551616:=by
 unfold qeu
 split
 ·omega
 ·exact q6L (by assumption)
def qbP {A B mode:Int}:ACt 137 [pV A,pV B,iv mode] (uv (qeu mode A B:Nat)):=by
 unfold qeu
 split
 ·exact qhy (by assumption)
 ·exact q9q (by assumption)
def qem {V:Int} (hV:¬ 0 < V):ACt 174 [pV V,iv 0] (uv (if V < 0 then 9221120237041090560 else 0:Nat)):=q6W (al':=[dT V,iv 0]) (p:=q05 V) qcF (fun D w vs hR=>by
  obtain ⟨b,c,rfl,h1,h2⟩:=qk9 hR;obtain ⟨h4,h5⟩:=q2h.2 (q7U h1);refine ⟨?_,h5⟩;unfold RdL;exact ⟨_,_,rfl,h4,RdL.one h2⟩) fun hA=>by
 have a3:=q1w hA;have cA:=q08 hA;have sA:=q1C (a:=od V) Oq
 by_cases h0:V < 0
 ·rw [if_pos h0];have hn:od V < 0:=by
   have h1:=q15 V;rw [decide_eq_true h0] at h1;exact of_decide_eq_true h1
  have g1:(od V).sign < 0:=by rw [Int.sign_eq_neg_one_of_neg hn]; omega
  unfold dT at *;unfold bT at *;refine ac0 Tryz.func174 Tryz.ntmps174 [.tmp 4] ?_;refine wk1 g1 ?_
  rfl
 ·rw [if_neg h0];have hz:od V=0:=qsC Oq;have g1:¬ (od V).sign < 0:=by rw [hz]; simp
  have g2:((od V).sign == 0)=true:=by rw [hz]; rfl
  unfold dT at *;unfold bT at *;refine ac0 Tryz.func174 Tryz.ntmps174 [.tmp 4] ?_;refine wk1 (x2 g1 g2) ?_
  rfl
noncomputable def q4D (V:Int):Nat:=if 0 < V then qef V else if V < 0 then 9221120237041090560 else 0
def qbM {V:Int}:q4D V < 18446744073709551616:=by
 unfold q4D
 split
 ·exact qhv
 ·split <;> omega
def qel {V:Int}:ACt 174 [pV V,iv 0] (uv (q4D V:Nat)):=by
 unfold q4D
 split
 ·exact qhx (by assumption)
 ·exact qem (by assumption)
end Go.Proofs.YtbcmhlhgljoolaaGreatDoor
namespace Go.E
open Go Go.RowKit
section
variable {P:Program} {J:Nat→Prop} {s:Nat→PV} {h hw:Hp} {τ:Nat→Option Nat} {T1 T2:TypeId} {N R n k m:Nat} {g:Nat→Nat→Nat}
def q61 (T1 T2:TypeId) (N R n k m:Nat) (g:Nat→Nat→Nat):Hp:=fun i =>
 if i=N then some ⟨T1,none,(List.range n).map fun j=>if j < k then .ow (j+R) none 0 m else .vl (.slice none 0 0),false⟩
 else if R≤i∧i < R+k then some ⟨T2,none,(List.range m).map fun c=>.vl (.int .u64 (g (i-R) c:Nat)),false⟩ else none
def qqd:q61 T1 T2 N R n k m g N=some ⟨T1,none,(List.range n).map fun j=>if j < k then .ow (j+R) none 0 m else .vl (.slice none 0 0),false⟩:=if_pos rfl
def qat {j:Nat} (hN:N < R) (hj:j < k):q61 T1 T2 N R n k m g (j+R)=some ⟨T2,none,(List.range m).map fun c=>.vl (.int .u64 (g j c:Nat)),false⟩:=by
 unfold q61;rw [if_neg (by omega),if_pos (by omega),Nat.add_sub_cancel]
attribute [go_sem ↓] qqd qat
def q3x {i:Nat} {b:Bk} (hb:q61 T1 T2 N R n k m g i=some b):(i=N∧b=⟨T1,none,(List.range n).map fun j=>if j < k then .ow (j+R) none 0 m else .vl (.slice none 0 0),false⟩)∨(R≤i∧i < R+k∧b=⟨T2,none,(List.range m).map fun c=>.vl (.int .u64 (g (i-R) c:Nat)),false⟩):=by
 unfold q61 at hb
 split at hb
 ·cases hb; exact .inl ⟨‹_›,rfl⟩
 ·split at hb
  ·rename_i hi; cases hb; exact .inr ⟨hi.1,hi.2,rfl⟩
  ·cases hb
def idU2 {α:Type} {p:Nat→Prop} {l:List α} {f:α→Nat}:IdL p (l.map fun z=>.vl (.int .u64 (f z:Nat))):=IdL.of fun x hx=>by
 obtain ⟨z,_,rfl⟩:=List.mem_map.1 hx;unfold IdP; trivial
def qha {p:Nat→Prop} (hp:∀ j,j < k→p (j+R)):IdL p ((List.range n).map fun j=>if j < k then .ow (j+R) none 0 m else .vl (.slice none 0 0)):=IdL.of fun x hx=>by
 obtain ⟨z,hz,rfl⟩:=List.mem_map.1 hx
 split
 ·unfold IdP; exact hp z (by assumption)
 ·unfold IdP; trivial
def q2r (hN:5000≤N) (hNR:N < R) (hR:R+k≤1000000):WfH (q61 T1 T2 N R n k m g):=⟨fun i b hb=>by
 rcases q3x hb with ⟨_,rfl⟩ | ⟨h1,h2,rfl⟩
 ·refine ⟨rfl,qha fun j hj=>⟨⟨by omega,by omega⟩,?_⟩⟩;rw [qat hNR hj]; exact Option.some_ne_none _
 ·exact ⟨rfl,idU2⟩⟩
def qkr (g:Nat→Nat→Nat) (r c v:Nat):Nat→Nat→Nat:=fun x y=>if x=r∧y=c then v else g x y
def qhu {f:Nat→Nat} {c v:Nat}:((List.range m).map fun y=>PV.vl (.int .u64 (f y:Nat))).set c (.vl (.int .u64 (v:Nat)))=(List.range m).map fun y=>PV.vl (.int .u64 (if y=c then v else f y:Nat)):=by
 apply List.ext_getElem?
 intro i;rw [List.getElem?_set];simp only [List.length_map,List.length_range,List.getElem?_map]
 by_cases hi:i < m
 ·rw [List.getElem?_range hi]
  by_cases hc:c=i
  ·subst hc; simp [hi]
  ·simp [hc,Ne.symm hc]
 ·rw [List.getElem?_eq_none (by simpa using hi)]
  by_cases hc:c=i <;> simp [hc]
  omega
def qh8 (hNR:N < R) {r c v:Nat} (hr:r < k):q0R (q61 T1 T2 N R n k m g) (r+R) ⟨T2,none,((List.range m).map fun y=>.vl (.int .u64 (g r y:Nat))).set c (.vl (.int .u64 (v:Nat))),false⟩=q61 T1 T2 N R n k m (qkr g r c v):=by
 funext i
 rw [qhu];unfold q0R
 split
 ·rename_i hi;subst hi;rw [qat hNR hr];simp [qkr]
 ·rename_i hi;unfold q61
  split
  ·rfl
  ·split
   ·congr 2
    refine List.map_congr_left fun y _=>?_;unfold qkr;rw [if_neg (by omega)]
   ·rfl
def tnU (N o:Nat):Nat→Option Nat:=fun i=>if i=N then some o else some i
def qq3 {o i:Nat}:tnU N o i=if i=N then some o else some i:=rfl
attribute [go_sem ↓] qq3
def qh9 {o:Nat} (hJ:∀ i,¬ J i) (ho:h o=some ⟨T1,none,List.replicate n (.vl (.slice none 0 0)),false⟩) (h5:o < 5000) (hN:5000≤N) (hNR:N < R) {xs kv:List (Nat × PV)} {kb:List (Nat × Option Bk)} (hn:nmW o o (kb.map (·.1)))
  (hh:q4u (tnU N o) h (q0w (q61 T1 T2 N R n 0 m g) (hpM [] kb)) s xs∧q4u (tnU N o) h (q0w (q61 T1 T2 N R n 0 m g) (hpM [] kb)) s kv∧q9V (tnU N o) h (q0w (q61 T1 T2 N R n 0 m g) (hpM [] kb)) kb):Le J s h (stM xs kv) (q0w (q61 T1 T2 N R n 0 m g) (hpM [] kb)):=by
 obtain ⟨h1,h2,h4⟩:=hh;have key:∀ i b,q0w (q61 T1 T2 N R n 0 m g) (hpM [] kb) i=some b→i=N∨(i < 5000∧i≠o):=fun i b hb=>by
  by_cases hi:win i
  ·rw [q0a hi] at hb
   rcases q3x hb with ⟨e,_⟩ | ⟨q1,q2,_⟩
   ·exact .inl e
   ·omega
  ·rw [q0t hi] at hb;have:=q3b hn i (q2A h4 i b hb).2;exact .inr ⟨this.1,this.2.1⟩
 refine q2b (tnU N o) (fun i b hb=>?_) (fun i j k' b c hi hj ti tj=>?_) (fun t=>q3I h2 h1 t) fun i hi=>(hJ i hi).elim
 ·by_cases hi:win i
  ·rw [q0a hi] at hb
   rcases q3x hb with ⟨rfl,rfl⟩ | ⟨q1,q2,_⟩
   ·unfold LeB tnU;rw [if_pos rfl];refine ⟨_,ho,rfl,rfl,⟨rfl,rfl⟩,?_⟩;rw [q4j];refine ⟨by simp,fun c x y hx hy=>?_⟩;have hc:c < n:=by have:=(List.getElem?_eq_some_iff.1 hy).1; simpa using this
    rw [List.getElem?_map,List.getElem?_range hc,Option.map_some] at hx hy;cases hx; cases hy;rw [if_neg (by omega)];exact .cl trivial
   ·omega
  ·rw [q0t hi] at hb;exact (q2A h4 i b hb).1
 ·unfold tnU at ti tj
  rcases key i b hi with rfl | ⟨a1,a2⟩ <;> rcases key j c hj with rfl | ⟨b1,b2⟩
  ·rfl
  ·rw [if_pos rfl] at ti; rw [if_neg (by omega)] at tj; cases ti; cases tj; exact (b2 rfl).elim
  ·rw [if_neg (by omega)] at ti; rw [if_pos rfl] at tj; cases ti; cases tj; exact (a2 rfl).elim
  ·rw [if_neg (by omega)] at ti tj; cases ti; cases tj; rfl
def qdt {r:Nat} (hJ:∀ i,¬ J i) (hk:k < n) (ho:h N=some ⟨T1,none,((List.range n).map fun j=>if j < k then .ow (j+R) none 0 m else .vl (.slice none 0 0)).set k (.ow r none 0 m),false⟩) (hr:h r=some ⟨T2,none,(List.range m).map fun c=>.vl (.int .u64 (g k c:Nat)),false⟩)
  (hrow:∀ j,j < k→h (j+R)=some ⟨T2,none,(List.range m).map fun c=>.vl (.int .u64 (g j c:Nat)),false⟩) (h6:r < 5000) (hN:5000≤N) (hNR:N < R) (hR:R+k < 1000000) {xs kv:List (Nat × PV)} {kb:List (Nat × Option Bk)} (hn:nmW r r (kb.map (·.1)))
  (hh:q4u (tnU (k+R) r) h (q0w (q61 T1 T2 N R n (k+1) m g) (hpM [] kb)) s xs∧q4u (tnU (k+R) r) h (q0w (q61 T1 T2 N R n (k+1) m g) (hpM [] kb)) s kv∧q9V (tnU (k+R) r) h (q0w (q61 T1 T2 N R n (k+1) m g) (hpM [] kb)) kb):Le J s h (stM xs kv) (q0w (q61 T1 T2 N R n (k+1) m g) (hpM [] kb)):=by
 obtain ⟨q1,q2,q4⟩:=hh;have tK:tnU (k+R) r (k+R)=some r:=if_pos rfl;have tI:∀ i,i≠k+R→tnU (k+R) r i=some i:=fun i a=>if_neg a;have key:∀ i b,q0w (q61 T1 T2 N R n (k+1) m g) (hpM [] kb) i=some b→i≠r:=fun i b hb=>by
  by_cases hi:win i
  ·unfold win at hi; omega
  ·rw [q0t hi] at hb;exact (q3b hn i (q2A q4 i b hb).2).2.1
 refine q2b (tnU (k+R) r) (fun i b hb=>?_) (fun i j k' b c hi hj ti tj=>?_) (fun t=>q3I q2 q1 t) fun i hi=>(hJ i hi).elim
 ·by_cases hi:win i
  ·rw [q0a hi] at hb
   rcases q3x hb with ⟨rfl,rfl⟩ | ⟨a1,a2,rfl⟩
   ·unfold LeB;rw [tI i (by omega)];refine ⟨_,ho,rfl,rfl,⟨rfl,rfl⟩,by simp,fun c x y hx hy=>?_⟩;have hc:c < n:=by have:=(List.getElem?_eq_some_iff.1 hy).1; simpa using this
    rw [List.getElem?_map,List.getElem?_range hc,Option.map_some] at hy;cases hy;rw [List.getElem?_set] at hx;have hex:c < k+1→∃ b,q0w (q61 T1 T2 i R n (k+1) m g) (hpM [] kb) (c+R)=some b:=fun h=>⟨_,by rw [q0a ⟨by omega,by omega⟩,qat hNR h]⟩
    by_cases hck:k=c
    ·subst hck;rw [if_pos rfl,if_pos (by simpa using hc)] at hx;cases hx;obtain ⟨bb,hbb⟩:=hex Oq;rw [if_pos (by omega)];exact .ow tK hbb
    ·rw [if_neg hck,List.getElem?_map,List.getElem?_range hc,Option.map_some] at hx;cases hx
     by_cases hlt:c < k
     ·obtain ⟨bb,hbb⟩:=hex Oq;rw [if_pos hlt,if_pos (by omega)];exact .ow (tI _ Oq) hbb
     ·rw [if_neg hlt,if_neg (by omega)];exact .cl trivial
   ·by_cases e:i=k+R
    ·subst e;unfold LeB;rw [tK,Nat.add_sub_cancel];exact ⟨_,hr,rfl,rfl,⟨rfl,rfl⟩,LeL_self (p:=fun _=>False) (fun _ h=>h.elim) _ idU2⟩
    ·unfold LeB;rw [tI i e];have:=hrow (i-R) Oq;rw [Nat.sub_add_cancel a1] at this;exact ⟨_,this,rfl,rfl,⟨rfl,rfl⟩,LeL_self (p:=fun _=>False) (fun _ h=>h.elim) _ idU2⟩
  ·rw [q0t hi] at hb;exact (q2A q4 i b hb).1
 ·have a1:=key i b hi;have a2:=key j c hj;unfold tnU at ti tj
  split at ti <;> split at tj <;> cases ti <;> cases tj <;> first | omega | rfl | exact (a1 rfl).elim | exact (a2 rfl).elim
end
end Go.E
namespace Go.Proofs.YtbcmhlhgljoolaaGreatDoor
open Go Go.E Go.Sp
def lcS (F:Nat→Nat→Option Nat) (l:List Int) (g:Nat→Nat→Nat) (i j:Nat):Nat→List Int
 | 0=>[ofZ ((F (min (lfN l i) (lfN l j)) (max (lfN l i) (lfN l j))).getD 0)]
 | m+1=>lcS F l g i j m ++ [-(q1M (g m i) (g m j))]
open Classical in
noncomputable def lcV (d:Int) (g:Nat→Nat→Nat) (i j:Nat):Option Nat :=
 if i=j then (if 0 < d∧¬ (q4D d=0∨q4D d=9223372036854775808)∧q0J (q4D d) then some (q4D d) else none)
 else (if q0J (qeu 0 d (ofZ (g j j))) then some (qeu 0 d (ofZ (g j j))) else none)
abbrev LSt:=(Nat→Nat→Nat) × List Int × List Nat
noncomputable def lcC (F:Nat→Nat→Option Nat) (l:List Int) (cs:List Nat) (j:Nat) (p:LSt):Nat→Option LSt
 | 0=>some p
 | c+1=>(lcC F l cs j p c).bind fun q=>(lcV (q0o (lcS F l q.1 (cs.getD c 0) j j)) q.1 (cs.getD c 0) j).map fun v=>(qkr q.1 j (cs.getD c 0) v,q.2.1 ++ [(cs.getD c 0:Int)],q.2.2 ++ [v])
noncomputable def lcM (F:Nat→Nat→Option Nat) (l:List Int) (cols:List (List Nat)):Nat→Option (List Int × LSt)
 | 0=>some ([0],fun _ _=>0,[],[])
 | j+1=>(lcM F l cols j).bind fun q=>(lcC F l (cols.getD j []) j q.2 (cols.getD j []).length).map fun r=>(q.1 ++ [(r.2.1.length:Int)],r)
noncomputable def q6E (F:Nat→Nat→Option Nat) (l:List Int) (cols:List (List Nat)) (n:Nat):List Int × List Int × List Int × List Nat :=
 match lcM F l cols n with
 | some q=>(l,q.1,q.2.2.1,q.2.2.2)
 | none=>([],[],[],[])
def q1L (f:List Int × List Int × List Int × List Nat):PV:=.ag [pI f.1,pI f.2.1,pI f.2.2.1,pF f.2.2.2]
section
variable {F:Nat→Nat→Option Nat} {l:List Int} {cs:List Nat} {cols:List (List Nat)} {j n:Nat} {p:LSt}
def qba {c:Nat} (h:lcC F l cs j p c=none):∀ c',c≤c'→lcC F l cs j p c'=none
 | 0,hc=>by
  obtain rfl:c=0:=by omega
  exact h
 | c'+1,hc=>by
  by_cases e:c=c'+1
  ·subst e; exact h
  ·rw [lcC,qba h c' (by omega)]; rfl
def qb9 {a:Nat} (h:lcM F l cols a=none):∀ b,a≤b→lcM F l cols b=none
 | 0,hb=>by
  obtain rfl:a=0:=by omega
  exact h
 | b+1,hb=>by
  by_cases e:a=b+1
  ·subst e; exact h
  ·rw [lcM,qb9 h b (by omega)]; rfl
structure LGd (n:Nat) (q:LSt):Prop where
 fin:∀ r c,q0J (q.1 r c)∧q.1 r c < 18446744073709551616
 len:q.2.1.length=q.2.2.length
def qiW {d:Int} {g:Nat→Nat→Nat} {i v:Nat} (h:lcV d g i j=some v):q0J v∧v < 18446744073709551616:=by
 unfold lcV at h
 split at h
 ·split at h
  ·rename_i hc; cases h; exact ⟨hc.2.2,qbM⟩
  ·cases h
 ·split at h
  ·cases h; exact ⟨by assumption,qet⟩
  ·cases h
def LGd.step {q:LSt} (h:LGd n q) {r c v:Nat} (hv:q0J v∧v < 18446744073709551616) {x:Int}:LGd n (qkr q.1 r c v,q.2.1 ++ [x],q.2.2 ++ [v]):=by
 refine ⟨fun r' c'=>?_,by simp [h.len]⟩;unfold qkr;simp only
 split
 ·exact hv
 ·exact h.fin r' c'
def lcC_s {c:Nat} {q:LSt} (h:lcC F l cs j p c=some q):lcC F l cs j p (c+1)=(lcV (q0o (lcS F l q.1 (cs.getD c 0) j j)) q.1 (cs.getD c 0) j).map fun v=>(qkr q.1 j (cs.getD c 0) v,q.2.1 ++ [(cs.getD c 0:Int)],q.2.2 ++ [v]):=by rw [lcC,h]; rfl
def lcM_s {q:List Int × LSt} (h:lcM F l cols j=some q):lcM F l cols (j+1)=(lcC F l (cols.getD j []) j q.2 (cols.getD j []).length).map fun r=>(q.1 ++ [(r.2.1.length:Int)],r):=by rw [lcM,h]; rfl
def qcu {a:Nat} (h:lcM F l cols a=none) (ha:a≤n):q6E F l cols n=([],[],[],[]):=by
 unfold q6E;rw [qb9 h n ha]
def qfV {g:Nat→Nat→Nat} {i:Nat}:∀ m,(lcS F l g i j m).length=m+1
 | 0=>rfl
 | m+1=>by rw [lcS,List.length_append,qfV m]; rfl
def qkv {g:Nat→Nat→Nat} {i:Nat} (hg:∀ r c,q0J (g r c)∧g r c < 18446744073709551616) (hF:q0J ((F (min (lfN l i) (lfN l j)) (max (lfN l i) (lfN l j))).getD 0)):∀ m,∀ x ∈ lcS F l g i j m,bl x.natAbs≤67600
 | 0,x,hx=>by unfold lcS at hx; simp at hx; subst hx; exact q4F hF
 | m+1,x,hx=>by
  unfold lcS at hx
  rcases List.mem_append.1 hx with hx | hx
  ·exact qkv hg hF m x hx
  ·simp at hx; subst hx;rw [Int.natAbs_neg];exact (q04 (hg m i).1 (hg m j).1).2
end
end Go.Proofs.YtbcmhlhgljoolaaGreatDoor
