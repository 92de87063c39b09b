/- SolveReach: the positions of Sparse are those of Reach and its values those of Lower. Part 6 of 6: W2, W3, W4, W5, W6, X1, X2, X3, Lr, Ew, Er, ErC. -/
import Derived.Deep.Grids
import Derived.SevenTiedAt
import Derived.Test.YtbcmhlhgljoolaaGreatDoorCards
import Derived.Test.YtbcmhlhgljoolaaGreatDoorTie
import Derived.Test.YtbcmhlhgljoolaaGreatDoorPr5
set_option linter.unusedSimpArgs false
set_option linter.unusedVariables false
set_option maxRecDepth 20000
set_option maxHeartbeats 2000000
namespace Go.Proofs.YtbcmhlhgljoolaaGreatDoor
open Go Go.E Go.Sp
def AscE (ix:List Int) (n i:Nat) (x:Int):Prop:=0≤x∧x < n∧(0 < i→∀ y,ix[i-1]?=some y→y < x)
def qpC (ix:List Int) (n:Nat):Prop:=∀ i x,ix[i]?=some x→AscE ix n i x
open Classical in
theorem qlb {ix:List Int} {n:Nat} (hl:ix.length≤1000000) (hn:n≤1000000):ACt 45 [pI ix,iv n] (bv (decide (qpC ix n))):=by
 obtain ⟨res,hres⟩:∃ res:Bool,res=decide (qpC ix n):=⟨_,rfl⟩;rw [← hres];refine ac0 Tryz.func45 Tryz.ntmps45 [.tmp 4] ?_;refine wk ?_;refine q0K (fun i=>i≤ix.length∧∀ j x,j < i→ix[j]?=some x→AscE ix n j x) [0,1,7,8] [] Lk Lk (fun i:Nat=>[(9,iv i)]) (fun _=>[]) (fun i=>ix.length-i) 0 ⟨Nat.zero_le _,by omega⟩ ?_ ?_
 ·refine LeM [] rfl rfl ?_;refine Zz ?_
  rfl
 ·rintro i ⟨hi,hr⟩
  by_cases hlt:i < ix.length
  ·obtain ⟨x,hx⟩:∃ x,ix[i]?=some x:=⟨_,List.getElem?_eq_getElem hlt⟩;have nx:AscE ix n i x→∀ j y,j < i+1→ix[j]?=some y→AscE ix n j y:=fun h j y hj hy=>by
    by_cases hji:j=i
    ·subst hji; rw [hx] at hy; cases hy; exact h
    ·exact hr j y (by omega) hy
   by_cases h1:x < 0
   ·refine wk1 (x2 hx h1) ?_;exact (hres.trans (decide_eq_false fun h=>by have:=(h i x hx).1; omega)).symm
   by_cases h2:(n:Int)≤x
   ·refine wk1 (x3 hx h1 h2) ?_;exact (hres.trans (decide_eq_false fun h=>by have:=(h i x hx).2.1; omega)).symm
   rcases Nat.eq_zero_or_pos i with h0 | h0
   ·have h3:¬ (i:Int) > 0:=by omega
    refine wk1 (x4 hx h1 h2 h3) ?_;refine ⟨i+1,⟨by omega,nx ⟨by omega,by omega,by omega⟩⟩,by omega,?_⟩;refine LeM [] rfl rfl ?_;refine Zz ?_;omega
   ·have h3:(i:Int) > 0:=by omega
    have wi:IntKind.i64.wrap ((i:Int)-1)=((i-1:Nat):Int):=by rw [i64_in (by omega) (by omega)]; omega
    obtain ⟨y,hy⟩:∃ y,ix[i-1]?=some y:=⟨_,List.getElem?_eq_getElem (by omega)⟩
    by_cases h4:x≤y
    ·refine wk1 (x6 hx h1 h2 h3 wi (x2 hy h4)) ?_;exact (hres.trans (decide_eq_false fun h=>by have:=(h i x hx).2.2 h0 y hy; omega)).symm
    ·refine wk1 (x6 hx h1 h2 h3 wi (x2 hy h4)) ?_;refine ⟨i+1,⟨by omega,nx ⟨by omega,by omega,fun _ z hz=>by rw [hy] at hz; cases hz; omega⟩⟩,by omega,?_⟩;refine LeM [] rfl rfl ?_;refine Zz ?_;omega
  ·obtain rfl:i=ix.length:=by omega
   refine wk ?_;exact (hres.trans (decide_eq_true fun j x hx=>hr j x (List.getElem?_eq_some_iff.1 hx).1 hx)).symm
structure ColL (l:List Int) (j n:Nat):Prop where
 f:l[0]?=some (j:Int)
 e:∀ (i:Nat) (x:Int),l[i]?=some x→x < (n:Int)∧(0 < i→∀ y:Int,l[i-1]?=some y→y < x)
theorem qla {l:List Int} {j n:Nat} (hl:l.length≤1000000) (hc:ColL l j n):ACt 118 [pI l,iv j,iv n] (bv true):=by
 have hlp:=(List.getElem?_eq_some_iff.1 hc.f).1;have q1:((l.length:Int) == 0)=false:=beq_eq_false_iff_ne.2 (by omega);have q2:((j:Int) != (j:Int))=false:=by simp
 have hf:=hc.f;refine ac0 Tryz.func118 Tryz.ntmps118 [.tmp 6] ?_;refine wk1 (x3 q1 hf q2) ?_;refine q0K (fun i=>i≤l.length) [0,2,19,20] [] Lk Lk (fun i:Nat=>[(21,iv i)]) (fun _=>[]) (fun i=>l.length-i) 0 (Nat.zero_le _) ?_ ?_
 ·refine LeM [] rfl rfl ?_;refine Zz ?_
  rfl
 ·intro i hi
  by_cases hlt:i < l.length
  ·obtain ⟨x,hx⟩:∃ x,l[i]?=some x:=⟨_,List.getElem?_eq_getElem hlt⟩;obtain ⟨g1,g2⟩:=hc.e i x hx;have h2:¬ (n:Int)≤x:=by omega
   rcases Nat.eq_zero_or_pos i with h0 | h0
   ·have h3:¬ (i:Int) > 0:=by omega
    refine wk1 (x3 hx h2 h3) ?_;refine ⟨i+1,by omega,by omega,?_⟩;refine LeM [] rfl rfl ?_;refine Zz ?_;omega
   ·have h3:(i:Int) > 0:=by omega
    have wi:IntKind.i64.wrap ((i:Int)-1)=((i-1:Nat):Int):=by rw [i64_in (by omega) (by omega)]; omega
    obtain ⟨y,hy⟩:∃ y,l[i-1]?=some y:=⟨_,List.getElem?_eq_getElem (by omega)⟩;have h4:¬ x≤y:=by have:=g2 h0 y hy; omega
    refine wk1 (x6 hx h2 h3 wi hy h4) ?_;refine ⟨i+1,by omega,by omega,?_⟩;refine LeM [] rfl rfl ?_;refine Zz ?_;omega
  ·exact wk trivial
theorem qhQ {l:List Int} (hn:l.length≤1000000):ACt 18 [pI l,pI l] (bv true):=by
 have q:((l.length:Int) != (l.length:Int))=false:=by simp
 refine ac0 Tryz.func18 Tryz.ntmps18 [.tmp 4] ?_;refine wk1 q ?_;refine q0K (fun i=>i≤l.length) [0,1] [] Lk Lk (fun i:Nat=>[(5,iv i)]) (fun _=>[]) (fun i=>l.length-i) 0 (Nat.zero_le _) ?_ ?_
 ·refine LeM [] rfl rfl ?_;refine Zz ?_
  rfl
 ·intro i hi
  by_cases hil:i < l.length
  ·obtain ⟨x,hx⟩:∃ x,l[i]?=some x:=⟨_,List.getElem?_eq_getElem hil⟩;have q2:(x != x)=false:=by simp
   refine wk1 (x2 hx q2) ?_;refine ⟨i+1,by omega,by omega,?_⟩;refine LeM [] rfl rfl ?_;refine Zz ?_
   rfl
  ·exact wk trivial
theorem qfG {D:Nat→Prop} {l:List Int} {A:Option Addr} {n c:Nat} {w:World} (h:In (fSc q1N l) D (.slice A n c) w) (hb:n≤1000000000) (hf:Fr D w):Calls Tryz.prog 47 #[.slice A n c] w (Rt (fSc q1N l) D w):=by
 have hln:=h.sc_len;refine q0H Tryz.func47 rfl Tryz.ntmps47 (by kernel_rfl) ?_;refine Wz ?_;refine q0B fun K1 hK1=>?_;refine q0A fun K hK=>?_;refine Zz ?_;refine hK _ _ ?_; clear hK;cases A with
 | none =>
  have hl:l=[]:=by
   rcases Nat.eq_zero_or_pos l.length with h0 | h0
   ·exact List.eq_nil_of_length_eq_zero h0
   ·obtain ⟨ad,h1,_⟩:=h.sc_get (i:=0) h0; cases h1
  subst hl;refine Wt ?_;refine Wz ?_;refine q0L ?_
  try simp only [q0D,q0N]
  refine q0k rfl ⟨_,rfl,Kp.refl _ _,In.sc_nil⟩
 | some ad =>
  refine Wf (q0G (hK1 _ _ ?_));clear hK1;refine q0A fun K hK=>?_;refine Zz ?_;refine q1P fun w1 hx1 hb1 hs1=>?_;have hO:Own w1 w.heap.size 3 1 (some ⟨w.heap.size,0,none⟩) 0 0 []:=by
   have:=Own.made (w:=w1) (w':=w) (B:=w.heap.size) (sz:=1) (n:=0) (c:=0) hb1 (Nat.le_refl _) (by simp [maxLen]) rfl (Nat.le_refl _);simpa using this
  obtain ⟨_,_,_,e,hR1⟩:=h.ext hx1;cases e;refine q1i (xs:=[]) q5l rfl (by omega) hO hR1 (fun u hu=>by
   obtain ⟨d,_,rfl⟩:=List.mem_map.1 hu; rfl) (by omega) hx1.size fun A' c' w' ho hk hat=>?_
  rw [Nat.zero_add,List.nil_append] at ho;refine hK _ _ ?_; clear hK;refine q0L (q0k rfl ⟨.slice A' n c',by simp [upd],hO.under hx1 hk,qmJ ho fun k hk=>hf k hk⟩)
theorem qiW {l:List Int} (hn:l.length≤1000000):ACt 47 [pI l] (pI l):=q1L (r:=.fm (fSc q1N l)) (fun D w v h=>q8p (f:=q1N) (fun x=>⟨rfl,rfl⟩) (q2p h)) (q5R qsV fun D w vs hT hF hR=>by
 obtain ⟨_,rfl,h3⟩:=q7q hR;obtain ⟨A,n,c,rfl,h6⟩:=q5x (f:=q1N) h3;have:=h6.sc_len;exact qfG h6 (by omega) hF)
def miS (ix:List Int) (n:Nat):Nat→List Bool
 | 0=>List.replicate n false
 | i+1=>(miS ix n i).set (ix.getD i 0).toNat true
theorem q5c {ix:List Int} {n:Nat}:∀ i,(miS ix n i).length=n
 | 0=>List.length_replicate
 | i+1=>by rw [miS,List.length_set,q5c i]
def q5n (f:Fac) (k:Nat):List (List Int):=(List.range k).map fun j=>(f.ri.take (f.cp.getD (j+1) 0).toNat).drop (f.cp.getD j 0).toNat
theorem qkD {f:Fac} {k a b:Nat} (ha:f.cp[k]?=some (a:Int)) (hb:f.cp[k+1]?=some (b:Int)):q5n f (k+1)=q5n f k ++ [(f.ri.take b).drop a]:=by
 unfold q5n;rw [List.range_succ,List.map_append,List.map_singleton,getD_some ha,getD_some hb]
 rfl
theorem q7N {f:Fac} {n k a b:Nat} (hk:k < n) (hc:Col f k a b):(q5n f n)[k]?=some ((f.ri.take b).drop a)∧((f.ri.take b).drop a).length=b-a∧(∀ i,i < b-a→((f.ri.take b).drop a)[i]?=f.ri[a+i]?):=by
 have hle:=hc.le;refine ⟨?_,by rw [List.length_drop,List.length_take]; omega,fun i hi=>q3C (by omega)⟩;unfold q5n;rw [List.getElem?_map,List.getElem?_range hk,Option.map_some,getD_some hc.ha,getD_some hc.hb]
 rfl
theorem Col.colL {f:Fac} {k a b:Nat} (hc:Col f k a b) (hn:f.pm.length≤200) (hk:k < f.pm.length):ColL ((f.ri.take b).drop a) k f.pm.length:=by
 obtain ⟨_,h2,h3⟩:=q7N hk hc;have hlt:=hc.lt;refine ⟨by rw [h3 0 (by omega),Nat.add_zero]; exact hc.first,fun i x hx=>?_⟩;have hi:i < b-a:=by have:=(List.getElem?_eq_some_iff.1 hx).1; omega
 rw [h3 i hi] at hx;refine ⟨?_,fun h0 y hy=>?_⟩
 ·rcases Nat.eq_zero_or_pos i with rfl | h0
  ·rw [Nat.add_zero,hc.first] at hx; cases hx; omega
  ·obtain ⟨i',h4,_,h5⟩:=hc.row hn (p:=a+i) (by omega) (by omega);rw [h4] at hx; cases hx; omega
 ·rw [h3 (i-1) (by omega)] at hy;obtain ⟨y',z',h4,h5,h6⟩:=hc.inc (a+i) (by omega) (by omega);rw [show a+i-1=a+(i-1) by omega,hy] at h4;rw [hx] at h5;cases h4; cases h5; exact h6
theorem qgi {f:Fac} {ix:List Int} {n:Nat} (ho:FacOk f) (hn:n=f.pm.length) (hix:∀ x ∈ ix,0≤x∧x < n) (hl:ix.length≤1000000):ACt 48 [.sl none ((q5n f n).map fun l=>pI l),pI ix] (.tu [pI (rcL f.cp f.ri n 0 (miS ix n ix.length)),iv 0]):=by
 have hn2:=ho.n;have hrb:=ho.rib;have hcl:(q5n f n).length=n:=by simp [q5n]
 have hgt:∀ j,j < n→∃ (a b:Nat) (l:List Int),(q5n f n)[j]?=some l∧ColL l j n∧l.length=b-a∧f.cp[j]?=some (a:Int)∧f.cp[j+1]?=some (b:Int)∧(∀ i,i < b-a→l[i]?=f.ri[a+i]?)∧b-a≤1000000∧∀ (i:Nat) (x:Int),l[i]?=some x→0≤x∧x < (n:Int):=fun j hj=>by
  obtain ⟨a,b,hc⟩:=ho.col j (by omega);obtain ⟨h1,h2,h3⟩:=q7N hj hc;have hle:=hc.le;have hlt:=hc.lt;have hC:=hn ▸ hc.colL hn2 (by omega);refine ⟨a,b,_,h1,hC,h2,hc.ha,hc.hb,h3,by omega,fun i x hx=>⟨?_,(hC.e i x hx).1⟩⟩;have hi:=(List.getElem?_eq_some_iff.1 hx).1;rw [h3 i (by omega)] at hx
  rcases Nat.eq_zero_or_pos i with rfl | h0
  ·rw [Nat.add_zero,hc.first] at hx; cases hx; omega
  ·obtain ⟨i',h4,_,h5⟩:=hc.row hn2 (p:=a+i) (by omega) (by omega);rw [h4] at hx; cases hx; omega
 have hml:=fun i=>q5c (ix:=ix) (n:=n) i;obtain ⟨P,hP⟩:∃ P,P=rcL f.cp f.ri n 0 (miS ix n ix.length):=⟨_,rfl⟩;rw [← hP];have hPl:P.length≤n:=hP ▸ q4R _ _ _;generalize q5n f n=cols at *;have q200:¬ ((n:Int) > 200):=by omega
 refine ac0 Tryz.func48 Tryz.ntmps48 [.tmp 4,.tmp 5] ?_;refine wk1 (x2 hcl q200) ?_;refine q0K (fun j=>j≤n) [0,1,6,21,22] [] Lk Lk (fun j:Nat=>[(23,iv j)]) (fun _=>[]) (fun j=>n-j) 0 (Nat.zero_le _) ?_ ?_
 ·refine LeM [] rfl rfl ?_;refine Zz ?_
  rfl
 ·intro j hj
  by_cases hlt:j < n
  ·obtain ⟨a,b,l,g1,g2,g3,g4,g5,g6,g7,g8⟩:=hgt j hlt;have C1:=qla (by omega) g2;refine wk1 g1 ?_;refine ⟨j+1,by omega,by omega,?_⟩;refine LeM [] rfl rfl ?_;refine Zz ?_;omega
  ·obtain rfl:j=n:=by omega
   refine wk ?_;refine q0K (fun i=>i≤ix.length) [0,6,36,37] [] Lk Lk (fun i:Nat=>[(38,iv i),(9,.ow 1001 none 0 j)]) (fun i=>[(1001,⟨4,none,(miS ix j i).map fun b=>bv b,false⟩)]) (fun i=>ix.length-i) 0 (Nat.zero_le _) ?_ ?_
   ·refine LeM [(1001,some 35)] rfl rfl ?_;refine Zz ?_;simp [miS]
   ·intro i hi
    by_cases hlt2:i < ix.length
    ·obtain ⟨x,hx⟩:∃ x,ix[i]?=some x:=⟨_,List.getElem?_eq_getElem hlt2⟩;obtain ⟨h1,h2⟩:=hix x (List.mem_of_getElem? hx);obtain ⟨x,rfl⟩:∃ y:Nat,x=y:=⟨x.toNat,by omega⟩;have es:miS ix j (i+1)=(miS ix j i).set x true:=by rw [miS,getD_some hx,Int.toNat_natCast]
     have hm:=hml i;obtain ⟨o,hoo⟩:∃ o,(miS ix j i)[x]?=some o:=⟨_,List.getElem?_eq_getElem (by omega)⟩;refine wk1 (x3 hx hm hoo) ?_;refine ⟨i+1,by omega,by omega,?_⟩;refine LeM [] rfl rfl ?_;refine Zz ?_;rw [es];exact ⟨by omega,rfl⟩
    ·obtain rfl:i=ix.length:=by omega
     refine wk ?_;refine q0K (fun q:Nat × List Bool × List Int=>q.1≤j∧q.2.1.length=j∧q.2.2 ++ rcL f.cp f.ri (j-q.1) q.1 q.2.1=P) [53,54] [] Lk Lk (fun q=>[(55,iv q.1),(9,.ow 1001 none 0 j),(12,.ow 1002 none 0 q.2.2.length)]) (fun q=>[(1001,⟨4,none,q.2.1.map fun b=>bv b,false⟩),(1002,⟨3,none,q.2.2.map fun z=>iv z,false⟩)]) (fun q=>j-q.1) (0,miS ix j ix.length,[]) ⟨Nat.zero_le _,hml _,by rw [hP]; rfl⟩ ?_ ?_
     ·refine LeM [(1001,some 1001),(1002,none)] rfl rfl ?_;refine Zz ?_
      rfl
     ·rintro ⟨k,m,out⟩ ⟨hk,hm,hq⟩;simp only at hk hm hq ⊢;have hol:out.length≤j:=by have:=congrArg List.length hq; rw [List.length_append] at this; omega
      by_cases hlt3:k < j
      ·obtain ⟨a,b,l,g1,g2,g3,g4,g5,g6,g7,g8⟩:=hgt k hlt3;obtain ⟨o,hoo⟩:∃ o,m[k]?=some o:=⟨_,List.getElem?_eq_getElem (by omega)⟩;rw [show j-k=(j-(k+1))+1 by omega,rcL,getD_some g4,getD_some g5,getD_some hoo,show ((a:Int)).toNat=a by omega,show ((b:Int)).toNat=b by omega] at hq;cases o with
       | false =>
        rw [if_neg (by simp)] at hq;refine wk1 (x3 g1 hoo hm) ?_;refine ⟨(k+1,m,out),⟨by simp only; omega,hm,hq⟩,by simp only; omega,?_⟩;simp only;refine LeM [] rfl rfl ?_;refine Zz ?_;omega
       | true =>
        rw [if_pos rfl] at hq;have hcO:ClL ((out.map fun z=>iv z) ++ [iv (k:Int)]):=by
         have:=clI (l:=out ++ [(k:Int)])
         rwa [List.map_append] at this
        refine wk1 (x3 g1 hoo hm) ?_;refine q0K (fun i=>i≤l.length) [12,53,54,55,69,70] [68] Lk Lk (fun i:Nat=>[(71,iv i),(9,.ow 1001 none 0 j)]) (fun i=>[(1001,⟨4,none,(rcC f.ri a i m).map fun b=>bv b,false⟩)]) (fun i=>l.length-i) 0 (Nat.zero_le _) ?_ ?_
        ·refine LeM [] rfl rfl ?_;refine Zz ?_;exact ⟨rfl,rfl,q0q rfl hcO⟩
        ·intro i hi;have hml2:=q4S (ri:=f.ri) i a m
         by_cases hlt4:i < l.length
         ·obtain ⟨x,hx⟩:∃ x,l[i]?=some x:=⟨_,List.getElem?_eq_getElem hlt4⟩;obtain ⟨h1,h2⟩:=g8 i x hx;obtain ⟨x,rfl⟩:∃ y:Nat,x=y:=⟨x.toNat,by omega⟩;have es:rcC f.ri a (i+1) m=(rcC f.ri a i m).set x true:=by rw [qlm,getD_some (by rw [← g6 i (by omega)]; exact hx),Int.toNat_natCast]
          obtain ⟨o2,ho2⟩:∃ o,(rcC f.ri a i m)[x]?=some o:=⟨_,List.getElem?_eq_getElem (by omega)⟩;refine wk1 (x4 hx ho2 hml2 hm) ?_;refine ⟨i+1,by omega,by omega,?_⟩;refine LeM [] rfl rfl ?_;refine Zz ?_;exact ⟨by omega,es.symm,q0q rfl hcO⟩
         ·obtain rfl:i=l.length:=by omega
          refine wk ?_;refine ⟨(k+1,rcC f.ri a (b-a) m,out ++ [(k:Int)]),⟨by simp only; omega,by simp only; rw [q4S]; exact hm,by simp only; rw [List.append_assoc]; exact hq⟩,by simp only; omega,?_⟩;simp only;refine LeM [(1002,some 68)] rfl rfl ?_;refine Zz ?_;exact ⟨by omega,by rw [g3]⟩
      ·obtain rfl:k=j:=by omega
       rw [Nat.sub_self,rcL,List.append_nil] at hq;subst hq;exact wk trivial
def spQ (P:List Int):Option (List Nat)→List Int × List Nat × Int
 | none=>([],[],233)
 | some y=>(P,P.map fun k=>y.getD k.toNat 0,0)
open Classical in
noncomputable def spE (F:List Int × List Int × List Int × List Nat) (ix:List Int) (vl:List Nat):List Int × List Nat × Int :=
 if q4P F≠0 then ([],[],q4P F) else if ix.length≠vl.length then ([],[],2) else if ¬ qpC ix F.1.length then ([],[],232) else if ¬ ∀ x ∈ vl,q0f x then ([],[],4) else
  spQ (rcL F.2.1 F.2.2.1 F.1.length 0 (miS ix F.1.length ix.length)) (loF (qfA ⟨F.1,F.2.1,F.2.2.1,F.2.2.2⟩ F.1.length F.1.length) (scS vl ix F.1.length ix.length) F.1.length 0 (List.replicate F.1.length 0))
def spR (q:List Int × List Nat × Int):PV:=.tu [pI q.1,pF q.2.1,iv q.2.2]
theorem qqs {ix:List Int} {vl:List Nat} {n i:Nat}:∀ k,(miS ix n k).getD i false=false→(scS vl ix n k).getD i 0=0
 | 0,_=>by
  rw [scS,List.getD_eq_getElem?_getD,List.getElem?_replicate]
  split <;> rfl
 | k+1,h=>by
  rw [miS,q07,q5c] at h;rw [scS,q07,q6i]
  split
  ·rename_i e; rw [if_pos e] at h; cases h
  ·rename_i e; rw [if_neg e] at h; exact qqs k h
theorem qcy {ix:List Int} {vl:List Nat} {n:Nat} (hv:q77 vl):∀ k,q77 (scS vl ix n k)
 | 0=>qhx
 | k+1=>by
  obtain ⟨h1,h2⟩:=qaZ hv k;exact qhw (qcy hv k) h1 h2
theorem qrM {f:Fac} {ix:List Int} {vl:List Nat} {n:Nat} (ho:FacOk f) (hn:n=f.pm.length):q48 f (rcL f.cp f.ri n 0 (miS ix n ix.length)) ((scS vl ix n ix.length).map fun x=>[ofZ x]) (List.replicate n 0)=loF (qfA f n n) (scS vl ix n ix.length) n 0 (List.replicate n 0):=by
 have hl:=q6i (x:=vl) (o:=ix) (n:=n) ix.length;rw [q5i ho n 0 _ _ _ (by omega) (by rw [q5c]; exact hn) (by rw [List.length_map,hl]; exact hn) (fun i _ hi=>?_) fun i _=>?_]
 ·have h1:frm n 0=q6F n:=by have:=qeR n 0; rwa [Nat.zero_add] at this
  have h2:=qjn (b:=scS vl ix n ix.length) ho (by rw [hl]; exact hn);rw [hl,← hn] at h2;rw [h1]; exact h2
 ·have h:=qqs (vl:=vl) _ hi;rw [List.getD_eq_getElem?_getD,List.getElem?_map];rw [List.getD_eq_getElem?_getD] at h;cases hx:(scS vl ix n ix.length)[i]? with
  | none=>rfl
  | some u =>
   rw [hx] at h;have h:u=0:=h;rw [h]
   show q1b [ofZ 0]=0
   rw [q0m q5I]; rfl
 ·rw [List.getD_eq_getElem?_getD,List.getElem?_replicate]
  split <;> rfl
theorem qkE {l:List (List Int)}:ClL (l.map fun r=>pI r):=fun x hx=>by
 obtain ⟨z,_,rfl⟩:=List.mem_map.1 hx
 trivial
section
variable {pm cp ri ix:List Int} {vs vl:List Nat}
open Classical in
theorem qbW (hp:pm.length≤1000000) (hc:cp.length≤1000000) (hr:ri.length≤1000000) (hv:vs.length≤1000000) (hu:∀ x ∈ vs,x < 18446744073709551616) (hul:∀ x ∈ vl,x < 18446744073709551616) (hix:ix.length≤1000000) (hvl:vl.length≤1000000) :
  ACt 14 [q4M (pm,cp,ri,vs),pI ix,pF vl] (spR (spE (pm,cp,ri,vs) ix vl)):=by
 have cC:=q7O hp hc hr hv hu;have cA:=qlb (ix:=ix) (n:=pm.length) hix (by omega);have cN:=q6L hul hvl;unfold spE spR;dsimp only
 by_cases h1:q4P (pm,cp,ri,vs)=0
 case neg =>
  rw [if_pos h1];generalize q4P (pm,cp,ri,vs)=e at *;have q:(e != 0)=true:=by simpa using h1
  unfold q4M at *;dsimp only at *;refine ac0 Tryz.func14 Tryz.ntmps14 [.tmp 6,.tmp 7,.tmp 8] ?_;exact wk1 q trivial
 rw [if_neg (not_not_intro h1)];rw [h1] at cC
 by_cases h2:ix.length=vl.length
 case neg =>
  rw [if_pos h2];have q:((ix.length:Int) != (vl.length:Int))=true:=by simp; omega
  unfold q4M at *;dsimp only at *;refine ac0 Tryz.func14 Tryz.ntmps14 [.tmp 6,.tmp 7,.tmp 8] ?_;exact wk1 q trivial
 rw [if_neg (not_not_intro h2)];have q2:((ix.length:Int) != (vl.length:Int))=false:=by simp; omega
 by_cases h3:qpC ix pm.length
 case neg =>
  rw [if_pos h3];rw [decide_eq_false h3] at cA;unfold q4M at *;dsimp only at *;refine ac0 Tryz.func14 Tryz.ntmps14 [.tmp 6,.tmp 7,.tmp 8] ?_;exact wk1 q2 trivial
 rw [if_neg (not_not_intro h3)];rw [decide_eq_true h3] at cA
 by_cases h4:∀ x ∈ vl,q0f x
 case neg =>
  rw [if_pos h4];rw [if_pos h4] at cN;unfold q4M at *;dsimp only at *;refine ac0 Tryz.func14 Tryz.ntmps14 [.tmp 6,.tmp 7,.tmp 8] ?_;exact wk1 q2 trivial
 rw [if_neg (not_not_intro h4)];rw [if_neg (not_not_intro h4)] at cN;have ho:=q5O h1 hr hu;have hn:=ho.n;have hrb:=ho.rib;have hcpl:=ho.cpl;dsimp only at hn hrb hcpl;have hfv:q77 vl:=fun x hx=>⟨hul x hx,h4 x hx⟩;have hxb:∀ x ∈ ix,0≤x∧x < pm.length:=fun x hx=>by
  obtain ⟨i,hi⟩:=List.mem_iff_getElem?.1 hx;have:=h3 i x hi;exact ⟨this.1,this.2.1⟩
 have cR:=qgi (ix:=ix) (n:=pm.length) ho rfl hxb hix;have hfw:=qrM (ix:=ix) (vl:=vl) (n:=pm.length) ho rfl;have hPm:=q6m (cp:=cp) (ri:=ri) pm.length 0 (miS ix pm.length ix.length);have hPl:=q4R (cp:=cp) (ri:=ri) pm.length 0 (miS ix pm.length ix.length);have hbl:=fun k=>q6i (x:=vl) (o:=ix) (n:=pm.length) k;have hbf:=qcy (ix:=ix) (n:=pm.length) hfv ix.length;have hgt:∀ j,j < pm.length→∃ a b:Nat,cp[j]?=some (a:Int)∧cp[j+1]?=some (b:Int)∧a < b∧b≤ri.length:=fun j hj=>by
  obtain ⟨a,b,hc⟩:=ho.col j hj;exact ⟨a,b,hc.ha,hc.hb,hc.lt,hc.le⟩
 dsimp only at cR hfw;obtain ⟨P,hP⟩:∃ P,P=rcL cp ri pm.length 0 (miS ix pm.length ix.length):=⟨_,rfl⟩;rw [← hP] at cR hfw hPm hPl ⊢;have cW:=qjo (f:=(pm,cp,ri,vs)) (ps:=P) (l:=scS vl ix pm.length ix.length) ho hbf (hbl _) (fun x hx=>by have:=hPm x hx; rw [hbl]; omega) (by omega);dsimp only at cW;rw [hbl,hfw] at cW;have hcF:=fun k a b ha hb=>qkD (f:=⟨pm,cp,ri,vs⟩) (k:=k) (a:=a) (b:=b) ha hb;have hcF0:q5n ⟨pm,cp,ri,vs⟩ 0=[]:=rfl;have hcFl:∀ k,(q5n ⟨pm,cp,ri,vs⟩ k).length=k:=fun k=>by simp [q5n]
 generalize q5n ⟨pm,cp,ri,vs⟩=cF at *;have hyl:∀ y,loF (qfA ⟨pm,cp,ri,vs⟩ pm.length pm.length) (scS vl ix pm.length ix.length) pm.length 0 (List.replicate pm.length 0)=some y→y.length=pm.length:=fun y hy=>by rw [q9C _ _ _ _ hy,List.length_replicate]
 generalize loF (qfA ⟨pm,cp,ri,vs⟩ pm.length pm.length) (scS vl ix pm.length ix.length) pm.length 0 (List.replicate pm.length 0)=R at *;obtain ⟨r1,r2,r3,hres⟩:∃ (r1:List Int) (r2:List Nat) (r3:Int),spQ P R=(r1,r2,r3):=⟨_,_,_,rfl⟩;rw [hres];clear hP;unfold q4M at *;dsimp only at *;refine ac0 Tryz.func14 Tryz.ntmps14 [.tmp 6,.tmp 7,.tmp 8] ?_;refine wk1 q2 ?_;refine q0K (fun i=>i≤ix.length) [1,2,3,10,48,49] [3] Lk Lk (fun i:Nat=>[(50,iv i),(11,.ow 1001 none 0 pm.length)]) (fun i=>[(1001,⟨30,none,(scS vl ix pm.length i).map fun z:Nat=>uv z,false⟩)]) (fun i=>ix.length-i) 0 (Nat.zero_le _) ?_ ?_
 ·refine LeM [(1001,some 47)] rfl rfl ?_;refine Zz ?_;simp [scS]
 ·intro i hi
  by_cases hlt:i < ix.length
  ·obtain ⟨x,hx⟩:∃ x,ix[i]?=some x:=⟨_,List.getElem?_eq_getElem hlt⟩;obtain ⟨g1,g2⟩:=hxb x (List.mem_of_getElem? hx);obtain ⟨x,rfl⟩:∃ y:Nat,x=y:=⟨x.toNat,by omega⟩;obtain ⟨u,hu'⟩:∃ u,vl[i]?=some u:=⟨_,List.getElem?_eq_getElem (by omega)⟩;have es:scS vl ix pm.length (i+1)=(scS vl ix pm.length i).set x u:=by rw [scS,getD_some hx,Int.toNat_natCast,getD_some hu']
   have hbi:=hbl i;refine wk1 (x3 hx hu' hbi) ?_;refine ⟨i+1,by omega,by omega,?_⟩;refine LeM [] rfl rfl ?_;refine Zz ?_;exact ⟨by omega,es.symm⟩
  ·obtain rfl:i=ix.length:=by omega
   refine wk ?_;refine q0K (fun k=>k≤pm.length) [1,3,10,11,63] [3,1001] Lk Lk (fun k:Nat=>[(64,iv k),(14,.ow 1002 none 0 k)]) (fun k=>[(1002,⟨24,none,(cF k).map fun l=>pI l,false⟩)]) (fun k=>pm.length-k) 0 (Nat.zero_le _) ?_ ?_
   ·refine LeM [(1002,none)] rfl rfl ?_;refine Zz ?_;rw [hcF0];exact ⟨rfl,rfl⟩
   ·intro k hk;have hck:=hcFl k
    by_cases hltk:k < pm.length
    ·obtain ⟨a,b,g1,g2,g3,g4⟩:=hgt k hltk;have es:slP (some 1) (some (iv (a:Int))) (some (iv (b:Int))) (pI ri)=some (pI ((ri.take b).drop a)):=by
      simp [slP,qfx,ksz,List.map_take,List.map_drop];omega
     have cK:=qiW (l:=(ri.take b).drop a) (by rw [List.length_drop,List.length_take]; omega);have wj:(k:Int)+1=((k+1:Nat):Int):=rfl;have ww:IntKind.i64.wrap ((k+1:Nat):Int)=((k+1:Nat):Int):=i64_in (by omega) (by omega);refine wk1 (x6 g1 g2 es wj ww hck) ?_;refine ⟨k+1,by omega,by omega,?_⟩;rw [hcF k a b g1 g2,List.map_append];refine LeM [(1002,some 84)] rfl rfl ?_;refine Zz ?_;exact q71 (q0q rfl qkE) (q0q rfl (qkE (l:=[_])))
    ·obtain rfl:k=pm.length:=by omega
     refine wk ?_;refine q5v (LeM [] rfl rfl (xs:=[(1,pI ix),(3,.pt 3 0 0),(11,pF (scS vl ix pm.length ix.length)),(14,.sl none ((cF pm.length).map fun l=>pI l))]) (kv:=[]) (bs:=[(3,⟨27,some 4,[.ag [pI pm,pI cp,pI ri,pF vs]],false⟩)]) (kb:=[]) ?_) ?_
     ·try refine Zz ?_
      refine ⟨q3Q (T:=30) (l:=(scS vl ix pm.length ix.length).map fun z:Nat=>uv z) ?_ clU (fun i hi=>?_) ?_,q3Q (T:=24) (l:=(cF pm.length).map fun l=>pI l) ?_ qkE (fun i hi=>?_) ?_⟩
      ·try simp -implicitDefEqProofs (disch:=omega) only [go_sem,Nat.reduceEqDiff,Nat.reduceAdd,↓reduceIte]
      ·have hi:some i=some 1001:=hi;cases hi
       rfl
      ·rw [List.drop_zero]; exact List.take_of_length_le (by rw [List.length_map,hbl]; exact Nat.le_refl _)
      ·try simp -implicitDefEqProofs (disch:=omega) only [go_sem,Nat.reduceEqDiff,Nat.reduceAdd,↓reduceIte]
      ·have hi:some i=some 1002:=hi;cases hi
       rfl
      ·rw [List.drop_zero]; exact List.take_of_length_le (by rw [List.length_map,hcFl]; exact Nat.le_refl _)
     cases R with
     | none =>
      cases hres;rw [show fwP none=.tu [pF [],iv 233] from rfl] at cW;exact wk trivial
     | some y =>
      cases hres;rw [show fwP (some y)=.tu [pF y,iv 0] from rfl] at cW;have hy:=hyl y rfl;refine wk ?_;refine q0K (fun i=>i≤P.length) [16,18,102,103] [] Lk Lk (fun i:Nat=>[(104,iv i),(19,.ow 1001 none 0 i)]) (fun i=>[(1001,⟨30,none,((P.take i).map fun k=>y.getD k.toNat 0).map fun z:Nat=>uv z,false⟩)]) (fun i=>P.length-i) 0 (Nat.zero_le _) ?_ ?_
      ·refine LeM [(1001,none)] rfl rfl ?_;refine Zz ?_
       rfl
      ·intro i hi
       by_cases hlt:i < P.length
       ·obtain ⟨x,hx⟩:∃ x,P[i]?=some x:=⟨_,List.getElem?_eq_getElem hlt⟩;obtain ⟨g1,g2⟩:=hPm x (List.mem_of_getElem? hx);obtain ⟨x,rfl⟩:∃ y:Nat,x=y:=⟨x.toNat,by omega⟩;obtain ⟨v,hv'⟩:∃ v,y[x]?=some v:=⟨_,List.getElem?_eq_getElem (by omega)⟩;have ht:=q3l hx;have hti:(P.take i).length=i:=by rw [List.length_take]; omega
        refine wk1 (x3 hx hv' hti) ?_;refine ⟨i+1,by omega,by omega,?_⟩;rw [show (P.take (i+1)).map (fun k=>y.getD k.toNat 0)=(P.take i).map (fun k=>y.getD k.toNat 0) ++ [v] by rw [ht,List.map_append,List.map_singleton,Int.toNat_natCast,getD_some hv']];refine LeM [(1001,some 114)] rfl rfl ?_;refine Zz ?_;omega
       ·obtain rfl:i=P.length:=by omega
        rw [List.take_length];have hpl:(P.map fun k=>y.getD k.toNat 0).length=P.length:=List.length_map _;exact wk trivial
end
section
variable {pm cp ri ix:List Int} {vs vl:List Nat}
end
def piS (picks:List Bool):Nat→List Int
 | 0=>[]
 | i+1=>if picks.getD i false=true then piS picks i ++ [(i:Int)] else piS picks i
theorem qd9 {picks:List Bool}:∀ i,(piS picks i).length≤i
 | 0=>Nat.zero_le _
 | i+1=>by
  have:=qd9 (picks:=picks) i;rw [piS]
  split
  ·simp; omega
  ·omega
abbrev pBo (l:List Bool):PV:=.sl none (l.map fun b=>bv b)
open Classical in
theorem qcL {f:Fac} {ix:List Int} {n:Nat} (ho:FacOk f) (hn:n=f.pm.length) (hix:∀ x ∈ ix,0≤x∧x < n) (hl:ix.length≤1000000):ACt 17 [.sl none ((q5n f n).map fun l=>pI l),pI ix] (.tu [pI (rcL f.cp f.ri n 0 (miS ix n ix.length)),iv 0]):=by
 have hn2:=ho.n;have hrb:=ho.rib;have hcl:(q5n f n).length=n:=by simp [q5n]
 have hgt:∀ j,j < n→∃ (a b:Nat) (l:List Int),(q5n f n)[j]?=some l∧ColL l j n∧l.length=b-a∧f.cp[j]?=some (a:Int)∧f.cp[j+1]?=some (b:Int)∧(∀ i,i < b-a→l[i]?=f.ri[a+i]?)∧b-a≤1000000∧∀ (i:Nat) (x:Int),l[i]?=some x→0≤x∧x < (n:Int):=fun j hj=>by
  obtain ⟨a,b,hc⟩:=ho.col j (by omega);obtain ⟨h1,h2,h3⟩:=q7N hj hc;have hle:=hc.le;have hlt:=hc.lt;have hC:=hn ▸ hc.colL hn2 (by omega);refine ⟨a,b,_,h1,hC,h2,hc.ha,hc.hb,h3,by omega,fun i x hx=>⟨?_,(hC.e i x hx).1⟩⟩;have hi:=(List.getElem?_eq_some_iff.1 hx).1;rw [h3 i (by omega)] at hx
  rcases Nat.eq_zero_or_pos i with rfl | h0
  ·rw [Nat.add_zero,hc.first] at hx; cases hx; omega
  ·obtain ⟨i',h4,_,h5⟩:=hc.row hn2 (p:=a+i) (by omega) (by omega);rw [h4] at hx; cases hx; omega
 have hml:=fun i=>q5c (ix:=ix) (n:=n) i;obtain ⟨P,hP⟩:∃ P,P=rcL f.cp f.ri n 0 (miS ix n ix.length):=⟨_,rfl⟩;rw [← hP];have hPl:P.length≤n:=hP ▸ q4R _ _ _;generalize q5n f n=cols at *;have q200:¬ ((n:Int) > 200):=by omega
 refine ac0 Tryz.func17 Tryz.ntmps17 [.tmp 4,.tmp 5] ?_;refine wk1 (x2 hcl q200) ?_;refine q0K (fun j=>j≤n) [0,1,6] [] Lk Lk (fun j:Nat=>[(7,iv j)]) (fun _=>[]) (fun j=>n-j) 0 (Nat.zero_le _) ?_ ?_
 ·refine LeM [] rfl rfl ?_;refine Zz ?_
  rfl
 ·intro j hj
  by_cases hlt:j < n
  ·obtain ⟨a,b,l,g1,g2,g3,g4,g5,g6,g7,g8⟩:=hgt j hlt;have hlp:=(List.getElem?_eq_some_iff.1 g2.f).1;have hf:=g2.f;have q1:((l.length:Int) == 0)=false:=beq_eq_false_iff_ne.2 (by omega);have q2:((j:Int) != (j:Int))=false:=by simp
   have cS:=qeB (l:=l) (by omega);have hA:Asc l:=fun i x y hx hy=>(g2.e (i+1) y hy).2 (by omega) x (by rwa [Nat.add_sub_cancel]);rw [decide_eq_true hA] at cS;obtain ⟨x,hx⟩:∃ x,l[l.length-1]?=some x:=⟨_,List.getElem?_eq_getElem (by omega)⟩;have wl:IntKind.i64.wrap ((l.length:Int)-1)=((l.length-1:Nat):Int):=by rw [i64_in (by omega) (by omega)]; omega
   have h4:¬ (n:Int)≤x:=by have:=(g8 _ _ hx).2; omega
   refine wk1 (x6 g1 hf q1 q2 hx (x2 wl h4)) ?_;refine ⟨j+1,by omega,by omega,?_⟩;refine LeM [] rfl rfl ?_;refine Zz ?_;omega
  ·obtain rfl:j=n:=by omega
   refine wk ?_;refine q0K (fun i=>i≤ix.length) [0,1,6] [] Lk Lk (fun i:Nat=>[(10,iv i),(9,.ow 1001 none 0 j)]) (fun i=>[(1001,⟨4,none,(miS ix j i).map fun b=>bv b,false⟩)]) (fun i=>ix.length-i) 0 (Nat.zero_le _) ?_ ?_
   ·refine LeM [(1001,some 53)] rfl rfl ?_;refine Zz ?_;simp [miS]
   ·intro i hi
    by_cases hlt2:i < ix.length
    ·obtain ⟨x,hx⟩:∃ x,ix[i]?=some x:=⟨_,List.getElem?_eq_getElem hlt2⟩;obtain ⟨h1,h2⟩:=hix x (List.mem_of_getElem? hx);obtain ⟨x,rfl⟩:∃ y:Nat,x=y:=⟨x.toNat,by omega⟩;have es:miS ix j (i+1)=(miS ix j i).set x true:=by rw [miS,getD_some hx,Int.toNat_natCast]
     have hm:=hml i;obtain ⟨o,hoo⟩:∃ o,(miS ix j i)[x]?=some o:=⟨_,List.getElem?_eq_getElem (by omega)⟩;refine wk1 (x3 hx hm hoo) ?_;refine ⟨i+1,by omega,by omega,?_⟩;refine LeM [] rfl rfl ?_;refine Zz ?_;rw [es];exact ⟨by omega,rfl⟩
    ·obtain rfl:i=ix.length:=by omega
     refine wk ?_;refine q0K (fun q:Nat × List Bool × List Int=>q.1≤j∧q.2.1.length=j∧q.2.2 ++ rcL f.cp f.ri (j-q.1) q.1 q.2.1=P) [0,6] [] Lk Lk (fun q=>[(12,iv q.1),(9,.ow 1001 none 0 j),(11,.ow 1002 none 0 q.2.2.length)]) (fun q=>[(1001,⟨4,none,q.2.1.map fun b=>bv b,false⟩),(1002,⟨3,none,q.2.2.map fun z=>iv z,false⟩)]) (fun q=>j-q.1) (0,miS ix j ix.length,[]) ⟨Nat.zero_le _,hml _,by rw [hP]; rfl⟩ ?_ ?_
     ·refine LeM [(1001,some 1001),(1002,none)] rfl rfl ?_;refine Zz ?_
      rfl
     ·rintro ⟨k,m,out⟩ ⟨hk,hm,hq⟩;simp only at hk hm hq ⊢;have hol:out.length≤j:=by have:=congrArg List.length hq; rw [List.length_append] at this; omega
      by_cases hlt3:k < j
      ·obtain ⟨a,b,l,g1,g2,g3,g4,g5,g6,g7,g8⟩:=hgt k hlt3;obtain ⟨o,hoo⟩:∃ o,m[k]?=some o:=⟨_,List.getElem?_eq_getElem (by omega)⟩;rw [show j-k=(j-(k+1))+1 by omega,rcL,getD_some g4,getD_some g5,getD_some hoo,show ((a:Int)).toNat=a by omega,show ((b:Int)).toNat=b by omega] at hq;cases o with
       | false =>
        rw [if_neg (by simp)] at hq;refine wk1 (x2 hoo hm) ?_;refine ⟨(k+1,m,out),⟨by simp only; omega,hm,hq⟩,by simp only; omega,?_⟩;simp only;refine LeM [] rfl rfl ?_;refine Zz ?_;omega
       | true =>
        rw [if_pos rfl] at hq;have hcO:ClL ((out.map fun z=>iv z) ++ [iv (k:Int)]):=by
         have:=clI (l:=out ++ [(k:Int)])
         rwa [List.map_append] at this
        refine wk1 (x2 hoo hm) ?_;refine q0K (fun i=>i≤l.length) [0,6,11,12] [92] Lk Lk (fun i:Nat=>[(13,iv i),(9,.ow 1001 none 0 j)]) (fun i=>[(1001,⟨4,none,(rcC f.ri a i m).map fun b=>bv b,false⟩)]) (fun i=>l.length-i) 0 (Nat.zero_le _) ?_ ?_
        ·refine LeM [] rfl rfl ?_;refine Zz ?_;exact ⟨rfl,rfl,q0q rfl hcO⟩
        ·intro i hi;have hml2:=q4S (ri:=f.ri) i a m
         by_cases hlt4:i < l.length
         ·obtain ⟨x,hx⟩:∃ x,l[i]?=some x:=⟨_,List.getElem?_eq_getElem hlt4⟩;obtain ⟨h1,h2⟩:=g8 i x hx;obtain ⟨x,rfl⟩:∃ y:Nat,x=y:=⟨x.toNat,by omega⟩;have es:rcC f.ri a (i+1) m=(rcC f.ri a i m).set x true:=by rw [qlm,getD_some (by rw [← g6 i (by omega)]; exact hx),Int.toNat_natCast]
          obtain ⟨o2,ho2⟩:∃ o,(rcC f.ri a i m)[x]?=some o:=⟨_,List.getElem?_eq_getElem (by omega)⟩;refine wk1 (x5 g1 hx ho2 hml2 hm) ?_;refine ⟨i+1,by omega,by omega,?_⟩;refine LeM [] rfl rfl ?_;refine Zz ?_;exact ⟨by omega,es.symm,q0q rfl hcO⟩
         ·obtain rfl:i=l.length:=by omega
          refine wk1 g1 ?_;refine ⟨(k+1,rcC f.ri a (b-a) m,out ++ [(k:Int)]),⟨by simp only; omega,by simp only; rw [q4S]; exact hm,by simp only; rw [List.append_assoc]; exact hq⟩,by simp only; omega,?_⟩;simp only;refine LeM [(1002,some 92)] rfl rfl ?_;refine Zz ?_;exact ⟨by omega,by rw [g3]⟩
      ·obtain rfl:k=j:=by omega
       rw [Nat.sub_self,rcL,List.append_nil] at hq;subst hq;exact wk trivial
theorem q9z {n m:Nat} {g:Nat→Nat} (h:g m=0):rwG n g (m+1)=rwG n g m:=by
 unfold rwG;refine List.map_congr_left fun y _=>?_
 by_cases h1:y=m
 ·subst h1; rw [if_pos (by omega),if_neg (by omega),h]
 ·by_cases h2:y < m
  ·rw [if_pos (by omega),if_pos h2]
  ·rw [if_neg (by omega),if_neg h2]
theorem qa0 {α:Type} {l m:List α} {i:Nat} {d:α} (h:i < l.length):(l ++ m).getD i d=l.getD i d:=by
 rw [List.getD_eq_getElem?_getD,List.getElem?_append_left h,List.getD_eq_getElem?_getD]
theorem qcz {x x':List Nat} {o o':List Int} {n:Nat}:∀ k,k≤x.length→k≤o.length→scS (x ++ x') (o ++ o') n k=scS x o n k
 | 0,_,_=>rfl
 | k+1,h1,h2=>by rw [scS,scS,qcz k (by omega) (by omega),qa0 (by omega),qa0 (by omega)]
def pkG (num:Nat→Nat) (picks:List Bool) (j:Nat):Nat:=if picks.getD j false=true then num j else 0
theorem qaI {picks:List Bool}:∀ i,∀ x ∈ piS picks i,(0:Int)≤x∧x < (i:Int)
 | 0,_,h=>by cases h
 | i+1,x,h=>by
  rw [piS] at h
  split at h
  ·rcases List.mem_append.1 h with h | h
   ·have:=qaI i x h; omega
   ·simp at h; omega
  ·have:=qaI i x h; omega
theorem q8x {picks:List Bool} {n:Nat}:∀ i,i≤n→qpC (piS picks i) n
 | 0,_=>fun j x h=>by cases h
 | i+1,hi=>fun j x h=>by
  rw [piS] at h ⊢
  split at h
  ·rename_i hp;rw [if_pos hp];have hl:=q8x i (by omega) (picks:=picks) (n:=n)
   by_cases hj:j < (piS picks i).length
   ·rw [List.getElem?_append_left hj] at h;obtain ⟨h1,h2,h3⟩:=hl j x h;refine ⟨h1,h2,fun h0 y hy=>?_⟩;rw [List.getElem?_append_left (by omega)] at hy;exact h3 h0 y hy
   ·rw [List.getElem?_append_right (by omega)] at h;have hjl:j-(piS picks i).length=0:=by
     rcases Nat.eq_zero_or_pos (j-(piS picks i).length) with h0 | h0
     ·exact h0
     ·rw [List.getElem?_eq_none (by simp; omega)] at h; cases h
    rw [hjl] at h;have h:(i:Int)=x:=Option.some.inj h;refine ⟨by omega,by omega,fun h0 y hy=>?_⟩;rw [List.getElem?_append_left (by omega)] at hy;have:=qaI i y (List.mem_of_getElem? hy);omega
  ·rename_i hp;rw [if_neg hp];exact q8x i (by omega) j x h
theorem qcx {num:Nat→Nat} {picks:List Bool} {n M:Nat} (hM:M≤n):∀ i,i≤M→scS ((piS picks i).map fun k=>(rwG n (pkG num picks) M).getD k.toNat 0) (piS picks i) n (piS picks i).length=rwG n (pkG num picks) i
 | 0,_=>qqG
 | i+1,hi=>by
  have ih:=qcx (num:=num) (picks:=picks) hM i (by omega);rw [piS]
  by_cases hp:picks.getD i false=true
  ·rw [if_pos hp,List.map_append,List.map_singleton,Int.toNat_natCast,List.length_append,List.length_singleton,scS,qcz _ (by rw [List.length_map]; exact Nat.le_refl _) (Nat.le_refl _),ih];have e1:(piS picks i ++ [(i:Int)]).getD (piS picks i).length 0=(i:Int):=getD_some (by simp);have e2:(((piS picks i).map fun k=>(rwG n (pkG num picks) M).getD k.toNat 0) ++ [(rwG n (pkG num picks) M).getD i 0]).getD (piS picks i).length 0=pkG num picks i:=by
    rw [getD_some (x:=(rwG n (pkG num picks) M).getD i 0) (by rw [List.getElem?_append_right (by simp)]; simp),getD_some (q8q (by omega)),if_pos (by omega)]
   rw [e1,e2,Int.toNat_natCast,qqF]
  ·rw [if_neg hp,ih,q9z];exact if_neg hp
theorem qmC {num:Nat→Nat} {picks:List Bool} {n M:Nat} (h:∀ j,q0f (num j)∧num j < 18446744073709551616):q77 (rwG n (pkG num picks) M):=fun x hx=>by
 unfold rwG at hx;obtain ⟨j,_,rfl⟩:=List.mem_map.1 hx
 split
 ·show pkG num picks j < _∧_
  unfold pkG
  split
  ·exact ⟨(h j).2,(h j).1⟩
  ·exact ⟨by omega,by unfold q0f; simp⟩
 ·exact ⟨by omega,by unfold q0f; simp⟩
theorem qjg {F:Nat→Nat→Option Nat} {l:List Int} {cols:List (List Nat)}:∀ (j:Nat) (q:List Int × LSt),lcM F l cols j=some q→q.2.2.1.length=q.2.2.2.length∧(∀ x ∈ q.2.2.2,x < 18446744073709551616)∧q.1.length=j+1∧q.1[j]?=some (q.2.2.1.length:Int)∧∀ i,i < j→∃ a b:Nat,q.1[i]?=some (a:Int)∧q.1[i+1]?=some (b:Int)∧a≤b∧b≤q.2.2.1.length
 | 0,q,h=>by
  cases h;exact ⟨rfl,fun x hx=>(by cases hx),rfl,rfl,by omega⟩
 | j+1,q,h=>by
  unfold lcM at h;cases hq:lcM F l cols j with
  | none=>rw [hq] at h; cases h
  | some r =>
   obtain ⟨a1,a2,a3,a4,a5⟩:=qjg j r hq;rw [hq,Option.bind_some] at h;cases hc:lcC F l (cols.getD j []) j r.2 (cols.getD j []).length with
   | none=>rw [hc] at h; cases h
   | some s =>
    rw [hc] at h;cases h;obtain ⟨b1,b2,b3⟩:=qdy a1 a2 _ s hc;dsimp only;refine ⟨b2,b3,by simp; omega,by rw [List.getElem?_append_right (by omega),a3,Nat.sub_self]; rfl,fun i hi=>?_⟩
    by_cases hij:i < j
    ·obtain ⟨a,b,c1,c2,c3,c4⟩:=a5 i hij;exact ⟨a,b,by rw [List.getElem?_append_left (by omega)]; exact c1,by rw [List.getElem?_append_left (by omega)]; exact c2,c3,by omega⟩
    ·obtain rfl:i=j:=by omega
     refine ⟨r.2.2.1.length,s.2.1.length,by rw [List.getElem?_append_left (by omega)]; exact a4,by rw [List.getElem?_append_right (by omega),a3,Nat.sub_self]; rfl,by omega,Nat.le_refl _⟩
theorem qnC {raw:List Nat} {N k:Nat}:∀ i,i < (q9T raw N k).1.length→∃ a b:Nat,(q9T raw N k).2.1[i]?=some (a:Int)∧(q9T raw N k).2.1[i+1]?=some (b:Int)∧a≤b∧b≤(q9T raw N k).2.2.1.length:=by
 have hl:=q5b raw N;unfold q9T q5e;generalize q2a (adT (qaH (dfF (gF raw N k) N) (q2d raw N) N)) N N=cols;cases hq:lcM (dfF (gF raw N k) N) (q2d raw N) cols N with
 | none=>intro i hi; simp at hi
 | some q =>
  intro i hi;dsimp only at hi ⊢;obtain ⟨_,_,_,_,h5⟩:=qjg N q hq;exact h5 i (by omega)
theorem qg4 {F:List Int × List Int × List Int × List Nat} {ix:List Int} {vl b:List Nat} (hl:vl.length=ix.length) (hA:qpC ix F.1.length) (hf:q77 vl) (hb:b.length=F.1.length) (hfb:q77 b) (hs:scS vl ix F.1.length ix.length=b) :
  (∃ e:Int,e≠0∧spE F ix vl=([],[],e)∧qlY F b=.tu [pF [],iv e])∨(q4P F=0∧∃ y:List Nat,y.length=F.1.length∧qlY F b=.tu [pF y,iv 0]∧spE F ix vl=(rcL F.2.1 F.2.2.1 F.1.length 0 (miS ix F.1.length ix.length),(rcL F.2.1 F.2.2.1 F.1.length 0 (miS ix F.1.length ix.length)).map (fun k=>y.getD k.toNat 0),0)):=by
 by_cases h1:q4P F=0
 ·unfold spE qlY;rw [if_neg (not_not_intro h1),if_neg (not_not_intro hl.symm),if_neg (not_not_intro hA),if_neg (not_not_intro fun x hx=>(hf x hx).2),h1,if_neg (not_not_intro (qpv hb fun x hx=>(hfb x hx).2)),hs];cases hR:loF (qfA ⟨F.1,F.2.1,F.2.2.1,F.2.2.2⟩ F.1.length F.1.length) b F.1.length 0 (List.replicate F.1.length 0) with
  | none=>exact .inl ⟨233,by omega,rfl,rfl⟩
  | some y=>exact .inr ⟨rfl,y,by rw [q9C _ _ _ _ hR,List.length_replicate],rfl,rfl⟩
 ·refine .inl ⟨q4P F,h1,?_,?_⟩
  ·unfold spE;rw [if_pos h1]
  ·unfold qlY;have:q9t (q4P F) F.1.length b=q4P F:=if_pos h1;rw [this,if_pos h1]
theorem qbI {T id n:Nat} {h h':Hp} {l:List PV} (h1:h id=some ⟨T,none,l,false⟩) (hc:ClL l) (h2:h' id=none) (hn:l.length=n):LeV (q2i []) h h' (.ow id none 0 n) (.sl none l):=q3Q (T:=T) (l:=l) h1 hc (fun i hi=>by
 have hi:some i=some id:=hi;cases hi;exact h2) (by rw [List.drop_zero]; exact List.take_of_length_le (by omega))
theorem q6b {raw:List Nat} {n st:Int} {picks:List Bool} (hr:raw.length≤9223372036854775807) (h1 : -9223372036854775808≤n) (h2:n≤9223372036854775807) (h3 : -9223372036854775808≤st) (h4:st≤9223372036854775807) (hpk:picks.length≤9223372036854775807) :
  ACt 3 [pF raw,iv n,iv st,pBo picks] (bv true):=by
 have cA:=qi9;have hN:q0r n 6 < 6:=by unfold q0r; omega
 have hpm:=qgy raw (q0r n 6);have hll:=q5b raw (q0r n 6);have cF:=qef hr h1 h2 h3 h4 ⟨by omega,fun x hx=>by have:=hpm.1 x hx; omega,hpm.2⟩;have hsh:=qnD (raw:=raw) (N:=q0r n 6) (k:=q0r (q0r st 3:Nat) 4) (by omega);have hst:=qnC (raw:=raw) (N:=q0r n 6) (k:=q0r (q0r st 3:Nat) 4);obtain ⟨pm,cp,ri,vs,hf⟩:∃ pm cp ri vs,q9T raw (q0r n 6) (q0r (q0r st 3:Nat) 4)=(pm,cp,ri,vs):=⟨_,_,_,_,rfl⟩;rw [hf] at cF hsh hst;clear hf hpm hll;obtain ⟨hp,hc,hri,hv,hu⟩:=hsh;dsimp only at hp hc hri hv hu hst;obtain ⟨num,hnum⟩:∃ num:Nat→Nat,num=fun i:Nat=>q3K (q0r st 4) (q5T raw i):=⟨_,rfl⟩;have hnf:∀ j,q0f (num j)∧num j < 18446744073709551616:=fun j=>by rw [hnum]; exact qdd (q4Q raw j)
 have cW:∀ i:Nat,i≤100→ACt 13 [pF raw,iv i] (uv (q5T raw i:Nat)):=fun i hi=>qcO hr (by omega) (by omega);have cNm:∀ i:Nat,ACt 12 [uv (q5T raw i:Nat),iv st] (uv (num i:Nat)):=fun i=>by rw [hnum]; exact qj6 (q4Q raw i) h3 h4
 have hrl:∀ m,(rwG pm.length (pkG num picks) m).length=pm.length:=fun _=>qlc;unfold q4M at *;dsimp only at *;refine ac0 Tryz.func3 Tryz.ntmps3 [.tmp 8] ?_;refine wk ?_;refine q0K (fun i=>i≤pm.length∧i≤picks.length) [0,2,3,9] [9] Lk Lk (fun i:Nat=>[(12,iv i),(10,.ow 1002 none 0 pm.length),(11,.ow 1001 none 0 (piS picks i).length)]) (fun i=>[(1001,⟨3,none,(piS picks i).map fun z=>iv z,false⟩),(1002,⟨30,none,(rwG pm.length (pkG num picks) i).map fun z:Nat=>uv z,false⟩)]) (fun i=>pm.length-i) 0 ⟨Nat.zero_le _,Nat.zero_le _⟩ ?_ ?_
 ·refine LeM [(1001,none),(1002,some 32)] rfl rfl ?_;refine Zz ?_;exact ⟨⟨rfl,rfl⟩,rfl,qqG⟩
 ·rintro i ⟨hi,hi2⟩;have hpl:=qd9 (picks:=picks) i;have hri2:=hrl i
  by_cases hlt:i < pm.length∧i < picks.length
  ·obtain ⟨q1,q2⟩:=hlt;have q1':(i:Int) < pm.length:=by omega
   have q2':(i:Int) < picks.length:=by omega
   obtain ⟨o,hoo⟩:∃ o,picks[i]?=some o:=⟨_,List.getElem?_eq_getElem q2⟩;cases o with
   | true =>
    have es:piS picks (i+1)=piS picks i ++ [(i:Int)]:=by rw [piS,getD_some hoo,if_pos rfl]
    have hg:pkG num picks i=num i:=by unfold pkG; rw [getD_some hoo,if_pos rfl]
    have eb:=qqF (n:=pm.length) (g:=pkG num picks) (m:=i);rw [hg] at eb;have cW1:=cW i (by omega);have cN1:=cNm i;refine wk1 (x4 q1' q2' hoo hri2) ?_;refine ⟨i+1,⟨by omega,by omega⟩,by omega,?_⟩;rw [es,← eb];refine LeM [(1001,some 53)] rfl rfl ?_;refine Zz ?_;omega
   | false =>
    have es:piS picks (i+1)=piS picks i:=by rw [piS,getD_some hoo,if_neg (by simp)]
    have hg:pkG num picks i=0:=by unfold pkG; rw [getD_some hoo,if_neg (by simp)]
    refine wk1 (x3 q1' q2' hoo) ?_;refine ⟨i+1,⟨by omega,by omega⟩,by omega,?_⟩;rw [es,q9z hg];refine LeM [] rfl rfl ?_;refine Zz ?_;omega
  ·obtain ⟨M,hM⟩:∃ M,M=i:=⟨_,rfl⟩;have hA:=q8x (picks:=picks) (n:=pm.length) i hi;have hsc:=qcx (num:=num) (picks:=picks) hi i (Nat.le_refl _);have hbf:=qmC (picks:=picks) (n:=pm.length) (M:=i) hnf;have hal:=qaI (picks:=picks) i;generalize hB:rwG pm.length (pkG num picks) i=B at *;obtain ⟨at0,hat0⟩:∃ l,l=piS picks i:=⟨_,rfl⟩;rw [← hat0] at hA hsc hal hpl ⊢;have hcF:=fun k a b ha hb=>qkD (f:=⟨pm,cp,ri,vs⟩) (k:=k) (a:=a) (b:=b) ha hb;have hcF0:q5n ⟨pm,cp,ri,vs⟩ 0=[]:=rfl;have hcFl:∀ k,(q5n ⟨pm,cp,ri,vs⟩ k).length=k:=fun k=>by simp [q5n]
   have cR:=fun ho=>qcL (f:=⟨pm,cp,ri,vs⟩) (ix:=at0) (n:=pm.length) ho rfl (fun x hx=>by have:=hal x hx; omega) (by omega);dsimp only at cR;generalize q5n ⟨pm,cp,ri,vs⟩=cF at *;refine q5v (LeM [] rfl rfl (xs:=[(3,pBo picks),(9,.pt 9 0 0),(12,iv i),(10,.ow 1002 none 0 pm.length),(11,.ow 1001 none 0 at0.length)]) (kv:=[]) (bs:=[(9,⟨27,some 4,[.ag [pI pm,pI cp,pI ri,pF vs]],false⟩),(1001,⟨3,none,at0.map fun z=>iv z,false⟩),(1002,⟨30,none,B.map fun z:Nat=>uv z,false⟩)]) (kb:=[]) ?_) ?_
   ·try simp -implicitDefEqProofs (disch:=omega) only [go_sem,Nat.reduceEqDiff,Nat.reduceAdd,↓reduceIte]
   by_cases q1:i < pm.length
   case' pos =>
    have q1':(i:Int) < pm.length:=by omega
    have q2':¬ (i:Int) < picks.length:=by omega
    refine wk1 (x2 q1' q2') ?_
   case' neg =>
    have q1':¬ (i:Int) < pm.length:=by omega
    refine wk1 q1' ?_
   all_goals
    refine q0K (fun k=>k≤pm.length) [9,10,11] [9,1001,1002] Lk Lk (fun k:Nat=>[(14,iv k),(13,.ow 1003 none 0 k)]) (fun k=>[(1003,⟨24,none,(cF k).map fun l=>pI l,false⟩)]) (fun k=>pm.length-k) 0 (Nat.zero_le _) ?_ ?_
    ·refine LeM [(1003,none)] rfl rfl ?_;refine Zz ?_;rw [hcF0];exact ⟨rfl,rfl⟩
    ·intro k hk;have hck:=hcFl k
     by_cases hltk:k < pm.length
     ·obtain ⟨a,b,g1,g2,g3,g4⟩:=hst k hltk;have es:slP (some 1) (some (iv (a:Int))) (some (iv (b:Int))) (pI ri)=some (pI ((ri.take b).drop a)):=by
       simp [slP,qfx,ksz,List.map_take,List.map_drop];omega
      have wj:(k:Int)+1=((k+1:Nat):Int):=rfl;have ww:IntKind.i64.wrap ((k+1:Nat):Int)=((k+1:Nat):Int):=i64_in (by omega) (by omega);refine wk1 (x6 g1 g2 es wj ww hck) ?_;refine ⟨k+1,by omega,by omega,?_⟩;rw [hcF k a b g1 g2,List.map_append];refine LeM [(1003,some 85)] rfl rfl ?_;refine Zz ?_;exact q71 (q0q rfl qkE) (q0q rfl (qkE (l:=[_])))
     ·obtain rfl:k=pm.length:=by omega
      refine wk ?_;refine q0K (fun t=>t≤at0.length) [9,10,11,13] [9,1001,1002,1003] Lk Lk (fun t:Nat=>[(16,iv t),(15,.ow 1004 none 0 t)]) (fun t=>[(1004,⟨30,none,((at0.take t).map fun k=>B.getD k.toNat 0).map fun z:Nat=>uv z,false⟩)]) (fun t=>at0.length-t) 0 (Nat.zero_le _) ?_ ?_
      ·refine LeM [(1004,none)] rfl rfl ?_;refine Zz ?_;exact ⟨rfl,q0q rfl qkE⟩
      ·intro t ht;have hti:(at0.take t).length=t:=by rw [List.length_take]; omega
       by_cases hltt:t < at0.length
       ·obtain ⟨x,hx⟩:∃ x,at0[t]?=some x:=⟨_,List.getElem?_eq_getElem hltt⟩;obtain ⟨g1,g2⟩:=hal x (List.mem_of_getElem? hx);obtain ⟨x,rfl⟩:∃ y:Nat,x=y:=⟨x.toNat,by omega⟩;obtain ⟨v,hv'⟩:∃ v,B[x]?=some v:=⟨_,List.getElem?_eq_getElem (by omega)⟩;have ht2:=q3l hx;refine wk1 (x4 hx hv' hti hri2) ?_;refine ⟨t+1,by omega,by omega,?_⟩;rw [show (at0.take (t+1)).map (fun k=>B.getD k.toNat 0)=(at0.take t).map (fun k=>B.getD k.toNat 0) ++ [v] by rw [ht2,List.map_append,List.map_singleton,Int.toNat_natCast,getD_some hv']];refine LeM [(1004,some 101)] rfl rfl ?_;refine Zz ?_;exact ⟨by omega,q0q rfl qkE⟩
       ·obtain rfl:t=at0.length:=by omega
        rw [List.take_length];obtain ⟨vl,hvl⟩:∃ vl,vl=at0.map fun k=>B.getD k.toNat 0:=⟨_,rfl⟩;rw [← hvl];have hvll:vl.length=at0.length:=by rw [hvl,List.length_map]
        have hvf:q77 vl:=fun x hx=>by
         rw [hvl] at hx;obtain ⟨z,_,rfl⟩:=List.mem_map.1 hx;exact qaZ hbf _
        rw [← hvl] at hsc;refine wk ?_;refine q5v (LeM [] rfl rfl (xs:=[(9,.pt 9 0 0),(10,pF B),(11,pI at0),(13,.sl none ((cF pm.length).map fun l=>pI l)),(15,pF vl)]) (kv:=[]) (bs:=[(9,⟨27,some 4,[.ag [pI pm,pI cp,pI ri,pF vs]],false⟩)]) (kb:=[]) ?_) ?_
        ·try refine Zz ?_
         refine ⟨qbI (T:=30) ?_ clU ?_ (by simp [hri2]),qbI (T:=3) ?_ clI ?_ (by simp),qbI (T:=24) ?_ qkE ?_ (by simp [hck]),qbI (T:=30) ?_ clU ?_ (by simp [hvll])⟩ <;> simp -implicitDefEqProofs (disch:=omega) only [go_sem,Nat.reduceEqDiff,Nat.reduceAdd,↓reduceIte]
        have cS:=qbW (ix:=at0) (vl:=vl) (by omega:pm.length≤1000000) hc hri hv hu (fun x hx=>(hvf x hx).1) (by omega) (by omega);have cL:=qdB (l:=B) (by omega:pm.length≤1000000) hc hri hv hu (fun x hx=>(hbf x hx).1) (by omega)
        rcases qg4 (F:=(pm,cp,ri,vs)) (ix:=at0) (vl:=vl) (b:=B) hvll hA hvf hri2 hbf hsc with ⟨e,e0,z1,z2⟩ | ⟨hk0,y,hy,z2,z1⟩
        ·rw [z1] at cS;rw [z2] at cL;unfold spR q4M at *;dsimp only at cS cL;have r1:(e != e)=false:=by simp
         have r2:(e != 0)=true:=by simpa using e0
         exact wk1 (x2 r1 r2) trivial
        ·rw [z1] at cS;rw [z2] at cL;have cR:=cR (q5O hk0 hri hu);have hPm:=q6m (cp:=cp) (ri:=ri) pm.length 0 (miS at0 pm.length at0.length);have hPl:=q4R (cp:=cp) (ri:=ri) pm.length 0 (miS at0 pm.length at0.length);unfold spR q4M at *;dsimp only at cS cL cR hy;generalize rcL cp ri pm.length 0 (miS at0 pm.length at0.length)=P at *;have cI:=qhQ (l:=P) (by omega);have hlm:(P.map fun k=>y.getD k.toNat 0).length=P.length:=List.length_map _;have r1:((0:Int) != 0)=false:=rfl;have r3:((P.length:Int) != P.length)=false:=by simp
         have r4:((pm.length:Int) != pm.length)=false:=by simp
         refine wk1 (x6 r1 r3 r4 hlm hy hri2) ?_;refine q0K (fun t=>t≤P.length) [17,18,20] [] Lk Lk (fun t:Nat=>[(24,iv t)]) (fun _=>[]) (fun t=>P.length-t) 0 (Nat.zero_le _) ?_ ?_
         ·refine LeM [] rfl rfl ?_;refine Zz ?_
          rfl
         ·intro t ht
          by_cases hl4:t < P.length
          ·obtain ⟨x,hx⟩:∃ x,P[t]?=some x:=⟨_,List.getElem?_eq_getElem hl4⟩;obtain ⟨g1,g2⟩:=hPm x (List.mem_of_getElem? hx);obtain ⟨x,rfl⟩:∃ y:Nat,x=y:=⟨x.toNat,by omega⟩;obtain ⟨v,hv'⟩:∃ v,y[x]?=some v:=⟨_,List.getElem?_eq_getElem (by omega)⟩;have hxv:(P.map fun k=>y.getD k.toNat 0)[t]?=some v:=by rw [List.getElem?_map,hx,Option.map_some,Int.toNat_natCast,getD_some hv']
           have r5:((v:Int) != (v:Int))=false:=by simp
           refine wk1 (x4 hx hv' hxv r5) ?_;refine ⟨t+1,by omega,by omega,?_⟩;refine LeM [] rfl rfl ?_;refine Zz ?_;omega
          ·exact wk trivial
open Go.ChangeShapes Go.WideShapes Go.ChangeAt Go.WideMaps Go.WideElems Go.RowKit
set_option maxRecDepth 100000
abbrev qhO : List (String × DataW Unit) := [("math/bits.deBruijn32tab", Rows.laid_math_bits_deBruijn32tab)]
theorem own:ownKnob Tryz.prog.godebug=none:=by kernel_rfl
theorem qiP (os:Os) (args:Array Value):laidMetH Tryz.prog qhO ((World.doorLaid Tryz.prog 400 os).forCall (fun _ _=>0) ⟨#[],args,[]⟩).memory :=
 laidMetH_of_parts3 (fuel:=8) (laidMet_of_run' 8 (by kernel_rfl) (by kernel_rfl)) (by kernel_rfl) (by kernel_rfl)
theorem undW:Tryz.prog.underlying 22=some (.slice 29):=by kernel_rfl
theorem cellU:Tryz.prog.cellsOf 29=1:=by kernel_rfl
theorem qhS {H:Type} {enc:TypeId × Value→H} {W:World} {v:Value} {d:DataW H} {p:List MemPlace} {b0:Nat} (hv:Value.okWide Tryz.prog W .any b0 22 v) (h:DataW.Trod enc Tryz.prog W 0 (fun _=>true) true 22 v d p) :
  ∃ A n c raw,v=.slice A n c∧n≤9223372036854775807∧In (fSc q3S raw) (fun _=>True) (.slice A n c) W:=by
 obtain ⟨A,n,c,rfl⟩:=okWide_slice undW hv;obtain ⟨fuel,hf⟩:=h
 rcases open_ints undW qpS cellU hf with ⟨h1,_⟩ | ⟨a,len,cap,zs,h1,_,hl,hm,hz,_,hc,hw⟩
 ·injection h1 with h1 _
  injection h1 with h1 h2 h3
  subst h1; subst h2; subst h3;exact ⟨_,_,_,[],rfl,by omega,In.sc_nil⟩
 ·injection h1 with h1 _
  injection h1 with h1 h2 h3
  subst h1; subst h2; subst h3;have hz':zs.length=c:=by simpa using hz
  refine ⟨_,_,_,(zs.take n).map Int.toNat,rfl,by unfold maxLen at hm; omega,some a,n,c,rfl,hl,by simp; omega,fun _=>⟨a,rfl,trivial,fun j u hu=>?_⟩⟩;rw [List.getElem?_map,List.getElem?_map,List.getElem?_take] at hu
  split at hu
  ·rename_i hj;have hjz:j < zs.length:=by omega
   rw [List.getElem?_eq_getElem hjz] at hu;have h0:=hc j hjz;rw [List.getD_eq_getElem?_getD,List.getElem?_eq_getElem hjz] at h0;have h1:=hw zs[j] (List.getElem_mem _);simp only [Lit.wf,Bool.and_eq_true,decide_eq_true_eq] at h1;have h2:(0:Int)≤zs[j]:=h1.1;rw [h0,← Option.some.inj hu]
   show some (Value.int .u64 zs[j])=some (Value.int .u64 ((zs[j].toNat:Nat):Int))
   rw [Int.toNat_of_nonneg h2]
  ·cases hu
set_option maxRecDepth 100000
theorem undB:Tryz.prog.underlying 23=some (.slice 4):=by kernel_rfl
theorem undb:Tryz.prog.underlying 4=some .bool:=by kernel_rfl
theorem cellB:Tryz.prog.cellsOf 4=1:=by kernel_rfl
def bolv (b:Bool):Value:=.bool b
theorem qhT {H:Type} {enc:TypeId × Value→H} {W:World} {v:Value} {d:DataW H} {p:List MemPlace} {b0:Nat} (hv:Value.okWide Tryz.prog W .any b0 23 v) (h:DataW.Trod enc Tryz.prog W 0 (fun _=>true) true 23 v d p) :
  ∃ A n c l,v=.slice A n c∧n≤9223372036854775807∧In (fSc bolv l) (fun _=>True) (.slice A n c) W:=by
 obtain ⟨A,n,c,rfl⟩:=okWide_slice undB hv;obtain ⟨fuel,hf⟩:=h
 rcases Go.Deep.open_bools undB undb cellB hf with ⟨h1,_⟩ | ⟨a,len,cap,B,h1,_,hl,hm,_,hc⟩
 ·injection h1 with h1 _
  injection h1 with h1 h2 h3
  subst h1; subst h2; subst h3;exact ⟨_,_,_,[],rfl,by omega,In.sc_nil⟩
 ·injection h1 with h1 _
  injection h1 with h1 h2 h3
  subst h1; subst h2; subst h3;refine ⟨_,_,_,(List.range n).map B,rfl,by unfold maxLen at hm; omega,some a,n,c,rfl,hl,by simp,fun _=>⟨a,rfl,trivial,fun j u hu=>?_⟩⟩;rw [List.getElem?_map,List.getElem?_map] at hu
  rcases Nat.lt_or_ge j n with hj | hj
  ·rw [List.getElem?_range hj] at hu;rw [hc j (by omega),← Option.some.inj hu]
   rfl
  ·rw [List.getElem?_eq_none (by simpa using hj)] at hu; cases hu
set_option maxRecDepth 100000
theorem qcW {H:Type} {enc:TypeId × Value→H} {P:Program} {w:World} {base:Nat} {spare:Nat→Bool} {held:Bool} {t t' t'' t3:TypeId} {args:Array Value} {ds:List (DataW H)} {ps:List MemPlace} (h:DataW.TrodAll enc P w base spare held [t,t',t'',t3] args.toList ds ps) :
  ∃ v v' v'' v3 d d' d'' d3 p p' p'' p3,args=#[v,v',v'',v3]∧ds=[d,d',d'',d3]∧DataW.Trod enc P w base spare held t v d p∧DataW.Trod enc P w base spare held t' v' d' p'∧DataW.Trod enc P w base spare held t'' v'' d'' p''∧DataW.Trod enc P w base spare held t3 v3 d3 p3:=by
 obtain ⟨v,vs,d,ds',p,q,hargs,rfl,rfl,hd,hrest⟩:=trodAll_cons h;obtain ⟨v',vs',d',ds'',p',q',rfl,rfl,rfl,hd',hrest'⟩:=trodAll_cons hrest;obtain ⟨v'',vs'',d'',ds3,p'',q'',rfl,rfl,rfl,hd'',hrest''⟩:=trodAll_cons hrest';obtain ⟨v3,vs3,d3,ds4,p3,q3,rfl,rfl,rfl,hd3,hrest3⟩:=trodAll_cons hrest'';obtain ⟨rfl,rfl,rfl⟩:=trodAll_nil hrest3;exact ⟨v,v',v'',v3,d,d',d'',d3,p,p',p'',p3,by cases args; simp_all,rfl,hd,hd',hd'',hd3⟩
theorem rdl_4 {w:World} {D:Nat→Prop} {ρ:Nat→Option Nat} {h:Hp} {x y z t:PV} {a b c d:Value} (h1:Rd w D x ρ h a) (h2:Rd w D y ρ h b) (h3:Rd w D z ρ h c) (h4:Rd w D t ρ h d):RdL w D [x,y,z,t] ρ h [a,b,c,d]:=by
 unfold RdL;refine ⟨_,_,rfl,h1,?_⟩;unfold RdL;refine ⟨_,_,rfl,h2,?_⟩;unfold RdL;refine ⟨_,_,rfl,h3,?_⟩;unfold RdL;exact ⟨_,_,rfl,h4,by unfold RdL; rfl⟩
theorem q7p (os:Os) (started:os.Started) (H:Type) (enc:TypeId × Value→H) :
  ReturnsInHanded {} Tryz.checked os 3 .any (fun w args=>(Rows.solveReachSpec.pre enc Tryz.prog Tryz.f3 [] false w args∧laidMetH Tryz.prog qhO w)∧sizedMet enc Tryz.prog Tryz.f3 (OpenSpec.ofChange Rows.solveReachSpec) false w args)
   (Rows.solveReachSpec.post enc Tryz.prog Tryz.f3 false true false false):=by
 refine returnsInHanded_of_change_and (C:=Tryz.checked) (X:=fun w _=>laidMetH Tryz.prog qhO w) (fun _ _ _ hh h=>h.of_heap hh) own started (by kernel_rfl) Tryz.func3
  (ChangeSpec.witness_shaped (enc:=enc) (C:=Tryz.checked) (os:=os) (X:=fun w _=>laidMetH Tryz.prog qhO w) false (World.doorLaid Tryz.prog 400 os) #[.slice none 0 0,.int .i64 0,.int .i64 0,.slice none 0 0] 8 rfl (World.shaped_of_RefB (by kernel_rfl) (by kernel_rfl)) (by kernel_rfl) (by kernel_rfl) (by kernel_rfl) (qiP os _)) ?_
 intro W base args ds gs before hval0 hW _ _ hL _;have hval:∀ (j:Nat) t v,Tryz.f3.params[j]?=some t→args[j]?=some v→Value.okWide Tryz.prog W .any base t v:=hval0;have hW':DataW.Whole enc Tryz.prog Tryz.f3.params.toList Rows.solveReachSpec.vars false W args.toList ds gs before:=hW;obtain ⟨p,q,hA0,hV,rfl,_,_⟩:=hW;have hA:DataW.TrodAll enc Tryz.prog W 0 (fun _=>true) true [22,3,3,23] args.toList ds p:=hA0;obtain ⟨v0,v1,v2,v3,d0,d1,d2,d3,p0,p1,p2,p3,rfl,rfl,h0,h1,h2,h3⟩:=qcW hA;obtain ⟨rfl,rfl⟩:=trodVars_none hV;obtain ⟨A,n,c,raw,rfl,hn,hin⟩:=qhS (hval 0 22 _ rfl rfl) h0;obtain ⟨N,rfl,_,_,hN⟩:=open_int und3 (hval 1 3 _ rfl rfl) h1;obtain ⟨S,rfl,_,_,hS⟩:=open_int und3 (hval 2 3 _ rfl rfl) h2;obtain ⟨A4,n4,c4,pk,rfl,hn4,hi4⟩:=qhT (hval 3 23 _ rfl rfl) h3;simp only [Lit.wf,Bool.and_eq_true,decide_eq_true_eq] at hN hS;have hc:=q6b (raw:=raw) (picks:=pk) (by rw [hin.sc_len]; exact hn) hN.1 hN.2 hS.1 hS.2 (by rw [hi4.sc_len]; exact hn4);refine (hc.2 _ W [_,_,_,_] (qlN hL) (Fr.triv _) (rdl_4 (qdM hin) q3E q3E (q8p (f:=bolv) (fun x=>⟨rfl,rfl⟩) hi4))).mono fun e W' ⟨v,he,hx,hr⟩=>?_;rw [q3F hr] at he;subst he;exact ⟨_,rfl,qhN rfl hW' (by kernel_rfl) rfl rfl hx⟩
theorem q4d:Rows.SolveReachSaid :=
 OpenClaim.holds_of_wide 3 Tryz.f3 rfl rfl rfl rfl rfl rfl rfl ⟨rfl,rfl,rfl,rfl,rfl⟩ rfl rfl rfl rfl rfl (by kernel_rfl) Tryz.func3 (by kernel_rfl)
  (of_decide_eq_true (by kernel_rfl)) (by unfold Func.isWrapper; first | (rw [if_pos (by decide +kernel)]; kernel_rfl) | (rw [if_neg (by decide +kernel)]; exact ⟨rfl,rfl⟩))
  (fun os started H enc _=>q7p os started H enc)
set_option maxRecDepth 100000
theorem reach_card:Rows.SolveReachCardSaid :=
 Claim7.holds_tied_plain_at .later [] [.data] true (true, "1152ba08cf519ea60d813af4e373f6d249d3327580b00ea5080b605239196640") false
  q4d (fun _ h=>by cases h) (by kernel_rfl) (fun _ h=>by cases h) solveReach_row_tie rfl ⟨rfl,rfl⟩ (by kernel_rfl) rfl
  (fun f fn hf hfn=>by
   obtain rfl : f = 3 := Option.some.inj ((show Tryz.prog.funcNamed "sparse/sparselaw28.SolveReach" = some 3 by kernel_rfl).symm.trans hf) |>.symm;obtain rfl:fn=Tryz.f3:=(Option.some.inj (Tryz.func3.symm.trans hfn)).symm;exact ⟨by kernel_rfl,fun j t ht=>by
    have hm:t ∈ [22,3,3,23]:=by simpa using Array.mem_of_getElem? ht
    have hall:([22,3,3,23].all fun u=>!Tryz.prog.wantsStandIn u)=true:=by kernel_rfl
    exact (show Tryz.prog.wantsStandIn t=false by simpa using List.all_eq_true.1 hall t hm)⟩)
  (by kernel_rfl)
#print axioms reach_card
end Go.Proofs.YtbcmhlhgljoolaaGreatDoor
