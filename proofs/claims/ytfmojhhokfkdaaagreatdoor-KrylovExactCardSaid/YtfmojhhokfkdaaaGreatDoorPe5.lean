/- KrylovExact. 5/6. -/
import Derived.Test.YtfmojhhokfkdaaaGreatDoorPe4
set_option linter.unusedSimpArgs false
set_option linter.unusedVariables false
set_option maxRecDepth 20000
set_option maxHeartbeats 2000000
set_option linter.defProp false
namespace Go.Proofs.YtfmojhhokfkdaaaGreatDoor
open Go Go.E Go.Sp
def qmc {g:Nat→Int}:∀ n,(∀ i,i < n→0≤g i)→0≤sg g n
 | 0,_=>Int.le_refl 0
 | n+1,h=>by have:=qmc n fun i hi=>h i (by omega); have:=h n (by omega); rw [sg]; omega
def qg8 {g:Nat→Int} {j:Nat}:∀ n,(∀ i,i < n→0≤g i)→j < n→0 < g j→0 < sg g n
 | 0,_,hj,_=>by omega
 | n+1,h,hj,hp=>by
  rw [sg]
  by_cases e:j=n
  ·subst e;have:=qmc j fun i hi=>h i Oq;omega
  ·have:=qg8 n (fun i hi=>h i Oq) (show j < n by omega) hp;have:=h n Oq;omega
def qaF {x y x' y':Nat} (h1:ofZ x=ofZ y') (h2:ofZ y=ofZ x'):q0g x y=q0g x' y':=by unfold q0g; rw [h1,h2,Int.mul_comm]
def q2d {x y:Int} {K:Nat} (h:x*(2:Int) ^ K=y*(2:Int) ^ K):x=y:=Int.eq_of_mul_eq_mul_right (Int.ne_of_gt (q0H K)) h
def qn7 {c x K:Nat} (hK:K=65536) (hc:q0N c) (hx:q0N x) (h:ofZ c=(2:Int) ^ K):q0g c x=ofZ x:=by
 refine q2d (K:=K) ?_;rw [(q5q hK hc hx).1,h,Int.mul_comm]
def qik {c x K:Nat} (hK:K=65536) (hc:q0N c) (hx:q0N x) (h:ofZ c = -(2:Int) ^ K):q0g c x = -ofZ x:=by
 refine q2d (K:=K) ?_;rw [(q5q hK hc hx).1,h,Int.neg_mul,Int.neg_mul,Int.mul_comm]
def qiL {l:List Nat} {n:Nat} (h:∀ i,i < n→l.getD i 0=0) (hl:l.length=n):∀ k,k≤n→q2C l k=0
 | 0,_=>rfl
 | k+1,hk=>by
  have e:=h k Oq;rw [List.getD_eq_getElem?_getD,List.getElem?_eq_getElem (by omega)] at e;have hx:l[k]?=some 0:=by rw [List.getElem?_eq_getElem (by omega)]; exact congrArg some e
  rw [q8m hx,qiL h hl k (by omega)]; rfl
def qm1 {l:List Nat}:∀ k,k≤l.length→q2C l k=0→∀ i,i < k→q4w (l.getD i 0)=0
 | 0,_,_,i,hi=>by omega
 | k+1,hk,h,i,hi=>by
  have hx:l[k]?=some l[k]:=List.getElem?_eq_getElem Oq;rw [q8m hx] at h
  by_cases e:i=k
  ·subst e; rw [getD_some hx]; omega
  ·exact qm1 k Oq Oq i Oq
def q41 {n i:Nat}:(List.replicate n 0).getD i 0=0:=by
 rw [List.getD_eq_getElem?_getD]
 by_cases h:i < n
 ·simp [h]
 ·rw [List.getElem?_eq_none (by simpa using h)]; rfl
def qmr {n:Nat} {v:Nat→Nat} (h:∀ i,i < n→v i=0):(List.range n).map v=List.replicate n 0:=by
 apply List.ext_getElem?
 intro i
 by_cases hi:i < n
 ·rw [List.getElem?_map,List.getElem?_range hi,List.getElem?_replicate,if_pos hi,Option.map_some,h i hi]
 ·rw [List.getElem?_eq_none (by simpa using hi),List.getElem?_eq_none (by simpa using hi)]
def q8K {l:List Nat} {n:Nat} (hl:l.length=n) (h:∀ i,i < n→q0N (l.getD i 0)):∀ v ∈ l,q0N v:=fun x hx=>by
 obtain ⟨p,hp,rfl⟩:=List.getElem_of_mem hx;have:=h p Oq;rw [getD_some (List.getElem?_eq_getElem hp)] at this;exact this
section
variable {n U:Nat} {o:List Int} {vs b:List Nat} {h:Nat→Nat} {c:Nat→Int} {f:Nat→Nat→Option Nat}
structure DgM (n:Nat) (f:Nat→Nat→Option Nat) (U:Nat) (h:Nat→Nat):Prop where
 o:∀ j i,i≠j→f j i=none
 v:∀ j,j < n→∃ a,f j j=some a∧a < 18446744073709551616∧q0N a∧ofZ a=(2:Int) ^ (U+2*h j)
def qmF {x:List Nat} {r:Nat} (M:DgM n f U h) (hr:r < n) (hx:x.length=n):q1j (q8e f n r) x=q0g ((f r r).getD 0) (x.getD r 0):=by
 unfold q1j;have hl:(q8e f n r).length=n:=by unfold q8e; simp
 rw [hl,q5Q];have e:∀ k,k < n→q0g ((q8e f n r).getD k 0) (x.getD k 0)=if r=k then q0g ((f k k).getD 0) (x.getD k 0) else 0:=fun k hk=>by
  unfold q8e;rw [q3i hk]
  by_cases q:r=k
  ·subst q; rw [if_pos rfl,Nat.min_self,Nat.max_self]
  ·rw [if_neg q,M.o _ _ (by omega),Option.getD_none,q45]
 rw [q1q n e,q8q,if_pos hr]
def exX (n U:Nat) (h:Nat→Nat) (c:Nat→Int):List Nat:=(List.range n).map fun i=>fR 0 (c i*(2:Int) ^ (U+2*(8-h i)))
def qnz (hU:U+8=65536) (D:DgF n o vs U h) (M:DgM n f U h) (hl:b.length=n) (hb:∀ i,i < n→b.getD i 0=flz (c i)) (hc:∀ i,(c i).natAbs < 9007199254740992) :
  ∃ l:List Nat,l.length≤1∧grS n n f (o,q0t (n+1),q0t n,vs) b 1=(exX n U h c,l ++ [0],0):=by
 have h1:=D.p.1;have hol:o.length=n:=by omega
 have hn:=D.nn;have hfb:∀ i,i < n→q0N (b.getD i 0)∧ofZ (b.getD i 0)=c i*(2:Int) ^ (U+8):=fun i hi=>by
  rw [hb i hi,hU];exact ⟨q18 (hc i),q0W (q4c (hc i))⟩
 have R:grR n n (o,q0t (n+1),q0t n,vs) b 1=0:=by
  unfold grR;rw [if_neg (by omega),D.chk,if_neg (by omega),if_neg (by dsimp only; omega),if_neg (by omega),if_neg (not_not_intro (q8K hl fun i hi=>(hfb i hi).1)),if_neg (by omega)]
 have X:=qhF hU D hl hfb hc;rw [show ((List.range n).map fun i=>fR 0 (c i*(2:Int) ^ (U+2*(8-h i))))=exX n U h c from rfl] at X;have zg:∀ i,i < n→q0N ((exX n U h c).getD i 0)∧ofZ ((exX n U h c).getD i 0)=c i*(2:Int) ^ (U+2*(8-h i))∧(exX n U h c).getD i 0=fR 0 (c i*(2:Int) ^ (U+2*(8-h i))):=fun i hi=>by
  have:=qaV (m:=c i) (t:=U+2*(8-h i)) (K:=U+8) hU (hc _) Oq Oq;unfold exX;rw [q3i hi];exact ⟨this.2.2,this.1,rfl⟩
 have zl:(exX n U h c).length=n:=by unfold exX; simp
 have f0:q0N 0:=q8L;unfold grS;rw [R,if_neg (not_not_intro rfl),X];dsimp only;rw [if_neg (not_not_intro rfl),show (1:Int).toNat=0+1 from rfl];have f1:q0N (flz 1):=q18 Oq;have o1:ofZ (flz 1)=(2:Int) ^ (U+8):=by rw [q2H hU (by omega),Int.one_mul]
 have zz:∀ (w:Nat→Int),(∀ i,i < n→w i=0)→(List.range n).map (fun i=>fR 0 (w i))=List.replicate n 0:=fun w hw=>qmr fun i hi=>by rw [hw i hi]; exact if_pos rfl
 by_cases hz:q2C b n=0
 ·rw [qoA hz];refine ⟨[],by simp,?_⟩;have c0:∀ i,i < n→c i=0:=fun i hi=>by
   have e:=qm1 n Oq hz i hi;have e2:=(hfb i hi).2;rw [hb i hi] at e e2;have e3:flz (c i)=0∨flz (c i)=9223372036854775808:=by
    have:=q4d (hc i);unfold q4w at e;omega
   have e4:ofZ (flz (c i))=0:=by
    rcases e3 with q | q
    ·rw [q,q5n]
    ·rw [q]; exact q0W (by unfold ofF; rw [if_neg (by decide),if_pos (by decide),show sgn (decide (9223372036854775808≤9223372036854775808)) (9223372036854775808 % 4503599627370496)=0 from rfl,Int.zero_mul])
   rw [e4] at e2
   rcases Int.mul_eq_zero.1 e2.symm with q | q
   ·exact q
   ·have:=q0H (U+8); omega
  have e:exX n U h c=List.replicate n 0:=zz _ fun i hi=>by rw [c0 i hi,Int.zero_mul]
  rw [e,hz]; rfl
 ·have hex:∃ j,j < n∧c j≠0:=Classical.byContradiction fun hne=>hz (qiL (fun i hi=>by
   have:c i=0:=Classical.byContradiction fun q=>hne ⟨i,hi,q⟩;rw [hb i hi,this,q5z]) hl n (Nat.le_refl _))
  have mz:∀ i,i < n→q0g (b.getD i 0) ((exX n U h c).getD i 0)*(2:Int) ^ (U+8)=c i*c i*(2:Int) ^ (U+8+(U+2*(8-h i))):=fun i hi=>by
   rw [(q5q hU (hfb i hi).1 (zg i hi).1).1,(hfb i hi).2,(zg i hi).2.1,Int.pow_add _ (U+8)];simp only [Int.mul_assoc,Int.mul_left_comm,Int.mul_comm]
  have nn:∀ i,i < n→0≤q0g (b.getD i 0) ((exX n U h c).getD i 0):=fun i hi=>by
   have q:=mz i hi;have p:=q0H (U+8)
   rcases Int.lt_or_le (q0g (b.getD i 0) ((exX n U h c).getD i 0)) 0 with w | w
   ·have a:=Int.mul_neg_of_neg_of_pos w p;have d:0≤c i*c i*(2:Int) ^ (U+8+(U+2*(8-h i))):=Int.mul_nonneg (by
     rcases Int.le_total 0 (c i) with r | r
     ·exact Int.mul_nonneg r r
     ·exact Int.mul_nonneg_of_nonpos_of_nonpos r r) (Int.le_of_lt (q0H _))
    omega
   ·exact w
  have hrho:q1j b (exX n U h c)=sg (fun k=>q0g (b.getD k 0) ((exX n U h c).getD k 0)) n:=by unfold q1j; rw [hl,q5Q]
  have pr:0 < q1j b (exX n U h c):=by
   obtain ⟨j,hj,hcj⟩:=hex;rw [hrho];refine qg8 (j:=j) n nn hj ?_;have q:=mz j hj;have d:0 < c j*c j*(2:Int) ^ (U+8+(U+2*(8-h j))):=Int.mul_pos (by
    rcases Int.lt_or_gt_of_ne hcj with r | r
    ·exact Int.mul_pos_of_neg_of_neg r r
    ·exact Int.mul_pos r r) (q0H _)
   have:=nn j hj
   rcases Int.lt_or_eq_of_le this with w | w
   ·exact w
   ·rw [← w,Int.zero_mul] at q; omega
  obtain ⟨z,hzE⟩:∃ z,z=exX n U h c:=⟨_,rfl⟩;rw [← hzE] at X zg zl mz nn hrho pr ⊢;have qf:∀ r,r < n→q1j (q8e f n r) z=c r*(2:Int) ^ (U+8):=fun r hr=>by
   obtain ⟨a,a1,a2,a3,a4⟩:=M.v r hr;have h8:=D.hb r;rw [qmF M hr zl,a1,Option.getD_some];refine q2d (K:=U+8) ?_;rw [(q5q hU a3 (zg r hr).1).1,a4,(zg r hr).2.1,Int.mul_left_comm,← Int.pow_add,Int.mul_assoc,← Int.pow_add,show U+2*h r+(U+2*(8-h r))=U+8+(U+8) by omega]
  obtain ⟨q,hq⟩:∃ q,q=q2r f z n n:=⟨_,rfl⟩;have ql:q.length=n:=by rw [hq,q8f]
  have qg:∀ i,i < n→q0N (q.getD i 0)∧ofZ (q.getD i 0)=c i*(2:Int) ^ (U+8):=fun i hi=>by
   have:=qaV (m:=c i) (t:=U+8) (K:=U+8) hU (hc _) Oq Oq;rw [hq];unfold q2r;rw [q3i hi,qf i hi];exact ⟨this.2.2,this.1⟩
  have sg2:q1j z q=q1j b z:=by
   rw [hrho];unfold q1j;rw [zl,q5Q];refine q1q n fun i hi=>qaF rfl ?_;rw [(qg i hi).2,(hfb i hi).2]
  have X1:lnF (List.replicate n 0) (flz 1) z n=z:=by
   rw [hzE];unfold lnF exX;refine List.map_congr_left fun i hi=>?_;have hi:=List.mem_range.1 hi;have g:=zg i hi;rw [hzE] at g;unfold lnE;rw [q41,q5n,Int.zero_add];have:=qn7 hU f1 g.1 o1;unfold exX at this g;rw [this,g.2.1]
  have R1:lnF b (q5B (flz 1)) q n=List.replicate n 0:=by
   unfold lnF;refine zz _ fun i hi=>?_;obtain ⟨m1,m2,m3⟩:=q7x f1 (q4d Oq);unfold lnE;rw [qik hU m2 (qg i hi).1 (by rw [m1,o1]),(hfb i hi).2,(qg i hi).2];omega
  have D0:dfE (o,q0t (n+1),q0t n,vs) (List.replicate n 0)=(List.replicate n 0,0):=by
   have:=qhF (l:=List.replicate n 0) (c:=fun _=>0) hU D (by simp) (fun i hi=>by rw [q41,q5n,Int.zero_mul]; exact ⟨f0,rfl⟩) (fun _=>by omega);rw [this,zz _ fun i hi=>Int.zero_mul _]
  have d0:q1j (List.replicate n 0) (List.replicate n 0)=0:=by
   unfold q1j;rw [List.length_replicate,q5Q];exact q7n n fun i hi=>by rw [q41,q45]
  have P1:lnF (List.replicate n 0) 0 z n=List.replicate n 0:=by
   unfold lnF;refine zz _ fun i hi=>?_;unfold lnE;rw [q41,q5n,q45]; rfl
  have fr:∀ v ∈ List.replicate n 0,q0N v:=fun v hv=>by rw [List.eq_of_mem_replicate hv]; exact f0
  have G:gS n f (o,q0t (n+1),q0t n,vs) (List.replicate n 0) b z (q1j b z)=(0,z,List.replicate n 0,List.replicate n 0,0):=by
   unfold gS;rw [if_neg (by omega),← hq,if_pos (q8K ql fun i hi=>(qg i hi).1)];unfold gS2;rw [sg2,if_neg (by omega),qj7 (by omega),if_pos f1];unfold gS3;rw [X1,R1,if_pos (q8K zl fun i hi=>(zg i hi).1),if_pos fr];unfold gS4;rw [D0];dsimp only;rw [if_neg (not_not_intro rfl),d0,show ∀ w,fQ 0 0 w=0 from fun w=>if_pos rfl,if_pos f0];unfold gS5;rw [P1,if_pos fr]
  refine ⟨[q2C b n],by simp,?_⟩;rw [qoB hz G,grL,qiL (fun i _=>q41) (by simp) n (Nat.le_refl _)]
end
def qeP {V:Int}:ACt 50 [pV V,pV V] (bv true):=ac_2 qpB fun ⟨ho,_⟩=>by
 obtain ⟨hd1,hd2,hd3⟩:=q0m ho;have cN:=q2S ho;have cD:ACt 109 [dT V,dT V] (bv true):=q3Z (qcG (s:=decide (od V < 0)) (l:=lim (od V).natAbs) (e:=dyE V) (q0A _) (q23 Oq));unfold dT at cN cD ⊢;refine ac0 Tryz.func50 Tryz.ntmps50 [.tmp 4] ?_;exact wk trivial
def pw2 (t:Nat):Nat:=fR 0 (1*(2:Int) ^ t)
def q6o {U t:Nat} (hU:U+8=65536) (h1:U≤t+500) (h2:t≤U+500):ofZ (pw2 t)=(2:Int) ^ t∧pw2 t < 18446744073709551616∧q0N (pw2 t):=by
 have:=qaV (m:=1) (t:=t) (K:=U+8) hU Oq Oq Oq;rw [Int.one_mul] at this;unfold pw2;rw [Int.one_mul];exact this
def qbb {x:Nat} (hx:x < 18446744073709551616) (hf:q0N x) (hz:ofZ x≠0):q1Q x=1:=by
 have h3:=q4I hf;have h0:q1Q x≠0:=fun h=>by
  have:=(q6w hx).1 h;have e:x=0∨x=9223372036854775808:=by unfold q4w at this; omega
  refine hz ?_
  rcases e with q | q
  ·rw [q,q5n]
  ·rw [q]; exact q0W (by unfold ofF; rw [if_neg (by decide),if_pos (by decide),show sgn (decide (9223372036854775808≤9223372036854775808)) (9223372036854775808 % 4503599627370496)=0 from rfl,Int.zero_mul])
 unfold q0N at hf;unfold q1Q at h3 h0 ⊢;rw [if_neg (fun q=>hf q.1),if_neg hf] at h0 ⊢
 split
 ·rename_i q; rw [if_pos q] at h0; exact absurd rfl h0
 ·rfl
def q8s {n:Int} {U t:Nat} (hU:U+8=65536) (h1 : -400≤n) (h2:n≤400) (ht:(t:Int)=U+8+n):ACt 45 [uv 4607182418800017408,iv n,iv 0] (uv (pw2 t:Nat)):=by
 have e1:flz 1=4607182418800017408:=qjQ;have hf:q0N 4607182418800017408:=by rw [← e1]; exact q18 (by omega)
 have ho:ofZ 4607182418800017408=(1:Int)*(2:Int) ^ (U+8):=by rw [← e1,q2H hU (by omega)]
 obtain ⟨o1,o2⟩:=qbj (m:=(1:Int)*(2:Int) ^ (U+8)) (o:=1) (k:=U+8) rfl rfl;have hne:(1:Int)*(2:Int) ^ (U+8)≠0:=Int.mul_ne_zero Oq (Int.ne_of_gt (q0H _));have hd:dyE ((1:Int)*(2:Int) ^ (U+8))=0:=by unfold dyE; rw [if_neg hne,o2]; omega
 have hm:=q5T (m:=1) (E:=n) Oq (by have:bl (1:Int).natAbs≤1:=q0O (by decide); omega);rw [show (n+65536).toNat=t by omega] at hm;have:=q7F (x:=4607182418800017408) (n:=n) (W:=1*(2:Int) ^ t) (mode:=0) (by omega) hf (by omega) (by omega) (by rw [ho,o1,hd,Int.zero_add]; exact hm);rw [if_pos (show q1Q 4607182418800017408=1 from rfl)] at this;exact this
def qjc {e:Int} {U t:Nat} (hU:U+8=65536) (h1:U≤t+400) (h2:t≤U+400) (he:e=(t:Int)-(U+8)):ACt 47 [uv (pw2 t:Nat)] (.tu [iv e,bv true]):=by
 obtain ⟨p1,p2,p3⟩:=q6o hU (show U≤t+500 by omega) Oq;have hz:ofZ (pw2 t)≠0:=by rw [p1]; exact Int.ne_of_gt (q0H _)
 have:=qj9 p2 (qbb p2 p3 hz) (q0Z p3) hz;obtain ⟨o1,o2⟩:=qbj (m:=(2:Int) ^ t) (o:=1) (k:=t) rfl (by rw [Int.one_mul]);have hl:lgV (ofZ (pw2 t))=e:=by
  rw [p1];unfold lgV dyE;rw [if_neg (Int.ne_of_gt (q0H _)),o1,o2,show bl (1:Int).natAbs=1 from rfl];omega
 rw [hl] at this;exact this
def qml {c n:Int} {U t:Nat} (hU:U+8=65536) (hc:c.natAbs < 9007199254740992) (h1 : -400≤n) (h2:n≤400) (ht:(t:Int)=U+8+n):ACt 45 [uv (flz c:Nat),iv n,iv 0] (uv (fR 0 (c*(2:Int) ^ t):Nat)):=by
 have hv:mkV (od (ofZ (flz c))) (dyE (ofZ (flz c))+n)=some (c*(2:Int) ^ t):=by
  rw [q0W (q4c hc),← hU]
  by_cases h0:c=0
  ·subst h0;rw [Int.zero_mul,Int.zero_mul,q1U,q1E]
  ·have hb:bl c.natAbs≤53:=q0O hc;have hne:c*(2:Int) ^ (U+8)≠0:=Int.mul_ne_zero h0 (Int.ne_of_gt (q0H _));have e:=q1e (c*(2:Int) ^ (U+8));have:dyE (c*(2:Int) ^ (U+8))+n=((n-65536:Int))+(tz (c*(2:Int) ^ (U+8)).natAbs:Nat):=by unfold dyE; rw [if_neg hne]; omega
   rw [this,← q1G,e,q1G];have hm:=q5T (m:=c) (E:=n) Oq Oq;rw [show (n+65536).toNat=t by omega] at hm;rw [show n-65536+((U+8:Nat):Int)=n by omega];exact hm
 have:=q7F (n:=n) (mode:=0) (q4d hc) (q18 hc) Oq Oq hv
 by_cases hk:q1Q (flz c)=1
 ·rw [if_pos hk] at this;exact this
 ·rw [if_neg hk] at this;have h0:c=0:=Classical.byContradiction fun h=>hk (qbb (q4d hc) (q18 hc) (by rw [q0W (q4c hc)]; exact Int.mul_ne_zero h (Int.ne_of_gt (q0H _))));subst h0;rw [Int.zero_mul,show fR 0 0=0 from if_pos rfl];rw [q5z] at this ⊢;exact this
def qdO:ACt 51 [] (bv true):=by
 obtain ⟨c2,h2⟩:∃ c,c=flz 2:=⟨_,rfl⟩;obtain ⟨c4,h4⟩:∃ c,c=flz 4:=⟨_,rfl⟩;obtain ⟨c8,h8⟩:∃ c,c=flz 8:=⟨_,rfl⟩;have hI:∀ z:Int,z.natAbs≤9→ACt 46 [iv z,iv 0] (uv (flz z:Nat)):=fun z hz=>q5P (z:=z) (mode:=0) Oq Oq (qbs (by have:=q0O (n:=z.natAbs) (k:=4) (by omega); omega));have C1:=hI 2 Oq;have C2:=hI 4 Oq;have C3:=hI 8 Oq;have hu:∀ z:Int,z.natAbs≤9→flz z < 18446744073709551616∧q0N (flz z):=fun z hz=>⟨q4d Oq,q18 Oq⟩;have u2:=hu 2 Oq;have u4:=hu 4 Oq;have u8:=hu 8 Oq;have hg:=qpS (K:=65536) rfl h2 h4 h8;rw [← h2] at C1 u2;rw [← h4] at C2 u4;rw [← h8] at C3 u8;clear hI hu h2 h4 h8;have hm:TOk (fun _ _=>some c4) 1 1:=⟨by omega,by omega,by omega,fun j i x _ _ h=>by cases h; exact u4.1,fun j i x _ _ h=>by cases h; exact u4.2⟩;have C4:=q9N (f:=fun _ _=>some c4) (F:=([0],[0,1],[0],[c2])) (b:=[c8]) (steps:=3) hm (by omega) (by simp) (by simp) (by simp) (by simp) (fun x hx=>by simp at hx; subst hx; exact u2.1) (fun x hx=>by simp at hx; subst hx; exact u8.1) (by simp);rw [hg] at C4;have hC4:ACt 48 [.ag [iv 1,iv 1,.sl none [iv 0,iv 1],.sl none [iv 0],.sl none [uv c4]],.ag [.sl none [iv 0],.sl none [iv 0,iv 1],.sl none [iv 0],.sl none [uv c2]],.sl none [uv c8],iv 3] (.tu [.sl none [uv c2],.sl none [uv c8,uv 0],iv 0]):=C4;clear C4;have C5:ACt 32 [.sl none [uv c2],.sl none [uv c2]] (bv true):=q5W (l:=[c2]) (by simp);have C6:ACt 32 [.sl none [uv c8,uv 0],.sl none [uv c8,uv 0]] (bv true):=q5W (l:=[c8,0]) (by simp);have N1:Nz (bv true):=qn1;refine ac0 Tryz.func51 Tryz.ntmps51 [.tmp 0] ?_;refine wk ?_;refine q4s fun K0 hK0=>?_;refine q83 4 fun K hK=>?_;rw [List.take_succ_cons,List.take_succ_cons,List.take_succ_cons,List.take_succ_cons,List.take_zero,List.drop_succ_cons,List.drop_succ_cons,List.drop_succ_cons,List.drop_succ_cons,List.drop_zero]
 try refine Zz ?_
 refine ⟨_,_,LeM [] rfl rfl (xs:=[(1,uv (c2:Nat)),(3,uv (c8:Nat)),(24,.ag [iv 1,iv 1,.sl none [iv 0,iv 1],.sl none [iv 0],.sl none [uv (c4:Nat)]]),(25,.ag [.sl none [iv 0],.sl none [iv 0,iv 1],.sl none [iv 0],.sl none [uv (c2:Nat)]]),(27,.sl none [uv (c8:Nat)])]) (kv:=[]) (bs:=[]) (kb:=[]) ?_,?_⟩
 ·try refine Zz ?_
  refine ⟨⟨q3o rfl (clI (l:=[0,1])) rfl rfl,q3o rfl (clI (l:=[0])) rfl rfl,q3o rfl (clU (l:=[c4])) rfl rfl⟩,⟨q3o rfl (clI (l:=[0])) rfl rfl,q3o rfl (clI (l:=[0,1])) rfl rfl,q3o rfl (clI (l:=[0])) rfl rfl,q3o rfl (clU (l:=[c2])) rfl rfl⟩,q3o rfl (clU (l:=[c8])) rfl rfl⟩
 try refine Zz ?_
 refine q0Q hC4 ?_
 try refine Zz ?_
 refine hK _ _ ?_;refine hK0 _ _ ?_;clear hK hK0 K K0;exact wk trivial
def qaZ (v:Nat→Nat):Nat→Nat→Option Nat:=fun j i=>if i=j then some (v j) else none
def qhD {v:Nat→Nat} {j:Nat}:∀ n,tZ (qaZ v) j n=if j < n then [(j,v j)] else []
 | 0=>by rw [if_neg (by omega)]; rfl
 | n+1=>by
  rw [tZ_s,qhD n];unfold qaZ
  by_cases h:n=j
  ·subst h; rw [if_neg (by omega),if_pos rfl,if_pos (by omega)]; rfl
  ·rw [if_neg h]
   by_cases h2:j < n
   ·rw [if_pos h2,if_pos (by omega)]; simp
   ·rw [if_neg h2,if_neg (by omega)]; rfl
def qhE {v:Nat→Nat} {n:Nat}:∀ j,j≤n→tM (qaZ v) n j=(q0t (j+1),q0t j,(List.range j).map v)
 | 0,_=>rfl
 | j+1,h=>by
  have e:tM (qaZ v) n (j+1)=((tM (qaZ v) n j).1 ++ [((tC (qaZ v) j (tM (qaZ v) n j).2 n).1.length:Int)],tC (qaZ v) j (tM (qaZ v) n j).2 n):=rfl;have u1:q0t (j+1+1)=q0t (j+1) ++ [((j+1:Nat):Int)]:=q2x _;have u2:q0t (j+1)=q0t j ++ [(j:Int)]:=q2x _;rw [e,qhE j (by omega),q7g,qhD,if_pos (by omega),u1,List.range_succ,List.map_append];dsimp only;rw [List.length_append,q1C];refine Prod.ext rfl (Prod.ext ?_ rfl);exact u2.symm
section
variable {raw:List Nat} {U n:Nat}
def exH (raw:List Nat) (i:Nat):Nat:=q4t raw i % 9
def exC (raw:List Nat) (i:Nat):Int:=((q4t raw ((50+i:Nat):Int) % 1048576:Nat):Int)-524288
def q7I (i:Nat):(exC raw i).natAbs < 9007199254740992:=by unfold exC; omega
def exA (raw:List Nat) (U i:Nat):Nat:=pw2 (U+2*exH raw i)
def exF (raw:List Nat) (o:List Int) (U p:Nat):Nat:=pw2 (U+4+exH raw (o.getD p 0).toNat)
def exB (raw:List Nat) (i:Nat):Nat:=flz (exC raw i)
def qoT {o:List Int} (hU:U+8=65536) (hp:q73 o n) (hn:n≤100) :
  ∃ l:List Nat,l.length≤1∧grS n n (qaZ (exA raw U)) (o,q0t (n+1),q0t n,(List.range n).map (exF raw o U)) ((List.range n).map (exB raw)) 1=(exX n U (exH raw) (exC raw),l ++ [0],0):=by
 have h8:∀ i,exH raw i≤8:=fun i=>by unfold exH; omega
 refine qnz hU ⟨hp,by simp,hn,fun p hpn=>?_,h8⟩ ⟨fun j i h=>if_neg h,fun j hj=>⟨exA raw U j,if_pos rfl,?_⟩⟩ (by simp) (fun i hi=>q3i hi) fun i=>q7I i
 ·rw [q3i hpn];have:=h8 (o.getD p 0).toNat;have:=q6o (t:=U+4+exH raw (o.getD p 0).toNat) hU Oq Oq;exact ⟨this.2.1,this.2.2,this.1⟩
 ·have:=h8 j;have:=q6o (t:=U+2*exH raw j) hU Oq Oq;exact ⟨this.2.1,this.2.2,this.1⟩
def qhA (hU:U+8=65536) (i:Nat):exA raw U i < 18446744073709551616∧q0N (exA raw U i):=by
 have:exH raw i≤8:=by unfold exH; omega
 have:=q6o (t:=U+2*exH raw i) hU Oq Oq;exact ⟨this.2.1,this.2.2⟩
def qoU {o:List Int} (hU:U+8=65536) (i:Nat):exF raw o U i < 18446744073709551616:=by
 have:exH raw (o.getD i 0).toNat≤8:=by unfold exH; omega
 exact (q6o (t:=U+4+exH raw (o.getD i 0).toNat) hU Oq Oq).2.1
def qjl (hU:U+8=65536) (hn:n≤100):TOk (qaZ (exA raw U)) n n:=by
 refine ⟨by omega,by omega,Nat.le_trans (Nat.mul_le_mul hn hn) Oq,fun j i x _ _ h=>?_,fun j i x _ _ h=>?_⟩ <;> unfold qaZ at h <;> split at h <;> cases h
 ·exact (qhA hU j).1
 ·exact (qhA hU j).2
end
end Go.Proofs.YtfmojhhokfkdaaaGreatDoor
namespace Go.E
open Go Go.RowKit
def q9n {T:TypeId} {id n:Nat} {k:Kd} {h h':Hp} {l:List PV} [NL] (h1:h id=some ⟨T,k,l,false⟩) (hc:ClL l) (h2:h' id=none) (hn:l.length=n):LeV (q4u []) h h' (.ow id k 0 n) (.sl k l):=qd3 (T:=T) (l:=l) h1 hc (fun i hi=>by
 have hi:some i=some id:=hi;cases hi;exact h2) (by rw [List.drop_zero]; exact List.take_of_length_le (by omega))
end Go.E
namespace Go.Proofs.YtfmojhhokfkdaaaGreatDoor
open Go Go.E Go.Sp
def q5D {raw:List Nat} {n:Int} (hr:raw.length≤9223372036854775807) (h1 : -9223372036854775808≤n) (h2:n≤9223372036854775807):ACt 8 [pF raw,iv n] (bv true):=by
 have cA:=qdO;have cM:=qbq (a:=n) (n:=5) h1 h2 Oq Oq;have hm:q6Y n 5 < 5:=by unfold q6Y; omega
 generalize q6Y n 5=m at *;obtain ⟨N,hN⟩:∃ N,N=m+1:=⟨_,rfl⟩;have w0:IntKind.i64.wrap (1+(m:Int))=(N:Int):=by rw [i64_in (by omega) (by omega)]; omega
 have cO:=qe3 (raw:=raw) (N:=N) hr Oq;have hpm:=qe4 raw N;have hol:=q5m raw N;have hp:q73 (q3k raw N) N:=⟨by omega,fun x hx=>by have:=hpm.1 x hx; omega,hpm.2⟩;generalize q3k raw N=o at *;obtain ⟨U,hU⟩:∃ U,U+8=65536:=⟨65528,rfl⟩;have hH:∀ i,exH raw i≤8:=fun i=>by unfold exH; omega
 obtain ⟨k4,hk4⟩:∃ k4:Nat→Int,k4=fun i=>((exH raw i:Nat):Int)-4:=⟨_,rfl⟩;have hk:∀ i,-4≤k4 i∧k4 i≤4:=fun i=>by have:=hH i; rw [hk4]; dsimp only; omega
 have cW:=fun (k:Int) (a:0≤k) (b:k≤100)=>qal (raw:=raw) (k:=k) hr Oq Oq;have hw:=fun (k:Int)=>q79 (raw:=raw) (k:=k);have cS1:∀ i,ACt 45 [uv 4607182418800017408,iv (2*k4 i),iv 0] (uv (exA raw U i:Nat)):=fun i=>by
  have:=hk i;exact q8s hU (by omega) (by omega) (by rw [hk4]; dsimp only; omega)
 have cB:∀ i,ACt 46 [iv (exC raw i),iv 0] (uv (exB raw i:Nat)):=fun i=>by
  have:=q7I (raw:=raw) i;exact q5P (mode:=0) Oq Oq (qbs (by have:=q0O (n:=(exC raw i).natAbs) (k:=53) this; omega))
 have cE:∀ i,ACt 47 [uv (exA raw U i:Nat)] (.tu [iv (2*k4 i),bv true]):=fun i=>by
  have:=hH i;exact qjc hU (by omega) (by omega) (by rw [hk4]; dsimp only; omega)
 have cS2:∀ p,ACt 45 [uv 4607182418800017408,iv (k4 (o.getD p 0).toNat),iv 0] (uv (exF raw o U p:Nat)):=fun p=>by
  have:=hk (o.getD p 0).toNat;exact q8s hU (by omega) (by omega) (by rw [hk4]; dsimp only; omega)
 obtain ⟨vX,hX⟩:∃ vX:Nat→Nat,vX=fun i=>fR 0 (exC raw i*(2:Int) ^ (U+2*(8-exH raw i))):=⟨_,rfl⟩;have cS3:∀ i,ACt 45 [uv (exB raw i:Nat),iv (-(2*k4 i)),iv 0] (uv (vX i:Nat)):=fun i=>by
  have:=hk i;have:=hH i;rw [hX];exact qml hU (q7I i) (by omega) (by omega) (by rw [hk4]; dsimp only; omega)
 have cOf:∀ i,ACt 19 [uv (vX i:Nat)] (pV (ofZ (vX i))):=fun i=>by
  have:=hH i;have:=qaV (m:=exC raw i) (t:=U+2*(8-exH raw i)) (K:=U+8) hU (q7I i) Oq Oq;rw [hX];exact qb6 this.2.1 (q0Z this.2.2)
 obtain ⟨l,hl,hG⟩:=qoT (raw:=raw) hU hp Oq;have cG:=q9N (f:=qaZ (exA raw U)) (F:=(o,q0t (N+1),q0t N,(List.range N).map (exF raw o U))) (b:=(List.range N).map (exB raw)) (steps:=1) (R:=N) (C:=N) (qjl hU (by omega)) (by omega) (by dsimp only; omega) (by dsimp only; rw [q1C]; omega) (by dsimp only; rw [q1C]; omega) (by simp; omega) (fun x hx=>by
  obtain ⟨i,_,rfl⟩:=List.mem_map.1 hx;exact qoU hU i) (fun x hx=>by
  obtain ⟨i,_,rfl⟩:=List.mem_map.1 hx;exact q4d (q7I i)) (by simp; omega)
 rw [hG,show exX N U (exH raw) (exC raw)=(List.range N).map vX by rw [hX]; rfl] at cG;unfold pT qbh q3x at cG;rw [qhE N (Nat.le_refl _)] at cG;dsimp only at cG;have hC:∀ i,-524288≤exC raw i∧exC raw i≤524287:=fun i=>by unfold exC; omega
 have e9:∀ j:Nat,((q4t raw (j:Int):Nat):Int).tmod 9=((exH raw j:Nat):Int):=fun j=>rfl;have w9:∀ j,IntKind.i64.wrap (((exH raw j:Nat):Int)-4)=k4 j:=fun j=>by have:=hH j; rw [hk4,i64_in (by omega) (by omega)]
 have w2:∀ j,IntKind.i64.wrap (2*k4 j)=2*k4 j:=fun j=>by have:=hk j; rw [i64_in (by omega) (by omega)]
 have w3:∀ j,IntKind.i64.wrap (k4 j)=k4 j:=fun j=>by have:=hk j; rw [i64_in (by omega) (by omega)]
 have wn:∀ j,IntKind.i64.wrap (-(2*k4 j)) = -(2*k4 j):=fun j=>by have:=hk j; rw [i64_in (by omega) (by omega)]
 have q2:∀ j,Int.tdiv (2*k4 j) 2=k4 j:=fun j=>Int.mul_tdiv_cancel_left _ Oq;have e10:∀ j:Nat,((q4t raw ((50+j:Nat):Int):Nat):Int).tmod 1048576=((q4t raw ((50+j:Nat):Int) % 1048576:Nat):Int):=fun j=>rfl;have w10:∀ j,IntKind.i64.wrap (((q4t raw ((50+j:Nat):Int) % 1048576:Nat):Int)-524288)=exC raw j:=fun j=>by rw [i64_in (by omega) (by omega)]; rfl
 have cK:=q4F (f:=0) Oq;rw [show q1Q 0=0 from rfl] at cK;have cD:=fun V=>qeP (V:=V);generalize exA raw U=vA at *;generalize exF raw o U=vF at *;generalize exB raw=vB at *;generalize hVH:exH raw=vH at *;generalize exC raw=vC at *;have L1:(l ++ [0]).length=l.length+1:=by simp
 have L2:(l ++ [0])[l.length]?=some 0:=by simp
 generalize l ++ [0]=L at *;generalize hE:l.length=E at *;clear hG hpm hE hX hk4;have gA:∀ i,i < N→((List.range N).map vA)[i]?=some (vA i):=fun i hi=>by simp [hi]
 have gB:∀ i,i < N→((List.range N).map vB)[i]?=some (vB i):=fun i hi=>by simp [hi]
 have gX:∀ i,i < N→((List.range N).map vX)[i]?=some (vX i):=fun i hi=>by simp [hi]
 have lA:((List.range N).map vA).length=N:=by simp
 have lB:((List.range N).map vB).length=N:=by simp
 have lX:((List.range N).map vX).length=N:=by simp
 have lF:((List.range N).map vF).length=N:=by simp
 have uS:∀ j,q0t (j+1)=q0t j ++ [(j:Int)]:=fun j=>q2x j;have uL:∀ j,(q0t j).length=j:=fun j=>q1C j;have rS:∀ (v:Nat→Nat) j,(List.range (j+1)).map v=(List.range j).map v ++ [v j]:=fun v j=>by rw [List.range_succ,List.map_append]; rfl
 refine ac0 Tryz.func8 Tryz.ntmps8 [.tmp 4] ?_;refine wk1 w0 ?_;refine q0C (fun j=>j≤N) [0,1,5,6] [6,30] Lk Lk (fun j:Nat=>[(8,iv j),(7,.ow 1004 none 0 j)]) (fun j=>[(5,⟨26,some 5,[.ag [iv N,iv N,.ow 1001 none 0 (j+1),.ow 1002 none 0 j,.ow 1003 none 0 j]],false⟩),(1001,⟨3,none,(q0t (j+1)).map fun z=>iv z,false⟩),(1002,⟨3,none,(q0t j).map fun z=>iv z,false⟩),(1003,⟨43,none,((List.range j).map vA).map fun z:Nat=>uv z,false⟩),(1004,⟨43,none,((List.range j).map vB).map fun z:Nat=>uv z,false⟩)]) (fun j=>N-j) 0 (Nat.zero_le _) ?_ ?_
 ·refine LeM [(1001,some 25),(1002,none),(1003,none),(1004,none)] rfl rfl ?_;refine Zz ?_
  repeat' (with_reducible apply And.intro)
  all_goals rfl
 ·intro J hJ
  by_cases hlt:J < N
  ·have q:(J:Int) < N:=by omega
   have ww:IntKind.i64.wrap ((J:Int)+1)=((J+1:Nat):Int):=by rw [i64_in (by omega) (by omega)]; omega
   have w5:IntKind.i64.wrap (50+(J:Int))=((50+J:Nat):Int):=by rw [i64_in (by omega) (by omega)]; omega
   have c1:=cW (J:Int) Oq Oq;have c2:=cW ((50+J:Nat):Int) Oq Oq;have u1:=hw (J:Int);have u2:=hw ((50+J:Nat):Int);have d1:=e9 J;have d2:=e10 J;have d3:=w9 J;have d4:=w10 J;have d5:=w2 J;have cS:=cS1 J;have cF:=cB J;have b1:=hH J;clear cW hw e9 e10 w9 w10 w2 cS1 cB cG cE cS2 cS3 cOf cA;generalize q4t raw (J:Int)=W1 at *;generalize q4t raw ((50+J:Nat):Int)=W2 at *;have v1:IntKind.i64.wrap (((vH J:Nat):Int))=((vH J:Nat):Int):=i64_in Oq Oq;have v2:IntKind.i64.wrap ((W2 % 1048576:Nat):Int)=((W2 % 1048576:Nat):Int):=i64_in Oq Oq;have s1:=uS (J+1);have s2:=uS J;have s3:=rS vA J;have s4:=rS vB J;have t1:=uL (J+1);have t2:=uL J;have t3:((List.range J).map vA).length=J:=by simp
   have t4:((List.range J).map vB).length=J:=by simp
   refine wk1 (x6 q ww w5 d1 d2 (x6 d3 d4 d5 v1 v2 (x4 t1 t2 t3 t4))) ?_;refine ⟨J+1,by omega,by omega,?_⟩;rw [s1,s3,s4];refine LeM [(1001,some 53),(1002,some 47),(1003,some 60),(1004,some 74)] rfl rfl ?_;refine Zz ?_;exact s2.symm
  ·obtain rfl:J=N:=by omega
   have q:¬ (J:Int) < J:=by omega
   have t1:=uL (J+1);have t2:=uL J;refine wk1 q ?_;refine q75 (LeM [] rfl rfl (xs:=[(1,iv J),(5,.pt 5 0 0),(6,.pt 6 0 0),(7,pF ((List.range J).map vB)),(10,iv 0)]) (kv:=[]) (bs:=[(5,⟨26,some 5,[.ag [iv J,iv J,pI (q0t (J+1)),pI (q0t J),pF ((List.range J).map vA)]],false⟩),(6,⟨72,some 4,[.ag [pI o,.ow 30 none 0 1,qaf,qaf]],false⟩),(30,⟨3,none,[iv 0],false⟩)]) (kb:=[]) ?_) ?_
   ·try refine Zz ?_
    repeat' (with_reducible apply And.intro)
    all_goals first | exact q9n (T:=43) rfl clU rfl (by simp) | exact q9n (T:=3) rfl clI rfl (by rw [List.length_map,uL])
   refine q0C (fun k=>k≤J) [1,5,6,7] [5] Lk Lk (fun k:Nat=>[(10,iv k)]) (fun k=>[(6,⟨72,some 4,[.ag [pI o,.ow 2001 none 0 (k+1),.ow 2002 none 0 k,.ow 2003 none 0 k]],false⟩),(2001,⟨3,none,(q0t (k+1)).map fun z=>iv z,false⟩),(2002,⟨3,none,(q0t k).map fun z=>iv z,false⟩),(2003,⟨43,none,((List.range k).map vF).map fun z:Nat=>uv z,false⟩)]) (fun k=>J-k) 0 (Nat.zero_le _) ?_ ?_
   ·refine LeM [(2001,some 30),(2002,none),(2003,none)] rfl rfl ?_;refine Zz ?_
    repeat' (with_reducible apply And.intro)
    all_goals rfl
   ·intro K hK
    by_cases hlt:K < J
    ·have q:(K:Int) < J:=by omega
     have ww:IntKind.i64.wrap ((K:Int)+1)=((K+1:Nat):Int):=by rw [i64_in (by omega) (by omega)]; omega
     obtain ⟨z,hz⟩:∃ z,o[K]?=some z:=⟨_,List.getElem?_eq_getElem (by have:=hp.1; omega)⟩;obtain ⟨hz0,hz1⟩:=hp.2.1 z (List.mem_of_getElem? hz);obtain ⟨x,rfl⟩:∃ x:Nat,z=x:=⟨z.toNat,by omega⟩;have eo:(o.getD K 0).toNat=x:=by rw [List.getD_eq_getElem?_getD,hz]; rfl
     have c1:=cS2 K;rw [eo] at c1;have c2:=cE x;have q3:=q2 x;have gx:=gA x Oq;have s1:=uS (K+1);have s2:=uS K;have s3:=rS vF K;have t1:=uL (K+1);have t2:=uL K;have t3:((List.range K).map vF).length=K:=by simp
     clear cW hw e9 e10 w9 w10 w2 cS1 cB cG cE cS2 cS3 cOf cA cD;have w4:=w3 x;refine wk1 (x6 q ww hz gx q3 (x4 t1 t2 t3 w4)) ?_;refine ⟨K+1,by omega,by omega,?_⟩;rw [s1,s3];refine LeM [(2001,some 104),(2002,some 98),(2003,some 111)] rfl rfl ?_;refine Zz ?_;exact s2.symm
    ·obtain rfl:K=J:=by omega
     have q:¬ (K:Int) < K:=by omega
     refine wk1 q ?_;refine q75 (LeM [] rfl rfl (xs:=[(1,iv K),(5,.pt 5 0 0),(6,.pt 6 0 0),(7,pF ((List.range K).map vB))]) (kv:=[]) (bs:=[(5,⟨26,some 5,[.ag [iv K,iv K,pI (q0t (K+1)),pI (q0t K),pF ((List.range K).map vA)]],false⟩),(6,⟨72,some 4,[.ag [pI o,pI (q0t (K+1)),pI (q0t K),pF ((List.range K).map vF)]],false⟩)]) (kb:=[]) ?_) ?_
     ·try refine Zz ?_
      repeat' (with_reducible apply And.intro)
      all_goals first | exact q9n (T:=43) rfl clU rfl (by simp) | exact q9n (T:=3) rfl clI rfl (by rw [List.length_map,uL])
     have b1:((K:Int) != (K:Int))=false:=by simp
     have b2:¬ ((E+1:Nat):Int) < 1:=by omega
     have b3:IntKind.i64.wrap (((E+1:Nat):Int)-1)=((E:Nat):Int):=by rw [i64_in (by omega) (by omega)]; omega
     refine wk1 (x6 lX L1 L2 b1 b2 b3) ?_;refine q0C (fun i=>i≤K) [1,5,7,14] [5] Lk Lk (fun i:Nat=>[(17,iv i)]) (fun _=>[]) (fun i=>K-i) 0 (Nat.zero_le _) ?_ ?_
     ·refine LeM [] rfl rfl ?_;refine Zz ?_
      rfl
     ·intro i hi
      by_cases hlt:i < K
      ·have q:(i:Int) < K:=by omega
       have c1:=cE i;have c2:=cS3 i;have c3:=cOf i;have w:IntKind.i64.wrap (0-2*k4 i) = -(2*k4 i):=by rw [Int.zero_sub]; exact wn i
       have a1:=gA i hlt;have a2:=gB i hlt;have a3:=gX i hlt;have ww:IntKind.i64.wrap ((i:Int)+1)=((i+1:Nat):Int):=by rw [i64_in (by omega) (by omega)]; omega
       clear cE cS3 cOf cS1 cS2 cB cG cW;have N1:=nz_V (V:=ofZ (vX i));have c4:=cD (ofZ (vX i));have r1:(List.range K)[i]?=some i:=List.getElem?_range hlt;refine wk1 (x6 q w a1 a2 a3 (x2 ww r1)) ?_;refine ⟨i+1,by omega,by omega,?_⟩;refine LeM [] rfl rfl ?_;refine Zz ?_
       first | trivial | omega
      ·obtain rfl:i=K:=by omega
       have q:¬ (i:Int) < i:=by omega
       exact wk1 q trivial
end Go.Proofs.YtfmojhhokfkdaaaGreatDoor
