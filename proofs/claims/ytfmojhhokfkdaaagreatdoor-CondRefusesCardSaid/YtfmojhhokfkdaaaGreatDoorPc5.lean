/- CondBounds, CondLower, CondRefuses. 5/7. -/
import Derived.Test.YtfmojhhokfkdaaaGreatDoorPc4
set_option linter.unusedSimpArgs false
set_option linter.unusedVariables false
set_option maxRecDepth 20000
set_option maxHeartbeats 2000000
set_option linter.defProp false
namespace Go.E
open Go Go.RowKit
section
variable {T1 T2:TypeId} {K:Kd} {N R n:Nat} {row:Nat→List PV} {B B':Hp}
def q2N {i:Nat} (h1:i≠N) (h2:i≠n+R):q1X T1 T2 K N R (n+1) row B i=q1X T1 T2 K N R n row B i:=by
 unfold q1X;rw [if_neg h1,if_neg h1]
 by_cases h:R≤i∧i < R+n
 ·rw [if_pos h,if_pos (by omega)]
 ·rw [if_neg h,if_neg (by omega)]
def q1i {i:Nat} (h:B i=B' i):q1X T1 T2 K N R n row B i=q1X T1 T2 K N R n row B' i:=by
 unfold q1X; rw [h]
def q7H {j:Nat} (hj:j < n):q1X T1 T2 K N R n row B (j+R)≠none:=by
 unfold q1X
 split
 ·exact Option.some_ne_none _
 ·rw [if_pos (by omega)]; exact Option.some_ne_none _
end
end Go.E
namespace Go.Proofs.YtfmojhhokfkdaaaGreatDoor
open Go Go.E Go.Sp
section
open Classical
def qhs:LuS:=⟨[],fun _ _=>0,fun _ _=>false,fun _ _=>0,fun _ _=>false⟩
variable (F:Nat→Nat→Option Nat) (mi:List Int) (n:Nat) (cols:List Int) (num den:Nat)
noncomputable def q3M:Nat→Int × Nat × LuS
 | 0=>(0,0,qhs)
 | k+1=>if (q3M k).1=0 then ((q6V F mi n (q3M k).2.2 (lfN cols k) k num den).1,if (q6V F mi n (q3M k).2.2 (lfN cols k) k num den).1=9 then k else 0,(q6V F mi n (q3M k).2.2 (lfN cols k) k num den).2) else q3M k
noncomputable def qo4:LUt:=if (q3M F mi n cols num den n).1=0 then qsc (q3M F mi n cols num den n).2.2 cols n else ⟨[],[],[],[],[],[],[],[]⟩
noncomputable def qtE:PV:=.tu [pLU (qo4 F mi n cols num den),iv (if (q3M F mi n cols num den n).1=0 then n else (q3M F mi n cols num den n).2.1:Nat),iv (q3M F mi n cols num den n).1]
end
section
variable {F:Nat→Nat→Option Nat} {mi:List Int} {n:Nat} {cols:List Int} {num den:Nat} {S r:LuS} {j k:Nat}
def q7b {g:Nat→Nat→Nat} {r c v:Nat} (h:q5q g) (h1:q0M v) (h2:v < 18446744073709551616):q5q (q38 g r c v):=fun x y=>by
 unfold q38
 split
 ·exact ⟨h1,h2⟩
 ·exact h x y
def qjw:∀ (m:Nat) (q:LuS),q5q S.l→q5q S.u→upS F S j k m=some q→q5q q.l∧q5q q.u∧q.rows=S.rows
 | 0,q,h1,h2,h=>by unfold upS at h; cases h; exact ⟨h1,h2,rfl⟩
 | m+1,q,h1,h2,h=>by
  unfold upS at h;obtain ⟨t,ht,h⟩:=Option.bind_eq_some_iff.1 h;obtain ⟨q1,q2,q3⟩:=qjw m t h1 h2 ht
  split at h
  ·cases h; exact ⟨q1,q7b q2 (by assumption) q9C,q3⟩
  ·cases h
def qku {z:Nat→Int} {d:Int}:∀ (m:Nat) (q:LuS),q5q S.l→loS S k z d m=some q→q5q q.l∧q.u=S.u∧q.rows=S.rows
 | 0,q,h1,h=>by unfold loS at h; cases h; exact ⟨h1,rfl,rfl⟩
 | m+1,q,h1,h=>by
  unfold loS at h;obtain ⟨t,ht,h⟩:=Option.bind_eq_some_iff.1 h;obtain ⟨q1,q2,q3⟩:=qku m t h1 ht
  split at h
  ·cases h; exact ⟨q1,q2,q3⟩
  ·split at h
   ·cases h; exact ⟨q7b q1 (by assumption) qe3,q2,q3⟩
   ·cases h
structure LuG (n k:Nat) (S:LuS):Prop where
 l:q5q S.l
 u:q5q S.u
 r:∀ x ∈ S.rows,x < n
 len:S.rows.length=k
def qom (h:LuG n k S) (he:q6V F mi n S j k num den=(0,r)):LuG n (k+1) r:=by
 unfold q6V at he
 split at he
 ·cases he
 ·rename_i q hq;obtain ⟨q1,q2,q3⟩:=qjw k q h.l h.u hq;unfold colG at he
  split at he
  ·rename_i hfin
   split at he
   ·cases he
   ·rename_i hneg
    split at he
    ·cases he
    ·rename_i t ht;obtain ⟨p,hp⟩:∃ p,p=(bsP (rsV F q j k) q mi num den (mxZ (rsV F q j k) n) n).toNat:=⟨_,rfl⟩;have hpn:p < n:=by have:=(qgK (v:=rsV F q j k) (S:=q) (mi:=mi) (num:=num) (den:=den) (w:=mxZ (rsV F q j k) n) n).2; omega
     rw [← hp] at ht;have hvl:rsV F q j k p < 18446744073709551616:=by
      unfold rsV
      split
      ·omega
      ·exact q9C
     obtain ⟨t1,t2,t3⟩:=qku (S:=pvS q k (rsV F q j k) p) n t q1 ht;cases he;refine ⟨t1,?_,?_,?_⟩
     ·rw [t2]; exact q7b q2 (hfin p hpn) hvl
     ·rw [t3];intro x hx
      rcases List.mem_append.1 hx with hx | hx
      ·exact h.r x (by rw [← q3]; exact hx)
      ·simp at hx; subst hx; exact hpn
     ·rw [t3]
      show (q.rows ++ [p]).length=k+1
      rw [List.length_append,q3,h.len]; rfl
  ·cases he
def qaJ:∀ k,(q3M F mi n cols num den k).1=0→LuG n k (q3M F mi n cols num den k).2.2
 | 0,_=>⟨fun _ _=>⟨by unfold q0M; simp [q3M,qhs],by simp [q3M,qhs]⟩,fun _ _=>⟨by unfold q0M; simp [q3M,qhs],by simp [q3M,qhs]⟩,fun x hx=>by simp [q3M,qhs] at hx,rfl⟩
 | k+1,h=>by
  unfold q3M at h ⊢
  split at h
  ·rename_i h0;rw [if_pos h0];have ih:=qaJ k h0;exact qom ih (Prod.ext h rfl)
  ·rename_i h0; exact absurd h h0
def qbi {k:Nat} (h:(q3M F mi n cols num den k).1≠0):∀ k',k≤k'→q3M F mi n cols num den k'=q3M F mi n cols num den k
 | 0,hk=>by
  obtain rfl:k=0:=by omega
  rfl
 | k'+1,hk=>by
  by_cases e:k=k'+1
  ·subst e; rfl
  ·have ih:=qbi h k' Oq;rw [q3M,ih,if_neg h]
def qtw:(q6V F mi n S j k num den).1=0∨(q6V F mi n S j k num den).1=233∨(q6V F mi n S j k num den).1=9:=by
 unfold q6V
 split
 ·exact .inr (.inl rfl)
 ·unfold colG
  split
  ·split
   ·exact .inr (.inr rfl)
   ·split
    ·exact .inr (.inl rfl)
    ·exact .inl rfl
  ·exact .inr (.inl rfl)
def q25 (n a b c d:Nat):Hp:=q1X 24 43 none 6000 10000 a (rU n fun _ _=>0) (q1X 162 4 none 6001 20000 b (rB n fun _ _=>false) (q1X 24 43 none 6002 30000 c (rU n fun _ _=>0) (q1X 162 4 none 6003 40000 d (rB n fun _ _=>false) h0)))
def qrV:q25 n n n n n=stT n qhs:=rfl
variable {a b c d:Nat}
def q40 (ha:a≤100) (hb:b≤100) (hc:c≤100) (hd:d≤100):BOk (q25 n a b c d) win:=by
 unfold q25;have w:∀ R j m:Nat,5000≤R→R≤40000→m≤100→j < m→win (j+R):=fun R j m h1 h2 h3 h4=>⟨by omega,by omega⟩;exact q1h (q1h (q1h (q1h BOk.h0 (fun _ _=>qdX) Oq ⟨⟨by omega,by omega⟩,fun j hj=>w _ j _ Oq Oq hd hj⟩) (fun _ _=>q6n) Oq ⟨⟨by omega,by omega⟩,fun j hj=>w _ j _ Oq Oq hc hj⟩) (fun _ _=>qdX) Oq ⟨⟨by omega,by omega⟩,fun j hj=>w _ j _ Oq Oq hb hj⟩) (fun _ _=>q6n) Oq ⟨⟨by omega,by omega⟩,fun j hj=>w _ j _ Oq Oq ha hj⟩
def q7K {q:Nat→Prop} (hq:∀ i,10000≤i→q i):HId q (q25 n a b c d):=by
 unfold q25;exact qdO (qdO (qdO (qdO qw8 (fun _ _=>qdX) fun j _=>hq _ Oq) (fun _ _=>q6n) fun j _=>hq _ Oq) (fun _ _=>qdX) fun j _=>hq _ Oq) (fun _ _=>q6n) fun j _=>hq _ Oq
def qm8 {i:Nat} (hi:i < 6000):q25 n a b c d i=none:=by
 unfold q25;rw [q0K (by omega) (by omega),q0K (by omega) (by omega),q0K (by omega) (by omega),q0K (by omega) (by omega)]
 rfl
def qeB (ha:a≤100) (hb:b≤100) (hc:c≤100):q25 n a b c d 6000=some ⟨24,none,(List.range a).map fun j=>.ow (j+10000) none 0 n,false⟩:=by
 unfold q25; rw [q1a]; simp
def qeA (ha:a≤100) (hb:b≤100) (hc:c≤100):q25 n a b c d 6001=some ⟨162,none,(List.range b).map fun j=>.ow (j+20000) none 0 n,false⟩:=by
 unfold q25; rw [q0K (by omega) (by omega),q1a]; simp
def qdz (ha:a≤100) (hb:b≤100) (hc:c≤100):q25 n a b c d 6002=some ⟨24,none,(List.range c).map fun j=>.ow (j+30000) none 0 n,false⟩:=by
 unfold q25; rw [q0K (by omega) (by omega),q0K (by omega) (by omega),q1a]; simp
def qdy (ha:a≤100) (hb:b≤100) (hc:c≤100):q25 n a b c d 6003=some ⟨162,none,(List.range d).map fun j=>.ow (j+40000) none 0 n,false⟩:=by
 unfold q25; rw [q0K (by omega) (by omega),q0K (by omega) (by omega),q0K (by omega) (by omega),q1a]; simp
def qh4 {j:Nat}:List.replicate n (PV.vl (.int .u64 0))=rU n (fun _ _=>0) j:=by
 unfold rU;rw [List.map_const',List.length_range]; rfl
def qsG {j:Nat}:List.replicate n (PV.vl (.bool false))=rB n (fun _ _=>false) j:=by
 unfold rB;rw [List.map_const',List.length_range]
def tnS (o i:Nat):Option Nat:=if i=5000 then some o else if i=5001 then none else some i
def qqt {o i:Nat} (h:i < 5000):tnS o i=some i:=by unfold tnS; rw [if_neg (by omega),if_neg (by omega)]
def q64 {o i:Nat} (h:6000≤i):tnS o i=some i:=by unfold tnS; rw [if_neg (by omega),if_neg (by omega)]
def qqu {o:Nat}:tnS o 5000=some o:=rfl
def qmT {o:Nat}:tnS o 5001=none:=rfl
attribute [go_sem ↓] qqt qqu qmT
def qhO {J:Nat→Prop} {s:Nat→PV} {h:Hp} {xs kv:List (Nat × PV)} {bs:List (Nat × Bk)} {kb:List (Nat × Option Bk)} {o:Nat} (hn:n≤100) (hS:S.rows=[]) (hJ:∀ i,¬ J i) (hq:∀ i,6000≤i→win i→h i=stT n S i) (h0:h o=some ⟨161,some 5,[.ag [q0X,.ow 6000 none 0 n,.ow 6001 none 0 n,.ow 6002 none 0 n,.ow 6003 none 0 n]],false⟩) (ho:o < 5000) (hl:nmW o o (bs.map (·.1) ++ kb.map (·.1)))
  (hh:q4x (tnS o) h (q0t (q0r n S 5001) (hpM bs kb)) s xs∧q4x (tnS o) h (q0t (q0r n S 5001) (hpM bs kb)) s kv∧qdN (tnS o) h (q0t (q0r n S 5001) (hpM bs kb)) bs∧q90 (tnS o) h (q0t (q0r n S 5001) (hpM bs kb)) kb):Le J s h (stM xs kv) (q0t (q0r n S 5001) (hpM bs kb)):=by
 have hl:=fun i hi=>q48 hl i hi;have hex:∀ i,win i→∀ b,q0r n S 5001 i=some b→∃ b,q0t (q0r n S 5001) (hpM bs kb) i=some b:=fun i hi b hb=>⟨b,by rw [q0U hi]; exact hb⟩;refine LeT (tnS o) (fun i q=>(hJ i q).elim) (fun i hi hw=>?_) (fun i b hw hb=>?_) (fun i j k' hi hj ti tj=>?_) hh
 ·have:=(hl i hi).1; unfold win at hw; omega
 ·have hb2:=hb;unfold q0r q0Q at hb
  split at hb
  ·rename_i e; subst e; cases hb;unfold LeB;rw [qmT,hS]
   rfl
  ·rename_i e
   split at hb
   ·rename_i e2; subst e2; cases hb;unfold LeB;rw [qqu];refine ⟨_,h0,rfl,rfl,⟨rfl,rfl⟩,?_⟩;unfold q2l;simp only;rw [qa7];obtain ⟨q1,q2,q3,q4⟩:=qmd (S:=S) hn;have hx:∀ i,6000≤i→win i→stT n S i≠none→∃ b,q0t (q0r n S 5001) (hpM bs kb) i=some b:=fun i hi hw hq=>by
     obtain ⟨b,hb⟩:=Option.ne_none_iff_exists'.1 hq;exact hex i hw b (by unfold q0r; rw [q0A (by omega),q0A (by omega)]; exact hb)
    rw [qg8,q2t,q2t,q2t,q2t,q2t,qli,q3P,q3P,q3P,q3P,qmT,q64 (by omega),q64 (by omega),q64 (by omega),q64 (by omega),hS];exact ⟨⟨rfl,⟨_,by rw [q0U ⟨by omega,by omega⟩]; exact q0H,rfl⟩,rfl,rfl⟩,⟨rfl,hx _ (by omega) ⟨by omega,by omega⟩ q1,rfl,rfl,rfl⟩,⟨rfl,hx _ (by omega) ⟨by omega,by omega⟩ q2,rfl,rfl,rfl⟩,⟨rfl,hx _ (by omega) ⟨by omega,by omega⟩ q3,rfl,rfl,rfl⟩,⟨rfl,hx _ (by omega) ⟨by omega,by omega⟩ q4,rfl,rfl,rfl⟩,trivial⟩
   ·obtain ⟨q1,q2,q3⟩:=(q88 hn).b i b hb;have hi6:=qat hb;unfold LeB;rw [q64 hi6];refine ⟨b,(hq i hi6 hw).trans hb,rfl,rfl,⟨q2,q2⟩,LeL_self (fun j hj=>?_) _ q3⟩;obtain ⟨c,hc⟩:=Option.ne_none_iff_exists'.1 hj;have hj6:=qat hc;exact ⟨q64 hj6,hex j ((q88 hn).b j c hc).1 c (by unfold q0r; rw [q0A (by omega),q0A (by omega)]; exact hc)⟩
 ·have a:∀ i,(win i∧q0r n S 5001 i≠none∨i ∈ bs.map (·.1) ++ kb.map (·.1))→i≠o:=fun i hi=>by
   rcases hi with ⟨q,hi⟩ | hi
   ·unfold win at q; omega
   ·exact (hl i hi).2.1
  have a1:=a i hi;have a2:=a j hj;unfold tnS at ti tj
  split at ti <;> (try split at ti) <;> split at tj <;> (try split at tj) <;> cases ti <;> cases tj <;> first | omega | rfl | exact (a1 rfl).elim | exact (a2 rfl).elim
def qmf {τ:Nat→Option Nat} {h h':Hp} (hn:n≤100) (hq:Wn h (q0r n S 5001)) (ht:∀ i j,τ i=some j→5000 < j→win j→h' i=none):LeV τ h h' (.ow 5001 none 0 S.rows.length) (pRw S.rows)∧LeV τ h h' (.ow 6000 none 0 n) (tU n S.l)∧LeV τ h h' (.ow 6001 none 0 n) (tB n S.iL)∧LeV τ h h' (.ow 6002 none 0 n) (tU n S.u)∧LeV τ h h' (.ow 6003 none 0 n) (tB n S.iU):=by
 have hT:∀ i,6000≤i→win i→h i=stT n S i:=fun i h1 h2=>by
  rw [hq i h2];unfold q0r;rw [q0A (by omega),q0A (by omega)]
 have w:∀ R j:Nat,5000≤R→R≤40000→j < n→win (j+R):=fun R j h1 h2 h3=>⟨by omega,by omega⟩;refine ⟨q4l (T:=3) (l:=S.rows.map fun z:Nat=>iv z) ((hq 5001 ⟨by omega,by omega⟩).trans q0H) clRw (fun i hi=>ht i _ hi (by omega) ⟨by omega,by omega⟩) (by rw [List.drop_zero]; exact List.take_of_length_le (by simp)),?_,?_,?_,?_⟩
 ·exact q7F (fun _=>n) ((hT _ (by omega) ⟨by omega,by omega⟩).trans (qkU hn)) (fun j hj=>⟨(hT _ (by omega) (w _ j (by omega) (by omega) hj)).trans (qkQ hn hj),q6n,by simp⟩) fun i j hi hj=>ht i j hi (by omega) ⟨by omega,by omega⟩
 ·exact q7F (fun _=>n) ((hT _ (by omega) ⟨by omega,by omega⟩).trans (qkT hn)) (fun j hj=>⟨(hT _ (by omega) (w _ j (by omega) (by omega) hj)).trans (qkP hn hj),qdX,by simp⟩) fun i j hi hj=>ht i j hi (by omega) ⟨by omega,by omega⟩
 ·exact q7F (fun _=>n) ((hT _ (by omega) ⟨by omega,by omega⟩).trans (qkS hn)) (fun j hj=>⟨(hT _ (by omega) (w _ j (by omega) (by omega) hj)).trans (qkO hn hj),q6n,by simp⟩) fun i j hi hj=>ht i j hi (by omega) ⟨by omega,by omega⟩
 ·exact q7F (fun _=>n) ((hT _ (by omega) ⟨by omega,by omega⟩).trans (qkR hn)) (fun j hj=>⟨(hT _ (by omega) (w _ j (by omega) (by omega) hj)).trans (qkN hn hj),qdX,by simp⟩) fun i j hi hj=>ht i j hi (by omega) ⟨by omega,by omega⟩
def tnW (i:Nat):Option Nat:=if 5000≤i∧i < 1000000 then none else some i
def qqr {i:Nat} (h:i < 5000):tnW i=some i:=if_neg Oq
def qdi {i:Nat} (h1:5000≤i) (h2:i < 1000000):tnW i=none:=if_pos ⟨h1,h2⟩
attribute [go_sem ↓] qqr qdi
def qm7 {i:Nat} {x:Bk} (hb:q25 n 0 0 0 0 i=some x):x.xs=[]:=by
 unfold q25 at hb
 rcases q0s hb with ⟨rfl,rfl⟩ | ⟨_,h1,h2,_⟩ | ⟨_,_,hb⟩
 ·rfl
 ·omega
 rcases q0s hb with ⟨rfl,rfl⟩ | ⟨_,h1,h2,_⟩ | ⟨_,_,hb⟩
 ·rfl
 ·omega
 rcases q0s hb with ⟨rfl,rfl⟩ | ⟨_,h1,h2,_⟩ | ⟨_,_,hb⟩
 ·rfl
 ·omega
 rcases q0s hb with ⟨rfl,rfl⟩ | ⟨_,h1,h2,_⟩ | ⟨_,_,hb⟩
 ·rfl
 ·omega
 ·cases hb
def qnx {H:Hp}:WfH (q8M H):=⟨fun i b hb=>by
 unfold q8M at hb;obtain ⟨c,_,rfl⟩:=Option.map_eq_some_iff.1 hb;exact ⟨rfl,IdL.of fun x hx=>by
  obtain ⟨_,_,rfl⟩:=List.mem_map.1 hx;unfold IdP; trivial⟩⟩
attribute [go_sem ↓] qm8 qeB qeA qdz qdy
end
section
variable {F:Nat→Nat→Option Nat} {n:Nat} {cols:List Int} {num den:Nat}
def q5J (h:TOk F n n) (hn:n≤100) (hp:q2W cols n) (hnd:num≤den) (hd1:1≤den) (hd:den≤1000):ACt 64 [pT n n F,pI cols,iv num,iv den] (qtE F (tM F n n).2.1 n cols num den):=by
 have hll:cols.length=n:=by have:=hp.1; omega
 have hlf:∀ i,i < n→∃ x:Nat,cols[i]?=some (x:Int)∧lfN cols i=x∧x < n:=fun i hi=>by
  obtain ⟨x,hx⟩:∃ x,cols[i]?=some x:=⟨_,List.getElem?_eq_getElem Oq⟩;have:=hp.2.1 x (List.mem_of_getElem? hx);obtain ⟨y,rfl⟩:∃ y:Nat,x=y:=⟨x.toNat,by omega⟩;exact ⟨y,hx,qnd hx,by omega⟩
 have cS:=qc1 h hp;have cC:=fun {S:LuS} {k j:Nat} (h1:LuG n k S) (h2:k < n) (h3:j < n)=>qjN (F:=F) (S:=S) (num:=num) (den:=den) h hn h1.l h1.u h1.r h1.len h2 h3 Oq hd;have hC:=Hid.mk @cC;clear cC;have hpl:pT n n F=q0b n n (tM F n n).1 (tM F n n).2.1 (tM F n n).2.2:=rfl;rw [hpl] at cS ⊢;simp only [hpl] at hC;clear hpl;unfold q0b at cS hC ⊢;generalize (tM F n n).1=ms at *;generalize (tM F n n).2.1=mi at *;generalize (tM F n n).2.2=mv at *;have hG:=fun k=>qaJ (F:=F) (mi:=mi) (n:=n) (cols:=cols) (num:=num) (den:=den) k;have hE:=fun k=>@qbi F mi n cols num den k;have hs:=fun k=>show q3M F mi n cols num den (k+1)=if (q3M F mi n cols num den k).1=0 then ((q6V F mi n (q3M F mi n cols num den k).2.2 (lfN cols k) k num den).1,if (q6V F mi n (q3M F mi n cols num den k).2.2 (lfN cols k) k num den).1=9 then k else 0,(q6V F mi n (q3M F mi n cols num den k).2.2 (lfN cols k) k num den).2) else q3M F mi n cols num den k from rfl
 have h0:q3M F mi n cols num den 0=(0,0,qhs):=rfl;unfold qtE qo4;generalize q3M F mi n cols num den=C at *;have q1:¬ (num:Int) < 0:=by omega
 have q2:¬ (num:Int) > den:=by omega
 have q3:¬ (den:Int) < 1:=by omega
 have q4:¬ (den:Int) > 1000:=by omega
 refine ac0 Tryz.func64 Tryz.ntmps64 [.cell 8 28,.tmp 9,.tmp 10] ?_;refine wk1 (x4 q1 q2 q3 q4) ?_;refine q0q (LeT (hw:=q25 n 0 0 0 0) tnW (fun _ h=>h.elim) (fun i hi hw=>?_) (fun i b hw hb=>?_) (fun i j x hi hj ti tj=>?_) (xs:=[(1,pI cols),(2,iv num),(3,iv den),(4,.pt 4 0 0),(8,.pt 8 0 0),(9,iv 0),(10,iv 0),(12,iv n),(13,.pt 13 0 0),(14,iv 0)]) (kv:=[]) (bs:=[(4,⟨26,some 5,[.ag [iv n,iv n,pI ms,pI mi,pF mv]],false⟩),(8,⟨28,some 8,[.ag [q0X,q0X,q0X,q0X,q0X,q0X,q0X,q0X]],false⟩),(13,⟨161,some 5,[.ag [q0X,.ow 6000 none 0 0,.ow 6001 none 0 0,.ow 6002 none 0 0,.ow 6003 none 0 0]],false⟩)]) (kb:=[]) ?_) ?_
 ·simp at hi;unfold win at hw;omega
 ·unfold LeB;rw [qdi hw.1 hw.2];exact qm7 hb
 ·unfold tnW at ti tj
  split at ti <;> split at tj <;> cases ti <;> cases tj <;> rfl
 ·try simp -implicitDefEqProofs (disch:=omega) only [go_sem,Nat.reduceEqDiff,Nat.reduceAdd,↓reduceIte]
 refine q0N (fun t=>t≤n) [1,2,3,4,8,9,10,12,13] [4,8] Lk Lk (fun t:Nat=>[(14,iv t)]) (fun t=>[(13,⟨161,some 5,[.ag [q0X,.ow 6000 none 0 t,.ow 6001 none 0 t,.ow 6002 none 0 t,.ow 6003 none 0 t]],false⟩)]) (fun t=>q25 n t t t t) (fun t=>n-t) 0 (Nat.zero_le _) ?_ ?_
 ·refine LeW [] rfl rfl ?_ ?_ (by simp [q09,q05,win]) ?_
  ·exact Ow
  ·exact q1O (q40 Oq Oq Oq Oq)
  ·try refine Zz ?_
   rfl
 ·intro t ht
  by_cases hlt:t < n
  ·have hlt':(t:Int) < n:=by omega
   have hHn:=Hid.mk hn;clear hn;refine wk1 hlt' ?_;have hn:=hHn.o;refine A_sd [(1,3),(1,4)] q3o (by kernel_rfl) fun K hK=>?_;refine Zz1 @List.length_range ?_;refine hK _ _ ?_; clear hK K;refine q0q (q4X (T1:=24) (T2:=43) (K:=none) (N:=6000) (R:=10000) (n:=t) (o:=52) (r:=50) (l:=(rU n fun _ _=>0) t) (hw:=q25 n t t t t) (hw':=q25 n (t+1) t t t) (fun _ h=>h) q6n (fun _=>n) ?_ ?_ (fun i h1 h2=>?_) (qeB Oq Oq Oq) ?_ (fun i h1 h2=>q2N h1 h2) (fun j hj=>by
    unfold q25;exact q7H (by omega)) (q40 (by omega) (by omega) (by omega) (by omega)) (q7K fun i hi=>by omega) ?_ (by omega) (by omega) (by omega) (by omega) (by omega) (by omega) (xs:=[(1,pI cols),(2,iv num),(3,iv den),(4,.pt 4 0 0),(8,.pt 8 0 0),(9,iv 0),(10,iv 0),(12,iv n),(13,.pt 13 0 0),(14,iv t)]) (kv:=[]) (bs:=[(4,⟨26,some 5,[.ag [iv n,iv n,pI ms,pI mi,pF mv]],false⟩),(8,⟨28,some 8,[.ag [q0X,q0X,q0X,q0X,q0X,q0X,q0X,q0X]],false⟩),(13,⟨161,some 5,[.ag [q0X,.ow 6000 none 0 (t+1),.ow 6001 none 0 t,.ow 6002 none 0 t,.ow 6003 none 0 t]],false⟩)]) (kb:=[]) (by simp [nmW]) ?_) ?_
   ·try simp -implicitDefEqProofs (disch:=omega) only [go_sem,Nat.reduceEqDiff,Nat.reduceAdd,↓reduceIte]
   ·try refine Zz ?_
    rw [qh4 (j:=t)]
   ·obtain ⟨w1,w2⟩:=h1
    repeat rw [q0A (by omega)]
    rw [q0U ⟨w1,w2⟩]
   ·unfold q25;rw [q1R (by omega) (by omega)]
   ·unfold q25;rw [q0K (by omega) (by omega),q0K (by omega) (by omega),q0K (by omega) (by omega),q0K (by omega) (by omega)]
    rfl
   ·try simp -implicitDefEqProofs (disch:=omega) only [go_sem,Nat.reduceEqDiff,Nat.reduceAdd,↓reduceIte]
   refine A_sd [(1,3),(1,4)] q3o (by kernel_rfl) fun K hK=>?_;refine Zz1 @List.length_range ?_;refine hK _ _ ?_; clear hK K;refine q0q (q4X (T1:=162) (T2:=4) (K:=none) (N:=6001) (R:=20000) (n:=t) (o:=59) (r:=57) (l:=(rB n fun _ _=>false) t) (hw:=q25 n (t+1) t t t) (hw':=q25 n (t+1) (t+1) t t) (fun _ h=>h) qdX (fun _=>n) ?_ ?_ (fun i h1 h2=>?_) (qeA Oq Oq Oq) ?_ (fun i h1 h2=>q1i (q2N h1 h2)) (fun j hj=>by
    unfold q25;rw [q0K (by omega) (by omega)];exact q7H (by omega)) (q40 (by omega) (by omega) (by omega) (by omega)) (q7K fun i hi=>by omega) ?_ (by omega) (by omega) (by omega) (by omega) (by omega) (by omega) (xs:=[(1,pI cols),(2,iv num),(3,iv den),(4,.pt 4 0 0),(8,.pt 8 0 0),(9,iv 0),(10,iv 0),(12,iv n),(13,.pt 13 0 0),(14,iv t)]) (kv:=[]) (bs:=[(4,⟨26,some 5,[.ag [iv n,iv n,pI ms,pI mi,pF mv]],false⟩),(8,⟨28,some 8,[.ag [q0X,q0X,q0X,q0X,q0X,q0X,q0X,q0X]],false⟩),(13,⟨161,some 5,[.ag [q0X,.ow 6000 none 0 (t+1),.ow 6001 none 0 (t+1),.ow 6002 none 0 t,.ow 6003 none 0 t]],false⟩)]) (kb:=[]) (by simp [nmW]) ?_) ?_
   ·try simp -implicitDefEqProofs (disch:=omega) only [go_sem,Nat.reduceEqDiff,Nat.reduceAdd,↓reduceIte]
   ·try refine Zz ?_
    rw [qsG (j:=t)]
   ·obtain ⟨w1,w2⟩:=h1
    repeat rw [q0A (by omega)]
    rw [q0U ⟨w1,w2⟩]
   ·unfold q25;rw [q0K (by omega) (by omega),q1R (by omega) (by omega)]
   ·unfold q25;rw [q0K (by omega) (by omega),q0K (by omega) (by omega),q0K (by omega) (by omega),q0K (by omega) (by omega)]
    rfl
   ·try simp -implicitDefEqProofs (disch:=omega) only [go_sem,Nat.reduceEqDiff,Nat.reduceAdd,↓reduceIte]
   refine A_sd [(1,3),(1,4)] q3o (by kernel_rfl) fun K hK=>?_;refine Zz1 @List.length_range ?_;refine hK _ _ ?_; clear hK K;refine q0q (q4X (T1:=24) (T2:=43) (K:=none) (N:=6002) (R:=30000) (n:=t) (o:=66) (r:=64) (l:=(rU n fun _ _=>0) t) (hw:=q25 n (t+1) (t+1) t t) (hw':=q25 n (t+1) (t+1) (t+1) t) (fun _ h=>h) q6n (fun _=>n) ?_ ?_ (fun i h1 h2=>?_) (qdz Oq Oq Oq) ?_ (fun i h1 h2=>q1i (q1i (q2N h1 h2))) (fun j hj=>by
    unfold q25;rw [q0K (by omega) (by omega)];rw [q0K (by omega) (by omega)];exact q7H (by omega)) (q40 (by omega) (by omega) (by omega) (by omega)) (q7K fun i hi=>by omega) ?_ (by omega) (by omega) (by omega) (by omega) (by omega) (by omega) (xs:=[(1,pI cols),(2,iv num),(3,iv den),(4,.pt 4 0 0),(8,.pt 8 0 0),(9,iv 0),(10,iv 0),(12,iv n),(13,.pt 13 0 0),(14,iv t)]) (kv:=[]) (bs:=[(4,⟨26,some 5,[.ag [iv n,iv n,pI ms,pI mi,pF mv]],false⟩),(8,⟨28,some 8,[.ag [q0X,q0X,q0X,q0X,q0X,q0X,q0X,q0X]],false⟩),(13,⟨161,some 5,[.ag [q0X,.ow 6000 none 0 (t+1),.ow 6001 none 0 (t+1),.ow 6002 none 0 (t+1),.ow 6003 none 0 t]],false⟩)]) (kb:=[]) (by simp [nmW]) ?_) ?_
   ·try simp -implicitDefEqProofs (disch:=omega) only [go_sem,Nat.reduceEqDiff,Nat.reduceAdd,↓reduceIte]
   ·try refine Zz ?_
    rw [qh4 (j:=t)]
   ·obtain ⟨w1,w2⟩:=h1
    repeat rw [q0A (by omega)]
    rw [q0U ⟨w1,w2⟩]
   ·unfold q25;rw [q0K (by omega) (by omega),q0K (by omega) (by omega),q1R (by omega) (by omega)]
   ·unfold q25;rw [q0K (by omega) (by omega),q0K (by omega) (by omega),q0K (by omega) (by omega),q0K (by omega) (by omega)]
    rfl
   ·try simp -implicitDefEqProofs (disch:=omega) only [go_sem,Nat.reduceEqDiff,Nat.reduceAdd,↓reduceIte]
   refine A_ld [(1,3),(1,4)] q3o (by kernel_rfl) fun K9 hK9=>?_;refine Zz1 @List.length_range ?_;refine hK9 _ _ ?_; clear hK9 K9
   repeat (first | refine i_n ?_ | refine q_n ?_)
   refine q0q (q4X (T1:=162) (T2:=4) (K:=none) (N:=6003) (R:=40000) (n:=t) (o:=73) (r:=71) (l:=(rB n fun _ _=>false) t) (hw:=q25 n (t+1) (t+1) (t+1) t) (hw':=q25 n (t+1) (t+1) (t+1) (t+1)) (fun _ h=>h) qdX (fun _=>n) ?_ ?_ (fun i h1 h2=>?_) (qdy Oq Oq Oq) ?_ (fun i h1 h2=>q1i (q1i (q1i (q2N h1 h2)))) (fun j hj=>by
    unfold q25;rw [q0K (by omega) (by omega)];rw [q0K (by omega) (by omega)];rw [q0K (by omega) (by omega)];exact q7H (by omega)) (q40 (by omega) (by omega) (by omega) (by omega)) (q7K fun i hi=>by omega) ?_ (by omega) (by omega) (by omega) (by omega) (by omega) (by omega) (xs:=[(1,pI cols),(2,iv num),(3,iv den),(4,.pt 4 0 0),(8,.pt 8 0 0),(9,iv 0),(10,iv 0),(12,iv n),(13,.pt 13 0 0),(14,iv t)]) (kv:=[]) (bs:=[(4,⟨26,some 5,[.ag [iv n,iv n,pI ms,pI mi,pF mv]],false⟩),(8,⟨28,some 8,[.ag [q0X,q0X,q0X,q0X,q0X,q0X,q0X,q0X]],false⟩),(13,⟨161,some 5,[.ag [q0X,.ow 6000 none 0 (t+1),.ow 6001 none 0 (t+1),.ow 6002 none 0 (t+1),.ow 6003 none 0 (t+1)]],false⟩)]) (kb:=[]) (by simp [nmW]) ?_) ?_
   ·try simp -implicitDefEqProofs (disch:=omega) only [go_sem,Nat.reduceEqDiff,Nat.reduceAdd,↓reduceIte]
   ·try refine Zz ?_
    rw [qsG (j:=t)]
   ·obtain ⟨w1,w2⟩:=h1
    repeat rw [q0A (by omega)]
    rw [q0U ⟨w1,w2⟩]
   ·unfold q25;rw [q0K (by omega) (by omega),q0K (by omega) (by omega),q0K (by omega) (by omega),q1R (by omega) (by omega)]
   ·unfold q25;rw [q0K (by omega) (by omega),q0K (by omega) (by omega),q0K (by omega) (by omega),q0K (by omega) (by omega)]
    rfl
   ·try simp -implicitDefEqProofs (disch:=omega) only [go_sem,Nat.reduceEqDiff,Nat.reduceAdd,↓reduceIte]
   refine wk ?_;refine ⟨t+1,by omega,by omega,?_⟩;refine LeW [] rfl rfl ?_ ?_ (by simp [q09,q05,win]) ?_
   ·exact Ow
   ·exact q1O (q40 Oq Oq Oq Oq)
   ·try refine Zz ?_
    rfl
  ·obtain rfl:n=t:=by omega
   have hlt':¬ (n:Int) < n:=by omega
   refine wk1 hlt' ?_;refine q0q (qhO (S:=qhs) (o:=13) hn rfl (fun _ h=>h) (fun i h6 hw=>?_) ?_ (by omega) (xs:=[(1,pI cols),(2,iv num),(3,iv den),(4,.pt 4 0 0),(8,.pt 8 0 0),(9,iv 0),(10,iv 0),(12,iv n),(13,.pt 5000 0 0),(15,iv 0)]) (kv:=[]) (bs:=[(4,⟨26,some 5,[.ag [iv n,iv n,pI ms,pI mi,pF mv]],false⟩),(8,⟨28,some 8,[.ag [q0X,q0X,q0X,q0X,q0X,q0X,q0X,q0X]],false⟩)]) (kb:=[]) (by simp [nmW]) ?_) ?_
   ·rw [q0U hw,qrV]
   ·try simp -implicitDefEqProofs (disch:=omega) only [go_sem,Nat.reduceEqDiff,Nat.reduceAdd,↓reduceIte]
   ·try simp -implicitDefEqProofs (disch:=omega) only [go_sem,Nat.reduceEqDiff,Nat.reduceAdd,↓reduceIte]
   refine q0N (fun k=>k≤n∧(C k).1=0) [1,2,3,4,8,9,10,12,13] [4,8] Lk Lk (fun k:Nat=>[(15,iv k)]) (fun _=>[]) (fun k=>q0r n (C k).2.2 5001) (fun k=>n-k) 0 ⟨Nat.zero_le _,by rw [h0]⟩ ?_ ?_
   ·rw [h0];refine LeW [] rfl rfl ?_ ?_ (by simp [q09,q05,win]) ?_
    ·exact Ow
    ·exact q1O (q03 hn Oq Oq)
    ·try refine Zz ?_
     rfl
   ·rintro k ⟨hk,hk0⟩;have hGk:=hG k hk0
    by_cases hkn:k < n
    ·have hkn':(k:Int) < n:=by omega
     obtain ⟨x,hx,hx2,hx3⟩:=hlf k hkn;have hsk:=hs k;rw [if_pos hk0,hx2] at hsk;have hEk:=hE (k+1);have cX:=hC.o hGk hkn hx3;have hce:=qtw (F:=F) (mi:=mi) (n:=n) (S:=(C k).2.2) (j:=x) (k:=k) (num:=num) (den:=den);obtain ⟨e,he⟩:∃ e,e=(q6V F mi n (C k).2.2 x k num den).1:=⟨_,rfl⟩;have hcO:qtx F mi n (C k).2.2 x k num den=if e=0 then q0r n (q6V F mi n (C k).2.2 x k num den).2 5002 else q8M (q8N (q0r n (C k).2.2 5001) 5001):=by rw [he]; rfl
     generalize qtx F mi n (C k).2.2 x k num den=O at *;rw [← he] at hce hsk cX;generalize (q6V F mi n (C k).2.2 x k num den).2=r at *;generalize (C k).2.2=S at *;have hgo:∀ i,qct (q0r n S 5001) O i→i=5001:=fun i ⟨h1,h2,h3⟩=>by
      refine Classical.byContradiction fun hi=>h2 ?_;have hS:i≠5000∧stT n S i=none→q0r n S 5001 i=none:=fun h=>by unfold q0r; rw [q0A hi,q0A h.1]; exact h.2
      rw [hcO] at h3
      split at h3
      ·obtain ⟨q1,q2,q3⟩:=qme h3;exact hS ⟨q2,qrY q3⟩
      ·unfold q8M q8N at h3;rw [if_neg hi] at h3;exact Option.map_eq_none_iff.1 h3
     have hO5:∃ b,O 5000=some b:=by
      rw [hcO]
      split
      ·exact ⟨_,by unfold q0r; rw [q0A (by omega),q0H]⟩
      ·exact ⟨_,by unfold q8M q8N q0r; rw [if_neg (by omega),q0A (by omega),q0H]; rfl⟩
     have hwO:WfH O:=by
      rw [hcO]
      split
      ·exact q1O (q03 hn Oq Oq)
      ·exact qnx
     refine wk1 hkn' ?_;refine A_jW [(1,pI cols),(2,iv num),(3,iv den),(4,.pt 4 0 0),(8,.pt 8 0 0),(9,iv 0),(10,iv 0),(12,iv n),(13,.pt 5000 0 0),(15,iv k),(16,iv e)] [(4,⟨26,some 5,[.ag [iv n,iv n,pI ms,pI mi,pF mv]],false⟩),(8,⟨28,some 8,[.ag [q0X,q0X,q0X,q0X,q0X,q0X,q0X,q0X]],false⟩)] O ?_ fun K0 fin=>?_
     rotate_left
     ·refine q6v q3o (.one 1 (.one 2 (.one 3 (.one 5 (.one 6 (.one 7 (.alt (.one 0 (.one 4 (.one 8 (.one 9 .fin)))) (.one 4 (.one 0 (.one 8 (.one 9 .fin))))))))))) (by kernel_rfl) fun K9 hK9=>?_;refine Zz1 hx ?_;refine ⟨?_,?_⟩
      ·refine jx cX q36 (fun _ h=>h.elim) (qjn (a:=5001) hgo ?_ ?_) ?_
       ·repeat (refine qcN ?_ (by first | (unfold IdP; first | trivial | omega) | simp [IdP,IdL]))
        exact fun t=>by unfold stV IdP; trivial
       ·repeat (refine qcS ?_ rfl (by simp [IdL,IdP]))
        exact qjm (qgc (by simp [IdL,IdP]) (by simp))
       ·try refine Zz ?_
        refine hK9 _ _ (fin _ _ ?_);refine LeW [] rfl rfl ?_ ?_ (by simp [q09,q05,win]) ?_
        ·exact Ow
        ·exact hwO
        ·try refine Zz ?_
         exact hO5
      ·refine jx cX q36 (fun _ h=>h.elim) (qjn (a:=5001) hgo ?_ ?_) ?_
       ·repeat (refine qcN ?_ (by first | (unfold IdP; first | trivial | omega) | simp [IdP,IdL]))
        exact fun t=>by unfold stV IdP; trivial
       ·repeat (refine qcS ?_ rfl (by simp [IdL,IdP]))
        exact qjm (qgc (by simp [IdL,IdP]) (by simp))
       ·try refine Zz ?_
        refine hK9 _ _ (fin _ _ ?_);refine LeW [] rfl rfl ?_ ?_ (by simp [q09,q05,win]) ?_
        ·exact Ow
        ·exact hwO
        ·try refine Zz ?_
         exact hO5
     ·have herr:e≠0→C n=(e,if e=9 then k else 0,r):=fun h=>by rw [hEk (by rw [hsk]; exact h) n (by omega),hsk]
      by_cases e0:e=0
      ·subst e0;rw [if_pos rfl] at hcO;subst hcO;have hskr:(C (k+1)).2.2=r:=by rw [hsk]
       have hGr:=hG (k+1) (by rw [hsk]);rw [hskr] at hGr;refine q0q (qau (S:=r) (o:=5002) (r:=5001) hn (by omega) (by omega) (fun _ h=>h.elim) (fun i h6 hw=>?_) ?_ ?_ (.inr (by omega)) (xs:=[(1,pI cols),(2,iv num),(3,iv den),(4,.pt 4 0 0),(8,.pt 8 0 0),(9,iv 0),(10,iv 0),(12,iv n),(13,.pt 5000 0 0),(15,iv k),(16,iv 0)]) (kv:=[]) (bs:=[(4,⟨26,some 5,[.ag [iv n,iv n,pI ms,pI mi,pF mv]],false⟩),(8,⟨28,some 8,[.ag [q0X,q0X,q0X,q0X,q0X,q0X,q0X,q0X]],false⟩)]) (kb:=[]) (by simp [nmW]) ?_) ?_
       ·rw [q0U hw];unfold q0r;rw [q0A (by omega),q0A (by omega)]
       ·rw [q0U ⟨by omega,by omega⟩];unfold q0r;rw [q0A (by omega),q0H]
       ·rw [q0U ⟨by omega,by omega⟩];unfold q0r;rw [q0H]
       ·try simp -implicitDefEqProofs (disch:=omega) only [go_sem,Nat.reduceEqDiff,Nat.reduceAdd,↓reduceIte]
       have b1:((0:Int) == 9)=false:=rfl;have b2:((0:Int) != 0)=false:=rfl;refine wk1 (x2 b1 b2) ?_;refine ⟨k+1,⟨by omega,by rw [hsk]⟩,by omega,?_⟩;rw [hskr];refine LeW [] rfl rfl ?_ ?_ (by simp [q09,q05,win]) ?_
       ·exact Ow
       ·exact q1O (q03 hn Oq Oq)
       ·try refine Zz ?_
        first | rfl | exact Int.natCast_succ k | (push_cast; rfl) | simp
      ·have hne:=herr e0;rw [hne];simp only;rw [if_neg e0,if_neg e0];unfold pLU;dsimp only
       by_cases e9:e=9
       ·have b1:(e == 9)=true:=by simpa using e9
        rw [if_pos e9];exact wk1 b1 trivial
       ·have b1:(e == 9)=false:=by simpa using e9
        have b2:(e != 0)=true:=by simpa using e0
        rw [if_neg e9,show ((0:Nat):Int)=0 from rfl];exact wk1 (x2 b1 b2) trivial
    ·obtain rfl:n=k:=by omega
     have hkn':¬ (n:Int) < n:=by omega
     have cL:=qdC (S:=(C n).2.2) (cols:=cols) hn hll hGk.len hGk.r;rw [if_pos hk0,if_pos hk0,hk0];generalize (C n).2.2=S at *;generalize qsc S cols n=lu at *;unfold pLU at cL ⊢;refine wk1 hkn' ?_;refine q0q (LeT (hw:=Go.E.h0) (tnU 1013 5000) (fun _ h=>h.elim) (fun i hi hw=>?_) (fun i b hw hb=>?_) (fun i j x hi hj ti tj=>?_) (xs:=[(1,pI cols),(8,.pt 8 0 0),(12,iv n),(13,.pt 1013 0 0)]) (kv:=[]) (bs:=[(8,⟨28,some 8,[.ag [q0X,q0X,q0X,q0X,q0X,q0X,q0X,q0X]],false⟩),(1013,⟨161,some 5,[pSt n S],false⟩)]) (kb:=[]) ?_) ?_
     ·simp at hi;unfold win at hw;omega
     ·cases hb
     ·have a:∀ i,(win i∧(Go.E.h0:Hp) i≠none∨i ∈ List.map (·.1) [(8,⟨28,some 8,[.ag [q0X,q0X,q0X,q0X,q0X,q0X,q0X,q0X]],false⟩),(1013,(⟨161,some 5,[pSt n S],false⟩:Bk))] ++ [])→i≠5000:=fun i hi=>by
       rcases hi with ⟨_,hi⟩ | hi
       ·exact absurd rfl hi
       ·simp at hi; omega
      have a1:=a i hi;have a2:=a j hj;unfold tnU at ti tj
      split at ti <;> split at tj <;> cases ti <;> cases tj <;> first | omega | rfl | exact (a1 rfl).elim | exact (a2 rfl).elim
     ·try refine Zz ?_
      exact qmf hn q36 fun i j hi hj hw=>by
       unfold tnU at hi
       split at hi
       ·cases hi; omega
       ·cases hi; rw [q0U hw]; rfl
     exact wk trivial
end
def q3B {l:List Nat} {k v:Nat} (h:q0z l) (h1:v < 18446744073709551616) (h2:q0M v):q0z (l.set k v):=fun x hx=>by
 rcases List.mem_or_eq_of_mem_set hx with h3 | rfl
 ·exact h x h3
 ·exact ⟨h1,h2⟩
def qf7 {l:List Nat} {k:Nat} (h:q0z l):q0z (l.take k):=fun x hx=>h x (List.mem_of_mem_take hx)
def q8z {l:List Nat} {k:Nat} (h:q0z l):q0z (l.drop k):=fun x hx=>h x (List.mem_of_mem_drop hx)
def q5B (V:Int):q1B [V]=V:=by have:=q1H [] V; rw [List.nil_append,q12] at this; omega
section
variable {f:Fac} {z:Nat→Int}
end
def loZ (D:Nat→Nat→Nat) (ys:List Nat) (k:Nat):Int:=ofZ (ys.getD k 0)-sg (fun c=>q0l (D k c) (ys.getD c 0)) k
def upZ (D:Nat→Nat→Nat) (ys:List Nat) (n k:Nat):Int:=ofZ (ys.getD k 0)-sg (fun i=>q0l (D k (k+1+i)) (ys.getD (k+1+i) 0)) (n-(k+1))
noncomputable def geL (D:Nat→Nat→Nat):Nat→Nat→List Nat→Option (List Nat)
 | 0,_,ys=>some ys
 | m+1,k,ys=>if q0M (fR 0 (loZ D ys k)) then geL D m (k+1) (ys.set k (fR 0 (loZ D ys k))) else none
noncomputable def geU (D:Nat→Nat→Nat) (n:Nat):Nat→List Nat→Option (List Nat)
 | 0,ys=>some ys
 | k+1,ys=>if q0M (fQ 0 (upZ D ys n k) (ofZ (D k k))) then geU D n k (ys.set k (fQ 0 (upZ D ys n k) (ofZ (D k k)))) else none
def qaE {D:Nat→Nat→Nat} {n:Nat}:∀ (m k:Nat) (ys zs:List Nat),ys.length=n→q0z ys→geL D m k ys=some zs→zs.length=n∧q0z zs
 | 0,k,ys,zs,h1,h2,h=>by unfold geL at h; cases h; exact ⟨h1,h2⟩
 | m+1,k,ys,zs,h1,h2,h=>by
  unfold geL at h
  split at h
  ·exact qaE m _ _ zs (by simpa using h1) (q3B h2 q9C (by assumption)) h
  ·cases h
def qfQ {D:Nat→Nat→Nat} {n:Nat} (hD:∀ k,k < n→ofZ (D k k)≠0):∀ (k:Nat) (ys zs:List Nat),k≤n→ys.length=n→q0z ys→geU D n k ys=some zs→zs.length=n∧q0z zs
 | 0,ys,zs,_,h1,h2,h=>by unfold geU at h; cases h; exact ⟨h1,h2⟩
 | k+1,ys,zs,hk,h1,h2,h=>by
  unfold geU at h
  split at h
  ·exact qfQ hD k _ zs (by omega) (by simpa using h1) (q3B h2 (qfb (hD k (by omega))) (by assumption)) h
  ·cases h
def q2O (x:Int) (l:List Int):q1B (x :: l)=x+q1B l:=by
 have:∀ (l:List Int) (a:Int),l.foldl (·+·) a=a+l.foldl (·+·) 0:=fun l=>by
  induction l with
  | nil=>intro a; simp
  | cons y l ih=>intro a; simp only [List.foldl_cons]; rw [ih (a+y),ih (0+y)]; omega
 unfold q1B;rw [List.foldl_cons,this]; omega
def qeO {B:Int} {l x:List Nat}:∀ m,q1B (q8e B l x m)=B-sg (fun i=>q0l (l.getD i 0) (x.getD i 0)) m
 | 0=>by rw [q8e,q5B]; unfold sg; omega
 | m+1=>by rw [q8e,q1H,qeO m,show sg (fun i=>q0l (l.getD i 0) (x.getD i 0)) (m+1)=sg (fun i=>q0l (l.getD i 0) (x.getD i 0)) m+q0l (l.getD m 0) (x.getD m 0) from rfl]; omega
def ctE (L:List (Nat × Nat)) (r:Nat) (y:Nat):Int:=q1B (L.map fun e=>if e.1=r then q0l e.2 y else 0)
def ctV (L:List (Nat × Nat)) (r:Nat):Nat:=((L.find? fun e=>e.1 == r).map (·.2)).getD 0
def qs3 {y:Nat}:q0l 0 y=0:=by
 unfold q0l;rw [q0x qbR,Int.zero_mul,q14]; rfl
def qti {L:List (Nat × Nat)} {r y:Nat} (h:∀ e ∈ L,e.1≠r):ctE L r y=0:=by
 unfold ctE
 induction L with
 | nil=>rfl
 | cons e L ih =>
  rw [List.map_cons,q2O,if_neg (h e List.mem_cons_self),ih fun e he=>h e (List.mem_cons_of_mem _ he)]; rfl
def qtj {L:List (Nat × Nat)} {r y:Nat} (h:(L.map (·.1)).Nodup):ctE L r y=q0l (ctV L r) y:=by
 induction L with
 | nil=>unfold ctE ctV; simp [q12,qs3]
 | cons e L ih =>
  rw [List.map_cons,List.nodup_cons] at h
  by_cases he:e.1=r
  ·have h1:ctE L r y=0:=qti fun e' he' hr=>h.1 (by rw [he,← hr]; exact List.mem_map_of_mem he');have h2:ctV (e :: L) r=e.2:=by unfold ctV; rw [List.find?_cons,show (e.1 == r)=true by simpa using he]; rfl
   rw [h2];unfold ctE at h1 ⊢;rw [List.map_cons,q2O,if_pos he,h1]; omega
  ·have h2:ctV (e :: L) r=ctV L r:=by unfold ctV; rw [List.find?_cons,show (e.1 == r)=false by simpa using he]
   rw [h2,← ih h.2];unfold ctE;rw [List.map_cons,q2O,if_neg he]; omega
structure ColS (n:Nat) (st ix:List Int) (vs:List Nat) (E:Nat→List (Nat × Nat)):Prop where
 len:ix.length≤1000000
 col:∀ k,k < n→∃ a:Nat,st[k]?=some (a:Int)∧st[k+1]?=some ((a+(E k).length:Nat):Int)∧a+(E k).length≤ix.length∧∀ (t:Nat) (e:Nat × Nat),(E k)[t]?=some e→ix[a+t]?=some (e.1:Int)∧vs[a+t]?=some e.2∧e.1 < n∧q0M e.2∧e.2 < 18446744073709551616
 nd:∀ k,k < n→((E k).map (·.1)).Nodup
 sz:∀ k,k < n→(E k).length≤n
def dnH (n a c:Nat) (gl gu:Nat→Nat→Nat):Hp:=q1X 24 43 none 6000 10000 a (rU n gl) (q1X 24 43 none 6002 30000 c (rU n gu) h0)
def dnD (t:Nat):Nat→Nat→Nat:=fun i j=>if i=j∧i < t then 4607182418800017408 else 0
def enS (g:Nat→Nat→Nat) (k:Nat):List (Nat × Nat)→Nat→Nat→Nat
 | []=>g
 | e :: l=>enS (q38 g e.1 k e.2) k l
def dnT (g:Nat→Nat→Nat) (E:Nat→List (Nat × Nat)):Nat→Nat→Nat→Nat
 | 0=>g
 | k+1=>enS (dnT g E k) k (E k)
def qaM {k:Nat} {e:Nat × Nat}:∀ (l:List (Nat × Nat)) (g:Nat→Nat→Nat),enS g k (l ++ [e])=q38 (enS g k l) e.1 k e.2
 | [],_=>rfl
 | _ :: l,_=>qaM l _
def dnD_0 {n:Nat} {t:Nat}:rU n (dnD t) t=rU n (fun _ _=>0) t:=by
 unfold rU dnD;refine List.map_congr_left fun c _=>?_;rw [if_neg (by omega)]
def dnD_s {t:Nat}:q38 (dnD t) t t 4607182418800017408=dnD (t+1):=by
 funext i j
 unfold q38 dnD
 by_cases h:i=t∧j=t
 ·rw [if_pos h,if_pos (by omega)]
 ·rw [if_neg h]
  by_cases h2:i=j∧i < t
  ·rw [if_pos h2,if_pos (by omega)]
  ·rw [if_neg h2,if_neg (by omega)]
section
variable {n a c:Nat} {gl gu:Nat→Nat→Nat}
def q3N (ha:a≤100) (hc:c≤100):BOk (dnH n a c gl gu) win:=by
 unfold dnH;have w:∀ R j m:Nat,5000≤R→R≤40000→m≤100→j < m→win (j+R):=fun R j m h1 h2 h3 h4=>⟨by omega,by omega⟩;exact q1h (q1h BOk.h0 (fun _ _=>q6n) Oq ⟨⟨by omega,by omega⟩,fun j hj=>w _ j _ Oq Oq hc hj⟩) (fun _ _=>q6n) Oq ⟨⟨by omega,by omega⟩,fun j hj=>w _ j _ Oq Oq ha hj⟩
def qlM {q:Nat→Prop} (hq:∀ i,10000≤i→q i):HId q (dnH n a c gl gu):=by
 unfold dnH;exact qdO (qdO qw8 (fun _ _=>q6n) fun j _=>hq _ Oq) (fun _ _=>q6n) fun j _=>hq _ Oq
def qta {i:Nat} (hi:i < 6000):dnH n a c gl gu i=none:=by
 unfold dnH;rw [q0K (by omega) (by omega),q0K (by omega) (by omega)]
 rfl
def qlL:dnH n a c gl gu 6000=some ⟨24,none,(List.range a).map fun j=>.ow (j+10000) none 0 n,false⟩:=by
 unfold dnH; rw [q1a]; simp
def q1r (ha:a≤100):dnH n a c gl gu 6002=some ⟨24,none,(List.range c).map fun j=>.ow (j+30000) none 0 n,false⟩:=by
 unfold dnH; rw [q0K (by omega) (by omega),q1a]; simp
def qfl {j:Nat} (hj:j < a):dnH n a c gl gu (j+10000)=some ⟨43,none,rU n gl j,false⟩:=by
 unfold dnH; rw [q1R (by omega) hj]
def qbm {j:Nat} (ha:a≤100) (hj:j < c):dnH n a c gl gu (j+30000)=some ⟨43,none,rU n gu j,false⟩:=by
 unfold dnH; rw [q0K (by omega) (by omega),q1R (by omega) hj]
def qtb {r m v:Nat} (hr:r < a):q0Q (dnH n a c gl gu) (r+10000) ⟨43,none,(rU n gl r).set m (.vl (.int .u64 (v:Nat))),false⟩=dnH n a c (q38 gl r m v) gu:=by
 unfold dnH;rw [q2x (by omega) hr (by simp),qbH]
def dnH_u {r m v:Nat} (ha:a≤100) (hr:r < c):q0Q (dnH n a c gl gu) (r+30000) ⟨43,none,(rU n gu r).set m (.vl (.int .u64 (v:Nat))),false⟩=dnH n a c gl (q38 gu r m v):=by
 unfold dnH;rw [q24 (by omega) (by omega),q2x (by omega) hr (by simp),qbH]
def qt9 {i:Nat} {x:Bk} (hb:dnH n 0 0 gl gu i=some x):x.xs=[]:=by
 unfold dnH at hb
 rcases q0s hb with ⟨rfl,rfl⟩ | ⟨_,h1,h2,_⟩ | ⟨_,_,hb⟩
 ·rfl
 ·omega
 rcases q0s hb with ⟨rfl,rfl⟩ | ⟨_,h1,h2,_⟩ | ⟨_,_,hb⟩
 ·rfl
 ·omega
 ·cases hb
def qtd:q6W (dnH n n n gl gu) n 10000 none (fun _=>n)=some ((List.range n).map fun j=>.sl none (rU n gl j),(List.range n).map (·+10000)):=by
 unfold dnH;rw [q6A (by omega),cO,if_pos fun j _=>q6n]
 congr 2
 refine List.map_congr_left fun j _=>?_
 congr 1
 exact q9c
def qtc (hn:n≤100):q6W (dnH n n n gl gu) n 30000 none (fun _=>n)=some ((List.range n).map fun j=>.sl none (rU n gu j),(List.range n).map (·+30000)):=by
 unfold dnH;rw [q4k (by omega) (by omega),q6A (by omega),cO,if_pos fun j _=>q6n]
 congr 2
 refine List.map_congr_left fun j _=>?_
 congr 1
 exact q9c
attribute [go_sem ↓] qta qlL qfl qbm
def qjJ {f:LUt} {EL EU:Nat→List (Nat × Nat)} (hr:f.rows.length=n) (hn:n≤100) (hL:ColS n f.ls f.li f.lv EL) (hU:ColS n f.us f.ui f.uv EU):ACt 223 [pLU f] (.tu [tU n (dnT (dnD n) EL n),tU n (dnT (fun _ _=>0) EU n)]):=by
 obtain ⟨ro,co,ls,li,lv,us,ui,vu⟩:=f;unfold pLU;dsimp only at *;refine ac0 Tryz.func223 Tryz.ntmps223 [.tmp 2,.tmp 3] ?_;refine wk1 hr ?_;refine q0q (LeT (hw:=dnH n 0 0 (dnD 0) fun _ _=>0) tnW (fun _ h=>h.elim) (fun i hi hw=>?_) (fun i b hw hb=>?_) (fun i j x hi hj ti tj=>?_) (xs:=[(1,.pt 1 0 0),(4,iv n),(5,.ow 6000 none 0 0),(6,.ow 6002 none 0 0),(7,iv 0)]) (kv:=[]) (bs:=[(1,⟨28,some 8,[.ag [pI ro,pI co,pI ls,pI li,pF lv,pI us,pI ui,pF vu]],false⟩)]) (kb:=[]) ?_) ?_
 ·simp at hi;unfold win at hw;omega
 ·unfold LeB;rw [qdi hw.1 hw.2];exact qt9 hb
 ·unfold tnW at ti tj
  split at ti <;> split at tj <;> cases ti <;> cases tj <;> rfl
 ·try refine Zz ?_
  exact ⟨_,q1r Oq,rfl⟩
 refine q0N (fun t=>t≤n) [1,4] [1] Lk Lk (fun t:Nat=>[(5,.ow 6000 none 0 t),(6,.ow 6002 none 0 t),(7,iv t)]) (fun _=>[]) (fun t=>dnH n t t (dnD t) fun _ _=>0) (fun t=>n-t) 0 (Nat.zero_le _) ?_ ?_
 ·refine LeW [] rfl rfl ?_ ?_ (by simp [q09,q05,win]) ?_
  ·exact Ow
  ·exact q1O (q3N Oq Oq)
  ·try refine Zz ?_
   exact ⟨⟨_,q1r Oq⟩,rfl⟩
 ·intro t ht
  by_cases hlt:t < n
  ·have hlt':(t:Int) < n:=by omega
   have rt:(List.range t ++ [t])[t]?=some t:=by simp
   have hset:((rU n (dnD t) t).set t (uv (4607182418800017408:Nat)))=(rU n (dnD t) t).set t (PV.vl (.int .u64 (4607182418800017408:Nat))):=rfl;refine wk1 hlt' ?_;refine q0q (q4X (T1:=24) (T2:=43) (K:=none) (N:=6000) (R:=10000) (n:=t) (o:=23) (r:=21) (l:=(rU n (dnD t)) t) (hw:=dnH n t t (dnD t) fun _ _=>0) (hw':=dnH n (t+1) t (dnD t) fun _ _=>0) (fun _ h=>h) q6n (fun _=>n) ?_ ?_ (fun i h1 h2=>?_) qlL (qfl Oq) (fun i h1 h2=>q2N h1 h2) (fun j hj=>by
    rw [qfl (by omega)];exact Option.some_ne_none _) (q3N (by omega) (by omega)) (qlM fun i hi=>by omega) ?_ (by omega) (by omega) (by omega) (by omega) (by omega) (by omega) (xs:=[(1,.pt 1 0 0),(4,iv n),(5,.ow 6000 none 0 (t+1)),(6,.ow 6002 none 0 t),(7,iv t)]) (kv:=[]) (bs:=[(1,⟨28,some 8,[.ag [pI ro,pI co,pI ls,pI li,pF lv,pI us,pI ui,pF vu]],false⟩)]) (kb:=[]) (by simp [nmW]) ?_) ?_
   ·try simp -implicitDefEqProofs (disch:=omega) only [go_sem,Nat.reduceEqDiff,Nat.reduceAdd,↓reduceIte]
   ·try refine Zz ?_
    rw [dnD_0,qh4 (j:=t)]
   ·obtain ⟨w1,w2⟩:=h1
    repeat rw [q0A (by omega)]
    rw [q0U ⟨w1,w2⟩]
   ·unfold dnH;rw [q0K (by omega) (by omega),q0K (by omega) (by omega)]
    rfl
   ·try refine Zz ?_
    exact ⟨_,q1r Oq⟩
   have h2o:dnH n (t+1) t (dnD t) (fun _ _=>0) 6002=some ⟨24,none,(List.range t).map fun j=>.ow (j+30000) none 0 n,false⟩:=q1r Oq;refine wk1 h2o ?_;clear h2o;refine q0q (q4X (T1:=24) (T2:=43) (K:=none) (N:=6002) (R:=30000) (n:=t) (o:=28) (r:=26) (l:=(rU n fun _ _=>0) t) (hw:=dnH n (t+1) t (dnD t) fun _ _=>0) (hw':=dnH n (t+1) (t+1) (dnD t) fun _ _=>0) (fun _ h=>h) q6n (fun _=>n) ?_ ?_ (fun i h1 h2=>?_) (q1r Oq) (qbm Oq Oq) (fun i h1 h2=>q1i (q2N h1 h2)) (fun j hj=>by
    rw [qbm (by omega) (by omega)];exact Option.some_ne_none _) (q3N (by omega) (by omega)) (qlM fun i hi=>by omega) ?_ (by omega) (by omega) (by omega) (by omega) (by omega) (by omega) (xs:=[(1,.pt 1 0 0),(4,iv n),(5,.ow 6000 none 0 (t+1)),(6,.ow 6002 none 0 (t+1)),(7,iv t)]) (kv:=[]) (bs:=[(1,⟨28,some 8,[.ag [pI ro,pI co,pI ls,pI li,pF lv,pI us,pI ui,pF vu]],false⟩)]) (kb:=[]) (by simp [nmW]) ?_) ?_
   ·try simp -implicitDefEqProofs (disch:=omega) only [go_sem,Nat.reduceEqDiff,Nat.reduceAdd,↓reduceIte]
   ·try refine Zz ?_
    rw [qh4 (j:=t)]
   ·obtain ⟨w1,w2⟩:=h1
    repeat rw [q0A (by omega)]
    rw [q0U ⟨w1,w2⟩]
   ·unfold dnH;rw [q0K (by omega) (by omega),q0K (by omega) (by omega)]
    rfl
   ·try refine Zz ?_
    exact ⟨_,q1r Oq⟩
   refine wk1 rt ?_;refine ⟨t+1,by omega,by omega,?_⟩;refine LeW [] rfl rfl ?_ ?_ (by simp [q09,q05,win]) ?_
   ·exact qa2 (q6L q36) ((qtb (by omega)).trans (by rw [dnD_s]))
   ·exact q1O (q3N Oq Oq)
   ·try refine Zz ?_
    exact ⟨⟨_,q1r Oq⟩,rfl⟩
  ·obtain rfl:n=t:=by omega
   have hlt':¬ (n:Int) < n:=by omega
   refine wk1 hlt' ?_;obtain ⟨g0,hg0⟩:∃ g,g=dnD n:=⟨_,rfl⟩;rw [← hg0];clear hg0 ht;refine q0N (fun k=>k≤n) [1,4,5,6] [1] Lk Lk (fun k:Nat=>[(8,iv k)]) (fun _=>[]) (fun k=>dnH n n n (dnT g0 EL k) (dnT (fun _ _=>0) EU k)) (fun k=>n-k) 0 (Nat.zero_le _) ?_ ?_
   ·refine LeW [] rfl rfl ?_ ?_ (by simp [q09,q05,win]) ?_
    ·exact Ow
    ·exact q1O (q3N Oq Oq)
    ·try refine Zz ?_
     exact ⟨rfl,_,q1r Oq⟩
   ·intro k hk
    by_cases hkn:k < n
    ·have hkn':(k:Int) < n:=by omega
     have rk:(List.range n)[k]?=some k:=List.getElem?_range hkn;have wj:(k:Int)+1=((k+1:Nat):Int):=rfl;obtain ⟨a,l1,l2,l3,l4⟩:=hL.col k hkn;obtain ⟨c,u1,u2,u3,u4⟩:=hU.col k hkn;have hlb:=hL.len;have hub:=hU.len;have dL:dnT g0 EL (k+1)=enS (dnT g0 EL k) k (EL k):=rfl;have dU:dnT (fun _ _=>0) EU (k+1)=enS (dnT (fun _ _=>0) EU k) k (EU k):=rfl;generalize dnT g0 EL k=gl at *;generalize dnT (fun _ _=>0) EU k=gu at *;generalize EL k=el at *;generalize EU k=eu at *;refine wk1 (x2 hkn' l1) ?_;refine q0N (fun t=>t≤el.length) [1,4,5,6,8] [1] Lk Lk (fun t:Nat=>[(9,iv (a+t:Nat))]) (fun _=>[]) (fun t=>dnH n n n (enS gl k (el.take t)) gu) (fun t=>el.length-t) 0 (Nat.zero_le _) ?_ ?_
     ·refine LeW [] rfl rfl ?_ ?_ (by simp [q09,q05,win]) ?_
      ·exact Ow
      ·exact q1O (q3N Oq Oq)
      ·try refine Zz ?_
       exact ⟨_,q1r Oq⟩
     ·intro t ht
      by_cases hlt:t < el.length
      ·obtain ⟨e,he⟩:∃ e,el[t]?=some e:=⟨_,List.getElem?_eq_getElem hlt⟩;obtain ⟨y1,y2,y3,y4,y5⟩:=l4 t e he;have hlt':((a+t:Nat):Int) < ((a+el.length:Nat):Int):=by omega
       have re:(List.range n)[e.1]?=some e.1:=List.getElem?_range y3;obtain ⟨p,hp⟩:∃ p,p=a+t:=⟨_,rfl⟩;rw [← hp] at y1 y2 hlt' ⊢;refine wk1 (x6 wj l2 hlt' y1 y2 re) ?_;refine ⟨t+1,by omega,by omega,?_⟩;rw [List.take_add_one,he,Option.toList_some,qaM];refine LeW [] rfl rfl ?_ ?_ (by simp [q09,q05,win]) ?_
       ·exact qa2 (q6L q36) (qtb y3)
       ·exact q1O (q3N Oq Oq)
       ·try refine Zz ?_
        exact ⟨by omega,_,q1r Oq⟩
      ·obtain rfl:t=el.length:=by omega
       obtain ⟨b,hb⟩:∃ b,b=a+el.length:=⟨_,rfl⟩;have hlt':¬ (b:Int) < b:=by omega
       rw [List.take_length];rw [← hb] at l2 ⊢;refine wk1 (x4 wj l2 hlt' u1) ?_;refine q0N (fun t=>t≤eu.length) [1,4,5,6,8] [1] Lk Lk (fun t:Nat=>[(10,iv (c+t:Nat))]) (fun _=>[]) (fun t=>dnH n n n (enS gl k el) (enS gu k (eu.take t))) (fun t=>eu.length-t) 0 (Nat.zero_le _) ?_ ?_
       ·refine LeW [] rfl rfl ?_ ?_ (by simp [q09,q05,win]) ?_
        ·exact Ow
        ·exact q1O (q3N Oq Oq)
        ·try refine Zz ?_
         exact ⟨_,q1r Oq⟩
       ·intro t ht;have ho2:=q1r (n:=n) (a:=n) (c:=n) (gl:=enS gl k el) (gu:=enS gu k (eu.take t)) Oq
        by_cases hlt:t < eu.length
        ·obtain ⟨e,he⟩:∃ e,eu[t]?=some e:=⟨_,List.getElem?_eq_getElem hlt⟩;obtain ⟨y1,y2,y3,y4,y5⟩:=u4 t e he;have hlt':((c+t:Nat):Int) < ((c+eu.length:Nat):Int):=by omega
         have re:(List.range n)[e.1]?=some e.1:=List.getElem?_range y3;have hr2:=qbm (n:=n) (a:=n) (c:=n) (gl:=enS gl k el) (gu:=enS gu k (eu.take t)) (j:=e.1) Oq y3;obtain ⟨p,hp⟩:∃ p,p=c+t:=⟨_,rfl⟩;rw [← hp] at y1 y2 hlt' ⊢;refine wk1 (x6 wj u2 hlt' y1 y2 (x3 re ho2 hr2)) ?_;refine ⟨t+1,by omega,by omega,?_⟩;rw [List.take_add_one,he,Option.toList_some,qaM];refine LeW [] rfl rfl ?_ ?_ (by simp [q09,q05,win]) ?_
         ·exact qa2 (q6L q36) (dnH_u Oq y3)
         ·exact q1O (q3N Oq Oq)
         ·try refine Zz ?_
          exact ⟨by omega,_,q1r Oq⟩
        ·obtain rfl:t=eu.length:=by omega
         obtain ⟨d,hd⟩:∃ d,d=c+eu.length:=⟨_,rfl⟩;have hlt':¬ (d:Int) < d:=by omega
         rw [List.take_length] at ho2 ⊢;rw [← hd] at u2 ⊢;refine wk1 (x3 wj u2 hlt') ?_;refine ⟨k+1,by omega,by omega,?_⟩;rw [dL,dU];refine LeW [] rfl rfl ?_ ?_ (by simp [q09,q05,win]) ?_
         ·exact Ow
         ·exact q1O (q3N Oq Oq)
         ·try refine Zz ?_
          exact ⟨_,q1r Oq⟩
    ·obtain rfl:n=k:=by omega
     have hlt':¬ (n:Int) < n:=by omega
     generalize dnT g0 EL n=gl at *;generalize dnT (fun _ _=>0) EU n=gu at *;have ho2:=q1r (n:=n) (a:=n) (c:=n) (gl:=gl) (gu:=gu) Oq;have hc2:=qtc (gl:=gl) (gu:=gu) hn;have hc0:=qtd (n:=n) (gl:=gl) (gu:=gu);exact wk1 (x4 hlt' hc0 ho2 hc2) trivial
end
def q7o (st ix:List Int) (vs:List Nat) (k:Nat):List (Nat × Nat):=(List.range ((st.getD (k+1) 0).toNat-(st.getD k 0).toNat)).map fun t=>((ix.getD ((st.getD k 0).toNat+t) 0).toNat,vs.getD ((st.getD k 0).toNat+t) 0)
def q8H {l:List Int} (h:q8O l):∀ (d i:Nat) (x y:Int),l[i]?=some x→l[i+d+1]?=some y→x < y
 | 0,i,x,y,hx,hy=>h i x y hx hy
 | d+1,i,x,y,hx,hy=>by
  obtain ⟨z,hz⟩:∃ z,l[i+d+1]?=some z:=⟨_,List.getElem?_eq_getElem (by have:=(List.getElem?_eq_some_iff.1 hy).1; omega)⟩;have h1:=q8H h d i x z hx hz;have h2:=h (i+d+1) z y hz hy;omega
def q8I {l:List Int} (h:q8O l) {lo:Int} (h0:∀ z,l[0]?=some z→lo≤z):∀ (t:Nat) (z:Int),l[t]?=some z→lo+t≤z
 | 0,z,hz=>by have:=h0 z hz; omega
 | t+1,z,hz=>by
  obtain ⟨y,hy⟩:∃ y,l[t]?=some y:=⟨_,List.getElem?_eq_getElem (by have:=(List.getElem?_eq_some_iff.1 hz).1; omega)⟩;have h1:=q8I h h0 t y hy;have h2:=h t y z hy hz;omega
def qqF {l:List Int} (h:q8O l) {t:Nat} {z y:Int} (hz:l[t]?=some z) (hy:l[l.length-1]?=some y):z≤y:=by
 have ht:=(List.getElem?_eq_some_iff.1 hz).1
 by_cases e:t=l.length-1
 ·rw [e,hy] at hz; cases hz; exact Int.le_refl _
 ·exact Int.le_of_lt (q8H h (l.length-1-t-1) t z y hz (by rw [← hy]; congr 1; omega))
section
variable {n:Nat} {st ix:List Int} {vs:List Nat} {G:Nat→List Int→Prop}
def q3U {ix:List Int} {a b t:Nat} (ht:a+t < b):((ix.take b).drop a)[t]?=ix[a+t]?:=by
 rw [List.getElem?_drop,List.getElem?_take,if_pos ht]
def q7n {a b k:Nat} (h1:st[k]?=some (a:Int)) (h2:st[k+1]?=some (b:Int)):q7o st ix vs k=(List.range (b-a)).map fun t=>((ix.getD (a+t) 0).toNat,vs.getD (a+t) 0):=by
 unfold q7o;rw [getD_some h1,getD_some h2,Int.toNat_natCast,Int.toNat_natCast]
def qft (h:CmpOk n st ix G) (hl:ix.length=vs.length) (hf:∀ x ∈ vs,q0M x) (hu:∀ x ∈ vs,x < 18446744073709551616) (hix:ix.length≤1000000) (hG:∀ k l,k < n→q8O l→G k l→(∀ z,l[0]?=some z→0≤z)∧∀ z,l[l.length-1]?=some z→z < n):ColS n st ix vs (q7o st ix vs):=by
 refine ⟨hix,fun k hk=>?_,fun k hk=>?_,fun k hk=>?_⟩
 all_goals
  obtain ⟨a,b,h1,h2,h3,h4,h5,h6⟩:=h.col k hk;obtain ⟨g1,g2⟩:=hG k _ hk h5 h6;rw [q7n h1 h2];have hll:((ix.take b).drop a).length=b-a:=by rw [List.length_drop,List.length_take]; omega
  have hb:∀ t,t < b-a→∃ z:Nat,ix[a+t]?=some (z:Int)∧t≤z∧z < n:=fun t ht=>by
   obtain ⟨z,hz⟩:∃ z,ix[a+t]?=some z:=⟨_,List.getElem?_eq_getElem Oq⟩;have hz2:=(q3U (ix:=ix) (a:=a) (b:=b) (t:=t) Oq).trans hz;have q1:=q8I h5 g1 t z hz2;obtain ⟨y,hy⟩:∃ y,((ix.take b).drop a)[((ix.take b).drop a).length-1]?=some y:=⟨_,List.getElem?_eq_getElem Oq⟩;have q2:=qqF h5 hz2 hy;have q3:=g2 y hy;exact ⟨z.toNat,by rw [Int.toNat_of_nonneg (by omega)]; exact hz,by omega,by omega⟩
 ·refine ⟨a,h1,?_,?_,fun t e he=>?_⟩
  ·rw [h2,List.length_map,List.length_range]; congr 1; omega
  ·rw [List.length_map,List.length_range]; omega
  ·have ht:t < b-a:=by have:=(List.getElem?_eq_some_iff.1 he).1; simpa using this
   rw [List.getElem?_map,List.getElem?_range ht,Option.map_some] at he;cases he;obtain ⟨z,z1,z2,z3⟩:=hb t ht;obtain ⟨v,hv⟩:∃ v,vs[a+t]?=some v:=⟨_,List.getElem?_eq_getElem Oq⟩;simp only [getD_some z1,getD_some hv,Int.toNat_natCast];exact ⟨z1,hv,z3,hf v (List.mem_of_getElem? hv),hu v (List.mem_of_getElem? hv)⟩
 ·rw [List.map_map];unfold List.Nodup;rw [List.pairwise_iff_getElem];intro i j hi hj hij;simp at hi hj;obtain ⟨z,z1,_⟩:=hb i hi;obtain ⟨y,y1,_⟩:=hb j hj;simp only [List.getElem_map,List.getElem_range,Function.comp_apply,getD_some z1,getD_some y1,Int.toNat_natCast];have:=q8H h5 (j-i-1) i z y ((q3U (by omega)).trans z1) ((q3U (by omega)).trans (by rw [← y1]; congr 1; omega));omega
 ·rw [List.length_map,List.length_range]
  by_cases e:b-a=0
  ·omega
  ·obtain ⟨z,z1,z2,z3⟩:=hb (b-a-1) Oq;omega
end
def qaR {L:List (Nat × Nat)} {t:Nat} {e:Nat × Nat} (h:(L.map (·.1)).Nodup) (he:L[t]?=some e):ctV L e.1=e.2:=by
 induction L generalizing t with
 | nil=>simp at he
 | cons d L ih =>
  rw [List.map_cons,List.nodup_cons] at h;cases t with
  | zero =>
   rw [List.getElem?_cons_zero] at he;cases he;unfold ctV;rw [List.find?_cons,show (e.1 == e.1)=true by simp]; rfl
  | succ t =>
   rw [List.getElem?_cons_succ] at he;have hne:d.1≠e.1:=fun q=>h.1 (by rw [q]; exact List.mem_map_of_mem (List.mem_of_getElem? he));unfold ctV;rw [List.find?_cons,show (d.1 == e.1)=false by simpa using hne];exact ih h.2 he
def qfh {k:Nat}:∀ (l:List (Nat × Nat)) (g:Nat→Nat→Nat) (i j:Nat),(l.map (·.1)).Nodup→enS g k l i j=if j=k then ((l.find? fun e=>e.1 == i).map (·.2)).getD (g i j) else g i j
 | [],g,i,j,_=>by unfold enS; simp
 | e :: l,g,i,j,h=>by
  rw [List.map_cons,List.nodup_cons] at h;rw [enS,qfh l _ i j h.2]
  by_cases hj:j=k
  ·rw [if_pos hj,if_pos hj,List.find?_cons]
   by_cases he:e.1=i
   ·have h0:(l.find? fun e=>e.1 == i)=none:=List.find?_eq_none.2 fun d hd hq=>h.1 (by rw [he,← (by simpa using hq:d.1=i)]; exact List.mem_map_of_mem hd);rw [h0,show (e.1 == i)=true by simpa using he];simp [q38,hj,he]
   ·rw [show (e.1 == i)=false by simpa using he];simp only [q38];rw [if_neg fun q=>he q.1.symm]
  ·rw [if_neg hj,if_neg hj];unfold q38;rw [if_neg fun q=>hj q.2]
def qaP {g:Nat→Nat→Nat} {E:Nat→List (Nat × Nat)}:∀ (m i j:Nat),(∀ k,k < m→((E k).map (·.1)).Nodup)→dnT g E m i j=if j < m then (((E j).find? fun e=>e.1 == i).map (·.2)).getD (g i j) else g i j
 | 0,i,j,_=>by rw [dnT,if_neg (by omega)]
 | m+1,i,j,h=>by
  rw [dnT,qfh _ _ _ _ (h m (by omega)),qaP m i j fun k hk=>h k (by omega)]
  by_cases hj:j=m
  ·subst hj;rw [if_pos rfl,if_neg (by omega),if_pos (by omega)]
  ·rw [if_neg hj]
   by_cases h2:j < m
   ·rw [if_pos h2,if_pos (by omega)]
   ·rw [if_neg h2,if_neg (by omega)]
def dnL_v {n:Nat} {E:Nat→List (Nat × Nat)} (h:∀ k,k < n→((E k).map (·.1)).Nodup) {i j:Nat} (hj:j < n) (hij:j < i):dnT (dnD n) E n i j=ctV (E j) i:=by
 rw [qaP n i j h,if_pos hj];unfold ctV dnD;rw [if_neg (by omega)]
def dnU_v {n:Nat} {E:Nat→List (Nat × Nat)} (h:∀ k,k < n→((E k).map (·.1)).Nodup) {i j:Nat} (hj:j < n):dnT (fun _ _=>0) E n i j=ctV (E j) i:=by
 rw [qaP n i j h,if_pos hj]
 rfl
def qfp {n:Nat} {st ix:List Int} {vs:List Nat} {E:Nat→List (Nat × Nat)} (h:ColS n st ix vs E) {i j:Nat} (hj:j < n):ctV (E j) i < 18446744073709551616∧q0M (ctV (E j) i):=by
 unfold ctV;cases hf:(E j).find? fun e=>e.1 == i with
 | none=>exact ⟨by simp,by unfold q0M; simp⟩
 | some e =>
  obtain ⟨t,ht⟩:=List.mem_iff_getElem?.1 (List.mem_of_find?_eq_some hf);obtain ⟨a,_,_,_,h4⟩:=h.col j hj;obtain ⟨_,_,_,h5,h6⟩:=h4 t e ht;exact ⟨h6,h5⟩
structure LUok (f:LUt) (n:Nat):Prop where
 b:LUb f
 rl:f.rows.length=n
 n2:n≤200
 rp:q2W f.rows n
 cp:q2W f.cols n
 sl:f.ls.length=n+1
 su:f.us.length=n+1
 L:ColS n f.ls f.li f.lv (q7o f.ls f.li f.lv)
 U:ColS n f.us f.ui f.uv (q7o f.us f.ui f.uv)
 gt:∀ k,k < n→∀ e ∈ q7o f.ls f.li f.lv k,k < e.1
 le:∀ k,k < n→∀ e ∈ q7o f.us f.ui f.uv k,e.1≤k
 dg:∀ k,k < n→∃ m x,q7o f.us f.ui f.uv k=m ++ [(k,x)]∧ofZ x≠0∧∀ e ∈ m,e.1 < k
def qa8 {f:LUt} (hb:LUb f) (h:q4T f=0):LUok f f.rows.length:=by
 unfold q4T at h
 split at h
 ·cases h
 split at h
 ·cases h
 rename_i hn hp
 split at h
 ·cases h
 rename_i hls
 split at h
 ·cases h
 rename_i hst
 split at h
 ·rename_i hf;obtain ⟨f1,f2,f3⟩:=hf;have hp:=Classical.not_not.1 hp;obtain ⟨s1,s2,s3,s4⟩:=Classical.not_not.1 hls;have hst:=Classical.not_not.1 hst;obtain ⟨c1,c2⟩:=hst;have L:=qft (vs:=f.lv) c1 s3 f1 hb.hl hb.li fun k l hk ha hg=>⟨fun z hz=>by have:=hg.1 z hz; omega,hg.2⟩;have U:=qft (vs:=f.uv) c2 s4 f2 hb.hu hb.ui fun k l hk ha hg=>⟨hg.1,fun z hz=>by have:=hg.2.symm.trans hz; cases this; omega⟩;have hgt:∀ k,k < f.rows.length→∀ e ∈ q7o f.ls f.li f.lv k,k < e.1:=fun k hk e he=>by
   obtain ⟨a,b,h1,h2,h3,h4,h5,h6⟩:=c1.col k hk;rw [q7n h1 h2] at he;obtain ⟨t,ht,rfl⟩:=List.mem_map.1 he;have ht:=List.mem_range.1 ht;obtain ⟨z,hz⟩:∃ z,f.li[a+t]?=some z:=⟨_,List.getElem?_eq_getElem Oq⟩;have:=q8I h5 (lo:=(k:Int)+1) (fun z hz=>by have:=h6.1 z hz; omega) t z ((q3U Oq).trans hz);simp only [getD_some hz];omega
  have hU:∀ k,k < f.rows.length→∃ m x,q7o f.us f.ui f.uv k=m ++ [(k,x)]∧ofZ x≠0∧∀ e ∈ m,e.1 < k:=fun k hk=>by
   obtain ⟨a,b,h1,h2,h3,h4,h5,h6⟩:=c2.col k hk;have hll:((f.ui.take b).drop a).length=b-a:=by rw [List.length_drop,List.length_take]; omega
   have hlast:=h6.2;have hab:a < b:=by
    rcases Nat.lt_or_ge a b with q | q
    ·exact q
    ·rw [List.getElem?_eq_none (by omega)] at hlast; cases hlast
   rw [hll,q3U (by omega)] at hlast;obtain ⟨x,hx⟩:∃ x,f.uv[b-1]?=some x:=⟨_,List.getElem?_eq_getElem Oq⟩;rw [show a+(b-a-1)=b-1 by omega] at hlast;refine ⟨(List.range (b-a-1)).map fun t=>((f.ui.getD (a+t) 0).toNat,f.uv.getD (a+t) 0),x,?_,f3 k hk (b-1) x (by rw [h2]; congr 1; omega) hx,fun e he=>?_⟩
   ·rw [q7n h1 h2,show b-a=(b-a-1)+1 by omega,List.range_succ,List.map_append,List.map_singleton,show a+(b-a-1)=b-1 by omega,getD_some hlast,getD_some hx,Int.toNat_natCast]
    rfl
   ·obtain ⟨t,ht,rfl⟩:=List.mem_map.1 he;have ht:=List.mem_range.1 ht;obtain ⟨z,hz⟩:∃ z,f.ui[a+t]?=some z:=⟨_,List.getElem?_eq_getElem Oq⟩;have hz2:=(q3U (ix:=f.ui) (a:=a) (b:=b) (t:=t) Oq).trans hz;have q1:=q8I h5 h6.1 t z hz2;have q2:=q8H h5 (b-a-1-t-1) t z k hz2 ((q3U (by omega)).trans (by rw [← hlast]; congr 1; omega));simp only [getD_some hz];omega
  refine ⟨hb,rfl,by omega,hp.1,hp.2,s1,s2,L,U,hgt,fun k hk e he=>?_,hU⟩;obtain ⟨m,x,m1,m2,m3⟩:=hU k hk;rw [m1] at he
  rcases List.mem_append.1 he with he | he
  ·exact Nat.le_of_lt (m3 e he)
  ·rw [List.mem_singleton.1 he]; exact Nat.le_refl _
 ·cases h
end Go.Proofs.YtfmojhhokfkdaaaGreatDoor
namespace Go.E
open Go Go.RowKit
section
variable {T1 T2:TypeId} {K:Kd} {N R n:Nat} {row:Nat→List PV}
def qao:qdm T1 T2 K N R n row=q1X T1 T2 K N R n row h0:=rfl
def q7G (T1 T2:TypeId) (K:Kd) (N R n:Nat) (row:Nat→List PV) (k z:Nat) (l:List PV):Hp:=fun i=>if i=k+R then none else if i=z then some ⟨T2,K,l,false⟩ else if i=N then some ⟨T1,none,((List.range n).map fun j=>.ow (j+R) K 0 (row j).length).set k (.ow z K 0 l.length),false⟩ else q1X T1 T2 K N R n row h0 i
def q50 {k z i:Nat} {l:List PV} {b:Bk} (hb:q7G T1 T2 K N R n row k z l i=some b):i≠k+R∧((i=z∧b=⟨T2,K,l,false⟩)∨(i≠z∧i=N∧b=⟨T1,none,((List.range n).map fun j=>.ow (j+R) K 0 (row j).length).set k (.ow z K 0 l.length),false⟩)∨(i≠z∧i≠N∧R≤i∧i < R+n∧b=⟨T2,K,row (i-R),false⟩)):=by
 unfold q7G at hb
 split at hb
 ·cases hb
 ·refine ⟨by assumption,?_⟩
  split at hb
  ·rename_i hi; cases hb; exact .inl ⟨hi,rfl⟩
  ·rename_i hz
   split at hb
   ·rename_i hi; cases hb; exact .inr (.inl ⟨hz,hi,rfl⟩)
   ·rename_i hN
    rcases q0s hb with ⟨e,_⟩ | ⟨_,q1,q2,q3⟩ | ⟨_,_,q⟩
    ·exact absurd e hN
    ·exact .inr (.inr ⟨hz,hN,q1,q2,q3⟩)
    ·cases q
end
end Go.E
namespace Go.Proofs.YtfmojhhokfkdaaaGreatDoor
open Go Go.E Go.Sp
abbrev q2d (n:Nat) (rows:Nat→List Int):Hp:=q1X 45 40 (some 4) 5000 10000 n (q7P rows) h0
def q0T {n:Nat} {rows:Nat→List Int} (hn:n≤1000):BOk (q2d n rows) win:=q1h BOk.h0 (fun _ _=>clV) Oq ⟨⟨by omega,by omega⟩,fun j hj=>⟨by omega,by omega⟩⟩
def wfB {H:Hp} (h:BOk H win):WfH H:=⟨fun i b hb=>⟨(h.b i b hb).2.1,IdL_mono (fun j hj=>by
 obtain ⟨c,hc⟩:=Option.ne_none_iff_exists'.1 hj;exact ⟨(h.b j c hc).1,hj⟩) _ (h.b i b hb).2.2⟩⟩
section
variable {b:List Nat} {n:Nat} {rows:Nat→List Int}
def bgR (b:List Nat) (k:Nat):Nat→List Int:=fun j=>if j < k then [ofZ (b.getD j 0)] else []
def qgU (hb:q0z b) (hn:b.length≤500):qdZ 218 [pF b] h0 (.ow 5000 none 0 b.length) (q2d b.length (bgR b b.length)):=by
 obtain ⟨n,hbn⟩:∃ n,n=b.length:=⟨_,rfl⟩;rw [← hbn];refine qg2 qlV Tryz.func218 rfl Tryz.ntmps218 (by kernel_rfl) ?_ ?_ ?_ ?_
 ·intro i b hb; cases hb
 ·exact fun i b hb=>((q0T Oq).b i b hb).1
 ·exact IdL.of fun x hx=>by simp at hx; subst hx; unfold IdP; trivial
 refine wk ?_;refine q0q (q4z (o:=8) (N:=5000) (R:=10000) (n:=n) (T1:=45) (T2:=40) (K:=some 4) (fun _ h=>h rfl) ?_ (by omega) (by omega) (by omega) (by omega) (xs:=[(0,pF b),(3,.ow 5000 none 0 n),(9,pF b),(10,iv n),(11,iv 0)]) (kv:=[]) (kb:=[]) (by simp [nmW]) ?_) ?_
 ·try refine Zz ?_
  rw [hbn]
 ·try refine Zz ?_
  rw [hbn];exact ⟨⟨rfl,rfl⟩,rfl⟩
 rw [qao];refine q0N (fun k:Nat=>k≤n) [0,3,9,10] [] Lk Lk (fun k:Nat=>[(11,iv k)]) (fun _=>[]) (fun k=>q2d n (bgR b k)) (fun k=>n-k) 0 (Nat.zero_le _) ?_ ?_
 ·refine LeW [] rfl rfl ?_ ?_ (by simp [q09,q05,win]) ?_
  ·exact Ow
  ·exact wfB (q0T Oq)
  ·try refine Zz ?_
   rfl
 ·intro k hk
  by_cases hlt:k < n
  ·have hlt':(k:Int) < n:=by omega
   obtain ⟨x,hx⟩:∃ x,b[k]?=some x:=⟨_,List.getElem?_eq_getElem Oq⟩;obtain ⟨u1,u2⟩:=hb x (List.mem_of_getElem? hx);have C1:=q1f (q3x u1 (q0Y u2)) (q3K u2);have er:q8L (q7P (bgR b k)) k [pV (ofZ x)]=q7P (bgR b (k+1)):=by
    funext j
    unfold q8L q7P bgR
    by_cases h:j=k
    ·subst h; rw [if_pos rfl,if_pos (by omega),getD_some hx]; rfl
    ·rw [if_neg h]
     by_cases h2:j < k
     ·rw [if_pos h2,if_pos (by omega)]
     ·rw [if_neg h2,if_neg (by omega)]
   refine wk1 (x2 hlt' hx) ?_;refine ⟨k+1,by omega,by omega,?_⟩;unfold q2d;rw [← er];refine q2w (r:=20) (k:=k) (row:=q7P (bgR b k)) (fun _ h=>h rfl) hlt (by intro x hx; simp at hx; subst hx; trivial) ?_ ?_ (fun i h1 h2 h3 h4=>?_) (fun _ _=>clV) BOk.h0 (.inl (by omega)) (by omega) (by omega) (by omega) (by simp [nmW]) ?_
   ·try simp -implicitDefEqProofs (disch:=omega) only [go_sem,Nat.reduceEqDiff,Nat.reduceAdd,↓reduceIte]
   ·try simp -implicitDefEqProofs (disch:=omega) only [go_sem,Nat.reduceEqDiff,Nat.reduceAdd,↓reduceIte]
   ·rw [q0A h2,q0A h4,q0U h1]
   ·try refine Zz ?_
    rfl
  ·have hlt':¬ (k:Int) < n:=by omega
   obtain rfl:n=k:=by omega
   refine wk1 hlt' ?_;refine (rtM (rs:=[.tmp 2]) rfl rfl Lq ?_ (.inl rfl));exact LeF q36 (fun i b hb=>((q0T Oq).b i b hb).1) (wfB (q0T Oq)) (.ow rfl q1a)
def qm0 {k z:Nat} {l:List PV} (hn:n≤1000) (hk:k < n) (hcl:ClL l) (hz:900000≤z∧z < 1000000):BOk (q7G 45 40 (some 4) 5000 10000 n (q7P rows) k z l) win:=⟨fun i b hb=>by
 obtain ⟨h0,h1⟩:=q50 hb
 rcases h1 with ⟨rfl,rfl⟩ | ⟨_,rfl,rfl⟩ | ⟨q0,q1,q2,q3,rfl⟩
 ·exact ⟨⟨by omega,by omega⟩,rfl,IdL.of fun x hx=>q6B (hcl x hx)⟩
 ·refine ⟨⟨by omega,by omega⟩,rfl,IdL.of fun x hx=>?_⟩;obtain ⟨c,hc⟩:=List.mem_iff_getElem?.1 hx;rw [List.getElem?_set] at hc
  split at hc
  ·split at hc
   ·cases hc;unfold IdP q7G;rw [if_neg (by omega),if_pos rfl];exact Option.some_ne_none _
   ·cases hc
  ·rename_i hkc;rw [List.getElem?_map] at hc
   rcases Nat.lt_or_ge c n with hcn | hcn
   ·rw [List.getElem?_range hcn] at hc;cases hc;unfold IdP q7G;rw [if_neg (by omega),if_neg (by omega),if_neg (by omega),q1R (by omega) hcn];exact Option.some_ne_none _
   ·rw [List.getElem?_eq_none (by simpa using hcn)] at hc; cases hc
 ·exact ⟨⟨by omega,by omega⟩,rfl,IdL.of fun x hx=>q6B (clV x hx)⟩⟩
def q66 {k:Nat} {a c:Nat} (hn:n≤1000) (hk:k < n) (hl:(rows k).length≤2000) (ha:q0M a∧a < 18446744073709551616) (hc:q0M c∧c < 18446744073709551616) :
  ACxt 220 [.ow 5000 none 0 n,iv k,uv a,uv c] (q2d n rows) (.tu []) (q7G 45 40 (some 4) 5000 10000 n (q7P rows) k 900000 ((rows k ++ [-(q0l a c)]).map fun V=>pV V)):=by
 refine actx qlU Tryz.func220 rfl Tryz.ntmps220 (by kernel_rfl) ?_ ?_ ?_ ?_
 ·intro i b hb;obtain ⟨h1,h2,h3⟩:=(q0T hn).b i b hb;refine ⟨h1,h2,IdL_mono (fun j hj=>?_) _ h3,?_⟩
  ·obtain ⟨c,hc⟩:=Option.ne_none_iff_exists'.1 hj;exact ((q0T hn).b j c hc).1
  ·unfold q7G
   by_cases hi:i=k+10000
   ·exact .inl (if_pos hi)
   ·refine .inr ?_;rw [if_neg hi]
    rcases q0s hb with ⟨rfl,rfl⟩ | ⟨q0,q1,q2,rfl⟩ | ⟨_,_,q⟩
    ·rw [if_neg (by omega),if_pos rfl];exact ⟨_,rfl,rfl,by simp⟩
    ·rw [if_neg (by omega),if_neg q0];exact ⟨_,hb,rfl,Nat.le_refl _⟩
    ·cases q
 ·exact fun i b hb=>((qm0 hn hk clV ⟨by omega,by omega⟩).b i b hb).1
 ·exact IdL.of fun x hx=>by
   simp at hx
   rcases hx with rfl | rfl | rfl | rfl <;> unfold IdP
   ·exact ⟨by omega,by omega⟩
   all_goals trivial
 have C1:=q3x ha.2 (q0Y ha.1);have C2:=q3x hc.2 (q0Y hc.1);have M:=q1C ha.1 hc.1;have C3:=q6w (q3K ha.1) (q3K hc.1) M.1;have hmd:=(q4j M.1).2.2.2;have C4:=q1f (q96 hmd) (by unfold q0V at *; rw [Int.natAbs_neg]; exact hmd);have rk:(List.range n)[k]?=some k:=List.getElem?_range hk;refine wk1 rk ?_;refine rtM (rs:=[]) rfl rfl Lq ?_ (.inr rfl);have tI:∀ i,i≠900000→tnU 900000 21 i=some i:=fun i h=>if_neg h;have eZ:∀ i,i≠900000→i≠k+10000→i≠5000→q7G 45 40 (some 4) 5000 10000 n (q7P rows) k 900000 ((rows k ++ [-(q0l a c)]).map fun V=>pV V) i=q2d n rows i:=fun i h1 h2 h3=>by unfold q7G; rw [if_neg h2,if_neg h1,if_neg h3]
 refine q4N (tnU 900000 21) (fun i b hb=>?_) (fun i j x b d hi hj ti tj=>?_) (fun _=>.tu rfl fun i x y hx _=>by simp at hx) fun i hi h5 h6=>tI i ?_
 ·obtain ⟨h0,h1⟩:=q50 hb;unfold LeB
  rcases h1 with ⟨rfl,rfl⟩ | ⟨_,rfl,rfl⟩ | ⟨q0,q1,q2,q3,rfl⟩
  ·rw [show tnU 900000 21 900000=some 21 from if_pos rfl];refine ⟨_,rfl,rfl,rfl,⟨rfl,rfl⟩,q0G ?_ clV⟩;rw [List.map_append]; rfl
  ·rw [tI 5000 (by omega)];refine ⟨_,rfl,rfl,rfl,⟨rfl,rfl⟩,by simp,fun p u v hu hv=>?_⟩;rw [List.getElem?_set] at hu hv
   by_cases hkp:k=p
   ·subst hkp;rw [if_pos rfl,if_pos (by simpa using hk)] at hu hv;cases hu; cases hv;rw [List.length_map,List.length_append];exact .ow (if_pos rfl) (by unfold q7G; rw [if_neg (by omega),if_pos rfl])
   ·rw [if_neg hkp] at hu hv;rw [List.getElem?_map] at hu hv
    rcases Nat.lt_or_ge p n with hpn | hpn
    ·rw [List.getElem?_range hpn] at hu hv;cases hu; cases hv
     show LeV _ _ _ (.ow (p+10000) (some 4) 0 (rows p).length) (.ow (p+10000) (some 4) 0 ((rows p).map fun V=>pV V).length)
     rw [List.length_map];exact .ow (tI _ (by omega)) (by rw [eZ _ (by omega) (by omega) (by omega)]; exact q1R (by omega) hpn)
    ·rw [List.getElem?_eq_none (by simpa using hpn)] at hu; cases hu
  ·rw [tI i q0];refine ⟨_,?_,rfl,rfl,⟨rfl,rfl⟩,q0G rfl clV⟩;rw [q0A q1,q0A (by omega),q0A h0,q0A (by omega),← eZ i q0 h0 q1];exact hb
 ·have a1:∀ i b,q7G 45 40 (some 4) 5000 10000 n (q7P rows) k 900000 ((rows k ++ [-(q0l a c)]).map fun V=>pV V) i=some b→i≠21:=fun i b hb=>by
   obtain ⟨_,h1⟩:=q50 hb
   rcases h1 with ⟨rfl,_⟩ | ⟨_,rfl,_⟩ | ⟨_,_,q,_⟩ <;> omega
  have b1:=a1 i b hi;have b2:=a1 j d hj;unfold tnU at ti tj
  split at ti <;> split at tj <;> cases ti <;> cases tj <;> first | omega | rfl | exact (b1 rfl).elim | exact (b2 rfl).elim
 ·rintro rfl;refine hi.1 ?_;unfold q2d;rw [q0K (by omega) (by omega)]; rfl
end
def psG (g:Nat→Int):List (Nat × Nat)→(Nat→List Int)→Nat→List Int
 | [],rows=>rows
 | e :: L,rows=>psG g L (q2i rows e.1 (-(g e.2)))
def ctG (g:Nat→Int) (L:List (Nat × Nat)) (r:Nat):Int:=q1B (L.map fun e=>if e.1=r then g e.2 else 0)
def qe7 {g:Nat→Int}:∀ (A B:List (Nat × Nat)) (rows:Nat→List Int),psG g (A ++ B) rows=psG g B (psG g A rows)
 | [],_,_=>rfl
 | e :: A,B,rows=>by rw [List.cons_append,psG,psG,qe7 A B]
def qhg {g:Nat→Int} {t:Nat} {L:List (Nat × Nat)} {e:Nat × Nat} {rows:Nat→List Int} (he:L[t]?=some e):psG g (L.take (t+1)) rows=q2i (psG g (L.take t) rows) e.1 (-(g e.2)):=by
 rw [q1E he,qe7]; rfl
def q45 {g:Nat→Int} {r:Nat}:∀ (L:List (Nat × Nat)) (rows:Nat→List Int),q1B (psG g L rows r)=q1B (rows r)-ctG g L r
 | [],rows=>by unfold psG ctG; rw [List.map_nil,q12]; omega
 | e :: L,rows=>by
  rw [psG,q45 L,qd0];have:ctG g (e :: L) r=(if e.1=r then g e.2 else 0)+ctG g L r:=by unfold ctG; rw [List.map_cons,q2O]
  rw [this]
  by_cases h:r=e.1
  ·rw [if_pos h,if_pos h.symm]; omega
  ·rw [if_neg h,if_neg fun q=>h q.symm]; omega
def qk9 {g:Nat→Int}:∀ (L:List (Nat × Nat)) (rows:Nat→List Int) (m:Nat),(∀ e ∈ L,bl (g e.2).natAbs≤67600)→(∀ r,(rows r).length≤m)→(∀ r,∀ z ∈ rows r,bl z.natAbs≤67600)→(∀ r,(psG g L rows r).length≤m+L.length)∧∀ r,∀ z ∈ psG g L rows r,bl z.natAbs≤67600
 | [],rows,m,_,h1,h2=>⟨h1,h2⟩
 | e :: L,rows,m,he,h1,h2=>by
  have hz:bl (-(g e.2)).natAbs≤67600:=by rw [Int.natAbs_neg]; exact he e List.mem_cons_self
  have b1:=qgp (k:=e.1) h1 h2 hz;have b2:=qk9 L _ (m+1) (fun d hd=>he d (List.mem_cons_of_mem _ hd)) b1.1 b1.2;rw [psG];exact ⟨fun r=>by have:=b2.1 r; rw [List.length_cons]; omega,b2.2⟩
abbrev psE (y:Nat):=psG fun v=>q0l v y
structure RB (rows:Nat→List Int) (m:Nat):Prop where
 l:∀ r,(rows r).length≤m
 b:∀ r,∀ z ∈ rows r,bl z.natAbs≤67600
def RB.pg {rows:Nat→List Int} {m:Nat} {g:Nat→Int} {L:List (Nat × Nat)} (h:RB rows m) (hL:∀ e ∈ L,bl (g e.2).natAbs≤67600):RB (psG g L rows) (m+L.length):=by
 obtain ⟨h1,h2⟩:=qk9 L rows m hL h.l h.b;exact ⟨h1,h2⟩
def RB.ps {rows:Nat→List Int} {m y:Nat} {L:List (Nat × Nat)} (h:RB rows m) (hy:q0M y) (hL:∀ e ∈ L,q0M e.2):RB (psE y L rows) (m+L.length):=h.pg fun e he=>(q1C (hL e he) hy).2
def RB.mono {rows:Nat→List Int} {m m':Nat} (h:RB rows m) (hm:m≤m'):RB rows m':=⟨fun r=>Nat.le_trans (h.l r) hm,h.b⟩
def RB.bg {b:List Nat} {k:Nat} (hb:q0z b):RB (bgR b k) 1:=⟨fun r=>by unfold bgR; split <;> simp,fun r z hz=>by
 unfold bgR at hz
 split at hz
 ·simp at hz; subst hz; exact Nat.le_trans (q3n (qfP hb).2) (by omega)
 ·cases hz⟩
def qaz {g:Nat→Int}:∀ m,sg g (m+1)=g 0+sg (fun i=>g (i+1)) m
 | 0=>by rw [sg,sg,sg]; omega
 | m+1=>by rw [sg,qaz m,show sg (fun i=>g (i+1)) (m+1)=sg (fun i=>g (i+1)) m+g (m+1) from rfl]; omega
section
variable {D:Nat→Nat→Nat} {E:Nat→List (Nat × Nat)} {n k:Nat} {ys:List Nat} {rows:Nat→List Int}
def RLo (D:Nat→Nat→Nat) (n k:Nat) (ys:List Nat) (rows:Nat→List Int):Prop:=∀ r,k≤r→r < n→q1B (rows r)=ofZ (ys.getD r 0)-sg (fun c=>q0l (D r c) (ys.getD c 0)) k
def RUp (D:Nat→Nat→Nat) (n k:Nat) (ys:List Nat) (rows:Nat→List Int):Prop:=∀ r,r < k→q1B (rows r)=ofZ (ys.getD r 0)-sg (fun i=>q0l (D r (k+i)) (ys.getD (k+i) 0)) (n-k)
def qgT {b:List Nat} {r:Nat} (hr:r < b.length):q1B (bgR b b.length r)=ofZ (b.getD r 0):=by
 unfold bgR;rw [if_pos hr,q5B]
def RLo.bg (hn:ys.length=n):RLo D n 0 ys (bgR ys n):=fun r _ hr=>by
 subst hn;rw [qgT hr,sg]; omega
def RUp.bg (hn:ys.length=n):RUp D n n ys (bgR ys n):=fun r hr=>by
 subst hn;rw [qgT hr,Nat.sub_self,sg]; omega
def qcv {i v:Nat} (h:i≠k):(ys.set k v).getD i 0=ys.getD i 0:=by
 rw [List.getD_eq_getElem?_getD,List.getD_eq_getElem?_getD,List.getElem?_set,if_neg fun q=>h q.symm]
def qiS {v:Nat} (h:k < ys.length):(ys.set k v).getD k 0=v:=by
 rw [List.getD_eq_getElem?_getD,List.getElem?_set_self h]; rfl
def RLo.s {v:Nat} (h:RLo D n k ys rows) (hl:k < ys.length) (hE:((E k).map (·.1)).Nodup) (hD:∀ r,D r k=ctV (E k) r):RLo D n (k+1) (ys.set k v) (psE v (E k) rows):=fun r h1 h2=>by
 have e:sg (fun c=>q0l (D r c) ((ys.set k v).getD c 0)) k=sg (fun c=>q0l (D r c) (ys.getD c 0)) k:=q3h k fun i hi=>by rw [qcv (by omega)]
 rw [q45,h r (by omega) h2,show ctG (fun x=>q0l x v) (E k) r=q0l (ctV (E k) r) v from qtj hE,← hD,qcv (by omega),sg,qiS hl,e];omega
def RUp.s {v x:Nat} {m:List (Nat × Nat)} (h:RUp D n (k+1) ys rows) (hk:k < n) (hl:k < ys.length) (hE:((E k).map (·.1)).Nodup) (hm:E k=m ++ [(k,x)]) (hD:∀ r,D r k=ctV (E k) r):RUp D n k (ys.set k v) (psE v m rows):=fun r h1=>by
 have e1:ctV (E k) r=ctV m r:=by
  rw [hm];unfold ctV;rw [List.find?_append];cases m.find? fun e=>e.1 == r with
  | some e=>rfl
  | none=>rw [List.find?_cons,show (k == r)=false by simp; omega]; rfl
 have e2:(m.map (·.1)).Nodup:=by
  rw [hm,List.map_append] at hE;exact (List.nodup_append.1 hE).1
 rw [q45,h r (by omega),show ctG (fun x=>q0l x v) m r=q0l (ctV m r) v from qtj e2,← e1,← hD,qcv (by omega),show n-k=(n-(k+1))+1 by omega,qaz];have:sg (fun i=>q0l (D r (k+(i+1))) ((ys.set k v).getD (k+(i+1)) 0)) (n-(k+1))=sg (fun i=>q0l (D r (k+1+i)) (ys.getD (k+1+i) 0)) (n-(k+1)):=q3h _ fun i _=>by rw [qcv (by omega),show k+(i+1)=k+1+i by omega]
 rw [this];simp only [Nat.add_zero];rw [qiS hl];omega
def RLo.v (h:RLo D n k ys rows) (hk:k < n):q1B (rows k)=loZ D ys k:=h k (Nat.le_refl _) hk
def RUp.v (h:RUp D n (k+1) ys rows):q1B (rows k)=upZ D ys n k:=h k Oq
end
def yLo (n:Nat) (ys:List Nat) (k:Nat):List Nat:=rwG n (fun i=>ys.getD i 0) k
def yUp (n:Nat) (ys:List Nat) (k:Nat):List Nat:=(List.range n).map fun j=>if k≤j then ys.getD j 0 else 0
section
variable {n k v:Nat} {ys:List Nat}
def qmA:(yLo n ys k).length=n:=q43
def qly:(yUp n ys k).length=n:=by unfold yUp; simp
def qqc:yLo n ys 0=List.replicate n 0:=qeL.symm
def yUp_n:yUp n ys n=List.replicate n 0:=by
 unfold yUp;refine List.ext_getElem? fun i=>?_;rw [List.getElem?_map,List.getElem?_replicate]
 by_cases h:i < n
 ·rw [List.getElem?_range h,if_pos h,Option.map_some,if_neg (by omega)]
 ·rw [List.getElem?_eq_none (by simpa using h),if_neg h]; rfl
def yLo_s (hl:ys.length=n) (hk:k < n):(yLo n ys k).set k v=yLo n (ys.set k v) (k+1):=by
 unfold yLo rwG;dsimp only;refine List.ext_getElem? fun i=>?_;rw [List.getElem?_set,List.getElem?_map,List.getElem?_map,List.length_map,List.length_range]
 by_cases h:i < n
 ·rw [List.getElem?_range h,Option.map_some,Option.map_some]
  by_cases h2:k=i
  ·subst h2;rw [if_pos rfl,if_pos h,if_pos (by omega),qiS (by omega)]
  ·rw [if_neg h2,qcv (by omega)]
   by_cases h3:i < k
   ·rw [if_pos h3,if_pos (by omega)]
   ·rw [if_neg h3,if_neg (by omega)]
 ·rw [List.getElem?_eq_none (by simpa using h),if_neg (by omega)]; rfl
def yUp_s (hl:ys.length=n) (hk:k < n):(yUp n ys (k+1)).set k v=yUp n (ys.set k v) k:=by
 unfold yUp;refine List.ext_getElem? fun i=>?_;rw [List.getElem?_set,List.getElem?_map,List.getElem?_map,List.length_map,List.length_range]
 by_cases h:i < n
 ·rw [List.getElem?_range h,Option.map_some,Option.map_some]
  by_cases h2:k=i
  ·subst h2;rw [if_pos rfl,if_pos h,if_pos (by omega),qiS (by omega)]
  ·rw [if_neg h2,qcv (by omega)]
   by_cases h3:k≤i
   ·rw [if_pos h3,if_pos (by omega)]
   ·rw [if_neg h3,if_neg (by omega)]
 ·rw [List.getElem?_eq_none (by simpa using h),if_neg (by omega)]; rfl
def yLo_n (hl:ys.length=n):yLo n ys n=ys:=by
 unfold yLo rwG;dsimp only;refine List.ext_getElem? fun i=>?_;rw [List.getElem?_map]
 by_cases h:i < n
 ·rw [List.getElem?_range h,Option.map_some,if_pos h,List.getD_eq_getElem?_getD,List.getElem?_eq_getElem (by omega)]; rfl
 ·rw [List.getElem?_eq_none (by simpa using h),List.getElem?_eq_none (by omega)]; rfl
def yUp_0 (hl:ys.length=n):yUp n ys 0=ys:=by
 unfold yUp;refine List.ext_getElem? fun i=>?_;rw [List.getElem?_map]
 by_cases h:i < n
 ·rw [List.getElem?_range h,Option.map_some,if_pos (Nat.zero_le _),List.getD_eq_getElem?_getD,List.getElem?_eq_getElem (by omega)]; rfl
 ·rw [List.getElem?_eq_none (by simpa using h),List.getElem?_eq_none (by omega)]; rfl
end
def qk2 {a b:Int} (h:b < a):(a-b).sign=1:=Int.sign_eq_one_of_pos Oq
def qk1 {a b:Int} (h:¬ b < a):¬ (a-b).sign > 0:=fun q=>by
 rcases Int.lt_or_eq_of_le (Int.not_lt.1 h) with h | h
 ·rw [Int.sign_eq_neg_one_of_neg (by omega)] at q; omega
 ·rw [show a-b=0 by omega] at q; exact absurd q (by decide)
def grZ (l:List Int):Int:=l.foldl max 0
def qiQ {l:List Int} {i:Nat} {x:Int} (h:l[i]?=some x):grZ (l.take (i+1))=max (grZ (l.take i)) x:=by
 unfold grZ;rw [q1E h,List.foldl_append]
 rfl
def qfO:∀ (l:List Int) (a:Int),(l.foldl max a=a∨l.foldl max a ∈ l)∧a≤l.foldl max a
 | [],a=>⟨.inl rfl,Int.le_refl _⟩
 | x :: l,a=>by
  have h:=qfO l (max a x);rw [List.foldl_cons];refine ⟨?_,by omega⟩
  rcases h.1 with h | h
  ·rw [h]
   rcases Int.le_total a x with q | q
   ·right; rw [Int.max_eq_right q]; exact List.mem_cons_self
   ·left; exact Int.max_eq_left q
  ·right; exact List.mem_cons_of_mem _ h
def qlF {l:List Int}:0≤grZ l:=(qfO l 0).2
def qoB {p:Int→Prop} {l:List Int} (h0:p 0) (h:∀ x ∈ l,p x):p (grZ l):=by
 rcases (qfO l 0).1 with q | q
 ·unfold grZ; rw [q]; exact h0
 ·exact h _ q
def q3L {l:List Int} {k:Nat} (h:∀ x ∈ l,bl x.natAbs≤k):bl (grZ l).natAbs≤k:=qoB (p:=fun z=>bl z.natAbs≤k) (by simp [q0p]) h
def q6K {v:Nat} (h:q0M v):bl (abZ v).natAbs≤66560:=by
 unfold abZ;rw [Int.natAbs_natCast];exact qnT h
def btD (n:Nat) (v:List Nat) (F:Nat→Nat→Option Nat) (i j k:Nat):Int:=q0l (v.getD (k*n+i) 0) ((F j k).getD 0)
def btE (n:Nat) (v:List Nat) (F:Nat→Nat→Option Nat) (i j:Nat):Int:=(if i=j then q0i else 0)-sg (btD n v F i j) n
def btZ (n:Nat) (v:List Nat) (F:Nat→Nat→Option Nat) (i:Nat):Int:=sg (fun j=>((btE n v F i j).natAbs:Int)) n
def btL (n:Nat) (v:List Nat) (F:Nat→Nat→Option Nat):List Int:=(List.range n).map (btZ n v F)
def pnZ (r c:Nat) (v:List Nat) (i:Nat):Int:=sg (fun j=>abZ (v.getD (j*r+i) 0)) c
def pnL (r c:Nat) (v:List Nat):List Int:=(List.range r).map (pnZ r c v)
def nmZ (F:Nat→Nat→Option Nat) (C i:Nat):Int:=sg (fun j=>abZ ((F j i).getD 0)) C
def nmL (F:Nat→Nat→Option Nat) (R C:Nat):List Int:=(List.range R).map (nmZ F C)
def q3i {g:Nat→Int} {K:Nat} (n:Nat) (hn:n≤1000) (h:∀ i,i < n→bl (g i).natAbs≤K):bl (sg g n).natAbs≤K+11:=by
 have e:∀ m,sg g m=q1B ((List.range m).map g):=fun m=>by
  induction m with
  | zero=>rfl
  | succ m ih=>rw [sg,ih,List.range_succ,List.map_append,List.map_singleton,q1H]
 have:=q53 (K:=K) (i:=n) (l:=(List.range n).map g) (fun x hx=>by
  obtain ⟨i,hi,rfl⟩:=List.mem_map.1 hx;exact h i (List.mem_range.1 hi)) Oq
 rw [List.take_of_length_le (by simp)] at this;rw [e];exact this
def q3V {g:Nat→Int} {n i:Nat} (h:i < n):((List.range n).map g)[i]?=some (g i):=by simp [h]
def qru {g:Nat→Int} {n:Nat}:(List.range (n+1)).map g=(List.range n).map g ++ [g n]:=by rw [List.range_succ,List.map_append]; rfl
def q1Z {g:Nat→Int} {n:Nat}:((List.range n).map g).length=n:=by simp
def q17 {v:List Nat} (hv:q0z v) {i:Nat}:v.getD i 0 < 18446744073709551616∧q0M (v.getD i 0):=by
 rw [List.getD_eq_getElem?_getD];cases h:v[i]? with
 | none=>exact ⟨by simp,by simp [q0M]⟩
 | some x=>exact hv x (List.mem_of_getElem? h)
def TOk.finD {f:Nat→Nat→Option Nat} {R C j i:Nat} (h:TOk f R C) (hj:j < C) (hi:i < R):q0M ((f j i).getD 0):=(h.fin hj hi).1
section
variable {F:Nat→Nat→Option Nat} {n r c R C:Nat} {v:List Nat}
def ql7 (h:TOk F n n) (hv:q0z v) {i j k:Nat} (hj:j < n) (hk:k < n):bl (btD n v F i j k).natAbs≤67584:=qkm (q17 hv).2 (h.finD hj hk)
def qbx (h:TOk F n n) (hv:q0z v) {i j:Nat} (hj:j < n):bl (btE n v F i j).natAbs≤67596:=by
 have h1:=q3i (g:=btD n v F i j) (K:=67584) n (by have:=h.r; omega) fun k hk=>ql7 h hv hj hk;unfold btE;refine qcB (k:=67595) ?_ Oq
 split
 ·have:=q3Y; omega
 ·simp [q0p]
def qgH (h:TOk F n n) (hv:q0z v) {i:Nat}:bl (btZ n v F i).natAbs≤67607:=q3i (K:=67596) n (by have:=h.r; omega) fun j hj=>by rw [Int.natAbs_natCast]; exact qbx h hv hj
def ql6 (h:TOk F n n) (hv:q0z v):∀ x ∈ btL n v F,bl x.natAbs≤67607:=fun x hx=>by
 obtain ⟨i,_,rfl⟩:=List.mem_map.1 hx;exact qgH h hv
def qkd (hv:q0z v) (hc:c≤1000) {i:Nat}:bl (pnZ r c v i).natAbs≤66571:=q3i (K:=66560) c hc fun j _=>q6K (q17 hv).2
def qbP (hv:q0z v) (hc:c≤1000):∀ x ∈ pnL r c v,bl x.natAbs≤66571:=fun x hx=>by
 obtain ⟨i,_,rfl⟩:=List.mem_map.1 hx;exact qkd hv hc
def qki (h:TOk F R C) {i:Nat} (hi:i < R):bl (nmZ F C i).natAbs≤66571:=q3i (K:=66560) C (by have:=h.c; omega) fun j hj=>q6K (h.finD hj hi)
def qkj (h:TOk F R C):∀ x ∈ nmL F R C,bl x.natAbs≤66571:=fun x hx=>by
 obtain ⟨i,hi,rfl⟩:=List.mem_map.1 hx;exact qki h (List.mem_range.1 hi)
def mlt (z:Int):Prop:=∃ m:Int,z=m*(2:Int) ^ 64462
def qn8:mlt 0:=⟨0,(Int.zero_mul _).symm⟩
def qn7 {a b:Int} (ha:mlt a) (hb:mlt b):mlt (a+b):=by
 obtain ⟨x,rfl⟩:=ha;obtain ⟨y,rfl⟩:=hb;exact ⟨x+y,(Int.add_mul _ _ _).symm⟩
def qkq {v:Nat} (h:q0M v):mlt (abZ v):=by
 obtain ⟨z,hz⟩:=qhk h;unfold abZ mlt;generalize (64462:Nat)=k at *;rw [hz,q0L];exact ⟨(z.natAbs:Int),by rw [Int.natCast_mul,q08]⟩
def qeh {g:Nat→Int}:∀ n,(∀ i,i < n→mlt (g i))→mlt (sg g n)
 | 0,_=>qn8
 | n+1,h=>qn7 (qeh n fun i hi=>h i Oq) (h n Oq)
def qkc (hv:q0z v):mlt (grZ (pnL r c v)):=qoB qn8 fun x hx=>by
 obtain ⟨i,_,rfl⟩:=List.mem_map.1 hx;exact qeh c fun j _=>qkq (q17 hv).2
def qkh (h:TOk F R C):mlt (grZ (nmL F R C)):=qoB qn8 fun x hx=>by
 obtain ⟨i,hi,rfl⟩:=List.mem_map.1 hx;exact qeh C fun j hj=>qkq (h.finD hj (List.mem_range.1 hi))
def prZ (a b:Int):Int:=(mkV (a*b) (-131072)).getD 0
def qka {a b:Int} (ha:mlt a) (hb:mlt b) (h1:bl a.natAbs≤66571) (h2:bl b.natAbs≤66571):mkV (a*b) (-131072)=some (prZ a b)∧bl (prZ a b).natAbs≤67606∧a*b=prZ a b*(2:Int) ^ 65536:=by
 obtain ⟨x,hx⟩:=ha;obtain ⟨y,hy⟩:=hb;obtain ⟨c,hc⟩:∃ c:Int,c=x*y*(2:Int) ^ 63388:=⟨_,rfl⟩;have e:a*b=c*(2:Int) ^ 65536:=by
  rw [hx,hy,hc];have:∀ p:Int,x*p*(y*p)=x*y*(p*p):=fun p=>by rw [Int.mul_assoc,Int.mul_assoc,Int.mul_left_comm p y p]
  rw [this,Int.mul_assoc (x*y),← Int.pow_add,← Int.pow_add]
 have hb:bl c.natAbs≤67606:=by
  refine ql8 e ?_;have:=q1w a.natAbs b.natAbs;rw [← Int.natAbs_mul] at this;omega
 have hk:mkV (a*b) (-131072)=some c:=by rw [e]; exact q71 (by unfold q0V; omega)
 unfold prZ;rw [hk];exact ⟨rfl,hb,e⟩
def q8i:q0i=(2:Int) ^ 65536:=by
 have h:=q70 (z:=1) (by have:=q0P (n:=Int.natAbs 1) (k:=1) (by decide); omega);rw [q3X.1] at h;have h:=Option.some.inj h;rw [Int.one_mul] at h;exact h
def mul_one {a:Int} (h:q0V a):mkV (a*q0i) (-131072)=some a:=by rw [q8i]; exact q71 h
end
def q8j (V:Int):od (V.natAbs:Int)=((od V).natAbs:Int)∧dyE (V.natAbs:Int)=dyE V:=by
 have hs:=q1m V
 by_cases hv:V < 0
 ·rw [decide_eq_true hv] at hs;have ho:od V < 0:=of_decide_eq_true hs;rw [show (V.natAbs:Int) = -V by omega,qec,qaN];exact ⟨by omega,rfl⟩
 ·rw [decide_eq_false hv] at hs;have ho:¬ od V < 0:=of_decide_eq_false hs;rw [show (V.natAbs:Int)=V by omega];exact ⟨by omega,rfl⟩
def qlK {V:Int} (h:q0V V):q0V (V.natAbs:Int):=by unfold q0V at *; rwa [Int.natAbs_natCast]
section
variable {A B V z:Int} {v:Nat}
def q8R (h1 : -9223372036854775808≤z) (h2:z≤9223372036854775807) (hv:mkV z 0=some V):ACt 117 [iv z] (dT V):=by
 have hz:bl z.natAbs≤64:=q0P (Nat.lt_of_le_of_lt (show z.natAbs≤9223372036854775808 by omega) (by decide));have C1:=@q1o;have C2:=q3c (m:=z) (e:=0) rfl Oq Oq Oq hv;refine ac0 Tryz.func117 Tryz.ntmps117 [.cell 2 40] ?_;exact wk trivial
def q95:ACt 117 [iv 1] (dT q0i):=q8R Oq Oq q3X.1
def qae:ACt 117 [iv 0] (dT 0):=q8R Oq Oq (q14 _)
def qdc (hA:q0V A):ACt 212 [dT A] (dT (A.natAbs:Int)):=by
 have C1:=q97 hA;have C2:=@q5n;have:=(q0k hA).2.2;have f1:=(q8j A).1.symm;have f2:=(q8j A).2;refine ac0 Tryz.func212 Tryz.ntmps212 [.cell 2 40] ?_;exact wk1 (x2 f1 f2) trivial
def q5t (h1:v < 18446744073709551616) (h2:q0M v):ACt 113 [uv (q5Q v:Nat)] (dT (abZ v)):=by
 have:=q3x (f:=q5Q v) (by have:=q8C (f:=v); omega) (q0Y (qje h2))
 rwa [← qnV h1 h2] at this
def qcK (h:q0M v):q0V (abZ v):=by have:=q6K h; unfold q0V; omega
end
def q56 {g:Nat→Int}:∀ n,q1B ((List.range n).map g)=sg g n
 | 0=>rfl
 | n+1=>by rw [List.range_succ,List.map_append,List.map_singleton,q1H,q56 n,sg]
def dy0:q0V 0:=by simp [q0V,q0p]
def pPn (r c:Nat) (v:List Nat):PV:=.ag [iv r,iv c,pF v]
open Classical in
noncomputable def chP (r c:Nat) (v:List Nat):Int:=if v.length≠r*c then 2 else if ∀ x ∈ v,q0M x then 0 else 4
section
variable {l:List Int} {r c i j:Nat} {v:List Nat}
def q4C (hn:l.length≤1000000):ACt 115 [pVs l] (pV (grZ l)):=by
 have C1:=q1f qae dy0;have N1:=q1P (V:=0);refine ac0 Tryz.func115 Tryz.ntmps115 [.cell 2 40] ?_;refine wk ?_;refine q0B (fun i=>i≤l.length) [2,3,9,10] [2] Lk Lk (fun i:Nat=>[(11,iv i)]) (fun i=>[(3,⟨40,some 4,[pV (grZ (l.take i))],false⟩)]) (fun i=>l.length-i) 0 (Nat.zero_le _) ?_ ?_
 ·refine LeM [] rfl rfl ?_;refine Zz ?_;exact ⟨rfl,rfl⟩
 ·intro i hi
  by_cases hlt:i < l.length
  ·obtain ⟨x,hx⟩:∃ x,l[i]?=some x:=⟨_,List.getElem?_eq_getElem hlt⟩;have C2:=qgn qbv fun ho=>q98 (A:=x) (B:=grZ (l.take i)) ho.1 ho.2;have es:=qiQ hx;generalize grZ (l.take i)=G at *
   by_cases h:G < x
   ·rw [qk2 h] at C2;rw [show max G x=x by omega] at es;refine wk1 hx ?_;refine ⟨i+1,by omega,by omega,?_⟩;rw [es];refine LeM [] rfl rfl ?_;refine Zz ?_
    first | done | trivial | omega | exact ⟨by omega,rfl⟩
   ·have q:=qk1 h;rw [show max G x=G by omega] at es;generalize (x-G).sign=s at *;refine wk1 hx ?_;refine ⟨i+1,by omega,by omega,?_⟩;rw [es];refine LeM [] rfl rfl ?_;refine Zz ?_
    first | done | trivial | omega | exact ⟨by omega,rfl⟩
  ·obtain rfl:i=l.length:=by omega
   rw [List.take_length];exact wk trivial
def q39 (hn:l.length≤1000000):ACt 116 [pVs l] (pV (grZ l)):=by
 have N1:=q1P (V:=0);refine ac0 Tryz.func116 Tryz.ntmps116 [.cell 2 40] ?_;refine wk ?_;refine q0B (fun i=>i≤l.length) [0,2,3] [2] Lk Lk (fun i:Nat=>[(4,iv i)]) (fun i=>[(3,⟨40,some 4,[pV (grZ (l.take i))],false⟩)]) (fun i=>l.length-i) 0 (Nat.zero_le _) ?_ ?_
 ·refine LeM [] rfl rfl ?_;refine Zz ?_;exact ⟨rfl,q2X rfl⟩
 ·intro i hi
  by_cases hlt:i < l.length
  ·obtain ⟨x,hx⟩:∃ x,l[i]?=some x:=⟨_,List.getElem?_eq_getElem hlt⟩;have C2:=q4y (A:=grZ (l.take i)) (B:=x);have es:=qiQ hx;generalize grZ (l.take i)=G at *
   by_cases h:G < x
   ·rw [decide_eq_true h] at C2;rw [show max G x=x by omega] at es;refine wk1 hx ?_;refine ⟨i+1,by omega,by omega,?_⟩;rw [es];refine LeM [] rfl rfl ?_;refine Zz ?_
    first | done | trivial | omega | exact ⟨by omega,rfl⟩
   ·rw [decide_eq_false h] at C2;rw [show max G x=G by omega] at es;refine wk1 hx ?_;refine ⟨i+1,by omega,by omega,?_⟩;rw [es];refine LeM [] rfl rfl ?_;refine Zz ?_
    first | done | trivial | omega | exact ⟨by omega,rfl⟩
  ·obtain rfl:i=l.length:=by omega
   rw [List.take_length];exact wk trivial
def qfo {n:Nat} (hr:r≤64) (hc:c≤64) (hn:n≤1000000):ACt 278 [iv r,iv c,iv n] (iv (if n≠r*c then 2 else 0)):=by
 have hm:r*c≤64*64:=Nat.mul_le_mul hr hc;have w1:IntKind.i64.wrap ((r:Int)*(c:Int))=((r*c:Nat):Int):=by rw [← Int.natCast_mul,i64_in (by omega) (by omega)]
 generalize r*c=m at *;refine ac0 Tryz.func278 Tryz.ntmps278 [.tmp 6] ?_
 by_cases h:n=m
 ·have q:((n:Int) != (m:Int))=false:=by simp; omega
  rw [if_neg (not_not_intro h)];exact wk1 (x2 w1 q) trivial
 ·have q:((n:Int) != (m:Int))=true:=by simp; omega
  rw [if_pos h];exact wk1 (x2 w1 q) trivial
def qd2 {n:Nat} (hr:r≤64) (hc:c≤64) (hn:n≤1000000):ACt 284 [iv r,iv c,iv n] (iv (if n≠r*c then 2 else 0)):=by
 have hm:r*c≤64*64:=Nat.mul_le_mul hr hc;have w1:IntKind.i64.wrap ((r:Int)*(c:Int))=((r*c:Nat):Int):=by rw [← Int.natCast_mul,i64_in (by omega) (by omega)]
 generalize r*c=m at *;refine ac0 Tryz.func284 Tryz.ntmps284 [.tmp 6] ?_
 by_cases h:n=m
 ·have q:((n:Int) != (m:Int))=false:=by simp; omega
  rw [if_neg (not_not_intro h)];exact wk1 (x2 w1 q) trivial
 ·have q:((n:Int) != (m:Int))=true:=by simp; omega
  rw [if_pos h];exact wk1 (x2 w1 q) trivial
open Classical in
def qbo (hr:r≤64) (hc:c≤64) (hn:v.length≤1000000) (hv:∀ x ∈ v,x < 18446744073709551616):ACt 244 [pPn r c v] (iv (chP r c v)):=by
 have C1:=qfo (n:=v.length) hr hc hn;obtain ⟨res,hres⟩:∃ res,res=chP r c v:=⟨_,rfl⟩;rw [← hres];unfold chP at hres;unfold pPn;refine ac0 Tryz.func244 Tryz.ntmps244 [.tmp 2] ?_
 by_cases h:v.length=r*c
 rotate_left
 ·rw [if_pos h] at C1 hres;subst hres;exact wk trivial
 rw [if_neg (not_not_intro h)] at C1 hres;refine wk ?_;refine q0B (fun i=>i≤v.length∧∀ x ∈ v.take i,q0M x) [18,19] [] Lk Lk (fun i:Nat=>[(20,iv i)]) (fun _=>[]) (fun i=>v.length-i) 0 ⟨Nat.zero_le _,by simp⟩ ?_ ?_
 ·refine LeM [] rfl rfl ?_;refine Zz ?_
  rfl
 ·rintro i ⟨hi,hf⟩
  by_cases hil:i < v.length
  ·obtain ⟨x,hx⟩:∃ x,v[i]?=some x:=⟨_,List.getElem?_eq_getElem hil⟩;have hmx:=List.mem_of_getElem? hx;have cF:=q33 (hv x hmx)
   by_cases hfx:q0M x
   case neg =>
    rw [decide_eq_false hfx] at cF;rw [if_neg fun h=>hfx (h x hmx)] at hres;subst hres;exact wk1 hx trivial
   rw [decide_eq_true hfx] at cF;refine wk1 hx ?_;refine ⟨i+1,⟨by omega,?_⟩,by omega,?_⟩
   ·rw [q1E hx];intro y hy
    rcases List.mem_append.1 hy with hy | hy
    ·exact hf y hy
    ·simp at hy; subst hy; exact hfx
   ·refine LeM [] rfl rfl ?_;refine Zz ?_;omega
  ·obtain rfl:i=v.length:=by omega
   rw [List.take_length] at hf;rw [if_pos hf] at hres;subst hres;exact wk trivial
open Classical in
def qad (hr:r≤64) (hc:c≤64) (hn:v.length≤1000000) (hv:∀ x ∈ v,x < 18446744073709551616):ACt 258 [pPn r c v] (iv (chP r c v)):=by
 have C1:=qd2 (n:=v.length) hr hc hn;obtain ⟨res,hres⟩:∃ res,res=chP r c v:=⟨_,rfl⟩;rw [← hres];unfold chP at hres;unfold pPn;refine ac0 Tryz.func258 Tryz.ntmps258 [.tmp 2] ?_
 by_cases h:v.length=r*c
 rotate_left
 ·rw [if_pos h] at C1 hres;subst hres;exact wk trivial
 rw [if_neg (not_not_intro h)] at C1 hres;refine wk ?_;refine q0B (fun i=>i≤v.length∧∀ x ∈ v.take i,q0M x) [1] [1] Lk Lk (fun i:Nat=>[(4,iv i)]) (fun _=>[]) (fun i=>v.length-i) 0 ⟨Nat.zero_le _,by simp⟩ ?_ ?_
 ·refine LeM [] rfl rfl ?_;refine Zz ?_
  rfl
 ·rintro i ⟨hi,hf⟩
  by_cases hil:i < v.length
  ·obtain ⟨x,hx⟩:∃ x,v[i]?=some x:=⟨_,List.getElem?_eq_getElem hil⟩;have hmx:=List.mem_of_getElem? hx;have cF:=q1l (hv x hmx)
   by_cases hfx:q0M x
   case neg =>
    rw [decide_eq_false hfx] at cF;rw [if_neg fun h=>hfx (h x hmx)] at hres;subst hres;exact wk1 hx trivial
   rw [decide_eq_true hfx] at cF;refine wk1 hx ?_;refine ⟨i+1,⟨by omega,?_⟩,by omega,?_⟩
   ·rw [q1E hx];intro y hy
    rcases List.mem_append.1 hy with hy | hy
    ·exact hf y hy
    ·simp at hy; subst hy; exact hfx
   ·refine LeM [] rfl rfl ?_;refine Zz ?_;omega
  ·obtain rfl:i=v.length:=by omega
   rw [List.take_length] at hf;rw [if_pos hf] at hres;subst hres;exact wk trivial
def qlw:ACt 259 [] (pV q0i):=by
 have C1:=q2R (V:=q0i) (z:=1) Oq Oq q3X.1;refine ac0 Tryz.func259 Tryz.ntmps259 [.cell 0 40] ?_;exact wk trivial
def qd1 (hr:r≤64) (hc:c≤64) (hl:v.length=r*c) (hv:q0z v) (hi:i < r) (hj:j < c):ACt 260 [pPn r c v,iv i,iv j] (pV (ofZ (v.getD (j*r+i) 0))):=by
 have hm:r*c≤64*64:=Nat.mul_le_mul hr hc;have hm2:j*r+r≤r*c:=by rw [← Nat.succ_mul,Nat.mul_comm r c]; exact Nat.mul_le_mul_right _ hj
 have w1:IntKind.i64.wrap ((j:Int)*(r:Int))=((j*r:Nat):Int):=by rw [← Int.natCast_mul,i64_in (by omega) (by omega)]
 have w2:IntKind.i64.wrap (((j*r:Nat):Int)+(i:Int))=((j*r+i:Nat):Int):=by rw [i64_in (by omega) (by omega)]; omega
 obtain ⟨x,hx⟩:∃ x,v[j*r+i]?=some x:=⟨_,List.getElem?_eq_getElem Oq⟩;obtain ⟨h1,h2⟩:=hv x (List.mem_of_getElem? hx);rw [getD_some hx];have C1:=q1b h1 (q0Y h2);generalize j*r=jr at *;unfold pPn;refine ac0 Tryz.func260 Tryz.ntmps260 [.cell 6 40] ?_;exact wk1 (x3 w1 w2 hx) trivial
end
section
variable {r c i j:Nat} {v:List Nat}
def qfz (h:chP r c v=0) (hv:∀ x ∈ v,x < 18446744073709551616):v.length=r*c∧q0z v:=by
 unfold chP at h
 by_cases h1:v.length=r*c
 ·rw [if_neg (not_not_intro h1)] at h;refine ⟨h1,fun x hx=>⟨hv x hx,?_⟩⟩;refine Classical.byContradiction fun hn=>?_;rw [if_neg fun q=>hn (q x hx)] at h;cases h
 ·rw [if_pos h1] at h;cases h
def qnK (hr:r≤64) (hc:c≤64) (hl:v.length=r*c) (hi:i < r) (hj:j < c):IntKind.i64.wrap ((j:Int)*(r:Int))=((j*r:Nat):Int)∧IntKind.i64.wrap (((j*r:Nat):Int)+(i:Int))=((j*r+i:Nat):Int)∧∃ x,v[j*r+i]?=some x:=by
 have hm:r*c≤64*64:=Nat.mul_le_mul hr hc;have hm2:j*r+r≤r*c:=by rw [← Nat.succ_mul,Nat.mul_comm r c]; exact Nat.mul_le_mul_right _ hj
 exact ⟨by rw [← Int.natCast_mul,i64_in (by omega) (by omega)],by rw [i64_in (by omega) (by omega)]; omega,_,List.getElem?_eq_getElem (by omega)⟩
def qjK (hr:r≤64) (hc:c≤64) (hl:v.length=r*c) (hv:q0z v):ACt 191 [pPn r c v] (.tu [pV (grZ (pnL r c v)),iv 0]):=by
 have hm:r*c≤64*64:=Nat.mul_le_mul hr hc;have C1:=qbo hr hc (v:=v) Oq fun x hx=>(hv x hx).1;rw [show chP r c v=0 by unfold chP; rw [if_neg (not_not_intro hl),if_pos fun x hx=>(hv x hx).2]] at C1;have C2:=q1f qae dy0;have N1:=q1P (V:=0);have hix:=fun i j hi hj=>qnK (i:=i) (j:=j) hr hc hl hi hj;obtain ⟨l,hll⟩:∃ l,l=pnL r c v:=⟨_,rfl⟩;have hlen:l.length=r:=by rw [hll]; exact q1Z
 have hlg:∀ i,i < r→l[i]?=some (pnZ r c v i):=fun i hi=>by rw [hll]; exact q3V hi
 rw [← hll];have hlb:=fun i=>qkd (r:=r) (c:=c) (i:=i) hv Oq;unfold pPn at *;clear hll;refine ac0 Tryz.func191 Tryz.ntmps191 [.cell 2 40,.tmp 3] ?_;refine wk ?_;refine q0B (fun i=>i≤r) [1,2,5,20] [1,2] Lk Lk (fun i:Nat=>[(21,iv i)]) (fun i=>[(5,⟨40,some 4,[pV (grZ (l.take i))],false⟩)]) (fun i=>r-i) 0 (Nat.zero_le _) ?_ ?_
 ·refine LeM [] rfl rfl ?_;refine Zz ?_;exact ⟨rfl,rfl⟩
 ·intro i hi
  by_cases hlt:i < r
  ·have q1:(i:Int) < r:=by omega
   obtain ⟨G,hG⟩:∃ G,G=grZ (l.take i):=⟨_,rfl⟩;rw [← hG];refine wk1 q1 ?_;refine q0B (fun j=>j≤c) [1,2,5,6,20,21,25] [1,2,5] Lk Lk (fun j:Nat=>[(26,iv j),(7,.ow 1001 (some 4) 0 j)]) (fun j=>[(1001,⟨40,some 4,((List.range j).map fun j=>abZ (v.getD (j*r+i) 0)).map fun V=>pV V,false⟩)]) (fun j=>c-j) 0 (Nat.zero_le _) ?_ ?_
   ·refine LeM [(1001,none)] rfl rfl ?_;refine Zz ?_;exact ⟨rfl,rfl⟩
   ·intro j hj
    by_cases hlt2:j < c
    ·have q2:(j:Int) < c:=by omega
     obtain ⟨w1,w2,x,hx⟩:=hix i j hlt hlt2;obtain ⟨x1,x2⟩:=hv x (List.mem_of_getElem? hx);have C3:=qaK x1 x2;have C4:=q1f (q5t x1 x2) (qcK x2);have N4:=q1P (V:=abZ x);have es:=qru (g:=fun j=>abZ (v.getD (j*r+i) 0)) (n:=j);rw [getD_some hx] at es;have ll:=q1Z (g:=fun j=>abZ (v.getD (j*r+i) 0)) (n:=j);generalize j*r=jr at *;refine wk1 (x4 q2 w1 w2 hx) ?_;refine ⟨j+1,by omega,by omega,?_⟩;rw [es];refine LeM [(1001,some 43)] rfl rfl ?_;refine Zz ?_;exact ⟨by omega,q0G (by rw [List.map_append]; rfl) clV⟩
    ·obtain rfl:j=c:=by omega
     have q2:¬ (j:Int) < j:=by omega
     have hd:q0V (pnZ r j v i):=by have:=hlb i; unfold q0V; omega
     have C3:=q1f (q4V (l:=(List.range j).map fun j=>abZ (v.getD (j*r+i) 0)) (by rw [q1Z]; omega) (fun z hz=>by
      obtain ⟨k,_,rfl⟩:=List.mem_map.1 hz;exact qcK (q17 hv).2) (by rw [q56]; exact hd)) (by rw [q56]; exact hd)
     rw [show q1B ((List.range j).map fun j=>abZ (v.getD (j*r+i) 0))=pnZ r j v i from q56 j] at C3;have N3:=q1P (V:=pnZ r j v i);have ll:=q1Z (g:=fun j=>abZ (v.getD (j*r+i) 0)) (n:=j);generalize (List.range j).map (fun j=>abZ (v.getD (j*r+i) 0))=L at *;have es:=qiQ (hlg i hlt);rw [← hG] at es;have C5:=qgn qbv fun ho=>q98 (A:=pnZ r j v i) (B:=G) ho.1 ho.2;generalize pnZ r j v i=x at *
     by_cases h:G < x
     ·rw [qk2 h] at C5;rw [show max G x=x by omega] at es;refine wk1 q2 ?_;refine ⟨i+1,by omega,by omega,?_⟩;rw [es];refine LeM [] rfl rfl ?_;refine Zz ?_
      first | done | trivial | omega | exact ⟨by omega,rfl⟩
     ·have q:=qk1 h;rw [show max G x=G by omega] at es;generalize (x-G).sign=s at *;refine wk1 q2 ?_;refine ⟨i+1,by omega,by omega,?_⟩;rw [es];refine LeM [] rfl rfl ?_;refine Zz ?_
      first | done | trivial | omega | exact ⟨by omega,rfl⟩
  ·obtain rfl:i=r:=by omega
   have q1:¬ (i:Int) < i:=by omega
   rw [← hlen,List.take_length];exact wk1 (x2 q1 hlen) trivial
def qgr (hr:r≤64) (hc:c≤64) (hl:v.length=r*c) (hv:q0z v):ACt 203 [pPn r c v] (.tu [pV (grZ (pnL r c v)),iv 0]):=by
 have hm:r*c≤64*64:=Nat.mul_le_mul hr hc;have C1:=qad hr hc (v:=v) Oq fun x hx=>(hv x hx).1;rw [show chP r c v=0 by unfold chP; rw [if_neg (not_not_intro hl),if_pos fun x hx=>(hv x hx).2]] at C1;have N1:=q1P (V:=0);have hix:=fun i j hi hj=>qnK (i:=i) (j:=j) hr hc hl hi hj;obtain ⟨l,hll⟩:∃ l,l=pnL r c v:=⟨_,rfl⟩;have hlen:l.length=r:=by rw [hll]; exact q1Z
 have hlg:∀ i,i < r→l[i]?=some (pnZ r c v i):=fun i hi=>by rw [hll]; exact q3V hi
 rw [← hll];unfold pPn at *;clear hll;refine ac0 Tryz.func203 Tryz.ntmps203 [.cell 2 40,.tmp 3] ?_;refine wk ?_;refine q0B (fun i=>i≤r) [1,2,5] [1,2] Lk Lk (fun i:Nat=>[(6,iv i)]) (fun i=>[(5,⟨40,some 4,[pV (grZ (l.take i))],false⟩)]) (fun i=>r-i) 0 (Nat.zero_le _) ?_ ?_
 ·refine LeM [] rfl rfl ?_;refine Zz ?_;exact ⟨rfl,q2X rfl⟩
 ·intro i hi
  by_cases hlt:i < r
  ·have q1:(i:Int) < r:=by omega
   obtain ⟨G,hG⟩:∃ G,G=grZ (l.take i):=⟨_,rfl⟩;rw [← hG];refine wk1 q1 ?_;refine q0B (fun j=>j≤c) [1,2,5,6,7] [1,2,5] Lk Lk (fun j:Nat=>[(8,iv j)]) (fun j=>[(7,⟨40,some 4,[pV (sg (fun j=>abZ (v.getD (j*r+i) 0)) j)],false⟩)]) (fun j=>c-j) 0 (Nat.zero_le _) ?_ ?_
   ·refine LeM [] rfl rfl ?_;refine Zz ?_
    first | exact q2X rfl | exact ⟨rfl,q2X rfl⟩ | exact ⟨q2X rfl,q0G rfl clV⟩
   ·intro j hj
    by_cases hlt2:j < c
    ·have q2:(j:Int) < c:=by omega
     obtain ⟨w1,w2,x,hx⟩:=hix i j hlt hlt2;obtain ⟨x1,x2⟩:=hv x (List.mem_of_getElem? hx);have C3:=q1b x1 (q0Y x2);have C4:ACt 39 [pV (ofZ x)] (pV (abZ x)):=q2q;have es:sg (fun j=>abZ (v.getD (j*r+i) 0)) (j+1)=sg (fun j=>abZ (v.getD (j*r+i) 0)) j+abZ x:=by rw [sg,getD_some hx]
     have hb:=q3i (g:=fun j=>abZ (v.getD (j*r+i) 0)) (K:=66560) (j+1) Oq fun k _=>q6K (q17 hv).2;rw [es] at hb;generalize sg (fun j=>abZ (v.getD (j*r+i) 0)) j=S at *;have C5:=q5x (A:=S) (B:=abZ x) (by unfold q0V; omega);generalize j*r=jr at *;refine wk1 (x4 q2 w1 w2 hx) ?_;refine ⟨j+1,by omega,by omega,?_⟩;rw [es];refine LeM [] rfl rfl ?_;refine Zz ?_
     first | done | trivial | omega | exact ⟨by omega,rfl⟩
    ·obtain rfl:j=c:=by omega
     have q2:¬ (j:Int) < j:=by omega
     have es:=qiQ (hlg i hlt);rw [← hG] at es;rw [show sg (fun j=>abZ (v.getD (j*r+i) 0)) j=pnZ r j v i from rfl];have C5:=q4y (A:=G) (B:=pnZ r j v i);generalize pnZ r j v i=x at *
     by_cases h:G < x
     ·rw [decide_eq_true h] at C5;rw [show max G x=x by omega] at es;refine wk1 q2 ?_;refine ⟨i+1,by omega,by omega,?_⟩;rw [es];refine LeM [] rfl rfl ?_;refine Zz ?_
      first | done | trivial | omega | exact ⟨by omega,rfl⟩
     ·rw [decide_eq_false h] at C5;rw [show max G x=G by omega] at es;refine wk1 q2 ?_;refine ⟨i+1,by omega,by omega,?_⟩;rw [es];refine LeM [] rfl rfl ?_;refine Zz ?_
      first | done | trivial | omega | exact ⟨by omega,rfl⟩
  ·obtain rfl:i=r:=by omega
   have q1:¬ (i:Int) < i:=by omega
   rw [← hlen,List.take_length];exact wk1 (x2 q1 hlen) trivial
end

open Classical in
def qc7 {l:List Nat} (hu:∀ x ∈ l,x < 18446744073709551616) (hn:l.length≤1000000):ACt 268 [pF l] (iv (if ¬ ∀ x ∈ l,q0M x then 4 else 0)):=by
 obtain ⟨res,hres⟩:∃ res:Int,res=if ¬ ∀ x ∈ l,q0M x then 4 else 0:=⟨_,rfl⟩
 rw [← hres];refine ac0 Tryz.func268 Tryz.ntmps268 [.tmp 2] ?_;refine wk ?_;refine q0B (fun i=>i≤l.length∧∀ x ∈ l.take i,q0M x) [0,5,6] [] Lk Lk (fun i:Nat=>[(7,iv i)]) (fun _=>[]) (fun i=>l.length-i) 0 ⟨Nat.zero_le _,by simp⟩ ?_ ?_
 ·refine LeM [] rfl rfl ?_;refine Zz ?_
  rfl
 ·rintro i ⟨hi,hf⟩
  by_cases hil:i < l.length
  ·obtain ⟨x,hx⟩:∃ x,l[i]?=some x:=⟨_,List.getElem?_eq_getElem hil⟩;have hmx:=List.mem_of_getElem? hx;have cF:=q33 (hu x hmx)
   by_cases hfx:q0M x
   case neg =>
    rw [decide_eq_false hfx] at cF;refine wk1 hx ?_;exact (hres.trans (if_pos fun h=>hfx (h x hmx))).symm
   rw [decide_eq_true hfx] at cF;refine wk1 hx ?_;refine ⟨i+1,⟨by omega,?_⟩,by omega,?_⟩
   ·rw [q1E hx];intro y hy
    rcases List.mem_append.1 hy with hy | hy
    ·exact hf y hy
    ·simp at hy; subst hy; exact hfx
   ·refine LeM [] rfl rfl ?_;refine Zz ?_
    rfl
  ·obtain rfl:i=l.length:=by omega
   rw [List.take_length] at hf;refine wk ?_;exact (hres.trans (if_neg (not_not_intro hf))).symm
def qmj {e:Int} {n:Nat} {l:List Nat} (h:qaw e n l=0):e=0∧l.length=n∧∀ x ∈ l,q0M x:=by
 unfold qaw at h
 split at h
 ·exact absurd h (by assumption)
 ·split at h
  ·cases h
  ·split at h
   ·cases h
   ·rename_i h1 h2 h3;exact ⟨Decidable.not_not.1 h1,Decidable.not_not.1 h2,Classical.not_not.1 h3⟩

def q63 {raw:List Nat} {k st:Int} {n:Nat} (hr:raw.length≤9223372036854775807) (hn:n≤1000000) (h1 : -1000000≤k) (h2:k≤1000000) (h3 : -9223372036854775808≤st) (h4:st≤9223372036854775807) :
  qdZ 29 [pF raw,iv k,iv n,iv st] h0 (.ow 5000 none 0 n) (q0Q h0 5000 ⟨43,none,(q5X raw k (q02 st 4) n).map fun z:Nat=>uv z,false⟩):=by
 have hJ:∀ i,¬ (h0 i≠none):=fun i h=>h rfl;refine qg2 qub Tryz.func29 rfl Tryz.ntmps29 (by kernel_rfl) ?_ ?_ ?_ ?_
 ·intro i b hb; cases hb
 ·intro i b hb
  by_cases hi:i=5000
  ·subst hi; exact ⟨by omega,by omega⟩
  ·rw [q0A hi] at hb; cases hb
 ·exact IdL.of fun x hx=>by
   simp at hx
   rcases hx with rfl | rfl | rfl | rfl <;> unfold IdP <;> trivial
 have hW:WfH h0:=⟨fun i b hb=>by cases hb⟩;refine wk ?_;refine q0N (fun i=>i≤n) [0,1,2,3] [] Lk Lk (fun i:Nat=>[(10,iv i),(9,.ow 11 none 0 i)]) (fun i=>[(11,⟨43,none,(q5X raw k (q02 st 4) i).map fun z:Nat=>uv z,false⟩)]) (fun _=>h0) (fun i=>n-i) 0 (Nat.zero_le _) ?_ ?_
 ·refine LeW [] rfl rfl ?_ ?_ (by simp [q09,q05,win]) ?_
  ·exact Ow
  ·exact hW
  ·try refine Zz ?_
   exact ⟨rfl,rfl⟩
 ·intro i hi
  by_cases hlt:i < n
  ·have C1:=@q4W;have C2:=@qbT;have C3:=@q2H;refine wk1 @q1y ?_;refine ⟨i+1,by omega,by omega,?_⟩;refine LeW [(11,some 26)] rfl rfl ?_ ?_ (by simp [q09,q05,win]) ?_
   ·exact Ow
   ·exact hW
   ·try refine Zz ?_
    exact ⟨by omega,by rw [qju]⟩
  ·obtain rfl:i=n:=by omega
   refine wk ?_;refine (rtM (rs:=[.tmp 8]) rfl rfl Lq ?_ (.inl rfl));refine LeO hJ ?_ clU
   try simp -implicitDefEqProofs (disch:=omega) only [go_sem,Nat.reduceEqDiff,Nat.reduceAdd,↓reduceIte]


def qb9 {l:List Nat} (h:q0z l) (i:Nat):l.getD i 0 < 18446744073709551616∧q0M (l.getD i 0):=by
 rw [List.getD_eq_getElem?_getD];cases hx:l[i]? with
 | none=>exact ⟨by simp,by unfold q0M; simp⟩
 | some x=>exact h x (List.mem_of_getElem? hx)

section
variable {F:Nat→Nat→Option Nat} {l:List Int} {cs:List Nat} {cols:List (List Nat)} {j n M:Nat} {p:LSt}
end
def q3e {raw:List Nat} {k:Int} {st n:Nat}:q0z (q5X raw k st n):=fun x hx=>by
 unfold q5X at hx;obtain ⟨i,_,rfl⟩:=List.mem_map.1 hx;have:=qed (k:=st) (q2H raw (k+i));exact ⟨this.2,this.1⟩


def gaS (l:List Nat) (o:List Int) (n:Nat):List Nat:=rwG n (fun k=>l.getD (o.getD k 0).toNat 0) n
def scS (x:List Nat) (o:List Int) (n:Nat):Nat→List Nat
 | 0=>List.replicate n 0
 | k+1=>(scS x o n k).set (o.getD k 0).toNat (x.getD k 0)
def q42 {x:List Nat} {o:List Int} {n:Nat}:∀ k,(scS x o n k).length=n
 | 0=>List.length_replicate
 | k+1=>by rw [scS,List.length_set,q42 k]
def qaF {l:List Nat} {o:List Int} {n:Nat}:(gaS l o n).length=n:=q43
def qaG {l:List Nat} {o:List Int} {n:Nat} (hl:q0z l):q0z (gaS l o n):=fun x hx=>by
 unfold gaS rwG at hx;obtain ⟨j,_,rfl⟩:=List.mem_map.1 hx
 split
 ·exact qb9 hl _
 ·exact ⟨by omega,by unfold q0M; simp⟩
section
variable {l:List Nat} {o:List Int} {n:Nat}
def qc6 (hl:l.length=n) (ho:o.length=n) (hn:n≤1000000) (hb:∀ x ∈ o,0≤x∧x < n):ACt 179 [pF l,pI o] (pF (gaS l o n)):=by
 unfold gaS;have hgl:∀ m,(rwG n (fun k=>l.getD (o.getD k 0).toNat 0) m).length=n:=fun _=>q43;generalize hg:(fun k=>l.getD (o.getD k 0).toNat 0)=g at *;refine ac0 Tryz.func179 Tryz.ntmps179 [.tmp 4] ?_;refine wk1 hl ?_;refine q0B (fun k=>k≤n) [0,11,12] [] Lk Lk (fun k:Nat=>[(13,iv k),(5,.ow 1001 none 0 n)]) (fun k=>[(1001,⟨43,none,(rwG n g k).map fun z:Nat=>uv z,false⟩)]) (fun k=>n-k) 0 (Nat.zero_le _) ?_ ?_
 ·rw [← qeL];refine LeM [(1001,some 10)] rfl rfl ?_;refine Zz ?_;simp
 ·intro k hk
  by_cases hlt:k < n
  ·obtain ⟨x,hx⟩:∃ x,o[k]?=some x:=⟨_,List.getElem?_eq_getElem Oq⟩;obtain ⟨h1,h2⟩:=hb x (List.mem_of_getElem? hx);obtain ⟨x,rfl⟩:∃ y:Nat,x=y:=⟨x.toNat,by omega⟩;obtain ⟨u,hu⟩:∃ u,l[x]?=some u:=⟨_,List.getElem?_eq_getElem Oq⟩;have hs:=qhZ (n:=n) (g:=g) (m:=k);have hgk:g k=u:=by rw [← hg]; simp only [getD_some hx,Int.toNat_natCast,getD_some hu]
   rw [hgk] at hs;refine wk1 (x3 hx hu (hgl k)) ?_;refine ⟨k+1,by omega,by omega,?_⟩;refine LeM [] rfl rfl ?_;refine Zz ?_;rw [← hs];exact ⟨by omega,rfl⟩
  ·obtain rfl:k=n:=by omega
   have hgk:=hgl k;exact wk1 ho trivial
def qqM (hl:l.length=n) (ho:o.length=n) (hn:n≤1000000) (hb:∀ x ∈ o,0≤x∧x < n):ACt 224 [pF l,pI o] (pF (gaS l o n)):=by
 unfold gaS;have hgl:∀ m,(rwG n (fun k=>l.getD (o.getD k 0).toNat 0) m).length=n:=fun _=>q43;generalize hg:(fun k=>l.getD (o.getD k 0).toNat 0)=g at *;refine ac0 Tryz.func224 Tryz.ntmps224 [.tmp 4] ?_;refine wk1 ho ?_;refine q0B (fun k=>k≤n) [0,1] [] Lk Lk (fun k:Nat=>[(6,iv k),(5,.ow 1001 none 0 n)]) (fun k=>[(1001,⟨43,none,(rwG n g k).map fun z:Nat=>uv z,false⟩)]) (fun k=>n-k) 0 (Nat.zero_le _) ?_ ?_
 ·rw [← qeL];refine LeM [(1001,some 9)] rfl rfl ?_;refine Zz ?_;simp
 ·intro k hk
  by_cases hlt:k < n
  ·obtain ⟨x,hx⟩:∃ x,o[k]?=some x:=⟨_,List.getElem?_eq_getElem Oq⟩;obtain ⟨h1,h2⟩:=hb x (List.mem_of_getElem? hx);obtain ⟨x,rfl⟩:∃ y:Nat,x=y:=⟨x.toNat,by omega⟩;obtain ⟨u,hu⟩:∃ u,l[x]?=some u:=⟨_,List.getElem?_eq_getElem Oq⟩;have hs:=qhZ (n:=n) (g:=g) (m:=k);have hgk:g k=u:=by rw [← hg]; simp only [getD_some hx,Int.toNat_natCast,getD_some hu]
   rw [hgk] at hs;refine wk1 (x4 ho hx hu (hgl k)) ?_;refine ⟨k+1,by omega,by omega,?_⟩;refine LeM [] rfl rfl ?_;refine Zz ?_;rw [← hs];exact ⟨by omega,rfl⟩
  ·obtain rfl:k=n:=by omega
   have hgk:=hgl k;exact wk1 ho trivial
def q9m (hl:l.length=n) (ho:o.length=n) (hn:n≤1000000) (hb:∀ x ∈ o,0≤x∧x < n):qdZ 182 [pF l,pI o] h0 (.ow 5000 none 0 n) (q0Q h0 5000 ⟨43,none,(scS l o n n).map fun z:Nat=>uv z,false⟩):=by
 have hJ:∀ i,¬ (h0 i≠none):=fun i h=>h rfl;refine qg2 qlY Tryz.func182 rfl Tryz.ntmps182 (by kernel_rfl) ?_ ?_ ?_ ?_
 ·intro i b hb; cases hb
 ·exact qcg
 ·exact IdL.of fun x hx=>by
   simp at hx
   rcases hx with rfl | rfl <;> unfold IdP <;> trivial
 have hW:WfH h0:=⟨fun i b hb=>by cases hb⟩;refine wk1 hl ?_;refine q0N (fun k=>k≤n) [0,11,12] [] Lk Lk (fun k:Nat=>[(13,iv k),(5,.ow 1001 none 0 n)]) (fun k=>[(1001,⟨43,none,(scS l o n k).map fun z:Nat=>uv z,false⟩)]) (fun _=>h0) (fun k=>n-k) 0 (Nat.zero_le _) ?_ ?_
 ·refine LeW [(1001,some 10)] rfl rfl ?_ ?_ (by simp [q09,q05,win]) ?_
  ·exact Ow
  ·exact hW
  ·rw [scS]
   try refine Zz ?_
   simp
 ·intro k hk
  by_cases hlt:k < n
  ·obtain ⟨x,hx⟩:∃ x,o[k]?=some x:=⟨_,List.getElem?_eq_getElem Oq⟩;obtain ⟨h1,h2⟩:=hb x (List.mem_of_getElem? hx);obtain ⟨x,rfl⟩:∃ y:Nat,x=y:=⟨x.toNat,by omega⟩;obtain ⟨u,hu⟩:∃ u,l[k]?=some u:=⟨_,List.getElem?_eq_getElem Oq⟩;have hs:scS l o n (k+1)=(scS l o n k).set x u:=by rw [scS,getD_some hx,Int.toNat_natCast,getD_some hu]
   have hsl:=q42 (x:=l) (o:=o) (n:=n) k;refine wk1 (x3 hx hu hsl) ?_;refine ⟨k+1,by omega,by omega,?_⟩;refine LeW [] rfl rfl ?_ ?_ (by simp [q09,q05,win]) ?_
   ·exact Ow
   ·exact hW
   ·try refine Zz ?_
    exact ⟨by omega,hs.symm⟩
  ·obtain rfl:k=n:=by omega
   refine wk1 ho ?_;refine (rtM (rs:=[.tmp 4]) rfl rfl Lq ?_ (.inl rfl));refine LeO hJ ?_ clU
   try simp -implicitDefEqProofs (disch:=omega) only [go_sem,Nat.reduceEqDiff,Nat.reduceAdd,↓reduceIte]
def q91 (hl:l.length=n) (ho:o.length=n) (hn:n≤1000000) (hb:∀ x ∈ o,0≤x∧x < n):qdZ 226 [pF l,pI o] h0 (.ow 5000 none 0 n) (q0Q h0 5000 ⟨43,none,(scS l o n n).map fun z:Nat=>uv z,false⟩):=by
 have hJ:∀ i,¬ (h0 i≠none):=fun i h=>h rfl;refine qg2 qlS Tryz.func226 rfl Tryz.ntmps226 (by kernel_rfl) ?_ ?_ ?_ ?_
 ·intro i b hb; cases hb
 ·exact qcg
 ·exact IdL.of fun x hx=>by
   simp at hx
   rcases hx with rfl | rfl <;> unfold IdP <;> trivial
 have hW:WfH h0:=⟨fun i b hb=>by cases hb⟩;refine wk1 ho ?_;refine q0N (fun k=>k≤n) [0,1] [] Lk Lk (fun k:Nat=>[(6,iv k),(5,.ow 1001 none 0 n)]) (fun k=>[(1001,⟨43,none,(scS l o n k).map fun z:Nat=>uv z,false⟩)]) (fun _=>h0) (fun k=>n-k) 0 (Nat.zero_le _) ?_ ?_
 ·refine LeW [(1001,some 9)] rfl rfl ?_ ?_ (by simp [q09,q05,win]) ?_
  ·exact Ow
  ·exact hW
  ·rw [scS]
   try refine Zz ?_
   simp
 ·intro k hk
  by_cases hlt:k < n
  ·obtain ⟨x,hx⟩:∃ x,o[k]?=some x:=⟨_,List.getElem?_eq_getElem Oq⟩;obtain ⟨h1,h2⟩:=hb x (List.mem_of_getElem? hx);obtain ⟨x,rfl⟩:∃ y:Nat,x=y:=⟨x.toNat,by omega⟩;obtain ⟨u,hu⟩:∃ u,l[k]?=some u:=⟨_,List.getElem?_eq_getElem Oq⟩;have hs:scS l o n (k+1)=(scS l o n k).set x u:=by rw [scS,getD_some hx,Int.toNat_natCast,getD_some hu]
   have hsl:=q42 (x:=l) (o:=o) (n:=n) k;refine wk1 (x4 ho hx hu hsl) ?_;refine ⟨k+1,by omega,by omega,?_⟩;refine LeW [] rfl rfl ?_ ?_ (by simp [q09,q05,win]) ?_
   ·exact Ow
   ·exact hW
   ·try refine Zz ?_
    exact ⟨by omega,hs.symm⟩
  ·obtain rfl:k=n:=by omega
   refine wk1 ho ?_;refine (rtM (rs:=[.tmp 4]) rfl rfl Lq ?_ (.inl rfl));refine LeO hJ ?_ clU
   try simp -implicitDefEqProofs (disch:=omega) only [go_sem,Nat.reduceEqDiff,Nat.reduceAdd,↓reduceIte]
end
section
variable {n k z:Nat} {rows:Nat→List Int} {l:List PV}
def q8Z {j:Nat} (h:qct (q2d n rows) (q7G 45 40 (some 4) 5000 10000 n (q7P rows) k z l) j):j=k+10000:=by
 obtain ⟨_,h2,h3⟩:=h;unfold q7G at h3
 split at h3
 ·assumption
 ·split at h3
  ·cases h3
  ·split at h3
   ·cases h3
   ·exact (h2 h3).elim
def qal (hn:n≤1000) (hk:k < n) (hl:(rows k).length≤1000) (hb:∀ z ∈ rows k,bl z.natAbs≤67600):ACt 219 [.sl none ((List.range n).map fun j=>.sl (some 4) ((rows j).map fun V=>pV V)),iv k] (dT (q1B (rows k))):=by
 have hd:=q52 hb Oq;have C1:=q4V (l:=rows k) hl (fun z hz=>by have:=hb z hz; unfold q0V; omega) hd;have rk:(List.range n)[k]?=some k:=List.getElem?_range hk;refine ac0 Tryz.func219 Tryz.ntmps219 [.cell 4 40] ?_;exact wk1 rk trivial
def q5u {z:Int}:q8L (q7P rows) k ((rows k ++ [z]).map fun V=>pV V)=q7P (q2i rows k z):=by
 funext j
 unfold q8L q7P q2i
 by_cases h:j=k
 ·subst h; rw [if_pos rfl,if_pos rfl]
 ·rw [if_neg h,if_neg h]
end
def qmP {st ix:List Int} {vs b:List Nat} {n:Nat} {E:Nat→List (Nat × Nat)} (hC:ColS n st ix vs E) (hbn:b.length=n) (hb:q0z b) (hn:n≤30) :
  ACt 217 [pI st,pI ix,pF vs,pF b] (fwP (geL (fun i c=>ctV (E c) i) n 0 b)):=by
 obtain ⟨D,hD⟩:∃ D:Nat→Nat→Nat,D=fun i c=>ctV (E c) i:=⟨_,rfl⟩;have hDv:=fun r k=>congrFun (congrFun hD r) k;rw [← hD];clear hD;obtain ⟨R,hR⟩:∃ R,R=geL D n 0 b:=⟨_,rfl⟩;rw [← hR];have cB:=qgU hb Oq;rw [hbn] at cB;have hnn:n*n≤30*30:=Nat.mul_le_mul hn hn;refine ac0 Tryz.func217 Tryz.ntmps217 [.tmp 8,.tmp 9] ?_;refine wk ?_;refine A_jW [(0,pI st),(1,pI ix),(2,pF vs),(3,pF b),(10,.ow 5000 none 0 n),(11,.ow 18 none 0 n)] [(18,⟨43,none,(yLo n b 0).map fun z:Nat=>uv z,false⟩)] (q2d n (bgR b n)) ?_ fun K0 fin=>?_
 rotate_left
 ·refine q6v q3o (.one 0 (.one 2 (.one 3 (.alt (.one 1 (.one 5 (.one 4 (.one 6 .fin)))) (.one 4 (.one 1 (.one 5 (.one 6 .fin)))))))) (by kernel_rfl) fun K9 hK9=>?_;refine Zz1 hbn ?_;refine ⟨?_,?_⟩
  ·refine jmF cB ?_ ?_
   ·exact Ow
   ·try refine Zz ?_
    refine hK9 _ _ (fin _ _ ?_);refine LeW [] rfl rfl ?_ ?_ (by simp [q09,q05,win]) ?_
    ·exact Ow
    ·exact wfB (q0T Oq)
    ·try refine Zz ?_
     exact qqc.symm
  ·refine jmF cB ?_ ?_
   ·exact Ow
   ·try refine Zz ?_
    refine hK9 _ _ (fin _ _ ?_);refine LeW [] rfl rfl ?_ ?_ (by simp [q09,q05,win]) ?_
    ·exact Ow
    ·exact wfB (q0T Oq)
    ·try refine Zz ?_
     exact qqc.symm
 refine wk1 hbn ?_;refine q0N (fun q:Nat × List Nat × (Nat→List Int)=>q.1≤n∧q.2.1.length=n∧q0z q.2.1∧RLo D n q.1 q.2.1 q.2.2∧RB q.2.2 (q.1*n+1)∧geL D (n-q.1) q.1 q.2.1=R) [0,1,2,10,20] [] Lk Lk (fun q=>[(21,iv q.1),(11,.ow 1001 none 0 n)]) (fun q=>[(1001,⟨43,none,(yLo n q.2.1 q.1).map fun z:Nat=>uv z,false⟩)]) (fun q=>q2d n q.2.2) (fun q=>n-q.1) (0,b,bgR b n) ⟨Nat.zero_le _,hbn,hb,RLo.bg hbn,by rw [Nat.zero_mul]; exact RB.bg hb,hR.symm⟩ ?_ ?_
 ·refine LeW [(1001,some 18)] rfl rfl ?_ ?_ (by simp [q09,q05,win]) ?_
  ·exact Ow
  ·exact wfB (q0T Oq)
  ·try refine Zz ?_
   rfl
 ·rintro ⟨k,ys,rows⟩ ⟨hk,hy,hfy,hlo,hrb,hv⟩;simp only at hk hy hfy hlo hrb hv ⊢;have hkn:k*n≤30*30:=Nat.mul_le_mul Oq hn
  by_cases hlt:k < n
  ·have hlt':(k:Int) < n:=by omega
   obtain ⟨a,a1,a2,a3,a4⟩:=hC.col k hlt;have hnd:=hC.nd k hlt;have hsz:=hC.sz k hlt;have hcl:=hC.len;obtain ⟨L,hL⟩:∃ L,L=E k:=⟨_,rfl⟩;rw [← hL] at a2 a3 a4 hnd hsz;have cT:=qal (rows:=rows) (k:=k) Oq hlt (by have:=hrb.l k; omega) (hrb.b k);have hd:=q52 (hrb.b k) (by have:=hrb.l k; omega);have cR:=qfa hd;have nd:=qhm hd;rw [hlo.v hlt] at cT cR nd;rw [show n-k=(n-(k+1))+1 by omega,geL] at hv;have hqlt:fR 0 (loZ D ys k) < 18446744073709551616:=q9C;have hls:=fun v=>hlo.s (E:=E) (v:=v) Oq (by rwa [← hL]) (fun r=>hDv r k);rw [← hL] at hls;generalize loZ D ys k=S at *;generalize fR 0 S=v at *;have cF:=q33 hqlt;have hyl:=qmA (n:=n) (ys:=ys) (k:=k);have hys:=yLo_s (v:=v) hy hlt;have hset:((yLo n ys k).map fun z:Nat=>uv z).set k (uv (v:Nat))=(yLo n (ys.set k v) (k+1)).map fun z:Nat=>uv z:=by rw [← hys,List.map_set]
   have hset2:(((yLo n ys k).map fun z:Nat=>uv z).set k (uv (v:Nat)))[k]?=some (uv (v:Nat)):=List.getElem?_set_self (by rw [List.length_map,hyl]; exact hlt)
   by_cases hfx:q0M v
   ·rw [decide_eq_true hfx] at cF;rw [if_pos hfx] at hv;refine wk1 (x4 hlt' hyl hset2 a1) ?_;rw [hset] at hset2 ⊢;have hLf:∀ e ∈ L,q0M e.2∧e.2 < 18446744073709551616:=fun e he=>by
     obtain ⟨t,ht⟩:=List.mem_iff_getElem?.1 he;obtain ⟨_,_,_,q4,q5⟩:=a4 t e ht;exact ⟨q4,q5⟩
    have hBL:=fun t=>hrb.ps (L:=L.take t) hfx fun e he=>(hLf e (List.mem_of_mem_take he)).1;refine q0N (fun t:Nat=>t≤L.length) [0,1,2,10,11,12,20,21] [1001] Lk Lk (fun t=>[(13,iv ((a+t:Nat):Int))]) (fun _=>[]) (fun t=>q2d n (psE v (L.take t) rows)) (fun t=>L.length-t) 0 (Nat.zero_le _) ?_ ?_
    ·refine LeW [] rfl rfl ?_ ?_ (by simp [q09,q05,win]) ?_
     ·exact Ow
     ·exact wfB (q0T Oq)
     ·try simp -implicitDefEqProofs (disch:=omega) only [go_sem,Nat.reduceEqDiff,Nat.reduceAdd,↓reduceIte]
    ·intro t ht;have wkk:IntKind.i64.wrap ((k:Int)+1)=((k+1:Nat):Int):=by rw [i64_in (by omega) (by omega)]; omega
     by_cases hlt2:t < L.length
     ·obtain ⟨⟨i,w⟩,e1⟩:∃ e,L[t]?=some e:=⟨_,List.getElem?_eq_getElem hlt2⟩;obtain ⟨b1,b2,b3,b4,b5⟩:=a4 t (i,w) e1;dsimp only at b1 b2 b3 b4 b5;have hq:((a+t:Nat):Int) < ((a+L.length:Nat):Int):=by omega
      have wt:IntKind.i64.wrap (((a+t:Nat):Int)+1)=((a+(t+1):Nat):Int):=by rw [i64_in (by omega) (by omega)]; omega
      have hps:psE v (L.take (t+1)) rows=q2i (psE v (L.take t) rows) i (-(q0l w v)):=qhg e1;have hli:(psE v (L.take t) rows i).length≤2000:=by have:=(hBL t).l i; rw [List.length_take] at this; omega
      have cX:=q66 (rows:=psE v (L.take t) rows) (k:=i) (n:=n) (a:=w) (c:=v) Oq b3 hli ⟨b4,b5⟩ ⟨hfx,hqlt⟩;generalize psE v (L.take t) rows=rs at *;have hgn:=fun j=>q8Z (j:=j) (n:=n) (rows:=rs) (k:=i) (z:=900000) (l:=(rs i ++ [-(q0l w v)]).map fun V=>pV V);refine wk1 (x3 hq a2 wkk) ?_;refine q6v q3o (.one 0 (.one 1 (.one 2 (.one 3 (.one 5 (.one 6 (.one 7 (.one 9 (.one 10 (.one 11 (.alt (.one 4 (.alt (.one 8 (.one 12 (.one 13 .fin))) (.one 12 (.one 8 (.one 13 .fin))))) (.alt (.one 8 (.alt (.one 4 (.one 12 (.one 13 .fin))) (.one 12 (.one 4 (.one 13 .fin))))) (.one 12 (.alt (.one 4 (.one 8 (.one 13 .fin))) (.one 8 (.one 4 (.one 13 .fin))))))))))))))))) (by kernel_rfl) fun K9 hK9=>?_;refine Zz3 b1 b2 hset2 ?_;have fin:∀ (s:Nat→PV) (h:Hp),Le (fun _=>False) s h (stM [(0,pI st),(1,pI ix),(2,pF vs),(10,.ow 5000 none 0 n),(11,.ow 1001 none 0 n),(12,iv k),(13,iv ((a+t:Nat):Int)),(20,iv n),(21,iv k)] []) (q0t (q2d n (q2i rs i (-(q0l w v)))) (hpM [(1001,⟨43,none,(yLo n (ys.set k v) (k+1)).map fun z:Nat=>uv z,false⟩)] []))→K9 s h:=fun s h hl=>by
       refine hK9 _ _ (q0q hl ?_);clear hK9 hl K9;refine wk1 wt ?_;refine ⟨t+1,by omega,by omega,?_⟩;rw [hps];refine LeW [] rfl rfl ?_ ?_ (by simp [q09,q05,win]) ?_
       ·exact Ow
       ·exact wfB (q0T Oq)
       ·try simp -implicitDefEqProofs (disch:=omega) only [go_sem,Nat.reduceEqDiff,Nat.reduceAdd,↓reduceIte]
      clear hK9
      repeat' (with_reducible apply And.intro)
      all_goals
       refine jx cX q36 (fun _ h=>h.elim) (qjn (a:=i+10000) hgn ?_ ?_) ?_
       ·repeat (refine qcN ?_ (by first | (unfold IdP; first | trivial | omega) | simp [IdP,IdL]))
        first | exact (fun t=>by unfold stV IdP; trivial) | exact qg5 (by simp [IdL,IdP]; omega) (by simp [IdL,IdP]) | exact qg5 (by simp [IdL,IdP]) (by simp [IdL,IdP])
       ·repeat (refine qcS ?_ rfl (by first | exact qfx clU | simp [IdL,IdP]))
        exact qjm (qgc (fun p hp b hb=>by simp at hp; subst hp; cases hb; exact ⟨rfl,qfx clU⟩) (by simp))
       ·try refine Zz ?_
        refine fin _ _ ?_;unfold q2d;rw [← q5u];refine q2w (r:=900000) (k:=i) (row:=q7P rs) (fun _ h=>h) b3 clV ?_ ?_ (fun i h1 h2 h3 h4=>?_) (fun _ _=>clV) BOk.h0 (.inr ⟨by omega,by omega⟩) (by omega) (by omega) (by omega) (by simp [nmW]) ?_
        ·rw [q0U ⟨by omega,by omega⟩];unfold q7G;rw [if_neg (by omega),if_neg (by omega),if_pos rfl]
        ·rw [q0U ⟨by omega,by omega⟩];unfold q7G;rw [if_neg (by omega),if_pos rfl]
        ·rw [q0U h1];unfold q7G;rw [if_neg h3,if_neg h4,if_neg h2]
        ·try simp -implicitDefEqProofs (disch:=omega) only [go_sem,Nat.reduceEqDiff,Nat.reduceAdd,↓reduceIte]
     ·obtain rfl:t=L.length:=by omega
      have hq:¬ ((a+L.length:Nat):Int) < ((a+L.length:Nat):Int):=by omega
      have hB2:=hBL L.length;rw [List.take_length] at hB2 ⊢;refine wk1 (x3 hq a2 wkk) ?_;refine ⟨(k+1,ys.set k v,psE v L rows),⟨hlt,by simp only; rw [List.length_set]; exact hy,q3B hfy hqlt hfx,hls v,hB2.mono (by rw [Nat.succ_mul]; omega),hv⟩,by simp only; omega,?_⟩;simp only;refine LeW [] rfl rfl ?_ ?_ (by simp [q09,q05,win]) ?_
      ·exact Ow
      ·exact wfB (q0T Oq)
      ·try simp -implicitDefEqProofs (disch:=omega) only [go_sem,Nat.reduceEqDiff,Nat.reduceAdd,↓reduceIte]
   ·rw [decide_eq_false hfx] at cF;rw [if_neg hfx] at hv;subst hv;unfold fwP;exact wk1 (x3 hlt' hyl hset2) trivial
  ·obtain rfl:n=k:=by omega
   have hlt':¬ (n:Int) < n:=by omega
   rw [Nat.sub_self,geL] at hv;subst hv;have e:=yLo_n hy;unfold fwP;exact wk1 (x3 hlt' e hy) trivial
def RsI (f:Nat→Nat→Option Nat) (x:List (Nat × Nat)) (b:List Nat) (R J:Nat) (rows:Nat→List Int):Prop:=∀ r,r < R→q1B (rows r)=ofZ (b.getD r 0)-sg (fun j=>mulP ((f j r).getD 0) (x.getD j (0,0))) J
section
variable {f:Nat→Nat→Option Nat} {x:List (Nat × Nat)} {b:List Nat} {R C J:Nat} {rows:Nat→List Int}
def qs5 {p:Nat × Nat}:mulP 0 p=0:=by unfold mulP; rw [q5g,q5g]; rfl
def qbp {g:Nat→Int} (h0:g 0=0) {r:Nat}:∀ i,ctG g (tZ f J i) r=if r < i then g ((f J r).getD 0) else 0
 | 0=>by unfold ctG tZ; simp [q12]
 | i+1=>by
  have ih:=qbp h0 (r:=r) i;unfold ctG at *;rw [tZ_s,List.map_append];cases h:f J i with
  | none =>
   rw [List.map_nil,List.append_nil,ih]
   by_cases hr:r < i
   ·rw [if_pos hr,if_pos (by omega)]
   ·rw [if_neg hr]
    by_cases h2:r=i
    ·subst h2; rw [if_pos (by omega),h]; exact h0.symm
    ·rw [if_neg (by omega)]
  | some v =>
   rw [List.map_singleton,q1H,ih];dsimp only
   by_cases h2:r=i
   ·subst h2; rw [if_neg (by omega),if_pos rfl,if_pos (by omega),h]; simp
   ·rw [if_neg (show ¬ i=r from fun q=>h2 q.symm)]
    by_cases hr:r < i
    ·rw [if_pos hr,if_pos (by omega)]; omega
    ·rw [if_neg hr,if_neg (by omega)]; rfl
def RsI.s (h:RsI f x b R J rows):RsI f x b R (J+1) (psG (fun v=>mulP v (x.getD J (0,0))) (tZ f J R) rows):=fun r hr=>by
 rw [q45,h r hr,qbp (qs5) R,if_pos hr,sg];omega
def RsI.bg (hb:b.length=R):RsI f x b R 0 (bgR b R):=fun r hr=>by
 subst hb;rw [qgT hr,sg]; omega
end
def tF (f:Nat→Nat→Option Nat) (R C:Nat):List (Nat × Nat):=(List.range C).flatMap fun j=>tZ f j R
section
variable {f:Nat→Nat→Option Nat} {R C:Nat}
def tF_s:tF f R (C+1)=tF f R C ++ tZ f C R:=by unfold tF; rw [List.range_succ,List.flatMap_append]; simp
def tM_F:∀ C,(tM f R C).2.1=(tF f R C).map (fun e=>(e.1:Int))∧(tM f R C).2.2=(tF f R C).map (·.2)
 | 0=>⟨rfl,rfl⟩
 | C+1=>by
  obtain ⟨h1,h2⟩:=tM_F C;have e:(tM f R (C+1)).2=tC f C (tM f R C).2 R:=rfl;rw [e,q9i,tF_s,List.map_append,List.map_append,h1,h2];exact ⟨rfl,rfl⟩
def tF_m (h:TOk f R C):∀ m,m≤C→∀ e ∈ tF f R m,(e.2 < 18446744073709551616∧q0M e.2)∧e.1 < R
 | 0,_,e,he=>by cases he
 | m+1,hm,e,he=>by
  rw [tF_s] at he
  rcases List.mem_append.1 he with he | he
  ·exact tF_m h m Oq e he
  ·obtain ⟨q1,q2⟩:=q4g.1 (show (e.1,e.2) ∈ tZ f m R from he);exact ⟨⟨h.u m e.1 e.2 Oq q1 q2,h.v m e.1 e.2 Oq q1 q2⟩,q1⟩
def qoi {g:Nat→Int} {A B:List (Nat × Nat)} {r:Nat}:ctG g (A ++ B) r=ctG g A r+ctG g B r:=by
 unfold ctG;rw [List.map_append];generalize (A.map fun e=>if e.1=r then g e.2 else 0)=X;generalize (B.map fun e=>if e.1=r then g e.2 else 0)=Y
 induction Y generalizing X with
 | nil=>rw [List.append_nil,q12]; omega
 | cons y Y ih=>rw [show X ++ y :: Y=(X ++ [y]) ++ Y by simp,ih,q1H,q2O]; omega
def qth {g:Nat→Int} (h0:g 0=0) {r:Nat} (hr:r < R):∀ C,ctG g (tF f R C) r=sg (fun j=>g ((f j r).getD 0)) C
 | 0=>rfl
 | C+1=>by rw [tF_s,qoi,qth h0 hr C,qbp h0,if_pos hr,sg]
def qbG:RB (fun _=>[]) 0:=⟨fun _=>Nat.le_refl _,fun _ z hz=>by cases hz⟩
def qn0 {r:Nat} (hr:r < R):q1B (psG (fun v => -(abZ v)) (tF f R C) (fun _=>[]) r)=nmZ f C r:=by
 rw [q45,qth (g:=fun v => -(abZ v)) (by rw [qjf]; rfl) hr,q12];unfold nmZ;have:∀ n,sg (fun j => -(abZ ((f j r).getD 0))) n = -(sg (fun j=>abZ ((f j r).getD 0)) n):=fun n=>by
  induction n with
  | zero=>rfl
  | succ n ih=>rw [sg,sg,ih]; omega
 rw [this]; omega
def q7r (h:TOk f R C) (hR:R≤20) (hC:C≤20):ACt 55 [pT R C f] (.tu [pV (grZ (nmL f R C)),iv 0]):=by
 have C1:=q5A h;obtain ⟨m1,m2,m3⟩:=q1N (f:=f) (R:=R) C;have hCR:C*R≤20*20:=Nat.mul_le_mul hC hR;obtain ⟨e1,e2⟩:=tM_F (f:=f) (R:=R) C;have hLv:=tF_m h C (Nat.le_refl _);have hsum:=fun r (hr:r < R)=>qn0 (f:=f) (C:=C) hr;have hnb:=fun i hi=>qki h (i:=i) hi;obtain ⟨l,hll⟩:∃ l,l=nmL f R C:=⟨_,rfl⟩;have hlen:l.length=R:=by rw [hll]; exact q1Z
 have hlg:∀ i,i < R→l[i]?=some (nmZ f C i):=fun i hi=>by rw [hll]; exact q3V hi
 rw [← hll];clear hll;unfold pT q0b at *;generalize tF f R C=L at *;generalize (tM f R C).1=st at *;generalize (tM f R C).2.1=ix at *;generalize (tM f R C).2.2=vl at *;subst e1 e2;rw [List.length_map] at m3;have hB:=fun t=>qbG.pg (g:=fun v => -(abZ v)) (L:=L.take t) fun e he=>by
  rw [Int.natAbs_neg];have:=q6K (hLv e (List.mem_of_mem_take he)).1.2;omega
 refine ac0 Tryz.func55 Tryz.ntmps55 [.cell 2 40,.tmp 3] ?_;refine wk ?_;refine q0q (q4z (o:=19) (N:=5000) (R:=10000) (n:=R) (T1:=45) (T2:=40) (K:=some 4) (fun _ h=>h) ?_ (by omega) (by omega) (by omega) (by omega) (xs:=[(1,.pt 1 0 0),(2,.pt 2 0 0),(5,.ow 5000 none 0 R),(21,pI (L.map fun e=>(e.1:Int))),(22,iv L.length),(23,iv 0)]) (kv:=[]) (kb:=[(1,some ⟨26,some 5,[.ag [iv R,iv C,pI st,pI (L.map fun e=>(e.1:Int)),pF (L.map (·.2))]],false⟩),(2,some ⟨40,some 4,[.ag [bv false,bv false,q0X,iv 0]],false⟩)]) (by simp [nmW]) ?_) ?_
 ·try simp -implicitDefEqProofs (disch:=omega) only [go_sem,Nat.reduceEqDiff,Nat.reduceAdd,↓reduceIte]
 ·try refine Zz ?_
  exact if_pos rfl
 rw [qao];refine q0N (fun t:Nat=>t≤L.length) [1,2,5,21,22] [1,2] Lk Lk (fun t=>[(23,iv t)]) (fun _=>[]) (fun t=>q2d R (psG (fun v => -(abZ v)) (L.take t) (fun _=>[]))) (fun t=>L.length-t) 0 (Nat.zero_le _) ?_ ?_
 ·refine LeW [] rfl rfl ?_ ?_ (by simp [q09,q05,win]) ?_
  ·exact Ow
  ·exact wfB (q0T Oq)
  ·try simp -implicitDefEqProofs (disch:=omega) only [go_sem,Nat.reduceEqDiff,Nat.reduceAdd,↓reduceIte];try rfl
 ·intro t ht
  by_cases hlt:t < L.length
  ·obtain ⟨⟨i,v⟩,e1⟩:∃ e,L[t]?=some e:=⟨_,List.getElem?_eq_getElem hlt⟩;obtain ⟨⟨v1,v2⟩,hin⟩:=hLv (i,v) (List.mem_of_getElem? e1);dsimp only at v1 v2 hin;have C2:=qaK v1 v2;have C3:=q1f (q5t v1 v2) (qcK v2);have N3:=q1P (V:=abZ v);have hr1:(List.range R)[i]?=some i:=List.getElem?_range hin;have hps:psG (fun v => -(abZ v)) (L.take (t+1)) (fun _=>[])=q2i (psG (fun v => -(abZ v)) (L.take t) (fun _=>[])) i (abZ v):=by
    rw [qhg e1];dsimp only;rw [Int.neg_neg]
   have hli:(psG (fun v => -(abZ v)) (L.take t) (fun _=>[]) i).length≤2000:=by have:=(hB t).l i; rw [List.length_take] at this; omega
   generalize psG (fun v => -(abZ v)) (L.take t) (fun _=>[])=rs at *;refine wk1 (x2 e1 hr1) ?_;refine ⟨t+1,by omega,by omega,?_⟩;rw [hps];unfold q2d;rw [← q5u];refine q2w (r:=42) (k:=i) (row:=q7P rs) (fun _ h=>h) hin clV ?_ ?_ (fun i h1 h2 h3 h4=>?_) (fun _ _=>clV) BOk.h0 (.inl (by omega)) (by omega) (by omega) (by omega) (by simp [nmW]) ?_
   ·try simp -implicitDefEqProofs (disch:=omega) only [go_sem,Nat.reduceEqDiff,Nat.reduceAdd,↓reduceIte]
   ·try refine Zz ?_
    rw [List.map_append]
    rfl
   ·rw [q0A h2,q0A h4,q0A h3,q0A (by obtain ⟨w1,w2⟩:=h1; omega),q0U h1]
   ·try refine Zz ?_
    omega
  ·obtain rfl:t=L.length:=by omega
   have hB2:=hB L.length;rw [List.take_length] at hB2 ⊢;have hrl:=hB2.l;have hbb:=hB2.b;generalize psG (fun v => -(abZ v)) L (fun _=>[])=rows at *;have hdy:=fun r=>q52 (hbb r) (by have:=hrl r; omega);refine wk ?_;refine q0N (fun r=>r≤R) [2,45,46] [2] Lk Lk (fun r:Nat=>[(47,iv r),(8,.ow 1001 (some 4) 0 r)]) (fun r=>[(1001,⟨40,some 4,(l.take r).map fun V=>pV V,false⟩)]) (fun _=>q2d R rows) (fun r=>R-r) 0 (Nat.zero_le _) ?_ ?_
   ·refine LeW [(1001,none)] rfl rfl ?_ ?_ (by simp [q09,q05,win]) ?_
    ·exact Ow
    ·exact wfB (q0T Oq)
    ·try refine Zz ?_
     first | done | trivial | rfl | exact ⟨rfl,rfl⟩
   ·intro r hr;have ll:(l.take r).length=r:=by rw [List.length_take]; omega
    by_cases hlt2:r < R
    ·have q2:(r:Int) < R:=by omega
     have hr1:(List.range R)[r]?=some r:=List.getElem?_range hlt2;have hd:=hdy r;have C2:=q1f (q4V (l:=rows r) (by have:=hrl r; omega) (fun z hz=>by have:=hbb r z hz; unfold q0V; omega) hd) hd;rw [hsum r hlt2] at C2;have N2:=q1P (V:=nmZ f C r);have es:=q1E (hlg r hlt2);have hli:=hrl r;refine wk1 (x3 q2 hr1 ll) ?_;refine ⟨r+1,by omega,by omega,?_⟩;rw [es];refine LeW [(1001,some 55)] rfl rfl ?_ ?_ (by simp [q09,q05,win]) ?_
     ·exact Ow
     ·exact wfB (q0T Oq)
     ·try refine Zz ?_
      exact ⟨by omega,q0G (by rw [List.map_append]; rfl) clV⟩
    ·obtain rfl:r=R:=by omega
     have q2:¬ (r:Int) < r:=by omega
     have C2:=q4C (l:=l) Oq;have N2:=q1P (V:=grZ l);rw [List.take_of_length_le (by omega)];exact wk1 (x2 q2 hlen) trivial
def q5T (h:TOk f R C) (hR:R≤20) (hC:C≤20):ACt 56 [pT R C f] (.tu [pV (grZ (nmL f R C)),iv 0]):=by
 have C1:=q7I h;have cA:∀ {i j:Nat},i < R→j < C→_:=fun {i j} hi hj=>q86 (i:=i) (j:=j) h hi hj;have hfi:∀ {i j:Nat},i < R→j < C→_:=fun {i j} hi hj=>h.fin (j:=j) (i:=i) hj hi;have N1:=q1P (V:=0);have hs0:=fun i=>show sg (fun j=>abZ ((f j i).getD 0)) 0=0 from rfl;have hss:=fun i j=>show sg (fun j=>abZ ((f j i).getD 0)) (j+1)=sg (fun j=>abZ ((f j i).getD 0)) j+abZ ((f j i).getD 0) from rfl;have hsb:=fun i j (hi:i < R) (hj:j≤C)=>q3i (g:=fun j=>abZ ((f j i).getD 0)) (K:=66560) j Oq fun k hk=>q6K (h.finD Oq hi);obtain ⟨l,hll⟩:∃ l,l=nmL f R C:=⟨_,rfl⟩;have hlen:l.length=R:=by rw [hll]; exact q1Z
 have hlg:∀ i,i < R→l[i]?=some (sg (fun j=>abZ ((f j i).getD 0)) C):=fun i hi=>by rw [hll]; exact q3V hi
 rw [← hll];clear hll;unfold pT q0b at *;generalize (tM f R C).1=st at *;generalize (tM f R C).2.1=ix at *;generalize (tM f R C).2.2=vl at *;refine ac0 Tryz.func56 Tryz.ntmps56 [.cell 2 40,.tmp 3] ?_;refine wk ?_;refine q0B (fun i=>i≤R) [1,2] [1,2] Lk Lk (fun i:Nat=>[(6,iv i),(5,.ow 1001 (some 4) 0 i)]) (fun i=>[(1001,⟨40,some 4,(l.take i).map fun V=>pV V,false⟩)]) (fun i=>R-i) 0 (Nat.zero_le _) ?_ ?_
 ·refine LeM [(1001,none)] rfl rfl ?_;refine Zz ?_
  first | done | trivial | rfl | exact ⟨rfl,rfl⟩
 ·intro i hi;have ll:(l.take i).length=i:=by rw [List.length_take]; omega
  by_cases hlt:i < R
  ·have q1:(i:Int) < R:=by omega
   have h0:=hs0 i;have h1:=hss i;have h2:=fun j=>hsb i j hlt;have hg:=hlg i hlt;generalize sg (fun j=>abZ ((f j i).getD 0))=S at *;refine wk1 q1 ?_;refine q0B (fun j=>j≤C) [1,2,5,6,7] [1,2,1001] Lk Lk (fun j:Nat=>[(8,iv j)]) (fun j=>[(7,⟨40,some 4,[pV (S j)],false⟩)]) (fun j=>C-j) 0 (Nat.zero_le _) ?_ ?_
   ·refine LeM [] rfl rfl ?_;refine Zz ?_
    first | exact ⟨rfl,q2X h0,q0G rfl clV⟩ | exact q2X h0 | exact ⟨rfl,q2X h0⟩ | exact ⟨q2X h0,q0G rfl clV⟩
   ·intro j hj
    by_cases hlt2:j < C
    ·have q2:(j:Int) < C:=by omega
     have C2:=cA hlt hlt2;obtain ⟨v2,v1⟩:=hfi hlt hlt2;have es:=h1 j;have hb:=h2 (j+1) Oq;rw [es] at hb;generalize (f j i).getD 0=x at *;have C3:=q1b v1 (q0Y v2);have C4:ACt 39 [pV (ofZ x)] (pV (abZ x)):=q2q;have C5:=q5x (A:=S j) (B:=abZ x) (by unfold q0V; omega);refine wk1 q2 ?_;refine ⟨j+1,by omega,by omega,?_⟩;rw [es];refine LeM [] rfl rfl ?_;refine Zz ?_;exact ⟨by omega,q0G rfl clV⟩
    ·obtain rfl:j=C:=by omega
     have q2:¬ (j:Int) < j:=by omega
     have es:=q1E hg;have N2:=q1P (V:=S j);refine wk1 (x2 q2 ll) ?_;refine ⟨i+1,by omega,by omega,?_⟩;rw [es];refine LeM [(1001,some 39)] rfl rfl ?_;refine Zz ?_;exact ⟨by omega,q0G (by rw [List.map_append]; rfl) clV⟩
  ·obtain rfl:i=R:=by omega
   have q1:¬ (i:Int) < i:=by omega
   have C2:=q39 (l:=l) Oq;have N2:=q1P (V:=grZ l);rw [List.take_of_length_le (by omega)];exact wk1 (x2 q1 hlen) trivial
end
def qdl {n:Nat} {a b:Nat→List Int} (h:∀ r,r < n→a r=b r):q2d n a=q2d n b:=by
 funext i
 unfold q2d q1X q7P
 split
 ·congr 2
  exact List.map_congr_left fun j hj=>by rw [h j (List.mem_range.1 hj)]
 ·split
  ·rw [h _ (by omega)]
  ·rfl
def qs4 {x y:Nat}:q0l x y=q0l y x:=by unfold q0l; rw [Int.mul_comm]
def q8l {x:Nat}:q0l x 0=0:=by rw [qs4,q5g]
open Classical in
noncomputable def btC (R C r c:Nat) (v:List Nat):Int:=if R≠C then 5 else if chP r c v≠0 then chP r c v else if r≠R∨c≠C then 5 else 0
noncomputable def btA (R C:Nat) (F:Nat→Nat→Option Nat) (r c:Nat) (v:List Nat):List Int × Int:=if btC R C r c v≠0 then ([],btC R C r c v) else (btL R v F,0)
section
variable {F:Nat→Nat→Option Nat} {n R C r c:Nat} {v:List Nat}
def btR (n:Nat) (v:List Nat) (F:Nat→Nat→Option Nat) (i J:Nat):Nat→List Int:=fun r=>(List.range (if r < i then J+1 else J)).map fun j=>((btE n v F r j).natAbs:Int)
def btR_0:btR n v F 0 0=fun _=>[]:=by
 funext r
 unfold btR;rw [if_neg (by omega)]
 rfl
def btR_s {i J:Nat}:btR n v F (i+1) J=q2i (btR n v F i J) i ((btE n v F i J).natAbs:Int):=by
 funext r
 unfold btR q2i;dsimp only
 by_cases h:r=i
 ·subst h;rw [if_pos rfl,if_pos (by omega),if_neg (by omega),List.range_succ,List.map_append]
  rfl
 ·rw [if_neg h]
  by_cases h2:r < i
  ·rw [if_pos (by omega),if_pos h2]
  ·rw [if_neg (by omega),if_neg h2]
def btR_n {J:Nat}:q2d n (btR n v F n J)=q2d n (btR n v F 0 (J+1)):=qdl fun r hr=>by
 unfold btR;rw [if_pos hr,if_neg (by omega)]
def qgI {i J r:Nat}:(btR n v F i J r).length≤J+1:=by
 unfold btR;rw [List.length_map,List.length_range]
 split <;> omega
def qpA {i:Nat}:q1B (btR n v F 0 n i)=btZ n v F i:=by
 unfold btR;rw [if_neg (by omega),q56]
 rfl
def btT (n:Nat) (v:List Nat) (i:Nat) (e:Nat × Nat):Int := -(q0l (v.getD (e.1*n+i) 0) e.2)
def btO (i j:Nat):List Int:=if i=j then [q0i] else []
def qaU {i j:Nat}:∀ m,q1B ((tZ F j m).map (btT n v i)) = -(sg (btD n v F i j) m)
 | 0=>rfl
 | m+1=>by
  rw [tZ_s,List.map_append,sg];cases h:F j m with
  | none =>
   rw [List.map_nil,List.append_nil,qaU m];have:btD n v F i j m=0:=by unfold btD; rw [h]; exact q8l
   omega
  | some x =>
   rw [List.map_singleton,q1H,qaU m];have:btD n v F i j m=q0l (v.getD (m*n+i) 0) x:=by unfold btD; rw [h]; rfl
   unfold btT;dsimp only;omega
def qap (A:List Int):∀ B:List Int,q1B (A ++ B)=q1B A+q1B B:=fun B=>by
 induction B generalizing A with
 | nil=>rw [List.append_nil,q12]; omega
 | cons y Y ih=>rw [show A ++ y :: Y=(A ++ [y]) ++ Y by simp,ih,q1H,q2O]; omega
def qpD {i j:Nat}:q1B (btO i j ++ (tZ F j n).map (btT n v i))=btE n v F i j:=by
 rw [qap,qaU];unfold btO btE
 split
 ·rw [q5B]; omega
 ·rw [q12]; omega
def ql5 {i j:Nat}:∀ z ∈ btO i j,bl z.natAbs≤67600:=fun z hz=>by
 unfold btO at hz
 split at hz
 ·simp at hz; subst hz; have:=q3Y; omega
 ·cases hz
def qgJ {i j:Nat}:(btO i j).length≤1:=by unfold btO; split <;> simp
def qug (hv:q0z v) {i:Nat} {L:List (Nat × Nat)} (hL:∀ e ∈ L,q0M e.2):∀ z ∈ L.map (btT n v i),bl z.natAbs≤67600:=fun z hz=>by
 obtain ⟨e,he,rfl⟩:=List.mem_map.1 hz;unfold btT;rw [Int.natAbs_neg];exact (q1C (q17 hv).2 (hL e he)).2
def qoc (h:TOk F R C) (hr:r≤64) (hc:c≤64) (hn:v.length≤1000000) (hv:∀ x ∈ v,x < 18446744073709551616):ACt 188 [pT R C F,pPn r c v] (iv (btC R C r c v)):=by
 have C1:=q5A h;have C2:=qbo hr hc hn hv;unfold btC;unfold pT q0b pPn at *;generalize chP r c v=e at *
 by_cases h1:R=C
 rotate_left
 ·rw [if_pos h1];have q1:((R:Int) != (C:Int))=true:=by simp; omega
  refine ac0 Tryz.func188 Tryz.ntmps188 [.tmp 4] ?_;exact wk1 q1 trivial
 have q1:((R:Int) != (C:Int))=false:=by simp; omega
 rw [if_neg (not_not_intro h1)]
 by_cases h2:e=0
 rotate_left
 ·rw [if_pos h2];have q2:(e != 0)=true:=by simpa using h2
  refine ac0 Tryz.func188 Tryz.ntmps188 [.tmp 4] ?_;exact wk1 (x2 q1 q2) trivial
 subst h2;rw [if_neg (not_not_intro rfl)]
 by_cases h3:r=R
 rotate_left
 ·rw [if_pos (.inl h3)];have q3:((r:Int) != (R:Int))=true:=by simp; omega
  refine ac0 Tryz.func188 Tryz.ntmps188 [.tmp 4] ?_;exact wk1 (x2 q1 q3) trivial
 have q3:((r:Int) != (R:Int))=false:=by simp; omega
 by_cases h4:c=C
 ·have q4:((c:Int) != (C:Int))=false:=by simp; omega
  rw [if_neg (by omega)];refine ac0 Tryz.func188 Tryz.ntmps188 [.tmp 4] ?_;exact wk1 (x3 q1 q3 q4) trivial
 ·have q4:((c:Int) != (C:Int))=true:=by simp; omega
  rw [if_pos (.inr h4)];refine ac0 Tryz.func188 Tryz.ntmps188 [.tmp 4] ?_;exact wk1 (x3 q1 q3 q4) trivial
def qfi (h:TOk F n n) (hn:n≤20) (hl:v.length=n*n) (hv:q0z v):ACt 189 [pT n n F,pPn n n v] (pVs (btL n v F)):=by
 have hml:=q1N (f:=F) (R:=n) n;have hg:=fun j hj=>q3J (f:=F) (R:=n) (C:=n) (j:=j) hj;have hix:=fun j k hj h1 h2=>qc2 (f:=F) (R:=n) (C:=n) (j:=j) (k:=k) hj h1 h2;have hos:=fun j=>qkF (f:=F) (R:=n) (j:=j);have hpi:=fun i j hi hj=>qnK (i:=i) (j:=j) (show n≤64 by omega) (show n≤64 by omega) hl hi hj;obtain ⟨o,ho⟩:∃ o,o=tO F n:=⟨_,rfl⟩;have hRC:=h.m;have hfin:rwP n (fun r=>pV (btZ n v F r)) n=(btL n v F).map fun V=>pV V:=by
  unfold rwP btL;rw [List.map_map];exact List.map_congr_left fun i hi=>by rw [if_pos (List.mem_range.1 hi)]; rfl
 have hZb:=fun i=>qgH h hv (i:=i);unfold pVs;rw [← hfin];unfold pT pPn;rw [← ho] at hg hix hos;generalize (tM F n n).1=st at *;generalize (tM F n n).2.1=ix at *;generalize (tM F n n).2.2=vl at *;obtain ⟨m1,m2,m3⟩:=hml;unfold q0b;refine ac0 Tryz.func189 Tryz.ntmps189 [.tmp 4] ?_;refine wk ?_;refine q0q (q4z (o:=16) (N:=5000) (R:=10000) (n:=n) (T1:=45) (T2:=40) (K:=some 4) (fun _ h=>h) ?_ (by omega) (by omega) (by omega) (by omega) (xs:=[(2,.pt 2 0 0),(3,.pt 3 0 0),(5,.ow 5000 none 0 n),(18,iv n),(19,iv 0)]) (kv:=[]) (kb:=[(2,some ⟨26,some 5,[.ag [iv n,iv n,pI st,pI ix,pF vl]],false⟩),(3,some ⟨82,some 3,[.ag [iv n,iv n,pF v]],false⟩)]) (by simp [nmW]) ?_) ?_
 ·try simp -implicitDefEqProofs (disch:=omega) only [go_sem,Nat.reduceEqDiff,Nat.reduceAdd,↓reduceIte]
 ·try refine Zz ?_
  exact if_pos rfl
 rw [qao];have e0:q1X 45 40 (some 4) 5000 10000 n (fun _=>[]) h0=q2d n (btR n v F 0 0):=by rw [btR_0]; rfl
 rw [e0];refine q0N (fun J:Nat=>J≤n) [2,3,5,18] [2,3] Lk Lk (fun J=>[(19,iv J)]) (fun _=>[]) (fun J=>q2d n (btR n v F 0 J)) (fun J=>n-J) 0 (Nat.zero_le _) ?_ ?_
 ·refine LeW [] rfl rfl ?_ ?_ (by simp [q09,q05,win]) ?_
  ·exact Ow
  ·exact wfB (q0T Oq)
  ·try simp -implicitDefEqProofs (disch:=omega) only [go_sem,Nat.reduceEqDiff,Nat.reduceAdd,↓reduceIte];try rfl
 ·intro J hJ
  by_cases hlt:J < n
  ·have hlt':(J:Int) < n:=by omega
   have g1:=hg J Oq;have g2:=hg (J+1) Oq;have oJ:=hos J;have ww:IntKind.i64.wrap ((J:Int)+1)=((J+1:Nat):Int):=by rw [i64_in (by omega) (by omega)]; omega
   have hZ:=fun k x=>q4g (f:=F) (j:=J) (i:=n) (k:=k) (x:=x);have hEs:=fun i=>qpD (F:=F) (n:=n) (v:=v) (i:=i) (j:=J);have hEb:=fun i=>qbx h hv (i:=i) hlt;obtain ⟨L,hL⟩:∃ L,L=tZ F J n:=⟨_,rfl⟩;have hLn:L.length≤n:=by rw [hL]; unfold tZ; exact Nat.le_trans (List.length_filterMap_le _ _) (by simp)
   have hixJ:=hix J;rw [← hL] at oJ hZ hixJ hEs;clear hL;have hLv:∀ e ∈ L,(e.2 < 18446744073709551616∧q0M e.2)∧e.1 < n:=fun e he=>by
    obtain ⟨q1,q2⟩:=(hZ e.1 e.2).1 he;exact ⟨⟨h.u J e.1 e.2 hlt q1 q2,h.v J e.1 e.2 hlt q1 q2⟩,q1⟩
   have hTb:=fun i=>qug (n:=n) (i:=i) hv (L:=L) fun e he=>(hLv e he).1.2;refine wk1 (x2 hlt' g1) ?_;refine q0N (fun i:Nat=>i≤n) [2,3,5,6,18,19,23] [2,3] Lk Lk (fun i=>[(24,iv i)]) (fun _=>[]) (fun i=>q2d n (btR n v F i J)) (fun i=>n-i) 0 (Nat.zero_le _) ?_ ?_
   ·refine LeW [] rfl rfl ?_ ?_ (by simp [q09,q05,win]) ?_
    ·exact Ow
    ·exact wfB (q0T Oq)
    ·try simp -implicitDefEqProofs (disch:=omega) only [go_sem,Nat.reduceEqDiff,Nat.reduceAdd,↓reduceIte];try rfl
   ·intro i hi
    by_cases hlti:i < n
    ·have hli':(i:Int) < n:=by omega
     have hTbi:=hTb i;have hEsi:=hEs i;have hEbi:=hEb i;have hpsh:=btR_s (n:=n) (v:=v) (F:=F) (i:=i) (J:=J);have hrl:=qgI (n:=n) (v:=v) (F:=F) (i:=i) (J:=J) (r:=i);have hpj:=fun j hj=>hpi i j hlti hj;have hO1:=ql5 (i:=i) (j:=J);have hO2:=qgJ (i:=i) (j:=J);have hOe:=show btO i J=if i=J then [q0i] else [] from rfl
     have hTe:=fun e=>show btT n v i e = -(q0l (v.getD (e.1*n+i) 0) e.2) from rfl;generalize btE n v F i J=E at *;generalize btR n v F i J=rows at *;generalize btO i J=z at *;generalize btT n v i=T at *;have hdy:q0V E:=by unfold q0V; omega
     refine wk1 hli' ?_;refine qgo fun K hK=>?_;have fin:∀ (s:Nat→PV) (h:Hp),Le (fun _=>False) s h (stM [(2,.pt 2 0 0),(3,.pt 3 0 0),(5,.ow 5000 none 0 n),(6,iv J),(7,iv i),(8,.ow 1003 (some 4) 0 z.length),(18,iv n),(19,iv J),(23,iv n),(24,iv i)] []) (q0t (q2d n rows) (hpM [(2,⟨26,some 5,[.ag [iv n,iv n,pI st,pI ix,pF vl]],false⟩),(3,⟨82,some 3,[.ag [iv n,iv n,pF v]],false⟩),(1003,⟨40,some 4,z.map fun V=>pV V,false⟩)] []))→K s h:=by
      intro s h hl;refine hK _ _ (q0q hl ?_); clear hK K hl;refine wk1 g1 ?_;refine q0N (fun t:Nat=>t≤L.length) [2,3,5,6,7,18,19,23,24] [2,3] Lk Lk (fun t=>[(9,iv ((o J+t:Nat):Int)),(8,.ow 1001 (some 4) 0 (z.length+t))]) (fun t=>[(1001,⟨40,some 4,(z ++ (L.take t).map T).map fun V=>pV V,false⟩)]) (fun _=>q2d n rows) (fun t=>L.length-t) 0 (Nat.zero_le _) ?_ ?_
      ·refine LeW [(1001,some 1003)] rfl rfl ?_ ?_ (by simp [q09,q05,win]) ?_
       ·exact Ow
       ·exact wfB (q0T Oq)
       ·try refine Zz ?_
        exact q0G rfl clV
      ·intro t ht;have htl:(z ++ (L.take t).map T).length=z.length+t:=by rw [List.length_append,List.length_map,List.length_take]; omega
       by_cases hlt2:t < L.length
       ·obtain ⟨⟨k,x⟩,e1,e2,e3⟩:=hixJ (o J+t) Oq Oq Oq;rw [Nat.add_sub_cancel_left] at e1;dsimp only at e2 e3;obtain ⟨⟨v1,v2⟩,hin⟩:=hLv (k,x) (List.mem_of_getElem? e1);dsimp only at v1 v2 hin;have hq:((o J+t:Nat):Int) < ((o (J+1):Nat):Int):=by omega
        obtain ⟨w1,w2,y,hy⟩:=hpj k hin;obtain ⟨y1,y2⟩:=hv y (List.mem_of_getElem? hy);have C1:=q3x v1 (q0Y v2);have C2:=q3x y1 (q0Y y2);have M:=q1C y2 v2;have C3:=q6w (q3K y2) (q3K v2) M.1;have hmd:=(q4j M.1).2.2.2;have C4:=q1f (q96 hmd) (by unfold q0V at *; rw [Int.natAbs_neg]; exact hmd);have N4:=q1P (V := -(q0l y x));have hob:=(List.getElem?_eq_some_iff.1 e2).1;have wt:IntKind.i64.wrap (((o J+t:Nat):Int)+1)=((o J+(t+1):Nat):Int):=by rw [i64_in (by omega) (by omega)]; omega
        have es:z ++ (L.take (t+1)).map T=z ++ (L.take t).map T ++ [-(q0l y x)]:=by
         rw [q1E e1,List.map_append,← List.append_assoc,List.map_singleton,hTe];dsimp only;rw [getD_some hy]
        generalize z ++ (L.take t).map T=P at *;generalize k*n=kn at *;refine wk1 (x6 g2 ww hq e2 e3 (x5 w1 w2 hy wt htl)) ?_;refine ⟨t+1,by omega,by omega,?_⟩;rw [es];refine LeW [(1001,some 75)] rfl rfl ?_ ?_ (by simp [q09,q05,win]) ?_
        ·exact Ow
        ·exact wfB (q0T Oq)
        ·try refine Zz ?_
         exact ⟨by omega,q0G (by rw [List.map_append]; rfl) clV⟩
       ·obtain rfl:t=L.length:=by omega
        have hq:¬ ((o J+L.length:Nat):Int) < ((o (J+1):Nat):Int):=by omega
        rw [List.take_length] at htl ⊢;have hPb:∀ y ∈ z ++ L.map T,q0V y:=fun y hy=>by
         rcases List.mem_append.1 hy with hy | hy
         ·have:=hO1 y hy; unfold q0V; omega
         ·have:=hTbi y hy; unfold q0V; omega
        generalize z ++ L.map T=P at *;have C1:=q1f (q4V (l:=P) (by omega) hPb (by rw [hEsi]; exact hdy)) (by rw [hEsi]; exact hdy);rw [hEsi] at C1;have C2:=q1f (qjd qgA fun ho=>qdc (A:=E) ho) (qlK hdy);have N2:=q1P (V:=(E.natAbs:Int));have N1:=q1P (V:=E);have hr1:(List.range n)[i]?=some i:=List.getElem?_range hlti;refine wk1 (x5 g2 ww hq htl hr1) ?_;refine ⟨i+1,by omega,by omega,?_⟩;rw [hpsh];unfold q2d;rw [← q5u];refine q2w (r:=86) (k:=i) (row:=q7P rows) (fun _ h=>h) hlti clV ?_ ?_ (fun i h1 h2 h3 h4=>?_) (fun _ _=>clV) BOk.h0 (.inl (by omega)) (by omega) (by omega) (by omega) (by simp [nmW]) ?_
        ·try simp -implicitDefEqProofs (disch:=omega) only [go_sem,Nat.reduceEqDiff,Nat.reduceAdd,↓reduceIte]
        ·try refine Zz ?_
         rw [List.map_append]
         rfl
        ·rw [q0A h2,q0A h4,q0A h3,q0A (by obtain ⟨w1,w2⟩:=h1; omega),q0U h1]
        ·try refine Zz ?_
         omega
     by_cases hij:i=J
     ·have q3:((i:Int) == (J:Int))=true:=by simp; omega
      rw [if_pos hij] at hOe;subst hOe;have C1:=q1f q95 (by have:=q3Y; unfold q0V; omega);have N1:=q1P (V:=q0i);refine wk1 q3 ?_;refine fin _ _ ?_;refine LeW [(1003,some 33)] rfl rfl ?_ ?_ (by simp [q09,q05,win]) ?_
      ·exact Ow
      ·exact wfB (q0T Oq)
      ·try simp -implicitDefEqProofs (disch:=omega) only [go_sem,Nat.reduceEqDiff,Nat.reduceAdd,↓reduceIte]
     ·have q3:((i:Int) == (J:Int))=false:=by simp; omega
      rw [if_neg hij] at hOe;subst hOe;refine wk1 q3 ?_;refine fin _ _ ?_;refine LeW [(1003,none)] rfl rfl ?_ ?_ (by simp [q09,q05,win]) ?_
      ·exact Ow
      ·exact wfB (q0T Oq)
      ·try simp -implicitDefEqProofs (disch:=omega) only [go_sem,Nat.reduceEqDiff,Nat.reduceAdd,↓reduceIte]
    ·obtain rfl:i=n:=by omega
     have hli':¬ (i:Int) < i:=by omega
     refine wk1 (x2 hli' ww) ?_;refine ⟨J+1,by omega,by omega,?_⟩;rw [← btR_n];refine LeW [] rfl rfl ?_ ?_ (by simp [q09,q05,win]) ?_
     ·exact Ow
     ·exact wfB (q0T Oq)
     ·try refine Zz ?_
      first | done | trivial | omega
  ·obtain rfl:J=n:=by omega
   have hlt':¬ (J:Int) < J:=by omega
   have hrs:=fun i=>qpA (n:=J) (v:=v) (F:=F) (i:=i);have hrl:=fun i=>qgI (n:=J) (v:=v) (F:=F) (i:=0) (J:=J) (r:=i);have hrb:∀ i,i < J→∀ z ∈ btR J v F 0 J i,q0V z:=fun i _ z hz=>by
    unfold btR at hz;rw [if_neg (by omega)] at hz;obtain ⟨j,hj,rfl⟩:=List.mem_map.1 hz;have:=qbx h hv (i:=i) (List.mem_range.1 hj);unfold q0V;rw [Int.natAbs_natCast];omega
   generalize btR J v F 0 J=rows at *;have hwl:=fun m=>q9n (n:=J) (g:=fun r=>pV (btZ J v F r)) (m:=m);have hws:=fun m=>qro (n:=J) (g:=fun r=>pV (btZ J v F r)) (m:=m);have hwc:=fun m=>q1j (n:=J) (g:=fun r=>pV (btZ J v F r)) (m:=m) fun c=>trivial;clear hfin hg hix hos;refine wk1 hlt' ?_;refine q0N (fun r=>r≤J) [93,94] [] Lk Lk (fun r:Nat=>[(95,iv r),(11,.ow 1001 (some 4) 0 J)]) (fun r=>[(1001,⟨40,some 4,rwP J (fun r=>pV (btZ J v F r)) r,false⟩)]) (fun _=>q2d J rows) (fun r=>J-r) 0 (Nat.zero_le _) ?_ ?_
   ·refine LeW [(1001,some 92)] rfl rfl ?_ ?_ (by simp [q09,q05,win]) ?_
    ·exact Ow
    ·exact wfB (q0T Oq)
    ·try refine Zz ?_
     exact ⟨rfl,qga (by simp)⟩
   ·intro r hr
    by_cases hlt2:r < J
    ·have q2:(r:Int) < J:=by omega
     have hr1:(List.range J)[r]?=some r:=List.getElem?_range hlt2;have hd:q0V (btZ J v F r):=by have:=hZb r; unfold q0V; omega
     have C2:=q1f (q4V (l:=rows r) (by have:=hrl r; omega) (fun z hz=>hrb r hlt2 z hz) (by rw [hrs r]; exact hd)) (by rw [hrs r]; exact hd);rw [hrs r] at C2;have N2:=q1P (V:=btZ J v F r);have hli:=hrl r;have e1:=hws r;have e2:=hwl r;have e3:=hwc r;generalize rwP J (fun r=>pV (btZ J v F r)) r=W at *;refine wk1 (x3 q2 hr1 e2) ?_;refine ⟨r+1,by omega,by omega,?_⟩;rw [← e1];refine LeW [] rfl rfl ?_ ?_ (by simp [q09,q05,win]) ?_
     ·exact Ow
     ·exact wfB (q0T Oq)
     ·try refine Zz ?_
      exact ⟨by omega,q0G rfl (q6O e3 trivial)⟩
    ·obtain rfl:r=J:=by omega
     have q2:¬ (r:Int) < r:=by omega
     refine wk1 (x3 q2 (hwl r) (hwc r)) ?_;exact List.take_of_length_le (Nat.le_of_eq (hwl r))
end
section
variable {F:Nat→Nat→Option Nat} {n R C r c:Nat} {v:List Nat}
def btP (n:Nat) (v:List Nat) (F:Nat→Nat→Option Nat) (i j k:Nat):List Int:=btO i j ++ (List.range k).map fun k => -(btD n v F i j k)
def qpB {i j:Nat}:q1B (btP n v F i j n)=btE n v F i j:=by
 unfold btP;rw [qap,q56];have:∀ m,sg (fun k => -(btD n v F i j k)) m = -(sg (btD n v F i j) m):=fun m=>by
  induction m with
  | zero=>rfl
  | succ m ih=>rw [sg,sg,ih]; omega
 rw [this];unfold btO btE
 split
 ·rw [q5B]; omega
 ·rw [q12]; omega
def qpC {i j k:Nat}:(btP n v F i j k).length=(btO i j).length+k:=by unfold btP; simp
def btP_s {i j k:Nat}:btP n v F i j (k+1)=btP n v F i j k ++ [-(btD n v F i j k)]:=by unfold btP; rw [List.range_succ,List.map_append,List.append_assoc]; rfl
open Classical in
def qgv (h:TOk F R C) (hR:R≤20) (hC:C≤20) (hr:r≤64) (hc:c≤64) (hn:v.length≤1000000) (hv:∀ x ∈ v,x < 18446744073709551616):ACt 202 [pT R C F,pPn r c v] (.tu [pVs (btA R C F r c v).1,iv (btA R C F r c v).2]):=by
 have C1:=q7I h;have C2:=qad hr hc hn hv;have key:chP r c v=0→v.length=r*c∧q0z v:=fun q=>qfz q hv;have cA:∀ {i j:Nat},i < R→j < C→_:=fun {i j} hi hj=>q86 (i:=i) (j:=j) h hi hj;have hfi:∀ {i j:Nat},i < R→j < C→_:=fun {i j} hi hj=>h.fin (j:=j) (i:=i) hj hi;have cV:=fun (h1:r=R) (h2:c=C) (h3:v.length=r*c) (h4:q0z v) i j hi hj=>qd1 (i:=i) (j:=j) hr hc h3 h4 hi hj;obtain ⟨res,hres⟩:∃ res,res=btA R C F r c v:=⟨_,rfl⟩;rw [← hres];unfold btA btC at hres;have hT:ACt 81 [pT R C F] (iv 0):=C1;have hEb:=fun (h3:q0z v) (hRC:TOk F R R) i j hj=>qbx hRC h3 (i:=i) (j:=j) hj;unfold pT q0b pPn at *;generalize chP r c v=e at *;generalize (tM F R C).1=st at *;generalize (tM F R C).2.1=ix at *;generalize (tM F R C).2.2=vl at *
 by_cases h1:R=C
 rotate_left
 ·rw [if_pos h1,if_pos (show (5:Int)≠0 by decide)] at hres;subst hres;have q1:((R:Int) != (C:Int))=true:=by simp; omega
  refine ac0 Tryz.func202 Tryz.ntmps202 [.tmp 4,.tmp 5] ?_;exact wk1 q1 trivial
 have q1:((R:Int) != (C:Int))=false:=by simp; omega
 rw [if_neg (not_not_intro h1)] at hres
 by_cases h2:e=0
 rotate_left
 ·rw [if_pos h2,if_pos h2] at hres;subst hres;have q2:(e != 0)=true:=by simpa using h2
  refine ac0 Tryz.func202 Tryz.ntmps202 [.tmp 4,.tmp 5] ?_;exact wk1 (x2 q1 q2) trivial
 obtain ⟨hvl,hvf⟩:=key h2;clear key;subst h2;rw [if_neg (show ¬ (0:Int)≠0 by decide)] at hres
 by_cases h3:r=R
 rotate_left
 ·rw [if_pos (show r≠R∨c≠C from .inl h3),if_pos (show (5:Int)≠0 by decide)] at hres;subst hres;have q3:((r:Int) != (R:Int))=true:=by simp; omega
  refine ac0 Tryz.func202 Tryz.ntmps202 [.tmp 4,.tmp 5] ?_;exact wk1 (x2 q1 q3) trivial
 have q3:((r:Int) != (R:Int))=false:=by simp; omega
 by_cases h4:c=C
 rotate_left
 ·have q4:((c:Int) != (R:Int))=true:=by simp; omega
  rw [if_pos (show r≠R∨c≠C from .inr h4),if_pos (show (5:Int)≠0 by decide)] at hres;subst hres;refine ac0 Tryz.func202 Tryz.ntmps202 [.tmp 4,.tmp 5] ?_;exact wk1 (x3 q1 q3 q4) trivial
 have q4:((c:Int) != (R:Int))=false:=by simp; omega
 rw [if_neg (show ¬ (r≠R∨c≠C) by omega),if_neg (show ¬ (0:Int)≠0 by decide)] at hres;subst hres;subst h1 h3;obtain rfl:r=c:=h4.symm;replace cV:=cV rfl rfl hvl hvf;replace hEb:=hEb hvf h;have hZb:=fun i=>qgH h hvf (i:=i);have C5:=qlw;have N5:=q1P (V:=q0i);have N0:=q1P (V:=0);have hl:(btL r v F).length=r:=q1Z;have hlg:∀ i,i < r→(btL r v F)[i]?=some (sg (fun j=>((btE r v F i j).natAbs:Int)) r):=fun i hi=>q3V hi;have hs0:=fun i=>show sg (fun j=>((btE r v F i j).natAbs:Int)) 0=0 from rfl;have hss:=fun i j=>show sg (fun j=>((btE r v F i j).natAbs:Int)) (j+1)=sg (fun j=>((btE r v F i j).natAbs:Int)) j+((btE r v F i j).natAbs:Int) from rfl;have hsb:=fun i j (hj:j≤r)=>q3i (g:=fun j=>((btE r v F i j).natAbs:Int)) (K:=67596) j (by omega) fun k hk=>by rw [Int.natAbs_natCast]; exact hEb i k (by omega)
 dsimp only;generalize btL r v F=Bl at *;refine ac0 Tryz.func202 Tryz.ntmps202 [.tmp 4,.tmp 5] ?_;refine wk1 (x3 q1 q3 q4) ?_;refine q0B (fun i=>i≤r) [2,3,7] [2,3] Lk Lk (fun i:Nat=>[(10,iv i),(9,.ow 1001 (some 4) 0 i)]) (fun i=>[(1001,⟨40,some 4,(Bl.take i).map fun V=>pV V,false⟩)]) (fun i=>r-i) 0 (Nat.zero_le _) ?_ ?_
 ·refine LeM [(1001,none)] rfl rfl ?_;refine Zz ?_
  first | done | trivial | rfl | exact ⟨rfl,rfl⟩
 ·intro i hi;have ll:(Bl.take i).length=i:=by rw [List.length_take]; omega
  by_cases hlt:i < r
  ·have l1:(i:Int) < r:=by omega
   have g0:=hs0 i;have g1:=hss i;have g2:=hsb i;have gg:=hlg i hlt;generalize hS:sg (fun j=>((btE r v F i j).natAbs:Int))=S at *;clear hS hs0 hss hsb hlg;refine wk1 l1 ?_;refine q0B (fun j=>j≤r) [2,3,7,9,10,11] [2,3,1001] Lk Lk (fun j:Nat=>[(12,iv j)]) (fun j=>[(11,⟨40,some 4,[pV (S j)],false⟩)]) (fun j=>r-j) 0 (Nat.zero_le _) ?_ ?_
   ·refine LeM [] rfl rfl ?_;refine Zz ?_;rw [g0];exact ⟨rfl,q2X rfl,q0G rfl clV⟩
   ·intro j hj
    by_cases hlt2:j < r
    ·have l2:(j:Int) < r:=by omega
     have hPl:=fun k=>qpC (n:=r) (v:=v) (F:=F) (i:=i) (j:=j) (k:=k);have hPs:=fun k=>btP_s (n:=r) (v:=v) (F:=F) (i:=i) (j:=j) (k:=k);have hPe:=qpB (n:=r) (v:=v) (F:=F) (i:=i) (j:=j);have hP0:btP r v F i j 0=btO i j:=by unfold btP; simp
     have hO1:=ql5 (i:=i) (j:=j);have hO2:=qgJ (i:=i) (j:=j);have hOe:=show btO i j=if i=j then [q0i] else [] from rfl
     have hD:=fun k=>show btD r v F i j k=q0l (v.getD (k*r+i) 0) ((F j k).getD 0) from rfl;have hEbi:=hEb i j hlt2;have hPd:∀ z ∈ btP r v F i j r,q0V z:=fun z hz=>by
      unfold btP at hz
      rcases List.mem_append.1 hz with hz | hz
      ·have:=hO1 z hz; unfold q0V; omega
      ·obtain ⟨k,hk,rfl⟩:=List.mem_map.1 hz;have:=ql7 h hvf (i:=i) hlt2 (List.mem_range.1 hk);unfold q0V; rw [Int.natAbs_neg]; omega
     have e1:=g1 j;have e2:=g2 (j+1) Oq;generalize btE r v F i j=E at *;generalize btP r v F i j=P at *;generalize btO i j=z at *;have hdy:q0V E:=by unfold q0V; omega
     refine wk1 l2 ?_;refine qgo fun K hK=>?_;have fin:∀ (s:Nat→PV) (h:Hp),Le (fun _=>False) s h (stM [(2,.pt 2 0 0),(3,.pt 3 0 0),(7,iv r),(9,.ow 1001 (some 4) 0 i),(10,iv i),(11,.pt 11 0 0),(12,iv j),(13,.ow 1003 (some 4) 0 z.length)] []) (hpM [(2,⟨26,some 5,[.ag [iv r,iv r,pI st,pI ix,pF vl]],false⟩),(3,⟨82,some 3,[.ag [iv r,iv r,pF v]],false⟩),(1001,⟨40,some 4,(Bl.take i).map fun V=>pV V,false⟩),(11,⟨40,some 4,[pV (S j)],false⟩),(1003,⟨40,some 4,z.map fun V=>pV V,false⟩)] [])→K s h:=by
      intro s h hl;refine hK _ _ (q0q hl ?_); clear hK K hl;refine wk ?_;refine q0B (fun k=>k≤r) [2,3,7,9,10,11,12] [2,3,11,1001] Lk Lk (fun k:Nat=>[(14,iv k),(13,.ow 1002 (some 4) 0 (z.length+k))]) (fun k=>[(1002,⟨40,some 4,(P k).map fun V=>pV V,false⟩)]) (fun k=>r-k) 0 (Nat.zero_le _) ?_ ?_
      ·refine LeM [(1002,some 1003)] rfl rfl ?_;refine Zz ?_;rw [hP0];exact ⟨rfl,q0G rfl clV,q0G rfl clV⟩
      ·intro k hk;have hln:=hPl k
       by_cases hlt3:k < r
       ·have l3:(k:Int) < r:=by omega
        have C6:=cV i k hlt hlt3;have C7:=cA hlt3 hlt2;obtain ⟨xf,xu⟩:=hfi hlt3 hlt2;have es:=hPs k;rw [hD k] at es;obtain ⟨y1,y2⟩:=q17 hvf (i:=k*r+i);generalize v.getD (k*r+i) 0=y at *;generalize (F j k).getD 0=x at *;have C8:=q1b xu (q0Y xf);have M:=q1C y2 xf;have C9:=q5e M.1;have C10:=@q7l;have N6:=q1P (V:=ofZ y);have N7:=q1P (V := -(q0l y x));refine wk1 (x2 l3 hln) ?_;refine ⟨k+1,by omega,by omega,?_⟩;rw [es];refine LeM [(1002,some 77)] rfl rfl ?_;refine Zz ?_;exact ⟨⟨by omega,by omega⟩,q0G (by rw [List.map_append]; rfl) clV,q0G rfl clV⟩
       ·obtain rfl:k=r:=by omega
        have l3:¬ (k:Int) < k:=by omega
        have C6:=q5w (l:=P k) (by omega) (by rw [hPe]; exact hdy);rw [hPe] at C6;have C7:=q2q (V:=E);have C8:=q5x (A:=S j) (B:=(E.natAbs:Int)) (by rw [← e1]; unfold q0V; omega);rw [← e1] at C8;have N8:=q1P (V:=E);have N9:=q1P (V:=(E.natAbs:Int));have N10:=q1P (V:=S (j+1));refine wk1 (x2 l3 hln) ?_;refine ⟨j+1,by omega,by omega,?_⟩;refine LeM [] rfl rfl ?_;refine Zz ?_
        first | exact ⟨by omega,q0G rfl clV⟩
     by_cases hij:i=j
     ·have q5:((i:Int) == (j:Int))=true:=by simp; omega
      rw [if_pos hij] at hOe;subst hOe;refine wk1 q5 ?_;refine fin _ _ ?_;refine LeM [(1003,some 58)] rfl rfl ?_
      try refine Zz ?_
      exact q0G rfl clV
     ·have q5:((i:Int) == (j:Int))=false:=by simp; omega
      rw [if_neg hij] at hOe;subst hOe;refine wk1 q5 ?_;refine fin _ _ ?_;refine LeM [(1003,none)] rfl rfl ?_
      try refine Zz ?_
      exact q0G rfl clV
    ·obtain rfl:j=r:=by omega
     have l2:¬ (j:Int) < j:=by omega
     have es:=q1E gg;have N2:=q1P (V:=S j);refine wk1 (x2 l2 ll) ?_;refine ⟨i+1,by omega,by omega,?_⟩;rw [es];refine LeM [(1001,some 86)] rfl rfl ?_;refine Zz ?_;exact ⟨by omega,q0G (by rw [List.map_append]; rfl) clV⟩
  ·obtain rfl:i=r:=by omega
   have l1:¬ (i:Int) < i:=by omega
   rw [← hl,List.take_length];exact wk1 (x2 l1 hl) trivial
end
def qpp {f:FuncId} {V U:Int} {x r:PV} (hc:q0F Tryz.prog f=true) (ha:q0V V∧q0V U→ACt f [dT V,dT U,x] r):ACt f [pV V,pV U,x] r:=q6r hc (fun D w vs hR=>by
 obtain ⟨a,b,c,rfl,h1,h2,h3⟩:=rd_3 hR;obtain ⟨h4,h5⟩:=q3E.2 (q9o h1);obtain ⟨h6,h7⟩:=q3E.2 (q9o h2);refine ⟨?_,h5,h7⟩;unfold RdL;refine ⟨_,_,rfl,h4,?_⟩;unfold RdL;exact ⟨_,_,rfl,h6,RdL.one h3⟩) ha
def bnI (P B:Int):Nat × Nat × Bool:=if q0i≤B then (0,0,false) else (fQ 1 P (q0i+B),fQ 2 P (q0i-B),true)
noncomputable def bnA (R C:Nat) (F:Nat→Nat→Option Nat) (r c:Nat) (v:List Nat) (f:Int):Nat × Nat × Bool × Int :=
 if btC R C r c v≠0 then (0,0,false,btC R C r c v) else ((bnI (prZ (grZ (pnL r c v)) f) (grZ (btL R v F))).1,(bnI (prZ (grZ (pnL r c v)) f) (grZ (btL R v F))).2.1,(bnI (prZ (grZ (pnL r c v)) f) (grZ (btL R v F))).2.2,0)
abbrev pBn (q:Nat × Nat × Bool × Int):PV:=.tu [.ag [uv q.1,uv q.2.1],bv q.2.2.1,iv q.2.2.2]
section
variable {F:Nat→Nat→Option Nat} {n R C r c:Nat} {v:List Nat} {f P:Int}
def qdH (h:btC R C r c v=0):R=C∧r=R∧c=C∧chP r c v=0:=by
 unfold btC at h
 split at h
 ·cases h
 ·rename_i h1
  split at h
  ·rename_i h2; exact absurd h h2
  ·rename_i h2
   split at h
   ·cases h
   ·rename_i h3; exact ⟨by omega,by omega,by omega,Classical.not_not.1 h2⟩
def q7h (h:TOk F R C) (hR:R≤20) (hC:C≤20) (hr:r≤64) (hc:c≤64) (hn:v.length≤1000000) (hv:∀ x ∈ v,x < 18446744073709551616):ACt 111 [pT R C F,pPn r c v] (.tu [pVs (btA R C F r c v).1,iv (btA R C F r c v).2]):=by
 have C1:=qoc h hr hc hn hv;have key:=fun (q:btC R C r c v=0)=>qdH q;have C2:btC R C r c v=0→ACt 189 [pT R C F,pPn r c v] (pVs (btL R v F)):=fun q=>by
  obtain ⟨rfl,rfl,rfl,h4⟩:=qdH q;obtain ⟨h5,h6⟩:=qfz h4 hv;exact qfi h hR h5 h6
 unfold btA;unfold pT q0b pPn at *;generalize btC R C r c v=e at *;generalize (tM F R C).1=st at *;generalize (tM F R C).2.1=ix at *;generalize (tM F R C).2.2=vl at *
 by_cases h1:e=0
 ·have C3:=C2 h1;subst h1;rw [if_neg (show ¬ (0:Int)≠0 by decide)];dsimp only;generalize btL R v F=l at *;clear C2 key;refine ac0 Tryz.func111 Tryz.ntmps111 [.tmp 4,.tmp 5] ?_;exact wk trivial
 ·rw [if_pos h1];have q:(e != 0)=true:=by simpa using h1
  refine ac0 Tryz.func111 Tryz.ntmps111 [.tmp 4,.tmp 5] ?_;exact wk1 q trivial
def q6p (h:TOk F n n) (hn:n≤20) (hl:v.length=n*n) (hv:q0z v) (hm:mkV (grZ (pnL n n v)*f) (-131072)=some P):ACt 112 [pT n n F,pPn n n v,pV f] (.tu [.ag [uv (bnI P (grZ (btL n v F))).1,uv (bnI P (grZ (btL n v F))).2.1],bv (bnI P (grZ (btL n v F))).2.2]):=by
 have hm2:n*n≤20*20:=Nat.mul_le_mul hn hn;have hch:chP n n v=0:=by unfold chP; rw [if_neg (not_not_intro hl),if_pos fun x hx=>(hv x hx).2]
 have C1:=q7h (r:=n) (c:=n) (v:=v) h hn hn Oq Oq Oq fun x hx=>(hv x hx).1;have hbt:btA n n F n n v=(btL n v F,0):=by
  unfold btA btC;rw [if_neg (not_not_intro rfl),if_neg (not_not_intro hch),if_neg (show ¬ (n≠n∨n≠n) by omega),if_neg (show ¬ (0:Int)≠0 by decide)]
 rw [hbt] at C1;dsimp only at C1;have C2:=q4C (l:=btL n v F) (by unfold btL; rw [q1Z]; omega);have C5:=qjK (r:=n) (c:=n) Oq Oq hl hv;have C6:=q1f (qgn qlZ fun ho=>q6w ho.1 ho.2 hm) (q4j hm).2.2.2;have hB:=q3L (ql6 h hv);have hB0:=qlF (l:=btL n v F);have hO:=q3Y;have hO0:0 < q0i:=by rw [q8i]; exact q0S _
 generalize grZ (pnL n n v)=N at *;generalize grZ (btL n v F)=B at *;generalize btL n v F=l at *;have C3:=q1f q95 (by unfold q0V; omega);have C4:=qgn qbv fun ho=>q98 (A:=B) (B:=q0i) ho.1 ho.2;have d1:q0V (q0i+B):=by have:=q7w (a:=q0i) (b:=B) (k:=67607) Oq hB; unfold q0V; omega
 have d2:q0V (q0i-B):=by have:=qcB (a:=q0i) (b:=B) (k:=67607) Oq hB; unfold q0V; omega
 have C7:=q1f (qgn qlX fun ho=>qdb (A:=q0i) (B:=B) ho.1 ho.2 d1) d1;have C8:=q1f (qgn qlW fun ho=>qlz (A:=q0i) (B:=B) ho.1 ho.2 d2) d2;have C9:=qpp (x:=iv 1) qbw fun ho=>q7d (mode:=1) (a:=P) (b:=q0i+B) Oq ho.1 ho.2 Oq;have N1:=q1P (V:=q0i);have N2:=q1P (V:=B);have N3:=q1P (V:=P);have N4:=q1P (V:=N);have N5:=q1P (V:=q0i+B);have N6:=q1P (V:=q0i-B);unfold bnI;unfold pT q0b pPn at *
 by_cases h1:q0i≤B
 ·rw [if_pos h1];have q:(B-q0i).sign ≥ 0:=by
   rcases Int.lt_or_eq_of_le h1 with h1 | h1
   ·rw [Int.sign_eq_one_of_pos (by omega)]; omega
   ·rw [show B-q0i=0 by omega]; decide
  dsimp only;generalize (B-q0i).sign=s at *;refine ac0 Tryz.func112 Tryz.ntmps112 [.cell 6 87,.tmp 7] ?_;refine wk ?_
  rfl
 ·rw [if_neg h1];have C10:=qpp (x:=iv 2) qbw fun ho=>q7d (mode:=2) (a:=P) (b:=q0i-B) Oq ho.1 ho.2 Oq;rw [Int.sign_eq_neg_one_of_neg (show B-q0i < 0 by omega)] at C4;dsimp only;generalize fQ 1 P (q0i+B)=x at *;generalize fQ 2 P (q0i-B)=y at *;refine ac0 Tryz.func112 Tryz.ntmps112 [.cell 6 87,.tmp 7] ?_;exact wk trivial
def qgE (h:TOk F R C) (hR:R≤20) (hC:C≤20) (hr:r≤64) (hc:c≤64) (hn:v.length≤1000000) (hv:∀ x ∈ v,x < 18446744073709551616):ACt 57 [pT R C F,pPn r c v] (pBn (bnA R C F r c v q0i)):=by
 have C1:=q7h h hR hC hr hc hn hv;have C2:=q1f q95 (by have:=q3Y; unfold q0V; omega);have C3:btC R C r c v=0→ACt 112 [pT R C F,pPn r c v,pV q0i] (.tu [.ag [uv (bnI (prZ (grZ (pnL r c v)) q0i) (grZ (btL R v F))).1,uv (bnI (prZ (grZ (pnL r c v)) q0i) (grZ (btL R v F))).2.1],bv (bnI (prZ (grZ (pnL r c v)) q0i) (grZ (btL R v F))).2.2]):=fun q=>by
  obtain ⟨h5,h6⟩:=qfz (qdH q).2.2.2 hv;have hb:=q3L (qbP (r:=r) (c:=c) h6 Oq);have e1:=mul_one (a:=grZ (pnL r c v)) (by unfold q0V; omega);have e2:prZ (grZ (pnL r c v)) q0i=grZ (pnL r c v):=by unfold prZ; rw [e1]; rfl
  rw [e2];obtain ⟨rfl,rfl,rfl,_⟩:=qdH q;exact q6p h hR h5 h6 e1
 unfold btA at C1;unfold bnA;unfold pT q0b pPn at *;generalize btC R C r c v=e at *;generalize bnI (prZ (grZ (pnL r c v)) q0i) (grZ (btL R v F))=q at *;generalize btL R v F=l at *;generalize (tM F R C).1=st at *;generalize (tM F R C).2.1=ix at *;generalize (tM F R C).2.2=vl at *
 by_cases h1:e=0
 ·have C4:=C3 h1;subst h1;rw [if_neg (show ¬ (0:Int)≠0 by decide)] at C1 ⊢;dsimp only at C1 ⊢;have N1:=q1P (V:=q0i);refine ac0 Tryz.func57 Tryz.ntmps57 [.cell 4 87,.tmp 5,.tmp 6] ?_;exact wk trivial
 ·rw [if_pos h1] at C1 ⊢;have q:(e != 0)=true:=by simpa using h1
  clear C3;refine ac0 Tryz.func57 Tryz.ntmps57 [.cell 4 87,.tmp 5,.tmp 6] ?_;refine wk1 q ?_
  rfl
def q7s (h:TOk F R C) (hR:R≤20) (hC:C≤20) (hr:r≤64) (hc:c≤64) (hn:v.length≤1000000) (hv:∀ x ∈ v,x < 18446744073709551616):ACt 53 [pT R C F,pPn r c v] (pBn (bnA R C F r c v (grZ (nmL F R C)))):=by
 have C1:=q7h h hR hC hr hc hn hv;have C2:=q7r h hR hC;have C3:btC R C r c v=0→ACt 112 [pT R C F,pPn r c v,pV (grZ (nmL F R C))] (.tu [.ag [uv (bnI (prZ (grZ (pnL r c v)) (grZ (nmL F R C))) (grZ (btL R v F))).1,uv (bnI (prZ (grZ (pnL r c v)) (grZ (nmL F R C))) (grZ (btL R v F))).2.1],bv (bnI (prZ (grZ (pnL r c v)) (grZ (nmL F R C))) (grZ (btL R v F))).2.2]):=fun q=>by
  obtain ⟨rfl,rfl,rfl,h4⟩:=qdH q;obtain ⟨h5,h6⟩:=qfz h4 hv;exact q6p h hR h5 h6 (qka (qkc h6) (qkh h) (q3L (qbP h6 Oq)) (q3L (qkj h))).1
 unfold btA at C1;unfold bnA;unfold pT q0b pPn at *;generalize btC R C r c v=e at *;generalize bnI (prZ (grZ (pnL r c v)) (grZ (nmL F R C))) (grZ (btL R v F))=q at *;generalize btL R v F=l at *;generalize grZ (nmL F R C)=M at *;generalize (tM F R C).1=st at *;generalize (tM F R C).2.1=ix at *;generalize (tM F R C).2.2=vl at *
 by_cases h1:e=0
 ·have C4:=C3 h1;subst h1;rw [if_neg (show ¬ (0:Int)≠0 by decide)] at C1 ⊢;dsimp only at C1 ⊢;have N1:=q1P (V:=M);refine ac0 Tryz.func53 Tryz.ntmps53 [.cell 4 87,.tmp 5,.tmp 6] ?_;exact wk trivial
 ·rw [if_pos h1] at C1 ⊢;have q:(e != 0)=true:=by simpa using h1
  clear C3;refine ac0 Tryz.func53 Tryz.ntmps53 [.cell 4 87,.tmp 5,.tmp 6] ?_;refine wk1 q ?_
  rfl
def q60 {whole:Bool} (h:TOk F R C) (hR:R≤20) (hC:C≤20) (hr:r≤64) (hc:c≤64) (hn:v.length≤1000000) (hv:∀ x ∈ v,x < 18446744073709551616):ACt 118 [pT R C F,pPn r c v,bv whole] (pBn (bnA R C F r c v (if whole then grZ (nmL F R C) else q0i))):=by
 have C1:=qgv h hR hC hr hc hn hv;have C2:=q5T h hR hC;have hk:btC R C r c v=0→(v.length=r*c∧q0z v)∧R=C∧r=R∧c=C:=fun q=>by
  obtain ⟨q1,q2,q3,q4⟩:=qdH q;exact ⟨qfz q4 hv,q1,q2,q3⟩
 unfold btA at C1;unfold bnA;have hT:=h;unfold pT q0b pPn at *
 by_cases h1:btC R C r c v=0
 rotate_left
 ·generalize btC R C r c v=e at *;rw [if_pos h1] at C1 ⊢;have q:(e != 0)=true:=by simpa using h1
  refine ac0 Tryz.func118 Tryz.ntmps118 [.cell 6 87,.tmp 7,.tmp 8] ?_;refine wk1 q ?_
  rfl
 obtain ⟨⟨h5,h6⟩,rfl,rfl,rfl⟩:=hk h1;rw [h1,if_neg (show ¬ (0:Int)≠0 by decide)] at C1 ⊢;clear hk;have C5:=qgr (r:=c) (c:=c) hr hc h5 h6;have hm1:=mul_one (a:=grZ (pnL c c v)) (by have:=q3L (qbP (r:=c) (c:=c) h6 Oq); unfold q0V; omega);have hp:=qka (qkc (r:=c) (c:=c) h6) (qkh hT) (q3L (qbP h6 Oq)) (q3L (qkj hT));have C6:=q5e hp.1;have hB:=q3L (ql6 hT h6);have hB0:=qlF (l:=btL c v F);have hO:=q3Y;have hO0:0 < q0i:=by rw [q8i]; exact q0S _
 have hp1:prZ (grZ (pnL c c v)) q0i=grZ (pnL c c v):=by unfold prZ; rw [hm1]; rfl
 have C3:=q39 (l:=btL c v F) (by unfold btL; rw [q1Z]; omega);dsimp only at C1 ⊢;unfold pPn at C5;generalize grZ (btL c v F)=B at *;generalize btL c v F=l at *;have C4:=q2R (V:=q0i) (z:=1) Oq Oq q3X.1;have d1:q0V (q0i+B):=by have:=q7w (a:=q0i) (b:=B) (k:=67607) Oq hB; unfold q0V; omega
 have d2:q0V (q0i-B):=by have:=qcB (a:=q0i) (b:=B) (k:=67607) Oq hB; unfold q0V; omega
 have C7:=q5x (A:=q0i) (B:=B) d1;have C8:=qof (A:=q0i) (B:=B) d2;have C9:=q4A (V:=q0i-B);have C10:∀ A:Int,ACt 132 [pV A,pV (q0i+B),iv 1] (uv (fQ 1 A (q0i+B):Nat)):=fun A=>q5d Oq;have N1:=q1P (V:=q0i);have N2:=q1P (V:=B);have N5:=q1P (V:=q0i+B);have N6:=q1P (V:=q0i-B);have N7:=q1P (V:=grZ (pnL c c v));have N8:=q1P (V:=grZ (nmL F c c));have N9:=q1P (V:=prZ (grZ (pnL c c v)) (grZ (nmL F c c)));have key:∀ P:Int,(if whole then prZ (grZ (pnL c c v)) (grZ (nmL F c c)) else grZ (pnL c c v))=P→prZ (grZ (pnL c c v)) (if whole then grZ (nmL F c c) else q0i)=P:=fun P hP=>by
  cases whole
  ·exact hp1.trans hP
  ·exact hP
 rw [key _ rfl];clear key hp hp1 hm1;generalize prZ (grZ (pnL c c v)) (grZ (nmL F c c))=NM at *;generalize grZ (pnL c c v)=N at *;generalize grZ (nmL F c c)=M at *;generalize (tM F c c).1=st at *;generalize (tM F c c).2.1=ix at *;generalize (tM F c c).2.2=vl at *;unfold bnI
 by_cases h1:q0i≤B
 ·have q:(q0i-B).sign≤0:=by
   rcases Int.lt_or_eq_of_le h1 with h1 | h1
   ·rw [Int.sign_eq_neg_one_of_neg (by omega)]; omega
   ·rw [show q0i-B=0 by omega]; decide
  rw [if_pos h1];dsimp only;generalize (q0i-B).sign=s at *;cases whole
  ·refine ac0 Tryz.func118 Tryz.ntmps118 [.cell 6 87,.tmp 7,.tmp 8] ?_;refine wk ?_
   rfl
  ·refine ac0 Tryz.func118 Tryz.ntmps118 [.cell 6 87,.tmp 7,.tmp 8] ?_;refine wk ?_
   rfl
 ·rw [Int.sign_eq_one_of_pos (show 0 < q0i-B by omega)] at C9;rw [if_neg h1];have C11:∀ A:Int,ACt 132 [pV A,pV (q0i-B),iv 2] (uv (fQ 2 A (q0i-B):Nat)):=fun A=>q5d Oq;dsimp only;cases whole
  ·have C12:=C10 N;have C13:=C11 N;simp only [Bool.false_eq_true,if_false];clear C10 C11;generalize fQ 1 N (q0i+B)=x at *;generalize fQ 2 N (q0i-B)=y at *;refine ac0 Tryz.func118 Tryz.ntmps118 [.cell 6 87,.tmp 7,.tmp 8] ?_;exact wk trivial
  ·have C12:=C10 NM;have C13:=C11 NM;simp only [if_true];clear C10 C11;generalize fQ 1 NM (q0i+B)=x at *;generalize fQ 2 NM (q0i-B)=y at *;refine ac0 Tryz.func118 Tryz.ntmps118 [.cell 6 87,.tmp 7,.tmp 8] ?_;exact wk trivial
def qd5 (h:TOk F R C) (hR:R≤20) (hC:C≤20) (hr:r≤64) (hc:c≤64) (hn:v.length≤1000000) (hv:∀ x ∈ v,x < 18446744073709551616):ACt 58 [pT R C F,pPn r c v] (pBn (bnA R C F r c v q0i)):=by
 have C1:=q60 (whole:=false) h hR hC hr hc hn hv;simp only [Bool.false_eq_true,if_false] at C1;unfold pT q0b pPn at *;generalize bnA R C F r c v q0i=q at *;refine ac0 Tryz.func58 Tryz.ntmps58 [.cell 4 87,.tmp 5,.tmp 6] ?_;exact wk trivial
def qac (h:TOk F R C) (hR:R≤20) (hC:C≤20) (hr:r≤64) (hc:c≤64) (hn:v.length≤1000000) (hv:∀ x ∈ v,x < 18446744073709551616):ACt 59 [pT R C F,pPn r c v] (pBn (bnA R C F r c v (grZ (nmL F R C)))):=by
 have C1:=q60 (whole:=true) h hR hC hr hc hn hv;simp only [if_true] at C1;unfold pT q0b pPn at *;generalize bnA R C F r c v (grZ (nmL F R C))=q at *;refine ac0 Tryz.func59 Tryz.ntmps59 [.cell 4 87,.tmp 5,.tmp 6] ?_;exact wk trivial
end
def imE (f:Nat→Nat→Option Nat) (y:List Nat) (r j:Nat):Int:=q0l ((f j r).getD 0) (y.getD j 0)
def imZ (f:Nat→Nat→Option Nat) (y:List Nat) (C r:Nat):Int:=((sg (imE f y r) C).natAbs:Int)
def imL (f:Nat→Nat→Option Nat) (y:List Nat) (C R:Nat):List Int:=(List.range R).map (imZ f y C)
def lwV (f:Nat→Nat→Option Nat) (R C:Nat) (y:List Nat):Nat:=if grZ (y.map abZ)=0 then 0 else if grZ (imL f y C R)=0 then 9218868437227405312 else fQ 1 (grZ (y.map abZ)) (grZ (imL f y C R))
def qc5 {a:Int}:(a.sign == 0)=decide (a=0):=by
 by_cases h:a=0
 ·rw [h]; rfl
 ·rw [decide_eq_false h,beq_eq_false_iff_ne];exact fun q=>h (Int.sign_eq_zero_iff_zero.1 q)
section
variable {f:Nat→Nat→Option Nat} {y:List Nat} {R C J:Nat} {rows:Nat→List Int}
def LwI (f:Nat→Nat→Option Nat) (y:List Nat) (R J:Nat) (rows:Nat→List Int):Prop:=∀ r,r < R→q1B (rows r)=sg (imE f y r) J
def LwI.s (h:LwI f y R J rows):LwI f y R (J+1) (psG (fun v => -(q0l v (y.getD J 0))) (tZ f J R) rows):=fun r hr=>by
 rw [q45,h r hr,qbp (g:=fun v => -(q0l v (y.getD J 0))) (by rw [q5g]; rfl) R,if_pos hr,sg];unfold imE;omega
def qlC (h:TOk f R C) (hy:q0z y) {r j:Nat} (hr:r < R) (hj:j < C):bl (imE f y r j).natAbs≤67584:=qkm (h.finD hj hr) (q17 hy).2
def qsl (h:TOk f R C) (hy:q0z y) {r:Nat} (hr:r < R):bl (imZ f y C r).natAbs≤67595:=by
 unfold imZ;rw [Int.natAbs_natCast];exact q3i (K:=67584) C (by have:=h.c; omega) fun j hj=>qlC h hy hr hj
def qsm (h:TOk f R C) (hy:q0z y):∀ x ∈ imL f y C R,bl x.natAbs≤67595:=fun x hx=>by
 obtain ⟨r,hr,rfl⟩:=List.mem_map.1 hx;exact qsl h hy (List.mem_range.1 hr)
def qks:lwV f R C y < 18446744073709551616:=by
 unfold lwV
 split
 ·omega
 ·split
  ·omega
  ·rename_i h; exact qfb h
def q6o (h:TOk f R C) (hR:R≤20) (hC:C≤20) (hy:q0z y) (hyl:y.length=C):ACt 129 [pT R C f,pF y] (uv (lwV f R C y:Nat)):=by
 have hml:=q1N (f:=f) (R:=R) C;have hg:=fun j hj=>q3J (f:=f) (R:=R) (C:=C) (j:=j) hj;have hix:=fun j k hj h1 h2=>qc2 (f:=f) (R:=R) (C:=C) (j:=j) (k:=k) hj h1 h2;have hos:=fun j=>qkF (f:=f) (R:=R) (j:=j);obtain ⟨o,ho⟩:∃ o,o=tO f R:=⟨_,rfl⟩;have hRC:=h.m;have hT:=h;obtain ⟨res,hres⟩:∃ res,res=lwV f R C y:=⟨_,rfl⟩;rw [← hres];unfold lwV at hres;obtain ⟨im,him⟩:∃ im,im=imL f y C R:=⟨_,rfl⟩;have hil:im.length=R:=by rw [him]; exact q1Z
 have hig:∀ r,r < R→im[r]?=some (imZ f y C r):=fun r hr=>by rw [him]; exact q3V hr
 have hib:bl (grZ im).natAbs≤67595:=by rw [him]; exact q3L (qsm h hy)
 rw [← him] at hres;clear him;unfold pT;rw [← ho] at hg hix hos;generalize (tM f R C).1=st at *;generalize (tM f R C).2.1=ix at *;generalize (tM f R C).2.2=vl at *;obtain ⟨m1,m2,m3⟩:=hml;unfold q0b;refine ac0 Tryz.func129 Tryz.ntmps129 [.tmp 4] ?_;refine wk ?_;refine q0q (q4z (o:=18) (N:=5000) (R:=10000) (n:=R) (T1:=45) (T2:=40) (K:=some 4) (fun _ h=>h) ?_ (by omega) (by omega) (by omega) (by omega) (xs:=[(1,pF y),(2,.pt 2 0 0),(5,.ow 5000 none 0 R),(20,iv C),(21,iv 0)]) (kv:=[]) (kb:=[(2,some ⟨26,some 5,[.ag [iv R,iv C,pI st,pI ix,pF vl]],false⟩)]) (by simp [nmW]) ?_) ?_
 ·try simp -implicitDefEqProofs (disch:=omega) only [go_sem,Nat.reduceEqDiff,Nat.reduceAdd,↓reduceIte]
 ·try refine Zz ?_
  exact if_pos rfl
 rw [qao];refine q0N (fun q:Nat × (Nat→List Int)=>q.1≤C∧LwI f y R q.1 q.2∧RB q.2 (q.1*R)) [1,2,5,20] [2] Lk Lk (fun q=>[(21,iv q.1)]) (fun _=>[]) (fun q=>q2d R q.2) (fun q=>C-q.1) (0,fun _=>[]) ⟨Nat.zero_le _,fun r hr=>by rw [q12]; rfl,by rw [Nat.zero_mul]; exact qbG⟩ ?_ ?_
 ·refine LeW [] rfl rfl ?_ ?_ (by simp [q09,q05,win]) ?_
  ·exact Ow
  ·exact wfB (q0T Oq)
  ·try simp -implicitDefEqProofs (disch:=omega) only [go_sem,Nat.reduceEqDiff,Nat.reduceAdd,↓reduceIte];try rfl
 ·rintro ⟨J,rows⟩ ⟨hJ,hI,hB⟩;simp only at hJ hI hB ⊢;have hJR:J*R≤20*20:=Nat.mul_le_mul Oq hR
  by_cases hlt:J < C
  ·have hlt':(J:Int) < C:=by omega
   have g1:=hg J Oq;have g2:=hg (J+1) Oq;have oJ:=hos J;have ww:IntKind.i64.wrap ((J:Int)+1)=((J+1:Nat):Int):=by rw [i64_in (by omega) (by omega)]; omega
   have hZ:=fun k v=>q4g (f:=f) (j:=J) (i:=R) (k:=k) (x:=v);have hIs:=hI.s;obtain ⟨L,hL⟩:∃ L,L=tZ f J R:=⟨_,rfl⟩;have hLn:L.length≤R:=by rw [hL]; unfold tZ; exact Nat.le_trans (List.length_filterMap_le _ _) (by simp)
   have hixJ:=hix J;rw [← hL] at oJ hZ hixJ hIs;clear hL;obtain ⟨p,hp⟩:∃ p,y[J]?=some p:=⟨_,List.getElem?_eq_getElem Oq⟩;obtain ⟨p1,p2⟩:=hy p (List.mem_of_getElem? hp);rw [getD_some hp] at hIs;have hLv:∀ e ∈ L,(e.2 < 18446744073709551616∧q0M e.2)∧e.1 < R:=fun e he=>by
    obtain ⟨q1,q2⟩:=(hZ e.1 e.2).1 he;exact ⟨⟨h.u J e.1 e.2 hlt q1 q2,h.v J e.1 e.2 hlt q1 q2⟩,q1⟩
   have hBL:=fun t=>hB.pg (g:=fun v => -(q0l v p)) (L:=L.take t) fun e he=>by
    rw [Int.natAbs_neg];exact (q1C (hLv e (List.mem_of_mem_take he)).1.2 p2).2
   refine wk1 (x2 hlt' g1) ?_;refine q0N (fun t:Nat=>t≤L.length) [1,2,5,6,20,21] [2] Lk Lk (fun t=>[(7,iv ((o J+t:Nat):Int))]) (fun _=>[]) (fun t=>q2d R (psG (fun v => -(q0l v p)) (L.take t) rows)) (fun t=>L.length-t) 0 (Nat.zero_le _) ?_ ?_
   ·refine LeW [] rfl rfl ?_ ?_ (by simp [q09,q05,win]) ?_
    ·exact Ow
    ·exact wfB (q0T Oq)
    ·try simp -implicitDefEqProofs (disch:=omega) only [go_sem,Nat.reduceEqDiff,Nat.reduceAdd,↓reduceIte]
   ·intro t ht
    by_cases hlt2:t < L.length
    ·obtain ⟨⟨i,v⟩,e1,e2,e3⟩:=hixJ (o J+t) Oq Oq Oq;rw [Nat.add_sub_cancel_left] at e1;dsimp only at e2 e3;obtain ⟨⟨v1,v2⟩,hin⟩:=hLv (i,v) (List.mem_of_getElem? e1);dsimp only at v1 v2 hin;have hq:((o J+t:Nat):Int) < ((o (J+1):Nat):Int):=by omega
     have C1:=q3x v1 (q0Y v2);have C2:=q3x p1 (q0Y p2);have M:=q1C v2 p2;have C3:=q1f (q6w (q3K v2) (q3K p2) M.1) (q4j M.1).2.2.2;have N3:=q1P (V:=q0l v p);have N1:=qhm (q3K v2);have N2:=qhm (q3K p2);have hr1:(List.range R)[i]?=some i:=List.getElem?_range hin;have hob:=(List.getElem?_eq_some_iff.1 e2).1;have wt:IntKind.i64.wrap (((o J+t:Nat):Int)+1)=((o J+(t+1):Nat):Int):=by rw [i64_in (by omega) (by omega)]; omega
     have hps:psG (fun v => -(q0l v p)) (L.take (t+1)) rows=q2i (psG (fun v => -(q0l v p)) (L.take t) rows) i (q0l v p):=by
      rw [qhg e1];dsimp only;rw [Int.neg_neg]
     have hli:(psG (fun v => -(q0l v p)) (L.take t) rows i).length≤2000:=by have:=(hBL t).l i; rw [List.length_take] at this; omega
     generalize psG (fun v => -(q0l v p)) (L.take t) rows=rs at *;refine wk1 (x6 g1 g2 ww hq e2 (x4 e3 hr1 hp wt)) ?_;refine ⟨t+1,by omega,by omega,?_⟩;rw [hps];unfold q2d;rw [← q5u];refine q2w (r:=66) (k:=i) (row:=q7P rs) (fun _ h=>h) hin clV ?_ ?_ (fun i h1 h2 h3 h4=>?_) (fun _ _=>clV) BOk.h0 (.inl (by omega)) (by omega) (by omega) (by omega) (by simp [nmW]) ?_
     ·try simp -implicitDefEqProofs (disch:=omega) only [go_sem,Nat.reduceEqDiff,Nat.reduceAdd,↓reduceIte]
     ·try refine Zz ?_
      rw [List.map_append]
      rfl
     ·rw [q0A h2,q0A h4,q0A h3,q0A (by obtain ⟨w1,w2⟩:=h1; omega),q0U h1]
     ·try simp -implicitDefEqProofs (disch:=omega) only [go_sem,Nat.reduceEqDiff,Nat.reduceAdd,↓reduceIte]
    ·obtain rfl:t=L.length:=by omega
     have hq:¬ ((o J+L.length:Nat):Int) < ((o (J+1):Nat):Int):=by omega
     have hB2:=hBL L.length;rw [List.take_length] at hB2 ⊢;refine wk1 (x3 g2 ww hq) ?_;refine ⟨(J+1,psG (fun v => -(q0l v p)) L rows),⟨hlt,hIs,hB2.mono (by rw [Nat.succ_mul]; omega)⟩,by simp only; omega,?_⟩;simp only;refine LeW [] rfl rfl ?_ ?_ (by simp [q09,q05,win]) ?_
     ·exact Ow
     ·exact wfB (q0T Oq)
     ·try simp -implicitDefEqProofs (disch:=omega) only [go_sem,Nat.reduceEqDiff,Nat.reduceAdd,↓reduceIte]
  ·obtain rfl:J=C:=by omega
   have hlt':¬ (J:Int) < J:=by omega
   have hrl:=hB.l;have hbb:=hB.b;have hdy:=fun r=>q52 (hbb r) (by have:=hrl r; omega);clear hg hix;refine wk1 hlt' ?_;refine q0N (fun r=>r≤R) [1,9,69,70] [] Lk Lk (fun r:Nat=>[(71,iv r),(8,.ow 1001 (some 4) 0 r)]) (fun r=>[(1001,⟨40,some 4,(im.take r).map fun V=>pV V,false⟩)]) (fun _=>q2d R rows) (fun r=>R-r) 0 (Nat.zero_le _) ?_ ?_
   ·refine LeW [(1001,none)] rfl rfl ?_ ?_ (by simp [q09,q05,win]) ?_
    ·exact Ow
    ·exact wfB (q0T Oq)
    ·try refine Zz ?_
     first | done | trivial | rfl | exact ⟨rfl,rfl⟩
   ·intro r hr;have ll:(im.take r).length=r:=by rw [List.length_take]; omega
    by_cases hlt2:r < R
    ·have q2:(r:Int) < R:=by omega
     have hr1:(List.range R)[r]?=some r:=List.getElem?_range hlt2;have hd:=hdy r;have C2:=q1f (q4V (l:=rows r) (by have:=hrl r; omega) (fun z hz=>by have:=hbb r z hz; unfold q0V; omega) hd) hd;have C3:=q1f (qjd qgA fun ho=>qdc (A:=q1B (rows r)) ho) (qlK hd);have ez:((q1B (rows r)).natAbs:Int)=imZ f y J r:=by unfold imZ; rw [hI r hlt2]
     rw [ez] at C3;have N1:=q1P (V:=q1B (rows r));have N2:=q1P (V:=imZ f y J r);have es:=q1E (hig r hlt2);have hli:=hrl r;generalize q1B (rows r)=sz at *;refine wk1 (x3 q2 hr1 ll) ?_;refine ⟨r+1,by omega,by omega,?_⟩;rw [es];refine LeW [(1001,some 80)] rfl rfl ?_ ?_ (by simp [q09,q05,win]) ?_
     ·exact Ow
     ·exact wfB (q0T Oq)
     ·try refine Zz ?_
      exact ⟨by omega,q0G (by rw [List.map_append]; rfl) clV⟩
    ·obtain rfl:r=R:=by omega
     have q2:¬ (r:Int) < r:=by omega
     rw [List.take_of_length_le (by omega)] at *;refine wk1 q2 ?_;refine q0N (fun i=>i≤y.length) [8,82,83] [1001] Lk Lk (fun i:Nat=>[(84,iv i),(9,.ow 1002 (some 4) 0 i)]) (fun i=>[(1002,⟨40,some 4,((y.take i).map abZ).map fun V=>pV V,false⟩)]) (fun _=>q2d r rows) (fun i=>y.length-i) 0 (Nat.zero_le _) ?_ ?_
     ·refine LeW [(1002,none)] rfl rfl ?_ ?_ (by simp [q09,q05,win]) ?_
      ·exact Ow
      ·exact wfB (q0T Oq)
      ·try refine Zz ?_
       exact ⟨rfl,q0G rfl clV⟩
     ·intro i hi;have l2:((y.take i).map abZ).length=i:=by rw [List.length_map,List.length_take]; omega
      by_cases hlt3:i < y.length
      ·have q3:(i:Int) < y.length:=by omega
       obtain ⟨x,hx⟩:∃ x,y[i]?=some x:=⟨_,List.getElem?_eq_getElem hlt3⟩;obtain ⟨x1,xf⟩:=hy x (List.mem_of_getElem? hx);have C2:=qaK x1 xf;have C3:=q1f (q5t x1 xf) (qcK xf);have N2:=q1P (V:=abZ x);have es:(y.take (i+1)).map abZ=(y.take i).map abZ ++ [abZ x]:=by rw [q1E hx,List.map_append]; rfl
       generalize (y.take i).map abZ=W at *;refine wk1 (x3 q3 hx l2) ?_;refine ⟨i+1,by omega,by omega,?_⟩;rw [es];refine LeW [(1002,some 93)] rfl rfl ?_ ?_ (by simp [q09,q05,win]) ?_
       ·exact Ow
       ·exact wfB (q0T Oq)
       ·try refine Zz ?_
        exact ⟨by omega,q0G (by rw [List.map_append]; rfl) clV,q0G rfl clV⟩
      ·obtain rfl:i=y.length:=by omega
       have q3:¬ (y.length:Int) < y.length:=by omega
       rw [List.take_length] at l2 ⊢;have hob:bl (grZ (y.map abZ)).natAbs≤66560:=q3L fun z hz=>by
        obtain ⟨x,hx,rfl⟩:=List.mem_map.1 hz;exact q6K (hy x hx).2
       have C1:=q4C (l:=y.map abZ) Oq;have C2:=q4C (l:=im) Oq;generalize y.map abZ=W at *;generalize grZ W=P at *;generalize grZ im=Q at *;have N1:=q1P (V:=P);have N2:=q1P (V:=Q);have C3:=qjd qgB fun ho=>q2Z (V:=P) ho;have C4:=qjd qgB fun ho=>q2Z (V:=Q) ho
       by_cases h1:P=0
       ·rw [if_pos h1] at hres;subst hres;refine wk1 (x3 q3 @qc5 (decide_eq_true h1)) ?_
        rfl
       rw [if_neg h1] at hres
       by_cases h2:Q=0
       ·rw [if_pos h2] at hres;subst hres;refine wk1 (x4 q3 @qc5 (decide_eq_false h1) (decide_eq_true h2)) ?_
        rfl
       rw [if_neg h2] at hres;subst hres;have C5:=qpp (x:=iv 1) qbw fun ho=>q7d (mode:=1) (a:=P) (b:=Q) Oq ho.1 ho.2 h2;exact wk1 (x4 q3 @qc5 (decide_eq_false h1) (decide_eq_false h2)) trivial
end
open Classical in
noncomputable def lwA (R C:Nat) (f:Nat→Nat→Option Nat) (y:List Nat):Nat × Int:=if R≠C then (0,5) else if y.length≠C then (0,2) else if ∀ x ∈ y,q0M x then (lwV f R C y,0) else (0,4)
section
variable {f:Nat→Nat→Option Nat} {y:List Nat} {R C:Nat}
def qjQ {x:Nat} (hx:x < 18446744073709551616):ACt 127 [uv x] (bv (!decide (q0M x))):=by
 have C1:=q33 hx;refine ac0 Tryz.func127 Tryz.ntmps127 [.tmp 2] ?_;exact wk trivial
open Classical in
def q6D (h:TOk f R C) (hR:R≤20) (hC:C≤20) (hy:∀ x ∈ y,x < 18446744073709551616) (hl:y.length≤1000000):ACt 65 [pT R C f,pF y] (.tu [uv (lwA R C f y).1,iv (lwA R C f y).2]):=by
 have C1:=q5A h;have C2:=q1u (f:=127) (fun x hx=>qjQ hx) hy hl;have C3:=fun (h1:q0z y) (h2:y.length=C)=>q6o h hR hC h1 h2;unfold lwA;unfold pT q0b at *;generalize (tM f R C).1=st at *;generalize (tM f R C).2.1=ix at *;generalize (tM f R C).2.2=vl at *
 by_cases h1:R=C
 rotate_left
 ·rw [if_pos h1];have q1:((R:Int) != (C:Int))=true:=by simp; omega
  refine ac0 Tryz.func65 Tryz.ntmps65 [.tmp 4,.tmp 5] ?_;refine wk1 q1 ?_
  rfl
 have q1:((R:Int) != (C:Int))=false:=by simp; omega
 rw [if_neg (not_not_intro h1)]
 by_cases h2:y.length=C
 rotate_left
 ·rw [if_pos h2];have q2:((y.length:Int) != (C:Int))=true:=by simp; omega
  refine ac0 Tryz.func65 Tryz.ntmps65 [.tmp 4,.tmp 5] ?_;refine wk1 (x2 q1 q2) ?_
  rfl
 have q2:((y.length:Int) != (C:Int))=false:=by simp; omega
 rw [if_neg (not_not_intro h2)]
 by_cases h3:∀ x ∈ y,q0M x
 ·rw [if_pos h3];rw [decide_eq_true h3] at C2;have C4:=C3 (fun x hx=>⟨hy x hx,h3 x hx⟩) h2;clear C3;dsimp only;generalize lwV f R C y=z at *;refine ac0 Tryz.func65 Tryz.ntmps65 [.tmp 4,.tmp 5] ?_;exact wk1 (x2 q1 q2) trivial
 ·rw [if_neg h3];rw [decide_eq_false h3] at C2;clear C3;refine ac0 Tryz.func65 Tryz.ntmps65 [.tmp 4,.tmp 5] ?_;refine wk1 (x2 q1 q2) ?_
  rfl
def imT (f:Nat→Nat→Option Nat) (y:List Nat) (r j:Nat):List Int:=(List.range j).map (imE f y r)
open Classical in
def q4U (h:TOk f R C) (hR:R≤20) (hC:C≤20) (hy:∀ x ∈ y,x < 18446744073709551616) (hl:y.length≤1000000):ACt 66 [pT R C f,pF y] (.tu [uv (lwA R C f y).1,iv (lwA R C f y).2]):=by
 have C1:=q7I h;have C2:=q6Z hy hl;have cA:∀ {i j:Nat},i < R→j < C→_:=fun {i j} hi hj=>q86 (i:=i) (j:=j) h hi hj;have hfi:∀ {i j:Nat},i < R→j < C→_:=fun {i j} hi hj=>h.fin (j:=j) (i:=i) hj hi;have hT:=h;obtain ⟨res,hres⟩:∃ res,res=lwA R C f y:=⟨_,rfl⟩;rw [← hres];unfold lwA at hres;unfold pT q0b at *;generalize (tM f R C).1=st at *;generalize (tM f R C).2.1=ix at *;generalize (tM f R C).2.2=vl at *
 by_cases h1:R=C
 rotate_left
 ·rw [if_pos h1] at hres;subst hres;have q1:((R:Int) != (C:Int))=true:=by simp; omega
  refine ac0 Tryz.func66 Tryz.ntmps66 [.tmp 4,.tmp 5] ?_;refine wk1 q1 ?_
  rfl
 have q1:((R:Int) != (C:Int))=false:=by simp; omega
 rw [if_neg (not_not_intro h1)] at hres
 by_cases h2:y.length=C
 rotate_left
 ·rw [if_pos h2] at hres;subst hres;have q2:((y.length:Int) != (R:Int))=true:=by simp; omega
  refine ac0 Tryz.func66 Tryz.ntmps66 [.tmp 4,.tmp 5] ?_;refine wk1 (x2 q1 q2) ?_
  rfl
 have q2:((y.length:Int) != (R:Int))=false:=by simp; omega
 rw [if_neg (not_not_intro h2)] at hres
 by_cases h3:∀ x ∈ y,q0M x
 rotate_left
 ·rw [if_neg h3] at hres;rw [decide_eq_false h3] at C2;subst hres;refine ac0 Tryz.func66 Tryz.ntmps66 [.tmp 4,.tmp 5] ?_;refine wk1 (x2 q1 q2) ?_
  rfl
 rw [if_pos h3] at hres;rw [decide_eq_true h3] at C2;have hyf:q0z y:=fun x hx=>⟨hy x hx,h3 x hx⟩;unfold lwV at hres;obtain ⟨im,him⟩:∃ im,im=imL f y C R:=⟨_,rfl⟩;have hil:im.length=R:=by rw [him]; exact q1Z
 have hig:∀ r,r < R→im[r]?=some (imZ f y C r):=fun r hr=>by rw [him]; exact q3V hr
 rw [← him] at hres;clear him;subst h1;have hen:∀ r j,j≤R→(imT f y r j).length=j:=fun r j _=>q1Z;have hes:∀ r j,imT f y r (j+1)=imT f y r j ++ [imE f y r j]:=fun r j=>qru;have hesum:∀ r,q1B (imT f y r R)=sg (imE f y r) R:=fun r=>q56 R;have hed:∀ r,r < R→q0V (sg (imE f y r) R):=fun r hr=>by
  have:=q3i (g:=imE f y r) (K:=67584) R Oq fun j hj=>qlC hT hyf hr hj;unfold q0V; omega
 have heD:=fun r j=>show imE f y r j=q0l ((f j r).getD 0) (y.getD j 0) from rfl;have hiz:=fun r=>show imZ f y R r=((sg (imE f y r) R).natAbs:Int) from rfl;have he0:=fun r=>show imT f y r 0=[] from rfl;generalize imT f y=T at *;refine ac0 Tryz.func66 Tryz.ntmps66 [.tmp 4,.tmp 5] ?_;refine wk1 (x2 q1 q2) ?_;refine q0B (fun i=>i≤R) [1,2] [2] Lk Lk (fun i:Nat=>[(9,iv i),(7,.ow 1001 (some 4) 0 i),(8,.ow 1002 (some 4) 0 i)]) (fun i=>[(1001,⟨40,some 4,((y.take i).map abZ).map fun V=>pV V,false⟩),(1002,⟨40,some 4,(im.take i).map fun V=>pV V,false⟩)]) (fun i=>R-i) 0 (Nat.zero_le _) ?_ ?_
 ·refine LeM [(1001,none),(1002,none)] rfl rfl ?_;refine Zz ?_
  first | done | trivial | rfl | exact ⟨rfl,rfl⟩ | exact ⟨rfl,rfl,rfl⟩
 ·intro i hi;have l1:((y.take i).map abZ).length=i:=by rw [List.length_map,List.length_take]; omega
  have l2:(im.take i).length=i:=by rw [List.length_take]; omega
  by_cases hlt:i < R
  ·have q3:(i:Int) < R:=by omega
   obtain ⟨x,hx⟩:∃ x,y[i]?=some x:=⟨_,List.getElem?_eq_getElem Oq⟩;obtain ⟨xu,xf⟩:=hyf x (List.mem_of_getElem? hx);refine wk1 (x2 q3 h2) ?_;refine q0B (fun j=>j≤R) [1,2,7,8,9] [2,1001,1002] Lk Lk (fun j:Nat=>[(11,iv j),(10,.ow 1003 (some 4) 0 j)]) (fun j=>[(1003,⟨40,some 4,(T i j).map fun V=>pV V,false⟩)]) (fun j=>R-j) 0 (Nat.zero_le _) ?_ ?_
   ·refine LeM [(1003,none)] rfl rfl ?_;refine Zz ?_;rw [he0]
    first | exact ⟨rfl,rfl,q0G rfl clV,q0G rfl clV⟩
   ·intro j hj;have l3:=hen i j hj
    by_cases hlt2:j < R
    ·have q4:(j:Int) < R:=by omega
     obtain ⟨p,hp⟩:∃ p,y[j]?=some p:=⟨_,List.getElem?_eq_getElem Oq⟩;obtain ⟨pu,pf⟩:=hyf p (List.mem_of_getElem? hp);have C3:=cA hlt hlt2;obtain ⟨vf,vu⟩:=hfi hlt hlt2;have es:=hes i j;rw [heD,getD_some hp] at es;generalize (f j i).getD 0=v at *;have C4:=q3Q vu pu (q0Y vf) (q0Y pf) (q1C vf pf).1;have N1:=q1P (V:=q0l v p);refine wk1 (x4 q4 h2 hp l3) ?_;refine ⟨j+1,by omega,by omega,?_⟩;rw [es];refine LeM [(1003,some 56)] rfl rfl ?_;refine Zz ?_
     first | exact ⟨⟨by omega,by omega⟩,q0G (by rw [List.map_append]; rfl) clV,q0G rfl clV,q0G rfl clV⟩ | exact ⟨by omega,q0G (by rw [List.map_append]; rfl) clV,q0G rfl clV,q0G rfl clV⟩
    ·obtain rfl:j=R:=by omega
     have q4:¬ (j:Int) < j:=by omega
     have C3:=q1b xu (q0Y xf);have C4:ACt 39 [pV (ofZ x)] (pV (abZ x)):=q2q;have C5:=q5w (l:=T i j) (by omega) (by rw [hesum]; exact hed i hlt);rw [hesum] at C5;have C6:ACt 39 [pV (sg (imE f y i) j)] (pV (imZ f y j i)):=q2q;have N1:=q1P (V:=abZ x);have N2:=q1P (V:=imZ f y j i);have N3:=q1P (V:=ofZ x);have N4:=q1P (V:=sg (imE f y i) j);have e1:(y.take (i+1)).map abZ=(y.take i).map abZ ++ [abZ x]:=by rw [q1E hx,List.map_append]; rfl
     have e2:=q1E (hig i hlt);generalize imZ f y j i=Z at *;generalize sg (imE f y i) j=S at *;generalize (y.take i).map abZ=W1 at *;generalize im.take i=W2 at *;refine wk1 (x6 q4 h2 hx l1 l2 l3) ?_;refine ⟨i+1,by omega,by omega,?_⟩;rw [e1,e2];refine LeM [(1001,some 65),(1002,some 71)] rfl rfl ?_;refine Zz ?_
     first | exact ⟨⟨by omega,by omega⟩,q0G (by rw [List.map_append]; rfl) clV,q0G (by rw [List.map_append]; rfl) clV⟩ | exact ⟨by omega,q0G (by rw [List.map_append]; rfl) clV,q0G (by rw [List.map_append]; rfl) clV⟩
  ·obtain rfl:i=R:=by omega
   have q3:¬ (i:Int) < i:=by omega
   have e1:y.take i=y:=List.take_of_length_le Oq;rw [e1] at l1 ⊢;rw [List.take_of_length_le (by omega)];have C3:=q39 (l:=y.map abZ) Oq;have C4:=q39 (l:=im) Oq;generalize y.map abZ=W at *;generalize grZ W=P at *;generalize grZ im=Q at *;have N1:=q1P (V:=P);have N2:=q1P (V:=Q);have C5:=q4A (V:=P);have C6:=q4A (V:=Q)
   by_cases h4:P=0
   ·rw [if_pos h4] at hres;subst hres;refine wk1 (x4 q3 h2 @qc5 (decide_eq_true h4)) ?_
    first | done | trivial | rfl | exact ⟨rfl,rfl⟩
   rw [if_neg h4] at hres
   by_cases h5:Q=0
   ·rw [if_pos h5] at hres;subst hres;refine wk1 (x5 q3 h2 @qc5 (decide_eq_false h4) (decide_eq_true h5)) ?_
    first | done | trivial | rfl | exact ⟨rfl,rfl⟩
   rw [if_neg h5] at hres;subst hres;have C7:ACt 132 [pV P,pV Q,iv 1] (uv (fQ 1 P Q:Nat)):=q5d h5;dsimp only;generalize fQ 1 P Q=z at *;exact wk1 (x5 q3 h2 @qc5 (decide_eq_false h4) (decide_eq_false h5)) trivial
end
section
variable {f:Nat→Nat→Option Nat} {x:List (Nat × Nat)} {b:List Nat} {R C r:Nat}
end
end Go.Proofs.YtfmojhhokfkdaaaGreatDoor
namespace Go.E
open Go Go.RowKit
def LeE {J:Nat→Prop} {h:Hp} {a n:Nat} {T:TypeId} {xs:List PV} {e:Value} (hJ:∀ i,¬ J i) (hb:h a=some ⟨T,none,xs,false⟩) (hc:ClL xs):Le J (fun _=>.tu [.ow a none 0 n,.vl e]) h (fun _=>.tu [.ow 5000 none 0 n,.vl e]) (q0Q h0 5000 ⟨T,none,xs,false⟩):=by
 refine q4N (fun i=>if i=5000 then some a else none) (fun i b' hb'=>?_) (fun i j k b c hi hj ti tj=>?_) (fun _=>.tu rfl fun i x y hx hy=>?_) fun i hi=>(hJ i hi).elim
 ·by_cases hi:i=5000
  ·subst hi;rw [q0H] at hb'; cases hb';unfold LeB;exact ⟨_,hb,rfl,rfl,⟨rfl,rfl⟩,q0G rfl hc⟩
  ·rw [q0A hi] at hb'; cases hb'
 ·split at ti
  ·split at tj
   ·rename_i e1 e2; rw [e1,e2]
   ·cases tj
  ·cases ti
 ·rcases i with _ | _ | i
  ·cases hx; cases hy; exact .ow (if_pos rfl) q0H
  ·cases hx; cases hy; exact .cl trivial
  ·simp at hx
def LeEn {J:Nat→Prop} {h:Hp} {T:TypeId} {e:Value} (hJ:∀ i,¬ J i):Le J (fun _=>.tu [.vl (.slice none 0 0),.vl e]) h (fun _=>.tu [.ow 5000 none 0 0,.vl e]) (q0Q h0 5000 ⟨T,none,[],false⟩):=by
 refine q4N (fun _=>none) (fun i b' hb'=>?_) (fun i j k b c hi hj ti tj=>by cases ti) (fun _=>.tu rfl fun i x y hx hy=>?_) fun i hi=>(hJ i hi).elim
 ·by_cases hi:i=5000
  ·subst hi;rw [q0H] at hb'; cases hb'
   rfl
  ·rw [q0A hi] at hb'; cases hb'
 ·rcases i with _ | _ | i
  ·cases hx; cases hy; exact .nilow rfl q0H rfl
  ·cases hx; cases hy; exact .cl trivial
  ·simp at hx
end Go.E
namespace Go.Proofs.YtfmojhhokfkdaaaGreatDoor
open Go Go.E Go.Sp
def cLo (f:LUt) (i c:Nat):Nat:=ctV (q7o f.ls f.li f.lv c) i
def cUp (f:LUt) (i c:Nat):Nat:=ctV (q7o f.us f.ui f.uv c) i
open Classical in
noncomputable def lgE (f:LUt) (l:List Nat):List Nat × Int :=
 if qaw (q4T f) f.rows.length l≠0 then ([],qaw (q4T f) f.rows.length l) else
  match geL (cLo f) f.rows.length 0 (gaS l f.rows f.rows.length) with
  | none=>([],233)
  | some y=>match geU (cUp f) f.rows.length f.rows.length y with
   | none=>([],233)
   | some z=>(scS z f.cols f.rows.length f.rows.length,0)
def q9Y (n:Nat) (g:Nat→Nat→Nat) (k:Nat):List Nat:=(List.range n).map (g k)
def qsI {n:Nat} {g:Nat→Nat→Nat} {k:Nat}:rU n g k=(q9Y n g k).map fun z:Nat=>uv z:=by
 unfold rU q9Y;rw [List.map_map]
 rfl
def q5E {n:Nat} {g:Nat→Nat→Nat} {k c:Nat} (hc:c < n):(q9Y n g k)[c]?=some (g k c):=by
 unfold q9Y;rw [List.getElem?_map,List.getElem?_range hc]; rfl
def q7Q {n:Nat} {g:Nat→Nat→Nat} {k:Nat}:(q9Y n g k).length=n:=by unfold q9Y; simp
def rst_L {g:Nat→Nat→Nat} {D:Nat→Nat→Nat} {n k:Nat} {ys:List Nat} (hk:k < n) (hy:ys.length=n) (h:∀ c,c < k→g k c=D k c):q1B (q8e (ofZ (ys.getD k 0)) ((q9Y n g k).take k) (ys.take k) k)=loZ D ys k:=by
 rw [qeO];unfold loZ
 congr 1
 refine q3h k fun i hi=>?_;have h1:((q9Y n g k).take k)[i]?=some (g k i):=by rw [List.getElem?_take,if_pos hi]; exact q5E (by omega)
 obtain ⟨y,hy2⟩:∃ y,ys[i]?=some y:=⟨_,List.getElem?_eq_getElem Oq⟩;have h2:(ys.take k)[i]?=some y:=by rw [List.getElem?_take,if_pos hi]; exact hy2
 rw [getD_some h1,getD_some h2,getD_some hy2,h i hi]
def rst_U {g:Nat→Nat→Nat} {D:Nat→Nat→Nat} {n k:Nat} {ys:List Nat} (hk:k < n) (hy:ys.length=n) (h:∀ c,c < n→g k c=D k c):q1B (q8e (ofZ (ys.getD k 0)) ((q9Y n g k).drop (k+1)) (ys.drop (k+1)) (n-(k+1)))=upZ D ys n k:=by
 rw [qeO];unfold upZ
 congr 1
 refine q3h (n-(k+1)) fun i hi=>?_;have h1:((q9Y n g k).drop (k+1))[i]?=some (g k (k+1+i)):=by rw [List.getElem?_drop]; exact q5E (by omega)
 obtain ⟨y,hy2⟩:∃ y,ys[k+1+i]?=some y:=⟨_,List.getElem?_eq_getElem Oq⟩;have h2:(ys.drop (k+1))[i]?=some y:=by rw [List.getElem?_drop]; exact hy2
 rw [getD_some h1,getD_some h2,getD_some hy2,h _ (by omega)]
def qd6 {l:List Nat} {o:List Int} {n:Nat} (hl:l.length=n) (ho:o.length=n) (hn:n≤1000000) (hb:∀ x ∈ o,0≤x∧x < n):qdZ 224 [pF l,pI o] h0 (.ow 5000 none 0 n) (q0Q h0 5000 ⟨43,none,(gaS l o n).map fun z:Nat=>uv z,false⟩):=by
 have hJ:∀ i,¬ (h0 i≠none):=fun i h=>h rfl;unfold gaS;have hgl:∀ m,(rwG n (fun k=>l.getD (o.getD k 0).toNat 0) m).length=n:=fun _=>q43;generalize hg:(fun k=>l.getD (o.getD k 0).toNat 0)=g at *;refine qg2 qlT Tryz.func224 rfl Tryz.ntmps224 (by kernel_rfl) ?_ ?_ ?_ ?_
 ·intro i b hb; cases hb
 ·exact qcg
 ·exact IdL.of fun x hx=>by
   simp at hx
   rcases hx with rfl | rfl <;> unfold IdP <;> trivial
 have hW:WfH h0:=⟨fun i b hb=>by cases hb⟩;refine wk1 ho ?_;refine q0N (fun k=>k≤n) [0,1] [] Lk Lk (fun k:Nat=>[(6,iv k),(5,.ow 1001 none 0 n)]) (fun k=>[(1001,⟨43,none,(rwG n g k).map fun z:Nat=>uv z,false⟩)]) (fun _=>h0) (fun k=>n-k) 0 (Nat.zero_le _) ?_ ?_
 ·rw [← qeL];refine LeW [(1001,some 9)] rfl rfl ?_ ?_ (by simp [q09,q05,win]) ?_
  ·exact Ow
  ·exact hW
  ·try refine Zz ?_
   simp
 ·intro k hk
  by_cases hlt:k < n
  ·obtain ⟨x,hx⟩:∃ x,o[k]?=some x:=⟨_,List.getElem?_eq_getElem Oq⟩;obtain ⟨h1,h2⟩:=hb x (List.mem_of_getElem? hx);obtain ⟨x,rfl⟩:∃ y:Nat,x=y:=⟨x.toNat,by omega⟩;obtain ⟨u,hu⟩:∃ u,l[x]?=some u:=⟨_,List.getElem?_eq_getElem Oq⟩;have hs:=qhZ (n:=n) (g:=g) (m:=k);have hgk:g k=u:=by rw [← hg]; simp only [getD_some hx,Int.toNat_natCast,getD_some hu]
   rw [hgk] at hs;refine wk1 (x4 ho hx hu (hgl k)) ?_;refine ⟨k+1,by omega,by omega,?_⟩;refine LeW [] rfl rfl ?_ ?_ (by simp [q09,q05,win]) ?_
   ·exact Ow
   ·exact hW
   ·try refine Zz ?_
    rw [← hs];exact ⟨by omega,rfl⟩
  ·obtain rfl:k=n:=by omega
   have hgk:=hgl k;refine wk1 ho ?_;refine (rtM (rs:=[.tmp 4]) rfl rfl Lq ?_ (.inl rfl));refine LeO hJ ?_ clU
   try simp -implicitDefEqProofs (disch:=omega) only [go_sem,Nat.reduceEqDiff,Nat.reduceAdd,↓reduceIte]
def qsa {f:LUt} {l:List Nat}:IdL win [pLU f,pF l]:=IdL.of fun x hx=>by
 simp at hx
 rcases hx with rfl | rfl
 ·unfold pLU IdP;unfold IdL IdL IdL IdL IdL IdL IdL IdL IdL;unfold IdP;exact ⟨trivial,trivial,trivial,trivial,trivial,trivial,trivial,trivial,trivial⟩
 ·unfold IdP; trivial
def qlx {f:LUt} {l:List Nat} (hb:LUb f) (hn:f.rows.length≤100) (hul:∀ x ∈ l,x < 18446744073709551616) (hl:l.length≤1000000) :
  qdZ 136 [pLU f,pF l] h0 (.tu [.ow 5000 none 0 (lgE f l).1.length,iv (lgE f l).2]) (q0Q h0 5000 ⟨43,none,(lgE f l).1.map fun z:Nat=>uv z,false⟩):=by
 have hJ:∀ i,¬ (h0 i≠none):=fun i h=>h rfl;have cK:=q93 hb;have cS:=qgq (e:=q4T f) (n:=f.rows.length) hul hl;refine qg2 ql0 Tryz.func136 rfl Tryz.ntmps136 (by kernel_rfl) ?_ ?_ ?_ ?_
 ·intro i b hb; cases hb
 ·exact qcg
 ·exact qsa
 unfold lgE
 by_cases hz0:qaw (q4T f) f.rows.length l=0
 case neg =>
  rw [if_pos hz0];generalize qaw (q4T f) f.rows.length l=e at *;generalize q4T f=e2 at *;have q:(e != 0)=true:=by simpa using hz0
  unfold pLU at *;dsimp only at *;refine wk1 q ?_;refine (rtM (rs:=[.tmp 4,.tmp 5]) rfl rfl Lq ?_ (.inl rfl));exact LeEn hJ
 rw [if_neg (not_not_intro hz0)];rw [hz0] at cS;obtain ⟨h1,h2,h3⟩:=qmj hz0;rw [h1] at cK cS;have hf:=qa8 hb h1;have hfl:q0z l:=fun x hx=>⟨hul x hx,h3 x hx⟩;have hrb:∀ x ∈ f.rows,0≤x∧x < f.rows.length:=fun x hx=>hf.rp.2.1 x hx;have hcb:∀ x ∈ f.cols,0≤x∧x < f.rows.length:=fun x hx=>hf.cp.2.1 x hx;have hcl:f.cols.length=f.rows.length:=by have:=hf.cp.1; omega
 have cG:=qd6 (l:=l) (o:=f.rows) (n:=f.rows.length) h2 rfl Oq hrb;have hgl:=qaF (l:=l) (o:=f.rows) (n:=f.rows.length);have hgf:=qaG (o:=f.rows) (n:=f.rows.length) hfl;generalize gaS l f.rows f.rows.length=g at *;have cD:=qjJ (f:=f) rfl hn hf.L hf.U;have vL:∀ {i j:Nat},i < f.rows.length→j < i→dnT (dnD f.rows.length) (q7o f.ls f.li f.lv) f.rows.length i j=cLo f i j:=fun hi hj=>dnL_v hf.L.nd Oq hj;have vU:∀ {i j:Nat},j < f.rows.length→dnT (fun _ _=>0) (q7o f.us f.ui f.uv) f.rows.length i j=cUp f i j:=fun hj=>dnU_v hf.U.nd hj;have fL:∀ {i j:Nat},j < f.rows.length→cLo f i j < 18446744073709551616∧q0M (cLo f i j):=fun hj=>qfp hf.L hj;have fU:∀ {i j:Nat},j < f.rows.length→cUp f i j < 18446744073709551616∧q0M (cUp f i j):=fun hj=>qfp hf.U hj;have dU:∀ k,k < f.rows.length→ofZ (cUp f k k)≠0:=fun k hk=>by
  obtain ⟨m,x,m1,m2,m3⟩:=hf.dg k hk;have:=qaR (t:=m.length) (e:=(k,x)) (hf.U.nd k hk) (by rw [m1]; simp);unfold cUp;rw [this];exact m2
 obtain ⟨gl,hgl2⟩:∃ q,q=dnT (dnD f.rows.length) (q7o f.ls f.li f.lv) f.rows.length:=⟨_,rfl⟩;obtain ⟨gu,hgu2⟩:∃ q,q=dnT (fun _ _=>0) (q7o f.us f.ui f.uv) f.rows.length:=⟨_,rfl⟩;rw [← hgl2,← hgu2] at cD;simp only [← hgl2] at vL;simp only [← hgu2] at vU;clear hgl2 hgu2 hf;generalize cLo f=DL at *;generalize cUp f=DU at *;generalize hnn:f.rows.length=n at *;unfold pLU at *;obtain ⟨F,hF⟩:∃ F:List Nat→List Nat × Int,F=fun y=>(match geU DU n n y with
   | none=>([],233)
   | some z=>(scS z f.cols n n,(0:Int))):=⟨_,rfl⟩
 obtain ⟨res,hres⟩:∃ q,q=(match geL DL n 0 g with
  | none=>([],233)
  | some y=>F y):=⟨_,rfl⟩
 have hres':=hres;rw [hF] at hres';rw [← hres'];clear hres';refine wk1 hnn ?_;refine qjp fun K hK=>?_;refine Zz1 hnn ?_;refine jm cG ?_ (fun i hi=>(hi trivial).elim) ?_
 ·change Wn _ _;exact Ow
 try refine Zz ?_
 refine hK _ _ ?_; clear hK K;clear cG;have hW:WfH h0:=⟨fun i b hb=>by cases hb⟩;refine wk ?_;refine q0q (LeT (hw:=h0) (fun i=>if i=1001 then some 5000 else if i=5000 then none else some i) (fun i hi=>(hJ i hi).elim) (fun i hi hw=>?_) (fun i b hw hb=>?_) (fun i j x hi hj ti tj=>?_) (xs:=[(2,.pt 2 0 0),(6,iv n),(8,tU n gl),(9,tU n gu),(10,.ow 1001 none 0 n),(11,iv 0)]) (kv:=[]) (bs:=[(2,⟨28,some 8,[.ag [pI f.rows,pI f.cols,pI f.ls,pI f.li,pF f.lv,pI f.us,pI f.ui,pF f.uv]],false⟩),(1001,⟨43,none,g.map fun z:Nat=>uv z,false⟩)]) (kb:=[]) ?_) ?_
 ·simp at hi;unfold win at hw;omega
 ·cases hb
 ·have a1:∀ i,(win i∧(h0:Hp) i≠none∨i ∈ List.map (·.1) [(2,(⟨28,some 8,[.ag [pI f.rows,pI f.cols,pI f.ls,pI f.li,pF f.lv,pI f.us,pI f.ui,pF f.uv]],false⟩:Bk)),(1001,⟨43,none,g.map fun z:Nat=>uv z,false⟩)] ++ [])→i=2∨i=1001:=fun i hi=>by
   rcases hi with ⟨_,hi⟩ | hi
   ·exact absurd rfl hi
   ·simpa using hi
  rcases a1 i hi with rfl | rfl <;> rcases a1 j hj with rfl | rfl <;> simp at ti tj <;> omega
 ·try simp -implicitDefEqProofs (disch:=omega) only [go_sem,Nat.reduceEqDiff,Nat.reduceAdd,↓reduceIte]
 refine q0N (fun q:Nat × List Nat=>q.1≤n∧q.2.length=n∧q0z q.2∧(match geL DL (n-q.1) q.1 q.2 with | none=>([],233) | some y=>F y)=res) [2,6,8,9] [2] Lk Lk (fun q=>[(11,iv q.1),(10,.ow 1001 none 0 n)]) (fun q=>[(1001,⟨43,none,q.2.map fun z:Nat=>uv z,false⟩)]) (fun _=>h0) (fun q=>n-q.1) (0,g) ⟨Nat.zero_le _,hgl,hgf,hres.symm⟩ ?_ ?_
 ·refine LeW [] rfl rfl ?_ ?_ (by simp [q09,q05,win]) ?_
  ·exact Ow
  ·exact hW
  ·try refine Zz ?_
   rfl
 ·rintro ⟨k,ys⟩ ⟨hk,hy,hfy,hv⟩;simp only at hk hy hfy hv ⊢
  by_cases hlt:k < n
  ·have hlt':(k:Int) < n:=by omega
   obtain ⟨u,hu⟩:∃ u,ys[k]?=some u:=⟨_,List.getElem?_eq_getElem Oq⟩;obtain ⟨u1,u2⟩:=hfy u (List.mem_of_getElem? hu);have rk:(List.range n)[k]?=some k:=List.getElem?_range hlt;have hrf:q0z ((q9Y n gl k).take k):=fun x hx=>by
    obtain ⟨c,hc⟩:=List.mem_iff_getElem?.1 hx;have hck:c < k:=by have:=(List.getElem?_eq_some_iff.1 hc).1; rw [List.length_take] at this; omega
    rw [List.getElem?_take,if_pos hck,q5E (by omega)] at hc;cases hc;rw [vL hlt hck];exact fL Oq
   have hrl:((q9Y n gl k).take k).length=k:=by rw [List.length_take,q7Q]; omega
   have hS:=rst_L (g:=gl) (D:=DL) (n:=n) (k:=k) (ys:=ys) hlt hy fun c hc=>vL hlt hc;rw [getD_some hu] at hS;rw [show n-k=(n-(k+1))+1 by omega,geL] at hv;have cR:=qaa (B:=ofZ u) (l:=(q9Y n gl k).take k) (x:=ys.take k) (q3n u2) hrf (qf7 hfy) (by rw [hrl,List.length_take]; omega) (by omega);rw [hrl,hS] at cR;generalize loZ DL ys k=S at *;unfold pF at cR;rw [List.map_take,List.map_take,← qsI] at cR;have cZ:=q1P (V:=S);have cO1:=q1b u1 (q0Y u2);have cQ:=@q9p S;have hqlt:fR 0 S < 18446744073709551616:=q9C;generalize fR 0 S=v at *;have cF:=q1l hqlt;have es1:slP (some 1) none (some (iv (k:Int))) (.sl none (rU n gl k))=some (.sl none ((rU n gl k).take k)):=by
    simp [slP,q9Q,ksz];omega
   have es2:slP (some 1) none (some (iv (k:Int))) (.ow 1001 none 0 n)=some (.ow 1001 none 0 k):=by
    simp [slP,q9Q,ksz];omega
   have hset:((ys.map fun z:Nat=>uv z).set k (uv (v:Nat)))[k]?=some (uv (v:Nat)):=List.getElem?_set_self (by rw [List.length_map]; omega)
   by_cases hfx:q0M v
   ·rw [decide_eq_true hfx] at cF;rw [if_pos hfx] at hv;refine wk1 (x6 hlt' hu rk es1 es2 (x2 hy hset)) ?_;refine ⟨(k+1,ys.set k v),⟨by simp only; omega,by simp only; rw [List.length_set]; exact hy,q3B hfy hqlt hfx,hv⟩,by simp only; omega,?_⟩;simp only;refine LeW [] rfl rfl ?_ ?_ (by simp [q09,q05,win]) ?_
    ·exact Ow
    ·exact hW
    ·try refine Zz ?_
     rfl
   ·rw [decide_eq_false hfx] at cF;rw [if_neg hfx] at hv;subst hv;refine wk1 (x6 hlt' hu rk es1 es2 (x2 hy hset)) ?_;refine (rtM (rs:=[.tmp 4,.tmp 5]) rfl rfl Lq ?_ (.inl rfl));exact LeEn hJ
  ·obtain rfl:n=k:=by omega
   have hlt':¬ (n:Int) < n:=by omega
   rw [Nat.sub_self,geL] at hv;simp only [hF] at hv;clear hF hres;refine wk1 hlt' ?_;refine q0N (fun q:Nat × List Nat=>q.1≤n∧q.2.length=n∧q0z q.2∧(match geU DU n q.1 q.2 with | none=>([],233) | some z=>(scS z f.cols n n,(0:Int)))=res) [2,6,8,9] [2] Lk Lk (fun q=>[(12,iv ((q.1:Int)-1)),(10,.ow 1001 none 0 n)]) (fun q=>[(1001,⟨43,none,q.2.map fun z:Nat=>uv z,false⟩)]) (fun _=>h0) (fun q=>q.1) (n,ys) ⟨Nat.le_refl _,hy,hfy,hv⟩ ?_ ?_
   ·refine LeW [] rfl rfl ?_ ?_ (by simp [q09,q05,win]) ?_
    ·exact Ow
    ·exact hW
    ·try simp -implicitDefEqProofs (disch:=omega) only [go_sem,Nat.reduceEqDiff,Nat.reduceAdd,↓reduceIte]
   ·clear hv hy hfy;rintro ⟨k,ys⟩ ⟨hk,hy,hfy,hv⟩;simp only at hk hy hfy hv ⊢
    by_cases hlt:k=0
    ·subst hlt;rw [geU] at hv;simp only at hv;subst hv;have cS2:=q91 (l:=ys) (o:=f.cols) hy hcl Oq hcb;have hsl:=q42 (x:=ys) (o:=f.cols) (n:=n) n;dsimp only;rw [hsl];generalize scS ys f.cols n n=x at *;refine wk ?_;refine q0q (LeT (hw:=h0) (fun i=>if i=1001 then none else some i) (fun i hi=>(hJ i hi).elim) (fun i hi hw=>?_) (fun i b hw hb=>?_) (fun i j x hi hj ti tj=>?_) (xs:=[(2,.pt 2 0 0),(10,pF ys)]) (kv:=[]) (bs:=[(2,⟨28,some 8,[.ag [pI f.rows,pI f.cols,pI f.ls,pI f.li,pF f.lv,pI f.us,pI f.ui,pF f.uv]],false⟩)]) (kb:=[]) ?_) ?_
     ·simp at hi;unfold win at hw;omega
     ·cases hb
     ·split at ti <;> split at tj <;> cases ti <;> cases tj <;> rfl
     ·try refine Zz ?_
      try exact q4l rfl clU (fun i hi=>by split at hi <;> cases hi; omega) (by rw [List.drop_zero]; exact List.take_of_length_le (by rw [List.length_map]; omega))
     refine qjp fun K hK=>?_;refine Zz ?_;refine jm cS2 ?_ (fun i hi=>(hi trivial).elim) ?_
     ·change Wn _ _;exact Ow
     try refine Zz ?_
     refine hK _ _ ?_; clear hK K;refine wk ?_;refine (rtM (rs:=[.tmp 4,.tmp 5]) rfl rfl Lq ?_ (.inl rfl));refine LeE hJ ?_ clU
     try simp -implicitDefEqProofs (disch:=omega) only [go_sem,Nat.reduceEqDiff,Nat.reduceAdd,↓reduceIte]
    ·obtain ⟨k,rfl⟩:∃ k',k=k'+1:=⟨k-1,by omega⟩;have hkn:k < n:=by omega
     obtain ⟨u,hu⟩:∃ u,ys[k]?=some u:=⟨_,List.getElem?_eq_getElem Oq⟩;obtain ⟨u1,u2⟩:=hfy u (List.mem_of_getElem? hu);have rk:(List.range n)[k]?=some k:=List.getElem?_range hkn;have hrf:q0z (q9Y n gu k):=fun x hx=>by
      obtain ⟨c,hc⟩:=List.mem_iff_getElem?.1 hx;have hck:c < n:=by have:=(List.getElem?_eq_some_iff.1 hc).1; rwa [q7Q] at this
      rw [q5E hck] at hc;cases hc;rw [vU hck];exact fU hck
     have hrl:((q9Y n gu k).drop (k+1)).length=n-(k+1):=by rw [List.length_drop,q7Q]
     have hS:=rst_U (g:=gu) (D:=DU) (n:=n) (k:=k) (ys:=ys) hkn hy fun c hc=>vU hc;rw [getD_some hu] at hS;rw [geU] at hv;have cR:=qaa (B:=ofZ u) (l:=(q9Y n gu k).drop (k+1)) (x:=ys.drop (k+1)) (q3n u2) (q8z hrf) (q8z hfy) (by rw [hrl,List.length_drop]; omega) (by omega);rw [hrl,hS] at cR;have hdz:=dU k hkn;have hkk:=vU (i:=k) (j:=k) hkn;obtain ⟨d1,d2⟩:=fU (i:=k) (j:=k) hkn;rw [← hkk] at hdz d1 d2 hv;generalize upZ DU ys n k=S at *;unfold pF at cR;rw [List.map_drop,List.map_drop,← qsI] at cR;have cZ:=q1P (V:=S);have cO1:=q1b u1 (q0Y u2);have cO2:=q1b d1 (q0Y d2);have cQ:=qd3 (q5d (A:=S) (mode:=0) hdz);have hqlt:fQ 0 S (ofZ (gu k k)) < 18446744073709551616:=qfb hdz;generalize fQ 0 S (ofZ (gu k k))=v at *;have cF:=q1l hqlt;have ek:((k+1:Nat):Int)-1=(k:Int):=by omega
     have wj:(k:Int)+1=((k+1:Nat):Int):=rfl;have ww:IntKind.i64.wrap ((k+1:Nat):Int)=((k+1:Nat):Int):=i64_in Oq Oq;have es1:slP (some 1) (some (iv ((k+1:Nat):Int))) none (.sl none (rU n gu k))=some (.sl none ((rU n gu k).drop (k+1))):=by
      simp [slP,q9Q,ksz];rw [if_pos (by omega),Option.bind_some,if_pos (by omega),List.take_of_length_le (by simp [rU])]
     have es2:slP (some 1) (some (iv ((k+1:Nat):Int))) none (.ow 1001 none 0 n)=some (.ow 1001 none (k+1) (n-(k+1))):=by
      simp [slP,q9Q,ksz];rw [if_pos (by omega),Option.bind_some,if_pos (by omega)]
     have htk:((ys.map fun z:Nat=>uv z).drop (k+1)).take (n-(k+1))=(ys.map fun z:Nat=>uv z).drop (k+1):=List.take_of_length_le (by rw [List.length_drop,List.length_map]; omega);have hset:((ys.map fun z:Nat=>uv z).set k (uv (v:Nat)))[k]?=some (uv (v:Nat)):=List.getElem?_set_self (by rw [List.length_map]; omega)
     by_cases hfx:q0M v
     ·rw [decide_eq_true hfx] at cF;rw [if_pos hfx] at hv;refine wk1 (x6 ek wj ww htk hu (x4 rk es1 es2 hset)) ?_;refine ⟨(k,ys.set k v),⟨by simp only; omega,by simp only; rw [List.length_set]; exact hy,q3B hfy hqlt hfx,hv⟩,by simp only; omega,?_⟩;simp only;refine LeW [] rfl rfl ?_ ?_ (by simp [q09,q05,win]) ?_
      ·exact Ow
      ·exact hW
      ·try simp -implicitDefEqProofs (disch:=omega) only [go_sem,Nat.reduceEqDiff,Nat.reduceAdd,↓reduceIte]
     ·rw [decide_eq_false hfx] at cF;rw [if_neg hfx] at hv;subst hv;refine wk1 (x6 ek wj ww htk hu (x4 rk es1 es2 hset)) ?_;refine (rtM (rs:=[.tmp 4,.tmp 5]) rfl rfl Lq ?_ (.inl rfl));exact LeEn hJ
def qhY {l:List Nat} {n:Nat} (hu:∀ x ∈ l,x < 18446744073709551616) (hl:l.length≤1000000) (hn:n≤1000000):ACt 216 [pF l,iv n] (iv (qaw 0 n l)):=by
 have cF:=qc7 hu hl;unfold qaw;rw [if_neg (not_not_intro rfl)];refine ac0 Tryz.func216 Tryz.ntmps216 [.tmp 4] ?_
 by_cases h:l.length=n
 ·have q:((l.length:Int) != (n:Int))=false:=by simp; omega
  rw [if_neg (not_not_intro h)];generalize (if ¬ ∀ x ∈ l,q0M x then (4:Int) else 0)=z at *;exact wk1 q trivial
 ·have q:((l.length:Int) != (n:Int))=true:=by simp; omega
  rw [if_pos h];exact wk1 q trivial
noncomputable def lgF (DU:Nat→Nat→Nat) (n:Nat) (o:List Int) (K:Nat) (ys:List Nat):List Nat × Int:=match geU DU n K ys with
 | none=>([],233)
 | some z=>(scS z o n n,0)
def lgF_s {DU:Nat→Nat→Nat} {n:Nat} {o:List Int} {k:Nat} {ys:List Nat}:lgF DU n o (k+1) ys=if q0M (fQ 0 (upZ DU ys n k) (ofZ (DU k k))) then lgF DU n o k (ys.set k (fQ 0 (upZ DU ys n k) (ofZ (DU k k)))) else ([],233):=by
 unfold lgF;rw [geU]
 by_cases h:q0M (fQ 0 (upZ DU ys n k) (ofZ (DU k k)))
 ·rw [if_pos h,if_pos h]
 ·rw [if_neg h,if_neg h]
def lgF_0 {DU:Nat→Nat→Nat} {n:Nat} {o:List Int} {ys:List Nat}:lgF DU n o 0 ys=(scS ys o n n,0):=rfl
def qmu {f:LUt} {l:List Nat} (hb:LUb f) (hn:f.rows.length≤30) (hul:∀ x ∈ l,x < 18446744073709551616) (hl:l.length≤1000000) :
  ACt 134 [pLU f,pF l] (.tu [pF (lgE f l).1,iv (lgE f l).2]):=by
 have cK:=qey hb;have cV:=qhY (n:=f.rows.length) hul hl Oq;unfold lgE
 by_cases hc:q4T f=0
 case neg =>
  have hs:qaw (q4T f) f.rows.length l=q4T f:=if_pos hc;rw [hs,if_pos hc];generalize q4T f=e at *;have q1:(e == 0)=false:=by simpa using hc
  have q2:(e != 0)=true:=by simpa using hc
  unfold pLU at *;dsimp only;refine ac0 Tryz.func134 Tryz.ntmps134 [.tmp 4,.tmp 5] ?_;exact wk1 (x2 q1 q2) trivial
 rw [hc]
 by_cases hz0:qaw 0 f.rows.length l=0
 case neg =>
  rw [if_pos hz0];rw [hc] at cK;generalize qaw 0 f.rows.length l=e at *;have q2:(e != 0)=true:=by simpa using hz0
  unfold pLU at *;dsimp only;refine ac0 Tryz.func134 Tryz.ntmps134 [.tmp 4,.tmp 5] ?_;exact wk1 q2 trivial
 rw [if_neg (not_not_intro hz0)];rw [hc] at cK;rw [hz0] at cV;obtain ⟨_,h2,h3⟩:=qmj hz0;have hf:=qa8 hb hc;have hfl:q0z l:=fun x hx=>⟨hul x hx,h3 x hx⟩;have hrb:∀ x ∈ f.rows,0≤x∧x < f.rows.length:=fun x hx=>hf.rp.2.1 x hx;have hcb:∀ x ∈ f.cols,0≤x∧x < f.rows.length:=fun x hx=>hf.cp.2.1 x hx;have hcl:f.cols.length=f.rows.length:=by have:=hf.cp.1; omega
 have cG:=qc6 (l:=l) (o:=f.rows) (n:=f.rows.length) h2 rfl Oq hrb;have hgl:=qaF (l:=l) (o:=f.rows) (n:=f.rows.length);have hgf:=qaG (o:=f.rows) (n:=f.rows.length) hfl;generalize gaS l f.rows f.rows.length=g at *;have cU:=qmP hf.L hgl hgf hn;have hlr:∀ y,geL (cLo f) f.rows.length 0 g=some y→y.length=f.rows.length∧q0z y:=fun y hy=>qaE _ _ g y hgl hgf hy;have ec:cLo f=fun i c=>ctV (q7o f.ls f.li f.lv c) i:=rfl;rw [← ec] at cU;clear ec;generalize geL (cLo f) f.rows.length 0 g=R1 at *;cases R1 with
 | none =>
  unfold fwP at cU;unfold pLU at *;dsimp only;refine ac0 Tryz.func134 Tryz.ntmps134 [.tmp 4,.tmp 5] ?_;exact wk trivial
 | some b =>
  obtain ⟨hbn,hbf⟩:=hlr b rfl;unfold fwP at cU;have hDv:=fun r k=>show cUp f r k=ctV (q7o f.us f.ui f.uv k) r from rfl;have hC:=hf.U;have hdg:=hf.dg;clear hf hlr;change ACt _ _ (.tu [pF (lgF (cUp f) f.rows.length f.cols f.rows.length b).1,iv (lgF (cUp f) f.rows.length f.cols f.rows.length b).2]);have h00:=fun ys=>lgF_0 (DU:=cUp f) (n:=f.rows.length) (o:=f.cols) (ys:=ys);have hss:=fun k ys=>lgF_s (DU:=cUp f) (n:=f.rows.length) (o:=f.cols) (k:=k) (ys:=ys);generalize lgF (cUp f) f.rows.length f.cols=W at *;generalize cUp f=D at *;generalize q7o f.us f.ui f.uv=E at *;generalize hnn:f.rows.length=n at *;obtain ⟨res,hres⟩:∃ r,r=W n b:=⟨_,rfl⟩;rw [← hres];have cB:=qgU hbf Oq;rw [hbn] at cB;have hnn2:n*n≤30*30:=Nat.mul_le_mul hn hn;unfold pLU at *;refine ac0 Tryz.func134 Tryz.ntmps134 [.tmp 4,.tmp 5] ?_;refine wk1 hnn ?_;refine A_jW [(2,.pt 2 0 0),(7,pF b),(8,.ow 5000 none 0 n),(9,.ow 46 none 0 n)] [(2,⟨28,some 8,[.ag [pI f.rows,pI f.cols,pI f.ls,pI f.li,pF f.lv,pI f.us,pI f.ui,pF f.uv]],false⟩),(46,⟨43,none,(yUp n b n).map fun z:Nat=>uv z,false⟩)] (q2d n (bgR b n)) ?_ fun K0 fin=>?_
  rotate_left
  ·refine q6v q3o (.one 0 (.one 2 (.one 3 (.alt (.one 1 (.one 5 (.one 4 (.one 6 .fin)))) (.one 4 (.one 1 (.one 5 (.one 6 .fin)))))))) (by kernel_rfl) fun K9 hK9=>?_;refine Zz1 hbn ?_;refine ⟨?_,?_⟩
   all_goals
    refine jmF cB ?_ ?_
    ·exact Ow
    ·try refine Zz ?_
     refine hK9 _ _ (fin _ _ ?_);refine LeW [] rfl rfl ?_ ?_ (by simp [q09,q05,win]) ?_
     ·exact Ow
     ·exact wfB (q0T Oq)
     ·try refine Zz ?_
      exact yUp_n.symm
  refine wk1 hbn ?_;refine q0N (fun q:Nat × List Nat × (Nat→List Int)=>q.1≤n∧q.2.1.length=n∧q0z q.2.1∧RUp D n q.1 q.2.1 q.2.2∧RB q.2.2 ((n-q.1)*n+1)∧W q.1 q.2.1=res) [2,8] [2] Lk Lk (fun q=>[(10,iv ((q.1:Int)-1)),(9,.ow 1001 none 0 n)]) (fun q=>[(1001,⟨43,none,(yUp n q.2.1 q.1).map fun z:Nat=>uv z,false⟩)]) (fun q=>q2d n q.2.2) (fun q=>q.1) (n,b,bgR b n) ⟨Nat.le_refl _,hbn,hbf,RUp.bg hbn,by rw [Nat.sub_self,Nat.zero_mul]; exact RB.bg hbf,hres.symm⟩ ?_ ?_
  ·refine LeW [(1001,some 46)] rfl rfl ?_ ?_ (by simp [q09,q05,win]) ?_
   ·exact Ow
   ·exact wfB (q0T Oq)
   ·try simp -implicitDefEqProofs (disch:=omega) only [go_sem,Nat.reduceEqDiff,Nat.reduceAdd,↓reduceIte]
  ·rintro ⟨K,ys,rows⟩ ⟨hk,hy,hfy,hlo,hrb,hv⟩;simp only at hk hy hfy hlo hrb hv ⊢
   by_cases hK0:K=0
   ·subst hK0;rw [h00] at hv;subst hv;have e:=yUp_0 hy;have cS:=q9m (l:=ys) (o:=f.cols) hy hcl Oq hcb;have hsl:=q42 (x:=ys) (o:=f.cols) (n:=n) n;dsimp only;generalize scS ys f.cols n n=zs at *;rw [e];refine wk ?_;refine q0q (LeT (hw:=h0) (fun i=>if i=1001 then none else some i) (fun i hi=>hi.elim) (fun i hi hw=>?_) (fun i b hw hb=>?_) (fun i j x hi hj ti tj=>?_) (xs:=[(2,.pt 2 0 0),(9,pF ys)]) (kv:=[]) (bs:=[(2,⟨28,some 8,[.ag [pI f.rows,pI f.cols,pI f.ls,pI f.li,pF f.lv,pI f.us,pI f.ui,pF f.uv]],false⟩)]) (kb:=[]) ?_) ?_
    ·simp at hi;unfold win at hw;omega
    ·cases hb
    ·split at ti <;> split at tj <;> cases ti <;> cases tj <;> rfl
    ·try refine Zz ?_
     exact q4l rfl clU (fun i hi=>by split at hi <;> cases hi; omega) (by rw [List.drop_zero]; exact List.take_of_length_le (by rw [List.length_map]; omega))
    refine qjp fun K hK=>?_;refine Zz ?_;refine jmF cS ?_ ?_
    ·exact Ow
    try refine Zz ?_
    refine hK _ _ ?_; clear hK K;exact wk1 hsl trivial
   ·obtain ⟨k,rfl⟩:∃ k,K=k+1:=⟨K-1,by omega⟩;have hlt:k < n:=by omega
    have ek:((k+1:Nat):Int)-1=(k:Int):=by omega
    have wj:(k:Int)+1=((k+1:Nat):Int):=rfl;have ww:IntKind.i64.wrap ((k+1:Nat):Int)=((k+1:Nat):Int):=i64_in Oq Oq;have hkn:(n-(k+1))*n≤30*30:=Nat.mul_le_mul Oq hn;obtain ⟨a,a1,a2,a3,a4⟩:=hC.col k hlt;obtain ⟨L,x,hL,hx0,hL1⟩:=hdg k hlt;have hnd:=hC.nd k hlt;have hsz:=hC.sz k hlt;have hcl2:=hC.len;have hUs:=fun v=>hlo.s (E:=E) (v:=v) (x:=x) (m:=L) hlt Oq hnd hL (fun r=>hDv r k);have hxx:D k k=x:=by rw [hDv]; exact qaR (t:=L.length) (e:=(k,x)) hnd (by rw [hL]; simp)
    rw [hL,List.length_append,List.length_singleton] at a2 a3 hsz;rw [hL] at a4 hnd;obtain ⟨_,x1,_,x2,x3⟩:=a4 L.length (k,x) (by simp);dsimp only at x1 x2 x3;have cT:=qal (rows:=rows) (k:=k) Oq hlt (by have:=hrb.l k; omega) (hrb.b k);have hd:=q52 (hrb.b k) (by have:=hrb.l k; omega);have nd:=qhm hd;rw [hlo.v] at cT nd hd;rw [hss,hxx] at hv;have hqlt:fQ 0 (upZ D ys n k) (ofZ x) < 18446744073709551616:=qfb hx0;have cO:=q3x x3 (q0Y x2);have cQ:=qo5 hd (q3K x2) hx0;generalize upZ D ys n k=S at *;generalize fQ 0 S (ofZ x)=v at *;have cF:=q33 hqlt;have hyl:=qly (n:=n) (ys:=ys) (k:=k+1);have hys:=yUp_s (v:=v) hy hlt;have hset:((yUp n ys (k+1)).map fun z:Nat=>uv z).set k (uv (v:Nat))=(yUp n (ys.set k v) k).map fun z:Nat=>uv z:=by rw [← hys,List.map_set]
    have hset2:(((yUp n ys (k+1)).map fun z:Nat=>uv z).set k (uv (v:Nat)))[k]?=some (uv (v:Nat)):=List.getElem?_set_self (by rw [List.length_map,hyl]; exact hlt);have wl:IntKind.i64.wrap (((a+(L.length+1):Nat):Int)-1)=((a+L.length:Nat):Int):=by rw [i64_in (by omega) (by omega)]; omega
    by_cases hfx:q0M v
    ·rw [decide_eq_true hfx] at cF;rw [if_pos hfx] at hv;refine wk1 (x6 ek wj ww a1 a2 (x4 wl hyl x1 hset2)) ?_;rw [hset] at hset2 ⊢;have hLf:∀ e ∈ L,q0M e.2∧e.2 < 18446744073709551616:=fun e he=>by
      obtain ⟨t,ht⟩:=List.mem_iff_getElem?.1 he;obtain ⟨_,_,_,q4,q5⟩:=a4 t e (by rw [List.getElem?_append_left (List.getElem?_eq_some_iff.1 ht).1]; exact ht);exact ⟨q4,q5⟩
     have hBL:=fun t=>hrb.ps (L:=L.take t) hfx fun e he=>(hLf e (List.mem_of_mem_take he)).1;refine q0N (fun t:Nat=>t≤L.length) [2,8,9,10,11] [2,1001] Lk Lk (fun t=>[(12,iv ((a+t:Nat):Int))]) (fun _=>[]) (fun t=>q2d n (psE v (L.take t) rows)) (fun t=>L.length-t) 0 (Nat.zero_le _) ?_ ?_
     ·refine LeW [] rfl rfl ?_ ?_ (by simp [q09,q05,win]) ?_
      ·exact Ow
      ·exact wfB (q0T Oq)
      ·try simp -implicitDefEqProofs (disch:=omega) only [go_sem,Nat.reduceEqDiff,Nat.reduceAdd,↓reduceIte]
     ·intro t ht
      by_cases hlt2:t < L.length
      ·obtain ⟨⟨i,w⟩,e1⟩:∃ e,L[t]?=some e:=⟨_,List.getElem?_eq_getElem hlt2⟩;obtain ⟨b1,b2,b3,b4,b5⟩:=a4 t (i,w) (by rw [List.getElem?_append_left hlt2]; exact e1);dsimp only at b1 b2 b3 b4 b5;have hq:((a+t:Nat):Int) < ((a+L.length:Nat):Int):=by omega
       have wt:IntKind.i64.wrap (((a+t:Nat):Int)+1)=((a+(t+1):Nat):Int):=by rw [i64_in (by omega) (by omega)]; omega
       have hps:psE v (L.take (t+1)) rows=q2i (psE v (L.take t) rows) i (-(q0l w v)):=qhg e1;have hli:(psE v (L.take t) rows i).length≤2000:=by have:=(hBL t).l i; rw [List.length_take] at this; omega
       have cX:=q66 (rows:=psE v (L.take t) rows) (k:=i) (n:=n) (a:=w) (c:=v) Oq b3 hli ⟨b4,b5⟩ ⟨hfx,hqlt⟩;generalize psE v (L.take t) rows=rs at *;have hgn:=fun j=>q8Z (j:=j) (n:=n) (rows:=rs) (k:=i) (z:=900000) (l:=(rs i ++ [-(q0l w v)]).map fun V=>pV V);refine wk1 hq ?_;refine q6v q3o (.one 0 (.one 1 (.one 3 (.one 6 (.one 8 (.one 11 (.one 12 (.one 13 (.alt (.one 2 (.one 4 (.alt (.one 5 (.alt (.one 7 (.one 9 (.alt (.one 10 (.one 14 (.one 15 .fin))) (.one 14 (.one 10 (.one 15 .fin)))))) (.one 14 (.one 7 (.one 9 (.one 10 (.one 15 .fin))))))) (.alt (.one 7 (.one 9 (.alt (.one 5 (.alt (.one 10 (.one 14 (.one 15 .fin))) (.one 14 (.one 10 (.one 15 .fin))))) (.alt (.one 10 (.alt (.one 5 (.one 14 (.one 15 .fin))) (.one 14 (.one 5 (.one 15 .fin))))) (.one 14 (.alt (.one 5 (.one 10 (.one 15 .fin))) (.one 10 (.one 5 (.one 15 .fin))))))))) (.one 14 (.alt (.one 5 (.one 7 (.one 9 (.one 10 (.one 15 .fin))))) (.one 7 (.one 9 (.alt (.one 5 (.one 10 (.one 15 .fin))) (.one 10 (.one 5 (.one 15 .fin)))))))))))) (.alt (.one 7 (.one 9 (.alt (.one 2 (.one 4 (.alt (.one 5 (.alt (.one 10 (.one 14 (.one 15 .fin))) (.one 14 (.one 10 (.one 15 .fin))))) (.alt (.one 10 (.alt (.one 5 (.one 14 (.one 15 .fin))) (.one 14 (.one 5 (.one 15 .fin))))) (.one 14 (.alt (.one 5 (.one 10 (.one 15 .fin))) (.one 10 (.one 5 (.one 15 .fin))))))))) (.alt (.one 10 (.alt (.one 2 (.one 4 (.alt (.one 5 (.one 14 (.one 15 .fin))) (.one 14 (.one 5 (.one 15 .fin)))))) (.one 14 (.one 2 (.one 4 (.one 5 (.one 15 .fin))))))) (.one 14 (.alt (.one 2 (.one 4 (.alt (.one 5 (.one 10 (.one 15 .fin))) (.one 10 (.one 5 (.one 15 .fin)))))) (.one 10 (.one 2 (.one 4 (.one 5 (.one 15 .fin))))))))))) (.one 14 (.alt (.one 2 (.one 4 (.alt (.one 5 (.one 7 (.one 9 (.one 10 (.one 15 .fin))))) (.one 7 (.one 9 (.alt (.one 5 (.one 10 (.one 15 .fin))) (.one 10 (.one 5 (.one 15 .fin))))))))) (.one 7 (.one 9 (.alt (.one 2 (.one 4 (.alt (.one 5 (.one 10 (.one 15 .fin))) (.one 10 (.one 5 (.one 15 .fin)))))) (.one 10 (.one 2 (.one 4 (.one 5 (.one 15 .fin)))))))))))))))))))) (by kernel_rfl) fun K9 hK9=>?_
       refine Zz3 b1 b2 hset2 ?_;have fin:∀ (s:Nat→PV) (h:Hp),Le (fun _=>False) s h (stM [(2,.pt 2 0 0),(8,.ow 5000 none 0 n),(9,.ow 1001 none 0 n),(10,iv k),(11,iv ((a+L.length:Nat):Int)),(12,iv ((a+t:Nat):Int))] []) (q0t (q2d n (q2i rs i (-(q0l w v)))) (hpM [(2,⟨28,some 8,[.ag [pI f.rows,pI f.cols,pI f.ls,pI f.li,pF f.lv,pI f.us,pI f.ui,pF f.uv]],false⟩),(1001,⟨43,none,(yUp n (ys.set k v) k).map fun z:Nat=>uv z,false⟩)] []))→K9 s h:=fun s h hl=>by
        refine hK9 _ _ (q0q hl ?_);clear hK9 hl K9;refine wk1 wt ?_;refine ⟨t+1,by omega,by omega,?_⟩;rw [hps];refine LeW [] rfl rfl ?_ ?_ (by simp [q09,q05,win]) ?_
        ·exact Ow
        ·exact wfB (q0T Oq)
        ·try simp -implicitDefEqProofs (disch:=omega) only [go_sem,Nat.reduceEqDiff,Nat.reduceAdd,↓reduceIte]
       clear hK9
       repeat' (with_reducible apply And.intro)
       all_goals
        refine jx cX q36 (fun _ h=>h.elim) (qjn (a:=i+10000) hgn ?_ ?_) ?_
        ·repeat (refine qcN ?_ (by first | (unfold IdP; first | trivial | omega) | simp [IdP,IdL]))
         first | exact (fun t=>by unfold stV IdP; trivial) | exact qg5 (by simp [IdL,IdP]; omega) (by simp [IdL,IdP]) | exact qg5 (by simp [IdL,IdP]) (by simp [IdL,IdP])
        ·repeat (refine qcS ?_ rfl (by first | exact qfx clU | simp [IdL,IdP]))
         exact qjm (qgc (fun p hp b hb=>by
          simp at hp
          rcases hp with rfl | rfl <;> cases hb
          ·exact ⟨rfl,by simp [IdL,IdP]⟩
          ·exact ⟨rfl,qfx clU⟩) (by simp))
        ·try refine Zz ?_
         refine fin _ _ ?_;unfold q2d;rw [← q5u];refine q2w (r:=900000) (k:=i) (row:=q7P rs) (fun _ h=>h) b3 clV ?_ ?_ (fun i h1 h2 h3 h4=>?_) (fun _ _=>clV) BOk.h0 (.inr ⟨by omega,by omega⟩) (by omega) (by omega) (by omega) (by simp [nmW]) ?_
         ·rw [q0U ⟨by omega,by omega⟩];unfold q7G;rw [if_neg (by omega),if_neg (by omega),if_pos rfl]
         ·rw [q0U ⟨by omega,by omega⟩];unfold q7G;rw [if_neg (by omega),if_pos rfl]
         ·rw [q0U h1];unfold q7G;rw [if_neg h3,if_neg h4,if_neg h2]
         ·try simp -implicitDefEqProofs (disch:=omega) only [go_sem,Nat.reduceEqDiff,Nat.reduceAdd,↓reduceIte]
      ·obtain rfl:t=L.length:=by omega
       have hq:¬ ((a+L.length:Nat):Int) < ((a+L.length:Nat):Int):=by omega
       have hB2:=hBL L.length;rw [List.take_length] at hB2 ⊢;refine wk1 hq ?_;refine ⟨(k,ys.set k v,psE v L rows),⟨by simp only; omega,by simp only; rw [List.length_set]; exact hy,q3B hfy hqlt hfx,hUs v,hB2.mono (by rw [show n-k=(n-(k+1))+1 by omega,Nat.succ_mul]; omega),hv⟩,by simp only; omega,?_⟩;simp only;refine LeW [] rfl rfl ?_ ?_ (by simp [q09,q05,win]) ?_
       ·exact Ow
       ·exact wfB (q0T Oq)
       ·try simp -implicitDefEqProofs (disch:=omega) only [go_sem,Nat.reduceEqDiff,Nat.reduceAdd,↓reduceIte]
    ·rw [decide_eq_false hfx] at cF;rw [if_neg hfx] at hv;subst hv;exact wk1 (x6 ek wj ww a1 a2 (x4 wl hyl x1 hset2)) trivial
def rgL (G:Nat→Nat→Option Nat) (i:Nat):Nat→List Int
 | 0=>[q0i]
 | k+1=>if k=i then rgL G i k else rgL G i k ++ [((ofZ ((G k i).getD 0)).natAbs:Int),((ofZ ((G i k).getD 0)).natAbs:Int)]
def rgF (G:Nat→Nat→Option Nat) (n j i:Nat):Option Nat:=if i=j then some (fR 2 (q1B (rgL G i n))) else G j i
def qeR {G:Nat→Nat→Option Nat} {n i:Nat} (h:TOk G n n) (hi:i < n):∀ k,k≤n→(rgL G i k).length≤2*k+1∧∀ x ∈ rgL G i k,bl x.natAbs≤67600
 | 0,_=>⟨Nat.le_refl _,fun x hx=>by unfold rgL at hx; simp at hx; subst hx; exact q3X.2⟩
 | k+1,hk=>by
  obtain ⟨h1,h2⟩:=qeR h hi k Oq;unfold rgL
  split
  ·exact ⟨by omega,h2⟩
  ·refine ⟨by simp; omega,fun x hx=>?_⟩
   rcases List.mem_append.1 hx with hx | hx
   ·exact h2 x hx
   ·simp at hx
    rcases hx with rfl | rfl <;> rw [Int.natAbs_natCast]
    ·exact q3n (h.fin Oq Oq).1
    ·exact q3n (h.fin Oq Oq).1
def qca {raw:List Nat} {st:Int} {n:Nat} (hr:raw.length≤9223372036854775807) (hn:n≤100) (h3 : -9223372036854775808≤st) (h4:st≤9223372036854775807) :
  ACt 71 [pF raw,iv n,iv st] (pT n n (rgF (gF raw n (q02 (q02 st 3:Nat) 4)) n)):=by
 have hs3:q02 st 3 < 3:=by unfold q02; omega
 have hnn:n*n≤100*100:=Nat.mul_le_mul hn hn;have cM:=q2p (a:=st) (n:=3) h3 h4 Oq Oq;have cG:=q5p (raw:=raw) (st:=(q02 st 3:Nat)) (R:=n) (C:=n) hr Oq Oq Oq Oq;have hG:=qiT (raw:=raw) (R:=n) (C:=n) (st:=q02 (q02 st 3:Nat) 4) Oq Oq Oq;generalize gF raw n (q02 (q02 st 3:Nat) 4)=G at *;have cA:∀ {i j:Nat},i < n→j < n→_:=fun {i j} hi hj=>q86 (i:=i) (j:=j) hG hi hj;have cS:∀ {i j:Nat},i < n→j < n→_:=fun {i j} hi hj=>qc0 (i:=i) (j:=j) hG hi hj;generalize hFn:rgF G n=F;have hpt:pT n n F=pM n n (tM F n n):=rfl;have hpG:pT n n G=q0b n n (tM G n n).1 (tM G n n).2.1 (tM G n n).2.2:=rfl;rw [hpG] at cG;simp only [hpG] at cA cS;rw [hpt];clear hpG hpt;unfold q0b at cG cA cS;generalize (tM G n n).1=gs at *;generalize (tM G n n).2.1=gi at *;generalize (tM G n n).2.2=gv at *;have c1:=q2R (z:=1) Oq Oq q3X.1;refine ac0 Tryz.func71 Tryz.ntmps71 [.cell 6 26] ?_;refine wk ?_;refine q0B (fun j=>j≤n) [1,6,7,8] [6,7] Lk Lk (fun j:Nat=>[(9,iv j)]) (fun j=>[(8,⟨26,some 5,[.ag [iv n,iv n,.ow 1001 none 0 (tM F n j).1.length,.ow 1002 none 0 (tM F n j).2.1.length,.ow 1003 none 0 (tM F n j).2.2.length]],false⟩),(1001,⟨3,none,(tM F n j).1.map fun z=>iv z,false⟩),(1002,⟨3,none,(tM F n j).2.1.map fun z=>iv z,false⟩),(1003,⟨43,none,(tM F n j).2.2.map fun z:Nat=>uv z,false⟩)]) (fun j=>n-j) 0 (Nat.zero_le _) ?_ ?_
 ·refine LeM [(1001,some 21),(1002,none),(1003,none)] rfl rfl ?_;refine Zz ?_;exact ⟨rfl,⟨rfl,rfl,rfl⟩,rfl,rfl,rfl⟩
 ·intro j hj;have hg:=q1N (f:=F) (R:=n) j;have hjn:j*n≤100*100:=Nat.mul_le_mul Oq hn;refine wk ?_
  by_cases hlt:j < n
  ·have hlt':(j:Int) < n:=by omega
   refine wk1 hlt' ?_;have hM1:(tM F n (j+1)).1=(tM F n j).1 ++ [((tC F j (tM F n j).2 n).1.length:Int)]:=rfl;have hM2:(tM F n (j+1)).2=tC F j (tM F n j).2 n:=rfl;generalize (tM F n j).1=ms at *;generalize (tM F n j).2=mp at *;refine q0B (fun i=>i≤n) [1,6,7,8,9] [6,7,1001] Lk Lk (fun i:Nat=>[(10,iv i)]) (fun i=>[(8,⟨26,some 5,[.ag [iv n,iv n,.ow 1001 none 0 ms.length,.ow 1002 none 0 (tC F j mp i).1.length,.ow 1003 none 0 (tC F j mp i).2.length]],false⟩),(1002,⟨3,none,(tC F j mp i).1.map fun z=>iv z,false⟩),(1003,⟨43,none,(tC F j mp i).2.map fun z:Nat=>uv z,false⟩)]) (fun i=>n-i) 0 (Nat.zero_le _) ?_ ?_
   ·refine LeM [] rfl rfl ?_;refine Zz ?_;exact ⟨rfl,⟨rfl,rfl⟩,rfl,rfl⟩
   ·intro i hi;have hq:=q84 (f:=F) (j:=j) hg.2.1 i;refine wk ?_
    by_cases hlt2:i < n
    ·have hlt2':(i:Int) < n:=by omega
     refine wk1 hlt2' ?_
     by_cases hij:i=j
     ·have e1:((i:Int) == (j:Int))=true:=by simp; omega
      have hF:F j i=some (fR 2 (q1B (rgL G i n))):=by rw [← hFn]; unfold rgF; rw [if_pos hij]
      obtain ⟨z,hz⟩:∃ z,z=fR 2 (q1B (rgL G i n)):=⟨_,rfl⟩;rw [← hz] at hF;have eg:=q85 (p:=mp) hF;refine wk1 e1 ?_;refine q0B (fun k=>k≤n) [1,6,7,8,9,10] [6,7,8,1001,1002,1003] Lk Lk (fun k:Nat=>[(12,iv k),(11,.ow 1004 (some 4) 0 (rgL G i k).length)]) (fun k=>[(1004,⟨40,some 4,(rgL G i k).map fun V=>pV V,false⟩)]) (fun k=>n-k) 0 (Nat.zero_le _) ?_ ?_
      ·refine LeM [(1004,some 37)] rfl rfl ?_;refine Zz ?_;exact ⟨⟨rfl,rfl⟩,q0G rfl clV⟩
      ·intro k hk;obtain ⟨d1,d2⟩:=qeR hG hlt2 k hk;refine wk ?_
       by_cases hlk:k < n
       ·have hlk':(k:Int) < n:=by omega
        refine wk1 hlk' ?_
        by_cases hki:k=i
        ·have e2:((k:Int) != (i:Int))=false:=by simp; omega
         have es:rgL G i (k+1)=rgL G i k:=by rw [rgL,if_pos hki]
         refine wk1 e2 ?_;refine ⟨k+1,by omega,by omega,?_⟩;rw [es];refine LeM [] rfl rfl ?_;refine Zz ?_;exact ⟨by omega,q0G rfl clV⟩
        ·have e2:((k:Int) != (i:Int))=true:=by simp; omega
         obtain ⟨u,hu⟩:∃ u,u=(G k i).getD 0:=⟨_,rfl⟩;obtain ⟨v,hv⟩:∃ u,u=(G i k).getD 0:=⟨_,rfl⟩;obtain ⟨f1,f2⟩:=hG.fin (j:=k) (i:=i) hlk hlt2;obtain ⟨g1,g2⟩:=hG.fin (j:=i) (i:=k) hlt2 hlk;have cE:=cA hlt2 hlk;have cE2:=cA hlk hlt2;rw [← hu] at f1 f2 cE;rw [← hv] at g1 g2 cE2;have cO:=q1b f2 (q0Y f1);have cO2:=q1b g2 (q0Y g1);have es:rgL G i (k+1)=rgL G i k ++ [((ofZ u).natAbs:Int),((ofZ v).natAbs:Int)]:=by rw [rgL,if_neg hki,hu,hv]
         have C1:=@q2q;refine wk1 e2 ?_;refine ⟨k+1,by omega,by omega,?_⟩;rw [es];refine LeM [(1004,some 60)] rfl rfl ?_;refine Zz ?_;exact ⟨by omega,q0G (by simp) clV⟩
       ·have hlk':¬ (k:Int) < n:=by omega
        obtain rfl:k=n:=by omega
        have hsd:=q52 d2 Oq;have C2:=q5w (l:=rgL G i k) Oq hsd;have C3:=q1P (V:=q1B (rgL G i k));have C4:=q5c (V:=q1B (rgL G i k)) (mode:=2);rw [← hz] at C4;refine wk1 hlk' ?_;refine ⟨i+1,by omega,by omega,?_⟩;rw [eg];refine LeM [(1002,some 65),(1003,some 73)] rfl rfl ?_;refine Zz ?_;omega
     ·have e1:((i:Int) == (j:Int))=false:=by simp; omega
      have hF:F j i=G j i:=by rw [← hFn]; unfold rgF; rw [if_neg hij]
      have C5:=(cS hlt2 hlt);refine wk1 e1 ?_;have cE:=cA hlt2 hlt;cases hx:G j i with
      | none =>
       rw [hx] at hF;have eg:=q83 (p:=mp) hF;have ei:(none:Option Nat).isSome=false:=rfl;refine wk1 ei ?_;refine ⟨i+1,by omega,by omega,?_⟩;rw [eg];refine LeM [] rfl rfl ?_;refine Zz ?_;omega
      | some z =>
       rw [hx] at hF cE;rw [Option.getD_some] at cE;have eg:=q85 (p:=mp) hF;have ei:(some z).isSome=true:=rfl;refine wk1 ei ?_;refine ⟨i+1,by omega,by omega,?_⟩;rw [eg];refine LeM [(1002,some 83),(1003,some 92)] rfl rfl ?_;refine Zz ?_;omega
    ·have hlt2':¬ (i:Int) < n:=by omega
     obtain rfl:i=n:=by omega
     refine wk1 hlt2' ?_;refine ⟨j+1,by omega,by omega,?_⟩;rw [hM1,hM2];refine LeM [(1001,some 100)] rfl rfl ?_;refine Zz ?_;omega
  ·have hlt':¬ (j:Int) < n:=by omega
   obtain rfl:j=n:=by omega
   exact wk1 hlt' trivial
def qeS {raw:List Nat} {R k i:Nat} (hk:k < 3):∀ m,∀ x ∈ rgL (gF raw R k) i m,bl x.natAbs≤66000
 | 0,x,hx=>by unfold rgL at hx; simp at hx; subst hx; exact q3Y
 | m+1,x,hx=>by
  unfold rgL at hx
  split at hx
  ·exact qeS hk m x hx
  ·rcases List.mem_append.1 hx with hx | hx
   ·exact qeS hk m x hx
   ·simp at hx
    rcases hx with rfl | rfl
    all_goals
     rw [Int.natAbs_natCast];exact gF_bl hk
def qrw {raw:List Nat} {n k:Nat} (hn:n≤100) (hk:k < 3):TOk (rgF (gF raw n k) n) n n:=by
 have hnn:n*n≤100*100:=Nat.mul_le_mul hn hn;have hG:=qiT (raw:=raw) (R:=n) (C:=n) (st:=k) Oq Oq Oq;have key:∀ i,i < n→q0M (fR 2 (q1B (rgL (gF raw n k) i n))):=fun i hi=>by
  have hl:=(qeR hG hi n (Nat.le_refl _)).1;have h1:=q53 (K:=66000) (qeS (raw:=raw) (R:=n) (i:=i) hk n) (i:=(rgL (gF raw n k) i n).length) Oq;rw [List.take_length] at h1;obtain ⟨c,hc⟩:∃ c,c=900:=⟨_,rfl⟩;obtain ⟨K,hK⟩:∃ K,K=65536:=⟨_,rfl⟩;refine qtF hK hc (Nat.lt_of_lt_of_le (q2b _) ?_);rw [← Nat.pow_add];exact Nat.pow_le_pow_right Oq Oq
 refine ⟨hG.r,hG.c,hG.m,fun j i x hj hi h=>?_,fun j i x hj hi h=>?_⟩
 ·unfold rgF at h
  split at h
  ·have h:=Option.some.inj h; rw [← h]; exact q9C
  ·exact hG.u j i x hj hi h
 ·unfold rgF at h
  split at h
  ·have h:=Option.some.inj h; rw [← h]; exact key i hi
  ·exact hG.v j i x hj hi h
def qf9 {F:Nat→Nat→Option Nat} {mi:List Int} {n:Nat} {cols:List Int} {num den:Nat} (hn:n≤100) (hc:cols.length≤1000000):LUb (qo4 F mi n cols num den)∧(qo4 F mi n cols num den).rows.length≤n:=by
 have hnn:n*n≤100*100:=Nat.mul_le_mul hn hn;unfold qo4
 by_cases h:(q3M F mi n cols num den n).1=0
 ·rw [if_pos h];have hG:=qaJ (F:=F) (mi:=mi) (n:=n) (cols:=cols) (num:=num) (den:=den) n h;generalize (q3M F mi n cols num den n).2.2=S at *;have k1:∀ j i x,fLt S j i=some x→q0M x∧x < 18446744073709551616:=fun j i x hx=>by
   unfold fLt at hx
   split at hx
   ·cases hx; exact hG.l _ _
   ·cases hx
  have k2:∀ j i x,fUt S j i=some x→q0M x∧x < 18446744073709551616:=fun j i x hx=>by
   unfold fUt at hx
   split at hx
   ·cases hx; exact hG.u _ _
   ·cases hx
  have h1:TOk (fLt S) n n:=⟨by omega,by omega,by omega,fun j i x _ _ hx=>(k1 j i x hx).2,fun j i x _ _ hx=>(k1 j i x hx).1⟩;have h2:TOk (fUt S) n n:=⟨by omega,by omega,by omega,fun j i x _ _ hx=>(k2 j i x hx).2,fun j i x _ _ hx=>(k2 j i x hx).1⟩;have l1:=q1N (f:=fLt S) (R:=n) n;have l2:=q1N (f:=fUt S) (R:=n) n;have hrl:=hG.len;unfold qsc;refine ⟨⟨?_,hc,?_,?_,?_,?_,?_,?_,h1.vl.2.2.2,h2.vl.2.2.2⟩,?_⟩ <;> dsimp only <;> (try rw [List.length_map]) <;> omega
 ·rw [if_neg h];exact ⟨⟨by simp,by simp,by simp,by simp,by simp,by simp,by simp,by simp,by simp,by simp⟩,Nat.zero_le _⟩
end Go.Proofs.YtfmojhhokfkdaaaGreatDoor
namespace Go.Sp
open Go Go.E
end Go.Sp
namespace Go.Proofs.YtfmojhhokfkdaaaGreatDoor
open Go Go.E Go.Sp
def qab {f:LUt} {l:List Nat} (hb:LUb f) (hn:f.rows.length≤100) (hul:∀ x ∈ l,x < 18446744073709551616) (hl:l.length≤1000000):ACt 136 [pLU f,pF l] (.tu [pF (lgE f l).1,iv (lgE f l).2]):=by
 refine qjt (ids:=[5000]) (qlx hb hn hul hl) ?_;generalize (lgE f l).1=xs;generalize (lgE f l).2=e;have h1:q3H (q0Q h0 5000 ⟨43,none,xs.map fun z:Nat=>uv z,false⟩) (.ow 5000 none 0 xs.length)=some (pF xs,[5000]):=by
  unfold q3H;dsimp only;rw [q0H,Option.bind_some,if_pos ⟨rfl,rfl,fun x hx=>clU x hx⟩,List.drop_zero,List.take_of_length_le (by rw [List.length_map]; exact Nat.le_refl _)]
 have h2:q3H (q0Q h0 5000 ⟨43,none,xs.map fun z:Nat=>uv z,false⟩) (iv e)=some (iv e,[]):=by
  unfold q3H;dsimp only;exact if_pos trivial
 unfold q2Y q2Y q2Y clo;simp only [h1,h2]
 rfl
section
variable (C:Nat) (F:Nat→Nat→Option Nat) (f:LUt) (b:List Nat) (dbl:Bool)
end
def qeJ {x:List Nat} {o:List Int} {n:Nat} (hx:q0z x):∀ k,q0z (scS x o n k)
 | 0=>fun v hv=>by
  unfold scS at hv;rw [List.mem_replicate] at hv;rw [hv.2]; exact ⟨by omega,by unfold q0M; simp⟩
 | k+1=>fun v hv=>by
  unfold scS at hv
  rcases List.mem_or_eq_of_mem_set hv with hv | rfl
  ·exact qeJ hx k v hv
  ·exact qb9 hx _
def qb2 {f:LUt} {l:List Nat} (hb:LUb f) (hul:∀ x ∈ l,x < 18446744073709551616) (h:(lgE f l).2=0):q4T f=0∧l.length=f.rows.length∧q0z l∧(lgE f l).1.length=f.rows.length∧q0z (lgE f l).1:=by
 unfold lgE at h ⊢
 by_cases hz:qaw (q4T f) f.rows.length l=0
 case neg=>rw [if_pos hz] at h; exact absurd h hz
 rw [if_neg (not_not_intro hz)] at h ⊢;obtain ⟨h1,h2,h3⟩:=qmj hz;have hf:=qa8 hb h1;have hfl:q0z l:=fun x hx=>⟨hul x hx,h3 x hx⟩;have hlr:∀ y,geL (cLo f) f.rows.length 0 (gaS l f.rows f.rows.length)=some y→y.length=f.rows.length∧q0z y:=fun y hy=>qaE _ _ _ y qaF (qaG hfl) hy;have dU:∀ k,k < f.rows.length→ofZ (cUp f k k)≠0:=fun k hk=>by
  obtain ⟨m,x,m1,m2,m3⟩:=hf.dg k hk;have:=qaR (t:=m.length) (e:=(k,x)) (hf.U.nd k hk) (by rw [m1]; simp);unfold cUp;rw [this];exact m2
 refine ⟨h1,h2,hfl,?_⟩;generalize geL (cLo f) f.rows.length 0 (gaS l f.rows f.rows.length)=R1 at *;cases R1 with
 | none=>cases h
 | some y =>
  obtain ⟨q1,q2⟩:=hlr y rfl;have hur:∀ z,geU (cUp f) f.rows.length f.rows.length y=some z→z.length=f.rows.length∧q0z z:=fun z hz=>qfQ dU _ y z (Nat.le_refl _) q1 q2 hz;dsimp only at h ⊢;generalize geU (cUp f) f.rows.length f.rows.length y=R2 at *;cases R2 with
  | none=>cases h
  | some z=>exact ⟨q42 _,qeJ (hur z rfl).2 _⟩
section
variable {dbl:Bool} {x:List (Nat × Nat)} {d l:List Nat} {n:Nat}
end
section
variable {f g:Nat}
def qiw {l:List Nat} (hl:∀ x ∈ l,x < 18446744073709551616∧q1M x≠3) (hn:l.length≤1000):ACt 170 [pF l] (bv false):=by
 refine ac0 Tryz.func170 Tryz.ntmps170 [.tmp 2] ?_;refine wk ?_;refine q0B (fun i=>i≤l.length) [5,6] [] Lk Lk (fun i:Nat=>[(7,iv i)]) (fun _=>[]) (fun i=>l.length-i) 0 (Nat.zero_le _) ?_ ?_
 ·refine LeM [] rfl rfl ?_;refine Zz ?_
  rfl
 ·intro i hi
  by_cases hlt:i < l.length
  ·obtain ⟨x,hx⟩:∃ x,l[i]?=some x:=⟨_,List.getElem?_eq_getElem hlt⟩;obtain ⟨h1,h2⟩:=hl x (List.mem_of_getElem? hx);have C1:=q7e h1;have q:(((q1M x:Nat):Int) == 3)=false:=by
    simp; omega
   refine wk1 (x2 hx q) ?_;refine ⟨i+1,by omega,by omega,?_⟩;refine LeM [] rfl rfl ?_;refine Zz ?_;omega
  ·exact wk trivial
def qix (hf:f < 18446744073709551616) (h:q1M f≠3) (hg:g < 18446744073709551616) (hgf:q1M g≠3):ACt 96 [uv f,uv g] (.tu [iv (qjO (q6Q f) (q6Q g)),bv true]):=by
 have C1:ACt 170 [.sl none [uv f,uv g]] (bv false):=qiw (l:=[f,g]) (fun x hx=>by simp at hx; rcases hx with rfl | rfl <;> exact ⟨by assumption,by assumption⟩) (by simp);have N1:Nz (bv false):=q9s;have C2:=q9D hf;have C3:=q9D hg;unfold qjO;generalize q6Q f=x at *;generalize q6Q g=y at *;refine ac0 Tryz.func96 Tryz.ntmps96 [.tmp 4,.tmp 5] ?_
 by_cases h1:x < y
 ·rw [if_pos h1];exact wk trivial
 ·rw [if_neg h1]
  by_cases h2:y < x
  ·rw [if_pos h2];exact wk trivial
  ·rw [if_neg h2];exact wk trivial
def qbM (hf:f < 18446744073709551616) (h:q1M f≠3):ACt 82 [uv f] (bv false):=by
 have:=qnF hf
 rwa [decide_eq_false h] at this
def qhe (hf:f < 18446744073709551616) (h:q1M f≠3) (hg:g < 18446744073709551616) (hgf:q1M g≠3):ACt 98 [uv f,uv g] (.tu [iv (qjO (q6Q f) (q6Q g)),bv true]):=by
 have C1:=qbM hf h;have C4:=qbM hg hgf;have C2:=qe0 hf;have C3:=qe0 hg;unfold qjO;generalize q6Q f=x at *;generalize q6Q g=y at *;refine ac0 Tryz.func98 Tryz.ntmps98 [.tmp 4,.tmp 5] ?_
 by_cases h1:x < y
 ·rw [if_pos h1];exact wk trivial
 ·rw [if_neg h1]
  by_cases h2:y < x
  ·rw [if_pos h2];exact wk trivial
  ·rw [if_neg h2];exact wk trivial
end
section
variable {l:List Nat}
end
end Go.Proofs.YtfmojhhokfkdaaaGreatDoor
namespace Go.E
open Go Go.RowKit
def qg7 {T:TypeId} {id n:Nat} {k:Kd} {h h':Hp} {l:List PV} [NL] (h1:h id=some ⟨T,k,l,false⟩) (hc:ClL l) (h2:h' id=none) (hn:l.length=n):LeV (q05 []) h h' (.ow id k 0 n) (.sl k l):=q4l (T:=T) (l:=l) h1 hc (fun i hi=>by
 have hi:some i=some id:=hi;cases hi;exact h2) (by rw [List.drop_zero]; exact List.take_of_length_le (by omega))
end Go.E
namespace Go.Sp
open Go.E Go.Proofs.YtfmojhhokfkdaaaGreatDoor
def q2U {x:Nat} (h:¬ (x / 4503599627370496 % 2048=2047∧x % 4503599627370496≠0)):q1M x≠3:=by
 unfold q1M;rw [if_neg h]
 split
 ·omega
 ·split <;> omega
def qbg {mode:Int} {neg:Bool} {n:Nat} {q:Int} (hn:n < 9007199254740992):q1M (q5r mode neg n q)≠3:=by
 refine q2U ?_;unfold q5r
 split
 ·unfold sb
  split <;> omega
 ·split
  ·unfold qbQ sb
   split <;> split <;> omega
  ·obtain ⟨m,hm⟩:∃ m,m=(q+1075).toNat:=⟨_,rfl⟩;have:m≤2046:=by omega
   rw [← hm];unfold sb
   split <;> omega
def qo2 {mode:Int} {neg:Bool} {n:Nat} {q:Int} (hn:n≤9007199254740992):q1M (fin mode neg n q)≠3:=by
 unfold fin
 split
 ·exact qbg Oq
 ·exact qbg Oq
def qtG {mode a b:Int} (hb:b≠0):q1M (fQ mode a b)≠3:=by
 unfold fQ
 split
 ·exact q2U Oq
 ·rename_i ha;obtain ⟨u,r,_,h,_,h4,_⟩:=qe1 (mode:=mode) (neg:=decide (a < 0) != decide (b < 0)) (N:=a.natAbs) (D:=b.natAbs) (K:=1074) Oq Oq Oq;rw [h];exact qo2 h4
end Go.Sp
namespace Go.Proofs.YtfmojhhokfkdaaaGreatDoor
open Go Go.E Go.Sp
def unN (n j:Nat):List Nat:=(List.replicate n 0).set j 4607182418800017408
section
variable {f:Nat→Nat→Option Nat} {g:LUt} {R C n j:Nat}
def q4Z:(unN n j).length=n:=by unfold unN; simp
def q9b:∀ x ∈ unN n j,x < 18446744073709551616:=fun x hx=>by
 unfold unN at hx
 rcases List.mem_or_eq_of_mem_set hx with h | h
 ·have:=(List.mem_replicate.1 h).2; omega
 ·omega
def qmR:(List.replicate n (PV.vl (.int .u64 0))).set j (PV.vl (.int .u64 4607182418800017408))=(unN n j).map fun z:Nat=>uv z:=by
 unfold unN;rw [List.map_set,List.map_replicate]
 rfl
def qeo {y:List Nat}:q1M (lwV f R C y)≠3:=by
 unfold lwV
 split
 ·exact q2U Oq
 ·split
  ·exact q2U Oq
  ·exact qtG (by assumption)
noncomputable def esR (f:Nat→Nat→Option Nat) (g:LUt) (n:Nat):Nat→Nat→Nat→Int→Nat × Int × Int
 | 0,_,b,a=>(b,a,0)
 | k+1,j,b,a=>if (lgE g (unN n j)).2≠0 then (0,0,(lgE g (unN n j)).2) else
   if qjO (q6Q (lwV f n n (lgE g (unN n j)).1)) (q6Q b) > 0∨a < 0 then esR f g n k (j+1) (lwV f n n (lgE g (unN n j)).1) j else esR f g n k (j+1) b a
noncomputable def esA (R C:Nat) (f:Nat→Nat→Option Nat) (g:LUt):Nat × Int × Int:=if q4T g≠0 then (0,0,q4T g) else if R≠g.rows.length∨C≠g.rows.length then (0,0,5) else esR f g g.rows.length g.rows.length 0 0 (-1)
def qaT (h:TOk f R C) (hR:R≤20) (hC:C≤20) (hb:LUb g) (hn:g.rows.length≤20):ACt 67 [pT R C f,pLU g] (.tu [uv (esA R C f g).1,iv (esA R C f g).2.1,iv (esA R C f g).2.2]):=by
 have C1:=q5A h;have C2:=qey hb;have hT:=h;obtain ⟨res,hres⟩:∃ res,res=esA R C f g:=⟨_,rfl⟩;rw [← hres];unfold esA at hres;have C3:=fun (n j:Nat) (hn:n≤1000000)=>qmu (f:=g) (l:=unN n j) hb (by omega) q9b (by rw [q4Z]; omega);have hE:=fun (n j:Nat) (q:(lgE g (unN n j)).2=0)=>qb2 hb q9b q;have C4:=fun (q1:R=g.rows.length) (q2:C=g.rows.length) (l:List Nat) (q3:q0z l) (q4:l.length=C)=>q6o (y:=l) h hR hC q3 q4;unfold pT q0b at *;unfold pLU at C2 C3 ⊢;generalize (tM f R C).1=st at *;generalize (tM f R C).2.1=ix at *;generalize (tM f R C).2.2=vl at *;generalize q4T g=e at *
 by_cases h1:e=0
 rotate_left
 ·rw [if_pos h1] at hres;subst hres;have q1:(e == 0)=false:=by simpa using h1
  have q2:(e != 0)=true:=by simpa using h1
  clear C3 C4;refine ac0 Tryz.func67 Tryz.ntmps67 [.tmp 4,.tmp 5,.tmp 6] ?_;refine wk1 (x2 q1 q2) ?_
  rfl
 subst h1;rw [if_neg (show ¬ (0:Int)≠0 by decide)] at hres
 by_cases h2:R=g.rows.length
 rotate_left
 ·rw [if_pos (show R≠g.rows.length∨C≠g.rows.length from .inl h2)] at hres;subst hres;have q1:((R:Int) != (g.rows.length:Int))=true:=by simp; omega
  clear C3 C4;refine ac0 Tryz.func67 Tryz.ntmps67 [.tmp 4,.tmp 5,.tmp 6] ?_;refine wk1 q1 ?_
  rfl
 have q1:((R:Int) != (g.rows.length:Int))=false:=by simp; omega
 by_cases h3:C=g.rows.length
 rotate_left
 ·rw [if_pos (show R≠g.rows.length∨C≠g.rows.length from .inr h3)] at hres;subst hres;have q2:((C:Int) != (g.rows.length:Int))=true:=by simp; omega
  clear C3 C4;refine ac0 Tryz.func67 Tryz.ntmps67 [.tmp 4,.tmp 5,.tmp 6] ?_;refine wk1 (x2 q1 q2) ?_
  rfl
 have q2:((C:Int) != (g.rows.length:Int))=false:=by simp; omega
 rw [if_neg (show ¬ (R≠g.rows.length∨C≠g.rows.length) by omega)] at hres;replace C4:=C4 h2 h3;rw [← h3] at hres hE;obtain rfl:R=C:=by omega
 replace C3:=fun j=>C3 R j Oq;replace hE:=fun j=>hE R j;obtain ⟨G,hG⟩:∃ G:Nat→List Nat × Int,G=fun j=>lgE g (unN R j):=⟨_,rfl⟩;have hGj:∀ j,G j=lgE g (unN R j):=fun j=>congrFun hG j;have hstep:∀ k j b a,esR f g R (k+1) j b a=if (G j).2≠0 then (0,0,(G j).2) else if qjO (q6Q (lwV f R R (G j).1)) (q6Q b) > 0∨a < 0 then esR f g R k (j+1) (lwV f R R (G j).1) j else esR f g R k (j+1) b a:=fun k j b a=>by rw [hG]; rfl
 have h0:∀ j b a,esR f g R 0 j b a=(b,a,0):=fun _ _ _=>rfl;simp only [← hGj] at C3 hE;clear hG hGj;obtain ⟨lw,hlw⟩:∃ lw:List Nat→Nat,lw=fun l=>lwV f R R l:=⟨_,rfl⟩;have hl1:∀ l,lw l < 18446744073709551616∧q1M (lw l)≠3:=fun l=>by rw [hlw]; exact ⟨qks,qeo⟩
 have hl2:∀ l,lwV f R R l=lw l:=fun l=>(congrFun hlw l).symm;simp only [hl2] at C4 hstep;clear hlw hl2;generalize esR f g R=E at *;refine ac0 Tryz.func67 Tryz.ntmps67 [.tmp 4,.tmp 5,.tmp 6] ?_;refine wk1 (x2 q1 q2) ?_;refine q0B (fun q:Nat × Nat × Int=>q.1≤R∧q.2.1 < 18446744073709551616∧q1M q.2.1≠3∧E (R-q.1) q.1 q.2.1 q.2.2=res) [2,3,45] [2,3] Lk Lk (fun q=>[(46,iv q.1),(8,uv q.2.1),(9,iv q.2.2)]) (fun _=>[]) (fun q=>R-q.1) (0,0,-1) ⟨Nat.zero_le _,by simp only; omega,q2U (by simp only; omega),hres.symm⟩ ?_ ?_
 ·refine LeM [] rfl rfl ?_;refine Zz ?_
  first | done | trivial | rfl | exact ⟨rfl,rfl⟩
 ·rintro ⟨j,b,a⟩ ⟨hj,hb1,hb2,hE2⟩;simp only at hj hb1 hb2 hE2 ⊢
  by_cases hlt:j < R
  ·have q3:(j:Int) < R:=by omega
   rw [show R-j=(R-(j+1))+1 by omega,hstep] at hE2;have c3:=C3 j;have hEj:=hE j;have hun:=qmR (n:=R) (j:=j);have ul:=q4Z (n:=R) (j:=j);generalize unN R j=U at *;generalize (G j).1=l at *;generalize (G j).2=e at *;clear C3 hE;refine wk1 (x3 q3 hun ul) ?_;refine q0q (LeM [] rfl rfl (xs:=[(2,.pt 2 0 0),(3,.pt 3 0 0),(8,uv (b:Nat)),(9,iv a),(10,iv j),(11,pF U),(45,iv R),(46,iv j)]) (kv:=[]) (bs:=[(2,⟨26,some 5,[.ag [iv R,iv R,pI st,pI ix,pF vl]],false⟩),(3,⟨28,some 8,[.ag [pI g.rows,pI g.cols,pI g.ls,pI g.li,pF g.lv,pI g.us,pI g.ui,pF g.uv]],false⟩)]) (kb:=[]) ?_) ?_
   ·try refine Zz ?_
    exact qg7 (T:=43) rfl clU rfl (by rw [List.length_map,ul])
   by_cases h4:e=0
   rotate_left
   ·have q4:(e != 0)=true:=by simpa using h4
    rw [if_pos h4] at hE2;subst hE2;clear C4;refine wk1 q4 ?_
    first | done | trivial | rfl | trivial
   obtain ⟨_,_,_,k1,k2⟩:=hEj h4;subst h4;rw [if_neg (show ¬ (0:Int)≠0 by decide)] at hE2;have c4:=C4 l k2 Oq;obtain ⟨v1,v2⟩:=hl1 l;generalize lw l=v at *;have c5:=qix v1 v2 hb1 hb2;generalize qjO (q6Q v) (q6Q b)=s at *;clear C4
   by_cases h5:s > 0
   ·rw [if_pos (.inl h5)] at hE2;refine wk1 h5 ?_;refine ⟨(j+1,v,(j:Int)),⟨by simp only; omega,v1,v2,hE2⟩,by simp only; omega,?_⟩;simp only;refine LeM [] rfl rfl ?_;refine Zz ?_
    first | done | trivial | omega | exact ⟨by omega,rfl⟩
   ·by_cases h6:a < 0
    ·rw [if_pos (.inr h6)] at hE2;refine wk1 (x2 h5 h6) ?_;refine ⟨(j+1,v,(j:Int)),⟨by simp only; omega,v1,v2,hE2⟩,by simp only; omega,?_⟩;simp only;refine LeM [] rfl rfl ?_;refine Zz ?_
     first | done | trivial | omega | exact ⟨by omega,rfl⟩
    ·rw [if_neg (by omega)] at hE2;refine wk1 (x2 h5 h6) ?_;refine ⟨(j+1,b,a),⟨by simp only; omega,hb1,hb2,hE2⟩,by simp only; omega,?_⟩;simp only;refine LeM [] rfl rfl ?_;refine Zz ?_
     first | done | trivial | omega | exact ⟨by omega,rfl⟩
  ·obtain rfl:j=R:=by omega
   have q3:¬ (j:Int) < j:=by omega
   rw [Nat.sub_self,h0] at hE2;subst hE2;clear C3 C4;refine wk1 q3 ?_
   first | done | trivial | rfl | trivial
def q92 (h:TOk f R C) (hR:R≤20) (hC:C≤20) (hb:LUb g) (hn:g.rows.length≤20):ACt 68 [pT R C f,pLU g] (.tu [uv (esA R C f g).1,iv (esA R C f g).2.1,iv (esA R C f g).2.2]):=by
 have C1:=q7I h;have C2:=q93 hb;have hT:=h;obtain ⟨res,hres⟩:∃ res,res=esA R C f g:=⟨_,rfl⟩;rw [← hres];unfold esA at hres;have C3:=fun (n j:Nat) (hn:n≤1000000)=>qab (f:=g) (l:=unN n j) hb (by omega) q9b (by rw [q4Z]; omega);have hE:=fun (n j:Nat) (q:(lgE g (unN n j)).2=0)=>qb2 hb q9b q;have C4:=fun (l:List Nat) (q3:∀ x ∈ l,x < 18446744073709551616) (q4:l.length≤1000000)=>q4U (y:=l) h hR hC q3 q4;unfold pT q0b at *;unfold pLU at C2 C3 ⊢;generalize (tM f R C).1=st at *;generalize (tM f R C).2.1=ix at *;generalize (tM f R C).2.2=vl at *;generalize q4T g=e at *
 by_cases h1:e=0
 rotate_left
 ·rw [if_pos h1] at hres;subst hres;have q2:(e != 0)=true:=by simpa using h1
  clear C3 C4;refine ac0 Tryz.func68 Tryz.ntmps68 [.tmp 4,.tmp 5,.tmp 6] ?_;refine wk1 q2 ?_
  rfl
 subst h1;rw [if_neg (show ¬ (0:Int)≠0 by decide)] at hres
 by_cases h2:R=g.rows.length
 rotate_left
 ·rw [if_pos (show R≠g.rows.length∨C≠g.rows.length from .inl h2)] at hres;subst hres;have q1:((R:Int) != (g.rows.length:Int))=true:=by simp; omega
  clear C3 C4;refine ac0 Tryz.func68 Tryz.ntmps68 [.tmp 4,.tmp 5,.tmp 6] ?_;refine wk1 q1 ?_
  rfl
 have q1:((R:Int) != (g.rows.length:Int))=false:=by simp; omega
 by_cases h3:C=g.rows.length
 rotate_left
 ·rw [if_pos (show R≠g.rows.length∨C≠g.rows.length from .inr h3)] at hres;subst hres;have q2:((C:Int) != (g.rows.length:Int))=true:=by simp; omega
  clear C3 C4;refine ac0 Tryz.func68 Tryz.ntmps68 [.tmp 4,.tmp 5,.tmp 6] ?_;refine wk1 (x2 q1 q2) ?_
  rfl
 have q2:((C:Int) != (g.rows.length:Int))=false:=by simp; omega
 rw [if_neg (show ¬ (R≠g.rows.length∨C≠g.rows.length) by omega)] at hres;rw [← h3] at hres hE;obtain rfl:R=C:=by omega
 replace C3:=fun j=>C3 R j Oq;replace hE:=fun j=>hE R j;obtain ⟨G,hG⟩:∃ G:Nat→List Nat × Int,G=fun j=>lgE g (unN R j):=⟨_,rfl⟩;have hGj:∀ j,G j=lgE g (unN R j):=fun j=>congrFun hG j;have hstep:∀ k j b a,esR f g R (k+1) j b a=if (G j).2≠0 then (0,0,(G j).2) else if qjO (q6Q (lwV f R R (G j).1)) (q6Q b) > 0∨a < 0 then esR f g R k (j+1) (lwV f R R (G j).1) j else esR f g R k (j+1) b a:=fun k j b a=>by rw [hG]; rfl
 have h0:∀ j b a,esR f g R 0 j b a=(b,a,0):=fun _ _ _=>rfl;simp only [← hGj] at C3 hE;clear hG hGj;obtain ⟨lw,hlw⟩:∃ lw:List Nat→Nat,lw=fun l=>lwV f R R l:=⟨_,rfl⟩;have hl1:∀ l,lw l < 18446744073709551616∧q1M (lw l)≠3:=fun l=>by rw [hlw]; exact ⟨qks,qeo⟩
 have hl2:∀ l,lwV f R R l=lw l:=fun l=>(congrFun hlw l).symm;have hl3:∀ l,q0z l→l.length=R→lwA R R f l=(lw l,0):=fun l q3 q4=>by
  unfold lwA;rw [if_neg (not_not_intro rfl),if_neg (not_not_intro q4),if_pos fun x hx=>(q3 x hx).2,hl2]
 simp only [hl2] at hstep;clear hlw hl2;generalize esR f g R=E at *;generalize lwA R R f=LA at *;have q0:((g.rows.length:Nat):Int)=R:=by omega
 refine ac0 Tryz.func68 Tryz.ntmps68 [.tmp 4,.tmp 5,.tmp 6] ?_;refine wk1 (x3 q1 q2 q0) ?_;refine q0B (fun q:Nat × Nat × Int=>q.1≤R∧q.2.1 < 18446744073709551616∧q1M q.2.1≠3∧E (R-q.1) q.1 q.2.1 q.2.2=res) [2,3,9] [2,3] Lk Lk (fun q=>[(12,iv q.1),(10,uv q.2.1),(11,iv q.2.2)]) (fun _=>[]) (fun q=>R-q.1) (0,0,-1) ⟨Nat.zero_le _,by simp only; omega,q2U (by simp only; omega),hres.symm⟩ ?_ ?_
 ·refine LeM [] rfl rfl ?_;refine Zz ?_
  first | done | trivial | rfl | exact ⟨rfl,rfl⟩
 ·rintro ⟨j,b,a⟩ ⟨hj,hb1,hb2,hE2⟩;simp only at hj hb1 hb2 hE2 ⊢
  by_cases hlt:j < R
  ·have q3:(j:Int) < R:=by omega
   rw [show R-j=(R-(j+1))+1 by omega,hstep] at hE2;have c3:=C3 j;have hEj:=hE j;have hun:=qmR (n:=R) (j:=j);have ul:=q4Z (n:=R) (j:=j);generalize unN R j=U at *;generalize (G j).1=l at *;generalize (G j).2=e at *;clear C3 hE;refine wk1 (x3 q3 hun ul) ?_;refine q0q (LeM [] rfl rfl (xs:=[(2,.pt 2 0 0),(3,.pt 3 0 0),(9,iv R),(10,uv (b:Nat)),(11,iv a),(12,iv j),(13,pF U)]) (kv:=[]) (bs:=[(2,⟨26,some 5,[.ag [iv R,iv R,pI st,pI ix,pF vl]],false⟩),(3,⟨28,some 8,[.ag [pI g.rows,pI g.cols,pI g.ls,pI g.li,pF g.lv,pI g.us,pI g.ui,pF g.uv]],false⟩)]) (kb:=[]) ?_) ?_
   ·try refine Zz ?_
    exact qg7 (T:=43) rfl clU rfl (by rw [List.length_map,ul])
   by_cases h4:e=0
   rotate_left
   ·have q4:(e != 0)=true:=by simpa using h4
    rw [if_pos h4] at hE2;subst hE2;clear C4;refine wk1 q4 ?_
    first | done | trivial | rfl | trivial
   obtain ⟨_,_,_,k1,k2⟩:=hEj h4;subst h4;rw [if_neg (show ¬ (0:Int)≠0 by decide)] at hE2;have c4:=C4 l (fun x hx=>(k2 x hx).1) Oq;rw [hl3 l k2 (by omega)] at c4;dsimp only at c4;obtain ⟨v1,v2⟩:=hl1 l;generalize lw l=v at *;have c5:=qhe v1 v2 hb1 hb2;generalize qjO (q6Q v) (q6Q b)=s at *;clear C4
   by_cases h6:a < 0
   ·rw [if_pos (.inr h6)] at hE2;refine wk1 h6 ?_;refine ⟨(j+1,v,(j:Int)),⟨by simp only; omega,v1,v2,hE2⟩,by simp only; omega,?_⟩;simp only;refine LeM [] rfl rfl ?_;refine Zz ?_
    first | done | trivial | omega | exact ⟨by omega,rfl⟩
   ·by_cases h5:s > 0
    ·rw [if_pos (.inl h5)] at hE2;refine wk1 (x2 h5 h6) ?_;refine ⟨(j+1,v,(j:Int)),⟨by simp only; omega,v1,v2,hE2⟩,by simp only; omega,?_⟩;simp only;refine LeM [] rfl rfl ?_;refine Zz ?_
     first | done | trivial | omega | exact ⟨by omega,rfl⟩
    ·rw [if_neg (by omega)] at hE2;refine wk1 (x2 h5 h6) ?_;refine ⟨(j+1,b,a),⟨by simp only; omega,hb1,hb2,hE2⟩,by simp only; omega,?_⟩;simp only;refine LeM [] rfl rfl ?_;refine Zz ?_
     first | done | trivial | omega | exact ⟨by omega,rfl⟩
  ·obtain rfl:j=R:=by omega
   have q3:¬ (j:Int) < j:=by omega
   rw [Nat.sub_self,h0] at hE2;subst hE2;clear C3 C4;refine wk1 q3 ?_
   first | done | trivial | rfl | trivial
end
end Go.Proofs.YtfmojhhokfkdaaaGreatDoor
namespace Go.E
open Go Go.RowKit
section
variable {J:Nat→Prop} {h:Hp} {a n:Nat} {T:TypeId} {xs:List PV} {v1 v2 v3:Value}
def qmU {i j k:Nat} (ti:(if i=5000 then some a else none)=some k) (tj:(if j=5000 then some a else none)=some k):i=j:=by
 split at ti
 ·split at tj
  ·rename_i e1 e2; rw [e1,e2]
  ·cases tj
 ·cases ti
def b5 [NL] {f:Nat→PV} {g:Nat→PV} (hJ:∀ i,¬ J i) (hb:h a=some ⟨T,none,xs,false⟩) (hc:ClL xs) (hv:∀ t,LeV (fun i=>if i=5000 then some a else none) h (q0Q h0 5000 ⟨T,none,xs,false⟩) (f t) (g t)):Le J f h g (q0Q h0 5000 ⟨T,none,xs,false⟩) :=
 q4N (fun i=>if i=5000 then some a else none) (fun i b' hb'=>by
  by_cases hi:i=5000
  ·subst hi;rw [q0H] at hb'; cases hb';unfold LeB;exact ⟨_,hb,rfl,rfl,⟨rfl,rfl⟩,q0G rfl hc⟩
  ·rw [q0A hi] at hb'; cases hb') (fun i j k b c hi hj ti tj=>qmU ti tj) hv fun i hi=>(hJ i hi).elim
def b5n [NL] {f:Nat→PV} {g:Nat→PV} (hJ:∀ i,¬ J i) (hv:∀ t,LeV (fun _=>none) h (q0Q h0 5000 ⟨T,none,[],false⟩) (f t) (g t)):Le J f h g (q0Q h0 5000 ⟨T,none,[],false⟩) :=
 q4N (fun _=>none) (fun i b' hb'=>by
  by_cases hi:i=5000
  ·subst hi;rw [q0H] at hb'; cases hb'
   rfl
  ·rw [q0A hi] at hb'; cases hb') (fun i j k b c hi hj ti tj=>by cases ti) hv fun i hi=>(hJ i hi).elim
def LePo [NL] (hJ:∀ i,¬ J i) (hb:h a=some ⟨T,none,xs,false⟩) (hc:ClL xs):Le J (fun _=>.ag [.vl v1,.vl v2,.ow a none 0 n]) h (fun _=>.ag [.vl v1,.vl v2,.ow 5000 none 0 n]) (q0Q h0 5000 ⟨T,none,xs,false⟩) :=
 b5 hJ hb hc fun _=>.ag rfl fun i x y hx hy=>by
  rcases i with _ | _ | _ | i
  ·cases hx; cases hy; exact .cl trivial
  ·cases hx; cases hy; exact .cl trivial
  ·cases hx; cases hy; exact .ow (if_pos rfl) q0H
  ·simp at hx
def LePt [NL] (hJ:∀ i,¬ J i) (hb:h a=some ⟨T,none,xs,false⟩) (hc:ClL xs):Le J (fun _=>.tu [.ag [.vl v1,.vl v2,.ow a none 0 n],.vl v3]) h (fun _=>.tu [.ag [.vl v1,.vl v2,.ow 5000 none 0 n],.vl v3]) (q0Q h0 5000 ⟨T,none,xs,false⟩) :=
 b5 hJ hb hc fun _=>.tu rfl fun i x y hx hy=>by
  rcases i with _ | _ | i
  ·cases hx; cases hy;exact .ag rfl fun i x y hx hy=>by
    rcases i with _ | _ | _ | i
    ·cases hx; cases hy; exact .cl trivial
    ·cases hx; cases hy; exact .cl trivial
    ·cases hx; cases hy; exact .ow (if_pos rfl) q0H
    ·simp at hx
  ·cases hx; cases hy; exact .cl trivial
  ·simp at hx
def LePn [NL] (hJ:∀ i,¬ J i):Le J (fun _=>.tu [.ag [.vl v1,.vl v2,.vl (.slice none 0 0)],.vl v3]) h (fun _=>.tu [.ag [.vl v1,.vl v2,.ow 5000 none 0 0],.vl v3]) (q0Q h0 5000 ⟨T,none,[],false⟩) :=
 b5n hJ fun _=>.tu rfl fun i x y hx hy=>by
  rcases i with _ | _ | i
  ·cases hx; cases hy;exact .ag rfl fun i x y hx hy=>by
    rcases i with _ | _ | _ | i
    ·cases hx; cases hy; exact .cl trivial
    ·cases hx; cases hy; exact .cl trivial
    ·cases hx; cases hy; exact .nilow rfl q0H rfl
    ·simp at hx
  ·cases hx; cases hy; exact .cl trivial
  ·simp at hx
end
end Go.E
namespace Go.Proofs.YtfmojhhokfkdaaaGreatDoor
open Go Go.E Go.Sp
def q8X (n:Nat):q2W (qah n) n:=by
 refine ⟨by rw [q7A],fun x hx=>?_,?_⟩
 ·unfold qah at hx;obtain ⟨k,hk,rfl⟩:=List.mem_map.1 hx;have:=List.mem_range.1 hk;omega
 ·unfold qah;unfold List.Nodup;rw [List.pairwise_map];exact List.nodup_range.imp fun h q=>h (Int.ofNat_inj.1 q)
def qb7 {n:Nat} (hn:n≤1000000):ACt 69 [iv n] (pI (qah n)):=by
 refine ac0 Tryz.func69 Tryz.ntmps69 [.tmp 2] ?_;refine wk ?_;refine q0B (fun i=>i≤n) [0] [] Lk Lk (fun i:Nat=>[(4,iv i),(3,.ow 1001 none 0 i)]) (fun i=>[(1001,⟨3,none,(qah i).map fun z=>iv z,false⟩)]) (fun i=>n-i) 0 (Nat.zero_le _) ?_ ?_
 ·refine LeM [(1001,some 5)] rfl rfl ?_;refine Zz ?_
  first | done | trivial | rfl | exact ⟨rfl,rfl⟩
 ·intro i hi;have l1:=q7A i;have l2:=qdf i
  by_cases hlt:i < n
  ·have q:(i:Int) < n:=by omega
   refine wk1 (x2 q l1) ?_;refine ⟨i+1,by omega,by omega,?_⟩;rw [l2];refine LeM [(1001,some 14)] rfl rfl ?_;refine Zz ?_;omega
  ·obtain rfl:i=n:=by omega
   have q:¬ (i:Int) < i:=by omega
   exact wk1 (x2 q l1) trivial
section
variable {raw:List Nat} {r c:Nat} {st:Int} {g:LUt}
def q8g (hr:raw.length≤9223372036854775807) (h1:r≤64) (h2:c≤64) (h3 : -9223372036854775808≤st) (h4:st≤9223372036854775807) :
  qdZ 70 [pF raw,iv r,iv c,iv st] h0 (.ag [iv r,iv c,.ow 5000 none 0 (r*c)]) (q0Q h0 5000 ⟨43,none,(q5X raw 500 (q02 st 4) (r*c)).map fun z:Nat=>uv z,false⟩):=by
 have hJ:∀ i,¬ (h0 i≠none):=fun i h=>h rfl;have hm:r*c≤64*64:=Nat.mul_le_mul h1 h2;have w1:IntKind.i64.wrap ((r:Int)*(c:Int))=((r*c:Nat):Int):=by rw [← Int.natCast_mul,i64_in (by omega) (by omega)]
 generalize r*c=m at *;refine qg2 qu8 Tryz.func70 rfl Tryz.ntmps70 (by kernel_rfl) ?_ ?_ ?_ ?_
 ·intro i b hb; cases hb
 ·intro i b hb
  by_cases hi:i=5000
  ·subst hi; exact ⟨by omega,by omega⟩
  ·rw [q0A hi] at hb; cases hb
 ·exact IdL.of fun x hx=>by
   simp at hx
   rcases hx with rfl | rfl | rfl | rfl <;> unfold IdP <;> trivial
 have hW:WfH h0:=⟨fun i b hb=>by cases hb⟩;refine wk ?_;refine q0N (fun i=>i≤m) [0,1,2,3,8,9] [8] Lk Lk (fun i:Nat=>[(10,iv i)]) (fun i=>[(9,⟨82,some 3,[.ag [iv r,iv c,.ow 1001 none 0 i]],false⟩),(1001,⟨43,none,(q5X raw 500 (q02 st 4) i).map fun z:Nat=>uv z,false⟩)]) (fun _=>h0) (fun i=>m-i) 0 (Nat.zero_le _) ?_ ?_
 ·refine LeW [(1001,none)] rfl rfl ?_ ?_ (by simp [q09,q05,win]) ?_
  ·exact Ow
  ·exact hW
  ·try refine Zz ?_
   first | done | trivial | rfl | exact ⟨rfl,rfl⟩
 ·intro i hi;have l1:=q1y (raw:=raw) (k:=500) (st:=q02 st 4) (n:=i);have l2:=qju (raw:=raw) (k:=500) (st:=q02 st 4) (n:=i)
  by_cases hlt:i < m
  ·have q:(i:Int) < m:=by omega
   have w2:IntKind.i64.wrap (500+(i:Int))=500+(i:Int):=i64_in Oq Oq;have C1:=q4W (raw:=raw) (k:=500+(i:Int)) hr Oq Oq;have C2:=qbT (x:=q2v raw (500+(i:Int))) (st:=st) (q2H _ _) h3 h4;generalize q5X raw 500 (q02 st 4) i=V at *;generalize q2T (q02 st 4) (q2v raw (500+(i:Int)))=z at *;generalize q2v raw (500+(i:Int))=w at *;have N1:Nz (uv (w:Nat)):=q9s;have N2:Nz (uv (z:Nat)):=q9s;refine wk1 (x4 w1 w2 q l1) ?_;refine ⟨i+1,by omega,by omega,?_⟩;rw [l2];refine LeW [(1001,some 30)] rfl rfl ?_ ?_ (by simp [q09,q05,win]) ?_
   ·exact Ow
   ·exact hW
   ·try refine Zz ?_
    first | done | trivial | omega | exact ⟨by omega,q0G (by rw [List.map_append]; rfl) (by rw [← List.map_append]; exact clU)⟩
  ·obtain rfl:i=m:=by omega
   have q:¬ (i:Int) < i:=by omega
   refine wk1 (x2 w1 q) ?_;refine (rtM (rs:=[.cell 8 82]) rfl rfl Lq ?_ (.inl rfl));refine LePo hJ ?_ clU
   try simp -implicitDefEqProofs (disch:=omega) only [go_sem,Nat.reduceEqDiff,Nat.reduceAdd,↓reduceIte]
end
noncomputable def ivL (g:LUt) (n:Nat):Nat→Nat→List Nat→List Nat × Int
 | 0,_,acc=>(acc,0)
 | k+1,j,acc=>if (lgE g (unN n j)).2≠0 then ([],(lgE g (unN n j)).2) else ivL g n k (j+1) (acc ++ (lgE g (unN n j)).1)
noncomputable def ivA (g:LUt):Nat × List Nat × Int:=if q4T g≠0 then (0,[],q4T g) else
 (if (ivL g g.rows.length g.rows.length 0 []).2=0 then g.rows.length else 0,(ivL g g.rows.length g.rows.length 0 []).1,(ivL g g.rows.length g.rows.length 0 []).2)
section
variable {g:LUt} {n:Nat}
def qky (hb:LUb g) (hn:n=g.rows.length):∀ k j acc,k+j=n→acc.length=j*n→q0z acc→((ivL g n k j acc).2=0→(ivL g n k j acc).1.length=n*n)∧q0z (ivL g n k j acc).1∧((ivL g n k j acc).2≠0→(ivL g n k j acc).1=[])
 | 0,j,acc,h1,h2,h3=>by
  obtain rfl:j=n:=by omega
  exact ⟨fun _=>h2,h3,fun h=>absurd rfl h⟩
 | k+1,j,acc,h1,h2,h3=>by
  rw [ivL]
  by_cases h:(lgE g (unN n j)).2=0
  ·rw [if_neg (not_not_intro h)];obtain ⟨_,_,_,k1,k2⟩:=qb2 hb q9b h;refine qky hb hn k (j+1) _ (by omega) (by rw [List.length_append,h2,k1,← hn,Nat.succ_mul]) fun x hx=>?_
   rcases List.mem_append.1 hx with hx | hx
   ·exact h3 x hx
   ·exact k2 x hx
  ·rw [if_pos h];exact ⟨fun q=>absurd q h,fun x hx=>(by cases hx),fun _=>rfl⟩
def qkz (hb:LUb g):((ivA g).2.2=0→(ivA g).1=g.rows.length∧(ivA g).2.1.length=g.rows.length*g.rows.length)∧q0z (ivA g).2.1∧((ivA g).2.2≠0→(ivA g).2.1=[]∧(ivA g).1=0):=by
 unfold ivA
 by_cases h:q4T g=0
 ·rw [if_neg (not_not_intro h)];obtain ⟨h1,h2,h3⟩:=qky hb rfl g.rows.length 0 [] (by omega) (by simp) (fun x hx=>by cases hx);dsimp only;exact ⟨fun q=>⟨if_pos q,h1 q⟩,h2,fun q=>⟨h3 q,if_neg q⟩⟩
 ·rw [if_pos h];exact ⟨fun q=>absurd q h,fun x hx=>(by cases hx),fun _=>⟨rfl,rfl⟩⟩
def qgs (hb:LUb g) (hn:g.rows.length≤20):qdZ 110 [pLU g] h0 (.tu [.ag [iv (ivA g).1,iv (ivA g).1,.ow 5000 none 0 (ivA g).2.1.length],iv (ivA g).2.2]) (q0Q h0 5000 ⟨43,none,(ivA g).2.1.map fun z:Nat=>uv z,false⟩):=by
 have hJ:∀ i,¬ (h0 i≠none):=fun i h=>h rfl;have hJe:(fun i=>(h0:Hp) i≠none)=fun _=>False:=funext fun i=>eq_false (hJ i);have C2:=q93 hb;obtain ⟨res,hres⟩:∃ res,res=ivA g:=⟨_,rfl⟩;rw [← hres];unfold ivA at hres;have C3:=fun (n j:Nat) (hn:n≤1000000)=>qab (f:=g) (l:=unN n j) hb (by omega) q9b (by rw [q4Z]; omega);have hE:=fun (n j:Nat) (q:(lgE g (unN n j)).2=0)=>qb2 hb q9b q;have hst:∀ n k j acc,ivL g n (k+1) j acc=if (lgE g (unN n j)).2≠0 then ([],(lgE g (unN n j)).2) else ivL g n k (j+1) (acc ++ (lgE g (unN n j)).1):=fun _ _ _ _=>rfl
 have hs0:∀ n j acc,ivL g n 0 j acc=(acc,0):=fun _ _ _=>rfl;unfold pLU at C2 C3 ⊢;generalize q4T g=e at *;refine qg2 ql3 Tryz.func110 rfl Tryz.ntmps110 (by kernel_rfl) ?_ ?_ ?_ ?_
 ·intro i b hb; cases hb
 ·intro i b hb
  by_cases hi:i=5000
  ·subst hi; exact ⟨by omega,by omega⟩
  ·rw [q0A hi] at hb; cases hb
 ·exact IdL.of fun x hx=>by
   simp at hx;subst hx;unfold IdP;exact IdL.of fun x hx=>by
    simp at hx
    rcases hx with rfl | rfl | rfl | rfl | rfl | rfl | rfl | rfl <;> unfold IdP <;> trivial
 have hW:WfH h0:=⟨fun i b hb=>by cases hb⟩;rw [hJe]
 by_cases h1:e=0
 rotate_left
 ·rw [if_pos h1] at hres;subst hres;have q2:(e != 0)=true:=by simpa using h1
  clear C3;refine wk1 q2 ?_;refine (rtM (rs:=[.cell 2 82,.tmp 3]) rfl rfl Lq ?_ (.inl rfl));exact LePn hJ
 subst h1;rw [if_neg (show ¬ (0:Int)≠0 by decide)] at hres;obtain ⟨n,hnn⟩:∃ n,n=g.rows.length:=⟨_,rfl⟩;rw [← hnn] at hres hn;have q0:((g.rows.length:Nat):Int)=n:=by omega
 replace C3:=fun j=>C3 n j Oq;replace hE:=fun j=>hE n j;replace hst:=hst n;replace hs0:=hs0 n;refine wk1 q0 ?_;refine q0N (fun q:Nat × List Nat=>q.1≤n∧q.2.length=q.1*n∧ivL g n (n-q.1) q.1 q.2=ivL g n n 0 []) [1,2,5,6] [1,2] Lk Lk (fun q=>[(7,iv q.1)]) (fun q=>[(6,⟨82,some 3,[.ag [iv n,iv n,.ow 1001 none 0 q.2.length]],false⟩),(1001,⟨43,none,q.2.map fun z:Nat=>uv z,false⟩)]) (fun _=>h0) (fun q=>n-q.1) (0,[]) ⟨Nat.zero_le _,by simp,rfl⟩ ?_ ?_
 ·refine LeW [(1001,none)] rfl rfl ?_ ?_ (by simp [q09,q05,win]) ?_
  ·exact Ow
  ·exact hW
  ·try refine Zz ?_
   first | done | trivial | rfl | exact ⟨rfl,rfl⟩
 ·rintro ⟨j,acc⟩ ⟨hj,hal,hiv⟩;simp only at hj hal hiv ⊢;have hjn:j*n≤20*20:=Nat.mul_le_mul Oq hn
  by_cases hlt:j < n
  ·have q3:(j:Int) < n:=by omega
   rw [show n-j=(n-(j+1))+1 by omega,hst] at hiv;have c3:=C3 j;have hEj:=hE j;have hun:=qmR (n:=n) (j:=j);have ul:=q4Z (n:=n) (j:=j);generalize unN n j=U at *;generalize (lgE g U).1=l at *;generalize (lgE g U).2=e at *;clear C3 hE hst hs0;refine wk1 (x3 q3 hun ul) ?_;refine q0q (LeW [] rfl rfl (hw:=h0) (xs:=[(1,.pt 1 0 0),(2,.pt 2 0 0),(5,iv n),(6,.pt 6 0 0),(7,iv j),(8,pF U)]) (kv:=[]) (bs:=[(1,⟨28,some 8,[.ag [pI g.rows,pI g.cols,pI g.ls,pI g.li,pF g.lv,pI g.us,pI g.ui,pF g.uv]],false⟩),(2,⟨82,some 3,[.ag [iv 0,iv 0,q0X]],false⟩),(6,⟨82,some 3,[.ag [iv n,iv n,.ow 1001 none 0 acc.length]],false⟩),(1001,⟨43,none,acc.map fun z:Nat=>uv z,false⟩)]) (kb:=[]) ?_ hW (by simp [q09,q05,win]) ?_) ?_
   ·exact Ow
   ·try refine Zz ?_
    refine qg7 (T:=43) (l:=U.map fun z:Nat=>uv z) ?_ clU ?_ (by rw [List.length_map,ul])
    ·try simp -implicitDefEqProofs (disch:=omega) only [go_sem,Nat.reduceEqDiff,Nat.reduceAdd,↓reduceIte]
    ·try simp -implicitDefEqProofs (disch:=omega) only [go_sem,Nat.reduceEqDiff,Nat.reduceAdd,↓reduceIte]
   by_cases h4:e=0
   rotate_left
   ·have q4:(e != 0)=true:=by simpa using h4
    rw [if_pos h4] at hiv;rw [← hiv] at hres;dsimp only at hres;rw [if_neg h4] at hres;subst hres;refine wk1 q4 ?_;refine (rtM (rs:=[.cell 2 82,.tmp 3]) rfl rfl Lq ?_ (.inl rfl));exact LePn hJ
   obtain ⟨_,_,_,k1,k2⟩:=hEj h4;subst h4;rw [if_neg (show ¬ (0:Int)≠0 by decide)] at hiv;refine wk ?_;refine ⟨(j+1,acc ++ l),⟨by simp only; omega,by simp only; rw [List.length_append,hal,k1,← hnn,Nat.succ_mul],hiv⟩,by simp only; omega,?_⟩;simp only;refine LeW [(1001,some 49)] rfl rfl ?_ ?_ (by simp [q09,q05,win]) ?_
   ·exact Ow
   ·exact hW
   ·try refine Zz ?_
    exact ⟨by omega,q0G (by rw [List.map_append]) clU⟩
  ·obtain rfl:j=n:=by omega
   have q3:¬ (j:Int) < j:=by omega
   rw [Nat.sub_self,hs0] at hiv;rw [← hiv,if_pos rfl] at hres;subst hres;refine wk1 q3 ?_;refine (rtM (rs:=[.cell 2 82,.tmp 3]) rfl rfl Lq ?_ (.inl rfl));refine LePt hJ ?_ clU
   try simp -implicitDefEqProofs (disch:=omega) only [go_sem,Nat.reduceEqDiff,Nat.reduceAdd,↓reduceIte]
end
section
variable {R C:Nat} {F:Nat→Nat→Option Nat} {f:LUt}
end
section
variable {R C:Nat} {F:Nat→Nat→Option Nat} {f:LUt} {b:List Nat} {dbl:Bool} {steps:Int}
def q4O {T id n:Nat} {k:Kd} {h h':Hp} {l:List PV} (h1:h id=some ⟨T,k,l,false⟩) (hc:ClL l) (h2:h' id=none) (hn:l.length=n):LeV (q05 []) h h' (.ow id k 0 n) (.sl k l):=q4l (T:=T) (l:=l) h1 hc (fun i hi=>by
 have hi:some i=some id:=hi;cases hi;exact h2) (by rw [List.drop_zero]; exact List.take_of_length_le (by omega))
end
section
variable {F:Nat→Nat→Option Nat} {R:Nat}
end
def qmN {raw:List Nat} {k st:Int} {n:Nat} (hr:raw.length≤9223372036854775807) (hn:n≤1000000) (h1 : -1000000≤k) (h2:k≤1000000) (h3 : -9223372036854775808≤st) (h4:st≤9223372036854775807) :
  ACt 29 [pF raw,iv k,iv n,iv st] (pF (q5X raw k (q02 st 4) n)):=by
 have hl:=q1y (raw:=raw) (k:=k) (st:=q02 st 4) (n:=n);refine qgj (ids:=[5000]) (q63 hr hn h1 h2 h3 h4) ?_;generalize q5X raw k (q02 st 4) n=xs at *;subst hl;have h1:q3H (q0Q h0 5000 ⟨43,none,xs.map fun z:Nat=>uv z,false⟩) (.ow 5000 none 0 xs.length)=some (pF xs,[5000]):=by
  unfold q3H;dsimp only;rw [q0H,Option.bind_some,if_pos ⟨rfl,rfl,fun x hx=>clU x hx⟩,List.drop_zero,List.take_of_length_le (by rw [List.length_map]; exact Nat.le_refl _)]
 unfold q2Y q2Y clo;simp only [h1]
 rfl
noncomputable def ckT (raw:List Nat) (N:Nat) (st:Int) (rg:Bool):Nat→Nat→Option Nat:=if rg then rgF (gF raw N (q02 (q02 st 3:Nat) 4)) N else gF raw N (q02 st 4)
noncomputable def ckL (raw:List Nat) (N:Nat) (st:Int) (rg:Bool):LUt:=qo4 (ckT raw N st rg) (tM (ckT raw N st rg) N N).2.1 N (qah N) 1 1
open Classical in
noncomputable def ckB (raw:List Nat) (N:Nat) (st:Int) (rg wild:Bool):List Nat:=if wild=true∨(ivA (ckL raw N st rg)).2.2≠0∨(ivA (ckL raw N st rg)).1≠N then q5X raw 500 (q02 2 4) (N*N) else (ivA (ckL raw N st rg)).2.1
def spX (raw:List Nat) (s k x:Nat):Nat:=(x+s*(q2v raw (k:Int) % 100000)) % 18446744073709551616
def spL (raw:List Nat) (s:Nat) (p:List Nat) (i:Nat):List Nat:=(List.range p.length).map fun k=>if k < i then spX raw s k (p.getD k 0) else p.getD k 0
noncomputable def ckV (raw:List Nat) (N:Nat) (st:Int) (rg:Bool) (sp:Int) (wild:Bool):List Nat:=spL raw (q02 sp 4) (ckB raw N st rg wild) (ckB raw N st rg wild).length
section
variable {raw p:List Nat} {s i N:Nat} {st sp n:Int} {rg wild:Bool}
def q7L:(spL raw s p i).length=p.length:=by unfold spL; simp
def spL_0:spL raw s p 0=p:=by
 unfold spL;refine List.ext_getElem? fun k=>?_;rw [List.getElem?_map]
 by_cases h:k < p.length
 ·rw [List.getElem?_range h,Option.map_some,if_neg (by omega),List.getD_eq_getElem?_getD,List.getElem?_eq_getElem h]; rfl
 ·rw [List.getElem?_eq_none (by simpa using h),List.getElem?_eq_none (by omega)]; rfl
def qmh (h:i < p.length):(spL raw s p i)[i]?=some (p.getD i 0):=by
 unfold spL;rw [List.getElem?_map,List.getElem?_range h,Option.map_some,if_neg (by omega)]
def spL_s (h:i < p.length):(spL raw s p i).set i (spX raw s i (p.getD i 0))=spL raw s p (i+1):=by
 refine List.ext_getElem? fun k=>?_;rw [List.getElem?_set,q7L];unfold spL;rw [List.getElem?_map,List.getElem?_map]
 by_cases hk:k < p.length
 ·rw [List.getElem?_range hk,Option.map_some,Option.map_some]
  by_cases e:i=k
  ·subst e; rw [if_pos rfl,if_pos hk,if_pos (by omega)]
  ·rw [if_neg e]
   by_cases h2:k < i
   ·rw [if_pos h2,if_pos (by omega)]
   ·rw [if_neg h2,if_neg (by omega)]
 ·rw [List.getElem?_eq_none (by simpa using hk),if_neg (by omega)]; rfl
def spL_u (hp:∀ x ∈ p,x < 18446744073709551616):∀ x ∈ spL raw s p i,x < 18446744073709551616:=fun x hx=>by
 unfold spL at hx;obtain ⟨k,hk,rfl⟩:=List.mem_map.1 hx
 split
 ·exact Nat.mod_lt _ Oq
 ·have hk:=List.mem_range.1 hk;rw [List.getD_eq_getElem?_getD,List.getElem?_eq_getElem hk];exact hp _ (List.getElem_mem hk)
def q9O (hN:N≤100):TOk (ckT raw N st rg) N N:=by
 unfold ckT;cases rg
 ·rw [if_neg (by decide)];exact qiT Oq Oq (by have:=Nat.mul_le_mul hN hN; omega)
 ·rw [if_pos rfl];exact qrw hN (by unfold q02; omega)
def qow (hN:N≤100):LUb (ckL raw N st rg)∧(ckL raw N st rg).rows.length≤N:=qf9 hN (by rw [q7A]; omega)
def qlQ (hN:N≤100):(ckB raw N st rg wild).length=N*N∧∀ x ∈ ckB raw N st rg wild,x < 18446744073709551616:=by
 unfold ckB
 split
 ·exact ⟨q1y,fun x hx=>(q3e x hx).1⟩
 ·rename_i h;have hI:=qkz (g:=ckL raw N st rg) (qow hN).1;have h2:(ivA (ckL raw N st rg)).2.2=0:=Classical.not_not.1 fun q=>h (.inr (.inl q));have h3:(ivA (ckL raw N st rg)).1=N:=Classical.not_not.1 fun q=>h (.inr (.inr q));refine ⟨?_,fun x hx=>(hI.2.1 x hx).1⟩;rw [(hI.1 h2).2,← (hI.1 h2).1,h3]
def quU (hN:N≤100):(ckV raw N st rg sp wild).length=N*N∧∀ x ∈ ckV raw N st rg sp wild,x < 18446744073709551616:=by
 obtain ⟨h1,h2⟩:=qlQ (raw:=raw) (st:=st) (rg:=rg) (wild:=wild) hN;unfold ckV;exact ⟨by rw [q7L]; exact h1,spL_u h2⟩
def q5G (hr:raw.length≤9223372036854775807) (h1 : -9223372036854775808≤n) (h2:n≤9223372036854775807) (h3 : -9223372036854775808≤st) (h4:st≤9223372036854775807) (h5 : -9223372036854775808≤sp) (h6:sp≤9223372036854775807) :
  ACt 52 [pF raw,iv n,iv st,bv rg,iv sp,bv wild] (.tu [pT (q02 n 5) (q02 n 5) (ckT raw (q02 n 5) st rg),pPn (q02 n 5) (q02 n 5) (ckV raw (q02 n 5) st rg sp wild)]):=by
 have cM:=q2p (a:=n) (n:=5) h1 h2 Oq Oq;have cS:=q2p (a:=sp) (n:=4) h5 h6 Oq Oq;have hs:q02 sp 4 < 4:=by unfold q02; omega
 have hN:q02 n 5 < 5:=by unfold q02; omega
 generalize q02 n 5=N at *;have cG:=q5p (raw:=raw) (st:=st) (R:=N) (C:=N) hr Oq Oq h3 h4;have cR:=qca (raw:=raw) (st:=st) (n:=N) hr Oq h3 h4;have hF:=q9O (raw:=raw) (N:=N) (st:=st) (rg:=rg) Oq;have cI:=qb7 (n:=N) Oq;have cL:=q5J (num:=1) (den:=1) hF Oq (cols:=qah N) (q8X N) Oq Oq Oq;obtain ⟨hLb,hLr⟩:=qow (raw:=raw) (N:=N) (st:=st) (rg:=rg) Oq;have cV:=qgs hLb Oq;have cP:=q8g (raw:=raw) (r:=N) (c:=N) (st:=2) hr Oq Oq Oq Oq;obtain ⟨hBl,hBu⟩:=qlQ (raw:=raw) (N:=N) (st:=st) (rg:=rg) (wild:=wild) Oq;have hI:=qkz hLb;have hBe:=show ckB raw N st rg wild=if wild=true∨(ivA (ckL raw N st rg)).2.2≠0∨(ivA (ckL raw N st rg)).1≠N then q5X raw 500 (q02 2 4) (N*N) else (ivA (ckL raw N st rg)).2.1 from rfl
 have hVl:=q1y (raw:=raw) (k:=500) (st:=q02 2 4) (n:=N*N);unfold ckV;unfold qtE at cL;change ACt _ _ (.tu [pLU (ckL raw N st rg),_,_]) at cL;generalize q02 sp 4=s at *;generalize ckL raw N st rg=f at *;generalize ckB raw N st rg wild=p at *;generalize q5X raw 500 (q02 2 4) (N*N)=V at *;generalize (ivA f).1=M at *;generalize (ivA f).2.1=W at *;generalize (ivA f).2.2=e at *;have hNN:N*N≤5*5:=Nat.mul_le_mul Oq Oq;have cG1:rg=false→(tM (gF raw N (q02 st 4)) N N).1=(tM (ckT raw N st rg) N N).1∧(tM (gF raw N (q02 st 4)) N N).2.1=(tM (ckT raw N st rg) N N).2.1∧(tM (gF raw N (q02 st 4)) N N).2.2=(tM (ckT raw N st rg) N N).2.2:=fun q=>by subst q; exact ⟨rfl,rfl,rfl⟩
 have cR1:rg=true→ACt 71 [pF raw,iv N,iv st] (pT N N (ckT raw N st rg)):=fun q=>by subst q; exact cR
 clear cR;generalize ckT raw N st rg=F at *;generalize gF raw N (q02 st 4)=F0 at *;unfold pLU at cL cV;unfold pT q0b pPn at *;generalize (tM F N N).1=ms at *;generalize (tM F N N).2.1=mi at *;generalize (tM F N N).2.2=mv at *;generalize (tM F0 N N).1=ms0 at *;generalize (tM F0 N N).2.1=mi0 at *;generalize (tM F0 N N).2.2=mv0 at *;refine ac0 Tryz.func52 Tryz.ntmps52 [.cell 12 26,.cell 13 82] ?_;refine wk ?_;refine qgo fun K hK=>?_;have fin:∀ (s0:Nat→PV) (h:Hp),Le (fun _=>False) s0 h (stM [(0,pF raw),(1,iv N),(4,iv sp),(5,bv wild),(12,.pt 12 0 0),(13,.pt 13 0 0),(14,.pt 14 0 0)] []) (hpM [(12,⟨26,some 5,[.ag [iv 0,iv 0,q0X,q0X,q0X]],false⟩),(13,⟨82,some 3,[.ag [iv 0,iv 0,q0X]],false⟩),(14,⟨26,some 5,[.ag [iv N,iv N,pI ms,pI mi,pF mv]],false⟩)] [])→K s0 h:=by
  clear cG cG1 cR1;intro s0 h hl;refine hK _ _ (q0q hl ?_); clear hK K hl;refine wk ?_;refine qjp fun K hK=>?_;refine Zz ?_;refine jmF cV ?_ ?_
  ·exact Ow
  try refine Zz ?_
  refine hK _ _ ?_; clear hK K;refine wk ?_;refine qgo fun K hK=>?_;have q5r:∀ (s0:Nat→PV) (h:Hp),Le (fun _=>False) s0 h (stM [(0,pF raw),(4,iv sp),(12,.pt 12 0 0),(13,.pt 13 0 0),(14,.pt 14 0 0),(18,.pt 18 0 0)] []) (q0t (q0Q h0 5000 ⟨43,none,p.map fun z:Nat=>uv z,false⟩) (hpM [(12,⟨26,some 5,[.ag [iv 0,iv 0,q0X,q0X,q0X]],false⟩),(13,⟨82,some 3,[.ag [iv 0,iv 0,q0X]],false⟩),(14,⟨26,some 5,[.ag [iv N,iv N,pI ms,pI mi,pF mv]],false⟩),(18,⟨82,some 3,[.ag [iv N,iv N,.ow 5000 none 0 (N*N)]],false⟩)] []))→K s0 h:=by
   intro s0 h hl;refine hK _ _ (q0q hl ?_); clear hK K hl;refine wk ?_;refine q0N (fun i=>i≤N*N) [0,4,12,13,14,18] [12,13,14,18] Lk Lk (fun i:Nat=>[(20,iv i)]) (fun _=>[]) (fun i=>q0Q h0 5000 ⟨43,none,(spL raw s p i).map fun z:Nat=>uv z,false⟩) (fun i=>N*N-i) 0 (Nat.zero_le _) ?_ ?_
   ·rw [spL_0];refine LeW [] rfl rfl ?_ ?_ (by simp [q09,q05,win]) ?_
    ·exact Ow
    ·exact qqN _
    ·try refine Zz ?_
     rfl
   ·intro i hi
    by_cases hlt:i < N*N
    ·have q:(i:Int) < ((N*N:Nat):Int):=by omega
     have C1:=q4W (raw:=raw) (k:=(i:Int)) hr Oq Oq;have l1:=q7L (raw:=raw) (s:=s) (p:=p) (i:=i);have l2:=qmh (raw:=raw) (s:=s) (p:=p) (i:=i) Oq;have l3:=spL_s (raw:=raw) (s:=s) (p:=p) (i:=i) Oq;have hx:p.getD i 0 < 18446744073709551616:=by
      rw [List.getD_eq_getElem?_getD,List.getElem?_eq_getElem (by omega)];exact hBu _ (List.getElem_mem _)
     have e1:((q2v raw (i:Int):Nat):Int).tmod 100000=((q2v raw (i:Int) % 100000:Nat):Int):=rfl;have e6:spX raw s i (p.getD i 0)=(p.getD i 0+s*(q2v raw (i:Int) % 100000)) % 18446744073709551616:=rfl;have hw:=q2H raw (i:Int);generalize spL raw s p i=P at *;generalize p.getD i 0=x at *;generalize spX raw s i x=y at *;generalize q2v raw (i:Int)=w at *;obtain ⟨m,hm⟩:∃ m,m=w % 100000:=⟨_,rfl⟩;rw [← hm] at e1 e6;have hmm:m < 100000:=by omega
     have e2:IntKind.i64.wrap ((m:Nat):Int)=(m:Int):=i64_in Oq Oq;have hsm:s*m≤3*100000:=Nat.mul_le_mul Oq Oq;have e3:IntKind.i64.wrap ((s:Int)*(m:Int))=((s*m:Nat):Int):=by rw [← Int.natCast_mul,i64_in (by omega) (by omega)]
     have e4:IntKind.u64.wrap ((s*m:Nat):Int)=((s*m:Nat):Int):=u64_in Oq Oq;have e5:IntKind.u64.wrap ((x:Int)+((s*m:Nat):Int))=((y:Nat):Int):=by rw [q0w,e6]; omega
     have N1:Nz (uv (w:Nat)):=q9s;have N2:Nz (iv (s:Nat)):=q9s;generalize s*m=sm at *;refine wk1 (x6 q l1 l2 e1 e2 (x3 e3 e4 e5)) ?_;refine ⟨i+1,by omega,by omega,?_⟩;rw [← l3];refine LeW [] rfl rfl ?_ ?_ (by simp [q09,q05,win]) ?_
     ·intro c hc
      by_cases ec:c=5000
      ·subst ec;rw [q0H,q0H,List.map_set]
      ·rw [q0A ec,q0U hc,q0A ec,q0A ec]
     ·exact qqN _
     ·try refine Zz ?_
      omega
    ·obtain rfl:i=N*N:=by omega
     have q:¬ ((N*N:Nat):Int) < ((N*N:Nat):Int):=by omega
     refine wk1 q ?_;rw [hBl];exact List.take_of_length_le (by rw [List.length_map,q7L]; omega)
  by_cases g1:wild=true
  ·rw [if_pos (.inl g1)] at hBe;subst hBe;subst g1;refine wk ?_;refine q0q (LeM [] rfl rfl (xs:=[(0,pF raw),(1,iv N),(4,iv sp),(12,.pt 12 0 0),(13,.pt 13 0 0),(14,.pt 14 0 0),(18,.pt 18 0 0)]) (kv:=[]) (bs:=[(12,⟨26,some 5,[.ag [iv 0,iv 0,q0X,q0X,q0X]],false⟩),(13,⟨82,some 3,[.ag [iv 0,iv 0,q0X]],false⟩),(14,⟨26,some 5,[.ag [iv N,iv N,pI ms,pI mi,pF mv]],false⟩),(18,⟨82,some 3,[.un],false⟩)]) (kb:=[]) ?_) ?_
   ·try simp -implicitDefEqProofs (disch:=omega) only [go_sem,Nat.reduceEqDiff,Nat.reduceAdd,↓reduceIte]
   refine q6P fun K9 hK9=>?_;refine Zz ?_;refine jmF cP ?_ ?_
   ·exact Ow
   try refine Zz ?_
   refine hK9 _ _ (q5r _ _ ?_);refine LeW [] rfl rfl ?_ ?_ (by simp [q09,q05,win]) ?_
   ·exact Ow
   ·exact qqN _
   ·try simp -implicitDefEqProofs (disch:=omega) only [go_sem,Nat.reduceEqDiff,Nat.reduceAdd,↓reduceIte]
  by_cases g2:e=0
  rotate_left
  ·have q2:(e != 0)=true:=by simpa using g2
   rw [if_pos (.inr (.inl g2))] at hBe;subst hBe;obtain rfl:wild=false:=by simpa using g1
   refine wk1 q2 ?_;refine q0q (LeM [] rfl rfl (xs:=[(0,pF raw),(1,iv N),(4,iv sp),(12,.pt 12 0 0),(13,.pt 13 0 0),(14,.pt 14 0 0),(18,.pt 18 0 0)]) (kv:=[]) (bs:=[(12,⟨26,some 5,[.ag [iv 0,iv 0,q0X,q0X,q0X]],false⟩),(13,⟨82,some 3,[.ag [iv 0,iv 0,q0X]],false⟩),(14,⟨26,some 5,[.ag [iv N,iv N,pI ms,pI mi,pF mv]],false⟩),(18,⟨82,some 3,[.un],false⟩)]) (kb:=[]) ?_) ?_
   ·try simp -implicitDefEqProofs (disch:=omega) only [go_sem,Nat.reduceEqDiff,Nat.reduceAdd,↓reduceIte]
   refine q6P fun K9 hK9=>?_;refine Zz ?_;refine jmF cP ?_ ?_
   ·exact Ow
   try refine Zz ?_
   refine hK9 _ _ (q5r _ _ ?_);refine LeW [] rfl rfl ?_ ?_ (by simp [q09,q05,win]) ?_
   ·exact Ow
   ·exact qqN _
   ·try simp -implicitDefEqProofs (disch:=omega) only [go_sem,Nat.reduceEqDiff,Nat.reduceAdd,↓reduceIte]
  by_cases g3:M=N
  rotate_left
  ·have q3:((M:Int) != (N:Int))=true:=by simp; omega
   rw [if_pos (.inr (.inr g3))] at hBe;subst hBe;subst g2;obtain rfl:wild=false:=by simpa using g1
   refine wk1 q3 ?_;refine q0q (LeM [] rfl rfl (xs:=[(0,pF raw),(1,iv N),(4,iv sp),(12,.pt 12 0 0),(13,.pt 13 0 0),(14,.pt 14 0 0),(18,.pt 18 0 0)]) (kv:=[]) (bs:=[(12,⟨26,some 5,[.ag [iv 0,iv 0,q0X,q0X,q0X]],false⟩),(13,⟨82,some 3,[.ag [iv 0,iv 0,q0X]],false⟩),(14,⟨26,some 5,[.ag [iv N,iv N,pI ms,pI mi,pF mv]],false⟩),(18,⟨82,some 3,[.un],false⟩)]) (kb:=[]) ?_) ?_
   ·try simp -implicitDefEqProofs (disch:=omega) only [go_sem,Nat.reduceEqDiff,Nat.reduceAdd,↓reduceIte]
   refine q6P fun K9 hK9=>?_;refine Zz ?_;refine jmF cP ?_ ?_
   ·exact Ow
   try refine Zz ?_
   refine hK9 _ _ (q5r _ _ ?_);refine LeW [] rfl rfl ?_ ?_ (by simp [q09,q05,win]) ?_
   ·exact Ow
   ·exact qqN _
   ·try simp -implicitDefEqProofs (disch:=omega) only [go_sem,Nat.reduceEqDiff,Nat.reduceAdd,↓reduceIte]
  have q3:((M:Int) != (N:Int))=false:=by simp; omega
  rw [if_neg (by rintro (h | h | h) <;> first | exact g1 h | exact h g2 | exact h g3)] at hBe;subst hBe;subst g2;obtain rfl:wild=false:=by simpa using g1
  refine wk1 q3 ?_;refine q5r _ _ ?_;subst g3;rw [← hBl];refine LeW [] rfl rfl ?_ ?_ (by simp [q09,q05,win]) ?_
  ·exact Ow
  ·exact qqN _
  ·try simp -implicitDefEqProofs (disch:=omega) only [go_sem,Nat.reduceEqDiff,Nat.reduceAdd,↓reduceIte]
 cases rg
 ·obtain ⟨rfl,rfl,rfl⟩:=cG1 rfl;clear cR1;refine wk ?_;refine fin _ _ (LeM [] rfl rfl ?_)
  try simp -implicitDefEqProofs (disch:=omega) only [go_sem,Nat.reduceEqDiff,Nat.reduceAdd,↓reduceIte]
 ·have cR2:=cR1 rfl;refine wk ?_;refine fin _ _ (LeM [] rfl rfl ?_)
  try simp -implicitDefEqProofs (disch:=omega) only [go_sem,Nat.reduceEqDiff,Nat.reduceAdd,↓reduceIte]
end
def qnU {f m e:Nat} (h1:f / 4503599627370496 % 2048=e) (h2:e≠0) (h3:e≠2047) (h4:f < 9223372036854775808) (h5:4503599627370496+f % 4503599627370496=m):ofZ f=(m:Int)*(2:Int) ^ (64461+e):=by
 refine q0x ?_;unfold ofF;rw [h1,if_neg h3,if_neg h2,decide_eq_false (by omega),h5]
 rfl
def fR_u {z K s:Nat} (hK:K=65536) (hs:s≤K) (hz:0 < z):fR 0 ((z:Int)*(2:Int) ^ (K-s))=rF 0 false z (2 ^ s):=by
 have hp:=q0S (K-s);have hpos:0 < (z:Int)*(2:Int) ^ (K-s):=Int.mul_pos Oq hp;unfold fR;rw [if_neg (by omega),decide_eq_false (by omega),q0L,Int.natAbs_natCast,← hK,show (2:Nat) ^ K=2 ^ s*2 ^ (K-s) by rw [← Nat.pow_add]; congr 1; omega];exact q3l hz (q0I _) (q0I _)
section
variable {K:Nat}
end
def qnJ {m:Int} {k c:Nat} (h:c≤k):(2:Int) ^ c ∣ m*(2:Int) ^ k:=by
 obtain ⟨e,rfl⟩:∃ e,k=c+e:=⟨k-c,by omega⟩;rw [Int.pow_add,Int.mul_left_comm];exact Int.dvd_mul_right _ _
def qn2 {x y K:Nat} (hK:K=65536) (hx:q0M x) (hy:q0M y):q0l x y*(2:Int) ^ K=ofZ x*ofZ y∧∀ c,c≤60000→(2:Int) ^ c ∣ q0l x y:=by
 obtain ⟨m,k,h,h1,h2,h3⟩:=q2C hx;obtain ⟨m',k',h',h1',h2',h3'⟩:=q2C hy;have e:ofZ x*ofZ y=m*m'*(2:Int) ^ (k+k'):=by
  rw [q0x h,q0x h',Int.pow_add];simp only [Int.mul_assoc,Int.mul_left_comm,Int.mul_comm]
 have hb:bl (m*m').natAbs≤106:=by
  rw [Int.natAbs_mul];exact Nat.le_trans (q1w _ _) Oq
 have hm:=q6h (m:=m*m') (E := -131072+((k+k':Nat):Int)) Oq Oq;obtain ⟨t,ht⟩:∃ t,t=(-131072+((k+k':Nat):Int)+65536).toNat:=⟨_,rfl⟩;rw [← ht] at hm;have hv:q0l x y=m*m'*(2:Int) ^ t:=by
  unfold q0l;rw [e,q1n,hm]; rfl
 refine ⟨?_,fun c hc=>?_⟩
 ·rw [hv,e,Int.mul_assoc,← Int.pow_add,show t+K=k+k' by omega]
 ·rw [hv]; exact qnJ Oq
end Go.Proofs.YtfmojhhokfkdaaaGreatDoor
