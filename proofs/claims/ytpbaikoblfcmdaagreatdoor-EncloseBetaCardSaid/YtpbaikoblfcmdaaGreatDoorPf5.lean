/- EncloseBeta. 5/7. -/
import Derived.Test.YtpbaikoblfcmdaaGreatDoorPf4
set_option linter.unusedSimpArgs false
set_option linter.unusedVariables false
set_option maxRecDepth 20000
set_option maxHeartbeats 2000000
set_option linter.defProp false
namespace Go.E
open Go Go.RowKit
section
variable {T1 T2:TypeId} {K:Kd} {N R n:Nat} {row:Nat→List PV} {B B':Hp}
def q2O {i:Nat} (h1:i≠N) (h2:i≠n+R):q10 T1 T2 K N R (n+1) row B i=q10 T1 T2 K N R n row B i:=by
 unfold q10;rw [if_neg h1,if_neg h1]
 by_cases h:R≤i∧i < R+n
 ·rw [if_pos h,if_pos (by omega)]
 ·rw [if_neg h,if_neg (by omega)]
def q1j {i:Nat} (h:B i=B' i):q10 T1 T2 K N R n row B i=q10 T1 T2 K N R n row B' i:=by
 unfold q10; rw [h]
def q6l {j:Nat} (hj:j < n):q10 T1 T2 K N R n row B (j+R)≠none:=by
 unfold q10
 split
 ·exact Option.some_ne_none _
 ·rw [if_pos (by omega)]; exact Option.some_ne_none _
end
end Go.E
namespace Go.Proofs.YtpbaikoblfcmdaaGreatDoor
open Go Go.E Go.Sp
section
open Classical
def qhe:LuS:=⟨[],fun _ _=>0,fun _ _=>false,fun _ _=>0,fun _ _=>false⟩
variable (F:Nat→Nat→Option Nat) (mi:List Int) (n:Nat) (cols:List Int) (num den:Nat)
noncomputable def q2v:Nat→Int × Nat × LuS
 | 0=>(0,0,qhe)
 | k+1=>if (q2v k).1=0 then ((q5x F mi n (q2v k).2.2 (lfN cols k) k num den).1,if (q5x F mi n (q2v k).2.2 (lfN cols k) k num den).1=9 then k else 0,(q5x F mi n (q2v k).2.2 (lfN cols k) k num den).2) else q2v k
noncomputable def qkv:LUt:=if (q2v F mi n cols num den n).1=0 then qsh (q2v F mi n cols num den n).2.2 cols n else ⟨[],[],[],[],[],[],[],[]⟩
noncomputable def facP:PV:=.tu [pLU (qkv F mi n cols num den),iv (if (q2v F mi n cols num den n).1=0 then n else (q2v F mi n cols num den n).2.1:Nat),iv (q2v F mi n cols num den n).1]
end
section
variable {F:Nat→Nat→Option Nat} {mi:List Int} {n:Nat} {cols:List Int} {num den:Nat} {S r:LuS} {j k:Nat}
def q7R {g:Nat→Nat→Nat} {r c v:Nat} (h:q5d g) (h1:q0J v) (h2:v < 18446744073709551616):q5d (q3Y g r c v):=fun x y=>by
 unfold q3Y
 split
 ·exact ⟨h1,h2⟩
 ·exact h x y
def qjo:∀ (m:Nat) (q:LuS),q5d S.l→q5d S.u→upS F S j k m=some q→q5d q.l∧q5d q.u∧q.rows=S.rows
 | 0,q,h1,h2,h=>by unfold upS at h; cases h; exact ⟨h1,h2,rfl⟩
 | m+1,q,h1,h2,h=>by
  unfold upS at h;obtain ⟨t,ht,h⟩:=Option.bind_eq_some_iff.1 h;obtain ⟨q1,q2,q3⟩:=qjo m t h1 h2 ht
  split at h
  ·cases h; exact ⟨q1,q7R q2 (by assumption) q4l,q3⟩
  ·cases h
def qkh {z:Nat→Int} {d:Int}:∀ (m:Nat) (q:LuS),q5d S.l→loS S k z d m=some q→q5d q.l∧q.u=S.u∧q.rows=S.rows
 | 0,q,h1,h=>by unfold loS at h; cases h; exact ⟨h1,rfl,rfl⟩
 | m+1,q,h1,h=>by
  unfold loS at h;obtain ⟨t,ht,h⟩:=Option.bind_eq_some_iff.1 h;obtain ⟨q1,q2,q3⟩:=qkh m t h1 ht
  split at h
  ·cases h; exact ⟨q1,q2,q3⟩
  ·split at h
   ·cases h; exact ⟨q7R q1 (by assumption) qeB,q2,q3⟩
   ·cases h
structure LuG (n k:Nat) (S:LuS):Prop where
 l:q5d S.l
 u:q5d S.u
 r:∀ x ∈ S.rows,x < n
 len:S.rows.length=k
def qo8 (h:LuG n k S) (he:q5x F mi n S j k num den=(0,r)):LuG n (k+1) r:=by
 unfold q5x at he
 split at he
 ·cases he
 ·rename_i q hq;obtain ⟨q1,q2,q3⟩:=qjo k q h.l h.u hq;unfold colG at he
  split at he
  ·rename_i hfin
   split at he
   ·cases he
   ·rename_i hneg
    split at he
    ·cases he
    ·rename_i t ht;obtain ⟨p,hp⟩:∃ p,p=(bsP (rsV F q j k) q mi num den (mxZ (rsV F q j k) n) n).toNat:=⟨_,rfl⟩;have hpn:p < n:=by have:=(qfw (v:=rsV F q j k) (S:=q) (mi:=mi) (num:=num) (den:=den) (w:=mxZ (rsV F q j k) n) n).2; omega
     rw [← hp] at ht;have hvl:rsV F q j k p < 18446744073709551616:=by
      unfold rsV
      split
      ·omega
      ·exact q4l
     obtain ⟨t1,t2,t3⟩:=qkh (S:=pvS q k (rsV F q j k) p) n t q1 ht;cases he;refine ⟨t1,?_,?_,?_⟩
     ·rw [t2]; exact q7R q2 (hfin p hpn) hvl
     ·rw [t3];intro x hx
      rcases List.mem_append.1 hx with hx | hx
      ·exact h.r x (by rw [← q3]; exact hx)
      ·simp at hx; subst hx; exact hpn
     ·rw [t3]
      show (q.rows ++ [p]).length=k+1
      rw [List.length_append,q3,h.len]; rfl
  ·cases he
def q9e:∀ k,(q2v F mi n cols num den k).1=0→LuG n k (q2v F mi n cols num den k).2.2
 | 0,_=>⟨fun _ _=>⟨by unfold q0J; simp [q2v,qhe],by simp [q2v,qhe]⟩,fun _ _=>⟨by unfold q0J; simp [q2v,qhe],by simp [q2v,qhe]⟩,fun x hx=>by simp [q2v,qhe] at hx,rfl⟩
 | k+1,h=>by
  unfold q2v at h ⊢
  split at h
  ·rename_i h0;rw [if_pos h0];have ih:=q9e k h0;exact qo8 ih (Prod.ext h rfl)
  ·rename_i h0; exact absurd h h0
def qbC {k:Nat} (h:(q2v F mi n cols num den k).1≠0):∀ k',k≤k'→q2v F mi n cols num den k'=q2v F mi n cols num den k
 | 0,hk=>by
  obtain rfl:k=0:=by omega
  rfl
 | k'+1,hk=>by
  by_cases e:k=k'+1
  ·subst e; rfl
  ·have ih:=qbC h k' Oq;rw [q2v,ih,if_neg h]
def quA:(q5x F mi n S j k num den).1=0∨(q5x F mi n S j k num den).1=233∨(q5x F mi n S j k num den).1=9:=by
 unfold q5x
 split
 ·exact .inr (.inl rfl)
 ·unfold colG
  split
  ·split
   ·exact .inr (.inr rfl)
   ·split
    ·exact .inr (.inl rfl)
    ·exact .inl rfl
  ·exact .inr (.inl rfl)
def q2Z (n a b c d:Nat):Hp:=q10 25 33 none 6000 10000 a (rU n fun _ _=>0) (q10 69 4 none 6001 20000 b (rB n fun _ _=>false) (q10 25 33 none 6002 30000 c (rU n fun _ _=>0) (q10 69 4 none 6003 40000 d (rB n fun _ _=>false) h0)))
def qrX:q2Z n n n n n=stT n qhe:=rfl
variable {a b c d:Nat}
def q4I (ha:a≤100) (hb:b≤100) (hc:c≤100) (hd:d≤100):BOk (q2Z n a b c d) win:=by
 unfold q2Z;have w:∀ R j m:Nat,5000≤R→R≤40000→m≤100→j < m→win (j+R):=fun R j m h1 h2 h3 h4=>⟨by omega,by omega⟩;exact q1i (q1i (q1i (q1i BOk.h0 (fun _ _=>qch) Oq ⟨⟨by omega,by omega⟩,fun j hj=>w _ j _ Oq Oq hd hj⟩) (fun _ _=>q6W) Oq ⟨⟨by omega,by omega⟩,fun j hj=>w _ j _ Oq Oq hc hj⟩) (fun _ _=>qch) Oq ⟨⟨by omega,by omega⟩,fun j hj=>w _ j _ Oq Oq hb hj⟩) (fun _ _=>q6W) Oq ⟨⟨by omega,by omega⟩,fun j hj=>w _ j _ Oq Oq ha hj⟩
def q6o {q:Nat→Prop} (hq:∀ i,10000≤i→q i):HId q (q2Z n a b c d):=by
 unfold q2Z;exact qc7 (qc7 (qc7 (qc7 qw7 (fun _ _=>qch) fun j _=>hq _ Oq) (fun _ _=>q6W) fun j _=>hq _ Oq) (fun _ _=>qch) fun j _=>hq _ Oq) (fun _ _=>q6W) fun j _=>hq _ Oq
def qmV {i:Nat} (hi:i < 6000):q2Z n a b c d i=none:=by
 unfold q2Z;rw [q0L (by omega) (by omega),q0L (by omega) (by omega),q0L (by omega) (by omega),q0L (by omega) (by omega)]
 rfl
def qd4 (ha:a≤100) (hb:b≤100) (hc:c≤100):q2Z n a b c d 6000=some ⟨25,none,(List.range a).map fun j=>.ow (j+10000) none 0 n,false⟩:=by
 unfold q2Z; rw [q1k]; simp
def qd3 (ha:a≤100) (hb:b≤100) (hc:c≤100):q2Z n a b c d 6001=some ⟨69,none,(List.range b).map fun j=>.ow (j+20000) none 0 n,false⟩:=by
 unfold q2Z; rw [q0L (by omega) (by omega),q1k]; simp
def qd2 (ha:a≤100) (hb:b≤100) (hc:c≤100):q2Z n a b c d 6002=some ⟨25,none,(List.range c).map fun j=>.ow (j+30000) none 0 n,false⟩:=by
 unfold q2Z; rw [q0L (by omega) (by omega),q0L (by omega) (by omega),q1k]; simp
def qd1 (ha:a≤100) (hb:b≤100) (hc:c≤100):q2Z n a b c d 6003=some ⟨69,none,(List.range d).map fun j=>.ow (j+40000) none 0 n,false⟩:=by
 unfold q2Z; rw [q0L (by omega) (by omega),q0L (by omega) (by omega),q0L (by omega) (by omega),q1k]; simp
def qhR {j:Nat}:List.replicate n (PV.vl (.int .u64 0))=rU n (fun _ _=>0) j:=by
 unfold rU;rw [List.map_const',List.length_range]; rfl
def qsJ {j:Nat}:List.replicate n (PV.vl (.bool false))=rB n (fun _ _=>false) j:=by
 unfold rB;rw [List.map_const',List.length_range]
def tnS (o i:Nat):Option Nat:=if i=5000 then some o else if i=5001 then none else some i
def qqu {o i:Nat} (h:i < 5000):tnS o i=some i:=by unfold tnS; rw [if_neg (by omega),if_neg (by omega)]
def q6C {o i:Nat} (h:6000≤i):tnS o i=some i:=by unfold tnS; rw [if_neg (by omega),if_neg (by omega)]
def qqv {o:Nat}:tnS o 5000=some o:=rfl
def qmG {o:Nat}:tnS o 5001=none:=rfl
attribute [go_sem ↓] qqu qqv qmG
def qhA {J:Nat→Prop} {s:Nat→PV} {h:Hp} {xs kv:List (Nat × PV)} {bs:List (Nat × Bk)} {kb:List (Nat × Option Bk)} {o:Nat} (hn:n≤100) (hS:S.rows=[]) (hJ:∀ i,¬ J i) (hq:∀ i,6000≤i→win i→h i=stT n S i) (h0:h o=some ⟨193,some 5,[.ag [q01,.ow 6000 none 0 n,.ow 6001 none 0 n,.ow 6002 none 0 n,.ow 6003 none 0 n]],false⟩) (ho:o < 5000) (hl:nmW o o (bs.map (·.1) ++ kb.map (·.1)))
  (hh:q4p (tnS o) h (q0v (q0o n S 5001) (hpM bs kb)) s xs∧q4p (tnS o) h (q0v (q0o n S 5001) (hpM bs kb)) s kv∧qc5 (tnS o) h (q0v (q0o n S 5001) (hpM bs kb)) bs∧q8z (tnS o) h (q0v (q0o n S 5001) (hpM bs kb)) kb):Le J s h (stM xs kv) (q0v (q0o n S 5001) (hpM bs kb)):=by
 have hl:=fun i hi=>q4T hl i hi;have hex:∀ i,win i→∀ b,q0o n S 5001 i=some b→∃ b,q0v (q0o n S 5001) (hpM bs kb) i=some b:=fun i hi b hb=>⟨b,by rw [q0W hi]; exact hb⟩;refine LeT (tnS o) (fun i q=>(hJ i q).elim) (fun i hi hw=>?_) (fun i b hw hb=>?_) (fun i j k' hi hj ti tj=>?_) hh
 ·have:=(hl i hi).1; unfold win at hw; omega
 ·have hb2:=hb;unfold q0o q0Q at hb
  split at hb
  ·rename_i e; subst e; cases hb;unfold LeB;rw [qmG,hS]
   rfl
  ·rename_i e
   split at hb
   ·rename_i e2; subst e2; cases hb;unfold LeB;rw [qqv];refine ⟨_,h0,rfl,rfl,⟨rfl,rfl⟩,?_⟩;unfold q2d;simp only;rw [qaE];obtain ⟨q1,q2,q3,q4⟩:=qm0 (S:=S) hn;have hx:∀ i,6000≤i→win i→stT n S i≠none→∃ b,q0v (q0o n S 5001) (hpM bs kb) i=some b:=fun i hi hw hq=>by
     obtain ⟨b,hb⟩:=Option.ne_none_iff_exists'.1 hq;exact hex i hw b (by unfold q0o; rw [q0B (by omega),q0B (by omega)]; exact hb)
    rw [qgW,q2m,q2m,q2m,q2m,q2m,ql6,q3F,q3F,q3F,q3F,qmG,q6C (by omega),q6C (by omega),q6C (by omega),q6C (by omega),hS];exact ⟨⟨rfl,⟨_,by rw [q0W ⟨by omega,by omega⟩]; exact q0I,rfl⟩,rfl,rfl⟩,⟨rfl,hx _ (by omega) ⟨by omega,by omega⟩ q1,rfl,rfl,rfl⟩,⟨rfl,hx _ (by omega) ⟨by omega,by omega⟩ q2,rfl,rfl,rfl⟩,⟨rfl,hx _ (by omega) ⟨by omega,by omega⟩ q3,rfl,rfl,rfl⟩,⟨rfl,hx _ (by omega) ⟨by omega,by omega⟩ q4,rfl,rfl,rfl⟩,trivial⟩
   ·obtain ⟨q1,q2,q3⟩:=(q8E hn).b i b hb;have hi6:=qaV hb;unfold LeB;rw [q6C hi6];refine ⟨b,(hq i hi6 hw).trans hb,rfl,rfl,⟨q2,q2⟩,LeL_self (fun j hj=>?_) _ q3⟩;obtain ⟨c,hc⟩:=Option.ne_none_iff_exists'.1 hj;have hj6:=qaV hc;exact ⟨q6C hj6,hex j ((q8E hn).b j c hc).1 c (by unfold q0o; rw [q0B (by omega),q0B (by omega)]; exact hc)⟩
 ·have a:∀ i,(win i∧q0o n S 5001 i≠none∨i ∈ bs.map (·.1) ++ kb.map (·.1))→i≠o:=fun i hi=>by
   rcases hi with ⟨q,hi⟩ | hi
   ·unfold win at q; omega
   ·exact (hl i hi).2.1
  have a1:=a i hi;have a2:=a j hj;unfold tnS at ti tj
  split at ti <;> (try split at ti) <;> split at tj <;> (try split at tj) <;> cases ti <;> cases tj <;> first | omega | rfl | exact (a1 rfl).elim | exact (a2 rfl).elim
def qm2 {τ:Nat→Option Nat} {h h':Hp} (hn:n≤100) (hq:Wn h (q0o n S 5001)) (ht:∀ i j,τ i=some j→5000 < j→win j→h' i=none):LeV τ h h' (.ow 5001 none 0 S.rows.length) (pRw S.rows)∧LeV τ h h' (.ow 6000 none 0 n) (tU n S.l)∧LeV τ h h' (.ow 6001 none 0 n) (tB n S.iL)∧LeV τ h h' (.ow 6002 none 0 n) (tU n S.u)∧LeV τ h h' (.ow 6003 none 0 n) (tB n S.iU):=by
 have hT:∀ i,6000≤i→win i→h i=stT n S i:=fun i h1 h2=>by
  rw [hq i h2];unfold q0o;rw [q0B (by omega),q0B (by omega)]
 have w:∀ R j:Nat,5000≤R→R≤40000→j < n→win (j+R):=fun R j h1 h2 h3=>⟨by omega,by omega⟩;refine ⟨q61 (T:=3) (l:=S.rows.map fun z:Nat=>iv z) ((hq 5001 ⟨by omega,by omega⟩).trans q0I) clRw (fun i hi=>ht i _ hi (by omega) ⟨by omega,by omega⟩) (by rw [List.drop_zero]; exact List.take_of_length_le (by simp)),?_,?_,?_,?_⟩
 ·exact q6j (fun _=>n) ((hT _ (by omega) ⟨by omega,by omega⟩).trans (qkN hn)) (fun j hj=>⟨(hT _ (by omega) (w _ j (by omega) (by omega) hj)).trans (qkJ hn hj),q6W,by simp⟩) fun i j hi hj=>ht i j hi (by omega) ⟨by omega,by omega⟩
 ·exact q6j (fun _=>n) ((hT _ (by omega) ⟨by omega,by omega⟩).trans (qkM hn)) (fun j hj=>⟨(hT _ (by omega) (w _ j (by omega) (by omega) hj)).trans (qkI hn hj),qch,by simp⟩) fun i j hi hj=>ht i j hi (by omega) ⟨by omega,by omega⟩
 ·exact q6j (fun _=>n) ((hT _ (by omega) ⟨by omega,by omega⟩).trans (qkL hn)) (fun j hj=>⟨(hT _ (by omega) (w _ j (by omega) (by omega) hj)).trans (qkH hn hj),q6W,by simp⟩) fun i j hi hj=>ht i j hi (by omega) ⟨by omega,by omega⟩
 ·exact q6j (fun _=>n) ((hT _ (by omega) ⟨by omega,by omega⟩).trans (qkK hn)) (fun j hj=>⟨(hT _ (by omega) (w _ j (by omega) (by omega) hj)).trans (qkG hn hj),qch,by simp⟩) fun i j hi hj=>ht i j hi (by omega) ⟨by omega,by omega⟩
def tnW (i:Nat):Option Nat:=if 5000≤i∧i < 1000000 then none else some i
def qqs {i:Nat} (h:i < 5000):tnW i=some i:=if_neg Oq
def qdI {i:Nat} (h1:5000≤i) (h2:i < 1000000):tnW i=none:=if_pos ⟨h1,h2⟩
attribute [go_sem ↓] qqs qdI
def qmU {i:Nat} {x:Bk} (hb:q2Z n 0 0 0 0 i=some x):x.xs=[]:=by
 unfold q2Z at hb
 rcases q1E hb with ⟨rfl,rfl⟩ | ⟨_,h1,h2,_⟩ | ⟨_,_,hb⟩
 ·rfl
 ·omega
 rcases q1E hb with ⟨rfl,rfl⟩ | ⟨_,h1,h2,_⟩ | ⟨_,_,hb⟩
 ·rfl
 ·omega
 rcases q1E hb with ⟨rfl,rfl⟩ | ⟨_,h1,h2,_⟩ | ⟨_,_,hb⟩
 ·rfl
 ·omega
 rcases q1E hb with ⟨rfl,rfl⟩ | ⟨_,h1,h2,_⟩ | ⟨_,_,hb⟩
 ·rfl
 ·omega
 ·cases hb
def qni {H:Hp}:WfH (q7h H):=⟨fun i b hb=>by
 unfold q7h at hb;obtain ⟨c,_,rfl⟩:=Option.map_eq_some_iff.1 hb;exact ⟨rfl,IdL.of fun x hx=>by
  obtain ⟨_,_,rfl⟩:=List.mem_map.1 hx;unfold IdP; trivial⟩⟩
attribute [go_sem ↓] qmV qd4 qd3 qd2 qd1
end
section
variable {F:Nat→Nat→Option Nat} {n:Nat} {cols:List Int} {num den:Nat}
def qhf (h:TOk F n n) (hn:n≤100) (hp:q26 cols n) (hnd:num≤den) (hd1:1≤den) (hd:den≤1000):ACt 50 [pT n n F,pI cols,iv num,iv den] (facP F (tM F n n).2.1 n cols num den):=by
 have hll:cols.length=n:=by have:=hp.1; omega
 have hlf:∀ i,i < n→∃ x:Nat,cols[i]?=some (x:Int)∧lfN cols i=x∧x < n:=fun i hi=>by
  obtain ⟨x,hx⟩:∃ x,cols[i]?=some x:=⟨_,List.getElem?_eq_getElem Oq⟩;have:=hp.2.1 x (List.mem_of_getElem? hx);obtain ⟨y,rfl⟩:∃ y:Nat,x=y:=⟨x.toNat,by omega⟩;exact ⟨y,hx,qnY hx,by omega⟩
 have cS:=qbk h hp;have cC:=fun {S:LuS} {k j:Nat} (h1:LuG n k S) (h2:k < n) (h3:j < n)=>qjI (F:=F) (S:=S) (num:=num) (den:=den) h hn h1.l h1.u h1.r h1.len h2 h3 Oq hd;have hC:=Hid.mk @cC;clear cC;have hpl:pT n n F=q2I n n (tM F n n).1 (tM F n n).2.1 (tM F n n).2.2:=rfl;rw [hpl] at cS ⊢;simp only [hpl] at hC;clear hpl;unfold q2I at cS hC ⊢;generalize (tM F n n).1=ms at *;generalize (tM F n n).2.1=mi at *;generalize (tM F n n).2.2=mv at *;have hG:=fun k=>q9e (F:=F) (mi:=mi) (n:=n) (cols:=cols) (num:=num) (den:=den) k;have hE:=fun k=>@qbC F mi n cols num den k;have hs:=fun k=>show q2v F mi n cols num den (k+1)=if (q2v F mi n cols num den k).1=0 then ((q5x F mi n (q2v F mi n cols num den k).2.2 (lfN cols k) k num den).1,if (q5x F mi n (q2v F mi n cols num den k).2.2 (lfN cols k) k num den).1=9 then k else 0,(q5x F mi n (q2v F mi n cols num den k).2.2 (lfN cols k) k num den).2) else q2v F mi n cols num den k from rfl
 have h0:q2v F mi n cols num den 0=(0,0,qhe):=rfl;unfold facP qkv;generalize q2v F mi n cols num den=C at *;have q1:¬ (num:Int) < 0:=by omega
 have q2:¬ (num:Int) > den:=by omega
 have q3:¬ (den:Int) < 1:=by omega
 have q4:¬ (den:Int) > 1000:=by omega
 refine ac0 Tryz.func50 Tryz.ntmps50 [.cell 8 99,.tmp 9,.tmp 10] ?_;refine wk1 (x4 q1 q2 q3 q4) ?_;refine q1L (LeT (hw:=q2Z n 0 0 0 0) tnW (fun _ h=>h.elim) (fun i hi hw=>?_) (fun i b hw hb=>?_) (fun i j x hi hj ti tj=>?_) (xs:=[(1,pI cols),(2,iv num),(3,iv den),(4,.pt 4 0 0),(8,.pt 8 0 0),(9,iv 0),(10,iv 0),(12,iv n),(13,.pt 13 0 0),(14,iv 0)]) (kv:=[]) (bs:=[(4,⟨27,some 5,[.ag [iv n,iv n,pI ms,pI mi,pF mv]],false⟩),(8,⟨99,some 8,[.ag [q01,q01,q01,q01,q01,q01,q01,q01]],false⟩),(13,⟨193,some 5,[.ag [q01,.ow 6000 none 0 0,.ow 6001 none 0 0,.ow 6002 none 0 0,.ow 6003 none 0 0]],false⟩)]) (kb:=[]) ?_) ?_
 ·simp at hi;unfold win at hw;omega
 ·unfold LeB;rw [qdI hw.1 hw.2];exact qmU hb
 ·unfold tnW at ti tj
  split at ti <;> split at tj <;> cases ti <;> cases tj <;> rfl
 ·try simp -implicitDefEqProofs (disch:=omega) only [go_sem,Nat.reduceEqDiff,Nat.reduceAdd,↓reduceIte]
 refine q0U (fun t=>t≤n) [1,2,3,4,8,9,10,12,13] [4,8] Lk Lk (fun t:Nat=>[(14,iv t)]) (fun t=>[(13,⟨193,some 5,[.ag [q01,.ow 6000 none 0 t,.ow 6001 none 0 t,.ow 6002 none 0 t,.ow 6003 none 0 t]],false⟩)]) (fun t=>q2Z n t t t t) (fun t=>n-t) 0 (Nat.zero_le _) ?_ ?_
 ·refine LeW [] rfl rfl ?_ ?_ (by simp [q0x,q0g,win]) ?_
  ·exact Ow
  ·exact q1N (q4I Oq Oq Oq Oq)
  ·try refine Zz ?_
   rfl
 ·intro t ht
  by_cases hlt:t < n
  ·have hlt':(t:Int) < n:=by omega
   have hHn:=Hid.mk hn;clear hn;refine wk1 hlt' ?_;have hn:=hHn.o;refine A_sd [(1,3),(1,4)] q4k (by kernel_rfl) fun K hK=>?_;refine Zz1 @List.length_range ?_;refine hK _ _ ?_; clear hK K;refine q1L (q4G (T1:=25) (T2:=33) (K:=none) (N:=6000) (R:=10000) (n:=t) (o:=52) (r:=50) (l:=(rU n fun _ _=>0) t) (hw:=q2Z n t t t t) (hw':=q2Z n (t+1) t t t) (fun _ h=>h) q6W (fun _=>n) ?_ ?_ (fun i h1 h2=>?_) (qd4 Oq Oq Oq) ?_ (fun i h1 h2=>q2O h1 h2) (fun j hj=>by
    unfold q2Z;exact q6l (by omega)) (q4I (by omega) (by omega) (by omega) (by omega)) (q6o fun i hi=>by omega) ?_ (by omega) (by omega) (by omega) (by omega) (by omega) (by omega) (xs:=[(1,pI cols),(2,iv num),(3,iv den),(4,.pt 4 0 0),(8,.pt 8 0 0),(9,iv 0),(10,iv 0),(12,iv n),(13,.pt 13 0 0),(14,iv t)]) (kv:=[]) (bs:=[(4,⟨27,some 5,[.ag [iv n,iv n,pI ms,pI mi,pF mv]],false⟩),(8,⟨99,some 8,[.ag [q01,q01,q01,q01,q01,q01,q01,q01]],false⟩),(13,⟨193,some 5,[.ag [q01,.ow 6000 none 0 (t+1),.ow 6001 none 0 t,.ow 6002 none 0 t,.ow 6003 none 0 t]],false⟩)]) (kb:=[]) (by simp [nmW]) ?_) ?_
   ·try simp -implicitDefEqProofs (disch:=omega) only [go_sem,Nat.reduceEqDiff,Nat.reduceAdd,↓reduceIte]
   ·try refine Zz ?_
    rw [qhR (j:=t)]
   ·obtain ⟨w1,w2⟩:=h1
    repeat rw [q0B (by omega)]
    rw [q0W ⟨w1,w2⟩]
   ·unfold q2Z;rw [q16 (by omega) (by omega)]
   ·unfold q2Z;rw [q0L (by omega) (by omega),q0L (by omega) (by omega),q0L (by omega) (by omega),q0L (by omega) (by omega)]
    rfl
   ·try simp -implicitDefEqProofs (disch:=omega) only [go_sem,Nat.reduceEqDiff,Nat.reduceAdd,↓reduceIte]
   refine A_sd [(1,3),(1,4)] q4k (by kernel_rfl) fun K hK=>?_;refine Zz1 @List.length_range ?_;refine hK _ _ ?_; clear hK K;refine q1L (q4G (T1:=69) (T2:=4) (K:=none) (N:=6001) (R:=20000) (n:=t) (o:=59) (r:=57) (l:=(rB n fun _ _=>false) t) (hw:=q2Z n (t+1) t t t) (hw':=q2Z n (t+1) (t+1) t t) (fun _ h=>h) qch (fun _=>n) ?_ ?_ (fun i h1 h2=>?_) (qd3 Oq Oq Oq) ?_ (fun i h1 h2=>q1j (q2O h1 h2)) (fun j hj=>by
    unfold q2Z;rw [q0L (by omega) (by omega)];exact q6l (by omega)) (q4I (by omega) (by omega) (by omega) (by omega)) (q6o fun i hi=>by omega) ?_ (by omega) (by omega) (by omega) (by omega) (by omega) (by omega) (xs:=[(1,pI cols),(2,iv num),(3,iv den),(4,.pt 4 0 0),(8,.pt 8 0 0),(9,iv 0),(10,iv 0),(12,iv n),(13,.pt 13 0 0),(14,iv t)]) (kv:=[]) (bs:=[(4,⟨27,some 5,[.ag [iv n,iv n,pI ms,pI mi,pF mv]],false⟩),(8,⟨99,some 8,[.ag [q01,q01,q01,q01,q01,q01,q01,q01]],false⟩),(13,⟨193,some 5,[.ag [q01,.ow 6000 none 0 (t+1),.ow 6001 none 0 (t+1),.ow 6002 none 0 t,.ow 6003 none 0 t]],false⟩)]) (kb:=[]) (by simp [nmW]) ?_) ?_
   ·try simp -implicitDefEqProofs (disch:=omega) only [go_sem,Nat.reduceEqDiff,Nat.reduceAdd,↓reduceIte]
   ·try refine Zz ?_
    rw [qsJ (j:=t)]
   ·obtain ⟨w1,w2⟩:=h1
    repeat rw [q0B (by omega)]
    rw [q0W ⟨w1,w2⟩]
   ·unfold q2Z;rw [q0L (by omega) (by omega),q16 (by omega) (by omega)]
   ·unfold q2Z;rw [q0L (by omega) (by omega),q0L (by omega) (by omega),q0L (by omega) (by omega),q0L (by omega) (by omega)]
    rfl
   ·try simp -implicitDefEqProofs (disch:=omega) only [go_sem,Nat.reduceEqDiff,Nat.reduceAdd,↓reduceIte]
   refine A_sd [(1,3),(1,4)] q4k (by kernel_rfl) fun K hK=>?_;refine Zz1 @List.length_range ?_;refine hK _ _ ?_; clear hK K;refine q1L (q4G (T1:=25) (T2:=33) (K:=none) (N:=6002) (R:=30000) (n:=t) (o:=66) (r:=64) (l:=(rU n fun _ _=>0) t) (hw:=q2Z n (t+1) (t+1) t t) (hw':=q2Z n (t+1) (t+1) (t+1) t) (fun _ h=>h) q6W (fun _=>n) ?_ ?_ (fun i h1 h2=>?_) (qd2 Oq Oq Oq) ?_ (fun i h1 h2=>q1j (q1j (q2O h1 h2))) (fun j hj=>by
    unfold q2Z;rw [q0L (by omega) (by omega)];rw [q0L (by omega) (by omega)];exact q6l (by omega)) (q4I (by omega) (by omega) (by omega) (by omega)) (q6o fun i hi=>by omega) ?_ (by omega) (by omega) (by omega) (by omega) (by omega) (by omega) (xs:=[(1,pI cols),(2,iv num),(3,iv den),(4,.pt 4 0 0),(8,.pt 8 0 0),(9,iv 0),(10,iv 0),(12,iv n),(13,.pt 13 0 0),(14,iv t)]) (kv:=[]) (bs:=[(4,⟨27,some 5,[.ag [iv n,iv n,pI ms,pI mi,pF mv]],false⟩),(8,⟨99,some 8,[.ag [q01,q01,q01,q01,q01,q01,q01,q01]],false⟩),(13,⟨193,some 5,[.ag [q01,.ow 6000 none 0 (t+1),.ow 6001 none 0 (t+1),.ow 6002 none 0 (t+1),.ow 6003 none 0 t]],false⟩)]) (kb:=[]) (by simp [nmW]) ?_) ?_
   ·try simp -implicitDefEqProofs (disch:=omega) only [go_sem,Nat.reduceEqDiff,Nat.reduceAdd,↓reduceIte]
   ·try refine Zz ?_
    rw [qhR (j:=t)]
   ·obtain ⟨w1,w2⟩:=h1
    repeat rw [q0B (by omega)]
    rw [q0W ⟨w1,w2⟩]
   ·unfold q2Z;rw [q0L (by omega) (by omega),q0L (by omega) (by omega),q16 (by omega) (by omega)]
   ·unfold q2Z;rw [q0L (by omega) (by omega),q0L (by omega) (by omega),q0L (by omega) (by omega),q0L (by omega) (by omega)]
    rfl
   ·try simp -implicitDefEqProofs (disch:=omega) only [go_sem,Nat.reduceEqDiff,Nat.reduceAdd,↓reduceIte]
   refine A_ld [(1,3),(1,4)] q4k (by kernel_rfl) fun K9 hK9=>?_;refine Zz1 @List.length_range ?_;refine hK9 _ _ ?_; clear hK9 K9
   repeat (first | refine i_n ?_ | refine q_n ?_)
   refine q1L (q4G (T1:=69) (T2:=4) (K:=none) (N:=6003) (R:=40000) (n:=t) (o:=73) (r:=71) (l:=(rB n fun _ _=>false) t) (hw:=q2Z n (t+1) (t+1) (t+1) t) (hw':=q2Z n (t+1) (t+1) (t+1) (t+1)) (fun _ h=>h) qch (fun _=>n) ?_ ?_ (fun i h1 h2=>?_) (qd1 Oq Oq Oq) ?_ (fun i h1 h2=>q1j (q1j (q1j (q2O h1 h2)))) (fun j hj=>by
    unfold q2Z;rw [q0L (by omega) (by omega)];rw [q0L (by omega) (by omega)];rw [q0L (by omega) (by omega)];exact q6l (by omega)) (q4I (by omega) (by omega) (by omega) (by omega)) (q6o fun i hi=>by omega) ?_ (by omega) (by omega) (by omega) (by omega) (by omega) (by omega) (xs:=[(1,pI cols),(2,iv num),(3,iv den),(4,.pt 4 0 0),(8,.pt 8 0 0),(9,iv 0),(10,iv 0),(12,iv n),(13,.pt 13 0 0),(14,iv t)]) (kv:=[]) (bs:=[(4,⟨27,some 5,[.ag [iv n,iv n,pI ms,pI mi,pF mv]],false⟩),(8,⟨99,some 8,[.ag [q01,q01,q01,q01,q01,q01,q01,q01]],false⟩),(13,⟨193,some 5,[.ag [q01,.ow 6000 none 0 (t+1),.ow 6001 none 0 (t+1),.ow 6002 none 0 (t+1),.ow 6003 none 0 (t+1)]],false⟩)]) (kb:=[]) (by simp [nmW]) ?_) ?_
   ·try simp -implicitDefEqProofs (disch:=omega) only [go_sem,Nat.reduceEqDiff,Nat.reduceAdd,↓reduceIte]
   ·try refine Zz ?_
    rw [qsJ (j:=t)]
   ·obtain ⟨w1,w2⟩:=h1
    repeat rw [q0B (by omega)]
    rw [q0W ⟨w1,w2⟩]
   ·unfold q2Z;rw [q0L (by omega) (by omega),q0L (by omega) (by omega),q0L (by omega) (by omega),q16 (by omega) (by omega)]
   ·unfold q2Z;rw [q0L (by omega) (by omega),q0L (by omega) (by omega),q0L (by omega) (by omega),q0L (by omega) (by omega)]
    rfl
   ·try simp -implicitDefEqProofs (disch:=omega) only [go_sem,Nat.reduceEqDiff,Nat.reduceAdd,↓reduceIte]
   refine wk ?_;refine ⟨t+1,by omega,by omega,?_⟩;refine LeW [] rfl rfl ?_ ?_ (by simp [q0x,q0g,win]) ?_
   ·exact Ow
   ·exact q1N (q4I Oq Oq Oq Oq)
   ·try refine Zz ?_
    rfl
  ·obtain rfl:n=t:=by omega
   have hlt':¬ (n:Int) < n:=by omega
   refine wk1 hlt' ?_;refine q1L (qhA (S:=qhe) (o:=13) hn rfl (fun _ h=>h) (fun i h6 hw=>?_) ?_ (by omega) (xs:=[(1,pI cols),(2,iv num),(3,iv den),(4,.pt 4 0 0),(8,.pt 8 0 0),(9,iv 0),(10,iv 0),(12,iv n),(13,.pt 5000 0 0),(15,iv 0)]) (kv:=[]) (bs:=[(4,⟨27,some 5,[.ag [iv n,iv n,pI ms,pI mi,pF mv]],false⟩),(8,⟨99,some 8,[.ag [q01,q01,q01,q01,q01,q01,q01,q01]],false⟩)]) (kb:=[]) (by simp [nmW]) ?_) ?_
   ·rw [q0W hw,qrX]
   ·try simp -implicitDefEqProofs (disch:=omega) only [go_sem,Nat.reduceEqDiff,Nat.reduceAdd,↓reduceIte]
   ·try simp -implicitDefEqProofs (disch:=omega) only [go_sem,Nat.reduceEqDiff,Nat.reduceAdd,↓reduceIte]
   refine q0U (fun k=>k≤n∧(C k).1=0) [1,2,3,4,8,9,10,12,13] [4,8] Lk Lk (fun k:Nat=>[(15,iv k)]) (fun _=>[]) (fun k=>q0o n (C k).2.2 5001) (fun k=>n-k) 0 ⟨Nat.zero_le _,by rw [h0]⟩ ?_ ?_
   ·rw [h0];refine LeW [] rfl rfl ?_ ?_ (by simp [q0x,q0g,win]) ?_
    ·exact Ow
    ·exact q1N (q04 hn Oq Oq)
    ·try refine Zz ?_
     rfl
   ·rintro k ⟨hk,hk0⟩;have hGk:=hG k hk0
    by_cases hkn:k < n
    ·have hkn':(k:Int) < n:=by omega
     obtain ⟨x,hx,hx2,hx3⟩:=hlf k hkn;have hsk:=hs k;rw [if_pos hk0,hx2] at hsk;have hEk:=hE (k+1);have cX:=hC.o hGk hkn hx3;have hce:=quA (F:=F) (mi:=mi) (n:=n) (S:=(C k).2.2) (j:=x) (k:=k) (num:=num) (den:=den);obtain ⟨e,he⟩:∃ e,e=(q5x F mi n (C k).2.2 x k num den).1:=⟨_,rfl⟩;have hcO:quB F mi n (C k).2.2 x k num den=if e=0 then q0o n (q5x F mi n (C k).2.2 x k num den).2 5002 else q7h (q7i (q0o n (C k).2.2 5001) 5001):=by rw [he]; rfl
     generalize quB F mi n (C k).2.2 x k num den=O at *;rw [← he] at hce hsk cX;generalize (q5x F mi n (C k).2.2 x k num den).2=r at *;generalize (C k).2.2=S at *;have hgo:∀ i,qcg (q0o n S 5001) O i→i=5001:=fun i ⟨h1,h2,h3⟩=>by
      refine Classical.byContradiction fun hi=>h2 ?_;have hS:i≠5000∧stT n S i=none→q0o n S 5001 i=none:=fun h=>by unfold q0o; rw [q0B hi,q0B h.1]; exact h.2
      rw [hcO] at h3
      split at h3
      ·obtain ⟨q1,q2,q3⟩:=qm1 h3;exact hS ⟨q2,qr0 q3⟩
      ·unfold q7h q7i at h3;rw [if_neg hi] at h3;exact Option.map_eq_none_iff.1 h3
     have hO5:∃ b,O 5000=some b:=by
      rw [hcO]
      split
      ·exact ⟨_,by unfold q0o; rw [q0B (by omega),q0I]⟩
      ·exact ⟨_,by unfold q7h q7i q0o; rw [if_neg (by omega),q0B (by omega),q0I]; rfl⟩
     have hwO:WfH O:=by
      rw [hcO]
      split
      ·exact q1N (q04 hn Oq Oq)
      ·exact qni
     refine wk1 hkn' ?_;refine A_jW [(1,pI cols),(2,iv num),(3,iv den),(4,.pt 4 0 0),(8,.pt 8 0 0),(9,iv 0),(10,iv 0),(12,iv n),(13,.pt 5000 0 0),(15,iv k),(16,iv e)] [(4,⟨27,some 5,[.ag [iv n,iv n,pI ms,pI mi,pF mv]],false⟩),(8,⟨99,some 8,[.ag [q01,q01,q01,q01,q01,q01,q01,q01]],false⟩)] O ?_ fun K0 fin=>?_
     rotate_left
     ·refine qba q4k (.one 1 (.one 2 (.one 3 (.one 5 (.one 6 (.one 7 (.alt (.one 0 (.one 4 (.one 8 (.one 9 .fin)))) (.one 4 (.one 0 (.one 8 (.one 9 .fin))))))))))) (by kernel_rfl) fun K9 hK9=>?_;refine Zz1 hx ?_;refine ⟨?_,?_⟩
      ·refine jx cX q4o (fun _ h=>h.elim) (qw8 (a:=5001) hgo ?_ ?_) ?_
       ·repeat (refine ql4 ?_ (by first | (unfold IdP; first | trivial | omega) | simp [IdP,IdL]))
        exact fun t=>by unfold stV IdP; trivial
       ·repeat (refine qla ?_ rfl (by simp [IdL,IdP]))
        exact qw5 (qpp (by simp [IdL,IdP]) (by simp))
       ·try refine Zz ?_
        refine hK9 _ _ (fin _ _ ?_);refine LeW [] rfl rfl ?_ ?_ (by simp [q0x,q0g,win]) ?_
        ·exact Ow
        ·exact hwO
        ·try refine Zz ?_
         exact hO5
      ·refine jx cX q4o (fun _ h=>h.elim) (qw8 (a:=5001) hgo ?_ ?_) ?_
       ·repeat (refine ql4 ?_ (by first | (unfold IdP; first | trivial | omega) | simp [IdP,IdL]))
        exact fun t=>by unfold stV IdP; trivial
       ·repeat (refine qla ?_ rfl (by simp [IdL,IdP]))
        exact qw5 (qpp (by simp [IdL,IdP]) (by simp))
       ·try refine Zz ?_
        refine hK9 _ _ (fin _ _ ?_);refine LeW [] rfl rfl ?_ ?_ (by simp [q0x,q0g,win]) ?_
        ·exact Ow
        ·exact hwO
        ·try refine Zz ?_
         exact hO5
     ·have herr:e≠0→C n=(e,if e=9 then k else 0,r):=fun h=>by rw [hEk (by rw [hsk]; exact h) n (by omega),hsk]
      by_cases e0:e=0
      ·subst e0;rw [if_pos rfl] at hcO;subst hcO;have hskr:(C (k+1)).2.2=r:=by rw [hsk]
       have hGr:=hG (k+1) (by rw [hsk]);rw [hskr] at hGr;refine q1L (qaW (S:=r) (o:=5002) (r:=5001) hn (by omega) (by omega) (fun _ h=>h.elim) (fun i h6 hw=>?_) ?_ ?_ (.inr (by omega)) (xs:=[(1,pI cols),(2,iv num),(3,iv den),(4,.pt 4 0 0),(8,.pt 8 0 0),(9,iv 0),(10,iv 0),(12,iv n),(13,.pt 5000 0 0),(15,iv k),(16,iv 0)]) (kv:=[]) (bs:=[(4,⟨27,some 5,[.ag [iv n,iv n,pI ms,pI mi,pF mv]],false⟩),(8,⟨99,some 8,[.ag [q01,q01,q01,q01,q01,q01,q01,q01]],false⟩)]) (kb:=[]) (by simp [nmW]) ?_) ?_
       ·rw [q0W hw];unfold q0o;rw [q0B (by omega),q0B (by omega)]
       ·rw [q0W ⟨by omega,by omega⟩];unfold q0o;rw [q0B (by omega),q0I]
       ·rw [q0W ⟨by omega,by omega⟩];unfold q0o;rw [q0I]
       ·try simp -implicitDefEqProofs (disch:=omega) only [go_sem,Nat.reduceEqDiff,Nat.reduceAdd,↓reduceIte]
       have b1:((0:Int) == 9)=false:=rfl;have b2:((0:Int) != 0)=false:=rfl;refine wk1 (x2 b1 b2) ?_;refine ⟨k+1,⟨by omega,by rw [hsk]⟩,by omega,?_⟩;rw [hskr];refine LeW [] rfl rfl ?_ ?_ (by simp [q0x,q0g,win]) ?_
       ·exact Ow
       ·exact q1N (q04 hn Oq Oq)
       ·try refine Zz ?_
        first | rfl | exact Int.natCast_succ k | (push_cast; rfl) | simp
      ·have hne:=herr e0;rw [hne];simp only;rw [if_neg e0,if_neg e0];unfold pLU;dsimp only
       by_cases e9:e=9
       ·have b1:(e == 9)=true:=by simpa using e9
        rw [if_pos e9];exact wk1 b1 trivial
       ·have b1:(e == 9)=false:=by simpa using e9
        have b2:(e != 0)=true:=by simpa using e0
        rw [if_neg e9,show ((0:Nat):Int)=0 from rfl];exact wk1 (x2 b1 b2) trivial
    ·obtain rfl:n=k:=by omega
     have hkn':¬ (n:Int) < n:=by omega
     have cL:=qcW (S:=(C n).2.2) (cols:=cols) hn hll hGk.len hGk.r;rw [if_pos hk0,if_pos hk0,hk0];generalize (C n).2.2=S at *;generalize qsh S cols n=lu at *;unfold pLU at cL ⊢;refine wk1 hkn' ?_;refine q1L (LeT (hw:=Go.E.h0) (tnU 1013 5000) (fun _ h=>h.elim) (fun i hi hw=>?_) (fun i b hw hb=>?_) (fun i j x hi hj ti tj=>?_) (xs:=[(1,pI cols),(8,.pt 8 0 0),(12,iv n),(13,.pt 1013 0 0)]) (kv:=[]) (bs:=[(8,⟨99,some 8,[.ag [q01,q01,q01,q01,q01,q01,q01,q01]],false⟩),(1013,⟨193,some 5,[pSt n S],false⟩)]) (kb:=[]) ?_) ?_
     ·simp at hi;unfold win at hw;omega
     ·cases hb
     ·have a:∀ i,(win i∧(Go.E.h0:Hp) i≠none∨i ∈ List.map (·.1) [(8,⟨99,some 8,[.ag [q01,q01,q01,q01,q01,q01,q01,q01]],false⟩),(1013,(⟨193,some 5,[pSt n S],false⟩:Bk))] ++ [])→i≠5000:=fun i hi=>by
       rcases hi with ⟨_,hi⟩ | hi
       ·exact absurd rfl hi
       ·simp at hi; omega
      have a1:=a i hi;have a2:=a j hj;unfold tnU at ti tj
      split at ti <;> split at tj <;> cases ti <;> cases tj <;> first | omega | rfl | exact (a1 rfl).elim | exact (a2 rfl).elim
     ·try refine Zz ?_
      exact qm2 hn q4o fun i j hi hj hw=>by
       unfold tnU at hi
       split at hi
       ·cases hi; omega
       ·cases hi; rw [q0W hw]; rfl
     exact wk trivial
end
def q5A {l:List Nat} {k v:Nat} (h:q08 l) (h1:v < 18446744073709551616) (h2:q0J v):q08 (l.set k v):=fun x hx=>by
 rcases List.mem_or_eq_of_mem_set hx with h3 | rfl
 ·exact h x h3
 ·exact ⟨h1,h2⟩
def qfR {l:List Nat} {k:Nat} (h:q08 l):q08 (l.take k):=fun x hx=>h x (List.mem_of_mem_take hx)
def q87 {l:List Nat} {k:Nat} (h:q08 l):q08 (l.drop k):=fun x hx=>h x (List.mem_of_mem_drop hx)
def q2q (V:Int):q1B [V]=V:=by have:=q0q [] V; rw [List.nil_append,q2Y] at this; omega
section
variable {f:Fac} {z:Nat→Int}
end
def loZ (D:Nat→Nat→Nat) (ys:List Nat) (k:Nat):Int:=ofZ (ys.getD k 0)-sg (fun c=>q0p (D k c) (ys.getD c 0)) k
def upZ (D:Nat→Nat→Nat) (ys:List Nat) (n k:Nat):Int:=ofZ (ys.getD k 0)-sg (fun i=>q0p (D k (k+1+i)) (ys.getD (k+1+i) 0)) (n-(k+1))
noncomputable def geL (D:Nat→Nat→Nat):Nat→Nat→List Nat→Option (List Nat)
 | 0,_,ys=>some ys
 | m+1,k,ys=>if q0J (fR 0 (loZ D ys k)) then geL D m (k+1) (ys.set k (fR 0 (loZ D ys k))) else none
noncomputable def geU (D:Nat→Nat→Nat) (n:Nat):Nat→List Nat→Option (List Nat)
 | 0,ys=>some ys
 | k+1,ys=>if q0J (fQ 0 (upZ D ys n k) (ofZ (D k k))) then geU D n k (ys.set k (fQ 0 (upZ D ys n k) (ofZ (D k k)))) else none
def qew {D:Nat→Nat→Nat} {n:Nat}:∀ (m k:Nat) (ys zs:List Nat),ys.length=n→q08 ys→geL D m k ys=some zs→zs.length=n∧q08 zs
 | 0,k,ys,zs,h1,h2,h=>by unfold geL at h; cases h; exact ⟨h1,h2⟩
 | m+1,k,ys,zs,h1,h2,h=>by
  unfold geL at h
  split at h
  ·exact qew m _ _ zs (by simpa using h1) (q5A h2 q4l (by assumption)) h
  ·cases h
def qev {D:Nat→Nat→Nat} {n:Nat} (hD:∀ k,k < n→ofZ (D k k)≠0):∀ (k:Nat) (ys zs:List Nat),k≤n→ys.length=n→q08 ys→geU D n k ys=some zs→zs.length=n∧q08 zs
 | 0,ys,zs,_,h1,h2,h=>by unfold geU at h; cases h; exact ⟨h1,h2⟩
 | k+1,ys,zs,hk,h1,h2,h=>by
  unfold geU at h
  split at h
  ·exact qev hD k _ zs (by omega) (by simpa using h1) (q5A h2 (qfT (hD k (by omega))) (by assumption)) h
  ·cases h
def q2c (x:Int) (l:List Int):q1B (x :: l)=x+q1B l:=by
 have:∀ (l:List Int) (a:Int),l.foldl (·+·) a=a+l.foldl (·+·) 0:=fun l=>by
  induction l with
  | nil=>intro a; simp
  | cons y l ih=>intro a; simp only [List.foldl_cons]; rw [ih (a+y),ih (0+y)]; omega
 unfold q1B;rw [List.foldl_cons,this]; omega
def qdh {B:Int} {l x:List Nat}:∀ m,q1B (q8L B l x m)=B-sg (fun i=>q0p (l.getD i 0) (x.getD i 0)) m
 | 0=>by rw [q8L,q2q]; unfold sg; omega
 | m+1=>by rw [q8L,q0q,qdh m,show sg (fun i=>q0p (l.getD i 0) (x.getD i 0)) (m+1)=sg (fun i=>q0p (l.getD i 0) (x.getD i 0)) m+q0p (l.getD m 0) (x.getD m 0) from rfl]; omega
def ctE (L:List (Nat × Nat)) (r:Nat) (y:Nat):Int:=q1B (L.map fun e=>if e.1=r then q0p e.2 y else 0)
def ctV (L:List (Nat × Nat)) (r:Nat):Nat:=((L.find? fun e=>e.1 == r).map (·.2)).getD 0
def qs8 {y:Nat}:q0p 0 y=0:=by
 unfold q0p;rw [q0e q7E,Int.zero_mul,q1T]; rfl
def qtw {L:List (Nat × Nat)} {r y:Nat} (h:∀ e ∈ L,e.1≠r):ctE L r y=0:=by
 unfold ctE
 induction L with
 | nil=>rfl
 | cons e L ih =>
  rw [List.map_cons,q2c,if_neg (h e List.mem_cons_self),ih fun e he=>h e (List.mem_cons_of_mem _ he)]; rfl
def qtx {L:List (Nat × Nat)} {r y:Nat} (h:(L.map (·.1)).Nodup):ctE L r y=q0p (ctV L r) y:=by
 induction L with
 | nil=>unfold ctE ctV; simp [q2Y,qs8]
 | cons e L ih =>
  rw [List.map_cons,List.nodup_cons] at h
  by_cases he:e.1=r
  ·have h1:ctE L r y=0:=qtw fun e' he' hr=>h.1 (by rw [he,← hr]; exact List.mem_map_of_mem he');have h2:ctV (e :: L) r=e.2:=by unfold ctV; rw [List.find?_cons,show (e.1 == r)=true by simpa using he]; rfl
   rw [h2];unfold ctE at h1 ⊢;rw [List.map_cons,q2c,if_pos he,h1]; omega
  ·have h2:ctV (e :: L) r=ctV L r:=by unfold ctV; rw [List.find?_cons,show (e.1 == r)=false by simpa using he]
   rw [h2,← ih h.2];unfold ctE;rw [List.map_cons,q2c,if_neg he]; omega
structure ColS (n:Nat) (st ix:List Int) (vs:List Nat) (E:Nat→List (Nat × Nat)):Prop where
 len:ix.length≤1000000
 col:∀ k,k < n→∃ a:Nat,st[k]?=some (a:Int)∧st[k+1]?=some ((a+(E k).length:Nat):Int)∧a+(E k).length≤ix.length∧∀ (t:Nat) (e:Nat × Nat),(E k)[t]?=some e→ix[a+t]?=some (e.1:Int)∧vs[a+t]?=some e.2∧e.1 < n∧q0J e.2∧e.2 < 18446744073709551616
 nd:∀ k,k < n→((E k).map (·.1)).Nodup
 sz:∀ k,k < n→(E k).length≤n
def dnH (n a c:Nat) (gl gu:Nat→Nat→Nat):Hp:=q10 25 33 none 6000 10000 a (rU n gl) (q10 25 33 none 6002 30000 c (rU n gu) h0)
def dnD (t:Nat):Nat→Nat→Nat:=fun i j=>if i=j∧i < t then 4607182418800017408 else 0
def enS (g:Nat→Nat→Nat) (k:Nat):List (Nat × Nat)→Nat→Nat→Nat
 | []=>g
 | e :: l=>enS (q3Y g e.1 k e.2) k l
def dnT (g:Nat→Nat→Nat) (E:Nat→List (Nat × Nat)):Nat→Nat→Nat→Nat
 | 0=>g
 | k+1=>enS (dnT g E k) k (E k)
def q9i {k:Nat} {e:Nat × Nat}:∀ (l:List (Nat × Nat)) (g:Nat→Nat→Nat),enS g k (l ++ [e])=q3Y (enS g k l) e.1 k e.2
 | [],_=>rfl
 | _ :: l,_=>q9i l _
def dnD_0 {n:Nat} {t:Nat}:rU n (dnD t) t=rU n (fun _ _=>0) t:=by
 unfold rU dnD;refine List.map_congr_left fun c _=>?_;rw [if_neg (by omega)]
def dnD_s {t:Nat}:q3Y (dnD t) t t 4607182418800017408=dnD (t+1):=by
 funext i j
 unfold q3Y dnD
 by_cases h:i=t∧j=t
 ·rw [if_pos h,if_pos (by omega)]
 ·rw [if_neg h]
  by_cases h2:i=j∧i < t
  ·rw [if_pos h2,if_pos (by omega)]
  ·rw [if_neg h2,if_neg (by omega)]
section
variable {n a c:Nat} {gl gu:Nat→Nat→Nat}
def q3C (ha:a≤100) (hc:c≤100):BOk (dnH n a c gl gu) win:=by
 unfold dnH;have w:∀ R j m:Nat,5000≤R→R≤40000→m≤100→j < m→win (j+R):=fun R j m h1 h2 h3 h4=>⟨by omega,by omega⟩;exact q1i (q1i BOk.h0 (fun _ _=>q6W) Oq ⟨⟨by omega,by omega⟩,fun j hj=>w _ j _ Oq Oq hc hj⟩) (fun _ _=>q6W) Oq ⟨⟨by omega,by omega⟩,fun j hj=>w _ j _ Oq Oq ha hj⟩
def qlA {q:Nat→Prop} (hq:∀ i,10000≤i→q i):HId q (dnH n a c gl gu):=by
 unfold dnH;exact qc7 (qc7 qw7 (fun _ _=>q6W) fun j _=>hq _ Oq) (fun _ _=>q6W) fun j _=>hq _ Oq
def qtp {i:Nat} (hi:i < 6000):dnH n a c gl gu i=none:=by
 unfold dnH;rw [q0L (by omega) (by omega),q0L (by omega) (by omega)]
 rfl
def qkz:dnH n a c gl gu 6000=some ⟨25,none,(List.range a).map fun j=>.ow (j+10000) none 0 n,false⟩:=by
 unfold dnH; rw [q1k]; simp
def q1s (ha:a≤100):dnH n a c gl gu 6002=some ⟨25,none,(List.range c).map fun j=>.ow (j+30000) none 0 n,false⟩:=by
 unfold dnH; rw [q0L (by omega) (by omega),q1k]; simp
def qf8 {j:Nat} (hj:j < a):dnH n a c gl gu (j+10000)=some ⟨33,none,rU n gl j,false⟩:=by
 unfold dnH; rw [q16 (by omega) hj]
def qbI {j:Nat} (ha:a≤100) (hj:j < c):dnH n a c gl gu (j+30000)=some ⟨33,none,rU n gu j,false⟩:=by
 unfold dnH; rw [q0L (by omega) (by omega),q16 (by omega) hj]
def qtq {r m v:Nat} (hr:r < a):q0Q (dnH n a c gl gu) (r+10000) ⟨33,none,(rU n gl r).set m (.vl (.int .u64 (v:Nat))),false⟩=dnH n a c (q3Y gl r m v) gu:=by
 unfold dnH;rw [q2p (by omega) hr (by simp),qa8]
def dnH_u {r m v:Nat} (ha:a≤100) (hr:r < c):q0Q (dnH n a c gl gu) (r+30000) ⟨33,none,(rU n gu r).set m (.vl (.int .u64 (v:Nat))),false⟩=dnH n a c gl (q3Y gu r m v):=by
 unfold dnH;rw [q2X (by omega) (by omega),q2p (by omega) hr (by simp),qa8]
def qto {i:Nat} {x:Bk} (hb:dnH n 0 0 gl gu i=some x):x.xs=[]:=by
 unfold dnH at hb
 rcases q1E hb with ⟨rfl,rfl⟩ | ⟨_,h1,h2,_⟩ | ⟨_,_,hb⟩
 ·rfl
 ·omega
 rcases q1E hb with ⟨rfl,rfl⟩ | ⟨_,h1,h2,_⟩ | ⟨_,_,hb⟩
 ·rfl
 ·omega
 ·cases hb
def qts:q5y (dnH n n n gl gu) n 10000 none (fun _=>n)=some ((List.range n).map fun j=>.sl none (rU n gl j),(List.range n).map (·+10000)):=by
 unfold dnH;rw [q5i (by omega),cO,if_pos fun j _=>q6W]
 congr 2
 refine List.map_congr_left fun j _=>?_
 congr 1
 exact q9J
def qtr (hn:n≤100):q5y (dnH n n n gl gu) n 30000 none (fun _=>n)=some ((List.range n).map fun j=>.sl none (rU n gu j),(List.range n).map (·+30000)):=by
 unfold dnH;rw [q4a (by omega) (by omega),q5i (by omega),cO,if_pos fun j _=>q6W]
 congr 2
 refine List.map_congr_left fun j _=>?_
 congr 1
 exact q9J
attribute [go_sem ↓] qtp qkz qf8 qbI
def qjE {f:LUt} {EL EU:Nat→List (Nat × Nat)} (hr:f.rows.length=n) (hn:n≤100) (hL:ColS n f.ls f.li f.lv EL) (hU:ColS n f.us f.ui f.uv EU):ACt 305 [pLU f] (.tu [tU n (dnT (dnD n) EL n),tU n (dnT (fun _ _=>0) EU n)]):=by
 obtain ⟨ro,co,ls,li,lv,us,ui,vu⟩:=f;unfold pLU;dsimp only at *;refine ac0 Tryz.func305 Tryz.ntmps305 [.tmp 2,.tmp 3] ?_;refine wk1 hr ?_;refine q1L (LeT (hw:=dnH n 0 0 (dnD 0) fun _ _=>0) tnW (fun _ h=>h.elim) (fun i hi hw=>?_) (fun i b hw hb=>?_) (fun i j x hi hj ti tj=>?_) (xs:=[(1,.pt 1 0 0),(4,iv n),(5,.ow 6000 none 0 0),(6,.ow 6002 none 0 0),(7,iv 0)]) (kv:=[]) (bs:=[(1,⟨99,some 8,[.ag [pI ro,pI co,pI ls,pI li,pF lv,pI us,pI ui,pF vu]],false⟩)]) (kb:=[]) ?_) ?_
 ·simp at hi;unfold win at hw;omega
 ·unfold LeB;rw [qdI hw.1 hw.2];exact qto hb
 ·unfold tnW at ti tj
  split at ti <;> split at tj <;> cases ti <;> cases tj <;> rfl
 ·try refine Zz ?_
  exact ⟨_,q1s Oq,rfl⟩
 refine q0U (fun t=>t≤n) [1,4] [1] Lk Lk (fun t:Nat=>[(5,.ow 6000 none 0 t),(6,.ow 6002 none 0 t),(7,iv t)]) (fun _=>[]) (fun t=>dnH n t t (dnD t) fun _ _=>0) (fun t=>n-t) 0 (Nat.zero_le _) ?_ ?_
 ·refine LeW [] rfl rfl ?_ ?_ (by simp [q0x,q0g,win]) ?_
  ·exact Ow
  ·exact q1N (q3C Oq Oq)
  ·try refine Zz ?_
   exact ⟨⟨_,q1s Oq⟩,rfl⟩
 ·intro t ht
  by_cases hlt:t < n
  ·have hlt':(t:Int) < n:=by omega
   have rt:(List.range t ++ [t])[t]?=some t:=by simp
   have hset:((rU n (dnD t) t).set t (uv (4607182418800017408:Nat)))=(rU n (dnD t) t).set t (PV.vl (.int .u64 (4607182418800017408:Nat))):=rfl;refine wk1 hlt' ?_;refine q1L (q4G (T1:=25) (T2:=33) (K:=none) (N:=6000) (R:=10000) (n:=t) (o:=23) (r:=21) (l:=(rU n (dnD t)) t) (hw:=dnH n t t (dnD t) fun _ _=>0) (hw':=dnH n (t+1) t (dnD t) fun _ _=>0) (fun _ h=>h) q6W (fun _=>n) ?_ ?_ (fun i h1 h2=>?_) qkz (qf8 Oq) (fun i h1 h2=>q2O h1 h2) (fun j hj=>by
    rw [qf8 (by omega)];exact Option.some_ne_none _) (q3C (by omega) (by omega)) (qlA fun i hi=>by omega) ?_ (by omega) (by omega) (by omega) (by omega) (by omega) (by omega) (xs:=[(1,.pt 1 0 0),(4,iv n),(5,.ow 6000 none 0 (t+1)),(6,.ow 6002 none 0 t),(7,iv t)]) (kv:=[]) (bs:=[(1,⟨99,some 8,[.ag [pI ro,pI co,pI ls,pI li,pF lv,pI us,pI ui,pF vu]],false⟩)]) (kb:=[]) (by simp [nmW]) ?_) ?_
   ·try simp -implicitDefEqProofs (disch:=omega) only [go_sem,Nat.reduceEqDiff,Nat.reduceAdd,↓reduceIte]
   ·try refine Zz ?_
    rw [dnD_0,qhR (j:=t)]
   ·obtain ⟨w1,w2⟩:=h1
    repeat rw [q0B (by omega)]
    rw [q0W ⟨w1,w2⟩]
   ·unfold dnH;rw [q0L (by omega) (by omega),q0L (by omega) (by omega)]
    rfl
   ·try refine Zz ?_
    exact ⟨_,q1s Oq⟩
   have h2o:dnH n (t+1) t (dnD t) (fun _ _=>0) 6002=some ⟨25,none,(List.range t).map fun j=>.ow (j+30000) none 0 n,false⟩:=q1s Oq;refine wk1 h2o ?_;clear h2o;refine q1L (q4G (T1:=25) (T2:=33) (K:=none) (N:=6002) (R:=30000) (n:=t) (o:=28) (r:=26) (l:=(rU n fun _ _=>0) t) (hw:=dnH n (t+1) t (dnD t) fun _ _=>0) (hw':=dnH n (t+1) (t+1) (dnD t) fun _ _=>0) (fun _ h=>h) q6W (fun _=>n) ?_ ?_ (fun i h1 h2=>?_) (q1s Oq) (qbI Oq Oq) (fun i h1 h2=>q1j (q2O h1 h2)) (fun j hj=>by
    rw [qbI (by omega) (by omega)];exact Option.some_ne_none _) (q3C (by omega) (by omega)) (qlA fun i hi=>by omega) ?_ (by omega) (by omega) (by omega) (by omega) (by omega) (by omega) (xs:=[(1,.pt 1 0 0),(4,iv n),(5,.ow 6000 none 0 (t+1)),(6,.ow 6002 none 0 (t+1)),(7,iv t)]) (kv:=[]) (bs:=[(1,⟨99,some 8,[.ag [pI ro,pI co,pI ls,pI li,pF lv,pI us,pI ui,pF vu]],false⟩)]) (kb:=[]) (by simp [nmW]) ?_) ?_
   ·try simp -implicitDefEqProofs (disch:=omega) only [go_sem,Nat.reduceEqDiff,Nat.reduceAdd,↓reduceIte]
   ·try refine Zz ?_
    rw [qhR (j:=t)]
   ·obtain ⟨w1,w2⟩:=h1
    repeat rw [q0B (by omega)]
    rw [q0W ⟨w1,w2⟩]
   ·unfold dnH;rw [q0L (by omega) (by omega),q0L (by omega) (by omega)]
    rfl
   ·try refine Zz ?_
    exact ⟨_,q1s Oq⟩
   refine wk1 rt ?_;refine ⟨t+1,by omega,by omega,?_⟩;refine LeW [] rfl rfl ?_ ?_ (by simp [q0x,q0g,win]) ?_
   ·exact q9y (q5p q4o) ((qtq (by omega)).trans (by rw [dnD_s]))
   ·exact q1N (q3C Oq Oq)
   ·try refine Zz ?_
    exact ⟨⟨_,q1s Oq⟩,rfl⟩
  ·obtain rfl:n=t:=by omega
   have hlt':¬ (n:Int) < n:=by omega
   refine wk1 hlt' ?_;obtain ⟨g0,hg0⟩:∃ g,g=dnD n:=⟨_,rfl⟩;rw [← hg0];clear hg0 ht;refine q0U (fun k=>k≤n) [1,4,5,6] [1] Lk Lk (fun k:Nat=>[(8,iv k)]) (fun _=>[]) (fun k=>dnH n n n (dnT g0 EL k) (dnT (fun _ _=>0) EU k)) (fun k=>n-k) 0 (Nat.zero_le _) ?_ ?_
   ·refine LeW [] rfl rfl ?_ ?_ (by simp [q0x,q0g,win]) ?_
    ·exact Ow
    ·exact q1N (q3C Oq Oq)
    ·try refine Zz ?_
     exact ⟨rfl,_,q1s Oq⟩
   ·intro k hk
    by_cases hkn:k < n
    ·have hkn':(k:Int) < n:=by omega
     have rk:(List.range n)[k]?=some k:=List.getElem?_range hkn;have wj:(k:Int)+1=((k+1:Nat):Int):=rfl;obtain ⟨a,l1,l2,l3,l4⟩:=hL.col k hkn;obtain ⟨c,u1,u2,u3,u4⟩:=hU.col k hkn;have hlb:=hL.len;have hub:=hU.len;have dL:dnT g0 EL (k+1)=enS (dnT g0 EL k) k (EL k):=rfl;have dU:dnT (fun _ _=>0) EU (k+1)=enS (dnT (fun _ _=>0) EU k) k (EU k):=rfl;generalize dnT g0 EL k=gl at *;generalize dnT (fun _ _=>0) EU k=gu at *;generalize EL k=el at *;generalize EU k=eu at *;refine wk1 (x2 hkn' l1) ?_;refine q0U (fun t=>t≤el.length) [1,4,5,6,8] [1] Lk Lk (fun t:Nat=>[(9,iv (a+t:Nat))]) (fun _=>[]) (fun t=>dnH n n n (enS gl k (el.take t)) gu) (fun t=>el.length-t) 0 (Nat.zero_le _) ?_ ?_
     ·refine LeW [] rfl rfl ?_ ?_ (by simp [q0x,q0g,win]) ?_
      ·exact Ow
      ·exact q1N (q3C Oq Oq)
      ·try refine Zz ?_
       exact ⟨_,q1s Oq⟩
     ·intro t ht
      by_cases hlt:t < el.length
      ·obtain ⟨e,he⟩:∃ e,el[t]?=some e:=⟨_,List.getElem?_eq_getElem hlt⟩;obtain ⟨y1,y2,y3,y4,y5⟩:=l4 t e he;have hlt':((a+t:Nat):Int) < ((a+el.length:Nat):Int):=by omega
       have re:(List.range n)[e.1]?=some e.1:=List.getElem?_range y3;obtain ⟨p,hp⟩:∃ p,p=a+t:=⟨_,rfl⟩;rw [← hp] at y1 y2 hlt' ⊢;refine wk1 (x6 wj l2 hlt' y1 y2 re) ?_;refine ⟨t+1,by omega,by omega,?_⟩;rw [List.take_add_one,he,Option.toList_some,q9i];refine LeW [] rfl rfl ?_ ?_ (by simp [q0x,q0g,win]) ?_
       ·exact q9y (q5p q4o) (qtq y3)
       ·exact q1N (q3C Oq Oq)
       ·try refine Zz ?_
        exact ⟨by omega,_,q1s Oq⟩
      ·obtain rfl:t=el.length:=by omega
       obtain ⟨b,hb⟩:∃ b,b=a+el.length:=⟨_,rfl⟩;have hlt':¬ (b:Int) < b:=by omega
       rw [List.take_length];rw [← hb] at l2 ⊢;refine wk1 (x4 wj l2 hlt' u1) ?_;refine q0U (fun t=>t≤eu.length) [1,4,5,6,8] [1] Lk Lk (fun t:Nat=>[(10,iv (c+t:Nat))]) (fun _=>[]) (fun t=>dnH n n n (enS gl k el) (enS gu k (eu.take t))) (fun t=>eu.length-t) 0 (Nat.zero_le _) ?_ ?_
       ·refine LeW [] rfl rfl ?_ ?_ (by simp [q0x,q0g,win]) ?_
        ·exact Ow
        ·exact q1N (q3C Oq Oq)
        ·try refine Zz ?_
         exact ⟨_,q1s Oq⟩
       ·intro t ht;have ho2:=q1s (n:=n) (a:=n) (c:=n) (gl:=enS gl k el) (gu:=enS gu k (eu.take t)) Oq
        by_cases hlt:t < eu.length
        ·obtain ⟨e,he⟩:∃ e,eu[t]?=some e:=⟨_,List.getElem?_eq_getElem hlt⟩;obtain ⟨y1,y2,y3,y4,y5⟩:=u4 t e he;have hlt':((c+t:Nat):Int) < ((c+eu.length:Nat):Int):=by omega
         have re:(List.range n)[e.1]?=some e.1:=List.getElem?_range y3;have hr2:=qbI (n:=n) (a:=n) (c:=n) (gl:=enS gl k el) (gu:=enS gu k (eu.take t)) (j:=e.1) Oq y3;obtain ⟨p,hp⟩:∃ p,p=c+t:=⟨_,rfl⟩;rw [← hp] at y1 y2 hlt' ⊢;refine wk1 (x6 wj u2 hlt' y1 y2 (x3 re ho2 hr2)) ?_;refine ⟨t+1,by omega,by omega,?_⟩;rw [List.take_add_one,he,Option.toList_some,q9i];refine LeW [] rfl rfl ?_ ?_ (by simp [q0x,q0g,win]) ?_
         ·exact q9y (q5p q4o) (dnH_u Oq y3)
         ·exact q1N (q3C Oq Oq)
         ·try refine Zz ?_
          exact ⟨by omega,_,q1s Oq⟩
        ·obtain rfl:t=eu.length:=by omega
         obtain ⟨d,hd⟩:∃ d,d=c+eu.length:=⟨_,rfl⟩;have hlt':¬ (d:Int) < d:=by omega
         rw [List.take_length] at ho2 ⊢;rw [← hd] at u2 ⊢;refine wk1 (x3 wj u2 hlt') ?_;refine ⟨k+1,by omega,by omega,?_⟩;rw [dL,dU];refine LeW [] rfl rfl ?_ ?_ (by simp [q0x,q0g,win]) ?_
         ·exact Ow
         ·exact q1N (q3C Oq Oq)
         ·try refine Zz ?_
          exact ⟨_,q1s Oq⟩
    ·obtain rfl:n=k:=by omega
     have hlt':¬ (n:Int) < n:=by omega
     generalize dnT g0 EL n=gl at *;generalize dnT (fun _ _=>0) EU n=gu at *;have ho2:=q1s (n:=n) (a:=n) (c:=n) (gl:=gl) (gu:=gu) Oq;have hc2:=qtr (gl:=gl) (gu:=gu) hn;have hc0:=qts (n:=n) (gl:=gl) (gu:=gu);exact wk1 (x4 hlt' hc0 ho2 hc2) trivial
end
def q8y (st ix:List Int) (vs:List Nat) (k:Nat):List (Nat × Nat):=(List.range ((st.getD (k+1) 0).toNat-(st.getD k 0).toNat)).map fun t=>((ix.getD ((st.getD k 0).toNat+t) 0).toNat,vs.getD ((st.getD k 0).toNat+t) 0)
def q7c {l:List Int} (h:q7j l):∀ (d i:Nat) (x y:Int),l[i]?=some x→l[i+d+1]?=some y→x < y
 | 0,i,x,y,hx,hy=>h i x y hx hy
 | d+1,i,x,y,hx,hy=>by
  obtain ⟨z,hz⟩:∃ z,l[i+d+1]?=some z:=⟨_,List.getElem?_eq_getElem (by have:=(List.getElem?_eq_some_iff.1 hy).1; omega)⟩;have h1:=q7c h d i x z hx hz;have h2:=h (i+d+1) z y hz hy;omega
def q7d {l:List Int} (h:q7j l) {lo:Int} (h0:∀ z,l[0]?=some z→lo≤z):∀ (t:Nat) (z:Int),l[t]?=some z→lo+t≤z
 | 0,z,hz=>by have:=h0 z hz; omega
 | t+1,z,hz=>by
  obtain ⟨y,hy⟩:∃ y,l[t]?=some y:=⟨_,List.getElem?_eq_getElem (by have:=(List.getElem?_eq_some_iff.1 hz).1; omega)⟩;have h1:=q7d h h0 t y hy;have h2:=h t y z hy hz;omega
def qpu {l:List Int} (h:q7j l) {t:Nat} {z y:Int} (hz:l[t]?=some z) (hy:l[l.length-1]?=some y):z≤y:=by
 have ht:=(List.getElem?_eq_some_iff.1 hz).1
 by_cases e:t=l.length-1
 ·rw [e,hy] at hz; cases hz; exact Int.le_refl _
 ·exact Int.le_of_lt (q7c h (l.length-1-t-1) t z y hz (by rw [← hy]; congr 1; omega))
section
variable {n:Nat} {st ix:List Int} {vs:List Nat} {G:Nat→List Int→Prop}
def q3L {ix:List Int} {a b t:Nat} (ht:a+t < b):((ix.take b).drop a)[t]?=ix[a+t]?:=by
 rw [List.getElem?_drop,List.getElem?_take,if_pos ht]
def q7X {a b k:Nat} (h1:st[k]?=some (a:Int)) (h2:st[k+1]?=some (b:Int)):q8y st ix vs k=(List.range (b-a)).map fun t=>((ix.getD (a+t) 0).toNat,vs.getD (a+t) 0):=by
 unfold q8y;rw [getD_some h1,getD_some h2,Int.toNat_natCast,Int.toNat_natCast]
def qfj (h:CmpOk n st ix G) (hl:ix.length=vs.length) (hf:∀ x ∈ vs,q0J x) (hu:∀ x ∈ vs,x < 18446744073709551616) (hix:ix.length≤1000000) (hG:∀ k l,k < n→q7j l→G k l→(∀ z,l[0]?=some z→0≤z)∧∀ z,l[l.length-1]?=some z→z < n):ColS n st ix vs (q8y st ix vs):=by
 refine ⟨hix,fun k hk=>?_,fun k hk=>?_,fun k hk=>?_⟩
 all_goals
  obtain ⟨a,b,h1,h2,h3,h4,h5,h6⟩:=h.col k hk;obtain ⟨g1,g2⟩:=hG k _ hk h5 h6;rw [q7X h1 h2];have hll:((ix.take b).drop a).length=b-a:=by rw [List.length_drop,List.length_take]; omega
  have hb:∀ t,t < b-a→∃ z:Nat,ix[a+t]?=some (z:Int)∧t≤z∧z < n:=fun t ht=>by
   obtain ⟨z,hz⟩:∃ z,ix[a+t]?=some z:=⟨_,List.getElem?_eq_getElem Oq⟩;have hz2:=(q3L (ix:=ix) (a:=a) (b:=b) (t:=t) Oq).trans hz;have q1:=q7d h5 g1 t z hz2;obtain ⟨y,hy⟩:∃ y,((ix.take b).drop a)[((ix.take b).drop a).length-1]?=some y:=⟨_,List.getElem?_eq_getElem Oq⟩;have q2:=qpu h5 hz2 hy;have q3:=g2 y hy;exact ⟨z.toNat,by rw [Int.toNat_of_nonneg (by omega)]; exact hz,by omega,by omega⟩
 ·refine ⟨a,h1,?_,?_,fun t e he=>?_⟩
  ·rw [h2,List.length_map,List.length_range]; congr 1; omega
  ·rw [List.length_map,List.length_range]; omega
  ·have ht:t < b-a:=by have:=(List.getElem?_eq_some_iff.1 he).1; simpa using this
   rw [List.getElem?_map,List.getElem?_range ht,Option.map_some] at he;cases he;obtain ⟨z,z1,z2,z3⟩:=hb t ht;obtain ⟨v,hv⟩:∃ v,vs[a+t]?=some v:=⟨_,List.getElem?_eq_getElem Oq⟩;simp only [getD_some z1,getD_some hv,Int.toNat_natCast];exact ⟨z1,hv,z3,hf v (List.mem_of_getElem? hv),hu v (List.mem_of_getElem? hv)⟩
 ·rw [List.map_map];unfold List.Nodup;rw [List.pairwise_iff_getElem];intro i j hi hj hij;simp at hi hj;obtain ⟨z,z1,_⟩:=hb i hi;obtain ⟨y,y1,_⟩:=hb j hj;simp only [List.getElem_map,List.getElem_range,Function.comp_apply,getD_some z1,getD_some y1,Int.toNat_natCast];have:=q7c h5 (j-i-1) i z y ((q3L (by omega)).trans z1) ((q3L (by omega)).trans (by rw [← y1]; congr 1; omega));omega
 ·rw [List.length_map,List.length_range]
  by_cases e:b-a=0
  ·omega
  ·obtain ⟨z,z1,z2,z3⟩:=hb (b-a-1) Oq;omega
end
def qfd {L:List (Nat × Nat)} {t:Nat} {e:Nat × Nat} (h:(L.map (·.1)).Nodup) (he:L[t]?=some e):ctV L e.1=e.2:=by
 induction L generalizing t with
 | nil=>simp at he
 | cons d L ih =>
  rw [List.map_cons,List.nodup_cons] at h;cases t with
  | zero =>
   rw [List.getElem?_cons_zero] at he;cases he;unfold ctV;rw [List.find?_cons,show (e.1 == e.1)=true by simp]; rfl
  | succ t =>
   rw [List.getElem?_cons_succ] at he;have hne:d.1≠e.1:=fun q=>h.1 (by rw [q]; exact List.mem_map_of_mem (List.mem_of_getElem? he));unfold ctV;rw [List.find?_cons,show (d.1 == e.1)=false by simpa using hne];exact ih h.2 he
def qf2 {k:Nat}:∀ (l:List (Nat × Nat)) (g:Nat→Nat→Nat) (i j:Nat),(l.map (·.1)).Nodup→enS g k l i j=if j=k then ((l.find? fun e=>e.1 == i).map (·.2)).getD (g i j) else g i j
 | [],g,i,j,_=>by unfold enS; simp
 | e :: l,g,i,j,h=>by
  rw [List.map_cons,List.nodup_cons] at h;rw [enS,qf2 l _ i j h.2]
  by_cases hj:j=k
  ·rw [if_pos hj,if_pos hj,List.find?_cons]
   by_cases he:e.1=i
   ·have h0:(l.find? fun e=>e.1 == i)=none:=List.find?_eq_none.2 fun d hd hq=>h.1 (by rw [he,← (by simpa using hq:d.1=i)]; exact List.mem_map_of_mem hd);rw [h0,show (e.1 == i)=true by simpa using he];simp [q3Y,hj,he]
   ·rw [show (e.1 == i)=false by simpa using he];simp only [q3Y];rw [if_neg fun q=>he q.1.symm]
  ·rw [if_neg hj,if_neg hj];unfold q3Y;rw [if_neg fun q=>hj q.2]
def q9l {g:Nat→Nat→Nat} {E:Nat→List (Nat × Nat)}:∀ (m i j:Nat),(∀ k,k < m→((E k).map (·.1)).Nodup)→dnT g E m i j=if j < m then (((E j).find? fun e=>e.1 == i).map (·.2)).getD (g i j) else g i j
 | 0,i,j,_=>by rw [dnT,if_neg (by omega)]
 | m+1,i,j,h=>by
  rw [dnT,qf2 _ _ _ _ (h m (by omega)),q9l m i j fun k hk=>h k (by omega)]
  by_cases hj:j=m
  ·subst hj;rw [if_pos rfl,if_neg (by omega),if_pos (by omega)]
  ·rw [if_neg hj]
   by_cases h2:j < m
   ·rw [if_pos h2,if_pos (by omega)]
   ·rw [if_neg h2,if_neg (by omega)]
def dnL_v {n:Nat} {E:Nat→List (Nat × Nat)} (h:∀ k,k < n→((E k).map (·.1)).Nodup) {i j:Nat} (hj:j < n) (hij:j < i):dnT (dnD n) E n i j=ctV (E j) i:=by
 rw [q9l n i j h,if_pos hj];unfold ctV dnD;rw [if_neg (by omega)]
def dnU_v {n:Nat} {E:Nat→List (Nat × Nat)} (h:∀ k,k < n→((E k).map (·.1)).Nodup) {i j:Nat} (hj:j < n):dnT (fun _ _=>0) E n i j=ctV (E j) i:=by
 rw [q9l n i j h,if_pos hj]
 rfl
def qfe {n:Nat} {st ix:List Int} {vs:List Nat} {E:Nat→List (Nat × Nat)} (h:ColS n st ix vs E) {i j:Nat} (hj:j < n):ctV (E j) i < 18446744073709551616∧q0J (ctV (E j) i):=by
 unfold ctV;cases hf:(E j).find? fun e=>e.1 == i with
 | none=>exact ⟨by simp,by unfold q0J; simp⟩
 | some e =>
  obtain ⟨t,ht⟩:=List.mem_iff_getElem?.1 (List.mem_of_find?_eq_some hf);obtain ⟨a,_,_,_,h4⟩:=h.col j hj;obtain ⟨_,_,_,h5,h6⟩:=h4 t e ht;exact ⟨h6,h5⟩
structure LUok (f:LUt) (n:Nat):Prop where
 b:LUb f
 rl:f.rows.length=n
 n2:n≤200
 rp:q26 f.rows n
 cp:q26 f.cols n
 sl:f.ls.length=n+1
 su:f.us.length=n+1
 L:ColS n f.ls f.li f.lv (q8y f.ls f.li f.lv)
 U:ColS n f.us f.ui f.uv (q8y f.us f.ui f.uv)
 gt:∀ k,k < n→∀ e ∈ q8y f.ls f.li f.lv k,k < e.1
 le:∀ k,k < n→∀ e ∈ q8y f.us f.ui f.uv k,e.1≤k
 dg:∀ k,k < n→∃ m x,q8y f.us f.ui f.uv k=m ++ [(k,x)]∧ofZ x≠0∧∀ e ∈ m,e.1 < k
def qgY {f:LUt} (hb:LUb f) (h:q5H f=0):LUok f f.rows.length:=by
 unfold q5H at h
 split at h
 ·cases h
 split at h
 ·cases h
 rename_i hn hp
 split at h
 ·cases h
 rename_i hls
 split at h
 ·cases h
 rename_i hst
 split at h
 ·rename_i hf;obtain ⟨f1,f2,f3⟩:=hf;have hp:=Classical.not_not.1 hp;obtain ⟨s1,s2,s3,s4⟩:=Classical.not_not.1 hls;have hst:=Classical.not_not.1 hst;obtain ⟨c1,c2⟩:=hst;have L:=qfj (vs:=f.lv) c1 s3 f1 hb.hl hb.li fun k l hk ha hg=>⟨fun z hz=>by have:=hg.1 z hz; omega,hg.2⟩;have U:=qfj (vs:=f.uv) c2 s4 f2 hb.hu hb.ui fun k l hk ha hg=>⟨hg.1,fun z hz=>by have:=hg.2.symm.trans hz; cases this; omega⟩;have hgt:∀ k,k < f.rows.length→∀ e ∈ q8y f.ls f.li f.lv k,k < e.1:=fun k hk e he=>by
   obtain ⟨a,b,h1,h2,h3,h4,h5,h6⟩:=c1.col k hk;rw [q7X h1 h2] at he;obtain ⟨t,ht,rfl⟩:=List.mem_map.1 he;have ht:=List.mem_range.1 ht;obtain ⟨z,hz⟩:∃ z,f.li[a+t]?=some z:=⟨_,List.getElem?_eq_getElem Oq⟩;have:=q7d h5 (lo:=(k:Int)+1) (fun z hz=>by have:=h6.1 z hz; omega) t z ((q3L Oq).trans hz);simp only [getD_some hz];omega
  have hU:∀ k,k < f.rows.length→∃ m x,q8y f.us f.ui f.uv k=m ++ [(k,x)]∧ofZ x≠0∧∀ e ∈ m,e.1 < k:=fun k hk=>by
   obtain ⟨a,b,h1,h2,h3,h4,h5,h6⟩:=c2.col k hk;have hll:((f.ui.take b).drop a).length=b-a:=by rw [List.length_drop,List.length_take]; omega
   have hlast:=h6.2;have hab:a < b:=by
    rcases Nat.lt_or_ge a b with q | q
    ·exact q
    ·rw [List.getElem?_eq_none (by omega)] at hlast; cases hlast
   rw [hll,q3L (by omega)] at hlast;obtain ⟨x,hx⟩:∃ x,f.uv[b-1]?=some x:=⟨_,List.getElem?_eq_getElem Oq⟩;rw [show a+(b-a-1)=b-1 by omega] at hlast;refine ⟨(List.range (b-a-1)).map fun t=>((f.ui.getD (a+t) 0).toNat,f.uv.getD (a+t) 0),x,?_,f3 k hk (b-1) x (by rw [h2]; congr 1; omega) hx,fun e he=>?_⟩
   ·rw [q7X h1 h2,show b-a=(b-a-1)+1 by omega,List.range_succ,List.map_append,List.map_singleton,show a+(b-a-1)=b-1 by omega,getD_some hlast,getD_some hx,Int.toNat_natCast]
    rfl
   ·obtain ⟨t,ht,rfl⟩:=List.mem_map.1 he;have ht:=List.mem_range.1 ht;obtain ⟨z,hz⟩:∃ z,f.ui[a+t]?=some z:=⟨_,List.getElem?_eq_getElem Oq⟩;have hz2:=(q3L (ix:=f.ui) (a:=a) (b:=b) (t:=t) Oq).trans hz;have q1:=q7d h5 h6.1 t z hz2;have q2:=q7c h5 (b-a-1-t-1) t z k hz2 ((q3L (by omega)).trans (by rw [← hlast]; congr 1; omega));simp only [getD_some hz];omega
  refine ⟨hb,rfl,by omega,hp.1,hp.2,s1,s2,L,U,hgt,fun k hk e he=>?_,hU⟩;obtain ⟨m,x,m1,m2,m3⟩:=hU k hk;rw [m1] at he
  rcases List.mem_append.1 he with he | he
  ·exact Nat.le_of_lt (m3 e he)
  ·rw [List.mem_singleton.1 he]; exact Nat.le_refl _
 ·cases h
end Go.Proofs.YtpbaikoblfcmdaaGreatDoor
namespace Go.E
open Go Go.RowKit
section
variable {T1 T2:TypeId} {K:Kd} {N R n:Nat} {row:Nat→List PV}
def qjw:qdM T1 T2 K N R n row=q10 T1 T2 K N R n row h0:=rfl
end
end Go.E
namespace Go.Proofs.YtpbaikoblfcmdaaGreatDoor
open Go Go.E Go.Sp
abbrev q6m (n:Nat) (rows:Nat→List Int):Hp:=q10 39 48 (some 4) 5000 10000 n (qdm rows) h0
def q1K {n:Nat} {rows:Nat→List Int} (hn:n≤1000):BOk (q6m n rows) win:=q1i BOk.h0 (fun _ _=>clV) Oq ⟨⟨by omega,by omega⟩,fun j hj=>⟨by omega,by omega⟩⟩
def wfB {H:Hp} (h:BOk H win):WfH H:=⟨fun i b hb=>⟨(h.b i b hb).2.1,IdL_mono (fun j hj=>by
 obtain ⟨c,hc⟩:=Option.ne_none_iff_exists'.1 hj;exact ⟨(h.b j c hc).1,hj⟩) _ (h.b i b hb).2.2⟩⟩
section
variable {b:List Nat} {n:Nat} {rows:Nat→List Int}
def bgR (b:List Nat) (k:Nat):Nat→List Int:=fun j=>if j < k then [ofZ (b.getD j 0)] else []
end
def psG (g:Nat→Int):List (Nat × Nat)→(Nat→List Int)→Nat→List Int
 | [],rows=>rows
 | e :: L,rows=>psG g L (q4b rows e.1 (-(g e.2)))
def ctG (g:Nat→Int) (L:List (Nat × Nat)) (r:Nat):Int:=q1B (L.map fun e=>if e.1=r then g e.2 else 0)
def qeF {g:Nat→Int}:∀ (A B:List (Nat × Nat)) (rows:Nat→List Int),psG g (A ++ B) rows=psG g B (psG g A rows)
 | [],_,_=>rfl
 | e :: A,B,rows=>by rw [List.cons_append,psG,psG,qeF A B]
def psG_s {g:Nat→Int} {t:Nat} {L:List (Nat × Nat)} {e:Nat × Nat} {rows:Nat→List Int} (he:L[t]?=some e):psG g (L.take (t+1)) rows=q4b (psG g (L.take t) rows) e.1 (-(g e.2)):=by
 rw [q15 he,qeF]; rfl
def q52 {g:Nat→Int} {r:Nat}:∀ (L:List (Nat × Nat)) (rows:Nat→List Int),q1B (psG g L rows r)=q1B (rows r)-ctG g L r
 | [],rows=>by unfold psG ctG; rw [List.map_nil,q2Y]; omega
 | e :: L,rows=>by
  rw [psG,q52 L,qck];have:ctG g (e :: L) r=(if e.1=r then g e.2 else 0)+ctG g L r:=by unfold ctG; rw [List.map_cons,q2c]
  rw [this]
  by_cases h:r=e.1
  ·rw [if_pos h,if_pos h.symm]; omega
  ·rw [if_neg h,if_neg fun q=>h q.symm]; omega
def qk4 {g:Nat→Int}:∀ (L:List (Nat × Nat)) (rows:Nat→List Int) (m:Nat),(∀ e ∈ L,bl (g e.2).natAbs≤67600)→(∀ r,(rows r).length≤m)→(∀ r,∀ z ∈ rows r,bl z.natAbs≤67600)→(∀ r,(psG g L rows r).length≤m+L.length)∧∀ r,∀ z ∈ psG g L rows r,bl z.natAbs≤67600
 | [],rows,m,_,h1,h2=>⟨h1,h2⟩
 | e :: L,rows,m,he,h1,h2=>by
  have hz:bl (-(g e.2)).natAbs≤67600:=by rw [Int.natAbs_neg]; exact he e List.mem_cons_self
  have b1:=qga (k:=e.1) h1 h2 hz;have b2:=qk4 L _ (m+1) (fun d hd=>he d (List.mem_cons_of_mem _ hd)) b1.1 b1.2;rw [psG];exact ⟨fun r=>by have:=b2.1 r; rw [List.length_cons]; omega,b2.2⟩
abbrev psE (y:Nat):=psG fun v=>q0p v y
structure RB (rows:Nat→List Int) (m:Nat):Prop where
 l:∀ r,(rows r).length≤m
 b:∀ r,∀ z ∈ rows r,bl z.natAbs≤67600
def RB.pg {rows:Nat→List Int} {m:Nat} {g:Nat→Int} {L:List (Nat × Nat)} (h:RB rows m) (hL:∀ e ∈ L,bl (g e.2).natAbs≤67600):RB (psG g L rows) (m+L.length):=by
 obtain ⟨h1,h2⟩:=qk4 L rows m hL h.l h.b;exact ⟨h1,h2⟩
def RB.ps {rows:Nat→List Int} {m y:Nat} {L:List (Nat × Nat)} (h:RB rows m) (hy:q0J y) (hL:∀ e ∈ L,q0J e.2):RB (psE y L rows) (m+L.length):=h.pg fun e he=>(q0b (hL e he) hy).2
def RB.mono {rows:Nat→List Int} {m m':Nat} (h:RB rows m) (hm:m≤m'):RB rows m':=⟨fun r=>Nat.le_trans (h.l r) hm,h.b⟩
def RB.bg {b:List Nat} {k:Nat} (hb:q08 b):RB (bgR b k) 1:=⟨fun r=>by unfold bgR; split <;> simp,fun r z hz=>by
 unfold bgR at hz
 split at hz
 ·simp at hz; subst hz; exact Nat.le_trans (q18 (q83 hb).2) (by omega)
 ·cases hz⟩
def qa2 {g:Nat→Int}:∀ m,sg g (m+1)=g 0+sg (fun i=>g (i+1)) m
 | 0=>by rw [sg,sg,sg]; omega
 | m+1=>by rw [sg,qa2 m,show sg (fun i=>g (i+1)) (m+1)=sg (fun i=>g (i+1)) m+g (m+1) from rfl]; omega
section
variable {D:Nat→Nat→Nat} {E:Nat→List (Nat × Nat)} {n k:Nat} {ys:List Nat} {rows:Nat→List Int}
def RLo (D:Nat→Nat→Nat) (n k:Nat) (ys:List Nat) (rows:Nat→List Int):Prop:=∀ r,k≤r→r < n→q1B (rows r)=ofZ (ys.getD r 0)-sg (fun c=>q0p (D r c) (ys.getD c 0)) k
def RUp (D:Nat→Nat→Nat) (n k:Nat) (ys:List Nat) (rows:Nat→List Int):Prop:=∀ r,r < k→q1B (rows r)=ofZ (ys.getD r 0)-sg (fun i=>q0p (D r (k+i)) (ys.getD (k+i) 0)) (n-k)
def qgH {b:List Nat} {r:Nat} (hr:r < b.length):q1B (bgR b b.length r)=ofZ (b.getD r 0):=by
 unfold bgR;rw [if_pos hr,q2q]
def RLo.bg (hn:ys.length=n):RLo D n 0 ys (bgR ys n):=fun r _ hr=>by
 subst hn;rw [qgH hr,sg]; omega
def RUp.bg (hn:ys.length=n):RUp D n n ys (bgR ys n):=fun r hr=>by
 subst hn;rw [qgH hr,Nat.sub_self,sg]; omega
def qiF {i v:Nat} (h:i≠k):(ys.set k v).getD i 0=ys.getD i 0:=by
 rw [List.getD_eq_getElem?_getD,List.getD_eq_getElem?_getD,List.getElem?_set,if_neg fun q=>h q.symm]
def qsw {v:Nat} (h:k < ys.length):(ys.set k v).getD k 0=v:=by
 rw [List.getD_eq_getElem?_getD,List.getElem?_set_self h]; rfl
def RLo.s {v:Nat} (h:RLo D n k ys rows) (hl:k < ys.length) (hE:((E k).map (·.1)).Nodup) (hD:∀ r,D r k=ctV (E k) r):RLo D n (k+1) (ys.set k v) (psE v (E k) rows):=fun r h1 h2=>by
 have e:sg (fun c=>q0p (D r c) ((ys.set k v).getD c 0)) k=sg (fun c=>q0p (D r c) (ys.getD c 0)) k:=q2r k fun i hi=>by rw [qiF (by omega)]
 rw [q52,h r (by omega) h2,show ctG (fun x=>q0p x v) (E k) r=q0p (ctV (E k) r) v from qtx hE,← hD,qiF (by omega),sg,qsw hl,e];omega
def RUp.s {v x:Nat} {m:List (Nat × Nat)} (h:RUp D n (k+1) ys rows) (hk:k < n) (hl:k < ys.length) (hE:((E k).map (·.1)).Nodup) (hm:E k=m ++ [(k,x)]) (hD:∀ r,D r k=ctV (E k) r):RUp D n k (ys.set k v) (psE v m rows):=fun r h1=>by
 have e1:ctV (E k) r=ctV m r:=by
  rw [hm];unfold ctV;rw [List.find?_append];cases m.find? fun e=>e.1 == r with
  | some e=>rfl
  | none=>rw [List.find?_cons,show (k == r)=false by simp; omega]; rfl
 have e2:(m.map (·.1)).Nodup:=by
  rw [hm,List.map_append] at hE;exact (List.nodup_append.1 hE).1
 rw [q52,h r (by omega),show ctG (fun x=>q0p x v) m r=q0p (ctV m r) v from qtx e2,← e1,← hD,qiF (by omega),show n-k=(n-(k+1))+1 by omega,qa2];have:sg (fun i=>q0p (D r (k+(i+1))) ((ys.set k v).getD (k+(i+1)) 0)) (n-(k+1))=sg (fun i=>q0p (D r (k+1+i)) (ys.getD (k+1+i) 0)) (n-(k+1)):=q2r _ fun i _=>by rw [qiF (by omega),show k+(i+1)=k+1+i by omega]
 rw [this];simp only [Nat.add_zero];rw [qsw hl];omega
def RLo.v (h:RLo D n k ys rows) (hk:k < n):q1B (rows k)=loZ D ys k:=h k (Nat.le_refl _) hk
def RUp.v (h:RUp D n (k+1) ys rows):q1B (rows k)=upZ D ys n k:=h k Oq
end
section
variable {n k v:Nat} {ys:List Nat}
end
def qkW {a b:Int} (h:b < a):(a-b).sign=1:=Int.sign_eq_one_of_pos Oq
def qkV {a b:Int} (h:¬ b < a):¬ (a-b).sign > 0:=fun q=>by
 rcases Int.lt_or_eq_of_le (Int.not_lt.1 h) with h | h
 ·rw [Int.sign_eq_neg_one_of_neg (by omega)] at q; omega
 ·rw [show a-b=0 by omega] at q; exact absurd q (by decide)
def grZ (l:List Int):Int:=l.foldl max 0
def qnm {l:List Int} {i:Nat} {x:Int} (h:l[i]?=some x):grZ (l.take (i+1))=max (grZ (l.take i)) x:=by
 unfold grZ;rw [q15 h,List.foldl_append]
 rfl
def qkq:∀ (l:List Int) (a:Int),(l.foldl max a=a∨l.foldl max a ∈ l)∧a≤l.foldl max a
 | [],a=>⟨.inl rfl,Int.le_refl _⟩
 | x :: l,a=>by
  have h:=qkq l (max a x);rw [List.foldl_cons];refine ⟨?_,by omega⟩
  rcases h.1 with h | h
  ·rw [h]
   rcases Int.le_total a x with q | q
   ·right; rw [Int.max_eq_right q]; exact List.mem_cons_self
   ·left; exact Int.max_eq_left q
  ·right; exact List.mem_cons_of_mem _ h
def qsu {p:Int→Prop} {l:List Int} (h0:p 0) (h:∀ x ∈ l,p x):p (grZ l):=by
 rcases (qkq l 0).1 with q | q
 ·unfold grZ; rw [q]; exact h0
 ·exact h _ q
def qkr {l:List Int} {k:Nat} (h:∀ x ∈ l,bl x.natAbs≤k):bl (grZ l).natAbs≤k:=qsu (p:=fun z=>bl z.natAbs≤k) (by simp [q0h]) h
def btD (n:Nat) (v:List Nat) (F:Nat→Nat→Option Nat) (i j k:Nat):Int:=q0p (v.getD (k*n+i) 0) ((F j k).getD 0)
def btE (n:Nat) (v:List Nat) (F:Nat→Nat→Option Nat) (i j:Nat):Int:=(if i=j then q2i else 0)-sg (btD n v F i j) n
def btZ (n:Nat) (v:List Nat) (F:Nat→Nat→Option Nat) (i:Nat):Int:=sg (fun j=>((btE n v F i j).natAbs:Int)) n
def btL (n:Nat) (v:List Nat) (F:Nat→Nat→Option Nat):List Int:=(List.range n).map (btZ n v F)
def q8H {g:Nat→Int} {K:Nat} (n:Nat) (hn:n≤1000) (h:∀ i,i < n→bl (g i).natAbs≤K):bl (sg g n).natAbs≤K+11:=by
 have e:∀ m,sg g m=q1B ((List.range m).map g):=fun m=>by
  induction m with
  | zero=>rfl
  | succ m ih=>rw [sg,ih,List.range_succ,List.map_append,List.map_singleton,q0q]
 have:=q5R (K:=K) (i:=n) (l:=(List.range n).map g) (fun x hx=>by
  obtain ⟨i,hi,rfl⟩:=List.mem_map.1 hx;exact h i (List.mem_range.1 hi)) Oq
 rw [List.take_of_length_le (by simp)] at this;rw [e];exact this
def q4M {g:Nat→Int} {n i:Nat} (h:i < n):((List.range n).map g)[i]?=some (g i):=by simp [h]
def qrx {g:Nat→Int} {n:Nat}:(List.range (n+1)).map g=(List.range n).map g ++ [g n]:=by rw [List.range_succ,List.map_append]; rfl
def q4L {g:Nat→Int} {n:Nat}:((List.range n).map g).length=n:=by simp
def q1F {v:List Nat} (hv:q08 v) {i:Nat}:v.getD i 0 < 18446744073709551616∧q0J (v.getD i 0):=by
 rw [List.getD_eq_getElem?_getD];cases h:v[i]? with
 | none=>exact ⟨by simp,by simp [q0J]⟩
 | some x=>exact hv x (List.mem_of_getElem? h)
def TOk.finD {f:Nat→Nat→Option Nat} {R C j i:Nat} (h:TOk f R C) (hj:j < C) (hi:i < R):q0J ((f j i).getD 0):=(h.fin hj hi).1
section
variable {F:Nat→Nat→Option Nat} {n r c R C:Nat} {v:List Nat}
def qlR (h:TOk F n n) (hv:q08 v) {i j k:Nat} (hj:j < n) (hk:k < n):bl (btD n v F i j k).natAbs≤67584:=qah (q1F hv).2 (h.finD hj hk)
def qbR (h:TOk F n n) (hv:q08 v) {i j:Nat} (hj:j < n):bl (btE n v F i j).natAbs≤67596:=by
 have h1:=q8H (g:=btD n v F i j) (K:=67584) n (by have:=h.r; omega) fun k hk=>qlR h hv hj hk;unfold btE;refine q8k (k:=67595) ?_ Oq
 split
 ·have:=q4S; omega
 ·simp [q0h]
def qbQ (h:TOk F n n) (hv:q08 v) {i:Nat}:bl (btZ n v F i).natAbs≤67607:=q8H (K:=67596) n (by have:=h.r; omega) fun j hj=>by rw [Int.natAbs_natCast]; exact qbR h hv hj
def qu7 (h:TOk F n n) (hv:q08 v):∀ x ∈ btL n v F,bl x.natAbs≤67607:=fun x hx=>by
 obtain ⟨i,_,rfl⟩:=List.mem_map.1 hx;exact qbQ h hv
def prZ (a b:Int):Int:=(mkV (a*b) (-131072)).getD 0
def qeK:q2i=(2:Int) ^ 65536:=by
 have h:=q7H (z:=1) (by have:=q0O (n:=Int.natAbs 1) (k:=1) (by decide); omega);rw [q4R.1] at h;have h:=Option.some.inj h;rw [Int.one_mul] at h;exact h
def mul_one {a:Int} (h:q0T a):mkV (a*q2i) (-131072)=some a:=by rw [qeK]; exact q4x h
end
def q8O (V:Int):od (V.natAbs:Int)=((od V).natAbs:Int)∧dyE (V.natAbs:Int)=dyE V:=by
 have hs:=q1o V
 by_cases hv:V < 0
 ·rw [decide_eq_true hv] at hs;have ho:od V < 0:=of_decide_eq_true hs;rw [show (V.natAbs:Int) = -V by omega,qeM,q9j];exact ⟨by omega,rfl⟩
 ·rw [decide_eq_false hv] at hs;have ho:¬ od V < 0:=of_decide_eq_false hs;rw [show (V.natAbs:Int)=V by omega];exact ⟨by omega,rfl⟩
def qky {V:Int} (h:q0T V):q0T (V.natAbs:Int):=by unfold q0T at *; rwa [Int.natAbs_natCast]
section
variable {A B V z:Int} {v:Nat}
def q7n (h1 : -9223372036854775808≤z) (h2:z≤9223372036854775807) (hv:mkV z 0=some V):ACt 90 [iv z] (dT V):=by
 have hz:bl z.natAbs≤64:=q0O (Nat.lt_of_le_of_lt (show z.natAbs≤9223372036854775808 by omega) (by decide));have C1:=@q1q;have C2:=q32 (m:=z) (e:=0) rfl Oq Oq Oq hv;refine ac0 Tryz.func90 Tryz.ntmps90 [.cell 2 48] ?_;exact wk trivial
def qcr:ACt 90 [iv 1] (dT q2i):=q7n Oq Oq q4R.1
def qaI:ACt 90 [iv 0] (dT 0):=q7n Oq Oq (q1T _)
def qcv (hA:q0T A):ACt 165 [dT A] (dT (A.natAbs:Int)):=by
 have C1:=q9E hA;have C2:=@q5b;have:=(q0r hA).2.2;have f1:=(q8O A).1.symm;have f2:=(q8O A).2;refine ac0 Tryz.func165 Tryz.ntmps165 [.cell 2 48] ?_;exact wk1 (x2 f1 f2) trivial
end
def qa0 {g:Nat→Int}:∀ n,q1B ((List.range n).map g)=sg g n
 | 0=>rfl
 | n+1=>by rw [List.range_succ,List.map_append,List.map_singleton,q0q,qa0 n,sg]
def dy0:q0T 0:=by simp [q0T,q0h]
def pPn (r c:Nat) (v:List Nat):PV:=.ag [iv r,iv c,pF v]
open Classical in
noncomputable def chP (r c:Nat) (v:List Nat):Int:=if v.length≠r*c then 2 else if ∀ x ∈ v,q0J x then 0 else 4
section
variable {l:List Int} {r c i j:Nat} {v:List Nat}
def qu3 (hn:l.length≤1000000):ACt 223 [pVs l] (pV (grZ l)):=by
 have C1:=q1m qaI dy0;have N1:=q1M (V:=0);refine ac0 Tryz.func223 Tryz.ntmps223 [.cell 2 48] ?_;refine wk ?_;refine q0A (fun i=>i≤l.length) [2,3,9,10] [2] Lk Lk (fun i:Nat=>[(11,iv i)]) (fun i=>[(3,⟨48,some 4,[pV (grZ (l.take i))],false⟩)]) (fun i=>l.length-i) 0 (Nat.zero_le _) ?_ ?_
 ·refine LeM [] rfl rfl ?_;refine Zz ?_;exact ⟨rfl,rfl⟩
 ·intro i hi
  by_cases hlt:i < l.length
  ·obtain ⟨x,hx⟩:∃ x,l[i]?=some x:=⟨_,List.getElem?_eq_getElem hlt⟩;have C2:=qgR qfq fun ho=>qcu (A:=x) (B:=grZ (l.take i)) ho.1 ho.2;have es:=qnm hx;generalize grZ (l.take i)=G at *
   by_cases h:G < x
   ·rw [qkW h] at C2;rw [show max G x=x by omega] at es;refine wk1 hx ?_;refine ⟨i+1,by omega,by omega,?_⟩;rw [es];refine LeM [] rfl rfl ?_;refine Zz ?_
    first | done | omega | exact ⟨by omega,rfl⟩
   ·have q:=qkV h;rw [show max G x=G by omega] at es;generalize (x-G).sign=s at *;refine wk1 hx ?_;refine ⟨i+1,by omega,by omega,?_⟩;rw [es];refine LeM [] rfl rfl ?_;refine Zz ?_
    first | done | omega | exact ⟨by omega,rfl⟩
  ·obtain rfl:i=l.length:=by omega
   rw [List.take_length];exact wk trivial
def q7l (hn:l.length≤1000000):ACt 137 [pVs l] (pV (grZ l)):=by
 have N1:=q1M (V:=0);refine ac0 Tryz.func137 Tryz.ntmps137 [.cell 2 48] ?_;refine wk ?_;refine q0A (fun i=>i≤l.length) [0,2,3] [2] Lk Lk (fun i:Nat=>[(4,iv i)]) (fun i=>[(3,⟨48,some 4,[pV (grZ (l.take i))],false⟩)]) (fun i=>l.length-i) 0 (Nat.zero_le _) ?_ ?_
 ·refine LeM [] rfl rfl ?_;refine Zz ?_;exact ⟨rfl,qgV rfl⟩
 ·intro i hi
  by_cases hlt:i < l.length
  ·obtain ⟨x,hx⟩:∃ x,l[i]?=some x:=⟨_,List.getElem?_eq_getElem hlt⟩;have C2:=q4q (A:=grZ (l.take i)) (B:=x);have es:=qnm hx;generalize grZ (l.take i)=G at *
   by_cases h:G < x
   ·rw [decide_eq_true h] at C2;rw [show max G x=x by omega] at es;refine wk1 hx ?_;refine ⟨i+1,by omega,by omega,?_⟩;rw [es];refine LeM [] rfl rfl ?_;refine Zz ?_
    first | done | omega | exact ⟨by omega,rfl⟩
   ·rw [decide_eq_false h] at C2;rw [show max G x=G by omega] at es;refine wk1 hx ?_;refine ⟨i+1,by omega,by omega,?_⟩;rw [es];refine LeM [] rfl rfl ?_;refine Zz ?_
    first | done | omega | exact ⟨by omega,rfl⟩
  ·obtain rfl:i=l.length:=by omega
   rw [List.take_length];exact wk trivial
def qfc {n:Nat} (hr:r≤64) (hc:c≤64) (hn:n≤1000000):ACt 247 [iv r,iv c,iv n] (iv (if n≠r*c then 2 else 0)):=by
 have hm:r*c≤64*64:=Nat.mul_le_mul hr hc;have w1:IntKind.i64.wrap ((r:Int)*(c:Int))=((r*c:Nat):Int):=by rw [← Int.natCast_mul,i64_in (by omega) (by omega)]
 generalize r*c=m at *;refine ac0 Tryz.func247 Tryz.ntmps247 [.tmp 6] ?_
 by_cases h:n=m
 ·have q:((n:Int) != (m:Int))=false:=by simp; omega
  rw [if_neg (not_not_intro h)];exact wk1 (x2 w1 q) trivial
 ·have q:((n:Int) != (m:Int))=true:=by simp; omega
  rw [if_pos h];exact wk1 (x2 w1 q) trivial
def qcl {n:Nat} (hr:r≤64) (hc:c≤64) (hn:n≤1000000):ACt 168 [iv r,iv c,iv n] (iv (if n≠r*c then 2 else 0)):=by
 have hm:r*c≤64*64:=Nat.mul_le_mul hr hc;have w1:IntKind.i64.wrap ((r:Int)*(c:Int))=((r*c:Nat):Int):=by rw [← Int.natCast_mul,i64_in (by omega) (by omega)]
 generalize r*c=m at *;refine ac0 Tryz.func168 Tryz.ntmps168 [.tmp 6] ?_
 by_cases h:n=m
 ·have q:((n:Int) != (m:Int))=false:=by simp; omega
  rw [if_neg (not_not_intro h)];exact wk1 (x2 w1 q) trivial
 ·have q:((n:Int) != (m:Int))=true:=by simp; omega
  rw [if_pos h];exact wk1 (x2 w1 q) trivial
open Classical in
def qjF (hr:r≤64) (hc:c≤64) (hn:v.length≤1000000) (hv:∀ x ∈ v,x < 18446744073709551616):ACt 161 [pPn r c v] (iv (chP r c v)):=by
 have C1:=qfc (n:=v.length) hr hc hn;obtain ⟨res,hres⟩:∃ res,res=chP r c v:=⟨_,rfl⟩;rw [← hres];unfold chP at hres;unfold pPn;refine ac0 Tryz.func161 Tryz.ntmps161 [.tmp 2] ?_
 by_cases h:v.length=r*c
 rotate_left
 ·rw [if_pos h] at C1 hres;subst hres;exact wk trivial
 rw [if_neg (not_not_intro h)] at C1 hres;refine wk ?_;refine q0A (fun i=>i≤v.length∧∀ x ∈ v.take i,q0J x) [18,19] [] Lk Lk (fun i:Nat=>[(20,iv i)]) (fun _=>[]) (fun i=>v.length-i) 0 ⟨Nat.zero_le _,by simp⟩ ?_ ?_
 ·refine LeM [] rfl rfl ?_;refine Zz ?_
  rfl
 ·rintro i ⟨hi,hf⟩
  by_cases hil:i < v.length
  ·obtain ⟨x,hx⟩:∃ x,v[i]?=some x:=⟨_,List.getElem?_eq_getElem hil⟩;have hmx:=List.mem_of_getElem? hx;have cF:=q7S (hv x hmx)
   by_cases hfx:q0J x
   case neg =>
    rw [decide_eq_false hfx] at cF;rw [if_neg fun h=>hfx (h x hmx)] at hres;subst hres;exact wk1 hx trivial
   rw [decide_eq_true hfx] at cF;refine wk1 hx ?_;refine ⟨i+1,⟨by omega,?_⟩,by omega,?_⟩
   ·rw [q15 hx];intro y hy
    rcases List.mem_append.1 hy with hy | hy
    ·exact hf y hy
    ·simp at hy; subst hy; exact hfx
   ·refine LeM [] rfl rfl ?_;refine Zz ?_;omega
  ·obtain rfl:i=v.length:=by omega
   rw [List.take_length] at hf;rw [if_pos hf] at hres;subst hres;exact wk trivial
open Classical in
def qgf (hr:r≤64) (hc:c≤64) (hn:v.length≤1000000) (hv:∀ x ∈ v,x < 18446744073709551616):ACt 63 [pPn r c v] (iv (chP r c v)):=by
 have C1:=qcl (n:=v.length) hr hc hn;obtain ⟨res,hres⟩:∃ res,res=chP r c v:=⟨_,rfl⟩;rw [← hres];unfold chP at hres;unfold pPn;refine ac0 Tryz.func63 Tryz.ntmps63 [.tmp 2] ?_
 by_cases h:v.length=r*c
 rotate_left
 ·rw [if_pos h] at C1 hres;subst hres;exact wk trivial
 rw [if_neg (not_not_intro h)] at C1 hres;refine wk ?_;refine q0A (fun i=>i≤v.length∧∀ x ∈ v.take i,q0J x) [1] [1] Lk Lk (fun i:Nat=>[(4,iv i)]) (fun _=>[]) (fun i=>v.length-i) 0 ⟨Nat.zero_le _,by simp⟩ ?_ ?_
 ·refine LeM [] rfl rfl ?_;refine Zz ?_
  rfl
 ·rintro i ⟨hi,hf⟩
  by_cases hil:i < v.length
  ·obtain ⟨x,hx⟩:∃ x,v[i]?=some x:=⟨_,List.getElem?_eq_getElem hil⟩;have hmx:=List.mem_of_getElem? hx;have cF:=q1W (hv x hmx)
   by_cases hfx:q0J x
   case neg =>
    rw [decide_eq_false hfx] at cF;rw [if_neg fun h=>hfx (h x hmx)] at hres;subst hres;exact wk1 hx trivial
   rw [decide_eq_true hfx] at cF;refine wk1 hx ?_;refine ⟨i+1,⟨by omega,?_⟩,by omega,?_⟩
   ·rw [q15 hx];intro y hy
    rcases List.mem_append.1 hy with hy | hy
    ·exact hf y hy
    ·simp at hy; subst hy; exact hfx
   ·refine LeM [] rfl rfl ?_;refine Zz ?_;omega
  ·obtain rfl:i=v.length:=by omega
   rw [List.take_length] at hf;rw [if_pos hf] at hres;subst hres;exact wk trivial
def qco:ACt 64 [] (pV q2i):=by
 have C1:=q2f (V:=q2i) (z:=1) Oq Oq q4R.1;refine ac0 Tryz.func64 Tryz.ntmps64 [.cell 0 48] ?_;exact wk trivial
def q7k (hr:r≤64) (hc:c≤64) (hl:v.length=r*c) (hv:q08 v) (hi:i < r) (hj:j < c):ACt 66 [pPn r c v,iv i,iv j] (pV (ofZ (v.getD (j*r+i) 0))):=by
 have hm:r*c≤64*64:=Nat.mul_le_mul hr hc;have hm2:j*r+r≤r*c:=by rw [← Nat.succ_mul,Nat.mul_comm r c]; exact Nat.mul_le_mul_right _ hj
 have w1:IntKind.i64.wrap ((j:Int)*(r:Int))=((j*r:Nat):Int):=by rw [← Int.natCast_mul,i64_in (by omega) (by omega)]
 have w2:IntKind.i64.wrap (((j*r:Nat):Int)+(i:Int))=((j*r+i:Nat):Int):=by rw [i64_in (by omega) (by omega)]; omega
 obtain ⟨x,hx⟩:∃ x,v[j*r+i]?=some x:=⟨_,List.getElem?_eq_getElem Oq⟩;obtain ⟨h1,h2⟩:=hv x (List.mem_of_getElem? hx);rw [getD_some hx];have C1:=q0u h1 (q0S h2);generalize j*r=jr at *;unfold pPn;refine ac0 Tryz.func66 Tryz.ntmps66 [.cell 6 48] ?_;exact wk1 (x3 w1 w2 hx) trivial
end
section
variable {r c i j:Nat} {v:List Nat}
def quS (h:chP r c v=0) (hv:∀ x ∈ v,x < 18446744073709551616):v.length=r*c∧q08 v:=by
 unfold chP at h
 by_cases h1:v.length=r*c
 ·rw [if_neg (not_not_intro h1)] at h;refine ⟨h1,fun x hx=>⟨hv x hx,?_⟩⟩;refine Classical.byContradiction fun hn=>?_;rw [if_neg fun q=>hn (q x hx)] at h;cases h
 ·rw [if_pos h1] at h;cases h
def qsT (hr:r≤64) (hc:c≤64) (hl:v.length=r*c) (hi:i < r) (hj:j < c):IntKind.i64.wrap ((j:Int)*(r:Int))=((j*r:Nat):Int)∧IntKind.i64.wrap (((j*r:Nat):Int)+(i:Int))=((j*r+i:Nat):Int)∧∃ x,v[j*r+i]?=some x:=by
 have hm:r*c≤64*64:=Nat.mul_le_mul hr hc;have hm2:j*r+r≤r*c:=by rw [← Nat.succ_mul,Nat.mul_comm r c]; exact Nat.mul_le_mul_right _ hj
 exact ⟨by rw [← Int.natCast_mul,i64_in (by omega) (by omega)],by rw [i64_in (by omega) (by omega)]; omega,_,List.getElem?_eq_getElem (by omega)⟩
end
def qmj {n m i:Nat} {g:Nat→Nat} (hi:i < n):(rwG n g m)[i]?=some (if i < m then g i else 0):=by
 unfold rwG;rw [List.getElem?_map,List.getElem?_range hi]; rfl
def qrf {e:Int} {n:Nat} {l:List Nat} (h:qhC e n l=0):e=0∧l.length=n∧∀ x ∈ l,q0J x:=by
 unfold qhC at h
 split at h
 ·exact absurd h (by assumption)
 ·split at h
  ·cases h
  ·split at h
   ·cases h
   ·rename_i h1 h2 h3;exact ⟨Decidable.not_not.1 h1,Decidable.not_not.1 h2,Classical.not_not.1 h3⟩

def qbi {raw:List Nat} {k st:Int} {n:Nat} (hr:raw.length≤9223372036854775807) (hn:n≤1000000) (h1 : -1000000≤k) (h2:k≤1000000) (h3 : -9223372036854775808≤st) (h4:st≤9223372036854775807) :
  qcj 48 [pF raw,iv k,iv n,iv st] h0 (.ow 5000 none 0 n) (q0Q h0 5000 ⟨33,none,(q4r raw k (q00 st 4) n).map fun z:Nat=>uv z,false⟩):=by
 have hJ:∀ i,¬ (h0 i≠none):=fun i h=>h rfl;refine qgQ quY Tryz.func48 rfl Tryz.ntmps48 (by kernel_rfl) ?_ ?_ ?_ ?_
 ·intro i b hb; cases hb
 ·intro i b hb
  by_cases hi:i=5000
  ·subst hi; exact ⟨by omega,by omega⟩
  ·rw [q0B hi] at hb; cases hb
 ·exact IdL.of fun x hx=>by
   simp at hx
   rcases hx with rfl | rfl | rfl | rfl <;> unfold IdP <;> trivial
 have hW:WfH h0:=⟨fun i b hb=>by cases hb⟩;refine wk ?_;refine q0U (fun i=>i≤n) [0,1,2,3] [] Lk Lk (fun i:Nat=>[(10,iv i),(9,.ow 11 none 0 i)]) (fun i=>[(11,⟨33,none,(q4r raw k (q00 st 4) i).map fun z:Nat=>uv z,false⟩)]) (fun _=>h0) (fun i=>n-i) 0 (Nat.zero_le _) ?_ ?_
 ·refine LeW [] rfl rfl ?_ ?_ (by simp [q0x,q0g,win]) ?_
  ·exact Ow
  ·exact hW
  ·try refine Zz ?_
   exact ⟨rfl,rfl⟩
 ·intro i hi
  by_cases hlt:i < n
  ·have C1:=@q6b;have C2:=@qeN;have C3:=@q3H;refine wk1 @q2S ?_;refine ⟨i+1,by omega,by omega,?_⟩;refine LeW [(11,some 26)] rfl rfl ?_ ?_ (by simp [q0x,q0g,win]) ?_
   ·exact Ow
   ·exact hW
   ·try refine Zz ?_
    exact ⟨by omega,by rw [qjm]⟩
  ·obtain rfl:i=n:=by omega
   refine wk ?_;refine (rtM (rs:=[.tmp 8]) rfl rfl Lq ?_ (.inl rfl));refine LeO hJ ?_ clU
   try simp -implicitDefEqProofs (disch:=omega) only [go_sem,Nat.reduceEqDiff,Nat.reduceAdd,↓reduceIte]


def qau {l:List Nat} (h:q08 l) (i:Nat):l.getD i 0 < 18446744073709551616∧q0J (l.getD i 0):=by
 rw [List.getD_eq_getElem?_getD];cases hx:l[i]? with
 | none=>exact ⟨by simp,by unfold q0J; simp⟩
 | some x=>exact h x (List.mem_of_getElem? hx)

section
variable {F:Nat→Nat→Option Nat} {l:List Int} {cs:List Nat} {cols:List (List Nat)} {j n M:Nat} {p:LSt}
end
def q29 {raw:List Nat} {k:Int} {st n:Nat}:q08 (q4r raw k st n):=fun x hx=>by
 unfold q4r at hx;obtain ⟨i,_,rfl⟩:=List.mem_map.1 hx;have:=qeO (k:=st) (q3H raw (k+i));exact ⟨this.2,this.1⟩


def gaS (l:List Nat) (o:List Int) (n:Nat):List Nat:=rwG n (fun k=>l.getD (o.getD k 0).toNat 0) n
def scS (x:List Nat) (o:List Int) (n:Nat):Nat→List Nat
 | 0=>List.replicate n 0
 | k+1=>(scS x o n k).set (o.getD k 0).toNat (x.getD k 0)
def q5X {x:List Nat} {o:List Int} {n:Nat}:∀ k,(scS x o n k).length=n
 | 0=>List.length_replicate
 | k+1=>by rw [scS,List.length_set,q5X k]
def qex {l:List Nat} {o:List Int} {n:Nat}:(gaS l o n).length=n:=q4K
def qey {l:List Nat} {o:List Int} {n:Nat} (hl:q08 l):q08 (gaS l o n):=fun x hx=>by
 unfold gaS rwG at hx;obtain ⟨j,_,rfl⟩:=List.mem_map.1 hx
 split
 ·exact qau hl _
 ·exact ⟨by omega,by unfold q0J; simp⟩
section
variable {l:List Nat} {o:List Int} {n:Nat}
def qqK (hl:l.length=n) (ho:o.length=n) (hn:n≤1000000) (hb:∀ x ∈ o,0≤x∧x < n):ACt 113 [pF l,pI o] (pF (gaS l o n)):=by
 unfold gaS;have hgl:∀ m,(rwG n (fun k=>l.getD (o.getD k 0).toNat 0) m).length=n:=fun _=>q4K;generalize hg:(fun k=>l.getD (o.getD k 0).toNat 0)=g at *;refine ac0 Tryz.func113 Tryz.ntmps113 [.tmp 4] ?_;refine wk1 hl ?_;refine q0A (fun k=>k≤n) [0,11,12] [] Lk Lk (fun k:Nat=>[(13,iv k),(5,.ow 1001 none 0 n)]) (fun k=>[(1001,⟨33,none,(rwG n g k).map fun z:Nat=>uv z,false⟩)]) (fun k=>n-k) 0 (Nat.zero_le _) ?_ ?_
 ·rw [← qde];refine LeM [(1001,some 10)] rfl rfl ?_;refine Zz ?_;simp
 ·intro k hk
  by_cases hlt:k < n
  ·obtain ⟨x,hx⟩:∃ x,o[k]?=some x:=⟨_,List.getElem?_eq_getElem Oq⟩;obtain ⟨h1,h2⟩:=hb x (List.mem_of_getElem? hx);obtain ⟨x,rfl⟩:∃ y:Nat,x=y:=⟨x.toNat,by omega⟩;obtain ⟨u,hu⟩:∃ u,l[x]?=some u:=⟨_,List.getElem?_eq_getElem Oq⟩;have hs:=qdd (n:=n) (g:=g) (m:=k);have hgk:g k=u:=by rw [← hg]; simp only [getD_some hx,Int.toNat_natCast,getD_some hu]
   rw [hgk] at hs;refine wk1 (x3 hx hu (hgl k)) ?_;refine ⟨k+1,by omega,by omega,?_⟩;refine LeM [] rfl rfl ?_;refine Zz ?_;rw [← hs];exact ⟨by omega,rfl⟩
  ·obtain rfl:k=n:=by omega
   have hgk:=hgl k;exact wk1 ho trivial
def qqC (hl:l.length=n) (ho:o.length=n) (hn:n≤1000000) (hb:∀ x ∈ o,0≤x∧x < n):ACt 123 [pF l,pI o] (pF (gaS l o n)):=by
 unfold gaS;have hgl:∀ m,(rwG n (fun k=>l.getD (o.getD k 0).toNat 0) m).length=n:=fun _=>q4K;generalize hg:(fun k=>l.getD (o.getD k 0).toNat 0)=g at *;refine ac0 Tryz.func123 Tryz.ntmps123 [.tmp 4] ?_;refine wk1 ho ?_;refine q0A (fun k=>k≤n) [0,1] [] Lk Lk (fun k:Nat=>[(6,iv k),(5,.ow 1001 none 0 n)]) (fun k=>[(1001,⟨33,none,(rwG n g k).map fun z:Nat=>uv z,false⟩)]) (fun k=>n-k) 0 (Nat.zero_le _) ?_ ?_
 ·rw [← qde];refine LeM [(1001,some 9)] rfl rfl ?_;refine Zz ?_;simp
 ·intro k hk
  by_cases hlt:k < n
  ·obtain ⟨x,hx⟩:∃ x,o[k]?=some x:=⟨_,List.getElem?_eq_getElem Oq⟩;obtain ⟨h1,h2⟩:=hb x (List.mem_of_getElem? hx);obtain ⟨x,rfl⟩:∃ y:Nat,x=y:=⟨x.toNat,by omega⟩;obtain ⟨u,hu⟩:∃ u,l[x]?=some u:=⟨_,List.getElem?_eq_getElem Oq⟩;have hs:=qdd (n:=n) (g:=g) (m:=k);have hgk:g k=u:=by rw [← hg]; simp only [getD_some hx,Int.toNat_natCast,getD_some hu]
   rw [hgk] at hs;refine wk1 (x4 ho hx hu (hgl k)) ?_;refine ⟨k+1,by omega,by omega,?_⟩;refine LeM [] rfl rfl ?_;refine Zz ?_;rw [← hs];exact ⟨by omega,rfl⟩
  ·obtain rfl:k=n:=by omega
   have hgk:=hgl k;exact wk1 ho trivial
def qme (hl:l.length=n) (ho:o.length=n) (hn:n≤1000000) (hb:∀ x ∈ o,0≤x∧x < n):qcj 119 [pF l,pI o] h0 (.ow 5000 none 0 n) (q0Q h0 5000 ⟨33,none,(scS l o n n).map fun z:Nat=>uv z,false⟩):=by
 have hJ:∀ i,¬ (h0 i≠none):=fun i h=>h rfl;refine qgQ qlP Tryz.func119 rfl Tryz.ntmps119 (by kernel_rfl) ?_ ?_ ?_ ?_
 ·intro i b hb; cases hb
 ·exact qby
 ·exact IdL.of fun x hx=>by
   simp at hx
   rcases hx with rfl | rfl <;> unfold IdP <;> trivial
 have hW:WfH h0:=⟨fun i b hb=>by cases hb⟩;refine wk1 hl ?_;refine q0U (fun k=>k≤n) [0,11,12] [] Lk Lk (fun k:Nat=>[(13,iv k),(5,.ow 1001 none 0 n)]) (fun k=>[(1001,⟨33,none,(scS l o n k).map fun z:Nat=>uv z,false⟩)]) (fun _=>h0) (fun k=>n-k) 0 (Nat.zero_le _) ?_ ?_
 ·refine LeW [(1001,some 10)] rfl rfl ?_ ?_ (by simp [q0x,q0g,win]) ?_
  ·exact Ow
  ·exact hW
  ·rw [scS]
   try refine Zz ?_
   simp
 ·intro k hk
  by_cases hlt:k < n
  ·obtain ⟨x,hx⟩:∃ x,o[k]?=some x:=⟨_,List.getElem?_eq_getElem Oq⟩;obtain ⟨h1,h2⟩:=hb x (List.mem_of_getElem? hx);obtain ⟨x,rfl⟩:∃ y:Nat,x=y:=⟨x.toNat,by omega⟩;obtain ⟨u,hu⟩:∃ u,l[k]?=some u:=⟨_,List.getElem?_eq_getElem Oq⟩;have hs:scS l o n (k+1)=(scS l o n k).set x u:=by rw [scS,getD_some hx,Int.toNat_natCast,getD_some hu]
   have hsl:=q5X (x:=l) (o:=o) (n:=n) k;refine wk1 (x3 hx hu hsl) ?_;refine ⟨k+1,by omega,by omega,?_⟩;refine LeW [] rfl rfl ?_ ?_ (by simp [q0x,q0g,win]) ?_
   ·exact Ow
   ·exact hW
   ·try refine Zz ?_
    exact ⟨by omega,hs.symm⟩
  ·obtain rfl:k=n:=by omega
   refine wk1 ho ?_;refine (rtM (rs:=[.tmp 4]) rfl rfl Lq ?_ (.inl rfl));refine LeO hJ ?_ clU
   try simp -implicitDefEqProofs (disch:=omega) only [go_sem,Nat.reduceEqDiff,Nat.reduceAdd,↓reduceIte]
def q9A (hl:l.length=n) (ho:o.length=n) (hn:n≤1000000) (hb:∀ x ∈ o,0≤x∧x < n):qcj 131 [pF l,pI o] h0 (.ow 5000 none 0 n) (q0Q h0 5000 ⟨33,none,(scS l o n n).map fun z:Nat=>uv z,false⟩):=by
 have hJ:∀ i,¬ (h0 i≠none):=fun i h=>h rfl;refine qgQ qlN Tryz.func131 rfl Tryz.ntmps131 (by kernel_rfl) ?_ ?_ ?_ ?_
 ·intro i b hb; cases hb
 ·exact qby
 ·exact IdL.of fun x hx=>by
   simp at hx
   rcases hx with rfl | rfl <;> unfold IdP <;> trivial
 have hW:WfH h0:=⟨fun i b hb=>by cases hb⟩;refine wk1 ho ?_;refine q0U (fun k=>k≤n) [0,1] [] Lk Lk (fun k:Nat=>[(6,iv k),(5,.ow 1001 none 0 n)]) (fun k=>[(1001,⟨33,none,(scS l o n k).map fun z:Nat=>uv z,false⟩)]) (fun _=>h0) (fun k=>n-k) 0 (Nat.zero_le _) ?_ ?_
 ·refine LeW [(1001,some 9)] rfl rfl ?_ ?_ (by simp [q0x,q0g,win]) ?_
  ·exact Ow
  ·exact hW
  ·rw [scS]
   try refine Zz ?_
   simp
 ·intro k hk
  by_cases hlt:k < n
  ·obtain ⟨x,hx⟩:∃ x,o[k]?=some x:=⟨_,List.getElem?_eq_getElem Oq⟩;obtain ⟨h1,h2⟩:=hb x (List.mem_of_getElem? hx);obtain ⟨x,rfl⟩:∃ y:Nat,x=y:=⟨x.toNat,by omega⟩;obtain ⟨u,hu⟩:∃ u,l[k]?=some u:=⟨_,List.getElem?_eq_getElem Oq⟩;have hs:scS l o n (k+1)=(scS l o n k).set x u:=by rw [scS,getD_some hx,Int.toNat_natCast,getD_some hu]
   have hsl:=q5X (x:=l) (o:=o) (n:=n) k;refine wk1 (x4 ho hx hu hsl) ?_;refine ⟨k+1,by omega,by omega,?_⟩;refine LeW [] rfl rfl ?_ ?_ (by simp [q0x,q0g,win]) ?_
   ·exact Ow
   ·exact hW
   ·try refine Zz ?_
    exact ⟨by omega,hs.symm⟩
  ·obtain rfl:k=n:=by omega
   refine wk1 ho ?_;refine (rtM (rs:=[.tmp 4]) rfl rfl Lq ?_ (.inl rfl));refine LeO hJ ?_ clU
   try simp -implicitDefEqProofs (disch:=omega) only [go_sem,Nat.reduceEqDiff,Nat.reduceAdd,↓reduceIte]
end
section
variable {n k z:Nat} {rows:Nat→List Int} {l:List PV}
def qf1 {z:Int}:q7g (qdm rows) k ((rows k ++ [z]).map fun V=>pV V)=qdm (q4b rows k z):=by
 funext j
 unfold q7g qdm q4b
 by_cases h:j=k
 ·subst h; rw [if_pos rfl,if_pos rfl]
 ·rw [if_neg h,if_neg h]
end
def RsI (f:Nat→Nat→Option Nat) (x:List (Nat × Nat)) (b:List Nat) (R J:Nat) (rows:Nat→List Int):Prop:=∀ r,r < R→q1B (rows r)=ofZ (b.getD r 0)-sg (fun j=>q7F ((f j r).getD 0) (x.getD j (0,0))) J
section
variable {f:Nat→Nat→Option Nat} {x:List (Nat × Nat)} {b:List Nat} {R C J:Nat} {rows:Nat→List Int}
def qsa {p:Nat × Nat}:q7F 0 p=0:=by unfold q7F; rw [qai,qai]; rfl
def qff {g:Nat→Int} (h0:g 0=0) {r:Nat}:∀ i,ctG g (tZ f J i) r=if r < i then g ((f J r).getD 0) else 0
 | 0=>by unfold ctG tZ; simp [q2Y]
 | i+1=>by
  have ih:=qff h0 (r:=r) i;unfold ctG at *;rw [tZ_s,List.map_append];cases h:f J i with
  | none =>
   rw [List.map_nil,List.append_nil,ih]
   by_cases hr:r < i
   ·rw [if_pos hr,if_pos (by omega)]
   ·rw [if_neg hr]
    by_cases h2:r=i
    ·subst h2; rw [if_pos (by omega),h]; exact h0.symm
    ·rw [if_neg (by omega)]
  | some v =>
   rw [List.map_singleton,q0q,ih];dsimp only
   by_cases h2:r=i
   ·subst h2; rw [if_neg (by omega),if_pos rfl,if_pos (by omega),h]; simp
   ·rw [if_neg (show ¬ i=r from fun q=>h2 q.symm)]
    by_cases hr:r < i
    ·rw [if_pos hr,if_pos (by omega)]; omega
    ·rw [if_neg hr,if_neg (by omega)]; rfl
def RsI.s (h:RsI f x b R J rows):RsI f x b R (J+1) (psG (fun v=>q7F v (x.getD J (0,0))) (tZ f J R) rows):=fun r hr=>by
 rw [q52,h r hr,qff (qsa) R,if_pos hr,sg];omega
def RsI.bg (hb:b.length=R):RsI f x b R 0 (bgR b R):=fun r hr=>by
 subst hb;rw [qgH hr,sg]; omega
end
section
variable {f:Nat→Nat→Option Nat} {R C:Nat}
end
def qdL {n:Nat} {a b:Nat→List Int} (h:∀ r,r < n→a r=b r):q6m n a=q6m n b:=by
 funext i
 unfold q6m q10 qdm
 split
 ·congr 2
  exact List.map_congr_left fun j hj=>by rw [h j (List.mem_range.1 hj)]
 ·split
  ·rw [h _ (by omega)]
  ·rfl
def qkb {x y:Nat}:q0p x y=q0p y x:=by unfold q0p; rw [Int.mul_comm]
def qeQ {x:Nat}:q0p x 0=0:=by rw [qkb,qai]
open Classical in
noncomputable def btC (R C r c:Nat) (v:List Nat):Int:=if R≠C then 5 else if chP r c v≠0 then chP r c v else if r≠R∨c≠C then 5 else 0
noncomputable def btA (R C:Nat) (F:Nat→Nat→Option Nat) (r c:Nat) (v:List Nat):List Int × Int:=if btC R C r c v≠0 then ([],btC R C r c v) else (btL R v F,0)
section
variable {F:Nat→Nat→Option Nat} {n R C r c:Nat} {v:List Nat}
def btR (n:Nat) (v:List Nat) (F:Nat→Nat→Option Nat) (i J:Nat):Nat→List Int:=fun r=>(List.range (if r < i then J+1 else J)).map fun j=>((btE n v F r j).natAbs:Int)
def btR_0:btR n v F 0 0=fun _=>[]:=by
 funext r
 unfold btR;rw [if_neg (by omega)]
 rfl
def btR_s {i J:Nat}:btR n v F (i+1) J=q4b (btR n v F i J) i ((btE n v F i J).natAbs:Int):=by
 funext r
 unfold btR q4b;dsimp only
 by_cases h:r=i
 ·subst h;rw [if_pos rfl,if_pos (by omega),if_neg (by omega),List.range_succ,List.map_append]
  rfl
 ·rw [if_neg h]
  by_cases h2:r < i
  ·rw [if_pos (by omega),if_pos h2]
  ·rw [if_neg (by omega),if_neg h2]
def btR_n {J:Nat}:q6m n (btR n v F n J)=q6m n (btR n v F 0 (J+1)):=qdL fun r hr=>by
 unfold btR;rw [if_pos hr,if_neg (by omega)]
def qft {i J r:Nat}:(btR n v F i J r).length≤J+1:=by
 unfold btR;rw [List.length_map,List.length_range]
 split <;> omega
def qom {i:Nat}:q1B (btR n v F 0 n i)=btZ n v F i:=by
 unfold btR;rw [if_neg (by omega),qa0]
 rfl
def btT (n:Nat) (v:List Nat) (i:Nat) (e:Nat × Nat):Int := -(q0p (v.getD (e.1*n+i) 0) e.2)
def btO (i j:Nat):List Int:=if i=j then [q2i] else []
def q9q {i j:Nat}:∀ m,q1B ((tZ F j m).map (btT n v i)) = -(sg (btD n v F i j) m)
 | 0=>rfl
 | m+1=>by
  rw [tZ_s,List.map_append,sg];cases h:F j m with
  | none =>
   rw [List.map_nil,List.append_nil,q9q m];have:btD n v F i j m=0:=by unfold btD; rw [h]; exact qeQ
   omega
  | some x =>
   rw [List.map_singleton,q0q,q9q m];have:btD n v F i j m=q0p (v.getD (m*n+i) 0) x:=by unfold btD; rw [h]; rfl
   unfold btT;dsimp only;omega
def qaS (A:List Int):∀ B:List Int,q1B (A ++ B)=q1B A+q1B B:=fun B=>by
 induction B generalizing A with
 | nil=>rw [List.append_nil,q2Y]; omega
 | cons y Y ih=>rw [show A ++ y :: Y=(A ++ [y]) ++ Y by simp,ih,q0q,q2c]; omega
def qop {i j:Nat}:q1B (btO i j ++ (tZ F j n).map (btT n v i))=btE n v F i j:=by
 rw [qaS,q9q];unfold btO btE
 split
 ·rw [q2q]; omega
 ·rw [q2Y]; omega
def qlQ {i j:Nat}:∀ z ∈ btO i j,bl z.natAbs≤67600:=fun z hz=>by
 unfold btO at hz
 split at hz
 ·simp at hz; subst hz; have:=q4S; omega
 ·cases hz
def qfu {i j:Nat}:(btO i j).length≤1:=by unfold btO; split <;> simp
def qu6 (hv:q08 v) {i:Nat} {L:List (Nat × Nat)} (hL:∀ e ∈ L,q0J e.2):∀ z ∈ L.map (btT n v i),bl z.natAbs≤67600:=fun z hz=>by
 obtain ⟨e,he,rfl⟩:=List.mem_map.1 hz;unfold btT;rw [Int.natAbs_neg];exact (q0b (q1F hv).2 (hL e he)).2
def qf5 (h:TOk F R C) (hr:r≤64) (hc:c≤64) (hn:v.length≤1000000) (hv:∀ x ∈ v,x < 18446744073709551616):ACt 60 [pT R C F,pPn r c v] (iv (btC R C r c v)):=by
 have C1:=qgy h;have C2:=qjF hr hc hn hv;unfold btC;unfold pT q2I pPn at *;generalize chP r c v=e at *
 by_cases h1:R=C
 rotate_left
 ·rw [if_pos h1];have q1:((R:Int) != (C:Int))=true:=by simp; omega
  refine ac0 Tryz.func60 Tryz.ntmps60 [.tmp 4] ?_;exact wk1 q1 trivial
 have q1:((R:Int) != (C:Int))=false:=by simp; omega
 rw [if_neg (not_not_intro h1)]
 by_cases h2:e=0
 rotate_left
 ·rw [if_pos h2];have q2:(e != 0)=true:=by simpa using h2
  refine ac0 Tryz.func60 Tryz.ntmps60 [.tmp 4] ?_;exact wk1 (x2 q1 q2) trivial
 subst h2;rw [if_neg (not_not_intro rfl)]
 by_cases h3:r=R
 rotate_left
 ·rw [if_pos (.inl h3)];have q3:((r:Int) != (R:Int))=true:=by simp; omega
  refine ac0 Tryz.func60 Tryz.ntmps60 [.tmp 4] ?_;exact wk1 (x2 q1 q3) trivial
 have q3:((r:Int) != (R:Int))=false:=by simp; omega
 by_cases h4:c=C
 ·have q4:((c:Int) != (C:Int))=false:=by simp; omega
  rw [if_neg (by omega)];refine ac0 Tryz.func60 Tryz.ntmps60 [.tmp 4] ?_;exact wk1 (x3 q1 q3 q4) trivial
 ·have q4:((c:Int) != (C:Int))=true:=by simp; omega
  rw [if_pos (.inr h4)];refine ac0 Tryz.func60 Tryz.ntmps60 [.tmp 4] ?_;exact wk1 (x3 q1 q3 q4) trivial
def q8b (h:TOk F n n) (hn:n≤20) (hl:v.length=n*n) (hv:q08 v):ACt 61 [pT n n F,pPn n n v] (pVs (btL n v F)):=by
 have hml:=q17 (f:=F) (R:=n) n;have hg:=fun j hj=>q3B (f:=F) (R:=n) (C:=n) (j:=j) hj;have hix:=fun j k hj h1 h2=>qbl (f:=F) (R:=n) (C:=n) (j:=j) (k:=k) hj h1 h2;have hos:=fun j=>qjy (f:=F) (R:=n) (j:=j);have hpi:=fun i j hi hj=>qsT (i:=i) (j:=j) (show n≤64 by omega) (show n≤64 by omega) hl hi hj;obtain ⟨o,ho⟩:∃ o,o=tO F n:=⟨_,rfl⟩;have hRC:=h.m;have hfin:rwP n (fun r=>pV (btZ n v F r)) n=(btL n v F).map fun V=>pV V:=by
  unfold rwP btL;rw [List.map_map];exact List.map_congr_left fun i hi=>by rw [if_pos (List.mem_range.1 hi)]; rfl
 have hZb:=fun i=>qbQ h hv (i:=i);unfold pVs;rw [← hfin];unfold pT pPn;rw [← ho] at hg hix hos;generalize (tM F n n).1=st at *;generalize (tM F n n).2.1=ix at *;generalize (tM F n n).2.2=vl at *;obtain ⟨m1,m2,m3⟩:=hml;unfold q2I;refine ac0 Tryz.func61 Tryz.ntmps61 [.tmp 4] ?_;refine wk ?_;refine q1L (qaR (o:=16) (N:=5000) (R:=10000) (n:=n) (T1:=39) (T2:=48) (K:=some 4) (fun _ h=>h) ?_ (by omega) (by omega) (by omega) (by omega) (xs:=[(2,.pt 2 0 0),(3,.pt 3 0 0),(5,.ow 5000 none 0 n),(18,iv n),(19,iv 0)]) (kv:=[]) (kb:=[(2,some ⟨27,some 5,[.ag [iv n,iv n,pI st,pI ix,pF vl]],false⟩),(3,some ⟨31,some 3,[.ag [iv n,iv n,pF v]],false⟩)]) (by simp [nmW]) ?_) ?_
 ·try simp -implicitDefEqProofs (disch:=omega) only [go_sem,Nat.reduceEqDiff,Nat.reduceAdd,↓reduceIte]
 ·try refine Zz ?_
  exact if_pos rfl
 rw [qjw];have e0:q10 39 48 (some 4) 5000 10000 n (fun _=>[]) h0=q6m n (btR n v F 0 0):=by rw [btR_0]; rfl
 rw [e0];refine q0U (fun J:Nat=>J≤n) [2,3,5,18] [2,3] Lk Lk (fun J=>[(19,iv J)]) (fun _=>[]) (fun J=>q6m n (btR n v F 0 J)) (fun J=>n-J) 0 (Nat.zero_le _) ?_ ?_
 ·refine LeW [] rfl rfl ?_ ?_ (by simp [q0x,q0g,win]) ?_
  ·exact Ow
  ·exact wfB (q1K Oq)
  ·try simp -implicitDefEqProofs (disch:=omega) only [go_sem,Nat.reduceEqDiff,Nat.reduceAdd,↓reduceIte];first | done | rfl
 ·intro J hJ
  by_cases hlt:J < n
  ·have hlt':(J:Int) < n:=by omega
   have g1:=hg J Oq;have g2:=hg (J+1) Oq;have oJ:=hos J;have ww:IntKind.i64.wrap ((J:Int)+1)=((J+1:Nat):Int):=by rw [i64_in (by omega) (by omega)]; omega
   have hZ:=fun k x=>q5P (f:=F) (j:=J) (i:=n) (k:=k) (x:=x);have hEs:=fun i=>qop (F:=F) (n:=n) (v:=v) (i:=i) (j:=J);have hEb:=fun i=>qbR h hv (i:=i) hlt;obtain ⟨L,hL⟩:∃ L,L=tZ F J n:=⟨_,rfl⟩;have hLn:L.length≤n:=by rw [hL]; unfold tZ; exact Nat.le_trans (List.length_filterMap_le _ _) (by simp)
   have hixJ:=hix J;rw [← hL] at oJ hZ hixJ hEs;clear hL;have hLv:∀ e ∈ L,(e.2 < 18446744073709551616∧q0J e.2)∧e.1 < n:=fun e he=>by
    obtain ⟨q1,q2⟩:=(hZ e.1 e.2).1 he;exact ⟨⟨h.u J e.1 e.2 hlt q1 q2,h.v J e.1 e.2 hlt q1 q2⟩,q1⟩
   have hTb:=fun i=>qu6 (n:=n) (i:=i) hv (L:=L) fun e he=>(hLv e he).1.2;refine wk1 (x2 hlt' g1) ?_;refine q0U (fun i:Nat=>i≤n) [2,3,5,6,18,19,23] [2,3] Lk Lk (fun i=>[(24,iv i)]) (fun _=>[]) (fun i=>q6m n (btR n v F i J)) (fun i=>n-i) 0 (Nat.zero_le _) ?_ ?_
   ·refine LeW [] rfl rfl ?_ ?_ (by simp [q0x,q0g,win]) ?_
    ·exact Ow
    ·exact wfB (q1K Oq)
    ·try simp -implicitDefEqProofs (disch:=omega) only [go_sem,Nat.reduceEqDiff,Nat.reduceAdd,↓reduceIte];first | done | rfl
   ·intro i hi
    by_cases hlti:i < n
    ·have hli':(i:Int) < n:=by omega
     have hTbi:=hTb i;have hEsi:=hEs i;have hEbi:=hEb i;have hpsh:=btR_s (n:=n) (v:=v) (F:=F) (i:=i) (J:=J);have hrl:=qft (n:=n) (v:=v) (F:=F) (i:=i) (J:=J) (r:=i);have hpj:=fun j hj=>hpi i j hlti hj;have hO1:=qlQ (i:=i) (j:=J);have hO2:=qfu (i:=i) (j:=J);have hOe:=show btO i J=if i=J then [q2i] else [] from rfl
     have hTe:=fun e=>show btT n v i e = -(q0p (v.getD (e.1*n+i) 0) e.2) from rfl;generalize btE n v F i J=E at *;generalize btR n v F i J=rows at *;generalize btO i J=z at *;generalize btT n v i=T at *;have hdy:q0T E:=by unfold q0T; omega
     refine wk1 hli' ?_;refine qpv fun K hK=>?_;have fin:∀ (s:Nat→PV) (h:Hp),Le (fun _=>False) s h (stM [(2,.pt 2 0 0),(3,.pt 3 0 0),(5,.ow 5000 none 0 n),(6,iv J),(7,iv i),(8,.ow 1003 (some 4) 0 z.length),(18,iv n),(19,iv J),(23,iv n),(24,iv i)] []) (q0v (q6m n rows) (hpM [(2,⟨27,some 5,[.ag [iv n,iv n,pI st,pI ix,pF vl]],false⟩),(3,⟨31,some 3,[.ag [iv n,iv n,pF v]],false⟩),(1003,⟨48,some 4,z.map fun V=>pV V,false⟩)] []))→K s h:=by
      intro s h hl;refine hK _ _ (q1L hl ?_); clear hK K hl;refine wk1 g1 ?_;refine q0U (fun t:Nat=>t≤L.length) [2,3,5,6,7,18,19,23,24] [2,3] Lk Lk (fun t=>[(9,iv ((o J+t:Nat):Int)),(8,.ow 1001 (some 4) 0 (z.length+t))]) (fun t=>[(1001,⟨48,some 4,(z ++ (L.take t).map T).map fun V=>pV V,false⟩)]) (fun _=>q6m n rows) (fun t=>L.length-t) 0 (Nat.zero_le _) ?_ ?_
      ·refine LeW [(1001,some 1003)] rfl rfl ?_ ?_ (by simp [q0x,q0g,win]) ?_
       ·exact Ow
       ·exact wfB (q1K Oq)
       ·try refine Zz ?_
        exact q0F rfl clV
      ·intro t ht;have htl:(z ++ (L.take t).map T).length=z.length+t:=by rw [List.length_append,List.length_map,List.length_take]; omega
       by_cases hlt2:t < L.length
       ·obtain ⟨⟨k,x⟩,e1,e2,e3⟩:=hixJ (o J+t) Oq Oq Oq;rw [Nat.add_sub_cancel_left] at e1;dsimp only at e2 e3;obtain ⟨⟨v1,v2⟩,hin⟩:=hLv (k,x) (List.mem_of_getElem? e1);dsimp only at v1 v2 hin;have hq:((o J+t:Nat):Int) < ((o (J+1):Nat):Int):=by omega
        obtain ⟨w1,w2,y,hy⟩:=hpj k hin;obtain ⟨y1,y2⟩:=hv y (List.mem_of_getElem? hy);have C1:=q49 v1 (q0S v2);have C2:=q49 y1 (q0S y2);have M:=q0b y2 v2;have C3:=q69 (q46 y2) (q46 v2) M.1;have hmd:=(q3d M.1).2.2.2;have C4:=q1m (q9D hmd) (by unfold q0T at *; rw [Int.natAbs_neg]; exact hmd);have N4:=q1M (V := -(q0p y x));have hob:=(List.getElem?_eq_some_iff.1 e2).1;have wt:IntKind.i64.wrap (((o J+t:Nat):Int)+1)=((o J+(t+1):Nat):Int):=by rw [i64_in (by omega) (by omega)]; omega
        have es:z ++ (L.take (t+1)).map T=z ++ (L.take t).map T ++ [-(q0p y x)]:=by
         rw [q15 e1,List.map_append,← List.append_assoc,List.map_singleton,hTe];dsimp only;rw [getD_some hy]
        generalize z ++ (L.take t).map T=P at *;generalize k*n=kn at *;refine wk1 (x6 g2 ww hq e2 e3 (x5 w1 w2 hy wt htl)) ?_;refine ⟨t+1,by omega,by omega,?_⟩;rw [es];refine LeW [(1001,some 75)] rfl rfl ?_ ?_ (by simp [q0x,q0g,win]) ?_
        ·exact Ow
        ·exact wfB (q1K Oq)
        ·try refine Zz ?_
         exact ⟨by omega,q0F (by rw [List.map_append]; rfl) clV⟩
       ·obtain rfl:t=L.length:=by omega
        have hq:¬ ((o J+L.length:Nat):Int) < ((o (J+1):Nat):Int):=by omega
        rw [List.take_length] at htl ⊢;have hPb:∀ y ∈ z ++ L.map T,q0T y:=fun y hy=>by
         rcases List.mem_append.1 hy with hy | hy
         ·have:=hO1 y hy; unfold q0T; omega
         ·have:=hTbi y hy; unfold q0T; omega
        generalize z ++ L.map T=P at *;have C1:=q1m (q67 (l:=P) (by omega) hPb (by rw [hEsi]; exact hdy)) (by rw [hEsi]; exact hdy);rw [hEsi] at C1;have C2:=q1m (ql2 qfr fun ho=>qcv (A:=E) ho) (qky hdy);have N2:=q1M (V:=(E.natAbs:Int));have N1:=q1M (V:=E);have hr1:(List.range n)[i]?=some i:=List.getElem?_range hlti;refine wk1 (x5 g2 ww hq htl hr1) ?_;refine ⟨i+1,by omega,by omega,?_⟩;rw [hpsh];unfold q6m;rw [← qf1];refine q6k (r:=86) (k:=i) (row:=qdm rows) (fun _ h=>h) hlti clV ?_ ?_ (fun i h1 h2 h3 h4=>?_) (fun _ _=>clV) BOk.h0 (.inl (by omega)) (by omega) (by omega) (by omega) (by simp [nmW]) ?_
        ·try simp -implicitDefEqProofs (disch:=omega) only [go_sem,Nat.reduceEqDiff,Nat.reduceAdd,↓reduceIte]
        ·try refine Zz ?_
         rw [List.map_append]
         rfl
        ·rw [q0B h2,q0B h4,q0B h3,q0B (by obtain ⟨w1,w2⟩:=h1; omega),q0W h1]
        ·try refine Zz ?_
         omega
     by_cases hij:i=J
     ·have q3:((i:Int) == (J:Int))=true:=by simp; omega
      rw [if_pos hij] at hOe;subst hOe;have C1:=q1m qcr (by have:=q4S; unfold q0T; omega);have N1:=q1M (V:=q2i);refine wk1 q3 ?_;refine fin _ _ ?_;refine LeW [(1003,some 33)] rfl rfl ?_ ?_ (by simp [q0x,q0g,win]) ?_
      ·exact Ow
      ·exact wfB (q1K Oq)
      ·try simp -implicitDefEqProofs (disch:=omega) only [go_sem,Nat.reduceEqDiff,Nat.reduceAdd,↓reduceIte]
     ·have q3:((i:Int) == (J:Int))=false:=by simp; omega
      rw [if_neg hij] at hOe;subst hOe;refine wk1 q3 ?_;refine fin _ _ ?_;refine LeW [(1003,none)] rfl rfl ?_ ?_ (by simp [q0x,q0g,win]) ?_
      ·exact Ow
      ·exact wfB (q1K Oq)
      ·try simp -implicitDefEqProofs (disch:=omega) only [go_sem,Nat.reduceEqDiff,Nat.reduceAdd,↓reduceIte]
    ·obtain rfl:i=n:=by omega
     have hli':¬ (i:Int) < i:=by omega
     refine wk1 (x2 hli' ww) ?_;refine ⟨J+1,by omega,by omega,?_⟩;rw [← btR_n];refine LeW [] rfl rfl ?_ ?_ (by simp [q0x,q0g,win]) ?_
     ·exact Ow
     ·exact wfB (q1K Oq)
     ·try simp -implicitDefEqProofs (disch:=omega) only [go_sem,Nat.reduceEqDiff,Nat.reduceAdd,↓reduceIte]
      first | done | omega
  ·obtain rfl:J=n:=by omega
   have hlt':¬ (J:Int) < J:=by omega
   have hrs:=fun i=>qom (n:=J) (v:=v) (F:=F) (i:=i);have hrl:=fun i=>qft (n:=J) (v:=v) (F:=F) (i:=0) (J:=J) (r:=i);have hrb:∀ i,i < J→∀ z ∈ btR J v F 0 J i,q0T z:=fun i _ z hz=>by
    unfold btR at hz;rw [if_neg (by omega)] at hz;obtain ⟨j,hj,rfl⟩:=List.mem_map.1 hz;have:=qbR h hv (i:=i) (List.mem_range.1 hj);unfold q0T;rw [Int.natAbs_natCast];omega
   generalize btR J v F 0 J=rows at *;have hwl:=fun m=>q6s (n:=J) (g:=fun r=>pV (btZ J v F r)) (m:=m);have hws:=fun m=>qmh (n:=J) (g:=fun r=>pV (btZ J v F r)) (m:=m);have hwc:=fun m=>q1b (n:=J) (g:=fun r=>pV (btZ J v F r)) (m:=m) fun c=>trivial;clear hfin hg hix hos;refine wk1 hlt' ?_;refine q0U (fun r=>r≤J) [93,94] [] Lk Lk (fun r:Nat=>[(95,iv r),(11,.ow 1001 (some 4) 0 J)]) (fun r=>[(1001,⟨48,some 4,rwP J (fun r=>pV (btZ J v F r)) r,false⟩)]) (fun _=>q6m J rows) (fun r=>J-r) 0 (Nat.zero_le _) ?_ ?_
   ·refine LeW [(1001,some 92)] rfl rfl ?_ ?_ (by simp [q0x,q0g,win]) ?_
    ·exact Ow
    ·exact wfB (q1K Oq)
    ·try refine Zz ?_
     exact ⟨rfl,qaD (by simp)⟩
   ·intro r hr
    by_cases hlt2:r < J
    ·have q2:(r:Int) < J:=by omega
     have hr1:(List.range J)[r]?=some r:=List.getElem?_range hlt2;have hd:q0T (btZ J v F r):=by have:=hZb r; unfold q0T; omega
     have C2:=q1m (q67 (l:=rows r) (by have:=hrl r; omega) (fun z hz=>hrb r hlt2 z hz) (by rw [hrs r]; exact hd)) (by rw [hrs r]; exact hd);rw [hrs r] at C2;have N2:=q1M (V:=btZ J v F r);have hli:=hrl r;have e1:=hws r;have e2:=hwl r;have e3:=hwc r;generalize rwP J (fun r=>pV (btZ J v F r)) r=W at *;refine wk1 (x3 q2 hr1 e2) ?_;refine ⟨r+1,by omega,by omega,?_⟩;rw [← e1];refine LeW [] rfl rfl ?_ ?_ (by simp [q0x,q0g,win]) ?_
     ·exact Ow
     ·exact wfB (q1K Oq)
     ·try refine Zz ?_
      exact ⟨by omega,q0F rfl (q41 e3 trivial)⟩
    ·obtain rfl:r=J:=by omega
     have q2:¬ (r:Int) < r:=by omega
     refine wk1 (x3 q2 (hwl r) (hwc r)) ?_;exact List.take_of_length_le (Nat.le_of_eq (hwl r))
end
section
variable {F:Nat→Nat→Option Nat} {n R C r c:Nat} {v:List Nat}
def btP (n:Nat) (v:List Nat) (F:Nat→Nat→Option Nat) (i j k:Nat):List Int:=btO i j ++ (List.range k).map fun k => -(btD n v F i j k)
def qon {i j:Nat}:q1B (btP n v F i j n)=btE n v F i j:=by
 unfold btP;rw [qaS,qa0];have:∀ m,sg (fun k => -(btD n v F i j k)) m = -(sg (btD n v F i j) m):=fun m=>by
  induction m with
  | zero=>rfl
  | succ m ih=>rw [sg,sg,ih]; omega
 rw [this];unfold btO btE
 split
 ·rw [q2q]; omega
 ·rw [q2Y]; omega
def qoo {i j k:Nat}:(btP n v F i j k).length=(btO i j).length+k:=by unfold btP; simp
def btP_s {i j k:Nat}:btP n v F i j (k+1)=btP n v F i j k ++ [-(btD n v F i j k)]:=by unfold btP; rw [List.range_succ,List.map_append,List.append_assoc]; rfl
open Classical in
def q66 (h:TOk F R C) (hR:R≤20) (hC:C≤20) (hr:r≤64) (hc:c≤64) (hn:v.length≤1000000) (hv:∀ x ∈ v,x < 18446744073709551616):ACt 17 [pT R C F,pPn r c v] (.tu [pVs (btA R C F r c v).1,iv (btA R C F r c v).2]):=by
 have C1:=q9O h;have C2:=qgf hr hc hn hv;have key:chP r c v=0→v.length=r*c∧q08 v:=fun q=>quS q hv;have cA:∀ {i j:Nat},i < R→j < C→_:=fun {i j} hi hj=>q8C (i:=i) (j:=j) h hi hj;have hfi:∀ {i j:Nat},i < R→j < C→_:=fun {i j} hi hj=>h.fin (j:=j) (i:=i) hj hi;have cV:=fun (h1:r=R) (h2:c=C) (h3:v.length=r*c) (h4:q08 v) i j hi hj=>q7k (i:=i) (j:=j) hr hc h3 h4 hi hj;obtain ⟨res,hres⟩:∃ res,res=btA R C F r c v:=⟨_,rfl⟩;rw [← hres];unfold btA btC at hres;have hT:ACt 62 [pT R C F] (iv 0):=C1;have hEb:=fun (h3:q08 v) (hRC:TOk F R R) i j hj=>qbR hRC h3 (i:=i) (j:=j) hj;unfold pT q2I pPn at *;generalize chP r c v=e at *;generalize (tM F R C).1=st at *;generalize (tM F R C).2.1=ix at *;generalize (tM F R C).2.2=vl at *
 by_cases h1:R=C
 rotate_left
 ·rw [if_pos h1,if_pos (show (5:Int)≠0 by decide)] at hres;subst hres;have q1:((R:Int) != (C:Int))=true:=by simp; omega
  refine ac0 Tryz.func17 Tryz.ntmps17 [.tmp 4,.tmp 5] ?_;exact wk1 q1 trivial
 have q1:((R:Int) != (C:Int))=false:=by simp; omega
 rw [if_neg (not_not_intro h1)] at hres
 by_cases h2:e=0
 rotate_left
 ·rw [if_pos h2,if_pos h2] at hres;subst hres;have q2:(e != 0)=true:=by simpa using h2
  refine ac0 Tryz.func17 Tryz.ntmps17 [.tmp 4,.tmp 5] ?_;exact wk1 (x2 q1 q2) trivial
 obtain ⟨hvl,hvf⟩:=key h2;clear key;subst h2;rw [if_neg (show ¬ (0:Int)≠0 by decide)] at hres
 by_cases h3:r=R
 rotate_left
 ·rw [if_pos (show r≠R∨c≠C from .inl h3),if_pos (show (5:Int)≠0 by decide)] at hres;subst hres;have q3:((r:Int) != (R:Int))=true:=by simp; omega
  refine ac0 Tryz.func17 Tryz.ntmps17 [.tmp 4,.tmp 5] ?_;exact wk1 (x2 q1 q3) trivial
 have q3:((r:Int) != (R:Int))=false:=by simp; omega
 by_cases h4:c=C
 rotate_left
 ·have q4:((c:Int) != (R:Int))=true:=by simp; omega
  rw [if_pos (show r≠R∨c≠C from .inr h4),if_pos (show (5:Int)≠0 by decide)] at hres;subst hres;refine ac0 Tryz.func17 Tryz.ntmps17 [.tmp 4,.tmp 5] ?_;exact wk1 (x3 q1 q3 q4) trivial
 have q4:((c:Int) != (R:Int))=false:=by simp; omega
 rw [if_neg (show ¬ (r≠R∨c≠C) by omega),if_neg (show ¬ (0:Int)≠0 by decide)] at hres;subst hres;subst h1 h3;obtain rfl:r=c:=h4.symm;replace cV:=cV rfl rfl hvl hvf;replace hEb:=hEb hvf h;have hZb:=fun i=>qbQ h hvf (i:=i);have C5:=qco;have N5:=q1M (V:=q2i);have N0:=q1M (V:=0);have hl:(btL r v F).length=r:=q4L;have hlg:∀ i,i < r→(btL r v F)[i]?=some (sg (fun j=>((btE r v F i j).natAbs:Int)) r):=fun i hi=>q4M hi;have hs0:=fun i=>show sg (fun j=>((btE r v F i j).natAbs:Int)) 0=0 from rfl;have hss:=fun i j=>show sg (fun j=>((btE r v F i j).natAbs:Int)) (j+1)=sg (fun j=>((btE r v F i j).natAbs:Int)) j+((btE r v F i j).natAbs:Int) from rfl;have hsb:=fun i j (hj:j≤r)=>q8H (g:=fun j=>((btE r v F i j).natAbs:Int)) (K:=67596) j (by omega) fun k hk=>by rw [Int.natAbs_natCast]; exact hEb i k (by omega)
 dsimp only;generalize btL r v F=Bl at *;refine ac0 Tryz.func17 Tryz.ntmps17 [.tmp 4,.tmp 5] ?_;refine wk1 (x3 q1 q3 q4) ?_;refine q0A (fun i=>i≤r) [2,3,7] [2,3] Lk Lk (fun i:Nat=>[(10,iv i),(9,.ow 1001 (some 4) 0 i)]) (fun i=>[(1001,⟨48,some 4,(Bl.take i).map fun V=>pV V,false⟩)]) (fun i=>r-i) 0 (Nat.zero_le _) ?_ ?_
 ·refine LeM [(1001,none)] rfl rfl ?_;refine Zz ?_
  first | done | rfl | exact ⟨rfl,rfl⟩
 ·intro i hi;have ll:(Bl.take i).length=i:=by rw [List.length_take]; omega
  by_cases hlt:i < r
  ·have l1:(i:Int) < r:=by omega
   have g0:=hs0 i;have g1:=hss i;have g2:=hsb i;have gg:=hlg i hlt;generalize hS:sg (fun j=>((btE r v F i j).natAbs:Int))=S at *;clear hS hs0 hss hsb hlg;refine wk1 l1 ?_;refine q0A (fun j=>j≤r) [2,3,7,9,10,11] [2,3,1001] Lk Lk (fun j:Nat=>[(12,iv j)]) (fun j=>[(11,⟨48,some 4,[pV (S j)],false⟩)]) (fun j=>r-j) 0 (Nat.zero_le _) ?_ ?_
   ·refine LeM [] rfl rfl ?_;refine Zz ?_;rw [g0];exact ⟨rfl,qgV rfl,q0F rfl clV⟩
   ·intro j hj
    by_cases hlt2:j < r
    ·have l2:(j:Int) < r:=by omega
     have hPl:=fun k=>qoo (n:=r) (v:=v) (F:=F) (i:=i) (j:=j) (k:=k);have hPs:=fun k=>btP_s (n:=r) (v:=v) (F:=F) (i:=i) (j:=j) (k:=k);have hPe:=qon (n:=r) (v:=v) (F:=F) (i:=i) (j:=j);have hP0:btP r v F i j 0=btO i j:=by unfold btP; simp
     have hO1:=qlQ (i:=i) (j:=j);have hO2:=qfu (i:=i) (j:=j);have hOe:=show btO i j=if i=j then [q2i] else [] from rfl
     have hD:=fun k=>show btD r v F i j k=q0p (v.getD (k*r+i) 0) ((F j k).getD 0) from rfl;have hEbi:=hEb i j hlt2;have hPd:∀ z ∈ btP r v F i j r,q0T z:=fun z hz=>by
      unfold btP at hz
      rcases List.mem_append.1 hz with hz | hz
      ·have:=hO1 z hz; unfold q0T; omega
      ·obtain ⟨k,hk,rfl⟩:=List.mem_map.1 hz;have:=qlR h hvf (i:=i) hlt2 (List.mem_range.1 hk);unfold q0T; rw [Int.natAbs_neg]; omega
     have e1:=g1 j;have e2:=g2 (j+1) Oq;generalize btE r v F i j=E at *;generalize btP r v F i j=P at *;generalize btO i j=z at *;have hdy:q0T E:=by unfold q0T; omega
     refine wk1 l2 ?_;refine qpv fun K hK=>?_;have fin:∀ (s:Nat→PV) (h:Hp),Le (fun _=>False) s h (stM [(2,.pt 2 0 0),(3,.pt 3 0 0),(7,iv r),(9,.ow 1001 (some 4) 0 i),(10,iv i),(11,.pt 11 0 0),(12,iv j),(13,.ow 1003 (some 4) 0 z.length)] []) (hpM [(2,⟨27,some 5,[.ag [iv r,iv r,pI st,pI ix,pF vl]],false⟩),(3,⟨31,some 3,[.ag [iv r,iv r,pF v]],false⟩),(1001,⟨48,some 4,(Bl.take i).map fun V=>pV V,false⟩),(11,⟨48,some 4,[pV (S j)],false⟩),(1003,⟨48,some 4,z.map fun V=>pV V,false⟩)] [])→K s h:=by
      intro s h hl;refine hK _ _ (q1L hl ?_); clear hK K hl;refine wk ?_;refine q0A (fun k=>k≤r) [2,3,7,9,10,11,12] [2,3,11,1001] Lk Lk (fun k:Nat=>[(14,iv k),(13,.ow 1002 (some 4) 0 (z.length+k))]) (fun k=>[(1002,⟨48,some 4,(P k).map fun V=>pV V,false⟩)]) (fun k=>r-k) 0 (Nat.zero_le _) ?_ ?_
      ·refine LeM [(1002,some 1003)] rfl rfl ?_;refine Zz ?_;rw [hP0];exact ⟨rfl,q0F rfl clV,q0F rfl clV⟩
      ·intro k hk;have hln:=hPl k
       by_cases hlt3:k < r
       ·have l3:(k:Int) < r:=by omega
        have C6:=cV i k hlt hlt3;have C7:=cA hlt3 hlt2;obtain ⟨xf,xu⟩:=hfi hlt3 hlt2;have es:=hPs k;rw [hD k] at es;obtain ⟨y1,y2⟩:=q1F hvf (i:=k*r+i);generalize v.getD (k*r+i) 0=y at *;generalize (F j k).getD 0=x at *;have C8:=q0u xu (q0S xf);have M:=q0b y2 xf;have C9:=q3M M.1;have C10:=@q4W;have N6:=q1M (V:=ofZ y);have N7:=q1M (V := -(q0p y x));refine wk1 (x2 l3 hln) ?_;refine ⟨k+1,by omega,by omega,?_⟩;rw [es];refine LeM [(1002,some 77)] rfl rfl ?_;refine Zz ?_;exact ⟨⟨by omega,by omega⟩,q0F (by rw [List.map_append]; rfl) clV,q0F rfl clV⟩
       ·obtain rfl:k=r:=by omega
        have l3:¬ (k:Int) < k:=by omega
        have C6:=q3T (l:=P k) (by omega) (by rw [hPe]; exact hdy);rw [hPe] at C6;have C7:=q5g (V:=E);have C8:=q4X (A:=S j) (B:=(E.natAbs:Int)) (by rw [← e1]; unfold q0T; omega);rw [← e1] at C8;have N8:=q1M (V:=E);have N9:=q1M (V:=(E.natAbs:Int));have N10:=q1M (V:=S (j+1));refine wk1 (x2 l3 hln) ?_;refine ⟨j+1,by omega,by omega,?_⟩;refine LeM [] rfl rfl ?_;refine Zz ?_
        first | exact ⟨by omega,q0F rfl clV⟩
     by_cases hij:i=j
     ·have q5:((i:Int) == (j:Int))=true:=by simp; omega
      rw [if_pos hij] at hOe;subst hOe;refine wk1 q5 ?_;refine fin _ _ ?_;refine LeM [(1003,some 58)] rfl rfl ?_
      try refine Zz ?_
      exact q0F rfl clV
     ·have q5:((i:Int) == (j:Int))=false:=by simp; omega
      rw [if_neg hij] at hOe;subst hOe;refine wk1 q5 ?_;refine fin _ _ ?_;refine LeM [(1003,none)] rfl rfl ?_
      try refine Zz ?_
      exact q0F rfl clV
    ·obtain rfl:j=r:=by omega
     have l2:¬ (j:Int) < j:=by omega
     have es:=q15 gg;have N2:=q1M (V:=S j);refine wk1 (x2 l2 ll) ?_;refine ⟨i+1,by omega,by omega,?_⟩;rw [es];refine LeM [(1001,some 86)] rfl rfl ?_;refine Zz ?_;exact ⟨by omega,q0F (by rw [List.map_append]; rfl) clV⟩
  ·obtain rfl:i=r:=by omega
   have l1:¬ (i:Int) < i:=by omega
   rw [← hl,List.take_length];exact wk1 (x2 l1 hl) trivial
end
def ac_2x {f:FuncId} {V U:Int} {x r:PV} (hc:q0G Tryz.prog f=true) (ha:q0T V∧q0T U→ACt f [dT V,dT U,x] r):ACt f [pV V,pV U,x] r:=q6Y hc (fun D w vs hR=>by
 obtain ⟨a,b,c,rfl,h1,h2,h3⟩:=rd_3 hR;obtain ⟨h4,h5⟩:=q38.2 (qaa h1);obtain ⟨h6,h7⟩:=q38.2 (qaa h2);refine ⟨?_,h5,h7⟩;unfold RdL;refine ⟨_,_,rfl,h4,?_⟩;unfold RdL;exact ⟨_,_,rfl,h6,RdL.one h3⟩) ha
section
variable {F:Nat→Nat→Option Nat} {n R C r c:Nat} {v:List Nat} {f P:Int}
def qu8 (h:btC R C r c v=0):R=C∧r=R∧c=C∧chP r c v=0:=by
 unfold btC at h
 split at h
 ·cases h
 ·rename_i h1
  split at h
  ·rename_i h2; exact absurd h h2
  ·rename_i h2
   split at h
   ·cases h
   ·rename_i h3; exact ⟨by omega,by omega,by omega,Classical.not_not.1 h2⟩
def qbG (h:TOk F R C) (hR:R≤20) (hC:C≤20) (hr:r≤64) (hc:c≤64) (hn:v.length≤1000000) (hv:∀ x ∈ v,x < 18446744073709551616):ACt 16 [pT R C F,pPn r c v] (.tu [pVs (btA R C F r c v).1,iv (btA R C F r c v).2]):=by
 have C1:=qf5 h hr hc hn hv;have key:=fun (q:btC R C r c v=0)=>qu8 q;have C2:btC R C r c v=0→ACt 61 [pT R C F,pPn r c v] (pVs (btL R v F)):=fun q=>by
  obtain ⟨rfl,rfl,rfl,h4⟩:=qu8 q;obtain ⟨h5,h6⟩:=quS h4 hv;exact q8b h hR h5 h6
 unfold btA;unfold pT q2I pPn at *;generalize btC R C r c v=e at *;generalize (tM F R C).1=st at *;generalize (tM F R C).2.1=ix at *;generalize (tM F R C).2.2=vl at *
 by_cases h1:e=0
 ·have C3:=C2 h1;subst h1;rw [if_neg (show ¬ (0:Int)≠0 by decide)];dsimp only;generalize btL R v F=l at *;clear C2 key;refine ac0 Tryz.func16 Tryz.ntmps16 [.tmp 4,.tmp 5] ?_;exact wk trivial
 ·rw [if_pos h1];have q:(e != 0)=true:=by simpa using h1
  refine ac0 Tryz.func16 Tryz.ntmps16 [.tmp 4,.tmp 5] ?_;exact wk1 q trivial
end
def imE (f:Nat→Nat→Option Nat) (y:List Nat) (r j:Nat):Int:=q0p ((f j r).getD 0) (y.getD j 0)
section
variable {f:Nat→Nat→Option Nat} {y:List Nat} {R C J:Nat} {rows:Nat→List Int}
def LwI (f:Nat→Nat→Option Nat) (y:List Nat) (R J:Nat) (rows:Nat→List Int):Prop:=∀ r,r < R→q1B (rows r)=sg (imE f y r) J
def LwI.s (h:LwI f y R J rows):LwI f y R (J+1) (psG (fun v => -(q0p v (y.getD J 0))) (tZ f J R) rows):=fun r hr=>by
 rw [q52,h r hr,qff (g:=fun v => -(q0p v (y.getD J 0))) (by rw [qai]; rfl) R,if_pos hr,sg];unfold imE;omega
end
section
variable {f:Nat→Nat→Option Nat} {y:List Nat} {R C:Nat}
end
def qcn {l:List Nat} (hn:l.length≤1000):ACt 312 [pF l] (pP (l.map fun v=>(v,0))):=by
 refine ac0 Tryz.func312 Tryz.ntmps312 [.tmp 2] ?_;refine wk ?_;refine q0A (fun i=>i≤l.length) [0] [] Lk Lk (fun i:Nat=>[(4,iv i),(3,.ow 1001 (some 2) 0 i)]) (fun i=>[(1001,⟨272,some 2,((l.take i).map fun v=>(v,0)).map fun p:Nat × Nat=>.ag [uv p.1,uv p.2],false⟩)]) (fun i=>l.length-i) 0 (Nat.zero_le _) ?_ ?_
 ·refine LeM [(1001,none)] rfl rfl ?_;refine Zz ?_
  rfl
 ·intro i hi;have htl:(l.take i).length=i:=by rw [List.length_take]; omega
  by_cases hlt:i < l.length
  ·obtain ⟨x,hx⟩:∃ x,l[i]?=some x:=⟨_,List.getElem?_eq_getElem hlt⟩;have e:((l.take (i+1)).map fun v=>(v,0)).map (fun p:Nat × Nat=>PV.ag [uv p.1,uv p.2])=((l.take i).map fun v=>(v,0)).map (fun p:Nat × Nat=>PV.ag [uv p.1,uv p.2]) ++ [.ag [uv x,uv (0:Nat)]]:=by rw [q15 hx,List.map_append,List.map_append]; rfl
   refine wk1 (x2 hx htl) ?_;refine ⟨i+1,by omega,by omega,?_⟩;rw [e];refine LeM [(1001,some 18)] rfl rfl ?_;refine Zz ?_;exact ⟨by omega,q0F rfl (by rw [← e]; exact qqW)⟩
  ·obtain rfl:i=l.length:=by omega
   rw [List.take_length];refine wk1 @qqW ?_;exact List.take_of_length_le (by simp)
def rpL (f:Nat→Nat→Option Nat) (x:List (Nat × Nat)) (b:List Nat) (r:Nat):Nat→List Int
 | 0=>[ofZ (b.getD r 0)]
 | j+1=>rpL f x b r j ++ [-(q0p ((f j r).getD 0) (x.getD j (0,0)).1),-(q0p ((f j r).getD 0) (x.getD j (0,0)).2)]
section
variable {f:Nat→Nat→Option Nat} {x:List (Nat × Nat)} {b:List Nat} {R C r:Nat}
def qdl:∀ j,(rpL f x b r j).length=2*j+1
 | 0=>rfl
 | j+1=>by rw [rpL,List.length_append,qdl j]; simp; omega
def qdk:∀ j,q1B (rpL f x b r j)=rdZ f x b j r
 | 0=>by unfold rpL rdZ; rw [q2q,sg]; omega
 | j+1=>by
  have:rpL f x b r (j+1)=(rpL f x b r j ++ [-(q0p ((f j r).getD 0) (x.getD j (0,0)).1)]) ++ [-(q0p ((f j r).getD 0) (x.getD j (0,0)).2)]:=by rw [rpL,List.append_assoc]; rfl
  rw [this,q0q,q0q,qdk j];unfold rdZ;rw [sg];unfold q7F;omega
def qkY (hx:qqU x) (hxl:x.length=C) (h:TOk f R C) (hr:r < R) (hb:q08 b):∀ j,j≤C→∀ z ∈ rpL f x b r j,bl z.natAbs≤67600
 | 0,_,z,hz=>by unfold rpL at hz; simp at hz; subst hz; exact q18 (q83 hb).2
 | j+1,hj,z,hz=>by
  unfold rpL at hz
  rcases List.mem_append.1 hz with hz | hz
  ·exact qkY hx hxl h hr hb j Oq z hz
  ·obtain ⟨p,hp⟩:∃ p,x[j]?=some p:=⟨_,List.getElem?_eq_getElem Oq⟩;have hgp:x.getD j (0,0)=p:=by rw [List.getD_eq_getElem?_getD,hp]; rfl
   obtain ⟨⟨_,p2⟩,_,p4⟩:=hx p (List.mem_of_getElem? hp);have hv:=h.fin (j:=j) (i:=r) Oq hr;rw [hgp] at hz;simp at hz
   rcases hz with rfl | rfl
   ·rw [Int.natAbs_neg]; exact (q0b hv.1 p2).2
   ·rw [Int.natAbs_neg]; exact (q0b hv.1 p4).2
def qq7 (h:TOk f R C) (hR:R≤20) (hC:C≤20) (hx:qqU x) (hxl:x.length=C) (hb:q08 b) (hbl:b.length=R):ACt 313 [pT R C f,pP x,pF b] (if ∀ v ∈ rdL f x b C R,q0J v then .tu [pF (rdL f x b C R),bv true] else .tu [pF [],bv false]):=by
 have cA:∀ {i j:Nat},i < R→j < C→_:=fun {i j} hi hj=>q8C (i:=i) (j:=j) h hi hj;have hfi:∀ {i j:Nat},i < R→j < C→_:=fun {i j} hi hj=>h.fin (j:=j) (i:=i) hj hi;have hbd:=fun r (hr:r < R)=>qkY hx hxl h hr hb;have hsm:=fun r=>qdk (f:=f) (x:=x) (b:=b) (r:=r) C;have hln:=fun r j=>qdl (f:=f) (x:=x) (b:=b) (r:=r) j;have hst:=fun r j=>show rpL f x b r (j+1)=rpL f x b r j ++ [-(q0p ((f j r).getD 0) (x.getD j (0,0)).1),-(q0p ((f j r).getD 0) (x.getD j (0,0)).2)] from rfl;have hs0:=fun r=>show rpL f x b r 0=[ofZ (b.getD r 0)] from rfl;obtain ⟨g,hg⟩:∃ g:Nat→Nat,g=fun r=>fR 0 (rdZ f x b C r):=⟨_,rfl⟩;have hgk:=fun k=>congrFun hg k;have hle:rdL f x b C R=rwG R g R:=by
  unfold rdL rwG;rw [hg];exact List.map_congr_left fun k hk=>by rw [if_pos (List.mem_range.1 hk)]
 have hrl:=fun m=>q4K (n:=R) (g:=g) (m:=m);have hrs:=fun m=>qdd (n:=R) (g:=g) (m:=m);have hrg:=fun m i hi=>qmj (n:=R) (g:=g) (m:=m) (i:=i) hi;have hr0:=qde (n:=R) (g:=g);rw [hle];generalize rwG R g=rw0 at *;generalize rdZ f x b C=Z at *;generalize rpL f x b=P at *;unfold pT q2I at *;generalize (tM f R C).1=st at *;generalize (tM f R C).2.1=ix at *;generalize (tM f R C).2.2=vl at *;clear hg hle;refine ac0 Tryz.func313 Tryz.ntmps313 [.tmp 6,.tmp 7] ?_;refine wk1 hbl ?_;refine q0A (fun i=>i≤R∧∀ k,k < i→q0J (g k)) [1,2,3] [3] Lk Lk (fun i:Nat=>[(9,iv i),(8,.ow 1001 none 0 R)]) (fun i=>[(1001,⟨33,none,(rw0 i).map fun z:Nat=>uv z,false⟩)]) (fun i=>R-i) 0 ⟨Nat.zero_le _,fun _ h=>by omega⟩ ?_ ?_
 ·refine LeM [(1001,some 15)] rfl rfl ?_;refine Zz ?_;exact ⟨rfl,hr0⟩
 ·rintro i ⟨hi,hgf⟩
  by_cases hlt:i < R
  ·have hlb:(i:Int) < R:=by omega
   obtain ⟨y,hy⟩:∃ y,b[i]?=some y:=⟨_,List.getElem?_eq_getElem Oq⟩;obtain ⟨u1,u2⟩:=hb y (List.mem_of_getElem? hy);have C1:=q0u u1 (q0S u2);have h0:=hs0 i;rw [getD_some hy] at h0;refine wk1 (x3 hlb hbl hy) ?_;refine q0A (fun j=>j≤C) [1,2,3,8,9] [3,1001] Lk Lk (fun j:Nat=>[(11,iv j),(10,.ow 1002 (some 4) 0 (2*j+1))]) (fun j=>[(1002,⟨48,some 4,(P i j).map fun V=>pV V,false⟩)]) (fun j=>C-j) 0 (Nat.zero_le _) ?_ ?_
   ·refine LeM [(1002,some 27)] rfl rfl ?_;refine Zz ?_;rw [h0];exact ⟨rfl,q0F rfl clV⟩
   ·intro j hj;have hlj:=hln i j
    by_cases hlt2:j < C
    ·have hl2:(j:Int) < C:=by omega
     obtain ⟨p,hp⟩:∃ p,x[j]?=some p:=⟨_,List.getElem?_eq_getElem Oq⟩;have hgp:x.getD j (0,0)=p:=by rw [List.getD_eq_getElem?_getD,hp]; rfl
     obtain ⟨⟨p1,p2⟩,p3,p4⟩:=hx p (List.mem_of_getElem? hp);have C2:=cA hlt hlt2;obtain ⟨v2,v1⟩:=hfi hlt hlt2;have hs:=hst i j;rw [hgp] at hs;generalize (f j i).getD 0=v at *;have C3:=q1h v1 p1 (q0S v2) (q0S p2) (q0b v2 p2).1;have C4:=q1h v1 p3 (q0S v2) (q0S p4) (q0b v2 p4).1;have C5:=@q4W;refine wk1 (x4 hl2 hxl hp hlj) ?_;refine ⟨j+1,by omega,by omega,?_⟩;rw [hs];refine LeM [(1002,some 56)] rfl rfl ?_;refine Zz ?_;exact ⟨⟨by omega,by omega⟩,q0F (by rw [List.map_append]; rfl) clV⟩
    ·obtain rfl:j=C:=by omega
     have hl2:¬ (j:Int) < j:=by omega
     have hd:=qdV (hbd i hlt j (Nat.le_refl _)) Oq;have C2:=q3T (l:=P i j) Oq hd;rw [hsm i] at C2;have N2:=q1M (V:=Z i);have C3:=q4O (A:=Z i);rw [← hgk i] at C3;have hgl:g i < 18446744073709551616:=by rw [hgk]; exact q4l
     have C5:=q1W hgl;have e1:=hrs i;have e3:(((rw0 i).map fun z:Nat=>uv z).set i (uv (g i:Nat)))[i]?=some (uv (g i:Nat)):=List.getElem?_set_self (by rw [List.length_map,hrl]; exact hlt)
     by_cases hf:q0J (g i)
     ·rw [decide_eq_true hf] at C5;refine wk1 (x5 hl2 hxl hlj (hrl i) e3) ?_;refine ⟨i+1,⟨by omega,fun k hk=>?_⟩,by omega,?_⟩
      ·rcases Nat.lt_succ_iff_lt_or_eq.1 hk with h | rfl
       ·exact hgf k h
       ·exact hf
      rw [← e1];refine LeM [] rfl rfl ?_;refine Zz ?_;omega
     ·rw [decide_eq_false hf] at C5;rw [if_neg fun h=>hf (by
       refine h (g i) (List.mem_of_getElem? (i:=i) ?_);rw [hrg R i hlt,if_pos hlt])]
      exact wk1 (x5 hl2 hxl hlj (hrl i) e3) trivial
  ·obtain rfl:i=R:=by omega
   have hlb:¬ (i:Int) < i:=by omega
   rw [if_pos fun z hz=>by
    obtain ⟨k,hk⟩:=List.mem_iff_getElem?.1 hz;have hkl:k < i:=by have:=(List.getElem?_eq_some_iff.1 hk).1; rw [hrl] at this; exact this
    rw [hrg i k hkl,if_pos hkl] at hk;cases hk;exact hgf k hkl]
   exact wk1 (x3 hlb hbl (hrl i)) trivial
end
end Go.Proofs.YtpbaikoblfcmdaaGreatDoor
namespace Go.E
open Go Go.RowKit
def LeE {J:Nat→Prop} {h:Hp} {a n:Nat} {T:TypeId} {xs:List PV} {e:Value} (hJ:∀ i,¬ J i) (hb:h a=some ⟨T,none,xs,false⟩) (hc:ClL xs):Le J (fun _=>.tu [.ow a none 0 n,.vl e]) h (fun _=>.tu [.ow 5000 none 0 n,.vl e]) (q0Q h0 5000 ⟨T,none,xs,false⟩):=by
 refine q40 (fun i=>if i=5000 then some a else none) (fun i b' hb'=>?_) (fun i j k b c hi hj ti tj=>?_) (fun _=>.tu rfl fun i x y hx hy=>?_) fun i hi=>(hJ i hi).elim
 ·by_cases hi:i=5000
  ·subst hi;rw [q0I] at hb'; cases hb';unfold LeB;exact ⟨_,hb,rfl,rfl,⟨rfl,rfl⟩,q0F rfl hc⟩
  ·rw [q0B hi] at hb'; cases hb'
 ·split at ti
  ·split at tj
   ·rename_i e1 e2; rw [e1,e2]
   ·cases tj
  ·cases ti
 ·rcases i with _ | _ | i
  ·cases hx; cases hy; exact .ow (if_pos rfl) q0I
  ·cases hx; cases hy; exact .cl trivial
  ·simp at hx
def LeEn {J:Nat→Prop} {h:Hp} {T:TypeId} {e:Value} (hJ:∀ i,¬ J i):Le J (fun _=>.tu [.vl (.slice none 0 0),.vl e]) h (fun _=>.tu [.ow 5000 none 0 0,.vl e]) (q0Q h0 5000 ⟨T,none,[],false⟩):=by
 refine q40 (fun _=>none) (fun i b' hb'=>?_) (fun i j k b c hi hj ti tj=>by cases ti) (fun _=>.tu rfl fun i x y hx hy=>?_) fun i hi=>(hJ i hi).elim
 ·by_cases hi:i=5000
  ·subst hi;rw [q0I] at hb'; cases hb'
   rfl
  ·rw [q0B hi] at hb'; cases hb'
 ·rcases i with _ | _ | i
  ·cases hx; cases hy; exact .nilow rfl q0I rfl
  ·cases hx; cases hy; exact .cl trivial
  ·simp at hx
end Go.E
namespace Go.Proofs.YtpbaikoblfcmdaaGreatDoor
open Go Go.E Go.Sp
def cLo (f:LUt) (i c:Nat):Nat:=ctV (q8y f.ls f.li f.lv c) i
def cUp (f:LUt) (i c:Nat):Nat:=ctV (q8y f.us f.ui f.uv c) i
open Classical in
noncomputable def lgE (f:LUt) (l:List Nat):List Nat × Int :=
 if qhC (q5H f) f.rows.length l≠0 then ([],qhC (q5H f) f.rows.length l) else
  match geL (cLo f) f.rows.length 0 (gaS l f.rows f.rows.length) with
  | none=>([],233)
  | some y=>match geU (cUp f) f.rows.length f.rows.length y with
   | none=>([],233)
   | some z=>(scS z f.cols f.rows.length f.rows.length,0)
def q8u (n:Nat) (g:Nat→Nat→Nat) (k:Nat):List Nat:=(List.range n).map (g k)
def qsL {n:Nat} {g:Nat→Nat→Nat} {k:Nat}:rU n g k=(q8u n g k).map fun z:Nat=>uv z:=by
 unfold rU q8u;rw [List.map_map]
 rfl
def q4t {n:Nat} {g:Nat→Nat→Nat} {k c:Nat} (hc:c < n):(q8u n g k)[c]?=some (g k c):=by
 unfold q8u;rw [List.getElem?_map,List.getElem?_range hc]; rfl
def q6t {n:Nat} {g:Nat→Nat→Nat} {k:Nat}:(q8u n g k).length=n:=by unfold q8u; simp
def rst_L {g:Nat→Nat→Nat} {D:Nat→Nat→Nat} {n k:Nat} {ys:List Nat} (hk:k < n) (hy:ys.length=n) (h:∀ c,c < k→g k c=D k c):q1B (q8L (ofZ (ys.getD k 0)) ((q8u n g k).take k) (ys.take k) k)=loZ D ys k:=by
 rw [qdh];unfold loZ
 congr 1
 refine q2r k fun i hi=>?_;have h1:((q8u n g k).take k)[i]?=some (g k i):=by rw [List.getElem?_take,if_pos hi]; exact q4t (by omega)
 obtain ⟨y,hy2⟩:∃ y,ys[i]?=some y:=⟨_,List.getElem?_eq_getElem Oq⟩;have h2:(ys.take k)[i]?=some y:=by rw [List.getElem?_take,if_pos hi]; exact hy2
 rw [getD_some h1,getD_some h2,getD_some hy2,h i hi]
def rst_U {g:Nat→Nat→Nat} {D:Nat→Nat→Nat} {n k:Nat} {ys:List Nat} (hk:k < n) (hy:ys.length=n) (h:∀ c,c < n→g k c=D k c):q1B (q8L (ofZ (ys.getD k 0)) ((q8u n g k).drop (k+1)) (ys.drop (k+1)) (n-(k+1)))=upZ D ys n k:=by
 rw [qdh];unfold upZ
 congr 1
 refine q2r (n-(k+1)) fun i hi=>?_;have h1:((q8u n g k).drop (k+1))[i]?=some (g k (k+1+i)):=by rw [List.getElem?_drop]; exact q4t (by omega)
 obtain ⟨y,hy2⟩:∃ y,ys[k+1+i]?=some y:=⟨_,List.getElem?_eq_getElem Oq⟩;have h2:(ys.drop (k+1))[i]?=some y:=by rw [List.getElem?_drop]; exact hy2
 rw [getD_some h1,getD_some h2,getD_some hy2,h _ (by omega)]
def qcp {l:List Nat} {o:List Int} {n:Nat} (hl:l.length=n) (ho:o.length=n) (hn:n≤1000000) (hb:∀ x ∈ o,0≤x∧x < n):qcj 123 [pF l,pI o] h0 (.ow 5000 none 0 n) (q0Q h0 5000 ⟨33,none,(gaS l o n).map fun z:Nat=>uv z,false⟩):=by
 have hJ:∀ i,¬ (h0 i≠none):=fun i h=>h rfl;unfold gaS;have hgl:∀ m,(rwG n (fun k=>l.getD (o.getD k 0).toNat 0) m).length=n:=fun _=>q4K;generalize hg:(fun k=>l.getD (o.getD k 0).toNat 0)=g at *;refine qgQ qlO Tryz.func123 rfl Tryz.ntmps123 (by kernel_rfl) ?_ ?_ ?_ ?_
 ·intro i b hb; cases hb
 ·exact qby
 ·exact IdL.of fun x hx=>by
   simp at hx
   rcases hx with rfl | rfl <;> unfold IdP <;> trivial
 have hW:WfH h0:=⟨fun i b hb=>by cases hb⟩;refine wk1 ho ?_;refine q0U (fun k=>k≤n) [0,1] [] Lk Lk (fun k:Nat=>[(6,iv k),(5,.ow 1001 none 0 n)]) (fun k=>[(1001,⟨33,none,(rwG n g k).map fun z:Nat=>uv z,false⟩)]) (fun _=>h0) (fun k=>n-k) 0 (Nat.zero_le _) ?_ ?_
 ·rw [← qde];refine LeW [(1001,some 9)] rfl rfl ?_ ?_ (by simp [q0x,q0g,win]) ?_
  ·exact Ow
  ·exact hW
  ·try refine Zz ?_
   simp
 ·intro k hk
  by_cases hlt:k < n
  ·obtain ⟨x,hx⟩:∃ x,o[k]?=some x:=⟨_,List.getElem?_eq_getElem Oq⟩;obtain ⟨h1,h2⟩:=hb x (List.mem_of_getElem? hx);obtain ⟨x,rfl⟩:∃ y:Nat,x=y:=⟨x.toNat,by omega⟩;obtain ⟨u,hu⟩:∃ u,l[x]?=some u:=⟨_,List.getElem?_eq_getElem Oq⟩;have hs:=qdd (n:=n) (g:=g) (m:=k);have hgk:g k=u:=by rw [← hg]; simp only [getD_some hx,Int.toNat_natCast,getD_some hu]
   rw [hgk] at hs;refine wk1 (x4 ho hx hu (hgl k)) ?_;refine ⟨k+1,by omega,by omega,?_⟩;refine LeW [] rfl rfl ?_ ?_ (by simp [q0x,q0g,win]) ?_
   ·exact Ow
   ·exact hW
   ·try refine Zz ?_
    rw [← hs];exact ⟨by omega,rfl⟩
  ·obtain rfl:k=n:=by omega
   have hgk:=hgl k;refine wk1 ho ?_;refine (rtM (rs:=[.tmp 4]) rfl rfl Lq ?_ (.inl rfl));refine LeO hJ ?_ clU
   try simp -implicitDefEqProofs (disch:=omega) only [go_sem,Nat.reduceEqDiff,Nat.reduceAdd,↓reduceIte]
def qsf {f:LUt} {l:List Nat}:IdL win [pLU f,pF l]:=IdL.of fun x hx=>by
 simp at hx
 rcases hx with rfl | rfl
 ·unfold pLU IdP;unfold IdL IdL IdL IdL IdL IdL IdL IdL IdL;unfold IdP;exact ⟨trivial,trivial,trivial,trivial,trivial,trivial,trivial,trivial,trivial⟩
 ·unfold IdP; trivial
def qln {f:LUt} {l:List Nat} (hb:LUb f) (hn:f.rows.length≤100) (hul:∀ x ∈ l,x < 18446744073709551616) (hl:l.length≤1000000) :
  qcj 221 [pLU f,pF l] h0 (.tu [.ow 5000 none 0 (lgE f l).1.length,iv (lgE f l).2]) (q0Q h0 5000 ⟨33,none,(lgE f l).1.map fun z:Nat=>uv z,false⟩):=by
 have hJ:∀ i,¬ (h0 i≠none):=fun i h=>h rfl;have cK:=q9B hb;have cS:=qgc (e:=q5H f) (n:=f.rows.length) hul hl;refine qgQ qlF Tryz.func221 rfl Tryz.ntmps221 (by kernel_rfl) ?_ ?_ ?_ ?_
 ·intro i b hb; cases hb
 ·exact qby
 ·exact qsf
 unfold lgE
 by_cases hz0:qhC (q5H f) f.rows.length l=0
 case neg =>
  rw [if_pos hz0];generalize qhC (q5H f) f.rows.length l=e at *;generalize q5H f=e2 at *;have q:(e != 0)=true:=by simpa using hz0
  unfold pLU at *;dsimp only at *;refine wk1 q ?_;refine (rtM (rs:=[.tmp 4,.tmp 5]) rfl rfl Lq ?_ (.inl rfl));exact LeEn hJ
 rw [if_neg (not_not_intro hz0)];rw [hz0] at cS;obtain ⟨h1,h2,h3⟩:=qrf hz0;rw [h1] at cK cS;have hf:=qgY hb h1;have hfl:q08 l:=fun x hx=>⟨hul x hx,h3 x hx⟩;have hrb:∀ x ∈ f.rows,0≤x∧x < f.rows.length:=fun x hx=>hf.rp.2.1 x hx;have hcb:∀ x ∈ f.cols,0≤x∧x < f.rows.length:=fun x hx=>hf.cp.2.1 x hx;have hcl:f.cols.length=f.rows.length:=by have:=hf.cp.1; omega
 have cG:=qcp (l:=l) (o:=f.rows) (n:=f.rows.length) h2 rfl Oq hrb;have hgl:=qex (l:=l) (o:=f.rows) (n:=f.rows.length);have hgf:=qey (o:=f.rows) (n:=f.rows.length) hfl;generalize gaS l f.rows f.rows.length=g at *;have cD:=qjE (f:=f) rfl hn hf.L hf.U;have vL:∀ {i j:Nat},i < f.rows.length→j < i→dnT (dnD f.rows.length) (q8y f.ls f.li f.lv) f.rows.length i j=cLo f i j:=fun hi hj=>dnL_v hf.L.nd Oq hj;have vU:∀ {i j:Nat},j < f.rows.length→dnT (fun _ _=>0) (q8y f.us f.ui f.uv) f.rows.length i j=cUp f i j:=fun hj=>dnU_v hf.U.nd hj;have fL:∀ {i j:Nat},j < f.rows.length→cLo f i j < 18446744073709551616∧q0J (cLo f i j):=fun hj=>qfe hf.L hj;have fU:∀ {i j:Nat},j < f.rows.length→cUp f i j < 18446744073709551616∧q0J (cUp f i j):=fun hj=>qfe hf.U hj;have dU:∀ k,k < f.rows.length→ofZ (cUp f k k)≠0:=fun k hk=>by
  obtain ⟨m,x,m1,m2,m3⟩:=hf.dg k hk;have:=qfd (t:=m.length) (e:=(k,x)) (hf.U.nd k hk) (by rw [m1]; simp);unfold cUp;rw [this];exact m2
 obtain ⟨gl,hgl2⟩:∃ q,q=dnT (dnD f.rows.length) (q8y f.ls f.li f.lv) f.rows.length:=⟨_,rfl⟩;obtain ⟨gu,hgu2⟩:∃ q,q=dnT (fun _ _=>0) (q8y f.us f.ui f.uv) f.rows.length:=⟨_,rfl⟩;rw [← hgl2,← hgu2] at cD;simp only [← hgl2] at vL;simp only [← hgu2] at vU;clear hgl2 hgu2 hf;generalize cLo f=DL at *;generalize cUp f=DU at *;generalize hnn:f.rows.length=n at *;unfold pLU at *;obtain ⟨F,hF⟩:∃ F:List Nat→List Nat × Int,F=fun y=>(match geU DU n n y with
   | none=>([],233)
   | some z=>(scS z f.cols n n,(0:Int))):=⟨_,rfl⟩
 obtain ⟨res,hres⟩:∃ q,q=(match geL DL n 0 g with
  | none=>([],233)
  | some y=>F y):=⟨_,rfl⟩
 have hres':=hres;rw [hF] at hres';rw [← hres'];clear hres';refine wk1 hnn ?_;refine qlg fun K hK=>?_;refine Zz1 hnn ?_;refine jm cG ?_ (fun i hi=>(hi trivial).elim) ?_
 ·change Wn _ _;exact Ow
 try refine Zz ?_
 refine hK _ _ ?_; clear hK K;clear cG;have hW:WfH h0:=⟨fun i b hb=>by cases hb⟩;refine wk ?_;refine q1L (LeT (hw:=h0) (fun i=>if i=1001 then some 5000 else if i=5000 then none else some i) (fun i hi=>(hJ i hi).elim) (fun i hi hw=>?_) (fun i b hw hb=>?_) (fun i j x hi hj ti tj=>?_) (xs:=[(2,.pt 2 0 0),(6,iv n),(8,tU n gl),(9,tU n gu),(10,.ow 1001 none 0 n),(11,iv 0)]) (kv:=[]) (bs:=[(2,⟨99,some 8,[.ag [pI f.rows,pI f.cols,pI f.ls,pI f.li,pF f.lv,pI f.us,pI f.ui,pF f.uv]],false⟩),(1001,⟨33,none,g.map fun z:Nat=>uv z,false⟩)]) (kb:=[]) ?_) ?_
 ·simp at hi;unfold win at hw;omega
 ·cases hb
 ·have a1:∀ i,(win i∧(h0:Hp) i≠none∨i ∈ List.map (·.1) [(2,(⟨99,some 8,[.ag [pI f.rows,pI f.cols,pI f.ls,pI f.li,pF f.lv,pI f.us,pI f.ui,pF f.uv]],false⟩:Bk)),(1001,⟨33,none,g.map fun z:Nat=>uv z,false⟩)] ++ [])→i=2∨i=1001:=fun i hi=>by
   rcases hi with ⟨_,hi⟩ | hi
   ·exact absurd rfl hi
   ·simpa using hi
  rcases a1 i hi with rfl | rfl <;> rcases a1 j hj with rfl | rfl <;> simp at ti tj <;> omega
 ·try simp -implicitDefEqProofs (disch:=omega) only [go_sem,Nat.reduceEqDiff,Nat.reduceAdd,↓reduceIte]
 refine q0U (fun q:Nat × List Nat=>q.1≤n∧q.2.length=n∧q08 q.2∧(match geL DL (n-q.1) q.1 q.2 with | none=>([],233) | some y=>F y)=res) [2,6,8,9] [2] Lk Lk (fun q=>[(11,iv q.1),(10,.ow 1001 none 0 n)]) (fun q=>[(1001,⟨33,none,q.2.map fun z:Nat=>uv z,false⟩)]) (fun _=>h0) (fun q=>n-q.1) (0,g) ⟨Nat.zero_le _,hgl,hgf,hres.symm⟩ ?_ ?_
 ·refine LeW [] rfl rfl ?_ ?_ (by simp [q0x,q0g,win]) ?_
  ·exact Ow
  ·exact hW
  ·try refine Zz ?_
   rfl
 ·rintro ⟨k,ys⟩ ⟨hk,hy,hfy,hv⟩;simp only at hk hy hfy hv ⊢
  by_cases hlt:k < n
  ·have hlt':(k:Int) < n:=by omega
   obtain ⟨u,hu⟩:∃ u,ys[k]?=some u:=⟨_,List.getElem?_eq_getElem Oq⟩;obtain ⟨u1,u2⟩:=hfy u (List.mem_of_getElem? hu);have rk:(List.range n)[k]?=some k:=List.getElem?_range hlt;have hrf:q08 ((q8u n gl k).take k):=fun x hx=>by
    obtain ⟨c,hc⟩:=List.mem_iff_getElem?.1 hx;have hck:c < k:=by have:=(List.getElem?_eq_some_iff.1 hc).1; rw [List.length_take] at this; omega
    rw [List.getElem?_take,if_pos hck,q4t (by omega)] at hc;cases hc;rw [vL hlt hck];exact fL Oq
   have hrl:((q8u n gl k).take k).length=k:=by rw [List.length_take,q6t]; omega
   have hS:=rst_L (g:=gl) (D:=DL) (n:=n) (k:=k) (ys:=ys) hlt hy fun c hc=>vL hlt hc;rw [getD_some hu] at hS;rw [show n-k=(n-(k+1))+1 by omega,geL] at hv;have cR:=qaH (B:=ofZ u) (l:=(q8u n gl k).take k) (x:=ys.take k) (q18 u2) hrf (qfR hfy) (by rw [hrl,List.length_take]; omega) (by omega);rw [hrl,hS] at cR;generalize loZ DL ys k=S at *;unfold pF at cR;rw [List.map_take,List.map_take,← qsL] at cR;have cZ:=q1M (V:=S);have cO1:=q0u u1 (q0S u2);have cQ:=@q4O S;have hqlt:fR 0 S < 18446744073709551616:=q4l;generalize fR 0 S=v at *;have cF:=q1W hqlt;have es1:slP (some 1) none (some (iv (k:Int))) (.sl none (rU n gl k))=some (.sl none ((rU n gl k).take k)):=by
    simp [slP,q9r,ksz];omega
   have es2:slP (some 1) none (some (iv (k:Int))) (.ow 1001 none 0 n)=some (.ow 1001 none 0 k):=by
    simp [slP,q9r,ksz];omega
   have hset:((ys.map fun z:Nat=>uv z).set k (uv (v:Nat)))[k]?=some (uv (v:Nat)):=List.getElem?_set_self (by rw [List.length_map]; omega)
   by_cases hfx:q0J v
   ·rw [decide_eq_true hfx] at cF;rw [if_pos hfx] at hv;refine wk1 (x6 hlt' hu rk es1 es2 (x2 hy hset)) ?_;refine ⟨(k+1,ys.set k v),⟨by simp only; omega,by simp only; rw [List.length_set]; exact hy,q5A hfy hqlt hfx,hv⟩,by simp only; omega,?_⟩;simp only;refine LeW [] rfl rfl ?_ ?_ (by simp [q0x,q0g,win]) ?_
    ·exact Ow
    ·exact hW
    ·try refine Zz ?_
     rfl
   ·rw [decide_eq_false hfx] at cF;rw [if_neg hfx] at hv;subst hv;refine wk1 (x6 hlt' hu rk es1 es2 (x2 hy hset)) ?_;refine (rtM (rs:=[.tmp 4,.tmp 5]) rfl rfl Lq ?_ (.inl rfl));exact LeEn hJ
  ·obtain rfl:n=k:=by omega
   have hlt':¬ (n:Int) < n:=by omega
   rw [Nat.sub_self,geL] at hv;simp only [hF] at hv;clear hF hres;refine wk1 hlt' ?_;refine q0U (fun q:Nat × List Nat=>q.1≤n∧q.2.length=n∧q08 q.2∧(match geU DU n q.1 q.2 with | none=>([],233) | some z=>(scS z f.cols n n,(0:Int)))=res) [2,6,8,9] [2] Lk Lk (fun q=>[(12,iv ((q.1:Int)-1)),(10,.ow 1001 none 0 n)]) (fun q=>[(1001,⟨33,none,q.2.map fun z:Nat=>uv z,false⟩)]) (fun _=>h0) (fun q=>q.1) (n,ys) ⟨Nat.le_refl _,hy,hfy,hv⟩ ?_ ?_
   ·refine LeW [] rfl rfl ?_ ?_ (by simp [q0x,q0g,win]) ?_
    ·exact Ow
    ·exact hW
    ·try simp -implicitDefEqProofs (disch:=omega) only [go_sem,Nat.reduceEqDiff,Nat.reduceAdd,↓reduceIte]
   ·clear hv hy hfy;rintro ⟨k,ys⟩ ⟨hk,hy,hfy,hv⟩;simp only at hk hy hfy hv ⊢
    by_cases hlt:k=0
    ·subst hlt;rw [geU] at hv;simp only at hv;subst hv;have cS2:=q9A (l:=ys) (o:=f.cols) hy hcl Oq hcb;have hsl:=q5X (x:=ys) (o:=f.cols) (n:=n) n;dsimp only;rw [hsl];generalize scS ys f.cols n n=x at *;refine wk ?_;refine q1L (LeT (hw:=h0) (fun i=>if i=1001 then none else some i) (fun i hi=>(hJ i hi).elim) (fun i hi hw=>?_) (fun i b hw hb=>?_) (fun i j x hi hj ti tj=>?_) (xs:=[(2,.pt 2 0 0),(10,pF ys)]) (kv:=[]) (bs:=[(2,⟨99,some 8,[.ag [pI f.rows,pI f.cols,pI f.ls,pI f.li,pF f.lv,pI f.us,pI f.ui,pF f.uv]],false⟩)]) (kb:=[]) ?_) ?_
     ·simp at hi;unfold win at hw;omega
     ·cases hb
     ·split at ti <;> split at tj <;> cases ti <;> cases tj <;> rfl
     ·try refine Zz ?_
      try exact q61 rfl clU (fun i hi=>by split at hi <;> cases hi; omega) (by rw [List.drop_zero]; exact List.take_of_length_le (by rw [List.length_map]; omega))
     refine qlg fun K hK=>?_;refine Zz ?_;refine jm cS2 ?_ (fun i hi=>(hi trivial).elim) ?_
     ·change Wn _ _;exact Ow
     try refine Zz ?_
     refine hK _ _ ?_; clear hK K;refine wk ?_;refine (rtM (rs:=[.tmp 4,.tmp 5]) rfl rfl Lq ?_ (.inl rfl));refine LeE hJ ?_ clU
     try simp -implicitDefEqProofs (disch:=omega) only [go_sem,Nat.reduceEqDiff,Nat.reduceAdd,↓reduceIte]
    ·obtain ⟨k,rfl⟩:∃ k',k=k'+1:=⟨k-1,by omega⟩;have hkn:k < n:=by omega
     obtain ⟨u,hu⟩:∃ u,ys[k]?=some u:=⟨_,List.getElem?_eq_getElem Oq⟩;obtain ⟨u1,u2⟩:=hfy u (List.mem_of_getElem? hu);have rk:(List.range n)[k]?=some k:=List.getElem?_range hkn;have hrf:q08 (q8u n gu k):=fun x hx=>by
      obtain ⟨c,hc⟩:=List.mem_iff_getElem?.1 hx;have hck:c < n:=by have:=(List.getElem?_eq_some_iff.1 hc).1; rwa [q6t] at this
      rw [q4t hck] at hc;cases hc;rw [vU hck];exact fU hck
     have hrl:((q8u n gu k).drop (k+1)).length=n-(k+1):=by rw [List.length_drop,q6t]
     have hS:=rst_U (g:=gu) (D:=DU) (n:=n) (k:=k) (ys:=ys) hkn hy fun c hc=>vU hc;rw [getD_some hu] at hS;rw [geU] at hv;have cR:=qaH (B:=ofZ u) (l:=(q8u n gu k).drop (k+1)) (x:=ys.drop (k+1)) (q18 u2) (q87 hrf) (q87 hfy) (by rw [hrl,List.length_drop]; omega) (by omega);rw [hrl,hS] at cR;have hdz:=dU k hkn;have hkk:=vU (i:=k) (j:=k) hkn;obtain ⟨d1,d2⟩:=fU (i:=k) (j:=k) hkn;rw [← hkk] at hdz d1 d2 hv;generalize upZ DU ys n k=S at *;unfold pF at cR;rw [List.map_drop,List.map_drop,← qsL] at cR;have cZ:=q1M (V:=S);have cO1:=q0u u1 (q0S u2);have cO2:=q0u d1 (q0S d2);have cQ:=qcm (q9W (A:=S) (mode:=0) hdz);have hqlt:fQ 0 S (ofZ (gu k k)) < 18446744073709551616:=qfT hdz;generalize fQ 0 S (ofZ (gu k k))=v at *;have cF:=q1W hqlt;have ek:((k+1:Nat):Int)-1=(k:Int):=by omega
     have wj:(k:Int)+1=((k+1:Nat):Int):=rfl;have ww:IntKind.i64.wrap ((k+1:Nat):Int)=((k+1:Nat):Int):=i64_in Oq Oq;have es1:slP (some 1) (some (iv ((k+1:Nat):Int))) none (.sl none (rU n gu k))=some (.sl none ((rU n gu k).drop (k+1))):=by
      simp [slP,q9r,ksz];rw [if_pos (by omega),Option.bind_some,if_pos (by omega),List.take_of_length_le (by simp [rU])]
     have es2:slP (some 1) (some (iv ((k+1:Nat):Int))) none (.ow 1001 none 0 n)=some (.ow 1001 none (k+1) (n-(k+1))):=by
      simp [slP,q9r,ksz];rw [if_pos (by omega),Option.bind_some,if_pos (by omega)]
     have htk:((ys.map fun z:Nat=>uv z).drop (k+1)).take (n-(k+1))=(ys.map fun z:Nat=>uv z).drop (k+1):=List.take_of_length_le (by rw [List.length_drop,List.length_map]; omega);have hset:((ys.map fun z:Nat=>uv z).set k (uv (v:Nat)))[k]?=some (uv (v:Nat)):=List.getElem?_set_self (by rw [List.length_map]; omega)
     by_cases hfx:q0J v
     ·rw [decide_eq_true hfx] at cF;rw [if_pos hfx] at hv;refine wk1 (x6 ek wj ww htk hu (x4 rk es1 es2 hset)) ?_;refine ⟨(k,ys.set k v),⟨by simp only; omega,by simp only; rw [List.length_set]; exact hy,q5A hfy hqlt hfx,hv⟩,by simp only; omega,?_⟩;simp only;refine LeW [] rfl rfl ?_ ?_ (by simp [q0x,q0g,win]) ?_
      ·exact Ow
      ·exact hW
      ·try simp -implicitDefEqProofs (disch:=omega) only [go_sem,Nat.reduceEqDiff,Nat.reduceAdd,↓reduceIte]
     ·rw [decide_eq_false hfx] at cF;rw [if_neg hfx] at hv;subst hv;refine wk1 (x6 ek wj ww htk hu (x4 rk es1 es2 hset)) ?_;refine (rtM (rs:=[.tmp 4,.tmp 5]) rfl rfl Lq ?_ (.inl rfl));exact LeEn hJ

def rgL (G:Nat→Nat→Option Nat) (i:Nat):Nat→List Int
 | 0=>[q2i]
 | k+1=>if k=i then rgL G i k else rgL G i k ++ [((ofZ ((G k i).getD 0)).natAbs:Int),((ofZ ((G i k).getD 0)).natAbs:Int)]
def rgF (G:Nat→Nat→Option Nat) (n j i:Nat):Option Nat:=if i=j then some (fR 2 (q1B (rgL G i n))) else G j i
def qdn {G:Nat→Nat→Option Nat} {n i:Nat} (h:TOk G n n) (hi:i < n):∀ k,k≤n→(rgL G i k).length≤2*k+1∧∀ x ∈ rgL G i k,bl x.natAbs≤67600
 | 0,_=>⟨Nat.le_refl _,fun x hx=>by unfold rgL at hx; simp at hx; subst hx; exact q4R.2⟩
 | k+1,hk=>by
  obtain ⟨h1,h2⟩:=qdn h hi k Oq;unfold rgL
  split
  ·exact ⟨by omega,h2⟩
  ·refine ⟨by simp; omega,fun x hx=>?_⟩
   rcases List.mem_append.1 hx with hx | hx
   ·exact h2 x hx
   ·simp at hx
    rcases hx with rfl | rfl <;> rw [Int.natAbs_natCast]
    ·exact q18 (h.fin Oq Oq).1
    ·exact q18 (h.fin Oq Oq).1
def qbs {raw:List Nat} {st:Int} {n:Nat} (hr:raw.length≤9223372036854775807) (hn:n≤100) (h3 : -9223372036854775808≤st) (h4:st≤9223372036854775807) :
  ACt 58 [pF raw,iv n,iv st] (pT n n (rgF (gF raw n (q00 (q00 st 3:Nat) 4)) n)):=by
 have hs3:q00 st 3 < 3:=by unfold q00; omega
 have hnn:n*n≤100*100:=Nat.mul_le_mul hn hn;have cM:=q3c (a:=st) (n:=3) h3 h4 Oq Oq;have cG:=q3R (raw:=raw) (st:=(q00 st 3:Nat)) (R:=n) (C:=n) hr Oq Oq Oq Oq;have hG:=qiG (raw:=raw) (R:=n) (C:=n) (st:=q00 (q00 st 3:Nat) 4) Oq Oq Oq;generalize gF raw n (q00 (q00 st 3:Nat) 4)=G at *;have cA:∀ {i j:Nat},i < n→j < n→_:=fun {i j} hi hj=>q8C (i:=i) (j:=j) hG hi hj;have cS:∀ {i j:Nat},i < n→j < n→_:=fun {i j} hi hj=>qbj (i:=i) (j:=j) hG hi hj;generalize hFn:rgF G n=F;have hpt:pT n n F=pM n n (tM F n n):=rfl;have hpG:pT n n G=q2I n n (tM G n n).1 (tM G n n).2.1 (tM G n n).2.2:=rfl;rw [hpG] at cG;simp only [hpG] at cA cS;rw [hpt];clear hpG hpt;unfold q2I at cG cA cS;generalize (tM G n n).1=gs at *;generalize (tM G n n).2.1=gi at *;generalize (tM G n n).2.2=gv at *;have c1:=q2f (z:=1) Oq Oq q4R.1;refine ac0 Tryz.func58 Tryz.ntmps58 [.cell 6 27] ?_;refine wk ?_;refine q0A (fun j=>j≤n) [1,6,7,8] [6,7] Lk Lk (fun j:Nat=>[(9,iv j)]) (fun j=>[(8,⟨27,some 5,[.ag [iv n,iv n,.ow 1001 none 0 (tM F n j).1.length,.ow 1002 none 0 (tM F n j).2.1.length,.ow 1003 none 0 (tM F n j).2.2.length]],false⟩),(1001,⟨3,none,(tM F n j).1.map fun z=>iv z,false⟩),(1002,⟨3,none,(tM F n j).2.1.map fun z=>iv z,false⟩),(1003,⟨33,none,(tM F n j).2.2.map fun z:Nat=>uv z,false⟩)]) (fun j=>n-j) 0 (Nat.zero_le _) ?_ ?_
 ·refine LeM [(1001,some 21),(1002,none),(1003,none)] rfl rfl ?_;refine Zz ?_;exact ⟨rfl,⟨rfl,rfl,rfl⟩,rfl,rfl,rfl⟩
 ·intro j hj;have hg:=q17 (f:=F) (R:=n) j;have hjn:j*n≤100*100:=Nat.mul_le_mul Oq hn;refine wk ?_
  by_cases hlt:j < n
  ·have hlt':(j:Int) < n:=by omega
   refine wk1 hlt' ?_;have hM1:(tM F n (j+1)).1=(tM F n j).1 ++ [((tC F j (tM F n j).2 n).1.length:Int)]:=rfl;have hM2:(tM F n (j+1)).2=tC F j (tM F n j).2 n:=rfl;generalize (tM F n j).1=ms at *;generalize (tM F n j).2=mp at *;refine q0A (fun i=>i≤n) [1,6,7,8,9] [6,7,1001] Lk Lk (fun i:Nat=>[(10,iv i)]) (fun i=>[(8,⟨27,some 5,[.ag [iv n,iv n,.ow 1001 none 0 ms.length,.ow 1002 none 0 (tC F j mp i).1.length,.ow 1003 none 0 (tC F j mp i).2.length]],false⟩),(1002,⟨3,none,(tC F j mp i).1.map fun z=>iv z,false⟩),(1003,⟨33,none,(tC F j mp i).2.map fun z:Nat=>uv z,false⟩)]) (fun i=>n-i) 0 (Nat.zero_le _) ?_ ?_
   ·refine LeM [] rfl rfl ?_;refine Zz ?_;exact ⟨rfl,⟨rfl,rfl⟩,rfl,rfl⟩
   ·intro i hi;have hq:=q8B (f:=F) (j:=j) hg.2.1 i;refine wk ?_
    by_cases hlt2:i < n
    ·have hlt2':(i:Int) < n:=by omega
     refine wk1 hlt2' ?_
     by_cases hij:i=j
     ·have e1:((i:Int) == (j:Int))=true:=by simp; omega
      have hF:F j i=some (fR 2 (q1B (rgL G i n))):=by rw [← hFn]; unfold rgF; rw [if_pos hij]
      obtain ⟨z,hz⟩:∃ z,z=fR 2 (q1B (rgL G i n)):=⟨_,rfl⟩;rw [← hz] at hF;have eg:=qdU (p:=mp) hF;refine wk1 e1 ?_;refine q0A (fun k=>k≤n) [1,6,7,8,9,10] [6,7,8,1001,1002,1003] Lk Lk (fun k:Nat=>[(12,iv k),(11,.ow 1004 (some 4) 0 (rgL G i k).length)]) (fun k=>[(1004,⟨48,some 4,(rgL G i k).map fun V=>pV V,false⟩)]) (fun k=>n-k) 0 (Nat.zero_le _) ?_ ?_
      ·refine LeM [(1004,some 37)] rfl rfl ?_;refine Zz ?_;exact ⟨⟨rfl,rfl⟩,q0F rfl clV⟩
      ·intro k hk;obtain ⟨d1,d2⟩:=qdn hG hlt2 k hk;refine wk ?_
       by_cases hlk:k < n
       ·have hlk':(k:Int) < n:=by omega
        refine wk1 hlk' ?_
        by_cases hki:k=i
        ·have e2:((k:Int) != (i:Int))=false:=by simp; omega
         have es:rgL G i (k+1)=rgL G i k:=by rw [rgL,if_pos hki]
         refine wk1 e2 ?_;refine ⟨k+1,by omega,by omega,?_⟩;rw [es];refine LeM [] rfl rfl ?_;refine Zz ?_;exact ⟨by omega,q0F rfl clV⟩
        ·have e2:((k:Int) != (i:Int))=true:=by simp; omega
         obtain ⟨u,hu⟩:∃ u,u=(G k i).getD 0:=⟨_,rfl⟩;obtain ⟨v,hv⟩:∃ u,u=(G i k).getD 0:=⟨_,rfl⟩;obtain ⟨f1,f2⟩:=hG.fin (j:=k) (i:=i) hlk hlt2;obtain ⟨g1,g2⟩:=hG.fin (j:=i) (i:=k) hlt2 hlk;have cE:=cA hlt2 hlk;have cE2:=cA hlk hlt2;rw [← hu] at f1 f2 cE;rw [← hv] at g1 g2 cE2;have cO:=q0u f2 (q0S f1);have cO2:=q0u g2 (q0S g1);have es:rgL G i (k+1)=rgL G i k ++ [((ofZ u).natAbs:Int),((ofZ v).natAbs:Int)]:=by rw [rgL,if_neg hki,hu,hv]
         have C1:=@q5g;refine wk1 e2 ?_;refine ⟨k+1,by omega,by omega,?_⟩;rw [es];refine LeM [(1004,some 60)] rfl rfl ?_;refine Zz ?_;exact ⟨by omega,q0F (by simp) clV⟩
       ·have hlk':¬ (k:Int) < n:=by omega
        obtain rfl:k=n:=by omega
        have hsd:=qdV d2 Oq;have C2:=q3T (l:=rgL G i k) Oq hsd;have C3:=q1M (V:=q1B (rgL G i k));have C4:=q39 (V:=q1B (rgL G i k)) (mode:=2);rw [← hz] at C4;refine wk1 hlk' ?_;refine ⟨i+1,by omega,by omega,?_⟩;rw [eg];refine LeM [(1002,some 65),(1003,some 73)] rfl rfl ?_;refine Zz ?_;omega
     ·have e1:((i:Int) == (j:Int))=false:=by simp; omega
      have hF:F j i=G j i:=by rw [← hFn]; unfold rgF; rw [if_neg hij]
      have C5:=(cS hlt2 hlt);refine wk1 e1 ?_;have cE:=cA hlt2 hlt;cases hx:G j i with
      | none =>
       rw [hx] at hF;have eg:=qbo (p:=mp) hF;have ei:(none:Option Nat).isSome=false:=rfl;refine wk1 ei ?_;refine ⟨i+1,by omega,by omega,?_⟩;rw [eg];refine LeM [] rfl rfl ?_;refine Zz ?_;omega
      | some z =>
       rw [hx] at hF cE;rw [Option.getD_some] at cE;have eg:=qdU (p:=mp) hF;have ei:(some z).isSome=true:=rfl;refine wk1 ei ?_;refine ⟨i+1,by omega,by omega,?_⟩;rw [eg];refine LeM [(1002,some 83),(1003,some 92)] rfl rfl ?_;refine Zz ?_;omega
    ·have hlt2':¬ (i:Int) < n:=by omega
     obtain rfl:i=n:=by omega
     refine wk1 hlt2' ?_;refine ⟨j+1,by omega,by omega,?_⟩;rw [hM1,hM2];refine LeM [(1001,some 100)] rfl rfl ?_;refine Zz ?_;omega
  ·have hlt':¬ (j:Int) < n:=by omega
   obtain rfl:j=n:=by omega
   exact wk1 hlt' trivial
def qdo {raw:List Nat} {R k i:Nat} (hk:k < 3):∀ m,∀ x ∈ rgL (gF raw R k) i m,bl x.natAbs≤66000
 | 0,x,hx=>by unfold rgL at hx; simp at hx; subst hx; exact q4S
 | m+1,x,hx=>by
  unfold rgL at hx
  split at hx
  ·exact qdo hk m x hx
  ·rcases List.mem_append.1 hx with hx | hx
   ·exact qdo hk m x hx
   ·simp at hx
    rcases hx with rfl | rfl
    all_goals
     rw [Int.natAbs_natCast];exact gF_bl hk
def qrz {raw:List Nat} {n k:Nat} (hn:n≤100) (hk:k < 3):TOk (rgF (gF raw n k) n) n n:=by
 have hnn:n*n≤100*100:=Nat.mul_le_mul hn hn;have hG:=qiG (raw:=raw) (R:=n) (C:=n) (st:=k) Oq Oq Oq;have key:∀ i,i < n→q0J (fR 2 (q1B (rgL (gF raw n k) i n))):=fun i hi=>by
  have hl:=(qdn hG hi n (Nat.le_refl _)).1;have h1:=q5R (K:=66000) (qdo (raw:=raw) (R:=n) (i:=i) hk n) (i:=(rgL (gF raw n k) i n).length) Oq;rw [List.take_length] at h1;obtain ⟨c,hc⟩:∃ c,c=900:=⟨_,rfl⟩;obtain ⟨K,hK⟩:∃ K,K=65536:=⟨_,rfl⟩;refine qtN hK hc (Nat.lt_of_lt_of_le (q23 _) ?_);rw [← Nat.pow_add];exact Nat.pow_le_pow_right Oq Oq
 refine ⟨hG.r,hG.c,hG.m,fun j i x hj hi h=>?_,fun j i x hj hi h=>?_⟩
 ·unfold rgF at h
  split at h
  ·have h:=Option.some.inj h; rw [← h]; exact q4l
  ·exact hG.u j i x hj hi h
 ·unfold rgF at h
  split at h
  ·have h:=Option.some.inj h; rw [← h]; exact key i hi
  ·exact hG.v j i x hj hi h
def qtM {F:Nat→Nat→Option Nat} {mi:List Int} {n:Nat} {cols:List Int} {num den:Nat} (hn:n≤100) (hc:cols.length≤1000000):LUb (qkv F mi n cols num den)∧(qkv F mi n cols num den).rows.length≤n:=by
 have hnn:n*n≤100*100:=Nat.mul_le_mul hn hn;unfold qkv
 by_cases h:(q2v F mi n cols num den n).1=0
 ·rw [if_pos h];have hG:=q9e (F:=F) (mi:=mi) (n:=n) (cols:=cols) (num:=num) (den:=den) n h;generalize (q2v F mi n cols num den n).2.2=S at *;have k1:∀ j i x,fLt S j i=some x→q0J x∧x < 18446744073709551616:=fun j i x hx=>by
   unfold fLt at hx
   split at hx
   ·cases hx; exact hG.l _ _
   ·cases hx
  have k2:∀ j i x,fUt S j i=some x→q0J x∧x < 18446744073709551616:=fun j i x hx=>by
   unfold fUt at hx
   split at hx
   ·cases hx; exact hG.u _ _
   ·cases hx
  have h1:TOk (fLt S) n n:=⟨by omega,by omega,by omega,fun j i x _ _ hx=>(k1 j i x hx).2,fun j i x _ _ hx=>(k1 j i x hx).1⟩;have h2:TOk (fUt S) n n:=⟨by omega,by omega,by omega,fun j i x _ _ hx=>(k2 j i x hx).2,fun j i x _ _ hx=>(k2 j i x hx).1⟩;have l1:=q17 (f:=fLt S) (R:=n) n;have l2:=q17 (f:=fUt S) (R:=n) n;have hrl:=hG.len;unfold qsh;refine ⟨⟨?_,hc,?_,?_,?_,?_,?_,?_,h1.vl.2.2.2,h2.vl.2.2.2⟩,?_⟩ <;> dsimp only <;> (try rw [List.length_map]) <;> omega
 ·rw [if_neg h];exact ⟨⟨by simp,by simp,by simp,by simp,by simp,by simp,by simp,by simp,by simp,by simp⟩,Nat.zero_le _⟩
end Go.Proofs.YtpbaikoblfcmdaaGreatDoor
namespace Go.Sp
open Go Go.E
end Go.Sp
namespace Go.Proofs.YtpbaikoblfcmdaaGreatDoor
open Go Go.E Go.Sp
def q65 {f:LUt} {l:List Nat} (hb:LUb f) (hn:f.rows.length≤100) (hul:∀ x ∈ l,x < 18446744073709551616) (hl:l.length≤1000000):ACt 221 [pLU f,pF l] (.tu [pF (lgE f l).1,iv (lgE f l).2]):=by
 refine qjj (ids:=[5000]) (qln hb hn hul hl) ?_;generalize (lgE f l).1=xs;generalize (lgE f l).2=e;have h1:q2z (q0Q h0 5000 ⟨33,none,xs.map fun z:Nat=>uv z,false⟩) (.ow 5000 none 0 xs.length)=some (pF xs,[5000]):=by
  unfold q2z;dsimp only;rw [q0I,Option.bind_some,if_pos ⟨rfl,rfl,fun x hx=>clU x hx⟩,List.drop_zero,List.take_of_length_le (by rw [List.length_map]; exact Nat.le_refl _)]
 have h2:q2z (q0Q h0 5000 ⟨33,none,xs.map fun z:Nat=>uv z,false⟩) (iv e)=some (iv e,[]):=by
  unfold q2z;dsimp only;exact if_pos trivial
 unfold q2R q2R q2R clo;simp only [h1,h2]
 rfl
open Classical in
noncomputable def rfR (R C:Nat) (f:LUt) (steps:Int):Int:=if q5H f≠0 then q5H f else if R≠f.rows.length∨C≠f.rows.length then 5 else if steps < 0∨64 < steps then 350 else 0
section
variable (C:Nat) (F:Nat→Nat→Option Nat) (f:LUt) (b:List Nat) (dbl:Bool)
open Classical in
noncomputable def rfL:Nat→List (Nat × Nat)→List Nat→List Nat→List (Nat × Nat) × List Nat × Int
 | 0,x,_,l=>(x,l,0)
 | k+1,x,r,l =>
  if q1g r C=0 then (x,l,0) else
  if (lgE f r).2≠0 then ([],[],(lgE f r).2) else
  if ¬ ∀ p ∈ chL dbl x (lgE f r).1 C,q0J p.1 then ([],[],233) else
  if ¬ ∀ v ∈ rdL F (chL dbl x (lgE f r).1 C) b C C,q0J v then ([],[],233) else
  if ofZ (q1g r C) < 2*ofZ (q1g (rdL F (chL dbl x (lgE f r).1 C) b C C) C) then (x,l,0) else
  rfL k (chL dbl x (lgE f r).1 C) (rdL F (chL dbl x (lgE f r).1 C) b C C) (l ++ [q1g (rdL F (chL dbl x (lgE f r).1 C) b C C) C])
open Classical in
noncomputable def rfS (R:Nat) (steps:Int):List (Nat × Nat) × List Nat × Int :=
 if rfR R C f steps≠0 then ([],[],rfR R C f steps) else
 if (lgE f b).2≠0 then ([],[],(lgE f b).2) else
 if ¬ ∀ v ∈ rdL F ((lgE f b).1.map fun v=>(v,0)) b C C,q0J v then ([],[],233) else
 rfL C F f b dbl steps.toNat ((lgE f b).1.map fun v=>(v,0)) (rdL F ((lgE f b).1.map fun v=>(v,0)) b C C) [q1g (rdL F ((lgE f b).1.map fun v=>(v,0)) b C C) C]
end
def qhP {R C:Nat} {f:LUt} {steps:Int} (h:rfR R C f steps=0):q5H f=0∧R=f.rows.length∧C=f.rows.length∧0≤steps∧steps≤64:=by
 unfold rfR at h
 split at h
 ·exact absurd h (by assumption)
 ·split at h
  ·cases h
  ·split at h
   ·cases h
   ·exact ⟨Classical.not_not.1 (by assumption),by omega,by omega,by omega,by omega⟩
def qdc {x:List Nat} {o:List Int} {n:Nat} (hx:q08 x):∀ k,q08 (scS x o n k)
 | 0=>fun v hv=>by
  unfold scS at hv;rw [List.mem_replicate] at hv;rw [hv.2]; exact ⟨by omega,by unfold q0J; simp⟩
 | k+1=>fun v hv=>by
  unfold scS at hv
  rcases List.mem_or_eq_of_mem_set hv with hv | rfl
  ·exact qdc hx k v hv
  ·exact qau hx _
def q6R {f:LUt} {l:List Nat} (hb:LUb f) (hul:∀ x ∈ l,x < 18446744073709551616) (h:(lgE f l).2=0):q5H f=0∧l.length=f.rows.length∧q08 l∧(lgE f l).1.length=f.rows.length∧q08 (lgE f l).1:=by
 unfold lgE at h ⊢
 by_cases hz:qhC (q5H f) f.rows.length l=0
 case neg=>rw [if_pos hz] at h; exact absurd h hz
 rw [if_neg (not_not_intro hz)] at h ⊢;obtain ⟨h1,h2,h3⟩:=qrf hz;have hf:=qgY hb h1;have hfl:q08 l:=fun x hx=>⟨hul x hx,h3 x hx⟩;have hlr:∀ y,geL (cLo f) f.rows.length 0 (gaS l f.rows f.rows.length)=some y→y.length=f.rows.length∧q08 y:=fun y hy=>qew _ _ _ y qex (qey hfl) hy;have dU:∀ k,k < f.rows.length→ofZ (cUp f k k)≠0:=fun k hk=>by
  obtain ⟨m,x,m1,m2,m3⟩:=hf.dg k hk;have:=qfd (t:=m.length) (e:=(k,x)) (hf.U.nd k hk) (by rw [m1]; simp);unfold cUp;rw [this];exact m2
 refine ⟨h1,h2,hfl,?_⟩;generalize geL (cLo f) f.rows.length 0 (gaS l f.rows f.rows.length)=R1 at *;cases R1 with
 | none=>cases h
 | some y =>
  obtain ⟨q1,q2⟩:=hlr y rfl;have hur:∀ z,geU (cUp f) f.rows.length f.rows.length y=some z→z.length=f.rows.length∧q08 z:=fun z hz=>qev dU _ y z (Nat.le_refl _) q1 q2 hz;dsimp only at h ⊢;generalize geU (cUp f) f.rows.length f.rows.length y=R2 at *;cases R2 with
  | none=>cases h
  | some z=>exact ⟨q5X _,qdc (hur z rfl).2 _⟩
section
variable {dbl:Bool} {x:List (Nat × Nat)} {d l:List Nat} {n:Nat}
def q9p:(chL dbl x d n).length=n:=by unfold chL; simp
def qfo (h:∀ p ∈ chL dbl x d n,q0J p.1):qqU (chL dbl x d n):=fun p hp=>by
 have h1:=h p hp;obtain ⟨j,_,rfl⟩:=List.mem_map.1 hp;unfold chV at h1 ⊢;dsimp only at h1 ⊢;refine ⟨⟨q4l,h1⟩,?_⟩;generalize hv:fR 0 (chT (x.getD j (0,0)) (d.getD j 0)-ofZ (fR 0 (chT (x.getD j (0,0)) (d.getD j 0))))=v;have h2:v < 18446744073709551616∧q0J v:=by rw [← hv]; exact ⟨q4l,qsj h1⟩
 cases dbl
 ·rw [if_neg (by decide)]; exact ⟨by omega,by unfold q0J; omega⟩
 ·rw [if_pos rfl]; exact h2
def qmz (h:q08 l):qqU (l.map fun v=>(v,0)):=fun p hp=>by
 obtain ⟨v,hv,rfl⟩:=List.mem_map.1 hp;exact ⟨h v hv,by simp,by simp [q0J]⟩
def rwQ (n:Nat) (g:Nat→Nat × Nat) (m:Nat):List (Nat × Nat):=(List.range n).map fun j=>if j < m then g j else (0,0)
def qmg {g:Nat→Nat × Nat} {m:Nat}:(rwQ n g m).length=n:=by simp [rwQ]
def rwQ_s {g:Nat→Nat × Nat} {m:Nat}:(rwQ n g m).set m (g m)=rwQ n g (m+1):=by
 unfold rwQ;refine List.ext_getElem? fun i=>?_;rw [List.getElem?_set,List.getElem?_map,List.getElem?_map,List.length_map,List.length_range]
 by_cases h:i < n
 ·rw [List.getElem?_range h,Option.map_some,Option.map_some]
  by_cases h2:m=i
  ·subst h2;rw [if_pos rfl,if_pos h,if_pos (by omega)]
  ·rw [if_neg h2]
   by_cases h3:i < m
   ·rw [if_pos h3,if_pos (by omega)]
   ·rw [if_neg h3,if_neg (by omega)]
 ·rw [List.getElem?_eq_none (by simpa using h)]
  by_cases h2:m=i
  ·rw [if_pos h2,if_neg (by omega)]; rfl
  ·rw [if_neg h2]; rfl
def rwQ_0 {g:Nat→Nat × Nat}:List.replicate n (0,0)=rwQ n g 0:=by
 unfold rwQ;refine List.ext_getElem? fun i=>?_;rw [List.getElem?_map,List.getElem?_replicate]
 by_cases h:i < n
 ·rw [List.getElem?_range h,if_pos h,Option.map_some,if_neg (by omega)]
 ·rw [List.getElem?_eq_none (by simpa using h),if_neg h]; rfl
def rwQ_n:rwQ n (fun j=>chV dbl (x.getD j (0,0)) (d.getD j 0)) n=chL dbl x d n:=by
 unfold rwQ chL;exact List.map_congr_left fun j hj=>if_pos (List.mem_range.1 hj)
def qaY {r:List Nat} (h:q08 r):q1g r r.length < 9223372036854775808∧q0J (q1g r r.length):=q9Q h _ (Nat.le_refl _)
end
section
variable {f g:Nat}
def qbD {l:List Nat} (hl:∀ x ∈ l,x < 18446744073709551616∧q05 x≠3) (hn:l.length≤1000):ACt 244 [pF l] (bv false):=by
 refine ac0 Tryz.func244 Tryz.ntmps244 [.tmp 2] ?_;refine wk ?_;refine q0A (fun i=>i≤l.length) [5,6] [] Lk Lk (fun i:Nat=>[(7,iv i)]) (fun _=>[]) (fun i=>l.length-i) 0 (Nat.zero_le _) ?_ ?_
 ·refine LeM [] rfl rfl ?_;refine Zz ?_
  rfl
 ·intro i hi
  by_cases hlt:i < l.length
  ·obtain ⟨x,hx⟩:∃ x,l[i]?=some x:=⟨_,List.getElem?_eq_getElem hlt⟩;obtain ⟨h1,h2⟩:=hl x (List.mem_of_getElem? hx);have C1:=q5C h1;have q:(((q05 x:Nat):Int) == 3)=false:=by
    simp; omega
   refine wk1 (x2 hx q) ?_;refine ⟨i+1,by omega,by omega,?_⟩;refine LeM [] rfl rfl ?_;refine Zz ?_;omega
  ·exact wk trivial
def q6w (hf:f < 18446744073709551616) (h:q05 f≠3):ACt 75 [uv f] (bv false):=by
 have:=qdu hf
 rwa [decide_eq_false h] at this
end
section
variable {l:List Nat}
end
end Go.Proofs.YtpbaikoblfcmdaaGreatDoor
namespace Go.E
open Go Go.RowKit
def ql7 {T:TypeId} {id n:Nat} {k:Kd} {h h':Hp} {l:List PV} [NL] (h1:h id=some ⟨T,k,l,false⟩) (hc:ClL l) (h2:h' id=none) (hn:l.length=n):LeV (q0g []) h h' (.ow id k 0 n) (.sl k l):=q61 (T:=T) (l:=l) h1 hc (fun i hi=>by
 have hi:some i=some id:=hi;cases hi;exact h2) (by rw [List.drop_zero]; exact List.take_of_length_le (by omega))
end Go.E
namespace Go.Sp
open Go.E Go.Proofs.YtpbaikoblfcmdaaGreatDoor
def q8X {x:Nat} (h:¬ (x / 4503599627370496 % 2048=2047∧x % 4503599627370496≠0)):q05 x≠3:=by
 unfold q05;rw [if_neg h]
 split
 ·omega
 ·split <;> omega
def qbA {mode:Int} {neg:Bool} {n:Nat} {q:Int} (hn:n < 9007199254740992):q05 (q47 mode neg n q)≠3:=by
 refine q8X ?_;unfold q47
 split
 ·unfold sb
  split <;> omega
 ·split
  ·unfold q9Y sb
   split <;> split <;> omega
  ·obtain ⟨m,hm⟩:∃ m,m=(q+1075).toNat:=⟨_,rfl⟩;have:m≤2046:=by omega
   rw [← hm];unfold sb
   split <;> omega
def qoO {mode:Int} {neg:Bool} {n:Nat} {q:Int} (hn:n≤9007199254740992):q05 (fin mode neg n q)≠3:=by
 unfold fin
 split
 ·exact qbA Oq
 ·exact qbA Oq
def qkw {mode a b:Int} (hb:b≠0):q05 (fQ mode a b)≠3:=by
 unfold fQ
 split
 ·exact q8X Oq
 ·rename_i ha;obtain ⟨u,r,_,h,_,h4,_⟩:=q6z (mode:=mode) (neg:=decide (a < 0) != decide (b < 0)) (N:=a.natAbs) (D:=b.natAbs) (K:=1074) Oq Oq Oq;rw [h];exact qoO h4
end Go.Sp
namespace Go.Proofs.YtpbaikoblfcmdaaGreatDoor
open Go Go.E Go.Sp
def unN (n j:Nat):List Nat:=(List.replicate n 0).set j 4607182418800017408
section
variable {f:Nat→Nat→Option Nat} {g:LUt} {R C n j:Nat}
def qdG:(unN n j).length=n:=by unfold unN; simp
def qmE:∀ x ∈ unN n j,x < 18446744073709551616:=fun x hx=>by
 unfold unN at hx
 rcases List.mem_or_eq_of_mem_set hx with h | h
 ·have:=(List.mem_replicate.1 h).2; omega
 ·omega
def unN_v:(List.replicate n (PV.vl (.int .u64 0))).set j (PV.vl (.int .u64 4607182418800017408))=(unN n j).map fun z:Nat=>uv z:=by
 unfold unN;rw [List.map_set,List.map_replicate]
 rfl
end
end Go.Proofs.YtpbaikoblfcmdaaGreatDoor
namespace Go.Sp
open Go Go.E Go.Proofs.YtpbaikoblfcmdaaGreatDoor
def qgP (mode:Int) (a b:Nat):Nat:=if ¬ q0J b then b else if q3W a=0∧a=b then a else if ofZ a+ofZ b=0 then (if mode=1 then 9223372036854775808 else 0) else fR mode (ofZ a+ofZ b)
def qgz (mode:Int) (a b:Nat):Nat:=qgP mode a (q54 b)
def q8Y {b:Nat} (h:¬ q0J b) (h2:q05 b≠3):q05 b=2:=by
 unfold q0J at h;unfold q05 at *
 split at h2
 ·exact absurd rfl h2
 ·rename_i h3;rw [if_neg h3]
  split
  ·rfl
  ·rename_i h4; exact absurd h4 h
def q3h {b:Nat} (h:q0J b):q05 b≠2:=by
 unfold q0J at h;unfold q05;rw [if_neg fun q=>h q.1,if_neg h]
 split <;> omega
def qeP {b:Nat} (hb:b < 18446744073709551616):q54 b < 18446744073709551616:=by unfold q54; split <;> omega
def q8P {b:Nat} (hb:b < 18446744073709551616):q05 (q54 b)=q05 b:=by
 have h1:q54 b / 4503599627370496 % 2048=b / 4503599627370496 % 2048:=by unfold q54; split <;> omega
 have h2:q54 b % 4503599627370496=b % 4503599627370496:=by unfold q54; split <;> omega
 unfold q05;rw [h1,h2]
def qh8 {b:Nat} (hb:b < 18446744073709551616):q0J (q54 b) ↔ q0J b:=by
 have h1:q54 b / 4503599627370496 % 2048=b / 4503599627370496 % 2048:=by unfold q54; split <;> omega
 unfold q0J;rw [h1]
end Go.Sp
namespace Go.Proofs.YtpbaikoblfcmdaaGreatDoor
open Go Go.E Go.Sp
section
variable {mode A:Int} {a b:Nat}
def qcP (hm:mode=0∨mode=1∨mode=2) (hA:q0T A):ACt 91 [dT A,iv mode] (uv (fR mode A:Nat)):=by
 obtain ⟨hd1,hd2,hd3⟩:=q0r hA;have C1:=q68 hA;have C2:=q31 hA;have C3:=qqa hA;refine ac0 Tryz.func91 Tryz.ntmps91 [.tmp 4] ?_
 by_cases hz:A=0
 ·have q1:(A.sign == 0)=true:=by rw [hz]; rfl
  rw [show ((fR mode A:Nat):Int)=0 by rw [show fR mode A=0 from if_pos hz]; rfl];exact wk1 q1 trivial
 ·have q1:(A.sign == 0)=false:=by
   rw [beq_eq_false_iff_ne]; intro h; exact hz (Int.sign_eq_zero_iff_zero.1 h)
  have hod:=q3O hz;have C4:=q48 (mode:=mode) (N:=(od A).natAbs) (M:=1) (neg:=decide (od A < 0)) (e:=dyE A) hm Nat.one_pos (by omega) (by rw [Nat.mod_one]; intro h; exact absurd rfl h) (by rw [Nat.div_one]; omega) (by omega) (by omega);rw [Nat.div_one,Nat.mod_one,show decide ((0:Nat)≠0)=false from rfl,rE_V hz,q1o,show rF mode (decide (A < 0)) A.natAbs (2 ^ 65536)=fR mode A from (if_neg hz).symm] at C4;rw [← q1o] at C4;exact wk1 q1 trivial
def qfW (hb:b < 18446744073709551616):ACt 276 [uv b] (bv (decide (q05 b=2))):=by
 have C1:=q5C hb
 by_cases h:q05 b=2
 ·rw [decide_eq_true h];have q:(((q05 b:Nat):Int) == 2)=true:=by rw [h]; rfl
  refine ac0 Tryz.func276 Tryz.ntmps276 [.tmp 2] ?_;exact wk1 q trivial
 ·rw [decide_eq_false h];have q:(((q05 b:Nat):Int) == 2)=false:=by simp; omega
  refine ac0 Tryz.func276 Tryz.ntmps276 [.tmp 2] ?_;exact wk1 q trivial
def qin (hb:b < 18446744073709551616):ACt 277 [uv b] (bv (decide (q3W b=0))):=by
 have C1:=q5C hb;have hk:=q3g hb
 by_cases h:q3W b=0
 ·rw [decide_eq_true h];have q:(((q05 b:Nat):Int) == 0)=true:=by rw [hk.2 h]; rfl
  refine ac0 Tryz.func277 Tryz.ntmps277 [.tmp 2] ?_;exact wk1 q trivial
 ·rw [decide_eq_false h];have q:(((q05 b:Nat):Int) == 0)=false:=by
   have:q05 b≠0:=fun e=>h (hk.1 e);simp; omega
  refine ac0 Tryz.func277 Tryz.ntmps277 [.tmp 2] ?_;exact wk1 q trivial
def qdy (hb:b < 18446744073709551616):ACt 80 [uv b] (bv (decide (q05 b=2))):=by
 have C1:=q4u hb
 by_cases h:q05 b=2
 ·rw [decide_eq_true h];have q:(((q05 b:Nat):Int) == 2)=true:=by rw [h]; rfl
  refine ac0 Tryz.func80 Tryz.ntmps80 [.tmp 2] ?_;exact wk1 q trivial
 ·rw [decide_eq_false h];have q:(((q05 b:Nat):Int) == 2)=false:=by simp; omega
  refine ac0 Tryz.func80 Tryz.ntmps80 [.tmp 2] ?_;exact wk1 q trivial
def qdq (hb:b < 18446744073709551616):ACt 81 [uv b] (bv (decide (q3W b=0))):=by
 have C1:=q4u hb;have hk:=q3g hb
 by_cases h:q3W b=0
 ·rw [decide_eq_true h];have q:(((q05 b:Nat):Int) == 0)=true:=by rw [hk.2 h]; rfl
  refine ac0 Tryz.func81 Tryz.ntmps81 [.tmp 2] ?_;exact wk1 q trivial
 ·rw [decide_eq_false h];have q:(((q05 b:Nat):Int) == 0)=false:=by
   have:q05 b≠0:=fun e=>h (hk.1 e);simp; omega
  refine ac0 Tryz.func81 Tryz.ntmps81 [.tmp 2] ?_;exact wk1 q trivial
def qiq (hf:b < 18446744073709551616) (h:q05 b≠3):ACt 275 [uv b] (uv (q54 b:Nat)):=by
 have C1:ACt 244 [.sl none [uv b]] (bv false):=qbD (l:=[b]) (fun x hx=>by simp at hx; subst hx; exact ⟨hf,h⟩) (by simp);have N1:Nz (bv false):=qcB;have h1:=qaK hf;rw [show (if b < 9223372036854775808 then b+9223372036854775808 else b-9223372036854775808)=q54 b from rfl] at h1;refine ac0 Tryz.func275 Tryz.ntmps275 [.tmp 2] ?_;exact wk1 h1 trivial
def qhW (hf:b < 18446744073709551616) (h:q05 b≠3):ACt 79 [uv b] (uv (q54 b:Nat)):=by
 have C1:=q6w hf h;have h1:=qaK hf;rw [show (if b < 9223372036854775808 then b+9223372036854775808 else b-9223372036854775808)=q54 b from rfl] at h1;refine ac0 Tryz.func79 Tryz.ntmps79 [.tmp 2] ?_;exact wk1 h1 trivial
def q9g (hm:mode=0∨mode=1∨mode=2):ACt 278 [iv mode] (uv ((if mode=1 then 9223372036854775808 else 0:Nat):Nat)):=by
 have C1:ACt 272 [uv 0,bv true] (uv 9223372036854775808):=q1X (f:=0) (neg:=true) Oq;have C2:ACt 272 [uv 0,bv false] (uv 0):=q1X (f:=0) (neg:=false) Oq
 rcases hm with rfl | rfl | rfl
 ·rw [if_neg (show ¬ (0:Int)=1 by decide)];have q:((0:Int) == 1)=false:=rfl;refine ac0 Tryz.func278 Tryz.ntmps278 [.tmp 2] ?_;refine wk1 q ?_
  rfl
 ·rw [if_pos rfl];refine ac0 Tryz.func278 Tryz.ntmps278 [.tmp 2] ?_;refine wk ?_
  rfl
 ·rw [if_neg (show ¬ (2:Int)=1 by decide)];have q:((2:Int) == 1)=false:=rfl;refine ac0 Tryz.func278 Tryz.ntmps278 [.tmp 2] ?_;refine wk1 q ?_
  rfl
def qdz (hm:mode=0∨mode=1∨mode=2):ACt 83 [iv mode] (uv ((if mode=1 then 9223372036854775808 else 0:Nat):Nat)):=by
 rcases hm with rfl | rfl | rfl
 ·rw [if_neg (show ¬ (0:Int)=1 by decide)];have q:((0:Int) == 1)=false:=rfl;refine ac0 Tryz.func83 Tryz.ntmps83 [.tmp 2] ?_;refine wk1 q ?_
  rfl
 ·rw [if_pos rfl];refine ac0 Tryz.func83 Tryz.ntmps83 [.tmp 2] ?_;refine wk ?_
  rfl
 ·rw [if_neg (show ¬ (2:Int)=1 by decide)];have q:((2:Int) == 1)=false:=rfl;refine ac0 Tryz.func83 Tryz.ntmps83 [.tmp 2] ?_;refine wk1 q ?_
  rfl
def qlZ (ha:q0J a) (hb:q0J b):q0T (ofZ a+ofZ b):=by
 have:=q24 (qcA ha) (qcA hb);unfold q0T; omega
def qfY (hm:mode=0∨mode=1∨mode=2) (ha:a < 18446744073709551616∧q0J a) (hb:b < 18446744073709551616) (hk:q05 b≠3):ACt 193 [uv a,uv b,iv mode] (uv (qgP mode a b:Nat)):=by
 have C1:ACt 244 [.sl none [uv a,uv b]] (bv false):=qbD (l:=[a,b]) (fun x hx=>by simp at hx; rcases hx with rfl | rfl; exact ⟨ha.1,q4y ha.2⟩; exact ⟨hb,hk⟩) (by simp);have N1:Nz (bv false):=qcB;have C2:=qfW ha.1;rw [decide_eq_false (q3h ha.2)] at C2;have C3:=qfW hb;have C4:=qin ha.1;unfold qgP
 by_cases hf:q0J b
 rotate_left
 ·rw [if_pos hf];rw [decide_eq_true (q8Y hf hk)] at C3;refine ac0 Tryz.func193 Tryz.ntmps193 [.tmp 6] ?_;exact wk trivial
 rw [if_neg (not_not_intro hf)];rw [decide_eq_false (q3h hf)] at C3;have C5:=q49 ha.1 (q0S ha.2);have C6:=q49 hb (q0S hf);have hd:=qlZ ha.2 hf;have C7:=q9F (q46 ha.2) (q46 hf) hd;have C8:=q31 hd;have C9:=q9g hm;have C10:=qcP hm hd;generalize hV:ofZ a+ofZ b=V at *;clear hV
 by_cases hz:q3W a=0
 ·by_cases he:a=b
  ·rw [if_pos ⟨hz,he⟩];subst he;rw [decide_eq_true hz] at C4;have q:((a:Int) == (a:Int))=true:=by simp
   refine ac0 Tryz.func193 Tryz.ntmps193 [.tmp 6] ?_;exact wk1 q trivial
  ·rw [if_neg fun q=>he q.2];rw [decide_eq_true hz] at C4;have q:((a:Int) == (b:Int))=false:=by simp; omega
   by_cases h0:V=0
   ·subst h0;rw [if_pos rfl];rw [show (0:Int).sign=0 from rfl] at C8;refine ac0 Tryz.func193 Tryz.ntmps193 [.tmp 6] ?_;exact wk1 q trivial
   ·rw [if_neg h0];have q1:(V.sign == 0)=false:=by
     rw [beq_eq_false_iff_ne]; intro h; exact h0 (Int.sign_eq_zero_iff_zero.1 h)
    refine ac0 Tryz.func193 Tryz.ntmps193 [.tmp 6] ?_;exact wk1 (x2 q q1) trivial
 ·rw [if_neg fun q=>hz q.1];rw [decide_eq_false hz] at C4
  by_cases h0:V=0
  ·subst h0;rw [if_pos rfl];rw [show (0:Int).sign=0 from rfl] at C8;refine ac0 Tryz.func193 Tryz.ntmps193 [.tmp 6] ?_;exact wk trivial
  ·rw [if_neg h0];have q1:(V.sign == 0)=false:=by
    rw [beq_eq_false_iff_ne]; intro h; exact h0 (Int.sign_eq_zero_iff_zero.1 h)
   refine ac0 Tryz.func193 Tryz.ntmps193 [.tmp 6] ?_;exact wk1 q1 trivial
def qoQ (hm:mode=0∨mode=1∨mode=2) (ha:a < 18446744073709551616∧q0J a) (hb:b < 18446744073709551616) (hk:q05 b≠3):ACt 192 [uv a,uv b,iv mode] (uv (qgz mode a b:Nat)):=by
 have C1:=qiq hb hk;have C2:=qfY hm ha (qeP hb) (by rw [q8P hb]; exact hk);unfold qgz;refine ac0 Tryz.func192 Tryz.ntmps192 [.tmp 6] ?_;exact wk trivial
def qeA (hm:mode=0∨mode=1∨mode=2) (ha:a < 18446744073709551616∧q0J a) (hb:b < 18446744073709551616) (hk:q05 b≠3):ACt 23 [uv a,uv b,iv mode] (uv (qgP mode a b:Nat)):=by
 have C1:=q6w ha.1 (q4y ha.2);have D1:=q6w hb hk;have C2:=qdy ha.1;rw [decide_eq_false (q3h ha.2)] at C2;have C3:=qdy hb;have C4:=qdq ha.1;unfold qgP
 by_cases hf:q0J b
 rotate_left
 ·rw [if_pos hf];rw [decide_eq_true (q8Y hf hk)] at C3;refine ac0 Tryz.func23 Tryz.ntmps23 [.tmp 6] ?_;exact wk trivial
 rw [if_neg (not_not_intro hf)];rw [decide_eq_false (q3h hf)] at C3;have C5:=q0u ha.1 (q0S ha.2);have C6:=q0u hb (q0S hf);have hd:=qlZ ha.2 hf;have C7:=q4X (A:=ofZ a) (B:=ofZ b) hd;have C8:=q5D (V:=ofZ a+ofZ b);have C9:=qdz hm;have C10:=q39 (V:=ofZ a+ofZ b) (mode:=mode);have N2:=q1M (V:=ofZ a);have N3:=q1M (V:=ofZ b);have N4:=q1M (V:=ofZ a+ofZ b);generalize hV:ofZ a+ofZ b=V at *;clear hV
 by_cases hz:q3W a=0
 ·by_cases he:a=b
  ·rw [if_pos ⟨hz,he⟩];subst he;rw [decide_eq_true hz] at C4;have q:((a:Int) == (a:Int))=true:=by simp
   refine ac0 Tryz.func23 Tryz.ntmps23 [.tmp 6] ?_;exact wk1 q trivial
  ·rw [if_neg fun q=>he q.2];rw [decide_eq_true hz] at C4;have q:((a:Int) == (b:Int))=false:=by simp; omega
   by_cases h0:V=0
   ·subst h0;rw [if_pos rfl];rw [show (0:Int).sign=0 from rfl] at C8;refine ac0 Tryz.func23 Tryz.ntmps23 [.tmp 6] ?_;exact wk1 q trivial
   ·rw [if_neg h0];have q1:(V.sign == 0)=false:=by
     rw [beq_eq_false_iff_ne]; intro h; exact h0 (Int.sign_eq_zero_iff_zero.1 h)
    refine ac0 Tryz.func23 Tryz.ntmps23 [.tmp 6] ?_;exact wk1 (x2 q q1) trivial
 ·rw [if_neg fun q=>hz q.1];rw [decide_eq_false hz] at C4
  by_cases h0:V=0
  ·subst h0;rw [if_pos rfl];rw [show (0:Int).sign=0 from rfl] at C8;refine ac0 Tryz.func23 Tryz.ntmps23 [.tmp 6] ?_;exact wk trivial
  ·rw [if_neg h0];have q1:(V.sign == 0)=false:=by
    rw [beq_eq_false_iff_ne]; intro h; exact h0 (Int.sign_eq_zero_iff_zero.1 h)
   refine ac0 Tryz.func23 Tryz.ntmps23 [.tmp 6] ?_;exact wk1 q1 trivial
def qmt (hm:mode=0∨mode=1∨mode=2) (ha:a < 18446744073709551616∧q0J a) (hb:b < 18446744073709551616) (hk:q05 b≠3):ACt 22 [uv a,uv b,iv mode] (uv (qgz mode a b:Nat)):=by
 have C1:=qhW hb hk;have C2:=qeA hm ha (qeP hb) (by rw [q8P hb]; exact hk);unfold qgz;refine ac0 Tryz.func22 Tryz.ntmps22 [.tmp 6] ?_;exact wk trivial
end
def mlk (k:Nat) (z:Int):Prop:=∃ m:Int,z=m*(2:Int) ^ (65536-k)
def qnU {k:Nat}:mlk k 0:=⟨0,(Int.zero_mul _).symm⟩
def qeZ {k:Nat} {a b:Int} (ha:mlk k a) (hb:mlk k b):mlk k (a+b):=by
 obtain ⟨x,rfl⟩:=ha;obtain ⟨y,rfl⟩:=hb;exact ⟨x+y,(Int.add_mul _ _ _).symm⟩
def qeX {k:Nat} {a:Int} (ha:mlk k a):mlk k (-a):=by
 obtain ⟨x,rfl⟩:=ha;exact ⟨-x,(Int.neg_mul _ _).symm⟩
def q92 {k:Nat} {a b:Int} (ha:mlk k a) (hb:mlk k b):mlk k (a-b):=by
 rw [Int.sub_eq_add_neg];exact qeZ ha (qeX hb)
def qe0 {k:Nat} {a:Int} (ha:mlk k a):mlk k (a.natAbs:Int):=by
 by_cases h:0≤a
 ·rw [show (a.natAbs:Int)=a by omega]; exact ha
 ·rw [show (a.natAbs:Int) = -a by omega]; exact qeX ha
def q7G {j k:Nat} {a:Int} (h:j≤k) (hk:k≤65536) (ha:mlk j a):mlk k a:=by
 obtain ⟨x,rfl⟩:=ha;exact ⟨x*(2:Int) ^ (k-j),by rw [Int.mul_assoc,← Int.pow_add,show k-j+(65536-k)=65536-j by omega]⟩
def q8S {k:Nat} {g:Nat→Int}:∀ n,(∀ i,i < n→mlk k (g i))→mlk k (sg g n)
 | 0,_=>qnU
 | n+1,h=>qeZ (q8S n fun i hi=>h i Oq) (h n Oq)
def qaj {v:Nat} (h:q0J v):mlk 1074 (ofZ v):=qh4 h
def qeW {j k K:Nat} {a b c:Int} (hK:K=65536) (ha:mlk j a) (hb:mlk k b) (hjk:j+k≤65536) (h:a*b=c*(2:Int) ^ K):mlk (j+k) c:=by
 obtain ⟨x,hx⟩:=ha;obtain ⟨y,hy⟩:=hb;refine ⟨x*y,Int.eq_of_mul_eq_mul_right (Int.ne_of_gt (q0N K)) ?_⟩;rw [← h,hx,hy];have:∀ p q:Int,x*p*(y*q)=x*y*(p*q):=fun p q=>by rw [Int.mul_assoc,Int.mul_assoc,Int.mul_left_comm p y q]
 rw [this,Int.mul_assoc (x*y),← Int.pow_add,← Int.pow_add,show 65536-j+(65536-k)=65536-(j+k)+K by omega]
def qeY {x y:Nat} (hx:q0J x) (hy:q0J y):mlk 2148 (q0p x y):=by
 obtain ⟨K,hK⟩:∃ K:Nat,K=65536:=⟨_,rfl⟩;have e:=q7I (q0b hx hy).1;rw [← hK] at e;have h:=qeW hK (qaj hx) (qaj hy) Oq e;rw [show 1074+1074=2148 from rfl] at h;exact h
def qeV {K:Nat} (hK:K=65536):mlk 0 q2i:=⟨1,by rw [qeK,Int.one_mul,Nat.sub_zero]⟩
def qnB {j k p q:Nat} {a b:Int} (ha:mlk j a) (hb:mlk k b) (hjk:j+k≤65536) (h1:bl a.natAbs≤p) (h2:bl b.natAbs≤q) (hpq:p+q≤196608):mkV (a*b) (-131072)=some (prZ a b)∧bl (prZ a b).natAbs≤p+q-65536∧mlk (j+k) (prZ a b)∧a*b=prZ a b*(2:Int) ^ 65536:=by
 obtain ⟨x,hx⟩:=id ha;obtain ⟨y,hy⟩:=id hb;obtain ⟨c,hc⟩:∃ c:Int,c=x*y*(2:Int) ^ (65536-(j+k)):=⟨_,rfl⟩;have e:a*b=c*(2:Int) ^ 65536:=by
  rw [hx,hy,hc];have:∀ p q:Int,x*p*(y*q)=x*y*(p*q):=fun p q=>by rw [Int.mul_assoc,Int.mul_assoc,Int.mul_left_comm p y q]
  rw [this,Int.mul_assoc (x*y),← Int.pow_add,← Int.pow_add,show 65536-j+(65536-k)=65536-(j+k)+65536 by omega]
 have hbc:bl c.natAbs≤p+q-65536:=by
  refine qlS e ?_;have:=q1w a.natAbs b.natAbs;rw [← Int.natAbs_mul] at this;omega
 have hk:mkV (a*b) (-131072)=some c:=by rw [e]; exact q4x (by unfold q0T; omega)
 unfold prZ;rw [hk];exact ⟨rfl,hbc,qeW rfl ha hb hjk e,e⟩
def vrX (F:Nat→Nat→Option Nat) (n:Nat) (b z:List Nat) (i:Nat):Int:=ofZ (b.getD i 0)-sg (fun j=>q0p ((F j i).getD 0) (z.getD j 0)) n
def vsX (n:Nat) (v:List Nat) (r:Nat→Int) (i:Nat):Int:=sg (fun k=>prZ (ofZ (v.getD (k*n+i) 0)) (r k)) n
def vdX (n:Nat) (v:List Nat) (r:Nat→Int) (i:Nat):Int:=((vsX n v r i).natAbs:Int)
def vnX (d g u m:Int):Int:=prZ d g+prZ u m
def vIv (z:Nat) (num g:Int):Nat × Nat:=(qgz 1 z (fQ 2 num g),qgP 2 z (fQ 2 num g))
section
variable {F:Nat→Nat→Option Nat} {n:Nat} {b z v:List Nat}
def vfD (F:Nat→Nat→Option Nat) (n:Nat) (v b z:List Nat):List Int:=(List.range n).map (vdX n v (vrX F n b z))
def vfG (F:Nat→Nat→Option Nat) (n:Nat) (v:List Nat):Int:=q2i-grZ (btL n v F)
def vfN (F:Nat→Nat→Option Nat) (n:Nat) (v b z:List Nat) (i:Nat):Int:=vnX (vdX n v (vrX F n b z) i) (vfG F n v) (btZ n v F i) (grZ (vfD F n v b z))
def vfL (F:Nat→Nat→Option Nat) (n:Nat) (v b z:List Nat) (i:Nat):List (Nat × Nat):=(List.range i).map fun i=>vIv (z.getD i 0) (vfN F n v b z i) (vfG F n v)
def vfO (F:Nat→Nat→Option Nat) (n:Nat) (v b z:List Nat):List (Nat × Nat) × Bool:=if q2i≤grZ (btL n v F) then ([],false) else (vfL F n v b z n,true)
def qsv {k:Nat} {l:List Int} (h:∀ x ∈ l,mlk k x):mlk k (grZ l):=qsu qnU h
def btE_k (h:TOk F n n) (hv:q08 v) {i j:Nat} (hj:j < n):mlk 2148 (btE n v F i j):=by
 unfold btE;refine q92 ?_ (q8S n fun k hk=>qeY (q1F hv).2 (h.finD hj hk))
 split
 ·exact q7G Oq Oq (qeV rfl)
 ·exact qnU
def qu5 (h:TOk F n n) (hv:q08 v) {i:Nat}:mlk 2148 (btZ n v F i):=q8S n fun j hj=>qe0 (btE_k h hv hj)
def btL_k (h:TOk F n n) (hv:q08 v):∀ x ∈ btL n v F,mlk 2148 x:=fun x hx=>by
 obtain ⟨i,_,rfl⟩:=List.mem_map.1 hx;exact qu5 h hv
def qdB (h:TOk F n n) (hv:q08 v):mlk 2148 (vfG F n v)∧bl (vfG F n v).natAbs≤67608:=by
 unfold vfG;refine ⟨q92 (q7G Oq Oq (qeV rfl)) (qsv (btL_k h hv)),q8k (k:=67607) ?_ (qkr (qu7 h hv))⟩;have:=q4S;omega
def q7t (h:TOk F n n) (hb:q08 b) (hz:q08 z) {i:Nat} (hi:i < n):mlk 2148 (vrX F n b z i)∧bl (vrX F n b z i).natAbs≤67596:=by
 unfold vrX;refine ⟨q92 (q7G Oq Oq (qaj (q1F hb).2)) (q8S n fun j hj=>qeY (h.finD hj hi) (q1F hz).2),q8k (k:=67595) ?_ ?_⟩
 ·have:=qcA (q1F hb (i:=i)).2; omega
 ·exact q8H (K:=67584) n (by have:=h.r; omega) fun j hj=>qah (h.finD hj hi) (q1F hz).2
def q7s (hv:q08 v) {r:Nat→Int} {i k:Nat} (hr:mlk 2148 (r k)∧bl (r k).natAbs≤67596):mkV (ofZ (v.getD (k*n+i) 0)*r k) (-131072)=some (prZ (ofZ (v.getD (k*n+i) 0)) (r k))∧bl (prZ (ofZ (v.getD (k*n+i) 0)) (r k)).natAbs≤68620∧mlk 3222 (prZ (ofZ (v.getD (k*n+i) 0)) (r k)):=by
 obtain ⟨h1,h2,h3,_⟩:=qnB (p:=66560) (q:=67596) (qaj (q1F hv (i:=k*n+i)).2) hr.1 Oq (qcA (q1F hv).2) hr.2 Oq;exact ⟨h1,by omega,h3⟩
def q7u (hn:n≤1000) (hv:q08 v) {r:Nat→Int} (hr:∀ k,k < n→mlk 2148 (r k)∧bl (r k).natAbs≤67596) {i:Nat}:mlk 3222 (vdX n v r i)∧bl (vdX n v r i).natAbs≤68631∧bl (vsX n v r i).natAbs≤68631:=by
 have h1:mlk 3222 (vsX n v r i):=q8S n fun k hk=>(q7s hv (hr k hk)).2.2;have h2:bl (vsX n v r i).natAbs≤68631:=q8H (K:=68620) n hn fun k hk=>(q7s hv (hr k hk)).2.1;unfold vdX;exact ⟨qe0 h1,by rw [Int.natAbs_natCast]; exact h2,h2⟩
def qjl (h:TOk F n n) (hv:q08 v) (hb:q08 b) (hz:q08 z):∀ x ∈ vfD F n v b z,mlk 3222 x∧bl x.natAbs≤68631:=fun x hx=>by
 obtain ⟨i,_,rfl⟩:=List.mem_map.1 hx;have:=q7u (v:=v) (r:=vrX F n b z) (i:=i) (by have:=h.r; omega) hv fun k hk=>q7t h hb hz hk;exact ⟨this.1,this.2.1⟩
def qjk (h:TOk F n n) (hv:q08 v) (hb:q08 b) (hz:q08 z) {i:Nat} (hi:i < n) :
  mkV (vdX n v (vrX F n b z) i*vfG F n v) (-131072)=some (prZ (vdX n v (vrX F n b z) i) (vfG F n v))∧mkV (btZ n v F i*grZ (vfD F n v b z)) (-131072)=some (prZ (btZ n v F i) (grZ (vfD F n v b z)))∧bl (vfN F n v b z i).natAbs≤70706∧q0T (grZ (vfD F n v b z)):=by
 have d:=q7u (v:=v) (r:=vrX F n b z) (i:=i) (by have:=h.r; omega) hv fun k hk=>q7t h hb hz hk;have g:=qdB h hv;have m1:=qsv fun x hx=>(qjl h hv hb hz x hx).1;have m2:=qkr fun x hx=>(qjl h hv hb hz x hx).2;have u1:=qu5 h hv (i:=i);have u2:=qbQ h hv (i:=i);obtain ⟨a1,a2,_⟩:=qnB d.1 g.1 Oq d.2.1 g.2 Oq;obtain ⟨b1,b2,_⟩:=qnB u1 m1 Oq u2 m2 Oq;refine ⟨a1,b1,?_,by unfold q0T; omega⟩;unfold vfN vnX;have:=q24 (a:=prZ (vdX n v (vrX F n b z) i) (vfG F n v)) (b:=prZ (btZ n v F i) (grZ (vfD F n v b z))) (k:=70705) Oq Oq;omega
end
end Go.Proofs.YtpbaikoblfcmdaaGreatDoor
namespace Go.E
open Go Go.RowKit
section
variable {J:Nat→Prop} {h:Hp} {a n:Nat} {T:TypeId} {xs:List PV} {v1 v2 v3:Value}
def qmH {i j k:Nat} (ti:(if i=5000 then some a else none)=some k) (tj:(if j=5000 then some a else none)=some k):i=j:=by
 split at ti
 ·split at tj
  ·rename_i e1 e2; rw [e1,e2]
  ·cases tj
 ·cases ti
def b5 [NL] {f:Nat→PV} {g:Nat→PV} (hJ:∀ i,¬ J i) (hb:h a=some ⟨T,none,xs,false⟩) (hc:ClL xs) (hv:∀ t,LeV (fun i=>if i=5000 then some a else none) h (q0Q h0 5000 ⟨T,none,xs,false⟩) (f t) (g t)):Le J f h g (q0Q h0 5000 ⟨T,none,xs,false⟩) :=
 q40 (fun i=>if i=5000 then some a else none) (fun i b' hb'=>by
  by_cases hi:i=5000
  ·subst hi;rw [q0I] at hb'; cases hb';unfold LeB;exact ⟨_,hb,rfl,rfl,⟨rfl,rfl⟩,q0F rfl hc⟩
  ·rw [q0B hi] at hb'; cases hb') (fun i j k b c hi hj ti tj=>qmH ti tj) hv fun i hi=>(hJ i hi).elim
def b5n [NL] {f:Nat→PV} {g:Nat→PV} (hJ:∀ i,¬ J i) (hv:∀ t,LeV (fun _=>none) h (q0Q h0 5000 ⟨T,none,[],false⟩) (f t) (g t)):Le J f h g (q0Q h0 5000 ⟨T,none,[],false⟩) :=
 q40 (fun _=>none) (fun i b' hb'=>by
  by_cases hi:i=5000
  ·subst hi;rw [q0I] at hb'; cases hb'
   rfl
  ·rw [q0B hi] at hb'; cases hb') (fun i j k b c hi hj ti tj=>by cases ti) hv fun i hi=>(hJ i hi).elim
def LePo [NL] (hJ:∀ i,¬ J i) (hb:h a=some ⟨T,none,xs,false⟩) (hc:ClL xs):Le J (fun _=>.ag [.vl v1,.vl v2,.ow a none 0 n]) h (fun _=>.ag [.vl v1,.vl v2,.ow 5000 none 0 n]) (q0Q h0 5000 ⟨T,none,xs,false⟩) :=
 b5 hJ hb hc fun _=>.ag rfl fun i x y hx hy=>by
  rcases i with _ | _ | _ | i
  ·cases hx; cases hy; exact .cl trivial
  ·cases hx; cases hy; exact .cl trivial
  ·cases hx; cases hy; exact .ow (if_pos rfl) q0I
  ·simp at hx
def LePt [NL] (hJ:∀ i,¬ J i) (hb:h a=some ⟨T,none,xs,false⟩) (hc:ClL xs):Le J (fun _=>.tu [.ag [.vl v1,.vl v2,.ow a none 0 n],.vl v3]) h (fun _=>.tu [.ag [.vl v1,.vl v2,.ow 5000 none 0 n],.vl v3]) (q0Q h0 5000 ⟨T,none,xs,false⟩) :=
 b5 hJ hb hc fun _=>.tu rfl fun i x y hx hy=>by
  rcases i with _ | _ | i
  ·cases hx; cases hy;exact .ag rfl fun i x y hx hy=>by
    rcases i with _ | _ | _ | i
    ·cases hx; cases hy; exact .cl trivial
    ·cases hx; cases hy; exact .cl trivial
    ·cases hx; cases hy; exact .ow (if_pos rfl) q0I
    ·simp at hx
  ·cases hx; cases hy; exact .cl trivial
  ·simp at hx
def LePn [NL] (hJ:∀ i,¬ J i):Le J (fun _=>.tu [.ag [.vl v1,.vl v2,.vl (.slice none 0 0)],.vl v3]) h (fun _=>.tu [.ag [.vl v1,.vl v2,.ow 5000 none 0 0],.vl v3]) (q0Q h0 5000 ⟨T,none,[],false⟩) :=
 b5n hJ fun _=>.tu rfl fun i x y hx hy=>by
  rcases i with _ | _ | i
  ·cases hx; cases hy;exact .ag rfl fun i x y hx hy=>by
    rcases i with _ | _ | _ | i
    ·cases hx; cases hy; exact .cl trivial
    ·cases hx; cases hy; exact .cl trivial
    ·cases hx; cases hy; exact .nilow rfl q0I rfl
    ·simp at hx
  ·cases hx; cases hy; exact .cl trivial
  ·simp at hx
end
end Go.E
namespace Go.Proofs.YtpbaikoblfcmdaaGreatDoor
open Go Go.E Go.Sp
def qdE (n:Nat):q26 (q7w n) n:=by
 refine ⟨by rw [q6e],fun x hx=>?_,?_⟩
 ·unfold q7w at hx;obtain ⟨k,hk,rfl⟩:=List.mem_map.1 hx;have:=List.mem_range.1 hk;omega
 ·unfold q7w;unfold List.Nodup;rw [List.pairwise_map];exact List.nodup_range.imp fun h q=>h (Int.ofNat_inj.1 q)
section
variable {raw:List Nat} {r c:Nat} {st:Int} {g:LUt}
def q8N (hr:raw.length≤9223372036854775807) (h1:r≤64) (h2:c≤64) (h3 : -9223372036854775808≤st) (h4:st≤9223372036854775807) :
  qcj 13 [pF raw,iv r,iv c,iv st] h0 (.ag [iv r,iv c,.ow 5000 none 0 (r*c)]) (q0Q h0 5000 ⟨33,none,(q4r raw 500 (q00 st 4) (r*c)).map fun z:Nat=>uv z,false⟩):=by
 have hJ:∀ i,¬ (h0 i≠none):=fun i h=>h rfl;have hm:r*c≤64*64:=Nat.mul_le_mul h1 h2;have w1:IntKind.i64.wrap ((r:Int)*(c:Int))=((r*c:Nat):Int):=by rw [← Int.natCast_mul,i64_in (by omega) (by omega)]
 generalize r*c=m at *;refine qgQ qu1 Tryz.func13 rfl Tryz.ntmps13 (by kernel_rfl) ?_ ?_ ?_ ?_
 ·intro i b hb; cases hb
 ·intro i b hb
  by_cases hi:i=5000
  ·subst hi; exact ⟨by omega,by omega⟩
  ·rw [q0B hi] at hb; cases hb
 ·exact IdL.of fun x hx=>by
   simp at hx
   rcases hx with rfl | rfl | rfl | rfl <;> unfold IdP <;> trivial
 have hW:WfH h0:=⟨fun i b hb=>by cases hb⟩;refine wk ?_;refine q0U (fun i=>i≤m) [0,1,2,3,8,9] [8] Lk Lk (fun i:Nat=>[(10,iv i)]) (fun i=>[(9,⟨31,some 3,[.ag [iv r,iv c,.ow 1001 none 0 i]],false⟩),(1001,⟨33,none,(q4r raw 500 (q00 st 4) i).map fun z:Nat=>uv z,false⟩)]) (fun _=>h0) (fun i=>m-i) 0 (Nat.zero_le _) ?_ ?_
 ·refine LeW [(1001,none)] rfl rfl ?_ ?_ (by simp [q0x,q0g,win]) ?_
  ·exact Ow
  ·exact hW
  ·try refine Zz ?_
   first | done | rfl | exact ⟨rfl,rfl⟩
 ·intro i hi;have l1:=q2S (raw:=raw) (k:=500) (st:=q00 st 4) (n:=i);have l2:=qjm (raw:=raw) (k:=500) (st:=q00 st 4) (n:=i)
  by_cases hlt:i < m
  ·have q:(i:Int) < m:=by omega
   have w2:IntKind.i64.wrap (500+(i:Int))=500+(i:Int):=i64_in Oq Oq;have C1:=q6b (raw:=raw) (k:=500+(i:Int)) hr Oq Oq;have C2:=qeN (x:=q5L raw (500+(i:Int))) (st:=st) (q3H _ _) h3 h4;generalize q4r raw 500 (q00 st 4) i=V at *;generalize q2Q (q00 st 4) (q5L raw (500+(i:Int)))=z at *;generalize q5L raw (500+(i:Int))=w at *;have N1:Nz (uv (w:Nat)):=qcB;have N2:Nz (uv (z:Nat)):=qcB;refine wk1 (x4 w1 w2 q l1) ?_;refine ⟨i+1,by omega,by omega,?_⟩;rw [l2];refine LeW [(1001,some 30)] rfl rfl ?_ ?_ (by simp [q0x,q0g,win]) ?_
   ·exact Ow
   ·exact hW
   ·try refine Zz ?_
    first | done | omega | exact ⟨by omega,q0F (by rw [List.map_append]; rfl) (by rw [← List.map_append]; exact clU)⟩
  ·obtain rfl:i=m:=by omega
   have q:¬ (i:Int) < i:=by omega
   refine wk1 (x2 w1 q) ?_;refine (rtM (rs:=[.cell 8 31]) rfl rfl Lq ?_ (.inl rfl));refine LePo hJ ?_ clU
   try simp -implicitDefEqProofs (disch:=omega) only [go_sem,Nat.reduceEqDiff,Nat.reduceAdd,↓reduceIte]
end
noncomputable def ivL (g:LUt) (n:Nat):Nat→Nat→List Nat→List Nat × Int
 | 0,_,acc=>(acc,0)
 | k+1,j,acc=>if (lgE g (unN n j)).2≠0 then ([],(lgE g (unN n j)).2) else ivL g n k (j+1) (acc ++ (lgE g (unN n j)).1)
noncomputable def ivA (g:LUt):Nat × List Nat × Int:=if q5H g≠0 then (0,[],q5H g) else
 (if (ivL g g.rows.length g.rows.length 0 []).2=0 then g.rows.length else 0,(ivL g g.rows.length g.rows.length 0 []).1,(ivL g g.rows.length g.rows.length 0 []).2)
section
variable {g:LUt} {n:Nat}
def qkl (hb:LUb g) (hn:n=g.rows.length):∀ k j acc,k+j=n→acc.length=j*n→q08 acc→((ivL g n k j acc).2=0→(ivL g n k j acc).1.length=n*n)∧q08 (ivL g n k j acc).1∧((ivL g n k j acc).2≠0→(ivL g n k j acc).1=[])
 | 0,j,acc,h1,h2,h3=>by
  obtain rfl:j=n:=by omega
  exact ⟨fun _=>h2,h3,fun h=>absurd rfl h⟩
 | k+1,j,acc,h1,h2,h3=>by
  rw [ivL]
  by_cases h:(lgE g (unN n j)).2=0
  ·rw [if_neg (not_not_intro h)];obtain ⟨_,_,_,k1,k2⟩:=q6R hb qmE h;refine qkl hb hn k (j+1) _ (by omega) (by rw [List.length_append,h2,k1,← hn,Nat.succ_mul]) fun x hx=>?_
   rcases List.mem_append.1 hx with hx | hx
   ·exact h3 x hx
   ·exact k2 x hx
  ·rw [if_pos h];exact ⟨fun q=>absurd q h,fun x hx=>(by cases hx),fun _=>rfl⟩
def qsr (hb:LUb g):((ivA g).2.2=0→(ivA g).1=g.rows.length∧(ivA g).2.1.length=g.rows.length*g.rows.length)∧q08 (ivA g).2.1∧((ivA g).2.2≠0→(ivA g).2.1=[]∧(ivA g).1=0):=by
 unfold ivA
 by_cases h:q5H g=0
 ·rw [if_neg (not_not_intro h)];obtain ⟨h1,h2,h3⟩:=qkl hb rfl g.rows.length 0 [] (by omega) (by simp) (fun x hx=>by cases hx);dsimp only;exact ⟨fun q=>⟨if_pos q,h1 q⟩,h2,fun q=>⟨h3 q,if_neg q⟩⟩
 ·rw [if_pos h];exact ⟨fun q=>absurd q h,fun x hx=>(by cases hx),fun _=>⟨rfl,rfl⟩⟩
def qgd (hb:LUb g) (hn:g.rows.length≤20):qcj 133 [pLU g] h0 (.tu [.ag [iv (ivA g).1,iv (ivA g).1,.ow 5000 none 0 (ivA g).2.1.length],iv (ivA g).2.2]) (q0Q h0 5000 ⟨33,none,(ivA g).2.1.map fun z:Nat=>uv z,false⟩):=by
 have hJ:∀ i,¬ (h0 i≠none):=fun i h=>h rfl;have hJe:(fun i=>(h0:Hp) i≠none)=fun _=>False:=funext fun i=>eq_false (hJ i);have C2:=q9B hb;obtain ⟨res,hres⟩:∃ res,res=ivA g:=⟨_,rfl⟩;rw [← hres];unfold ivA at hres;have C3:=fun (n j:Nat) (hn:n≤1000000)=>q65 (f:=g) (l:=unN n j) hb (by omega) qmE (by rw [qdG]; omega);have hE:=fun (n j:Nat) (q:(lgE g (unN n j)).2=0)=>q6R hb qmE q;have hst:∀ n k j acc,ivL g n (k+1) j acc=if (lgE g (unN n j)).2≠0 then ([],(lgE g (unN n j)).2) else ivL g n k (j+1) (acc ++ (lgE g (unN n j)).1):=fun _ _ _ _=>rfl
 have hs0:∀ n j acc,ivL g n 0 j acc=(acc,0):=fun _ _ _=>rfl;unfold pLU at C2 C3 ⊢;generalize q5H g=e at *;refine qgQ qlM Tryz.func133 rfl Tryz.ntmps133 (by kernel_rfl) ?_ ?_ ?_ ?_
 ·intro i b hb; cases hb
 ·intro i b hb
  by_cases hi:i=5000
  ·subst hi; exact ⟨by omega,by omega⟩
  ·rw [q0B hi] at hb; cases hb
 ·exact IdL.of fun x hx=>by
   simp at hx;subst hx;unfold IdP;exact IdL.of fun x hx=>by
    simp at hx
    rcases hx with rfl | rfl | rfl | rfl | rfl | rfl | rfl | rfl <;> unfold IdP <;> trivial
 have hW:WfH h0:=⟨fun i b hb=>by cases hb⟩;rw [hJe]
 by_cases h1:e=0
 rotate_left
 ·rw [if_pos h1] at hres;subst hres;have q2:(e != 0)=true:=by simpa using h1
  clear C3;refine wk1 q2 ?_;refine (rtM (rs:=[.cell 2 31,.tmp 3]) rfl rfl Lq ?_ (.inl rfl));exact LePn hJ
 subst h1;rw [if_neg (show ¬ (0:Int)≠0 by decide)] at hres;obtain ⟨n,hnn⟩:∃ n,n=g.rows.length:=⟨_,rfl⟩;rw [← hnn] at hres hn;have q0:((g.rows.length:Nat):Int)=n:=by omega
 replace C3:=fun j=>C3 n j Oq;replace hE:=fun j=>hE n j;replace hst:=hst n;replace hs0:=hs0 n;refine wk1 q0 ?_;refine q0U (fun q:Nat × List Nat=>q.1≤n∧q.2.length=q.1*n∧ivL g n (n-q.1) q.1 q.2=ivL g n n 0 []) [1,2,5,6] [1,2] Lk Lk (fun q=>[(7,iv q.1)]) (fun q=>[(6,⟨31,some 3,[.ag [iv n,iv n,.ow 1001 none 0 q.2.length]],false⟩),(1001,⟨33,none,q.2.map fun z:Nat=>uv z,false⟩)]) (fun _=>h0) (fun q=>n-q.1) (0,[]) ⟨Nat.zero_le _,by simp,rfl⟩ ?_ ?_
 ·refine LeW [(1001,none)] rfl rfl ?_ ?_ (by simp [q0x,q0g,win]) ?_
  ·exact Ow
  ·exact hW
  ·try refine Zz ?_
   first | done | rfl | exact ⟨rfl,rfl⟩
 ·rintro ⟨j,acc⟩ ⟨hj,hal,hiv⟩;simp only at hj hal hiv ⊢;have hjn:j*n≤20*20:=Nat.mul_le_mul Oq hn
  by_cases hlt:j < n
  ·have q3:(j:Int) < n:=by omega
   rw [show n-j=(n-(j+1))+1 by omega,hst] at hiv;have c3:=C3 j;have hEj:=hE j;have hun:=unN_v (n:=n) (j:=j);have ul:=qdG (n:=n) (j:=j);generalize unN n j=U at *;generalize (lgE g U).1=l at *;generalize (lgE g U).2=e at *;clear C3 hE hst hs0;refine wk1 (x3 q3 hun ul) ?_;refine q1L (LeW [] rfl rfl (hw:=h0) (xs:=[(1,.pt 1 0 0),(2,.pt 2 0 0),(5,iv n),(6,.pt 6 0 0),(7,iv j),(8,pF U)]) (kv:=[]) (bs:=[(1,⟨99,some 8,[.ag [pI g.rows,pI g.cols,pI g.ls,pI g.li,pF g.lv,pI g.us,pI g.ui,pF g.uv]],false⟩),(2,⟨31,some 3,[.ag [iv 0,iv 0,q01]],false⟩),(6,⟨31,some 3,[.ag [iv n,iv n,.ow 1001 none 0 acc.length]],false⟩),(1001,⟨33,none,acc.map fun z:Nat=>uv z,false⟩)]) (kb:=[]) ?_ hW (by simp [q0x,q0g,win]) ?_) ?_
   ·exact Ow
   ·try refine Zz ?_
    refine ql7 (T:=33) (l:=U.map fun z:Nat=>uv z) ?_ clU ?_ (by rw [List.length_map,ul])
    ·try simp -implicitDefEqProofs (disch:=omega) only [go_sem,Nat.reduceEqDiff,Nat.reduceAdd,↓reduceIte]
    ·try simp -implicitDefEqProofs (disch:=omega) only [go_sem,Nat.reduceEqDiff,Nat.reduceAdd,↓reduceIte]
   by_cases h4:e=0
   rotate_left
   ·have q4:(e != 0)=true:=by simpa using h4
    rw [if_pos h4] at hiv;rw [← hiv] at hres;dsimp only at hres;rw [if_neg h4] at hres;subst hres;refine wk1 q4 ?_;refine (rtM (rs:=[.cell 2 31,.tmp 3]) rfl rfl Lq ?_ (.inl rfl));exact LePn hJ
   obtain ⟨_,_,_,k1,k2⟩:=hEj h4;subst h4;rw [if_neg (show ¬ (0:Int)≠0 by decide)] at hiv;refine wk ?_;refine ⟨(j+1,acc ++ l),⟨by simp only; omega,by simp only; rw [List.length_append,hal,k1,← hnn,Nat.succ_mul],hiv⟩,by simp only; omega,?_⟩;simp only;refine LeW [(1001,some 49)] rfl rfl ?_ ?_ (by simp [q0x,q0g,win]) ?_
   ·exact Ow
   ·exact hW
   ·try refine Zz ?_
    exact ⟨by omega,q0F (by rw [List.map_append]) clU⟩
  ·obtain rfl:j=n:=by omega
   have q3:¬ (j:Int) < j:=by omega
   rw [Nat.sub_self,hs0] at hiv;rw [← hiv,if_pos rfl] at hres;subst hres;refine wk1 q3 ?_;refine (rtM (rs:=[.cell 2 31,.tmp 3]) rfl rfl Lq ?_ (.inl rfl));refine LePt hJ ?_ clU
   try simp -implicitDefEqProofs (disch:=omega) only [go_sem,Nat.reduceEqDiff,Nat.reduceAdd,↓reduceIte]
end
section
variable {R C:Nat} {F:Nat→Nat→Option Nat} {f:LUt}
end
abbrev rfV (q:List (Nat × Nat) × List Nat × Int):PV:=.tu [pP q.1,pF q.2.1,iv q.2.2]
section
variable {R C:Nat} {F:Nat→Nat→Option Nat} {f:LUt} {b:List Nat} {dbl:Bool} {steps:Int}
def q8r {T id n:Nat} {k:Kd} {h h':Hp} {l:List PV} (h1:h id=some ⟨T,k,l,false⟩) (hc:ClL l) (h2:h' id=none) (hn:l.length=n):LeV (q0g []) h h' (.ow id k 0 n) (.sl k l):=q61 (T:=T) (l:=l) h1 hc (fun i hi=>by
 have hi:some i=some id:=hi;cases hi;exact h2) (by rw [List.drop_zero]; exact List.take_of_length_le (by omega))
end
section
variable {F:Nat→Nat→Option Nat} {R:Nat}
end
def qdC {raw:List Nat} {k st:Int} {n:Nat} (hr:raw.length≤9223372036854775807) (hn:n≤1000000) (h1 : -1000000≤k) (h2:k≤1000000) (h3 : -9223372036854775808≤st) (h4:st≤9223372036854775807) :
  ACt 48 [pF raw,iv k,iv n,iv st] (pF (q4r raw k (q00 st 4) n)):=by
 have hl:=q2S (raw:=raw) (k:=k) (st:=q00 st 4) (n:=n);refine qg6 (ids:=[5000]) (qbi hr hn h1 h2 h3 h4) ?_;generalize q4r raw k (q00 st 4) n=xs at *;subst hl;have h1:q2z (q0Q h0 5000 ⟨33,none,xs.map fun z:Nat=>uv z,false⟩) (.ow 5000 none 0 xs.length)=some (pF xs,[5000]):=by
  unfold q2z;dsimp only;rw [q0I,Option.bind_some,if_pos ⟨rfl,rfl,fun x hx=>clU x hx⟩,List.drop_zero,List.take_of_length_le (by rw [List.length_map]; exact Nat.le_refl _)]
 unfold q2R q2R clo;simp only [h1]
 rfl
noncomputable def ckT (raw:List Nat) (N:Nat) (st:Int) (rg:Bool):Nat→Nat→Option Nat:=if rg then rgF (gF raw N (q00 (q00 st 3:Nat) 4)) N else gF raw N (q00 st 4)
section
variable {raw p:List Nat} {s i N:Nat} {st sp n:Int} {rg wild:Bool}
def quO (hN:N≤100):TOk (ckT raw N st rg) N N:=by
 unfold ckT;cases rg
 ·rw [if_neg (by decide)];exact qiG Oq Oq (by have:=Nat.mul_le_mul hN hN; omega)
 ·rw [if_pos rfl];exact qrz hN (by unfold q00; omega)
end
def qh5 {f m e:Nat} (h1:f / 4503599627370496 % 2048=e) (h2:e≠0) (h3:e≠2047) (h4:f < 9223372036854775808) (h5:4503599627370496+f % 4503599627370496=m):ofZ f=(m:Int)*(2:Int) ^ (64461+e):=by
 refine q0e ?_;unfold ofF;rw [h1,if_neg h3,if_neg h2,decide_eq_false (by omega),h5]
 rfl
def fR_u {z K s:Nat} (hK:K=65536) (hs:s≤K) (hz:0 < z):fR 0 ((z:Int)*(2:Int) ^ (K-s))=rF 0 false z (2 ^ s):=by
 have hp:=q0N (K-s);have hpos:0 < (z:Int)*(2:Int) ^ (K-s):=Int.mul_pos Oq hp;unfold fR;rw [if_neg (by omega),decide_eq_false (by omega),q0M,Int.natAbs_natCast,← hK,show (2:Nat) ^ K=2 ^ s*2 ^ (K-s) by rw [← Nat.pow_add]; congr 1; omega];exact q3b hz (q0H _) (q0H _)
section
variable {K:Nat}
end
def qnC {m:Int} {k c:Nat} (h:c≤k):(2:Int) ^ c ∣ m*(2:Int) ^ k:=by
 obtain ⟨e,rfl⟩:∃ e,k=c+e:=⟨k-c,by omega⟩;rw [Int.pow_add,Int.mul_left_comm];exact Int.dvd_mul_right _ _
def qnP {x y K:Nat} (hK:K=65536) (hx:q0J x) (hy:q0J y):q0p x y*(2:Int) ^ K=ofZ x*ofZ y∧∀ c,c≤60000→(2:Int) ^ c ∣ q0p x y:=by
 obtain ⟨m,k,h,h1,h2,h3⟩:=q2B hx;obtain ⟨m',k',h',h1',h2',h3'⟩:=q2B hy;have e:ofZ x*ofZ y=m*m'*(2:Int) ^ (k+k'):=by
  rw [q0e h,q0e h',Int.pow_add];simp only [Int.mul_assoc,Int.mul_left_comm,Int.mul_comm]
 have hb:bl (m*m').natAbs≤106:=by
  rw [Int.natAbs_mul];exact Nat.le_trans (q1w _ _) Oq
 have hm:=q6O (m:=m*m') (E := -131072+((k+k':Nat):Int)) Oq Oq;obtain ⟨t,ht⟩:∃ t,t=(-131072+((k+k':Nat):Int)+65536).toNat:=⟨_,rfl⟩;rw [← ht] at hm;have hv:q0p x y=m*m'*(2:Int) ^ t:=by
  unfold q0p;rw [e,q1p,hm]; rfl
 refine ⟨?_,fun c hc=>?_⟩
 ·rw [hv,e,Int.mul_assoc,← Int.pow_add,show t+K=k+k' by omega]
 ·rw [hv]; exact qnC Oq
end Go.Proofs.YtpbaikoblfcmdaaGreatDoor
namespace Go.E
open Go Go.RowKit
section
variable {P:Program} {Tb:World→Prop}
variable {d:Option Nat} {ty t:TypeId} {pos:String} {af:Array Edge} {g:Option (Nat × Bool)} {s:Nat→PV} {h:Hp} {K:PV→Hp→FP→Prop} {ops r:List Oper} {KL:(Nat→PV)→Hp→List FP→Prop} {acc:List FP} {dd:Nat}
def qvG [NL] {a b c f}:ao P Tb (some dd) (.buildSlice t 4 #[(0,a),(1,b),(2,c),(3,f)]) s h K=nnK (h dd) dd (@oK _ (elK P t) ⟨fun e=>@cK (4*ksz e.2.1≤16777216) ⟨vK (pe s a) fun x=>vK (pe s b) fun y=>vK (pe s c) fun z=>vK (pe s f) fun u=>q1f e.2.1 x (q1f e.2.1 y (q1f e.2.1 z (q1f e.2.1 u (K (.ow dd e.2.1 0 4) (q0Q h dd ⟨e.1,e.2.1,[x,y,z,u],false⟩) ([],[dd])))))⟩⟩):=by
 have:=qgJ (P:=P) (Tb:=Tb) (s:=s) (h:=h) (K:=K) (t:=t) (dd:=dd) (len:=4) (ps:=[(0,a),(1,b),(2,c),(3,f)]) rfl;simpa [oK,cK,q86,q85,vK] using this
attribute [go_sem ↓] qvG
end
end Go.E
namespace Go.Proofs.YtpbaikoblfcmdaaGreatDoor
open Go Go.E Go.Sp
def nzL {w:World} {D B:Nat→Prop} (hB:∀ g,B g→∃ cs T,Blk w g T cs∧∀ u ∈ cs.toList,q4j u=true):∀ (l:List PV) (vs:List Value),(∀ x ∈ l,Nz x)→RdL w D l (fun _=>none) h0 vs→RdL w (fun k=>D k∧¬ B k) l (fun _=>none) h0 vs
 | [],vs,_,h=>by unfold RdL at h ⊢; exact h
 | x :: l,vs,hl,h=>by
  unfold RdL at h ⊢;obtain ⟨a,b,rfl,h1,h2⟩:=h;exact ⟨a,b,rfl,hl x List.mem_cons_self w D B a hB h1,nzL hB l b (fun y hy=>hl y (List.mem_cons_of_mem _ hy)) h2⟩
def nz_tu {l:List PV} (hl:∀ x ∈ l,Nz x):Nz (.tu l):=fun w D B v hB h=>by
 unfold Rd at h ⊢;obtain ⟨vs,rfl,h1⟩:=h;exact ⟨vs,rfl,nzL hB l vs hl h1⟩
def qtV:q9h Tryz.prog 58=true:=by kernel_rfl
def eq_iv {k m:IntKind} {a b c d:Int}:bnP Tryz.prog .eql 58 (.ag [.vl (.int k a),.vl (.int m b)]) (.ag [.vl (.int k c),.vl (.int m d)])=some (.vl (.bool (a == c && b == d))):=quh qtV
attribute [go_sem] eq_iv
def qs9 {x y K:Nat} {V:Int} (hK:K=65536) (hx:q0J x) (hy:q0J y) (h:ofZ x*ofZ y=V*(2:Int) ^ K):q0p x y=V:=Int.eq_of_mul_eq_mul_right (Int.ne_of_gt (q0N K)) ((qnP hK hx hy).1.trans h)
section
variable {K:Nat} {f1 f4 fq:Nat}
end
section
variable {V W n:Int} {x:Nat}
end
section
attribute [local instance] lNL
def qeg {l:List Nat} (ha:q0Y l) (hl:l.length≤1000000000):ACt 259 [pW l,pW l] (bv true):=by
 refine ac0 Tryz.func259 Tryz.ntmps259 [.tmp 4] ?_;refine wk ?_;refine q0A (fun k=>k≤l.length) [0,1] [] Lk Lk (fun k:Nat=>[(5,iv k)]) (fun _=>[]) (fun k=>l.length-k) 0 (Nat.zero_le _) ?_ ?_
 ·refine LeM [] rfl rfl ?_;refine Zz ?_
  rfl
 ·intro k hk
  by_cases hlt:k < l.length
  ·have q:(k:Int) < l.length:=by omega
   have e1:=q1J (l:=l) (i:=k) hlt;have w1:IntKind.i64.wrap ((k:Int)+1)=((k+1:Nat):Int):=by rw [i64_in (by omega) (by omega)]; omega
   refine wk1 (x3 q e1 w1) ?_;refine ⟨k+1,hlt,by omega,?_⟩;refine LeM [] rfl rfl ?_;exact Zy
  ·have q:¬ (k:Int) < l.length:=by omega
   exact wk1 q trivial
def qn3 {s:Bool} {l:List Nat} (ha:q0Y l) (hl:l.length≤1000000000):ACt 173 [.ag [bv s,pW l],.ag [bv s,pW l]] (bv true):=by
 have C:=qeg ha hl;have q:(s == s)=true:=by simp
 refine ac0 Tryz.func173 Tryz.ntmps173 [.tmp 4] ?_;exact wk1 q trivial
def qeh {s:Bool} {l:List Nat} {e:Int} (ha:q0Y l) (hl:l.length≤1000000000):ACt 71 [.ag [bv false,bv s,pW l,iv e],.ag [bv false,bv s,pW l,iv e]] (bv true):=by
 have C:=qn3 (s:=s) ha hl;refine ac0 Tryz.func71 Tryz.ntmps71 [.tmp 4] ?_;exact wk trivial
end
def q5Y {V:Int}:ACt 18 [pV V,pV V] (bv true):=qgR quZ fun ⟨ho,_⟩=>by
 obtain ⟨hd1,hd2,hd3⟩:=q0r ho;have cN:=q0c ho;have cD:ACt 71 [dT V,dT V] (bv true):=q2l (qeh (s:=decide (od V < 0)) (l:=lim (od V).natAbs) (e:=dyE V) (q0C _) (q2y Oq));unfold dT at cN cD ⊢;refine ac0 Tryz.func18 Tryz.ntmps18 [.tmp 4] ?_;exact wk trivial
section
variable {raw other:List Nat} {n st sp:Int} {rg wild zero:Bool}
end
def qsq {a b c d:PV}:ldU (some 4) (some 3) 0 (.ag [a,b,c,d])=some (.ag [a,b,c]):=by simp [ldU]
def flS_3 {off:Nat} {a b c:PV} {cs:List PV}:flS (some (off,3)) (.ag [a,b,c]) cs=q9T cs off [a,b,c]:=by
 rw [q5U (by simp)];simp [flS]
attribute [go_sem] qsq flS_3
section
variable {l:List Nat}
def qiw {x:Nat} (hx:x < 18446744073709551616):ACt 187 [uv x] (bv (!decide (q0J x))):=by
 have C1:=q7S hx;refine ac0 Tryz.func187 Tryz.ntmps187 [.tmp 2] ?_;exact wk trivial
def qf4 (hu:∀ x ∈ l,x < 18446744073709551616) (hn:l.length≤1000000):ACt 101 [pF l] (bv (decide (∀ x ∈ l,q0J x))):=by
 have C1:=q2j (f:=187) (fun x hx=>qiw hx) hu hn;generalize decide (∀ x ∈ l,q0J x)=b at *;refine ac0 Tryz.func101 Tryz.ntmps101 [.tmp 2] ?_;exact wk1 @Bool.not_not trivial
def q89 {l:List Int} (hn:l.length≤1000000):ACt 188 [pVs l] (pV (grZ l)):=by
 have C1:=q1m qaI dy0;have N1:=q1M (V:=0);refine ac0 Tryz.func188 Tryz.ntmps188 [.cell 2 48] ?_;refine wk ?_;refine q0A (fun i=>i≤l.length) [2,3,9,10] [2] Lk Lk (fun i:Nat=>[(11,iv i)]) (fun i=>[(3,⟨48,some 4,[pV (grZ (l.take i))],false⟩)]) (fun i=>l.length-i) 0 (Nat.zero_le _) ?_ ?_
 ·refine LeM [] rfl rfl ?_;refine Zz ?_;exact ⟨rfl,rfl⟩
 ·intro i hi
  by_cases hlt:i < l.length
  ·obtain ⟨x,hx⟩:∃ x,l[i]?=some x:=⟨_,List.getElem?_eq_getElem hlt⟩;have C2:=qgR qfq fun ho=>qcu (A:=x) (B:=grZ (l.take i)) ho.1 ho.2;have es:=qnm hx;generalize grZ (l.take i)=G at *
   by_cases h:G < x
   ·rw [qkW h] at C2;rw [show max G x=x by omega] at es;refine wk1 hx ?_;refine ⟨i+1,by omega,by omega,?_⟩;rw [es];refine LeM [] rfl rfl ?_;refine Zz ?_
    first | done | omega | exact ⟨by omega,rfl⟩
   ·have q:=qkV h;rw [show max G x=G by omega] at es;generalize (x-G).sign=s at *;refine wk1 hx ?_;refine ⟨i+1,by omega,by omega,?_⟩;rw [es];refine LeM [] rfl rfl ?_;refine Zz ?_
    first | done | omega | exact ⟨by omega,rfl⟩
  ·obtain rfl:i=l.length:=by omega
   rw [List.take_length];exact wk trivial
end
section
variable {F:Nat→Nat→Option Nat} {n i:Nat} {b z v:List Nat} {r:Nat→Int}
def vtL (n:Nat) (v:List Nat) (r:Nat→Int) (i k:Nat):List Int:=(List.range k).map fun k=>prZ (ofZ (v.getD (k*n+i) 0)) (r k)
def qqh {k:Nat}:vtL n v r i (k+1)=vtL n v r i k ++ [prZ (ofZ (v.getD (k*n+i) 0)) (r k)]:=by unfold vtL; rw [List.range_succ,List.map_append]; rfl
def q9I {k:Nat}:(vtL n v r i k).length=k:=by unfold vtL; simp
def qcy:q1B (vtL n v r i n)=vsX n v r i:=qa0 n
def qoX (hn:n≤20) (hl:v.length=n*n) (hv:q08 v) (hi:i < n) (hr:∀ k,k < n→mlk 2148 (r k)∧bl (r k).natAbs≤67596):ACt 190 [pPn n n v,iv i,pVs ((List.range n).map r)] (pV (vsX n v r i)):=by
 have hpi:=fun j hj=>qsT (i:=i) (j:=j) (show n≤64 by omega) (show n≤64 by omega) hl hi hj;have hT:=fun k hk=>q7s (n:=n) hv (i:=i) (hr k hk);have hd:q0T (vsX n v r i):=by
  have:=(q7u (i:=i) Oq hv hr).2.2;unfold q0T; omega
 have hts:=qcy (n:=n) (v:=v) (r:=r) (i:=i);have htb:∀ y ∈ vtL n v r i n,q0T y:=fun y hy=>by
  unfold vtL at hy;obtain ⟨k,hk,rfl⟩:=List.mem_map.1 hy;have:=(hT k (List.mem_range.1 hk)).2.1;unfold q0T; omega
 have CS:=q1m (q67 (l:=vtL n v r i n) (by rw [q9I]; omega) htb (by rw [hts]; exact hd)) (by rw [hts]; exact hd);rw [hts] at CS;have h0:vtL n v r i 0=[]:=rfl;have hs:=fun k=>qqh (n:=n) (v:=v) (r:=r) (i:=i) (k:=k);have hll:=fun k=>q9I (n:=n) (v:=v) (r:=r) (i:=i) (k:=k);have hrg:=fun k (hk:k < n)=>show (((List.range n).map r).map fun V=>pV V)[k]?=some (pV (r k)) by rw [List.getElem?_map,List.getElem?_map,List.getElem?_range hk]; rfl
 have hrl:(((List.range n).map r).map fun V=>pV V).length=n:=by simp
 have NS:=q1M (V:=vsX n v r i);unfold pVs;generalize ((List.range n).map r).map (fun V=>pV V)=W at *;generalize vsX n v r i=S at *;unfold pPn;refine ac0 Tryz.func190 Tryz.ntmps190 [.cell 6 48] ?_;refine wk ?_;refine q0A (fun k=>k≤n) [1,2,3,6,10] [3,6] Lk Lk (fun k:Nat=>[(11,iv k),(7,.ow 1001 (some 4) 0 k)]) (fun k=>[(1001,⟨48,some 4,(vtL n v r i k).map fun V=>pV V,false⟩)]) (fun k=>n-k) 0 (Nat.zero_le _) ?_ ?_
 ·rw [h0];refine LeM [(1001,none)] rfl rfl ?_;refine Zz ?_
  first | done | rfl | exact ⟨rfl,rfl⟩
 ·intro k hk;have lk:=hll k
  by_cases hlt:k < n
  ·have q:(k:Int) < n:=by omega
   obtain ⟨w1,w2,y,hy⟩:=hpi k hlt;obtain ⟨y1,y2⟩:=hv y (List.mem_of_getElem? hy);have M:=hT k hlt;have es:=hs k;rw [getD_some hy] at M es;have C1:=q1m (q49 y1 (q0S y2)) (q46 y2);have N1:=q1M (V:=ofZ y);have N2:=q1M (V:=r k);have C2:=q1m (qgR qbP fun ho=>q69 ho.1 ho.2 M.1) (q3d M.1).2.2.2;have gk:=hrg k hlt;generalize vtL n v r i k=T at *;generalize prZ (ofZ y) (r k)=P at *;generalize k*n=kn at *;refine wk1 (x6 q w1 w2 hy gk (x2 hrl lk)) ?_;refine ⟨k+1,by omega,by omega,?_⟩;rw [es];refine LeM [(1001,some 32)] rfl rfl ?_;refine Zz ?_;exact ⟨by omega,q0F (by rw [List.map_append]; rfl) clV⟩
  ·obtain rfl:k=n:=by omega
   have q:¬ (k:Int) < k:=by omega
   exact wk1 (x2 q lk) trivial
def qmk (hzl:z.length=n) {r J:Nat} {rows:Nat→List Int} (hr:r < n) (h:RsI F (z.map fun y=>(y,0)) b n J rows) (hJ:J=n):q1B (rows r)=vrX F n b z r:=by
 subst hJ;rw [h r hr];unfold vrX
 congr 1
 refine q2r J fun j hj=>?_;have e:(z.map fun y=>(y,0)).getD j (0,0)=(z.getD j 0,0):=by
  rw [List.getD_eq_getElem?_getD,List.getElem?_map,List.getD_eq_getElem?_getD];cases z[j]? <;> rfl
 rw [e]
 show q0p ((F j r).getD 0) (z.getD j 0)+q0p ((F j r).getD 0) 0=q0p ((F j r).getD 0) (z.getD j 0)
 rw [qeQ,Int.add_zero]
def qoY (h:TOk F n n) (hn:n≤20) (hz:q08 z) (hzl:z.length=n) (hb:q08 b) (hbl:b.length=n):ACt 189 [pT n n F,pF z,pF b] (pVs ((List.range n).map (vrX F n b z))):=by
 have hml:=q17 (f:=F) (R:=n) n;have hg:=fun j hj=>q3B (f:=F) (R:=n) (C:=n) (j:=j) hj;have hix:=fun j k hj h1 h2=>qbl (f:=F) (R:=n) (C:=n) (j:=j) (k:=k) hj h1 h2;have hos:=fun j=>qjy (f:=F) (R:=n) (j:=j);obtain ⟨o,ho⟩:∃ o,o=tO F n:=⟨_,rfl⟩;have hRC:=h.m;have hfin:rwP n (fun r=>pV (vrX F n b z r)) n=((List.range n).map (vrX F n b z)).map fun V=>pV V:=by
  unfold rwP;rw [List.map_map];exact List.map_congr_left fun i hi=>by rw [if_pos (List.mem_range.1 hi)]; rfl
 have hpr:=fun r J rows hr (hI:RsI F (z.map fun y=>(y,0)) b n J rows) hJ=>qmk (r:=r) (J:=J) (rows:=rows) hzl hr hI hJ;have hZb:=fun i hi=>q7t (b:=b) (z:=z) h hb hz (i:=i) hi;unfold pVs;rw [← hfin];unfold pT;rw [← ho] at hg hix hos;generalize (tM F n n).1=st at *;generalize (tM F n n).2.1=ix at *;generalize (tM F n n).2.2=vl at *;obtain ⟨m1,m2,m3⟩:=hml;unfold q2I;refine ac0 Tryz.func189 Tryz.ntmps189 [.tmp 6] ?_;refine wk ?_;refine q1L (qaR (o:=18) (N:=5000) (R:=10000) (n:=n) (T1:=39) (T2:=48) (K:=some 4) (fun _ h=>h) ?_ (by omega) (by omega) (by omega) (by omega) (xs:=[(1,pF z),(2,pF b),(3,.pt 3 0 0),(7,.ow 5000 none 0 n),(19,pF b),(20,iv n),(21,iv 0)]) (kv:=[]) (kb:=[(3,some ⟨27,some 5,[.ag [iv n,iv n,pI st,pI ix,pF vl]],false⟩)]) (by simp [nmW]) ?_) ?_
 ·try simp -implicitDefEqProofs (disch:=omega) only [go_sem,Nat.reduceEqDiff,Nat.reduceAdd,↓reduceIte]
 ·try refine Zz ?_
  exact ⟨if_pos rfl,by omega⟩
 rw [qjw];refine q0U (fun k:Nat=>k≤n) [1,2,3,7,19,20] [3] Lk Lk (fun k:Nat=>[(21,iv k)]) (fun _=>[]) (fun k=>q6m n (bgR b k)) (fun k=>n-k) 0 (Nat.zero_le _) ?_ ?_
 ·refine LeW [] rfl rfl ?_ ?_ (by simp [q0x,q0g,win]) ?_
  ·exact Ow
  ·exact wfB (q1K Oq)
  ·try refine Zz ?_
   rfl
 ·intro k hk
  by_cases hlt:k < n
  ·have hlt':(k:Int) < n:=by omega
   obtain ⟨y,hy⟩:∃ y,b[k]?=some y:=⟨_,List.getElem?_eq_getElem Oq⟩;obtain ⟨u1,u2⟩:=hb y (List.mem_of_getElem? hy);have C1:=q1m (q49 u1 (q0S u2)) (q46 u2);have er:q7g (qdm (bgR b k)) k [pV (ofZ y)]=qdm (bgR b (k+1)):=by
    funext j
    unfold q7g qdm bgR
    by_cases h:j=k
    ·subst h; rw [if_pos rfl,if_pos (by omega),getD_some hy]; rfl
    ·rw [if_neg h]
     by_cases h2:j < k
     ·rw [if_pos h2,if_pos (by omega)]
     ·rw [if_neg h2,if_neg (by omega)]
   refine wk1 (x2 hlt' hy) ?_;refine ⟨k+1,by omega,by omega,?_⟩;unfold q6m;rw [← er];refine q6k (r:=30) (k:=k) (row:=qdm (bgR b k)) (fun _ h=>h) hlt (by intro x hx; simp at hx; subst hx; trivial) ?_ ?_ (fun i h1 h2 h3 h4=>?_) (fun _ _=>clV) BOk.h0 (.inl (by omega)) (by omega) (by omega) (by omega) (by simp [nmW]) ?_
   ·try simp -implicitDefEqProofs (disch:=omega) only [go_sem,Nat.reduceEqDiff,Nat.reduceAdd,↓reduceIte]
   ·try simp -implicitDefEqProofs (disch:=omega) only [go_sem,Nat.reduceEqDiff,Nat.reduceAdd,↓reduceIte]
   ·rw [q0B h2,q0B h4,q0W h1]
   ·try refine Zz ?_
    rfl
  ·have hlt':¬ (k:Int) < n:=by omega
   obtain rfl:n=k:=by omega
   refine wk1 hlt' ?_;refine q0U (fun q:Nat × (Nat→List Int)=>q.1≤n∧RsI F (z.map fun y=>(y,0)) b n q.1 q.2∧RB q.2 (1+q.1*n)) [1,3,7,34] [3] Lk Lk (fun q=>[(35,iv q.1)]) (fun _=>[]) (fun q=>q6m n q.2) (fun q=>n-q.1) (0,bgR b n) ⟨Nat.zero_le _,RsI.bg hbl,by rw [Nat.zero_mul]; exact RB.bg hb⟩ ?_ ?_
   ·refine LeW [] rfl rfl ?_ ?_ (by simp [q0x,q0g,win]) ?_
    ·exact Ow
    ·exact wfB (q1K Oq)
    ·try refine Zz ?_
     rfl
   ·clear hlt hlt' hk;rintro ⟨J,rows⟩ ⟨hJ,hI,hB⟩;simp only at hJ hI hB ⊢;have hJR:J*n≤20*20:=Nat.mul_le_mul Oq hn
    by_cases hlt:J < n
    ·have hlt':(J:Int) < n:=by omega
     have g1:=hg J Oq;have g2:=hg (J+1) Oq;have oJ:=hos J;have ww:IntKind.i64.wrap ((J:Int)+1)=((J+1:Nat):Int):=by rw [i64_in (by omega) (by omega)]; omega
     have hZ:=fun k v=>q5P (f:=F) (j:=J) (i:=n) (k:=k) (x:=v);have hIs:=hI.s;obtain ⟨L,hL⟩:∃ L,L=tZ F J n:=⟨_,rfl⟩;have hLn:L.length≤n:=by rw [hL]; unfold tZ; exact Nat.le_trans (List.length_filterMap_le _ _) (by simp)
     have hixJ:=hix J;rw [← hL] at oJ hZ hixJ hIs;clear hL;obtain ⟨p,hp⟩:∃ p,z[J]?=some p:=⟨_,List.getElem?_eq_getElem Oq⟩;obtain ⟨p1,p2⟩:=hz p (List.mem_of_getElem? hp);have hgp:(z.map fun y=>(y,0)).getD J (0,0)=(p,0):=by rw [List.getD_eq_getElem?_getD,List.getElem?_map,hp]; rfl
     rw [hgp] at hIs;have hm0:∀ v,q7F v (p,0)=q0p v p:=fun v=>by
      show q0p v p+q0p v 0=q0p v p
      rw [qeQ,Int.add_zero]
     have hLv:∀ e ∈ L,(e.2 < 18446744073709551616∧q0J e.2)∧e.1 < n:=fun e he=>by
      obtain ⟨q1,q2⟩:=(hZ e.1 e.2).1 he;exact ⟨⟨h.u J e.1 e.2 hlt q1 q2,h.v J e.1 e.2 hlt q1 q2⟩,q1⟩
     have hBL:=fun t=>hB.pg (g:=fun v=>q7F v (p,0)) (L:=L.take t) fun e he=>(qeR (hLv e (List.mem_of_mem_take he)).1.2 p2 (by simp [q0J])).2;have C0:=q1m (q49 p1 (q0S p2)) (q46 p2);have N0:=q1M (V:=ofZ p);refine wk1 (x2 hlt' g1) ?_;refine q0U (fun t:Nat=>t≤L.length) [1,3,7,10,34,35] [3] Lk Lk (fun t=>[(11,iv ((o J+t:Nat):Int))]) (fun _=>[]) (fun t=>q6m n (psG (fun v=>q7F v (p,0)) (L.take t) rows)) (fun t=>L.length-t) 0 (Nat.zero_le _) ?_ ?_
     ·refine LeW [] rfl rfl ?_ ?_ (by simp [q0x,q0g,win]) ?_
      ·exact Ow
      ·exact wfB (q1K Oq)
      ·try simp -implicitDefEqProofs (disch:=omega) only [go_sem,Nat.reduceEqDiff,Nat.reduceAdd,↓reduceIte]
     ·intro t ht
      by_cases hlt2:t < L.length
      ·obtain ⟨⟨i,v⟩,e1,e2,e3⟩:=hixJ (o J+t) Oq Oq Oq;rw [Nat.add_sub_cancel_left] at e1;dsimp only at e2 e3;obtain ⟨⟨v1,v2⟩,hin⟩:=hLv (i,v) (List.mem_of_getElem? e1);dsimp only at v1 v2 hin;have hq:((o J+t:Nat):Int) < ((o (J+1):Nat):Int):=by omega
       have C1:=q1m (q49 v1 (q0S v2)) (q46 v2);have N1:=q1M (V:=ofZ v);have M:=q0b v2 p2;have C2:=qgR qbP fun ho=>q69 ho.1 ho.2 M.1;have hmd:=(q3d M.1).2.2.2;have C3:=q1m (q9D hmd) (by unfold q0T at *; rw [Int.natAbs_neg]; exact hmd);have hr1:(List.range n)[i]?=some i:=List.getElem?_range hin;have hob:=(List.getElem?_eq_some_iff.1 e2).1;have wt:IntKind.i64.wrap (((o J+t:Nat):Int)+1)=((o J+(t+1):Nat):Int):=by rw [i64_in (by omega) (by omega)]; omega
       have hps:psG (fun v=>q7F v (p,0)) (L.take (t+1)) rows=q4b (psG (fun v=>q7F v (p,0)) (L.take t) rows) i (-(q0p v p)):=by rw [← hm0]; exact psG_s e1
       have hli:(psG (fun v=>q7F v (p,0)) (L.take t) rows i).length≤2000:=by have:=(hBL t).l i; rw [List.length_take] at this; omega
       generalize psG (fun v=>q7F v (p,0)) (L.take t) rows=rs at *;refine wk1 (x6 g1 g2 ww hq e2 (x4 e3 hr1 hp wt)) ?_;refine ⟨t+1,by omega,by omega,?_⟩;rw [hps];unfold q6m;rw [← qf1];refine q6k (r:=78) (k:=i) (row:=qdm rs) (fun _ h=>h) hin clV ?_ ?_ (fun i h1 h2 h3 h4=>?_) (fun _ _=>clV) BOk.h0 (.inl (by omega)) (by omega) (by omega) (by omega) (by simp [nmW]) ?_
       ·try simp -implicitDefEqProofs (disch:=omega) only [go_sem,Nat.reduceEqDiff,Nat.reduceAdd,↓reduceIte]
       ·try refine Zz ?_
        rw [List.map_append]
        rfl
       ·rw [q0B h2,q0B h4,q0B h3,q0B (by obtain ⟨w1,w2⟩:=h1; omega),q0W h1]
       ·try simp -implicitDefEqProofs (disch:=omega) only [go_sem,Nat.reduceEqDiff,Nat.reduceAdd,↓reduceIte]
      ·obtain rfl:t=L.length:=by omega
       have hq:¬ ((o J+L.length:Nat):Int) < ((o (J+1):Nat):Int):=by omega
       have hB2:=hBL L.length;rw [List.take_length] at hB2 ⊢;refine wk1 (x3 g2 ww hq) ?_;refine ⟨(J+1,psG (fun v=>q7F v (p,0)) L rows),⟨hlt,hIs,hB2.mono (by rw [Nat.succ_mul]; omega)⟩,by simp only; omega,?_⟩;simp only;refine LeW [] rfl rfl ?_ ?_ (by simp [q0x,q0g,win]) ?_
       ·exact Ow
       ·exact wfB (q1K Oq)
       ·try simp -implicitDefEqProofs (disch:=omega) only [go_sem,Nat.reduceEqDiff,Nat.reduceAdd,↓reduceIte]
    ·obtain rfl:J=n:=by omega
     have hlt':¬ (J:Int) < J:=by omega
     have hsum:∀ r,r < J→q1B (rows r)=vrX F J b z r:=fun r hr=>hpr r J rows hr hI rfl;have hrl:=hB.l;have hbb:=hB.b;have hwl:=fun m=>q6s (n:=J) (g:=fun r=>pV (vrX F J b z r)) (m:=m);have hws:=fun m=>qmh (n:=J) (g:=fun r=>pV (vrX F J b z r)) (m:=m);have hwc:=fun m=>q1b (n:=J) (g:=fun r=>pV (vrX F J b z r)) (m:=m) fun c=>trivial;clear hfin hg hix hos hI hpr;refine wk1 hlt' ?_;refine q0U (fun r=>r≤J) [84,85] [] Lk Lk (fun r:Nat=>[(86,iv r),(13,.ow 1001 (some 4) 0 J)]) (fun r=>[(1001,⟨48,some 4,rwP J (fun r=>pV (vrX F J b z r)) r,false⟩)]) (fun _=>q6m J rows) (fun r=>J-r) 0 (Nat.zero_le _) ?_ ?_
     ·refine LeW [(1001,some 83)] rfl rfl ?_ ?_ (by simp [q0x,q0g,win]) ?_
      ·exact Ow
      ·exact wfB (q1K Oq)
      ·try refine Zz ?_
       exact ⟨rfl,qaD (by simp)⟩
     ·intro r hr
      by_cases hlt2:r < J
      ·have q2:(r:Int) < J:=by omega
       have hr1:(List.range J)[r]?=some r:=List.getElem?_range hlt2;have hd:q0T (vrX F J b z r):=by have:=(hZb r hlt2).2; unfold q0T; omega
       have hs2:=hsum r hlt2;have C2:=q1m (q67 (l:=rows r) (by have:=hrl r; omega) (fun z hz=>by have:=hbb r z hz; unfold q0T; omega) (by rw [hs2]; exact hd)) (by rw [hs2]; exact hd);rw [hs2] at C2;have N2:=q1M (V:=vrX F J b z r);have hli:=hrl r;have e1:=hws r;have e2:=hwl r;have e3:=hwc r;generalize rwP J (fun r=>pV (vrX F J b z r)) r=W at *;refine wk1 (x3 q2 hr1 e2) ?_;refine ⟨r+1,by omega,by omega,?_⟩;rw [← e1];refine LeW [] rfl rfl ?_ ?_ (by simp [q0x,q0g,win]) ?_
       ·exact Ow
       ·exact wfB (q1K Oq)
       ·try refine Zz ?_
        exact ⟨by omega,q0F rfl (q41 e3 trivial)⟩
      ·obtain rfl:r=J:=by omega
       have q2:¬ (r:Int) < r:=by omega
       refine wk1 (x3 q2 (hwl r) (hwc r)) ?_;exact List.take_of_length_le (Nat.le_of_eq (hwl r))
end
abbrev pBx (n:Nat) (v z:List Nat):PV:=.ag [iv n,iv n,pF v,pF z]
def ql1 {A B V:Int} (h:mkV (A*B) (-131072)=some V):ACt 163 [pV A,pV B] (pV V):=q1m (qgR qbP fun ho=>q69 ho.1 ho.2 h) (q3d h).2.2.2
def qv7 {A B:Int} (h:q0T (A+B)):ACt 178 [pV A,pV B] (pV (A+B)):=q1m (qgR qlI fun ho=>q9F ho.1 ho.2 h) h
def qv6 {A B:Int} (h:q0T (A-B)):ACt 176 [pV A,pV B] (pV (A-B)):=q1m (qgR qlJ fun ho=>qlo ho.1 ho.2 h) h
section
variable {F:Nat→Nat→Option Nat} {n:Nat} {b z v:List Nat}
def qqk {i:Nat}:((List.range (i+1)).map (vdX n v (vrX F n b z)))=(List.range i).map (vdX n v (vrX F n b z)) ++ [vdX n v (vrX F n b z) i]:=qrx
def qqj {i:Nat}:vfL F n v b z (i+1)=vfL F n v b z i ++ [vIv (z.getD i 0) (vfN F n v b z i) (vfG F n v)]:=by unfold vfL; rw [List.range_succ,List.map_append]; rfl
def qdA {i:Nat}:(vfL F n v b z i).length=i:=by unfold vfL; simp
def qoi {l:List (Nat × Nat)}:ClL (l.map fun p=>PV.ag [uv p.1,uv p.2]):=fun x hx=>by
 obtain ⟨c,_,rfl⟩:=List.mem_map.1 hx;intro y hy;simp at hy
 rcases hy with rfl | rfl <;> trivial
def qoV (h:TOk F n n) (hn:n≤20) (hl:v.length=n*n) (hv:q08 v) (hb:q08 b) (hbl:b.length=n) (hz:q08 z) (hzl:z.length=n):ACt 102 [pT n n F,pF b,pBx n v z] (.tu [pP (vfO F n v b z).1,bv (vfO F n v b z).2]):=by
 have C1:=q8b h hn hl hv;have C2:=q1m qcr (by have:=q4S; unfold q0T; omega);have C3:=q89 (l:=btL n v F) (by unfold btL; rw [q4L]; omega);have hG:=qdB h hv;have dG:q0T (vfG F n v):=by unfold q0T; omega
 have C4:ACt 176 [pV q2i,pV (grZ (btL n v F))] (pV (vfG F n v)):=qv6 dG;have C5:=ql2 qlH fun ho=>q31 (V:=vfG F n v) ho;have C6:=qoY h hn hz hzl hb hbl;have hr:=fun k (hk:k < n)=>q7t h hb hz (b:=b) (z:=z) hk;have C7:=fun i (hi:i < n)=>qoX (r:=vrX F n b z) (i:=i) hn hl hv hi hr;have hds:=fun i=>q7u (v:=v) (r:=vrX F n b z) (i:=i) Oq hv hr;have C8:=fun i=>q1m (ql2 qfr fun ho=>qcv (A:=vsX n v (vrX F n b z) i) ho) (qky (by have:=(hds i).2.2; unfold q0T; omega));have C9:=q89 (l:=vfD F n v b z) (by unfold vfD; rw [q4L]; omega);have hNs:=fun i (hi:i < n)=>qjk h hv hb hz (i:=i) hi;have hdD:=fun i=>qqk (F:=F) (n:=n) (b:=b) (z:=z) (v:=v) (i:=i);have hLs:=fun i=>qqj (F:=F) (n:=n) (b:=b) (z:=z) (v:=v) (i:=i);have hLl:=fun i=>qdA (F:=F) (n:=n) (b:=b) (z:=z) (v:=v) (i:=i);have hL0:vfL F n v b z 0=[]:=rfl;have hvn:=fun i=>show vfN F n v b z i=prZ (vdX n v (vrX F n b z) i) (vfG F n v)+prZ (btZ n v F i) (grZ (vfD F n v b z)) from rfl;have hDe:vfD F n v b z=(List.range n).map (vdX n v (vrX F n b z)):=rfl;have hBg:=fun i (hi:i < n)=>show ((btL n v F).map fun V=>pV V)[i]?=some (pV (btZ n v F i)) by unfold btL; rw [List.getElem?_map,q4M hi]; rfl
 have hBl:((btL n v F).map fun V=>pV V).length=n:=by unfold btL; simp
 have hDg:=fun i (hi:i < n)=>show ((vfD F n v b z).map fun V=>pV V)[i]?=some (pV (vdX n v (vrX F n b z) i)) by rw [hDe,List.getElem?_map,q4M hi]; rfl
 have hDl:((vfD F n v b z).map fun V=>pV V).length=n:=by rw [hDe]; simp
 have hG0:vfG F n v=q2i-grZ (btL n v F):=rfl;have e8:∀ i,((vsX n v (vrX F n b z) i).natAbs:Int)=vdX n v (vrX F n b z) i:=fun _=>rfl;simp only [e8] at C8;have hNr:(List.range n).map (vrX F n b z)=(List.range n).map (vrX F n b z):=rfl;unfold vfO;unfold pPn at C1 C7;unfold pBx at *;unfold pT q2I at *;generalize (tM F n n).1=ms at *;generalize (tM F n n).2.1=mi at *;generalize (tM F n n).2.2=mv at *;have NG:=q1M (V:=vfG F n v);have N1:=q1M (V:=q2i);have NB:=q1M (V:=grZ (btL n v F));clear hr hG hds hNr e8
 by_cases h1:q2i≤grZ (btL n v F)
 ·rw [if_pos h1];have q:(vfG F n v).sign≤0:=by
   rw [hG0]
   rcases Int.lt_or_eq_of_le h1 with h1 | h1
   ·rw [Int.sign_eq_neg_one_of_neg (by omega)]; omega
   ·rw [show q2i-grZ (btL n v F)=0 by omega]; decide
  generalize (vfG F n v).sign=s at *;generalize vfG F n v=G at *;generalize btL n v F=B at *;refine ac0 Tryz.func102 Tryz.ntmps102 [.tmp 6,.tmp 7] ?_;exact wk trivial
 rw [if_neg h1];dsimp only;have hGp:0 < vfG F n v:=by omega
 rw [Int.sign_eq_one_of_pos hGp] at C5;have CQ:=fun N=>ac_2x (x:=iv 2) qlG fun ho=>qio (mode:=2) (a:=N) (b:=vfG F n v) Oq ho.1 ho.2 Oq;generalize vfG F n v=G at *;rw [hDe] at hNs hvn C9 hDg hDl;generalize grZ ((List.range n).map (vdX n v (vrX F n b z)))=M at *;have NM:=q1M (V:=M);refine ac0 Tryz.func102 Tryz.ntmps102 [.tmp 6,.tmp 7] ?_;refine wk ?_;refine q0A (fun i=>i≤n) [1,3,5,8,9,10,34,35] [3,5,9] Lk Lk (fun i:Nat=>[(36,iv i),(11,.ow 1001 (some 4) 0 i)]) (fun i=>[(1001,⟨48,some 4,((List.range i).map (vdX n v (vrX F n b z))).map fun V=>pV V,false⟩)]) (fun i=>n-i) 0 (Nat.zero_le _) ?_ ?_
 ·refine LeM [(1001,none)] rfl rfl ?_;refine Zz ?_
  first | done | rfl | exact ⟨rfl,rfl⟩
 ·intro i hi;have li:(((List.range i).map (vdX n v (vrX F n b z))).map fun V=>pV V).length=i:=by simp
  by_cases hlt:i < n
  ·have q:(i:Int) < n:=by omega
   have c7:=C7 i hlt;have c8:=C8 i;have N2:=q1M (V:=vsX n v (vrX F n b z) i);have N3:=q1M (V:=vdX n v (vrX F n b z) i);have es:=hdD i;generalize vsX n v (vrX F n b z) i=S at *;generalize vdX n v (vrX F n b z) i=d at *;refine wk1 (x2 q li) ?_;refine ⟨i+1,by omega,by omega,?_⟩;rw [es];refine LeM [(1001,some 47)] rfl rfl ?_;refine Zz ?_;exact ⟨by omega,q0F (by rw [List.map_append]; rfl) clV⟩
  ·obtain rfl:i=n:=by omega
   have q:¬ (i:Int) < i:=by omega
   have tk:List.take i (((List.range i).map (vdX i v (vrX F i b z))).map fun V=>pV V)=((List.range i).map (vdX i v (vrX F i b z))).map fun V=>pV V:=List.take_of_length_le (by simp);refine wk1 (x3 q li tk) ?_;refine q0A (fun j=>j≤i) [5,8,9,11,13,52,53] [5,9,13,1001] Lk Lk (fun j:Nat=>[(54,iv j),(14,.ow 1002 (some 2) 0 j)]) (fun j=>[(1002,⟨58,some 2,(vfL F i v b z j).map fun p=>.ag [uv p.1,uv p.2],false⟩)]) (fun j=>i-j) 0 (Nat.zero_le _) ?_ ?_
   ·rw [hL0];refine LeM [(1002,none)] rfl rfl ?_;refine Zz ?_
    first | done | rfl | exact ⟨rfl,rfl⟩ | exact ⟨rfl,q0F rfl clV⟩ | exact ⟨⟨rfl,rfl⟩,q0F rfl clV⟩
   ·intro j hj;have lj:=hLl j
    by_cases hlt:j < i
    ·have q:(j:Int) < i:=by omega
     have gd:=hDg j hlt;have gb:=hBg j hlt;have es:=hLs j;obtain ⟨m1,m2,m3,m4⟩:=hNs j hlt;have nn:=hvn j;obtain ⟨w,hw⟩:∃ w,z[j]?=some w:=⟨_,List.getElem?_eq_getElem Oq⟩;obtain ⟨w1,w2⟩:=hz w (List.mem_of_getElem? hw);rw [getD_some hw] at es;generalize vdX i v (vrX F i b z) j=d at *;generalize btZ i v F j=u at *;generalize vfN F i v b z j=N at *;have c1:=ql1 m1;have c2:=ql1 m2;have dN:q0T N:=by unfold q0T; omega
     have c3:=qv7 (A:=prZ d G) (B:=prZ u M) (by rw [← nn]; exact dN);rw [← nn] at c3;have c4:=CQ N;have r1:=qfT (mode:=2) (a:=N) (b:=G) Oq;have r2:=qkw (mode:=2) (a:=N) (b:=G) Oq;unfold vIv at es;generalize fQ 2 N G=R at *;have c5:=qoQ (mode:=1) (.inr (.inl rfl)) ⟨w1,w2⟩ r1 r2;have c6:=qfY (mode:=2) (.inr (.inr rfl)) ⟨w1,w2⟩ r1 r2;generalize qgz 1 w R=a1 at *;generalize qgP 2 w R=a2 at *;have N2:=q1M (V:=d);have N3:=q1M (V:=u);have N4:=q1M (V:=N);have N5:=q1M (V:=prZ d G);have N6:=q1M (V:=prZ u M);refine wk1 (x6 q gd gb hw hDl (x2 hBl lj)) ?_;refine ⟨j+1,by omega,by omega,?_⟩;rw [es];refine LeM [(1002,some 83)] rfl rfl ?_;refine Zz ?_
     first | exact ⟨by omega,q0F (by rw [List.map_append]; rfl) qoi⟩ | exact ⟨by omega,q0F (by rw [List.map_append]; rfl) qoi,q0F rfl clV⟩
    ·obtain rfl:j=i:=by omega
     have q:¬ (j:Int) < j:=by omega
     have hcl:(∀ a:Nat × Nat,a ∈ vfL F j v b z j→Cld (PV.ag [uv a.1,uv a.2]))=True:=eq_true fun a _=>by
      intro y hy;simp at hy
      rcases hy with rfl | rfl <;> trivial
     exact wk1 (x3 q lj hcl) trivial
def qcT (h:TOk F n n) (hn:n≤20) (hl:v.length=n*n) (hv:q08 v) (hb:q08 b) (hbl:b.length=n) (hz:q08 z) (hzl:z.length=n):ACt 27 [pT n n F,pF b,pBx n v z] (.tu [pP (vfO F n v b z).1,bv (vfO F n v b z).2,iv 0]):=by
 have hm2:n*n≤20*20:=Nat.mul_le_mul hn hn;have hch:chP n n v=0:=by unfold chP; rw [if_neg (not_not_intro hl),if_pos fun x hx=>(hv x hx).2]
 have C1:=qf5 (r:=n) (c:=n) (v:=v) h Oq Oq Oq fun x hx=>(hv x hx).1;have hbt:btC n n n n v=0:=by
  unfold btC;rw [if_neg (not_not_intro rfl),if_neg (not_not_intro hch),if_neg (by omega)]
 rw [hbt] at C1;have C2:=qoV h hn hl hv hb hbl hz hzl;have C3:=qf4 (l:=b) (fun x hx=>(hb x hx).1) Oq;have C4:=qf4 (l:=z) (fun x hx=>(hz x hx).1) Oq;rw [decide_eq_true fun x hx=>(hb x hx).2] at C3;rw [decide_eq_true fun x hx=>(hz x hx).2] at C4;have q1:((b.length:Int) != (n:Int))=false:=by simp; omega
 have q2:((z.length:Int) != (n:Int))=false:=by simp; omega
 generalize vfO F n v b z=o at *;unfold pPn at C1;unfold pBx at *;unfold pT q2I at *;generalize (tM F n n).1=ms at *;generalize (tM F n n).2.1=mi at *;generalize (tM F n n).2.2=mv at *;refine ac0 Tryz.func27 Tryz.ntmps27 [.tmp 6,.tmp 7,.tmp 8] ?_;exact wk1 (x2 q1 q2) trivial
end
section
variable {F:Nat→Nat→Option Nat} {n:Nat} {b z v:List Nat}
def vpL (F:Nat→Nat→Option Nat) (b z:List Nat) (i k:Nat):List Int:=ofZ (b.getD i 0) :: (List.range k).map fun j => -(q0p ((F j i).getD 0) (z.getD j 0))
def qqi {i k:Nat}:vpL F b z i (k+1)=vpL F b z i k ++ [-(q0p ((F k i).getD 0) (z.getD k 0))]:=by unfold vpL; rw [List.range_succ,List.map_append]; rfl
def qmB {i k:Nat}:(vpL F b z i k).length=k+1:=by unfold vpL; simp
def qcz {i:Nat}:∀ k,q1B (vpL F b z i k)=ofZ (b.getD i 0)-sg (fun j=>q0p ((F j i).getD 0) (z.getD j 0)) k
 | 0=>by show q1B [ofZ (b.getD i 0)]=_; rw [q2q,sg]; omega
 | k+1=>by rw [qqi,q0q,qcz k,sg]; omega
def vrL_s {i:Nat}:((List.range (i+1)).map (vrX F n b z))=(List.range i).map (vrX F n b z) ++ [vrX F n b z i]:=qrx
def qbd (h:TOk F n n) (hn:n≤20) (hl:v.length=n*n) (hv:q08 v) (hb:q08 b) (hbl:b.length=n) (hz:q08 z) (hzl:z.length=n):ACt 160 [pT n n F,pF b,pBx n v z] (.tu [.un,bv (vfO F n v b z).2,iv 0]):=by
 have hm2:n*n≤20*20:=Nat.mul_le_mul hn hn;have hch:chP n n v=0:=by unfold chP; rw [if_neg (not_not_intro hl),if_pos fun x hx=>(hv x hx).2]
 have C1:=q66 (r:=n) (c:=n) (v:=v) h hn hn Oq Oq Oq fun x hx=>(hv x hx).1;have hbt:btA n n F n n v=(btL n v F,0):=by
  unfold btA btC;rw [if_neg (not_not_intro rfl),if_neg (not_not_intro hch),if_neg (show ¬ (n≠n∨n≠n) by omega),if_neg (show ¬ (0:Int)≠0 by decide)]
 rw [hbt] at C1;dsimp only at C1;have C2:=qco;have C3:=q7l (l:=btL n v F) (by unfold btL; rw [q4L]; omega);have hG:=qdB h hv;have dG:q0T (vfG F n v):=by unfold q0T; omega
 have C4:ACt 127 [pV q2i,pV (grZ (btL n v F))] (pV (vfG F n v)):=qfb dG;have C5:=q5D (V:=vfG F n v);have D3:=q2n (l:=b) (fun x hx=>(hb x hx).1) Oq;have D4:=q2n (l:=z) (fun x hx=>(hz x hx).1) Oq;rw [decide_eq_true fun x hx=>(hb x hx).2] at D3;rw [decide_eq_true fun x hx=>(hz x hx).2] at D4;have q1:((b.length:Int) != (n:Int))=false:=by simp; omega
 have q2:((z.length:Int) != (n:Int))=false:=by simp; omega
 have hr:=fun k (hk:k < n)=>q7t h hb hz (b:=b) (z:=z) hk;have hds:=fun i=>q7u (v:=v) (r:=vrX F n b z) (i:=i) Oq hv hr;have cA:∀ {i j:Nat},i < n→j < n→_:=fun {i j} hi hj=>q8C (i:=i) (j:=j) h hi hj;have hfi:∀ {i j:Nat},i < n→j < n→_:=fun {i j} hi hj=>h.fin (j:=j) (i:=i) hj hi;have cV:=fun i j hi hj=>q7k (i:=i) (j:=j) (show n≤64 by omega) (show n≤64 by omega) hl hv hi hj;have C9:=q7l (l:=vfD F n v b z) (by unfold vfD; rw [q4L]; omega);have hNs:=fun i (hi:i < n)=>qjk h hv hb hz (i:=i) hi;have hdD:=fun i=>qqk (F:=F) (n:=n) (b:=b) (z:=z) (v:=v) (i:=i);have hrs:=fun i=>vrL_s (F:=F) (n:=n) (b:=b) (z:=z) (i:=i);have hLs:=fun i=>qqj (F:=F) (n:=n) (b:=b) (z:=z) (v:=v) (i:=i);have hLl:=fun i=>qdA (F:=F) (n:=n) (b:=b) (z:=z) (v:=v) (i:=i);have hL0:vfL F n v b z 0=[]:=rfl;have hvn:=fun i=>show vfN F n v b z i=prZ (vdX n v (vrX F n b z) i) (vfG F n v)+prZ (btZ n v F i) (grZ (vfD F n v b z)) from rfl;have hDe:vfD F n v b z=(List.range n).map (vdX n v (vrX F n b z)):=rfl;have hBg:=fun i (hi:i < n)=>show ((btL n v F).map fun V=>pV V)[i]?=some (pV (btZ n v F i)) by unfold btL; rw [List.getElem?_map,q4M hi]; rfl
 have hBl:((btL n v F).map fun V=>pV V).length=n:=by unfold btL; simp
 have hDg:=fun i (hi:i < n)=>show (((List.range n).map (vdX n v (vrX F n b z))).map fun V=>pV V)[i]?=some (pV (vdX n v (vrX F n b z) i)) by rw [List.getElem?_map,q4M hi]; rfl
 have hRg:=fun i (hi:i < n)=>show (((List.range n).map (vrX F n b z)).map fun V=>pV V)[i]?=some (pV (vrX F n b z i)) by rw [List.getElem?_map,q4M hi]; rfl
 have hDl:(((List.range n).map (vdX n v (vrX F n b z))).map fun V=>pV V).length=n:=by simp
 have hRl:(((List.range n).map (vrX F n b z)).map fun V=>pV V).length=n:=by simp
 have hG0:vfG F n v=q2i-grZ (btL n v F):=rfl;rw [hDe] at C9;have hvp:=fun i k=>qqi (F:=F) (b:=b) (z:=z) (i:=i) (k:=k);have hvl:=fun i k=>qmB (F:=F) (b:=b) (z:=z) (i:=i) (k:=k);have hv0:=fun i=>show vpL F b z i 0=[ofZ (b.getD i 0)] from rfl;have hvs:=fun i=>show q1B (vpL F b z i n)=vrX F n b z i from qcz n;have hT:=fun i k (hk:k < n)=>(⟨(q7s (n:=n) hv (i:=i) (hr k hk)).1,(q7s (n:=n) hv (i:=i) (hr k hk)).2.1⟩:_∧_);have hrb:=fun k (hk:k < n)=>(hr k hk).2;have hdb:=fun i=>(hds i).2.2;clear hr hds hG;have hts:=fun i=>qcy (n:=n) (v:=v) (r:=vrX F n b z) (i:=i);have ht0:=fun i=>show vtL n v (vrX F n b z) i 0=[] from rfl;have hss:=fun i k=>qqh (n:=n) (v:=v) (r:=vrX F n b z) (i:=i) (k:=k);have htl:=fun i k=>q9I (n:=n) (v:=v) (r:=vrX F n b z) (i:=i) (k:=k);unfold vfO;unfold pPn at C1 cV;unfold pBx at *;unfold pT q2I at *;generalize (tM F n n).1=ms at *;generalize (tM F n n).2.1=mi at *;generalize (tM F n n).2.2=mv at *;have NG:=q1M (V:=vfG F n v);have N1:=q1M (V:=q2i);have NB:=q1M (V:=grZ (btL n v F))
 by_cases h1:q2i≤grZ (btL n v F)
 ·rw [if_pos h1];have q:(vfG F n v).sign≤0:=by
   rw [hG0]
   rcases Int.lt_or_eq_of_le h1 with h1 | h1
   ·rw [Int.sign_eq_neg_one_of_neg (by omega)]; omega
   ·rw [show q2i-grZ (btL n v F)=0 by omega]; decide
  generalize (vfG F n v).sign=s at *;generalize vfG F n v=G at *;generalize btL n v F=B at *;refine ac0 Tryz.func160 Tryz.ntmps160 [.tmp 6,.tmp 7,.tmp 8] ?_;exact wk1 (x2 q1 q2) trivial
 rw [if_neg h1];dsimp only;have hGp:0 < vfG F n v:=by omega
 rw [Int.sign_eq_one_of_pos hGp] at C5;have CQ:=fun N=>q9W (A:=N) (B:=vfG F n v) (mode:=2) Oq;generalize vfG F n v=G at *;rw [hDe] at hNs hvn;generalize grZ ((List.range n).map (vdX n v (vrX F n b z)))=M at *;have NM:=q1M (V:=M);refine ac0 Tryz.func160 Tryz.ntmps160 [.tmp 6,.tmp 7,.tmp 8] ?_;refine wk1 (x2 q1 q2) ?_;refine q0A (fun i=>i≤n) [1,3,5,9,11,12,14] [3,5,12] Lk Lk (fun i:Nat=>[(15,iv i),(13,.ow 1001 (some 4) 0 i)]) (fun i=>[(1001,⟨48,some 4,((List.range i).map (vrX F n b z)).map fun V=>pV V,false⟩)]) (fun i=>n-i) 0 (Nat.zero_le _) ?_ ?_
 ·refine LeM [(1001,none)] rfl rfl ?_;refine Zz ?_
  repeat' (first | rfl | exact q0F rfl clV | apply And.intro)
 ·intro i hi;have li:(((List.range i).map (vrX F n b z)).map fun V=>pV V).length=i:=by simp
  by_cases hlt:i < n
  ·have q:(i:Int) < n:=by omega
   have p0:=hv0 i;have ps:=hvp i;have pl:=hvl i;have psum:=hvs i;have es:=hrs i;have hri:=hrb i hlt;have cAi:=fun j hj=>cA (i:=i) (j:=j) hlt hj;have hfii:=fun j hj=>hfi (i:=i) (j:=j) hlt hj;obtain ⟨y,hy⟩:∃ y,b[i]?=some y:=⟨_,List.getElem?_eq_getElem Oq⟩;obtain ⟨u1,u2⟩:=hb y (List.mem_of_getElem? hy);rw [getD_some hy] at p0;have c1:=q0u u1 (q0S u2);have N2:=q1M (V:=ofZ y);generalize vpL F b z i=T at *;generalize vrX F n b z i=r at *;refine wk1 (x2 q hy) ?_;refine q0A (fun k=>k≤n) [1,3,5,9,11,12,13,14,15] [3,5,12,1001] Lk Lk (fun k:Nat=>[(17,iv k),(16,.ow 1002 (some 4) 0 (k+1))]) (fun k=>[(1002,⟨48,some 4,(T k).map fun V=>pV V,false⟩)]) (fun k=>n-k) 0 (Nat.zero_le _) ?_ ?_
   ·rw [p0];refine LeM [(1002,some 74)] rfl rfl ?_;refine Zz ?_
    repeat' (first | rfl | exact q0F rfl clV | apply And.intro)
   ·intro k hk;have lk:=pl k
    by_cases hlt2:k < n
    ·have l2:(k:Int) < n:=by omega
     have c2:=cAi k hlt2;obtain ⟨x1,xu⟩:=hfii k hlt2;have e2:=ps k;obtain ⟨w,hw⟩:∃ w,z[k]?=some w:=⟨_,List.getElem?_eq_getElem Oq⟩;obtain ⟨w1,w2⟩:=hz w (List.mem_of_getElem? hw);rw [getD_some hw] at e2;generalize (F k i).getD 0=x at *;have MM:=q0b x1 w2;have c3:=q1h xu w1 (q0S x1) (q0S w2) MM.1;have c4:=q4W (V:=q0p x w);have N3:=q1M (V := -(q0p x w));have N4:=q1M (V:=q0p x w);refine wk1 (x3 l2 lk hw) ?_;refine ⟨k+1,by omega,by omega,?_⟩;rw [e2];refine LeM [(1002,some 93)] rfl rfl ?_;refine Zz ?_
     repeat' (first | omega | rfl | exact q0F rfl clV | exact q0F (by rw [List.map_append]; rfl) clV | exact q0F (by rw [List.map_append]; rfl) qoi | apply And.intro)
    ·obtain rfl:k=n:=by omega
     have l2:¬ (k:Int) < k:=by omega
     have c5:=q3T (l:=T k) (by omega) (by rw [psum]; unfold q0T; omega);rw [psum] at c5;have N5:=q1M (V:=r);refine wk1 (x3 l2 lk li) ?_;refine ⟨i+1,by omega,by omega,?_⟩;rw [es];refine LeM [(1001,some 98)] rfl rfl ?_;refine Zz ?_
     repeat' (first | omega | rfl | exact q0F rfl clV | exact q0F (by rw [List.map_append]; rfl) clV | exact q0F (by rw [List.map_append]; rfl) qoi | apply And.intro)
  ·obtain rfl:i=n:=by omega
   have q:¬ (i:Int) < i:=by omega
   clear cA hfi;refine wk1 q ?_;refine q0A (fun j=>j≤i) [3,5,9,11,12,13] [3,5,12,1001] Lk Lk (fun j:Nat=>[(18,iv j),(14,.ow 1003 (some 4) 0 j)]) (fun j=>[(1003,⟨48,some 4,((List.range j).map (vdX i v (vrX F i b z))).map fun V=>pV V,false⟩)]) (fun j=>i-j) 0 (Nat.zero_le _) ?_ ?_
   ·refine LeM [(1003,none)] rfl rfl ?_;refine Zz ?_
    repeat' (first | rfl | exact q0F rfl clV | apply And.intro)
   ·intro j hj;have lj:(((List.range j).map (vdX i v (vrX F i b z))).map fun V=>pV V).length=j:=by simp
    by_cases hlt:j < i
    ·have q:(j:Int) < i:=by omega
     have p0:=ht0 j;have ps:=hss j;have pl:=htl j;have psum:=hts j;have es:=hdD j;have hdj:=hdb j;have cVj:=fun k hk=>cV j k hlt hk;have hTj:=fun k hk=>hT j k hk;have hde:=show vdX i v (vrX F i b z) j=((vsX i v (vrX F i b z) j).natAbs:Int) from rfl;generalize vtL i v (vrX F i b z) j=T at *;generalize vsX i v (vrX F i b z) j=S at *;generalize vdX i v (vrX F i b z) j=d at *;refine wk1 q ?_;refine q0A (fun k=>k≤i) [3,5,9,11,12,13,14,18] [3,5,12,1001,1003] Lk Lk (fun k:Nat=>[(20,iv k),(19,.ow 1004 (some 4) 0 k)]) (fun k=>[(1004,⟨48,some 4,(T k).map fun V=>pV V,false⟩)]) (fun k=>i-k) 0 (Nat.zero_le _) ?_ ?_
     ·rw [p0];refine LeM [(1004,none)] rfl rfl ?_;refine Zz ?_
      repeat' (first | rfl | exact q0F rfl clV | apply And.intro)
     ·intro k hk;have lk:=pl k
      by_cases hlt2:k < i
      ·have l2:(k:Int) < i:=by omega
       have c2:=cVj k hlt2;have e2:=ps k;have MM:=hTj k hlt2;have gk:=hRg k hlt2;generalize ofZ (v.getD (k*i+j) 0)=y at *;generalize vrX F i b z k=r at *;have c3:=q3M MM.1;have N3:=q1M (V:=y);have N4:=q1M (V:=r);have N5:=q1M (V:=prZ y r);refine wk1 (x4 l2 lk gk hRl) ?_;refine ⟨k+1,by omega,by omega,?_⟩;rw [e2];refine LeM [(1004,some 121)] rfl rfl ?_;refine Zz ?_
       repeat' (first | omega | rfl | exact q0F rfl clV | exact q0F (by rw [List.map_append]; rfl) clV | exact q0F (by rw [List.map_append]; rfl) qoi | apply And.intro)
      ·obtain rfl:k=i:=by omega
       have l2:¬ (k:Int) < k:=by omega
       have c5:=q3T (l:=T k) (by omega) (by rw [psum]; unfold q0T; omega);rw [psum] at c5;have c6:=q5g (V:=S);rw [← hde] at c6;have N5:=q1M (V:=S);have N6:=q1M (V:=d);refine wk1 (x3 l2 lk lj) ?_;refine ⟨j+1,by omega,by omega,?_⟩;rw [es];refine LeM [(1003,some 127)] rfl rfl ?_;refine Zz ?_
       repeat' (first | omega | rfl | exact q0F rfl clV | exact q0F (by rw [List.map_append]; rfl) clV | exact q0F (by rw [List.map_append]; rfl) qoi | apply And.intro)
    ·obtain rfl:j=i:=by omega
     have q:¬ (j:Int) < j:=by omega
     clear cV hT;have tk:List.take j (((List.range j).map (vdX j v (vrX F j b z))).map fun V=>pV V)=((List.range j).map (vdX j v (vrX F j b z))).map fun V=>pV V:=List.take_of_length_le (by simp);refine wk1 q ?_;refine q0A (fun i=>i≤j) [5,9,11,12,14] [5,12,1003] Lk Lk (fun i:Nat=>[(22,iv i),(21,.ow 1005 (some 2) 0 i)]) (fun i=>[(1005,⟨58,some 2,(vfL F j v b z i).map fun p=>.ag [uv p.1,uv p.2],false⟩)]) (fun i=>j-i) 0 (Nat.zero_le _) ?_ ?_
     ·rw [hL0];refine LeM [(1005,none)] rfl rfl ?_;refine Zz ?_
      repeat' (first | rfl | exact q0F rfl clV | apply And.intro)
     ·intro i hi;have li:=hLl i
      by_cases hlt:i < j
      ·have q:(i:Int) < j:=by omega
       have gd:=hDg i hlt;have gb:=hBg i hlt;have es:=hLs i;obtain ⟨m1,m2,m3,m4⟩:=hNs i hlt;have nn:=hvn i;obtain ⟨w,hw⟩:∃ w,z[i]?=some w:=⟨_,List.getElem?_eq_getElem Oq⟩;obtain ⟨w1,w2⟩:=hz w (List.mem_of_getElem? hw);rw [getD_some hw] at es;generalize vdX j v (vrX F j b z) i=d at *;generalize btZ j v F i=u at *;generalize vfN F j v b z i=N at *;have c1:=q3M m1;have c2:=q3M m2;have dN:q0T N:=by unfold q0T; omega
       have c3:=q4X (A:=prZ d G) (B:=prZ u M) (by rw [← nn]; exact dN);rw [← nn] at c3;have c4:=CQ N;have r1:=qfT (mode:=2) (a:=N) (b:=G) Oq;have r2:=qkw (mode:=2) (a:=N) (b:=G) Oq;unfold vIv at es;generalize fQ 2 N G=R at *;have c5:=qmt (mode:=1) (.inr (.inl rfl)) ⟨w1,w2⟩ r1 r2;have c6:=qeA (mode:=2) (.inr (.inr rfl)) ⟨w1,w2⟩ r1 r2;generalize qgz 1 w R=a1 at *;generalize qgP 2 w R=a2 at *;have N2:=q1M (V:=d);have N3:=q1M (V:=u);have N4:=q1M (V:=N);have N5:=q1M (V:=prZ d G);have N6:=q1M (V:=prZ u M);refine wk1 (x6 q gd gb hw hDl (x3 hBl li tk)) ?_;refine ⟨i+1,by omega,by omega,?_⟩;rw [es];refine LeM [(1005,some 167)] rfl rfl ?_;refine Zz ?_
       repeat' (first | omega | rfl | exact q0F rfl clV | exact q0F (by rw [List.map_append]; rfl) clV | exact q0F (by rw [List.map_append]; rfl) qoi | apply And.intro)
      ·obtain rfl:i=j:=by omega
       have q:¬ (i:Int) < i:=by omega
       have hcl:(∀ a:Nat × Nat,a ∈ vfL F i v b z i→Cld (PV.ag [uv a.1,uv a.2]))=True:=eq_true fun a _=>by
        intro y hy;simp at hy
        rcases hy with rfl | rfl <;> trivial
       exact wk1 (x3 q li hcl) trivial
end
def mkV_2 {A:Int} (ho:q0T (2*A)):mkV (od A) (dyE A+1)=some (2*A):=by
 have a1:=q6U (V:=A);rw [q3e (V:=2*A) (by omega) ?_,q2C ho];have h0:=q2J (V:=A) (E:=dyE A) a1 (Int.le_refl _);rw [Int.sub_self,show (0:Int).toNat=0 from rfl,Int.pow_zero,Int.mul_one] at h0;rw [show (dyE A+1+65536).toNat=(dyE A+65536).toNat+1 by omega,Int.pow_succ,← Int.mul_assoc,h0,Int.mul_comm]
def qpc:q09 Tryz.prog 272=some (some 2):=by kernel_rfl
attribute [go_sem] qpc
def qrS {T:TypeId} {m i j:Nat} {xs l:List PV} {x:PV} {K:Bk→Prop} (hx:xs[i]?=some (.ag l)) (hj:j < l.length):q8t (some ⟨T,some m,xs,false⟩) (some none) (some 1) i j x K=q1f none x (K ⟨T,some m,xs.set i (.ag (l.set j x)),false⟩):=by
 unfold q8t q1f;refine propext ⟨?_,?_⟩
 ·rintro ⟨b,k',u,u',h1,h2,_,_,h5,h6,h7,h8⟩;cases h1; cases h2;rw [hx] at h6;cases h6;unfold stU at h7;rw [if_neg (by simp)] at h7;simp only at h7;rw [if_pos hj] at h7;cases h7; exact ⟨h5,h8⟩
 ·rintro ⟨h2,h3⟩;exact ⟨_,none,.ag l,.ag (l.set j x),rfl,rfl,rfl,rfl,h2,hx,by unfold stU; rw [if_neg (by simp)]; simp [hj],h3⟩
section
variable {R C:Nat} {F:Nat→Nat→Option Nat} {f:LUt} {b:List Nat} {sg:Bool} {steps:Int}
def qgb {s:Nat} (h:s < 9223372036854775808):decide (s=0∨s=9223372036854775808)=decide (s=0):=by
 by_cases h0:s=0
 ·rw [decide_eq_true h0,decide_eq_true (.inl h0)]
 ·rw [decide_eq_false h0,decide_eq_false (by omega)]
def qge (hm:TOk F R C) (hb:LUb f) (hn:f.rows.length≤20) (hu:∀ v ∈ b,v < 18446744073709551616) (hl:b.length≤1000000) (hs1 : -9223372036854775808≤steps) (hs2:steps≤9223372036854775807):ACt 246 [pT R C F,pLU f,pF b,iv steps,bv sg] (rfV (rfS C F f b (!sg) R steps)):=by
 have cK1:=q9O hm;have cK2:=q9B hb;have rfS0:=qhP (R:=R) (C:=C) (f:=f) (steps:=steps);have cG:=q65 (l:=b) hb Oq hu hl;have hG:=q6R (l:=b) hb hu;have cGr:=fun (l:List Nat) (h1:q08 l) (h2:l.length≤1000000)=>q65 (l:=l) hb Oq (fun x hx=>(h1 x hx).1) h2;have hGr:=fun (l:List Nat) (h1:q08 l)=>q6R (l:=l) hb (fun x hx=>(h1 x hx).1);have hmr:=hm.r;have hmc:=hm.c;unfold rfV rfS
 by_cases hz:rfR R C f steps=0
 case neg =>
  rw [if_pos hz];dsimp only;clear cG hG cGr hGr rfS0;unfold rfR at hz ⊢;unfold pT q2I at *;generalize q5H f=e at *;unfold pLU at *
  by_cases h1:e=0
  ·rw [if_neg (not_not_intro h1)] at hz ⊢;subst h1
   by_cases h2:R=f.rows.length
   ·have q2:((R:Int) != (f.rows.length:Int))=false:=by simp; omega
    by_cases h3:C=f.rows.length
    ·have q3:((C:Int) != (f.rows.length:Int))=false:=by simp; omega
     rw [if_neg (by omega)] at hz ⊢
     by_cases h4:steps < 0
     ·rw [if_pos (.inl h4)];refine ac0 Tryz.func246 Tryz.ntmps246 [.tmp 10,.tmp 11,.tmp 12] ?_;exact wk1 (x3 q2 q3 h4) trivial
     ·by_cases h5:steps > 64
      ·rw [if_pos (.inr h5)];refine ac0 Tryz.func246 Tryz.ntmps246 [.tmp 10,.tmp 11,.tmp 12] ?_;exact wk1 (x4 q2 q3 h4 h5) trivial
      ·rw [if_neg (by omega)] at hz;exact absurd rfl hz
    ·have q3:((C:Int) != (f.rows.length:Int))=true:=by simp; omega
     rw [if_pos (.inr h3)];refine ac0 Tryz.func246 Tryz.ntmps246 [.tmp 10,.tmp 11,.tmp 12] ?_;exact wk1 (x2 q2 q3) trivial
   ·have q2:((R:Int) != (f.rows.length:Int))=true:=by simp; omega
    rw [if_pos (.inl h2)];refine ac0 Tryz.func246 Tryz.ntmps246 [.tmp 10,.tmp 11,.tmp 12] ?_;exact wk1 q2 trivial
  ·rw [if_pos h1];have q:(e != 0)=true:=by simpa using h1
   refine ac0 Tryz.func246 Tryz.ntmps246 [.tmp 10,.tmp 11,.tmp 12] ?_;exact wk1 q trivial
 rw [if_neg (not_not_intro hz)];obtain ⟨hck,hR,hC,s0,s1⟩:=rfS0 hz;rw [hck] at cK2;obtain rfl:C=R:=by omega
 have q2:((C:Int) != (f.rows.length:Int))=false:=by simp; omega
 have q4:¬ steps < 0:=by omega
 have q5:¬ steps > 64:=by omega
 by_cases hg:(lgE f b).2=0
 case neg =>
  rw [if_pos hg];generalize (lgE f b).2=e at *;generalize (lgE f b).1=xs at *;have q:(e != 0)=true:=by simpa using hg
  unfold pT q2I pLU at *;dsimp only;refine ac0 Tryz.func246 Tryz.ntmps246 [.tmp 10,.tmp 11,.tmp 12] ?_;exact wk1 (x4 q2 q4 q5 q) trivial
 rw [if_neg (not_not_intro hg)];obtain ⟨_,hbn,hbf,hxn,hxf⟩:=hG hg;rw [hg] at cG;have cD:=fun (x:List (Nat × Nat)) (h1:qqU x) (h2:x.length=C)=>qq7 (f:=F) (x:=x) (b:=b) hm Oq Oq h1 h2 hbf Oq;generalize (lgE f b).1=x0 at *;have hxl:x0.length=C:=by omega
 have cP:=qcn (l:=x0) Oq;clear hG hg rfS0;have hpl:pT C C F=q2I C C (tM F C C).1 (tM F C C).2.1 (tM F C C).2.2:=rfl;rw [hpl] at cK1 ⊢;simp only [hpl] at cD;clear hpl;unfold q2I at *;generalize (tM F C C).1=ms at *;generalize (tM F C C).2.1=mi at *;generalize (tM F C C).2.2=mv at *;have hrfL:=fun k x r l=>show rfL C F f b (!sg) (k+1) x r l=(
  if q1g r C=0 then (x,l,0) else
  if (lgE f r).2≠0 then ([],[],(lgE f r).2) else
  if ¬ ∀ p ∈ chL (!sg) x (lgE f r).1 C,q0J p.1 then ([],[],233) else
  if ¬ ∀ v ∈ rdL F (chL (!sg) x (lgE f r).1 C) b C C,q0J v then ([],[],233) else
  if ofZ (q1g r C) < 2*ofZ (q1g (rdL F (chL (!sg) x (lgE f r).1 C) b C C) C) then (x,l,0) else
  rfL C F f b (!sg) k (chL (!sg) x (lgE f r).1 C) (rdL F (chL (!sg) x (lgE f r).1 C) b C C) (l ++ [q1g (rdL F (chL (!sg) x (lgE f r).1 C) b C C) C])) from rfl
 have hrf0:=fun x r l=>show rfL C F f b (!sg) 0 x r l=(x,l,0) from rfl;have hdl:=fun x=>q9V (f:=F) (x:=x) (b:=b) (C:=C) (i:=C);have hdu:=fun x=>qmr (f:=F) (x:=x) (b:=b) (C:=C) (i:=C);generalize rfL C F f b (!sg)=RL at *;generalize hdg:(fun x=>rdL F x b C C)=RD at *;have hRD:=fun x=>show rdL F x b C C=RD x from congrFun hdg x;simp only [hRD] at hrfL hdl hdu cD ⊢;clear hRD hdg;unfold pLU at *;generalize hlg:lgE f=LG at *;have hX1:=qmz hxf;have hX2:(x0.map fun v=>(v,0)).length=C:=by rw [List.length_map]; exact hxl
 generalize (x0.map fun v=>(v,0))=X at *;have c2:=cD X hX1 hX2;have hDl0:=hdl X;have hDu:=hdu X;generalize RD X=r0 at *;have C1:=@q0u
 by_cases hf0:∀ v ∈ r0,q0J v
 case neg =>
  rw [if_pos hf0];rw [if_neg hf0] at c2;clear cD;refine ac0 Tryz.func246 Tryz.ntmps246 [.tmp 10,.tmp 11,.tmp 12] ?_;exact wk1 (x3 q2 q4 q5) trivial
 rw [if_neg (not_not_intro hf0)];rw [if_pos hf0] at c2;have hr0:q08 r0:=fun v hv=>⟨hDu v hv,hf0 v hv⟩;have c3:=q64 hr0 Oq;rw [hDl0] at c3;obtain ⟨N,hN⟩:∃ N:Nat,steps=N:=⟨steps.toNat,by omega⟩;subst hN;rw [Int.toNat_natCast];obtain ⟨res,hres⟩:∃ r,r=RL N X r0 [q1g r0 C]:=⟨_,rfl⟩;rw [← hres];refine ac0 Tryz.func246 Tryz.ntmps246 [.tmp 10,.tmp 11,.tmp 12] ?_;refine wk1 (x3 q2 q4 q5) ?_;refine q0A (fun q:Nat × List (Nat × Nat) × List Nat × List Nat=>q.1≤N∧q.2.1.length=C∧qqU q.2.1∧q.2.2.1.length=C∧q08 q.2.2.1∧q.2.2.2.length≤q.1∧RL (N-q.1) q.2.1 q.2.2.1 (q.2.2.2 ++ [q1g q.2.2.1 C])=res) [2,3,4,5,6] [5,6] Lk Lk (fun q=>[(21,iv q.1),(17,pP q.2.1),(18,pF q.2.2.1),(20,.ow 1002 none 0 (q.2.2.2.length+1))]) (fun q=>[(1002,⟨33,none,(q.2.2.2 ++ [q1g q.2.2.1 C]).map fun z:Nat=>uv z,false⟩)]) (fun q=>N-q.1) (0,X,r0,[]) ⟨Nat.zero_le _,hX2,hX1,hDl0,hr0,Nat.zero_le _,hres.symm⟩ ?_ ?_
 ·refine LeM [(1002,some 81)] rfl rfl ?_;refine Zz ?_
  rfl
 ·clear hr0 hX1 hX2 hres hf0 c2 c3 cP hDu hDl0 cK1 cK2 cG hxf hck;rintro ⟨k,x,r,l⟩ ⟨hk,hx1,hx2,hr1,hr2,hl1,hv⟩;simp only at hk hx1 hx2 hr1 hr2 hl1 hv ⊢;have z1:=qaY hr2;have c3:=q64 hr2 Oq;rw [hr1] at z1 c3;have hll:(l ++ [q1g r C]).length=l.length+1:=by simp
  have c4:=q4F (x:=q1g r C);rw [qgb z1.1] at c4
  by_cases hlt:k < N
  ·have hlt':(k:Int) < N:=by omega
   rw [show N-k=(N-(k+1))+1 by omega,hrfL] at hv
   by_cases h0:q1g r C=0
   ·rw [if_pos h0] at hv;subst hv;rw [decide_eq_true h0] at c4;exact wk1 (x2 hlt' hll) trivial
   rw [if_neg h0] at hv;rw [decide_eq_false h0] at c4;have c5:=cGr r hr2 Oq;have h5:=hGr r hr2
   by_cases he:(LG r).2=0
   case neg =>
    rw [if_pos he] at hv;subst hv;generalize (LG r).2=e at *;generalize (LG r).1=ds at *;have q:(e != 0)=true:=by simpa using he
    exact wk1 (x3 hlt' hll q) trivial
   rw [if_neg (not_not_intro he)] at hv;obtain ⟨_,_,_,d1,d2⟩:=h5 he;rw [he] at c5;generalize (LG r).1=d at *;have d1:d.length=C:=by omega
   clear h5 he;have g0:=rwQ_0 (n:=C) (g:=fun j=>chV (!sg) (x.getD j (0,0)) (d.getD j 0));have gn:=rwQ_n (n:=C) (dbl:=!sg) (x:=x) (d:=d);have gl:=fun m=>qmg (n:=C) (g:=fun j=>chV (!sg) (x.getD j (0,0)) (d.getD j 0)) (m:=m);have gs:=fun m=>rwQ_s (n:=C) (g:=fun j=>chV (!sg) (x.getD j (0,0)) (d.getD j 0)) (m:=m);have hY2:=q9p (dbl:=!sg) (x:=x) (d:=d) (n:=C);have hY1:=qfo (dbl:=!sg) (x:=x) (d:=d) (n:=C);have hYm:=fun j (hj:j < C)=>show chV (!sg) (x.getD j (0,0)) (d.getD j 0) ∈ chL (!sg) x d C from List.mem_map_of_mem (List.mem_range.2 hj);have hYx:(∀ j,j < C→q0J (chV (!sg) (x.getD j (0,0)) (d.getD j 0)).1)→∀ p ∈ chL (!sg) x d C,q0J p.1:=fun h p hp=>by
    obtain ⟨j,hj,rfl⟩:=List.mem_map.1 hp;exact h j (List.mem_range.1 hj)
   generalize rwQ C (fun j=>chV (!sg) (x.getD j (0,0)) (d.getD j 0))=G at *;refine wk1 (x3 hlt' hll hx1) ?_;refine q0A (fun i=>i≤C∧∀ j,j < i→q0J (chV (!sg) (x.getD j (0,0)) (d.getD j 0)).1) [2,3,4,5,6,17,18,20,21,22] [5,6,1002] Lk Lk (fun i=>[(25,iv i),(24,.ow 1003 (some 2) 0 C)]) (fun i=>[(1003,⟨272,some 2,(G i).map fun p:Nat × Nat=>.ag [uv p.1,uv p.2],false⟩)]) (fun i=>C-i) 0 ⟨Nat.zero_le _,fun _ h=>by omega⟩ ?_ ?_
   ·refine LeM [(1003,some 104)] rfl rfl ?_;refine Zz ?_;exact ⟨rfl,q0F (by rw [← g0,List.map_replicate]; rfl) qqW⟩
   ·rintro i ⟨hi,hgf⟩
    by_cases hlt2:i < C
    ·have hli:(i:Int) < C:=by omega
     obtain ⟨p,hp⟩:∃ p,x[i]?=some p:=⟨_,List.getElem?_eq_getElem Oq⟩;obtain ⟨v,hdv⟩:∃ v,d[i]?=some v:=⟨_,List.getElem?_eq_getElem Oq⟩;obtain ⟨⟨p1,p2⟩,p3,p4⟩:=hx2 p (List.mem_of_getElem? hp);obtain ⟨v1,v2⟩:=d2 v (List.mem_of_getElem? hdv);have o1:=q0u p1 (q0S p2);have o2:=q0u p3 (q0S p4);have o3:=q0u v1 (q0S v2);have hT:=quR p2 p4 v2;have a1:=q4X (A:=ofZ p.1) (B:=ofZ p.2) (by have:=pZ_bl p2 p4; unfold pZ at this; unfold q0T; omega);have a2:=q4X (A:=ofZ p.1+ofZ p.2) (B:=ofZ v) (by unfold chT at hT; unfold q0T; omega);rw [show ofZ p.1+ofZ p.2+ofZ v=chT p v from rfl] at a2;have c6:=q4O (A:=chT p v);have hgp:x.getD i (0,0)=p:=by rw [List.getD_eq_getElem?_getD,hp]; rfl
     have hgs:=gs i;have hgm:=hYm i hlt2;rw [hgp,getD_some hdv] at hgs hgm;have hcv:chV (!sg) p v=(fR 0 (chT p v),if (!sg)=true then fR 0 (chT p v-ofZ (fR 0 (chT p v))) else 0):=rfl;have hqlt:fR 0 (chT p v) < 18446744073709551616:=q4l;generalize chT p v=T at *;generalize fR 0 T=y at *;have c7:=q1W hqlt;have hget:(((G i).map fun p:Nat × Nat=>PV.ag [uv p.1,uv p.2]).set i (.ag [uv y,.vl (.int .u64 0)]))[i]?=some (.ag [uv y,.vl (.int .u64 0)]):=List.getElem?_set_self (by rw [List.length_map,gl]; exact hlt2)
     by_cases hfy:q0J y
     ·rw [decide_eq_true hfy] at c7;have o4:=q0u hqlt (q0S hfy);have s1:=qfb (A:=T) (B:=ofZ y) (by have:=q8k (a:=T) (b:=ofZ y) (k:=67602) hT (by have:=q18 hfy; omega); unfold q0T; omega);have c8:=q4O (A:=T-ofZ y);have hnx:∀ j,j < i+1→q0J (chV (!sg) (x.getD j (0,0)) (d.getD j 0)).1:=fun j hj=>by
       rcases Nat.lt_succ_iff_lt_or_eq.1 hj with h | rfl
       ·exact hgf j h
       ·rw [hgp,getD_some hdv,hcv]; exact hfy
      have hset:((G i).map fun p:Nat × Nat=>PV.ag [uv p.1,uv p.2]).set i (.ag [uv (chV (!sg) p v).1,uv (chV (!sg) p v).2])=(G (i+1)).map fun p:Nat × Nat=>PV.ag [uv p.1,uv p.2]:=by rw [← hgs,List.map_set]
      rw [hcv] at hset;generalize fR 0 (T-ofZ y)=w at *;clear hYx hYm hgm hgs gs hcv;cases sg
      ·have hsto:=fun (x:PV) (K:Bk→Prop)=>qrS (T:=272) (m:=2) (j:=1) (x:=x) (K:=K) hget (by simp);refine wk1 (x6 hli hx1 hp hdv (gl i) (x2 hget hsto)) ?_;refine ⟨i+1,⟨by omega,hnx⟩,by omega,?_⟩;rw [if_pos (by decide)] at hset;refine LeM [] rfl rfl ?_;refine Zz ?_;exact ⟨by omega,q0F (by rw [List.set_set]; exact hset) qqW⟩
      ·refine wk1 (x6 hli hx1 hp hdv (gl i) hget) ?_;refine ⟨i+1,⟨by omega,hnx⟩,by omega,?_⟩;refine LeM [] rfl rfl ?_;refine Zz ?_;rw [if_neg (by decide)] at hset;exact ⟨by omega,q0F hset qqW⟩
     ·rw [decide_eq_false hfy] at c7;rw [if_pos fun h=>hfy (by have:=h _ hgm; rwa [hcv] at this)] at hv;subst hv;exact wk1 (x6 hli hx1 hp hdv (gl i) hget) trivial
    ·obtain rfl:i=C:=by omega
     have hli:¬ (i:Int) < i:=by omega
     have hYf:=hYx hgf;rw [if_neg (not_not_intro hYf)] at hv;have hY1:=hY1 hYf;rw [gn];generalize chL (!sg) x d i=Y at *;clear hYx hYf hYm gs g0 gn hgf;have c8:=cD Y hY1 hY2;have e1:=hdl Y;have e2:=hdu Y;refine wk1 (x2 hli hx1) ?_;refine q1L (LeM [] rfl rfl (xs:=[(2,pF b),(3,iv N),(4,bv sg),(5,.pt 5 0 0),(6,.pt 6 0 0),(17,pP x),(18,pF r),(20,.ow 1002 none 0 (l.length+1)),(21,iv k),(24,pP Y)]) (kv:=[]) (bs:=[(5,⟨27,some 5,[.ag [iv i,iv i,pI ms,pI mi,pF mv]],false⟩),(6,⟨99,some 8,[.ag [pI f.rows,pI f.cols,pI f.ls,pI f.li,pF f.lv,pI f.us,pI f.ui,pF f.uv]],false⟩),(1002,⟨33,none,(l ++ [q1g r i]).map fun z:Nat=>uv z,false⟩)]) (kb:=[]) ?_) ?_
     ·try refine Zz ?_
      exact q8r (T:=272) rfl qqW rfl (by rw [List.length_map]; omega)
     generalize RD Y=S at *
     by_cases hfs:∀ v ∈ S,q0J v
     case neg =>
      rw [if_pos hfs] at hv;subst hv;rw [if_neg hfs] at c8;exact wk trivial
     rw [if_neg (not_not_intro hfs)] at hv;rw [if_pos hfs] at c8;have hSf:q08 S:=fun v hv=>⟨e2 v hv,hfs v hv⟩;have c9:=q64 hSf Oq;have z2:=qaY hSf;rw [e1] at c9 z2;have o1:=q0u (x:=q1g r i) Oq (q0S z1.2);have o2:=q0u (x:=q1g S i) Oq (q0S z2.2);have sc:=qhL (V:=ofZ (q1g S i)) (j:=1) Oq Oq (mkV_2 (by have:=bl_2 (q18 z2.2); unfold q0T; omega));have lc:=q4q (A:=ofZ (q1g r i)) (B:=2*ofZ (q1g S i))
     by_cases hsm:ofZ (q1g r i) < 2*ofZ (q1g S i)
     ·rw [if_pos hsm] at hv;subst hv;rw [decide_eq_true hsm] at lc;exact wk1 hll trivial
     ·rw [if_neg hsm] at hv;rw [decide_eq_false hsm] at lc;refine wk1 hll ?_;refine ⟨(k+1,Y,S,l ++ [q1g r i]),⟨by simp only; omega,hY2,hY1,e1,hSf,by simp only; rw [hll]; omega,hv⟩,by simp only; omega,?_⟩;simp only;refine LeM [(1002,some 181)] rfl rfl ?_;refine Zz ?_;omega
  ·obtain rfl:k=N:=by omega
   have hlt':¬ (k:Int) < k:=by omega
   rw [Nat.sub_self,hrf0] at hv;subst hv;exact wk1 (x2 hlt' hll) trivial
end
section
variable {R C:Nat} {F:Nat→Nat→Option Nat} {f:LUt} {b x:List Nat} {steps:Int}
abbrev rfH (q:List (Nat × Nat) × List Nat × Int):PV:=.tu [pF (q.1.map (·.1)),pF q.2.1,iv q.2.2]
def qdp {C:Nat} {F:Nat→Nat→Option Nat} {f:LUt} {b:List Nat} {dbl:Bool}:∀ (k:Nat) (x:List (Nat × Nat)) (r l:List Nat),x.length≤C→(rfL C F f b dbl k x r l).1.length≤C∧(rfL C F f b dbl k x r l).2.1.length≤l.length+k
 | 0,x,r,l,h=>⟨h,Nat.le_refl _⟩
 | k+1,x,r,l,h=>by
  rw [rfL]
  split
  ·exact ⟨h,by dsimp only; omega⟩
  split
  ·exact ⟨Nat.zero_le _,Nat.zero_le _⟩
  split
  ·exact ⟨Nat.zero_le _,Nat.zero_le _⟩
  split
  ·exact ⟨Nat.zero_le _,Nat.zero_le _⟩
  split
  ·exact ⟨h,by dsimp only; omega⟩
  ·have:=qdp (F:=F) (f:=f) (b:=b) (dbl:=dbl) k (chL dbl x (lgE f r).1 C) (rdL F (chL dbl x (lgE f r).1 C) b C C) (l ++ [q1g (rdL F (chL dbl x (lgE f r).1 C) b C C) C]) (Nat.le_of_eq q9p);rw [List.length_append,List.length_singleton] at this;exact ⟨this.1,by omega⟩
def qmn {dbl:Bool} (hb:LUb f) (hu:∀ v ∈ b,v < 18446744073709551616) (hC:C≤200):(rfS C F f b dbl R steps).1.length≤200∧(rfS C F f b dbl R steps).2.1.length≤200:=by
 unfold rfS
 by_cases h1:rfR R C f steps≠0
 ·rw [if_pos h1]; exact ⟨Nat.zero_le _,Nat.zero_le _⟩
 rw [if_neg h1];obtain ⟨q1,q2,q3,q4,q5⟩:=qhP (Classical.not_not.1 h1)
 by_cases h2:(lgE f b).2≠0
 ·rw [if_pos h2]; exact ⟨Nat.zero_le _,Nat.zero_le _⟩
 rw [if_neg h2];obtain ⟨_,_,_,p1,_⟩:=q6R hb hu (Classical.not_not.1 h2)
 split
 ·exact ⟨Nat.zero_le _,Nat.zero_le _⟩
 ·have:=qdp (C:=C) (F:=F) (f:=f) (b:=b) (dbl:=dbl) steps.toNat ((lgE f b).1.map fun v=>(v,0)) (rdL F ((lgE f b).1.map fun v=>(v,0)) b C C) [q1g (rdL F ((lgE f b).1.map fun v=>(v,0)) b C C) C] (by rw [List.length_map]; omega);rw [List.length_singleton] at this;exact ⟨by omega,by omega⟩
def qbe (hm:TOk F R C) (hb:LUb f) (hn:f.rows.length≤20) (hu:∀ v ∈ b,v < 18446744073709551616) (hl:b.length≤1000000) (hs1 : -9223372036854775808≤steps) (hs2:steps≤9223372036854775807):ACt 159 [pT R C F,pLU f,pF b,iv steps] (rfH (rfS C F f b false R steps)):=by
 have c1:ACt _ _ (rfV (rfS C F f b false R steps)):=qge (sg:=true) (steps:=steps) hm hb hn hu hl hs1 hs2;have hl2:=(qmn (R:=R) (C:=C) (F:=F) (steps:=steps) (dbl:=false) hb hu hm.c).1;unfold rfH rfV at *;generalize (rfS C F f b false R steps).1=x at *;generalize (rfS C F f b false R steps).2.1=l at *;generalize (rfS C F f b false R steps).2.2=e at *;unfold pT q2I pLU at *;have nn:Nz (iv e):=qcB;refine ac0 Tryz.func159 Tryz.ntmps159 [.tmp 8,.tmp 9,.tmp 10] ?_;refine wk ?_;refine q0A (fun i=>i≤x.length) [11,12,13] [] Lk Lk (fun i:Nat=>[(15,iv i),(14,.ow 1001 none 0 i)]) (fun i=>[(1001,⟨33,none,((x.take i).map (·.1)).map fun z:Nat=>uv z,false⟩)]) (fun i=>x.length-i) 0 (Nat.zero_le _) ?_ ?_
 ·refine LeM [(1001,none)] rfl rfl ?_;refine Zz ?_
  rfl
 ·intro i hi;have htl:(x.take i).length=i:=by rw [List.length_take]; omega
  by_cases hlt:i < x.length
  ·obtain ⟨p,hp⟩:∃ p,x[i]?=some p:=⟨_,List.getElem?_eq_getElem hlt⟩;have e:((x.take (i+1)).map (·.1)).map (fun z:Nat=>uv z)=((x.take i).map (·.1)).map (fun z:Nat=>uv z) ++ [uv p.1]:=by rw [q15 hp,List.map_append,List.map_append]; rfl
   refine wk1 (x2 hp htl) ?_;refine ⟨i+1,by omega,by omega,?_⟩;rw [e];refine LeM [(1001,some 38)] rfl rfl ?_;refine Zz ?_;exact ⟨by omega,q0F rfl (by rw [← e]; exact clU)⟩
  ·obtain rfl:i=x.length:=by omega
   rw [List.take_length];refine wk ?_;exact List.take_of_length_le (by simp)
end

section
variable {raw:List Nat} {n st steps:Int} {w:Bool}
end
section
variable {C:Nat} {F:Nat→Nat→Option Nat} {f:LUt} {b:List Nat}
def qc6 (l:List Nat):Prop:=(∀ v ∈ l,v < 9223372036854775808∧q0J v)∧∀ (k u v:Nat),l[k]?=some u→l[k+1]?=some v→2*ofZ v≤ofZ u
def qc6.snoc {l:List Nat} {a v:Nat} (h:qc6 (l ++ [a])) (hv:v < 9223372036854775808∧q0J v) (h2:2*ofZ v≤ofZ a):qc6 (l ++ [a] ++ [v]):=by
 refine ⟨fun x hx=>?_,fun k u w hu hw=>?_⟩
 ·rcases List.mem_append.1 hx with hx | hx
  ·exact h.1 x hx
  ·simp at hx; subst hx; exact hv
 ·by_cases hk:k+1 < (l ++ [a]).length
  ·rw [List.getElem?_append_left (by omega)] at hu;rw [List.getElem?_append_left hk] at hw;exact h.2 k u w hu hw
  ·have hk2:=(List.getElem?_eq_some_iff.1 hw).1;simp at hk hk2;obtain rfl:k=l.length:=by omega
   rw [List.getElem?_append_left (by simp),List.getElem?_append_right (Nat.le_refl _),Nat.sub_self] at hu;rw [List.getElem?_append_right (by simp),show l.length+1-(l ++ [a]).length=0 by simp] at hw;cases hu; cases hw; exact h2
def RefG (C:Nat) (F:Nat→Nat→Option Nat) (b:List Nat) (q:List (Nat × Nat) × List Nat × Int):Prop:=q.2.2=0→q.1.length=C∧(∀ p ∈ q.1,(p.1 < 18446744073709551616∧q0J p.1)∧p.2=0)∧q08 (rdL F q.1 b C C)∧qc6 q.2.1∧∃ l,q.2.1=l ++ [q1g (rdL F q.1 b C C) C]
def chL_0 {x:List (Nat × Nat)} {d:List Nat} {n:Nat}:∀ p ∈ chL false x d n,p.2=0:=fun p hp=>by
 obtain ⟨j,_,rfl⟩:=List.mem_map.1 hp
 rfl
def qsA:∀ (k:Nat) (x:List (Nat × Nat)) (r l:List Nat),r=rdL F x b C C→x.length=C→(∀ p ∈ x,(p.1 < 18446744073709551616∧q0J p.1)∧p.2=0)→q08 r→qc6 (l ++ [q1g r C])→RefG C F b (rfL C F f b false k x r (l ++ [q1g r C]))
 | 0,x,r,l,hr,h1,h2,h3,h4=>fun _=>⟨h1,h2,hr ▸ h3,h4,l,by rw [hr]; rfl⟩
 | k+1,x,r,l,hr,h1,h2,h3,h4=>by
  rw [rfL]
  by_cases c1:q1g r C=0
  ·rw [if_pos c1]; exact fun _=>⟨h1,h2,hr ▸ h3,h4,l,by rw [hr]⟩
  rw [if_neg c1]
  by_cases c2:(lgE f r).2≠0
  ·rw [if_pos c2]; exact fun h=>(c2 h).elim
  rw [if_neg c2]
  by_cases c3:¬ ∀ p ∈ chL false x (lgE f r).1 C,q0J p.1
  ·rw [if_pos c3]; exact fun h=>by cases h
  rw [if_neg c3]
  by_cases c4:¬ ∀ v ∈ rdL F (chL false x (lgE f r).1 C) b C C,q0J v
  ·rw [if_pos c4]; exact fun h=>by cases h
  rw [if_neg c4]
  by_cases c5:ofZ (q1g r C) < 2*ofZ (q1g (rdL F (chL false x (lgE f r).1 C) b C C) C)
  ·rw [if_pos c5]; exact fun _=>⟨h1,h2,hr ▸ h3,h4,l,by rw [hr]⟩
  rw [if_neg c5];have hfin:q08 (rdL F (chL false x (lgE f r).1 C) b C C):=fun v hv=>⟨qmr v hv,Classical.not_not.1 c4 v hv⟩;have hsz:=qaY hfin;rw [q9V] at hsz;refine qsA k _ _ (l ++ [q1g r C]) rfl q9p (fun p hp=>⟨⟨(qfo (Classical.not_not.1 c3) p hp).1.1,Classical.not_not.1 c3 p hp⟩,chL_0 p hp⟩) hfin (h4.snoc hsz Oq)
def rfS_G {R:Nat} {steps:Int} (hb:LUb f) (hu:∀ v ∈ b,v < 18446744073709551616):RefG C F b (rfS C F f b false R steps):=by
 unfold rfS
 by_cases c1:rfR R C f steps≠0
 ·rw [if_pos c1]; exact fun h=>(c1 h).elim
 rw [if_neg c1];obtain ⟨_,_,hC,_,_⟩:=qhP (Classical.not_not.1 c1)
 by_cases c2:(lgE f b).2≠0
 ·rw [if_pos c2]; exact fun h=>(c2 h).elim
 rw [if_neg c2];obtain ⟨_,_,_,e1,e2⟩:=q6R hb hu (Classical.not_not.1 c2)
 by_cases c3:¬ ∀ v ∈ rdL F ((lgE f b).1.map fun v=>(v,0)) b C C,q0J v
 ·rw [if_pos c3]; exact fun h=>by cases h
 rw [if_neg c3];have hfin:q08 (rdL F ((lgE f b).1.map fun v=>(v,0)) b C C):=fun v hv=>⟨qmr v hv,Classical.not_not.1 c3 v hv⟩;have hsz:=qaY hfin;rw [q9V] at hsz;have hH:qc6 ([] ++ [q1g (rdL F ((lgE f b).1.map fun v=>(v,0)) b C C) C]):=⟨fun x hx=>by simp at hx; subst hx; exact hsz,fun k u v hu hv=>by simp at hv⟩;exact qsA _ _ _ [] rfl (by rw [List.length_map]; omega) (fun p hp=>by
  obtain ⟨v,hv,rfl⟩:=List.mem_map.1 hp;exact ⟨e2 v hv,rfl⟩) hfin hH
end
abbrev pBo (m:Nat) (v z:List Nat):PV:=.ag [iv m,iv m,.ow 5000 none 0 v.length,pF z]
section
variable {F:Nat→Nat→Option Nat} {n m:Nat} {b z v:List Nat}
def BxOk (F:Nat→Nat→Option Nat) (n m:Nat) (v z:List Nat):Prop:=(m=n∧v.length=n*n∧q08 v∧z.length=n∧q08 z∧¬ q2i≤grZ (btL n v F))∨(m=0∧v=[]∧z=[])
def LeBn {J:Nat→Prop} {h:Hp} (hJ:∀ i,¬ J i) {k:Int}:Le J (fun _=>.tu [q01,.ag [iv 0,iv 0,q01,q01],iv k]) h (fun _=>.tu [.un,pBo 0 [] [],.un]) (q0Q h0 5000 ⟨33,none,([]:List Nat).map fun z:Nat=>uv z,false⟩) :=
 b5n hJ fun _=>.tu rfl fun i x y hx hy=>by
  rcases i with _ | _ | _ | i
  ·cases hx; cases hy; exact .un
  ·cases hx; cases hy;exact .ag rfl fun i x y hx hy=>by
    rcases i with _ | _ | _ | _ | i
    ·cases hx; cases hy; exact .cl trivial
    ·cases hx; cases hy; exact .cl trivial
    ·cases hx; cases hy; exact .nilow rfl q0I rfl
    ·cases hx; cases hy; exact .nilsl
    ·simp at hx
  ·cases hx; cases hy; exact .un
  ·simp at hx
def qq8 (h:TOk F n n) (hn:n≤20) (hb:q08 b) (hbl:b.length=n):∃ m v z,BxOk F n m v z∧qcj 59 [pT n n F,pF b] h0 (.tu [.un,pBo m v z,.un]) (q0Q h0 5000 ⟨33,none,v.map fun z:Nat=>uv z,false⟩):=by
 have hJ:∀ i,¬ (h0 i≠none):=fun i h=>h rfl;have hJe:(fun i=>(h0:Hp) i≠none)=fun _=>False:=funext fun i=>eq_false (hJ i);have C1:=q9O h;have D3:=q2n (l:=b) (fun x hx=>(hb x hx).1) Oq;rw [decide_eq_true fun x hx=>(hb x hx).2] at D3;have cL:=qhf (num:=1) (den:=1) h Oq (cols:=q7w n) (qdE n) Oq Oq Oq;have hLL:LUb (qkv F (tM F n n).2.1 n (q7w n) 1 1)∧(qkv F (tM F n n).2.1 n (q7w n) 1 1).rows.length≤n:=qtM (by omega) (by rw [q6e]; omega);unfold facP at cL;obtain ⟨e0,he0⟩:∃ e0,e0=(q2v F (tM F n n).2.1 n (q7w n) 1 1 n).1:=⟨_,rfl⟩;rw [← he0] at cL;clear he0;obtain ⟨k0,hk0⟩:∃ k0:Nat,k0=(if e0=0 then n else (q2v F (tM F n n).2.1 n (q7w n) 1 1 n).2.1:Nat):=⟨_,rfl⟩;rw [← hk0] at cL;clear hk0;generalize qkv F (tM F n n).2.1 n (q7w n) 1 1=f at *;obtain ⟨hLb,hLr⟩:=hLL;have cV:=qgd hLb Oq;have hI:=qsr (g:=f) hLb;have cR:=qbe (steps:=2) h hLb Oq (fun x hx=>(hb x hx).1) Oq Oq Oq;have hG:=rfS_G (C:=n) (F:=F) (f:=f) (b:=b) (R:=n) (steps:=2) hLb fun x hx=>(hb x hx).1;unfold rfH at cR;obtain ⟨x,hx⟩:∃ x,x=(rfS n F f b false n 2).1.map (·.1):=⟨_,rfl⟩;have hxo:(rfS n F f b false n 2).2.2=0→x.length=n∧q08 x:=fun q=>by
  obtain ⟨g1,g2,_⟩:=hG q;refine ⟨by rw [hx,List.length_map]; exact g1,fun y hy=>?_⟩;rw [hx] at hy;obtain ⟨p,hp,rfl⟩:=List.mem_map.1 hy;exact (g2 p hp).1
 rw [← hx] at cR;have hnr:(rfS n F f b false n 2).2.2=0→n=f.rows.length:=fun q=>by
  unfold rfS at q
  by_cases c1:rfR n n f 2≠0
  ·rw [if_pos c1] at q; exact (c1 q).elim
  ·exact (qhP (Classical.not_not.1 c1)).2.1
 clear hx hG;generalize (rfS n F f b false n 2).2.1=sz at *;generalize (rfS n F f b false n 2).2.2=e3 at *;have hI1:=hI.1;have hI2:=hI.2.1;clear hI;generalize (ivA f).1=M at *;generalize (ivA f).2.1=W at *;generalize (ivA f).2.2=e2 at *;have hres:∃ m v z,BxOk F n m v z∧((e0=0∧e2=0∧e3=0∧(vfO F n W b x).2=true)→m=n∧v=W∧z=x)∧(¬ (e0=0∧e2=0∧e3=0∧(vfO F n W b x).2=true)→m=0∧v=[]∧z=[]):=by
  by_cases c:e0=0∧e2=0∧e3=0∧(vfO F n W b x).2=true
  ·obtain ⟨c0,c2,c3,c4⟩:=c;obtain ⟨x1,x2⟩:=hxo c3;obtain ⟨w1,w2⟩:=hI1 c2;refine ⟨n,W,x,.inl ⟨rfl,by rw [w2,← hnr c3],hI2,x1,x2,fun q=>?_⟩,fun _=>⟨rfl,rfl,rfl⟩,fun q=>(q ⟨c0,c2,c3,c4⟩).elim⟩;unfold vfO at c4;rw [if_pos q] at c4;cases c4
  ·exact ⟨0,[],[],.inr ⟨rfl,rfl,rfl⟩,fun q=>(c q).elim,fun _=>⟨rfl,rfl,rfl⟩⟩
 obtain ⟨m,v,z,hok,hp,hq⟩:=hres;refine ⟨m,v,z,hok,?_⟩;have cW:e2=0→e3=0→M=n∧ACt 160 [pT n n F,pF b,pBx n W x] (.tu [.un,bv (vfO F n W b x).2,iv 0]):=fun c2 c3=>by
  obtain ⟨x1,x2⟩:=hxo c3;obtain ⟨w1,w2⟩:=hI1 c2;have hn3:=hnr c3;exact ⟨by omega,qbd h hn (by rw [w2,← hn3]) hI2 hb hbl x2 x1⟩
 clear hok hI1 hxo hnr;have q1:((b.length:Int) != (n:Int))=false:=by simp; omega
 have q0:((n:Int) != (n:Int))=false:=by simp
 generalize (vfO F n W b x).2=ok at *;have NB:Nz (.tu [.un,bv ok,iv 0]):=nz_tu fun x hx=>by
  simp at hx
  rcases hx with rfl | rfl | rfl
  ·exact fun w D B v hB h=>by unfold Rd; trivial
  ·exact qcB
  ·exact qcB
 unfold pLU at cL cV cR;unfold pBx at cW;unfold pT q2I at *;generalize (tM F n n).1=ms at *;generalize (tM F n n).2.1=mi at *;generalize (tM F n n).2.2=mv at *;refine qgQ quX Tryz.func59 rfl Tryz.ntmps59 (by kernel_rfl) ?_ ?_ ?_ ?_
 ·intro i b hb; cases hb
 ·intro i b hb
  by_cases hi:i=5000
  ·subst hi; exact ⟨by omega,by omega⟩
  ·rw [q0B hi] at hb; cases hb
 ·exact IdL.of fun x hx=>by
   simp at hx
   rcases hx with rfl | rfl
   ·unfold IdP;exact IdL.of fun x hx=>by
     simp at hx
     rcases hx with rfl | rfl | rfl | rfl | rfl <;> unfold IdP <;> trivial
   ·unfold IdP; trivial
 have hW:WfH h0:=⟨fun i b hb=>by cases hb⟩;rw [hJe];refine wk1 (x2 q0 q1) ?_;refine q0U (fun i=>i≤n) [1,2,4,5,6,8] [2,5] Lk Lk (fun i:Nat=>[(10,iv i),(9,.ow 1001 none 0 i)]) (fun i=>[(1001,⟨3,none,(q7w i).map fun z=>iv z,false⟩)]) (fun _=>h0) (fun i=>n-i) 0 (Nat.zero_le _) ?_ ?_
 ·refine LeW [(1001,none)] rfl rfl ?_ ?_ (by simp [q0x,q0g,win]) ?_
  ·exact Ow
  ·exact hW
  ·try refine Zz ?_
   first | done | rfl | exact ⟨rfl,rfl⟩
 ·intro i hi;have l1:=q6e i;have l2:=qdD i
  by_cases hlt:i < n
  ·have q:(i:Int) < n:=by omega
   refine wk1 (x2 q l1) ?_;refine ⟨i+1,by omega,by omega,?_⟩;rw [l2];refine LeW [(1001,some 58)] rfl rfl ?_ ?_ (by simp [q0x,q0g,win]) ?_
   ·exact Ow
   ·exact hW
   ·try refine Zz ?_
    omega
  ·obtain rfl:i=n:=by omega
   have q:¬ (i:Int) < i:=by omega
   refine wk1 q ?_;refine q1L (LeW [] rfl rfl (hw:=h0) (xs:=[(1,pF b),(2,.pt 2 0 0),(4,q01),(5,.pt 5 0 0),(6,iv 0),(8,iv i),(9,pI (q7w i))]) (kv:=[]) (bs:=[(2,⟨27,some 5,[.ag [iv i,iv i,pI ms,pI mi,pF mv]],false⟩),(5,⟨37,some 4,[.ag [iv 0,iv 0,q01,q01]],false⟩)]) (kb:=[]) ?_ hW (by simp [q0x,q0g,win]) ?_) ?_
   ·exact Ow
   ·try refine Zz ?_
    refine ql7 (T:=3) (l:=(q7w i).map fun z=>iv z) ?_ clI ?_ (by rw [List.length_map,l1])
    ·try simp -implicitDefEqProofs (disch:=omega) only [go_sem,Nat.reduceEqDiff,Nat.reduceAdd,↓reduceIte]
    ·try simp -implicitDefEqProofs (disch:=omega) only [go_sem,Nat.reduceEqDiff,Nat.reduceAdd,↓reduceIte]
   by_cases g0:e0=0
   rotate_left
   ·have q2:(e0 != 0)=true:=by simpa using g0
    obtain ⟨rfl,rfl,rfl⟩:=hq fun q=>g0 q.1;clear cV cW cR;refine wk1 q2 ?_;refine (rtM (rs:=[.tmp 4,.cell 5 37,.tmp 6]) rfl rfl Lq ?_ (.inl rfl));exact LeBn hJ
   subst g0;refine wk ?_;refine qlg fun K hK=>?_;refine Zz ?_;refine jmF cV ?_ ?_
   ·exact Ow
   try refine Zz ?_
   refine hK _ _ ?_; clear hK K
   by_cases g2:e2=0
   rotate_left
   ·have q2:(e2 != 0)=true:=by simpa using g2
    obtain ⟨rfl,rfl,rfl⟩:=hq fun q=>g2 q.2.1;clear cW cR;refine wk1 q2 ?_;refine (rtM (rs:=[.tmp 4,.cell 5 37,.tmp 6]) rfl rfl Lq ?_ (.inl rfl));exact LeBn hJ
   subst g2
   by_cases g3:e3=0
   rotate_left
   ·have q2:(e3 != 0)=true:=by simpa using g3
    obtain ⟨rfl,rfl,rfl⟩:=hq fun q=>g3 q.2.2.1;clear cW;refine wk1 q2 ?_;refine (rtM (rs:=[.tmp 4,.cell 5 37,.tmp 6]) rfl rfl Lq ?_ (.inl rfl));exact LeBn hJ
   subst g3;obtain ⟨rfl,cW⟩:=cW rfl rfl;have tk:List.take W.length (W.map fun z:Nat=>uv z)=W.map fun z:Nat=>uv z:=List.take_of_length_le (by simp);cases ok
   ·obtain ⟨rfl,rfl,rfl⟩:=hq fun q=>by cases q.2.2.2
    refine wk1 tk ?_;refine (rtM (rs:=[.tmp 4,.cell 5 37,.tmp 6]) rfl rfl Lq ?_ (.inl rfl));exact LeBn hJ
   ·obtain ⟨rfl,rfl,rfl⟩:=hp ⟨rfl,rfl,rfl,rfl⟩;refine wk1 tk ?_;refine (rtM (rs:=[.tmp 4,.cell 5 37,.tmp 6]) rfl rfl Lq ?_ (.inl rfl));refine b5 (a:=5000) hJ ?_ clU fun _=>.tu rfl fun i x y hx hy=>?_
    ·try simp -implicitDefEqProofs (disch:=omega) only [go_sem,Nat.reduceEqDiff,Nat.reduceAdd,↓reduceIte]
    ·rcases i with _ | _ | _ | i
     ·cases hx; cases hy; exact .un
     ·cases hx; cases hy;exact .ag rfl fun i x y hx hy=>by
       rcases i with _ | _ | _ | _ | i
       ·cases hx; cases hy; exact .cl trivial
       ·cases hx; cases hy; exact .cl trivial
       ·cases hx; cases hy; exact .ow (if_pos rfl) q0I
       ·cases hx; cases hy; exact .cl trivial
       ·simp at hx
     ·cases hx; cases hy; exact .un
     ·simp at hx
end
def sqX (raw:List Nat) (s k x:Nat):Nat:=(x+s*(q5L raw (k:Int) % 1000)) % 18446744073709551616
def sqL (raw:List Nat) (s:Nat) (p:List Nat) (i:Nat):List Nat:=(List.range p.length).map fun k=>if k < i then sqX raw s k (p.getD k 0) else p.getD k 0
section
variable {raw p:List Nat} {s i N:Nat} {st sp n:Int} {rg wild:Bool}
def q6p:(sqL raw s p i).length=p.length:=by unfold sqL; simp
def sqL_0:sqL raw s p 0=p:=by
 unfold sqL;refine List.ext_getElem? fun k=>?_;rw [List.getElem?_map]
 by_cases h:k < p.length
 ·rw [List.getElem?_range h,Option.map_some,if_neg (by omega),List.getD_eq_getElem?_getD,List.getElem?_eq_getElem h]; rfl
 ·rw [List.getElem?_eq_none (by simpa using h),List.getElem?_eq_none (by omega)]; rfl
def qm4 (h:i < p.length):(sqL raw s p i)[i]?=some (p.getD i 0):=by
 unfold sqL;rw [List.getElem?_map,List.getElem?_range h,Option.map_some,if_neg (by omega)]
def sqL_s (h:i < p.length):(sqL raw s p i).set i (sqX raw s i (p.getD i 0))=sqL raw s p (i+1):=by
 refine List.ext_getElem? fun k=>?_;rw [List.getElem?_set,q6p];unfold sqL;rw [List.getElem?_map,List.getElem?_map]
 by_cases hk:k < p.length
 ·rw [List.getElem?_range hk,Option.map_some,Option.map_some]
  by_cases e:i=k
  ·subst e; rw [if_pos rfl,if_pos hk,if_pos (by omega)]
  ·rw [if_neg e]
   by_cases h2:k < i
   ·rw [if_pos h2,if_pos (by omega)]
   ·rw [if_neg h2,if_neg (by omega)]
 ·rw [List.getElem?_eq_none (by simpa using hk),if_neg (by omega)]; rfl
def sqL_u (hp:∀ x ∈ p,x < 18446744073709551616):∀ x ∈ sqL raw s p i,x < 18446744073709551616:=fun x hx=>by
 unfold sqL at hx;obtain ⟨k,hk,rfl⟩:=List.mem_map.1 hx
 split
 ·exact Nat.mod_lt _ Oq
 ·have hk:=List.mem_range.1 hk;rw [List.getD_eq_getElem?_getD,List.getElem?_eq_getElem hk];exact hp _ (List.getElem_mem hk)
def qeH (hr:raw.length≤9223372036854775807) (h1 : -9223372036854775808≤n) (h2:n≤9223372036854775807) (h3 : -9223372036854775808≤st) (h4:st≤9223372036854775807) :
  ACt 14 [pF raw,iv n,iv st,bv rg] (.tu [pT (q00 n 5) (q00 n 5) (ckT raw (q00 n 5) st rg),pF (q4r raw 30 (q00 st 4) (q00 n 5))]):=by
 have cM:=q3c (a:=n) (n:=5) h1 h2 Oq Oq;have hN:q00 n 5 < 5:=by unfold q00; omega
 generalize q00 n 5=N at *;have cG:=q3R (raw:=raw) (st:=st) (R:=N) (C:=N) hr Oq Oq h3 h4;have cR:=qbs (raw:=raw) (st:=st) (n:=N) hr Oq h3 h4;have cV:=qdC (raw:=raw) (k:=30) (st:=st) (n:=N) hr Oq Oq Oq h3 h4;have e1:rg=false→ckT raw N st rg=gF raw N (q00 st 4):=fun q=>by subst q; rfl
 have e2:rg=true→ckT raw N st rg=rgF (gF raw N (q00 (q00 st 3:Nat) 4)) N:=fun q=>by subst q; rfl
 generalize q4r raw 30 (q00 st 4) N=y at *;cases rg
 ·rw [e1 rfl];clear e1 e2 cR;generalize gF raw N (q00 st 4)=F at *;unfold pT q2I at *;refine ac0 Tryz.func14 Tryz.ntmps14 [.cell 8 27,.tmp 9] ?_;exact wk trivial
 ·rw [e2 rfl];clear e1 e2 cG;generalize rgF (gF raw N (q00 (q00 st 3:Nat) 4)) N=F at *;unfold pT q2I at *;refine ac0 Tryz.func14 Tryz.ntmps14 [.cell 8 27,.tmp 9] ?_;exact wk trivial
def PfOk (raw:List Nat) (F:Nat→Nat→Option Nat) (n s:Nat) (w y:List Nat):Prop:=y.length=n∧q08 y∧∃ v,w=sqL raw s v v.length∧v.length=n*n∧((q08 v∧¬ q2i≤grZ (btL n v F))∨v=q4r raw 500 (q00 2 4) (n*n)∨n=0)
def qnA {F:Nat→Nat→Option Nat} {n:Nat} {b:List Nat} (hr:raw.length≤9223372036854775807) (h5 : -9223372036854775808≤sp) (h6:sp≤9223372036854775807) (h:TOk F n n) (hn:n≤4) (hb:q08 b) (hbl:b.length=n) :
  ∃ w y,PfOk raw F n (q00 sp 4) w y∧qcj 15 [pT n n F,pF b,pF raw,iv sp,bv wild] h0 (pBo n w y) (q0Q h0 5000 ⟨33,none,w.map fun z:Nat=>uv z,false⟩):=by
 have hJ:∀ i,¬ (h0 i≠none):=fun i h=>h rfl;have hJe:(fun i=>(h0:Hp) i≠none)=fun _=>False:=funext fun i=>eq_false (hJ i);have cS:=q3c (a:=sp) (n:=4) h5 h6 Oq Oq;have hs:q00 sp 4 < 4:=by unfold q00; omega
 generalize q00 sp 4=s at *;obtain ⟨M,V,Z,hB,cB⟩:=qq8 h Oq hb hbl;have cP:=q8N (raw:=raw) (r:=n) (c:=n) (st:=2) hr Oq Oq Oq Oq;have cV:=qdC (raw:=raw) (k:=8) (st:=0) (n:=n) hr Oq Oq Oq Oq Oq;have hVl:=q2S (raw:=raw) (k:=500) (st:=q00 2 4) (n:=n*n);have hVf:=q29 (raw:=raw) (k:=500) (st:=q00 2 4) (n:=n*n);have hYl:=q2S (raw:=raw) (k:=8) (st:=q00 0 4) (n:=n);have hYf:=q29 (raw:=raw) (k:=8) (st:=q00 0 4) (n:=n);have hres:∃ v y,PfOk raw F n s (sqL raw s v v.length) y∧v.length=n*n∧(∀ x ∈ v,x < 18446744073709551616)∧((wild=true∨Z.length≠n)→v=q4r raw 500 (q00 2 4) (n*n)∧y=q4r raw 8 (q00 0 4) n)∧(¬ (wild=true∨Z.length≠n)→M=n∧v=V∧y=Z):=by
  by_cases c:wild=true∨Z.length≠n
  ·exact ⟨_,_,⟨hYl,fun x hx=>hYf x hx,_,rfl,hVl,.inr (.inl rfl)⟩,hVl,fun x hx=>(hVf x hx).1,fun _=>⟨rfl,rfl⟩,fun q=>(q c).elim⟩
  ·have hz:Z.length=n:=Classical.not_not.1 fun q=>c (.inr q)
   rcases hB with ⟨b1,b2,b3,b4,b5,b6⟩ | ⟨b1,b2,b3⟩
   ·exact ⟨V,Z,⟨b4,b5,V,rfl,b2,.inl ⟨b3,b6⟩⟩,b2,fun x hx=>(b3 x hx).1,fun q=>(c q).elim,fun _=>⟨b1,rfl,rfl⟩⟩
   ·subst b2 b3;have hn0:n=0:=hz.symm;subst hn0;exact ⟨[],[],⟨rfl,fun x hx=>(by cases hx),[],rfl,rfl,.inr (.inr rfl)⟩,rfl,fun x hx=>(by cases hx),fun q=>(c q).elim,fun _=>⟨b1,rfl,rfl⟩⟩
 obtain ⟨p,y,hpf,hpl,hpu,hp1,hp2⟩:=hres;refine ⟨_,y,hpf,?_⟩;have hMl:M*0=0:=Nat.mul_zero M;have hyl:=hpf.1;clear hpf hB hVf hYf hMl;generalize q4r raw 500 (q00 2 4) (n*n)=VV at *;generalize q4r raw 8 (q00 0 4) n=YY at *;have hNN:n*n≤4*4:=Nat.mul_le_mul Oq Oq;have hql:(sqL raw s p p.length).length=n*n:=by rw [q6p]; exact hpl
 unfold pBo;rw [hql];unfold pT q2I at *;generalize (tM F n n).1=ms at *;generalize (tM F n n).2.1=mi at *;generalize (tM F n n).2.2=mv at *;refine qgQ qu0 Tryz.func15 rfl Tryz.ntmps15 (by kernel_rfl) ?_ ?_ ?_ ?_
 ·intro i b hb; cases hb
 ·intro i b hb
  by_cases hi:i=5000
  ·subst hi; exact ⟨by omega,by omega⟩
  ·rw [q0B hi] at hb; cases hb
 ·exact IdL.of fun x hx=>by
   simp at hx
   rcases hx with rfl | rfl | rfl | rfl | rfl <;> unfold IdP
   ·exact IdL.of fun x hx=>by
     simp at hx
     rcases hx with rfl | rfl | rfl | rfl | rfl <;> unfold IdP <;> trivial
   all_goals trivial
 rw [hJe];refine wk ?_;refine qlg fun K hK=>?_;refine Zz ?_;refine jmF cB ?_ ?_
 ·exact Ow
 try refine Zz ?_
 refine hK _ _ ?_; clear hK K;refine wk ?_;refine qpv fun K hK=>?_;have q47:∀ (s0:Nat→PV) (h:Hp),Le (fun _=>False) s0 h (stM [(2,pF raw),(3,iv sp),(10,.pt 10 0 0),(12,.pt 12 0 0)] []) (q0v (q0Q h0 5000 ⟨33,none,p.map fun z:Nat=>uv z,false⟩) (hpM [(10,⟨37,some 4,[.ag [iv 0,iv 0,q01,q01]],false⟩),(12,⟨37,some 4,[.ag [iv n,iv n,.ow 5000 none 0 (n*n),pF y]],false⟩)] []))→K s0 h:=by
  intro s0 h hl;refine hK _ _ (q1L hl ?_); clear hK K hl;refine wk ?_;refine q0U (fun i=>i≤n*n) [2,3,10,12] [10,12] Lk Lk (fun i:Nat=>[(14,iv i)]) (fun _=>[]) (fun i=>q0Q h0 5000 ⟨33,none,(sqL raw s p i).map fun z:Nat=>uv z,false⟩) (fun i=>n*n-i) 0 (Nat.zero_le _) ?_ ?_
  ·rw [sqL_0];refine LeW [] rfl rfl ?_ ?_ (by simp [q0x,q0g,win]) ?_
   ·exact Ow
   ·exact qqD _
   ·try refine Zz ?_
    rfl
  ·intro i hi
   by_cases hlt:i < n*n
   ·have q:(i:Int) < ((n*n:Nat):Int):=by omega
    have C1:=q6b (raw:=raw) (k:=(i:Int)) hr Oq Oq;have l1:=q6p (raw:=raw) (s:=s) (p:=p) (i:=i);have l2:=qm4 (raw:=raw) (s:=s) (p:=p) (i:=i) Oq;have l3:=sqL_s (raw:=raw) (s:=s) (p:=p) (i:=i) Oq;have hx:p.getD i 0 < 18446744073709551616:=by
     rw [List.getD_eq_getElem?_getD,List.getElem?_eq_getElem (by omega)];exact hpu _ (List.getElem_mem _)
    have e1:((q5L raw (i:Int):Nat):Int).tmod 1000=((q5L raw (i:Int) % 1000:Nat):Int):=rfl;have e6:sqX raw s i (p.getD i 0)=(p.getD i 0+s*(q5L raw (i:Int) % 1000)) % 18446744073709551616:=rfl;have hw:=q3H raw (i:Int);generalize sqL raw s p i=P at *;generalize p.getD i 0=x at *;generalize sqX raw s i x=y' at *;generalize q5L raw (i:Int)=w at *;obtain ⟨m,hm⟩:∃ m,m=w % 1000:=⟨_,rfl⟩;rw [← hm] at e1 e6;have hmm:m < 1000:=by omega
    have e2:IntKind.i64.wrap ((m:Nat):Int)=(m:Int):=i64_in Oq Oq;have hsm:s*m≤3*1000:=Nat.mul_le_mul Oq Oq;have e3:IntKind.i64.wrap ((s:Int)*(m:Int))=((s*m:Nat):Int):=by rw [← Int.natCast_mul,i64_in (by omega) (by omega)]
    have e4:IntKind.u64.wrap ((s*m:Nat):Int)=((s*m:Nat):Int):=u64_in Oq Oq;have e5:IntKind.u64.wrap ((x:Int)+((s*m:Nat):Int))=((y':Nat):Int):=by rw [q0k,e6]; omega
    have N1:Nz (uv (w:Nat)):=qcB;have N2:Nz (iv (s:Nat)):=qcB;generalize s*m=sm at *;refine wk1 (x6 q l1 l2 e1 e2 (x3 e3 e4 e5)) ?_;refine ⟨i+1,by omega,by omega,?_⟩;rw [← l3];refine LeW [] rfl rfl ?_ ?_ (by simp [q0x,q0g,win]) ?_
    ·intro c hc
     by_cases ec:c=5000
     ·subst ec;rw [q0I,q0I,List.map_set]
     ·rw [q0B ec,q0W hc,q0B ec,q0B ec]
    ·exact qqD _
    ·try refine Zz ?_
     omega
   ·obtain rfl:i=n*n:=by omega
    have q:¬ ((n*n:Nat):Int) < ((n*n:Nat):Int):=by omega
    rw [hpl];refine wk1 q ?_;refine (rtM (rs:=[.cell 10 37]) rfl rfl Lq ?_ (.inl rfl));refine LeF ?_ (fun i b hb=>?_) (qqD _) (.ag rfl fun i x y hx hy=>?_)
    ·exact Ow
    ·by_cases hi:i=5000
     ·subst hi; exact ⟨by omega,by omega⟩
     ·rw [q0B hi] at hb; cases hb
    ·rcases i with _ | _ | _ | _ | i
     ·cases hx; cases hy; exact .cl trivial
     ·cases hx; cases hy; exact .cl trivial
     ·cases hx; cases hy; exact .ow rfl q0I
     ·cases hx; cases hy; exact .cl trivial
     ·simp at hx
 by_cases c:wild=true∨Z.length≠n
 rotate_left
 ·obtain ⟨rfl,rfl,rfl⟩:=hp2 c;obtain rfl:wild=false:=by
   cases wild
   ·rfl
   ·exact (c (.inl rfl)).elim
  have q3:((p.length:Int) != (p.length:Int))=false:=by simp
  have q4:((y.length:Int) != (M:Int))=false:=by simp; omega
  refine wk1 q4 ?_;refine q47 _ _ ?_;rw [← hpl];refine LeW [] rfl rfl ?_ ?_ (by simp [q0x,q0g,win]) ?_
  ·exact Ow
  ·exact qqD _
  ·try simp -implicitDefEqProofs (disch:=omega) only [go_sem,Nat.reduceEqDiff,Nat.reduceAdd,↓reduceIte]
 ·obtain ⟨rfl,rfl⟩:=hp1 c;cases wild
  ·have q4:((Z.length:Int) != (n:Int))=true:=by
    rcases c with c | c
    ·cases c
    ·simp; omega
   refine wk1 q4 ?_;refine q1L (LeM [] rfl rfl (xs:=[(2,pF raw),(3,iv sp),(5,.pt 5 0 0),(10,.pt 10 0 0),(12,.pt 12 0 0)]) (kv:=[]) (bs:=[(5,⟨27,some 5,[.ag [iv n,iv n,pI ms,pI mi,pF mv]],false⟩),(10,⟨37,some 4,[.ag [iv 0,iv 0,q01,q01]],false⟩),(12,⟨37,some 4,[.un],false⟩)]) (kb:=[]) ?_) ?_
   ·try simp -implicitDefEqProofs (disch:=omega) only [go_sem,Nat.reduceEqDiff,Nat.reduceAdd,↓reduceIte]
   refine qba q4k (.one 0 (.one 1 (.one 3 (.one 6 (.one 7 (.alt (.one 2 (.alt (.one 4 (.alt (.one 5 (.one 8 (.one 9 (.one 10 (.one 11 .fin))))) (.one 8 (.one 5 (.one 9 (.one 10 (.one 11 .fin))))))) (.one 8 (.one 4 (.one 5 (.one 9 (.one 10 (.one 11 .fin)))))))) (.alt (.one 4 (.alt (.one 2 (.alt (.one 5 (.one 8 (.one 9 (.one 10 (.one 11 .fin))))) (.one 8 (.one 5 (.one 9 (.one 10 (.one 11 .fin))))))) (.one 8 (.one 2 (.one 5 (.one 9 (.one 10 (.one 11 .fin)))))))) (.one 8 (.alt (.one 2 (.one 4 (.one 5 (.one 9 (.one 10 (.one 11 .fin)))))) (.one 4 (.one 2 (.one 5 (.one 9 (.one 10 (.one 11 .fin))))))))))))))) (by kernel_rfl) fun K9 hK9=>?_;refine Zz ?_
   repeat' (with_reducible apply And.intro)
   all_goals
    refine jmF cP ?_ ?_
    ·exact Ow
    try refine Zz ?_
    refine jc ?_
    try refine Zz ?_
    refine q0P cV ?_
    try refine Zz ?_
    refine hK9 _ _ (q47 _ _ ?_);refine LeW [] rfl rfl ?_ ?_ (by simp [q0x,q0g,win]) ?_
    ·exact Ow
    ·exact qqD _
    ·try simp -implicitDefEqProofs (disch:=omega) only [go_sem,Nat.reduceEqDiff,Nat.reduceAdd,↓reduceIte]
  ·refine wk ?_;refine q1L (LeM [] rfl rfl (xs:=[(2,pF raw),(3,iv sp),(5,.pt 5 0 0),(10,.pt 10 0 0),(12,.pt 12 0 0)]) (kv:=[]) (bs:=[(5,⟨27,some 5,[.ag [iv n,iv n,pI ms,pI mi,pF mv]],false⟩),(10,⟨37,some 4,[.ag [iv 0,iv 0,q01,q01]],false⟩),(12,⟨37,some 4,[.un],false⟩)]) (kb:=[]) ?_) ?_
   ·try simp -implicitDefEqProofs (disch:=omega) only [go_sem,Nat.reduceEqDiff,Nat.reduceAdd,↓reduceIte]
   refine qba q4k (.one 0 (.one 1 (.one 3 (.one 6 (.one 7 (.alt (.one 2 (.alt (.one 4 (.alt (.one 5 (.one 8 (.one 9 (.one 10 (.one 11 .fin))))) (.one 8 (.one 5 (.one 9 (.one 10 (.one 11 .fin))))))) (.one 8 (.one 4 (.one 5 (.one 9 (.one 10 (.one 11 .fin)))))))) (.alt (.one 4 (.alt (.one 2 (.alt (.one 5 (.one 8 (.one 9 (.one 10 (.one 11 .fin))))) (.one 8 (.one 5 (.one 9 (.one 10 (.one 11 .fin))))))) (.one 8 (.one 2 (.one 5 (.one 9 (.one 10 (.one 11 .fin)))))))) (.one 8 (.alt (.one 2 (.one 4 (.one 5 (.one 9 (.one 10 (.one 11 .fin)))))) (.one 4 (.one 2 (.one 5 (.one 9 (.one 10 (.one 11 .fin))))))))))))))) (by kernel_rfl) fun K9 hK9=>?_;refine Zz ?_
   repeat' (with_reducible apply And.intro)
   all_goals
    refine jmF cP ?_ ?_
    ·exact Ow
    try refine Zz ?_
    refine jc ?_
    try refine Zz ?_
    refine q0P cV ?_
    try refine Zz ?_
    refine hK9 _ _ (q47 _ _ ?_);refine LeW [] rfl rfl ?_ ?_ (by simp [q0x,q0g,win]) ?_
    ·exact Ow
    ·exact qqD _
    ·try simp -implicitDefEqProofs (disch:=omega) only [go_sem,Nat.reduceEqDiff,Nat.reduceAdd,↓reduceIte]
end

end Go.Proofs.YtpbaikoblfcmdaaGreatDoor
