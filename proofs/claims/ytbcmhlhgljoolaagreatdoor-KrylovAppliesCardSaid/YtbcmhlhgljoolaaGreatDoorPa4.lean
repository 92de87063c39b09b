/- KrylovApplies. Part 4 of 5: Ab12, TaB, Ab13, Ab15, Ac1, Ac2, Ab16, Wk, Ad0, D1, R1, R2, Q1, Q2, Q3, D2, D3, D4, D5, D6, Do, P18, P19, P20, S1, S2, S3, S4, G4, S6, Ab14, Q4, Y1, Ad1, T14, T15, T16, Y2, Y3, T17, T1, T4, T5, T6, T7, T8, T9, T10, T11, T12, T13, T18, T28, T29, T30, T2, T3, T19, T22. -/
import Derived.Test.YtbcmhlhgljoolaaGreatDoorPa3
set_option linter.unusedSimpArgs false
set_option linter.unusedVariables false
set_option maxRecDepth 20000
set_option maxHeartbeats 2000000
namespace Go.E
open Go Go.RowKit
class Cn (α:Type) where
 k:α
def cK (p:Prop) [A:Cn Prop]:Prop:=p∧A.k
def oK {α:Type} (o:Option α) [K:Cn (α→Prop)]:Prop:=q21 o K.k
def nnK (o:Option Bk) (d:Nat) (A:Prop):Prop:=(o=none∧d < 5000)∧A
def q2K (k:Kd) (x:PV) (A:Prop):Prop:=q64 k x∧A
def vK (x:PV) (K:PV→Prop):Prop:=K x
def ldK (o:Option (PV × List Nat)) [K:Cn (PV→List Nat→Prop)]:Prop:=match o with | some (x,l)=>K.k x l | none=>False
def pgA (o:Option Bool) (b:Bool) [A:Cn Prop] [B:Cn Prop]:Prop:=match o with | some c=>if c=b then A.k else B.k | none=>False
def mkA (bytes:Nat) (l c:PV) (K:Nat→Prop):Prop:=match l,c with | .vl (.int _ a),.vl (.int _ b)=>a=b∧0≤a∧bytes*a.toNat≤281474976710656∧a.toNat≤maxLen∧K a.toNat | _,_=>False
def qac (k:Kd) (l:List PV) (A:Prop):Prop:=(∀ x ∈ l,q64 k x)∧A
def q9G (o:Option Bk) (k:Option Kd) (m:Option Nat) (i j:Nat) (x:PV) (K:Bk→Prop):Prop :=
 ∃ b k' u u',o=some b∧k=some k'∧m=some (ksz k')∧b.st=false∧q64 k' x∧b.xs[i]?=some u∧stU b.k k' j u x=some u'∧K { b with xs:=b.xs.set i u' }
def qmP (h:Hp) (k:Option Kd) (m:Option Nat) (p x:PV) (K:Nat→Bk→Prop):Prop:=match p with | .pt id i j=>q9G (h id) k m i j x (K id) | _=>False
def qiY (o:Option Bk) (E:TypeId) (k k':Kd) (off n id:Nat) (K:List PV→Option Nat→Prop):Prop:=∃ b,o=some b∧(b.st=false∧b.T=E∧b.k=k∧k'=k∧off=0∧n=b.xs.length)∧K b.xs (some id)
def qiZ (h:Hp) (E:TypeId) (k:Kd) (p:PV) (K:List PV→Option Nat→Prop):Prop:=match p with
 | .vl (.slice none 0 0)=>K [] none
 | .ow id k' off n=>qiY (h id) E k k' off n id K
 | _=>False
def qnW (h:Hp) (i0:Option Nat) (b:Bk):Hp:=match i0 with | none=>h | some i=>q08 h i b
def qiX (o:Option Bk) (k k':Kd) (off n id:Nat) (K:List PV→List Nat→Prop):Prop:=∃ b,o=some b∧(b.st=false∧b.k=k∧k'=k)∧K ((b.xs.drop off).take n) [id]
def qeQ (h:Hp) (k:Kd) (p:PV) (K:List PV→List Nat→Prop):Prop:=match p with
 | .vl (.slice none 0 0)=>K [] []
 | .sl k' l=>k'=k∧K l []
 | .ow id k' off n=>qiX (h id) k k' off n id K
 | _=>False
noncomputable def cO {α:Type} (p:Prop) (o:Option α):Option α:=open Classical in if p then o else none
def ClL (l:List PV):Prop:=∀ x ∈ l,Cld x
noncomputable def clB (o:Option Bk) (id:Nat) (k:Kd) (off n:Nat):Option (PV × List Nat):=open Classical in o.bind fun b=>if b.st=false∧b.k=k∧∀ x ∈ b.xs,Cld x then some (.sl k ((b.xs.drop off).take n),[id]) else none
def qdW (a:Option (PV × List Nat)) (b:Option (List PV × List Nat)):Option (List PV × List Nat):=a.bind fun a=>b.map fun b=>(a.1 :: b.1,a.2 ++ b.2)
def q5W (P:Program) (Tb:World→Prop) (f:FuncId) (o:Option (List PV × List Nat)) [K:Cn (PV→List Nat→Prop)]:Prop:=∃ al ids x,o=some (al,ids)∧AC P Tb f al x∧(ids=[]∨Nz x)∧K.k x ids
def ao (P : Program) (Tb : World → Prop) (d : Option Nat) (op : Op) (s : Nat → PV) (h : Hp) (K : PV → Hp → FP → Prop) : Prop := ∃ x h' fp, Stp P Tb ⟨d, op, 0, "", #[], none⟩ s h x h' fp ∧ K x h' fp
def qpb (prs:List (Nat × Nat)) (acc:List FP):Prop:=chk prs acc.reverse
section
variable {P:Program} {Tb:World→Prop}
@[congr] theorem qoY {o o':Option Bk} {d:Nat} {A:Prop} (h:o=o'):nnK o d A=nnK o' d A:=by rw [h]
@[congr] theorem qmY {k:Kd} {x x':PV} {A:Prop} (h:x=x'):q2K k x A=q2K k x' A:=by rw [h]
@[congr] theorem qmX {k:Kd} {x x':List PV} {A:Prop} (h:x=x'):qac k x A=qac k x' A:=by rw [h]
@[congr] theorem vK_congr {x x':PV} {K:PV→Prop} (h:x=x'):vK x K=vK x' K:=by rw [h]
@[congr] theorem qo3 {y:Nat} {l l' c c':PV} {K:Nat→Prop} (h:l=l') (h':c=c'):mkA y l c K=mkA y l' c' K:=by rw [h,h']
@[congr] theorem qmQ {o o':Option Bk} {k k':Option Kd} {m m':Option Nat} {i j:Nat} {x:PV} {K:Bk→Prop} (h1:o=o') (h2:k=k') (h3:m=m'):q9G o k m i j x K=q9G o' k' m' i j x K:=by rw [h1,h2,h3]
@[congr] theorem qmO {h:Hp} {k k':Option Kd} {m m':Option Nat} {p p' x x':PV} {K:Nat→Bk→Prop} (h1:p=p') (h2:x=x'):qmP h k m p x K=qmP h k m p' x' K:=by rw [h1,h2]
@[congr] theorem qm7 {o o':Option Bk} {E:TypeId} {k k':Kd} {off n id:Nat} {K:List PV→Option Nat→Prop} (h:o=o'):qiY o E k k' off n id K=qiY o' E k k' off n id K:=by rw [h]
@[congr] theorem qm8 {h:Hp} {E:TypeId} {k:Kd} {p p':PV} {K:List PV→Option Nat→Prop} (h1:p=p'):qiZ h E k p K=qiZ h E k p' K:=by rw [h1]
@[congr] theorem qm5 {o o':Option Bk} {k k':Kd} {off n id:Nat} {K:List PV→List Nat→Prop} (h:o=o'):qiX o k k' off n id K=qiX o' k k' off n id K:=by rw [h]
@[congr] theorem qm6 {h:Hp} {k:Kd} {p p':PV} {K:List PV→List Nat→Prop} (h1:p=p'):qeQ h k p K=qeQ h k p' K:=by rw [h1]
@[congr] theorem ao_congr {d:Option Nat} {op:Op} {s:Nat→PV} {h:Hp} {K:PV→Hp→FP→Prop}:ao P Tb d op s h K=ao P Tb d op s h K:=rfl
@[congr] theorem AL_congr {ops l:List Oper} {K:(Nat→PV)→Hp→List FP→Prop} {s:Nat→PV} {h:Hp} {acc:List FP}:AL P Tb ops K l s h acc=AL P Tb ops K l s h acc:=rfl
@[congr] theorem AW_congr {J:Nat→Prop} {n:Nat} {c:Code} {Q:SQ} {s:Nat→PV} {h:Hp}:AW P Tb J n c Q s h=AW P Tb J n c Q s h:=rfl
theorem cK_t {A:Prop}:@cK True ⟨A⟩=A:=by simp [cK]
theorem cK_of {p A:Prop} (h:p):@cK p ⟨A⟩=A:=by simp [cK,h]
theorem nnK_n {A:Prop} {d:Nat}:nnK none d A=@cK (d < 5000) ⟨A⟩:=by simp [nnK,cK]
theorem oK_s {α:Type} {x:α} {K:α→Prop}:@oK _ (some x) ⟨K⟩=K x:=rfl
theorem vK_v {x:PV} {K:PV→Prop}:vK x K=K x:=rfl
theorem ldK_s {x:PV} {l:List Nat} {K:PV→List Nat→Prop}:@ldK (some (x,l)) ⟨K⟩=K x l:=rfl
theorem qoL {A B:Prop}:@pgA (some true) true ⟨A⟩ ⟨B⟩=A:=by simp [pgA]
theorem qoM {A B:Prop}:@pgA (some true) false ⟨A⟩ ⟨B⟩=B:=by simp [pgA]
theorem qoN {A B:Prop}:@pgA (some false) true ⟨A⟩ ⟨B⟩=B:=by simp [pgA]
theorem qoO {A B:Prop}:@pgA (some false) false ⟨A⟩ ⟨B⟩=A:=by simp [pgA]
theorem mkA_n {y n:Nat} {k k':IntKind} {K:Nat→Prop}:mkA y (.vl (.int k (n:Int))) (.vl (.int k' (n:Int))) K=@cK (y*n≤281474976710656∧n≤9223372036854775807) ⟨K n⟩:=by
 simp only [mkA,cK,Int.toNat_natCast,maxLen,true_and];exact propext ⟨fun h=>⟨⟨h.2.1,h.2.2.1⟩,h.2.2.2⟩,fun h=>⟨by omega,h.1.1,h.1.2,h.2⟩⟩
theorem qh8 {k:IntKind} {z:Int} {A:Prop}:q2K none (.vl (.int k z)) A=@cK (q4H (.int k z)=true) ⟨A⟩:=by simp [q2K,q64,qcz,qjo,cK,Value.oneCell']
theorem qpB {b:Bool} {A:Prop}:q2K none (.vl (.bool b)) A=A:=by simp [q2K,q64,qcz,qjo,Value.oneCell',q4H]
theorem qkc {a:Option Addr} {m c:Nat} {A:Prop}:q2K none (.vl (.slice a m c)) A=A:=by simp [q2K,q64,qcz,qjo,Value.oneCell',q4H]
theorem qow {k:Kd} {l:List PV} {A:Prop}:q2K none (.sl k l) A=A:=by simp [q2K,q64,qcz]
theorem qoy {id off m:Nat} {k:Kd} {A:Prop}:q2K none (.ow id k off m) A=A:=by simp [q2K,q64,qcz]
theorem qox {id i j:Nat} {A:Prop}:q2K none (.pt id i j) A=A:=by simp [q2K,q64,qcz]
theorem qpC {m:Nat} {l:List PV} {A:Prop}:q2K (some m) (.ag l) A=@cK (l.length=m) ⟨qac none l A⟩:=by
 simp only [q2K,q64,cK,qac,and_assoc]
theorem q99 {k:Kd} {A:Prop}:qac k [] A=A:=by simp [qac]
theorem q9a {k:Kd} {x:PV} {l:List PV} {A:Prop}:qac k (x :: l) A=q2K k x (qac k l A):=by simp [qac,q2K,and_assoc]
theorem qpA {m:Nat} {G:Fam} {A:Prop} (hf:∀ D v w,In G D v w→q2b (some m) v):q2K (some m) (.fm G) A=A:=by simp only [q2K,q64]; exact propext ⟨fun h=>h.2,fun h=>⟨hf,h⟩⟩
theorem qnR {h:Hp} {k:Option Kd} {m:Option Nat} {id i j:Nat} {x:PV} {K:Nat→Bk→Prop}:qmP h k m (.pt id i j) x K=q9G (h id) k m i j x (K id):=rfl
theorem qhC {T:TypeId} {k:Kd} {xs:List PV} {i:Nat} {x:PV} {K:Bk→Prop}:q9G (some ⟨T,k,xs,false⟩) (some k) (some (ksz k)) i 0 x K=@cK (i < xs.length) ⟨q2K k x (K ⟨T,k,xs.set i x,false⟩)⟩:=by
 simp only [q9G,cK,q2K];refine propext ⟨?_,?_⟩
 ·rintro ⟨b,k',u,u',h1,h2,_,_,h5,h6,h7,h8⟩;cases h1; cases h2;have hlt:=(List.getElem?_eq_some_iff.1 h6).1;simp only [stU,and_self,if_true] at h7;cases h7;exact ⟨hlt,h5,h8⟩
 ·rintro ⟨h1,h2,h3⟩;exact ⟨_,k,_,x,rfl,rfl,rfl,rfl,h2,List.getElem?_eq_getElem h1,by simp [stU],h3⟩
theorem qiz {T:TypeId} {xs:List PV} {i:Nat} {x:PV} {K:Bk→Prop}:q9G (some ⟨T,none,xs,false⟩) (some none) (some 1) i 0 x K=@cK (i < xs.length) ⟨q2K none x (K ⟨T,none,xs.set i x,false⟩)⟩:=qhC
theorem qiy {T:TypeId} {m:Nat} {xs:List PV} {i:Nat} {x:PV} {K:Bk→Prop}:q9G (some ⟨T,some m,xs,false⟩) (some (some m)) (some m) i 0 x K=@cK (i < xs.length) ⟨q2K (some m) x (K ⟨T,some m,xs.set i x,false⟩)⟩:=qhC
theorem qnT {T:TypeId} {m j:Nat} {l:List PV} {x:PV} {K:Bk→Prop}:q9G (some ⟨T,some m,[.ag l],false⟩) (some none) (some 1) 0 j x K=@cK (j < l.length) ⟨q2K none x (K ⟨T,some m,[.ag (l.set j x)],false⟩)⟩:=by
 simp only [q9G,cK,q2K];refine propext ⟨?_,?_⟩
 ·rintro ⟨b,k',u,u',h1,h2,_,_,h5,h6,h7,h8⟩;cases h1; cases h2;simp at h6;subst h6;unfold stU at h7;rw [if_neg (by simp)] at h7;simp only at h7
  split at h7
  ·cases h7; exact ⟨by assumption,h5,h8⟩
  ·cases h7
 ·rintro ⟨h1,h2,h3⟩;exact ⟨_,none,.ag l,.ag (l.set j x),rfl,rfl,rfl,rfl,h2,rfl,by unfold stU; rw [if_neg (by simp)]; simp [h1],h3⟩
theorem qnS {T:TypeId} {n m j:Nat} {l r:List PV} {K:Bk→Prop} (hn:n≠m):q9G (some ⟨T,some n,[.ag l],false⟩) (some (some m)) (some m) 0 j (.ag r) K=@cK (r.length=m∧j+m≤l.length) ⟨q2K (some m) (.ag r) (K ⟨T,some n,[.ag (l.take j ++ r ++ l.drop (j+m))],false⟩)⟩:=by
 have e:stU (some n) (some m) j (.ag l) (.ag r)=if r.length=m∧j+m≤l.length then some (.ag (l.take j ++ r ++ l.drop (j+m))) else none:=by
  unfold stU; rw [if_neg (by simp [hn])]
 simp only [q9G,cK,q2K];refine propext ⟨?_,?_⟩
 ·rintro ⟨b,k',u,u',h1,h2,_,_,h5,h6,h7,h8⟩;cases h1; cases h2;simp at h6;subst h6;rw [e] at h7
  split at h7
  ·cases h7; exact ⟨by assumption,h5,h8⟩
  ·cases h7
 ·rintro ⟨h1,h2,h3⟩;exact ⟨_,some m,.ag l,_,rfl,rfl,rfl,rfl,h2,rfl,by rw [e,if_pos h1],h3⟩
theorem ldU_b {a b c d:PV}:ldU (some 4) (some 2) 1 (.ag [a,b,c,d])=some (.ag [b,c]):=by simp [ldU]
theorem qqK {h:Hp} {E:TypeId} {k:Kd} {K:List PV→Option Nat→Prop}:qiZ h E k (.vl (.slice none 0 0)) K=K [] none:=rfl
theorem qqJ {h:Hp} {E:TypeId} {k k':Kd} {id off m:Nat} {K:List PV→Option Nat→Prop}:qiZ h E k (.ow id k' off m) K=qiY (h id) E k k' off m id K:=rfl
theorem qqI {E:TypeId} {k:Kd} {xs:List PV} {id m:Nat} {K:List PV→Option Nat→Prop}:qiY (some ⟨E,k,xs,false⟩) E k k 0 m id K=@cK (m=xs.length) ⟨K xs (some id)⟩:=by
 simp [qiY,cK]
theorem qqH {h:Hp} {k:Kd} {K:List PV→List Nat→Prop}:qeQ h k (.vl (.slice none 0 0)) K=K [] []:=rfl
theorem qqF {h:Hp} {k:Kd} {l:List PV} {K:List PV→List Nat→Prop}:qeQ h k (.sl k l) K=K l []:=by simp [qeQ]
theorem qqG {h:Hp} {k k':Kd} {id off m:Nat} {K:List PV→List Nat→Prop}:qeQ h k (.ow id k' off m) K=qiX (h id) k k' off m id K:=rfl
theorem qqE {T:TypeId} {k:Kd} {xs:List PV} {off m id:Nat} {K:List PV→List Nat→Prop}:qiX (some ⟨T,k,xs,false⟩) k k off m id K=K ((xs.drop off).take m) [id]:=by
 simp [qiX]
variable {d:Option Nat} {ty t:TypeId} {pos:String} {af:Array Edge} {g:Option (Nat × Bool)} {s:Nat→PV} {h:Hp} {K:PV→Hp→FP→Prop} {ops r:List Oper} {KL:(Nat→PV)→Hp→List FP→Prop} {acc:List FP} {dd:Nat}
theorem qr0:AL P Tb ops KL [] s h acc=KL s h acc:=rfl
theorem AL_n {op:Op}:AL P Tb ops KL (⟨d,op,ty,pos,af,none⟩ :: r) s h acc=ao P Tb d op s h fun x h' fp=>AL P Tb ops KL r (q2w s d x) h' (fp :: acc):=rfl
theorem AL_g {op:Op} {j:Nat} {b:Bool}:AL P Tb ops KL (⟨d,op,ty,pos,af,some (j,b)⟩ :: r) s h acc=@pgA (q2g ops s j b) b ⟨ao P Tb d op s h fun x h' fp=>AL P Tb ops KL r (q2w s d x) h' (fp :: acc)⟩ ⟨AL P Tb ops KL r (q2w s d (.vl undef)) h (([],[]) :: acc)⟩:=by
 refine propext ⟨?_,fun hp=>?_⟩
 ·rintro ⟨x,h',fp,hg,hk⟩;unfold q6q at hg;simp only at hg;obtain ⟨c,hc,hg⟩:=hg;unfold pgA;rw [hc];simp only
  split at hg
  ·rename_i hcb; rw [if_pos hcb]; exact ⟨x,h',fp,hg,hk⟩
  ·rename_i hcb; rw [if_neg hcb]; obtain ⟨rfl,rfl,rfl⟩:=hg; exact hk
 ·unfold pgA at hp
  split at hp
  ·rename_i c hc
   split at hp
   ·rename_i hcb;obtain ⟨x,h',fp,hg,hk⟩:=hp;exact ⟨x,h',fp,by unfold q6q; exact ⟨c,hc,by rw [if_pos hcb]; exact hg⟩,hk⟩
   ·rename_i hcb;exact ⟨.vl undef,h,([],[]),by unfold q6q; exact ⟨c,hc,by rw [if_neg hcb]; exact ⟨rfl,rfl,rfl⟩⟩,hp⟩
  ·exact hp.elim
theorem q4E {α:Type} {o:Option α} {K:α→Prop}:@oK _ o ⟨K⟩=∃ a,o=some a∧K a:=by
 cases o <;> simp [oK,q21]
theorem q3G {op : Op} (hs : ∀ x h' fp, Stp P Tb ⟨d, op, 0, "", #[], none⟩ s h x h' fp = (q4Y P op (pe s) = some x ∧ h' = h ∧ fp = ([], []))) : ao P Tb d op s h K = @oK _ (q4Y P op (pe s)) ⟨fun x => K x h ([], [])⟩ := by
 rw [q4E];unfold ao;refine propext ⟨?_,?_⟩
 ·rintro ⟨x,h',fp,h1,h2⟩;rw [hs] at h1;obtain ⟨h1,rfl,rfl⟩:=h1;exact ⟨x,h1,h2⟩
 ·rintro ⟨x,h1,h2⟩;exact ⟨x,h,([],[]),by rw [hs]; exact ⟨h1,rfl,rfl⟩,h2⟩
theorem qlh {x}:ao P Tb d (.move x) s h K=vK (pe s x) fun x=>K x h ([],[]):=q3G fun _ _ _=>rfl
theorem qdm {x}:ao P Tb d (.assign x) s h K=vK (pe s x) fun x=>K x h ([],[]):=q3G fun _ _ _=>rfl
theorem qlg {c a b}:ao P Tb d (.pick c a b) s h K=@oK _ (pkP (pe s c) (pe s a) (pe s b)) ⟨fun x=>K x h ([],[])⟩:=q3G fun _ _ _=>rfl
theorem qg3 {op x y t'}:ao P Tb d (.binOp op t x y t') s h K=@oK _ (bnP P op t (pe s x) (pe s y)) ⟨fun x=>K x h ([],[])⟩:=q3G fun _ _ _=>rfl
theorem qlf {op x}:ao P Tb d (.unOp op t x) s h K=@oK _ (unP op (pe s x)) ⟨fun x=>K x h ([],[])⟩:=q3G fun _ _ _=>rfl
theorem qan {a b x}:ao P Tb d (.convert a b x) s h K=@oK _ (cvP (P.underlying a) (P.underlying b) (pe s x)) ⟨fun x=>K x h ([],[])⟩:=q3G fun _ _ _=>rfl
theorem q7e {x f}:ao P Tb d (.fieldAddr t x f) s h K=@oK _ (qmW P t f (pe s x)) ⟨fun x=>K x h ([],[])⟩:=q3G fun _ _ _=>rfl
theorem qam {x i}:ao P Tb d (.extract x i) s h K=@oK _ (exP i (pe s x)) ⟨fun x=>K x h ([],[])⟩:=q3G fun _ _ _=>rfl
theorem q8g {x}:ao P Tb d (.nilCheck x) s h K=@oK _ (nlP (pe s x)) ⟨fun x=>K x h ([],[])⟩:=q3G fun _ _ _=>rfl
theorem q7d {x i}:ao P Tb d (.indexAddr t x i) s h K=@oK _ (q95 (q0p P t) (pe s x) (pe s i)) ⟨fun x=>K x h ([],[])⟩:=q3G fun _ _ _=>rfl
theorem qg0 {x lo hi}:ao P Tb d (.slice t x lo hi none) s h K=@oK _ (slP (q0p P t) (lo.map (pe s)) (hi.map (pe s)) (pe s x)) ⟨fun x=>K x h ([],[])⟩:=q3G fun _ _ _=>rfl
theorem fnP_q {f:FuncId} {z:Int}:fnP (.func f) #[] [.qt none (.vl (.int .i64 z))]=some (.fm (fFun f z)):=rfl
theorem qqP {fn:Fn} {cap:List Operand} {first:Array Operand}:ao P Tb d (.makeFunc fn first cap.toArray) s h K=@oK _ (fnP fn first (cap.map (pe s))) ⟨fun x=>K x h ([],[])⟩:=q3G fun _ _ _=>rfl
theorem qg1 {ps:List (Nat × Operand)}:ao P Tb d (.build t ps.toArray) s h K=@oK _ (blP P t (ps.map fun p=>(p.1,pe s p.2))) ⟨fun x=>K x h ([],[])⟩:=q3G fun _ _ _=>rfl
theorem qqO {x}:ao P Tb d (.call ⟨.builtin .len,#[x],#[t]⟩) s h K=@oK _ (qmT (q0p P t) (pe s x)) ⟨fun x=>K x h ([],[])⟩:=q3G fun _ _ _=>rfl
theorem qqN {x y ts}:ao P Tb d (.call ⟨.builtin .max,#[x,y],ts⟩) s h K=@oK _ (mmP true [pe s x,pe s y]) ⟨fun x=>K x h ([],[])⟩:=q3G fun _ _ _=>rfl
theorem qqM {x y ts}:ao P Tb d (.call ⟨.builtin .min,#[x,y],ts⟩) s h K=@oK _ (mmP false [pe s x,pe s y]) ⟨fun x=>K x h ([],[])⟩:=q3G fun _ _ _=>rfl
theorem qlj {a}:ao P Tb d (.load t a) s h K=@ldK (ldP h (q0g P t) (pe s a)) ⟨fun x l=>K x h (l,[])⟩:=by
 unfold ao ldK;refine propext ⟨?_,fun hk=>?_⟩
 ·rintro ⟨x,h',fp,⟨r,h1,rfl,rfl,rfl⟩,hk⟩;rw [h1];exact hk
 ·split at hk
  ·rename_i x l hl;exact ⟨x,h,(l,[]),⟨(x,l),hl,rfl,rfl,rfl⟩,hk⟩
  ·exact hk.elim
theorem qg4:ao P Tb (some dd) (.alloc t) s h K=nnK (h dd) dd (@oK _ (alB P t) ⟨fun b=>K (.pt dd 0 0) (q08 h dd b) ([],[dd])⟩):=by
 unfold ao nnK;rw [q4E];refine propext ⟨?_,?_⟩
 ·rintro ⟨x,h',fp,⟨d,b,h1,h2,h3,rfl,rfl,rfl⟩,hk⟩;cases h1;exact ⟨h2,b,h3,hk⟩
 ·rintro ⟨h2,b,h3,hk⟩;exact ⟨_,_,_,⟨dd,b,rfl,h2,h3,rfl,rfl,rfl⟩,hk⟩
theorem qqU {v}:ao P Tb (some dd) (.box t v) s h K=nnK (h dd) dd (@oK _ (q0g P t) ⟨fun k=>vK (pe s v) fun x=>q2K k x (K (.pt dd 0 0) (q08 h dd ⟨t,k,[x],false⟩) ([],[dd]))⟩):=by
 unfold ao nnK q2K vK;rw [q4E];refine propext ⟨?_,?_⟩
 ·rintro ⟨x,h',fp,⟨d,k,h1,h2,h3,h4,rfl,rfl,rfl⟩,hk⟩;cases h1;exact ⟨h2,k,h3,h4,hk⟩
 ·rintro ⟨h2,k,h3,h4,hk⟩;exact ⟨_,_,_,⟨dd,k,rfl,h2,h3,h4,rfl,rfl,rfl⟩,hk⟩
theorem qg2 {len:Nat} {ps:List (Nat × Operand)} (hp:ps.map (·.1)=List.range len):ao P Tb (some dd) (.buildSlice t len ps.toArray) s h K=nnK (h dd) dd (@oK _ (elK P t) ⟨fun e=>@cK (len*ksz e.2.1≤16777216) ⟨qac e.2.1 (ps.map fun p=>pe s p.2) (K (.ow dd e.2.1 0 len) (q08 h dd ⟨e.1,e.2.1,ps.map fun p=>pe s p.2,false⟩) ([],[dd]))⟩⟩):=by
 unfold ao nnK qac cK;rw [q4E];refine propext ⟨?_,?_⟩
 ·rintro ⟨x,h',fp,⟨d,E,k,bytes,h1,h2,h3,h4,h5,h6,rfl,rfl,rfl⟩,hk⟩;cases h1;exact ⟨h2,(E,k,bytes),h3,h5,fun x hx=>by obtain ⟨p,hp,rfl⟩:=List.mem_map.1 hx; exact h6 p hp,hk⟩
 ·rintro ⟨h2,⟨E,k,bytes⟩,h3,h5,h6,hk⟩;exact ⟨_,_,_,⟨dd,E,k,bytes,rfl,h2,h3,hp,h5,fun p hp=>h6 _ (List.mem_map.2 ⟨p,hp,rfl⟩),rfl,rfl,rfl⟩,hk⟩
theorem qqT:ao P Tb (some dd) (.buildSlice t 0 #[]) s h K=nnK (h dd) dd (@oK _ (elK P t) ⟨fun e=>K (.ow dd e.2.1 0 0) (q08 h dd ⟨e.1,e.2.1,[],false⟩) ([],[dd])⟩):=by
 have:=qg2 (P:=P) (Tb:=Tb) (s:=s) (h:=h) (K:=K) (t:=t) (dd:=dd) (len:=0) (ps:=[]) rfl;simpa [oK,cK,qac] using this
theorem qqS {a}:ao P Tb (some dd) (.buildSlice t 1 #[(0,a)]) s h K=nnK (h dd) dd (@oK _ (elK P t) ⟨fun e=>@cK (ksz e.2.1≤16777216) ⟨vK (pe s a) fun x=>q2K e.2.1 x (K (.ow dd e.2.1 0 1) (q08 h dd ⟨e.1,e.2.1,[x],false⟩) ([],[dd]))⟩⟩):=by
 have:=qg2 (P:=P) (Tb:=Tb) (s:=s) (h:=h) (K:=K) (t:=t) (dd:=dd) (len:=1) (ps:=[(0,a)]) rfl;simpa [oK,cK,q9a,q99,vK] using this
theorem qqR {a b}:ao P Tb (some dd) (.buildSlice t 2 #[(0,a),(1,b)]) s h K=nnK (h dd) dd (@oK _ (elK P t) ⟨fun e=>@cK (2*ksz e.2.1≤16777216) ⟨vK (pe s a) fun x=>vK (pe s b) fun y=>q2K e.2.1 x (q2K e.2.1 y (K (.ow dd e.2.1 0 2) (q08 h dd ⟨e.1,e.2.1,[x,y],false⟩) ([],[dd])))⟩⟩):=by
 have:=qg2 (P:=P) (Tb:=Tb) (s:=s) (h:=h) (K:=K) (t:=t) (dd:=dd) (len:=2) (ps:=[(0,a),(1,b)]) rfl;simpa [oK,cK,q9a,q99,vK] using this
theorem qqQ {a b c}:ao P Tb (some dd) (.buildSlice t 3 #[(0,a),(1,b),(2,c)]) s h K=nnK (h dd) dd (@oK _ (elK P t) ⟨fun e=>@cK (3*ksz e.2.1≤16777216) ⟨vK (pe s a) fun x=>vK (pe s b) fun y=>vK (pe s c) fun z=>q2K e.2.1 x (q2K e.2.1 y (q2K e.2.1 z (K (.ow dd e.2.1 0 3) (q08 h dd ⟨e.1,e.2.1,[x,y,z],false⟩) ([],[dd]))))⟩⟩):=by
 have:=qg2 (P:=P) (Tb:=Tb) (s:=s) (h:=h) (K:=K) (t:=t) (dd:=dd) (len:=3) (ps:=[(0,a),(1,b),(2,c)]) rfl;simpa [oK,cK,q9a,q99,vK] using this
theorem qli {l c}:ao P Tb (some dd) (.makeSlice t l c) s h K=nnK (h dd) dd (@oK _ (elZ P t) ⟨fun e=>mkA e.2.2.1 (pe s l) (pe s c) fun n=>K (.ow dd e.2.1 0 n) (q08 h dd ⟨e.1,e.2.1,List.replicate n e.2.2.2,false⟩) ([],[dd])⟩):=by
 unfold ao nnK;rw [q4E];refine propext ⟨?_,?_⟩
 ·rintro ⟨x,h',fp,⟨d,E,k,bytes,z,kl,kc,n,h1,h2,h3,h4,h5,h6,h7,rfl,rfl,rfl⟩,hk⟩;cases h1;refine ⟨h2,_,h3,?_⟩;unfold mkA;rw [h4,h5];exact ⟨rfl,by omega,by simpa using h6,by simpa using h7,by simpa using hk⟩
 ·rintro ⟨h2,⟨E,k,bytes,z⟩,h3,hk⟩;unfold mkA at hk
  split at hk
  ·rename_i kl a kc b ha hb;obtain ⟨rfl,k1,k2,k3,hk⟩:=hk;have e1:((a.toNat:Nat):Int)=a:=by omega
   exact ⟨_,_,_,⟨dd,E,k,bytes,z,kl,kc,a.toNat,rfl,h2,h3,by rw [e1]; exact ha,by rw [e1]; exact hb,k2,k3,rfl,rfl,rfl⟩,hk⟩
  ·exact hk.elim
theorem qgZ {a v}:ao P Tb d (.store t a v) s h K=qmP h (q0g P t) (q07 P t) (pe s a) (pe s v) fun id b=>K (.vl undef) (q08 h id b) ([id],[id]):=by
 unfold ao qmP q9G;refine propext ⟨?_,fun hk=>?_⟩
 ·rintro ⟨x,h',fp,⟨id,i,j,b,k,u,u',h1,h2,h3,h4,h5,h6,h7,h8,rfl,rfl,rfl⟩,hk⟩;rw [h1];exact ⟨b,k,u,u',h2,h4,h5,h3,h6,h7,h8,hk⟩
 ·split at hk
  ·rename_i id i j h1;obtain ⟨b,k,u,u',h2,h4,h5,h3,h6,h7,h8,hk⟩:=hk;exact ⟨_,_,_,⟨id,i,j,b,k,u,u',h1,h2,h3,h4,h5,h6,h7,h8,rfl,rfl,rfl⟩,hk⟩
  ·exact hk.elim
theorem qdn {sx xx}:ao P Tb (some dd) (.call ⟨.builtin .append,#[sx,xx],#[t,t]⟩) s h K=nnK (h dd) dd (@oK _ (elK P t) ⟨fun e=>qiZ h e.1 e.2.1 (pe s sx) fun xs i0=>qeQ h e.2.1 (pe s xx) fun ys ids=>@cK ((xs.length+ys.length)*(e.2.2+1)≤140737488355328) ⟨K (.ow dd e.2.1 0 (xs.length+ys.length)) (q08 (qnW h i0 ⟨e.1,e.2.1,xs,true⟩) dd ⟨e.1,e.2.1,xs ++ ys,false⟩) (ids,dd :: i0.toList)⟩⟩):=by
 have hL:∀ {E:TypeId} {k:Kd} {p:PV} {xs:List PV} {i0:Option Nat},apS h E k p=some (xs,i0)→qnW h i0 ⟨E,k,xs,true⟩=stl h i0:=fun {E k p xs i0} ha=>by
  unfold apS at ha
  split at ha
  ·cases ha; rfl
  ·obtain ⟨b,hb,hc⟩:=Option.bind_eq_some_iff.1 ha
   split at hc
   ·rename_i hcc;cases hc;obtain ⟨_,rfl,rfl,_⟩:=hcc;simp only [qnW,stl,hb]
   ·cases hc
  ·cases ha
 have hS:∀ {E:TypeId} {k:Kd} {p:PV} {K:List PV→Option Nat→Prop},qiZ h E k p K=∃ xs i0,apS h E k p=some (xs,i0)∧K xs i0:=fun {E k p K}=>by
  refine propext ⟨fun hk=>?_,?_⟩
  ·unfold qiZ at hk
   split at hk
   ·exact ⟨[],none,rfl,hk⟩
   ·unfold qiY at hk;obtain ⟨b,hb,hc,hk⟩:=hk;exact ⟨b.xs,some _,by unfold apS; simp only [hb,Option.bind_some]; rw [if_pos hc],hk⟩
   ·exact hk.elim
  ·rintro ⟨xs,i0,ha,hk⟩;unfold apS at ha
   split at ha
   ·cases ha; exact hk
   ·obtain ⟨b,hb,hc⟩:=Option.bind_eq_some_iff.1 ha
    split at hc
    ·rename_i hcc; cases hc; exact ⟨b,hb,hcc,hk⟩
    ·cases hc
   ·cases ha
 have hX:∀ {k:Kd} {p:PV} {K:List PV→List Nat→Prop},qeQ h k p K=∃ xs ids,apX h k p=some (xs,ids)∧K xs ids:=fun {k p K}=>by
  refine propext ⟨fun hk=>?_,?_⟩
  ·unfold qeQ at hk
   split at hk
   ·exact ⟨[],[],rfl,hk⟩
   ·obtain ⟨rfl,hk⟩:=hk;exact ⟨_,[],by unfold apX; simp,hk⟩
   ·unfold qiX at hk;obtain ⟨b,hb,hc,hk⟩:=hk;exact ⟨_,_,by unfold apX; simp only [hb,Option.bind_some]; rw [if_pos hc],hk⟩
   ·exact hk.elim
  ·rintro ⟨xs,ids,ha,hk⟩;unfold apX at ha
   split at ha
   ·cases ha; exact hk
   ·split at ha
    ·rename_i hkk; cases ha; exact ⟨hkk,hk⟩
    ·cases ha
   ·obtain ⟨b,hb,hc⟩:=Option.bind_eq_some_iff.1 ha
    split at hc
    ·rename_i hcc; cases hc; exact ⟨b,hb,hcc,hk⟩
    ·cases hc
   ·cases ha
 unfold ao nnK cK;rw [q4E];refine propext ⟨?_,?_⟩
 ·rintro ⟨x,h',fp,⟨sx',xx',T,d,E,k,bytes,xs,ys,i0,ids,h1,h2,h3,h4,h5,h6,h7,h8,rfl,rfl,rfl⟩,hk⟩;cases h1; cases h2; cases h3;refine ⟨h4,_,h5,?_⟩;rw [hS];refine ⟨xs,i0,h6,?_⟩;rw [hX];exact ⟨ys,ids,h7,h8,by rw [hL h6]; exact hk⟩
 ·rintro ⟨h4,⟨E,k,bytes⟩,h5,hk⟩;rw [hS] at hk;obtain ⟨xs,i0,h6,hk⟩:=hk;rw [hX] at hk;obtain ⟨ys,ids,h7,h8,hk⟩:=hk;simp only at hk;rw [hL h6] at hk;exact ⟨_,_,_,⟨sx,xx,t,dd,E,k,bytes,xs,ys,i0,ids,rfl,rfl,rfl,h4,h5,h6,h7,h8,rfl,rfl,rfl⟩,hk⟩
theorem qlk {f} {xs:List Operand} {ts}:ao P Tb d (.call ⟨.value (.func f),xs.toArray,ts⟩) s h K=@q5W P Tb f (q3K h (xs.map (pe s))) ⟨fun x ids=>K x h (ids,[])⟩:=by
 unfold ao q5W;refine propext ⟨?_,?_⟩
 ·rintro ⟨x,h',fp,⟨al,ids,h1,h2,h3,rfl,rfl⟩,hk⟩;exact ⟨al,ids,x,by simpa using h1,h2,h3,hk⟩
 ·rintro ⟨al,ids,x,h1,h2,h3,hk⟩;exact ⟨x,h,(ids,[]),⟨al,ids,by simpa using h1,h2,h3,rfl,rfl⟩,hk⟩
def qdI (P:Program) (Tb:World→Prop) (h:Hp) (v:PV) (xs:List PV) [K:Cn (PV→List Nat→Prop)]:Prop:=∃ f ys,FnP v f ys∧@q5W P Tb f (q3K h (xs ++ ys)) K
theorem qfz {v:PV} {xs:List PV} {f:FuncId} {ys:List PV} {K:Cn (PV→List Nat→Prop)} (hv:FnP v f ys) (hc:@q5W P Tb f (q3K h (xs ++ ys)) K):@qdI P Tb h v xs K:=⟨f,ys,hv,hc⟩
theorem FnP_v {f:FuncId}:FnP (.vl (.func (.func f) #[] #[])) f []:=fun w D ρ h v hv=>by
 unfold Rd at hv;exact ⟨[],hv,by unfold RdL; rfl⟩
theorem q9u {t:Nat} {xs:List Operand} {ts}:ao P Tb d (.call ⟨.value (.tmp t),xs.toArray,ts⟩) s h K=@qdI P Tb h (s t) (xs.map (pe s)) ⟨fun x ids=>K x h (ids,[])⟩:=by
 unfold ao qdI q5W;refine propext ⟨?_,?_⟩
 ·rintro ⟨x,h',fp,⟨f,ys,al,ids,h0,h1,h2,h3,rfl,rfl⟩,hk⟩;exact ⟨f,ys,h0,al,ids,x,by simpa using h1,h2,h3,hk⟩
 ·rintro ⟨f,ys,h0,al,ids,x,h1,h2,h3,hk⟩;exact ⟨x,h,(ids,[]),⟨f,ys,al,ids,h0,by simpa using h1,h2,h3,rfl,rfl⟩,hk⟩
theorem q3D {f:FuncId} {al:List PV} {x:PV} {K:PV→List Nat→Prop} (hc:AC P Tb f al x) (hk:K x []):@q5W P Tb f (some (al,[])) ⟨K⟩:=⟨al,[],x,rfl,hc,.inl rfl,hk⟩
theorem q4r {f:FuncId} {al:List PV} {x:PV} {ids:List Nat} {K:PV→List Nat→Prop} (hc:AC P Tb f al x) (hz:Nz x) (hk:K x ids):@q5W P Tb f (some (al,ids)) ⟨K⟩:=⟨al,ids,x,rfl,hc,.inr hz,hk⟩
end
attribute [irreducible] cK oK nnK q2K qac vK ldK pgA mkA q9G qmP qiY qiZ qiX qeQ q5W qdI ao
section
variable {P:Program} {s:Nat→PV} {h:Hp} {i j:Nat} {k k':Kd} {x y:PV} {l m:List PV} {b:Bk}
theorem pe_t {t:Nat}:pe s (.tmp t)=s t:=rfl
theorem pe_c {v:Value}:pe s (.const v)=.vl v:=rfl
theorem qoH {d:Nat}:q2w s (some d) x=pu s d x:=rfl
theorem qoI:q2w s none x=s:=rfl
theorem pu_ap {d t:Nat}:pu s d x t=if t=d then x else s t:=rfl
theorem qkR:q08 h i b j=if j=i then some b else h j:=rfl
theorem h0_ap:h0 i=none:=rfl
theorem enP_z:enP (x :: l) 0=x:=rfl
theorem enP_s:enP (x :: l) (i+1)=enP l i:=rfl
theorem stK_c {xs:List (Nat × PV)} {ks:List Nat} {t a:Nat}:stK ((a,x) :: xs) ks s t=if t=a then x else stK xs ks s t:=by
 show (match (if t=a then some x else lkP xs t) with | some x=>x | none=>if kin ks t then s t else .un)=_
 by_cases ht:t=a
 ·simp only [ht,if_true]
 ·simp only [ht,if_false]; rfl
theorem stK_n {ks:List Nat} {t:Nat}:stK [] ks s t=if kin ks t then s t else .un:=rfl
theorem kin_c {ks:List Nat} {t a:Nat}:kin (a :: ks) t=if t=a then true else kin ks t:=rfl
theorem kin_n {t:Nat}:kin [] t=false:=rfl
theorem hpK_c {bs:List (Nat × Bk)} {kb:List Nat} {t a:Nat}:hpK ((a,b) :: bs) kb h t=if t=a then some b else hpK bs kb h t:=by
 show (match (if t=a then some b else lkB bs t) with | some b=>some b | none=>if kin kb t then h t else none)=_
 by_cases ht:t=a
 ·simp only [ht,if_true]
 ·simp only [ht,if_false]; rfl
theorem hpK_n {kb:List Nat} {t:Nat}:hpK [] kb h t=if kin kb t then h t else none:=rfl
theorem ksz_n:ksz none=1:=rfl
theorem ksz_s {n:Nat}:ksz (some n)=n:=rfl
theorem qnV:qnW h none b=h:=rfl
theorem qnU {id:Nat}:qnW h (some id) b=q08 h id b:=rfl
theorem bn_v {op:BinOp} {t:TypeId} {a c:Value}:bnP P op t (.vl a) (.vl c)=(q0r P op t a c).map .vl:=rfl
theorem un_v {op:UnOp} {a:Value}:unP op (.vl a)=(unV op a).map .vl:=rfl
theorem cv_v {s d:Option TypeDesc} {a:Value}:cvP s d (.vl a)=(qah s d a).map .vl:=rfl
theorem pk_t:pkP (.vl (.bool true)) x y=some x:=rfl
theorem pk_f:pkP (.vl (.bool false)) x y=some y:=rfl
theorem fld_p {t:TypeId} {f:Nat} {a:Nat}:qmW P t f (.pt a i j)=(q32 P t f).map fun r=>.pt a i (j+r.1):=rfl
theorem ex_t:exP i (.tu l)=l[i]?:=rfl
theorem nl_p {a:Nat}:nlP (.pt a i j)=some (.pt a i j):=rfl
theorem nl_q:nlP (.qt k x)=some (.qt k x):=rfl
theorem mm_v {b:Bool} {a c:Value}:mmP b [.vl a,.vl c]=(mmV b [a,c]).map .vl:=rfl
theorem qo8 {n:Nat}:qmT (some n) (.sl k l)=some (.vl (.int .i64 l.length)):=rfl
theorem qo9 {n a c d:Nat}:qmT (some n) (.ow a k c d)=some (.vl (.int .i64 d)):=rfl
theorem qo7 {n a c:Nat} {A:Option Addr}:qmT (some n) (.vl (.slice A a c))=some (.vl (.int .i64 a)):=rfl
theorem qc9 {kk:IntKind} {n:Nat}:q95 (some 1) (.sl none l) (.vl (.int kk (n:Int)))=(l[n]?).map (.qt none):=by
 simp [q95,ksz]
theorem qkF {kk:IntKind} {n c:Nat} (hc:0 < c):q95 (some c) (.sl (some c) l) (.vl (.int kk (n:Int)))=(l[n]?).map (.qt (some c)):=by
 simp [q95,ksz,hc]
theorem qca {kk:IntKind} {a off c n:Nat} (hn:n < c):q95 (some 1) (.ow a none off c) (.vl (.int kk (n:Int)))=some (.pt a (off+n) 0):=by
 simp [q95,ksz,hn]
theorem qkH {kk:IntKind} {a off c n e:Nat} (hn:n < c):q95 (some e) (.ow a (some e) off c) (.vl (.int kk (n:Int)))=some (.pt a (off+n) 0):=by
 simp [q95,ksz,hn]
theorem ld_p {a:Nat} {K:PV→List Nat→Prop}:@ldK (ldP h (some k) (.pt a i j)) ⟨K⟩=@ldK ((h a).bind fun b=>if b.st=true∨ksz k=0 then none else ((b.xs[i]?).bind (ldU b.k k j)).map fun x=>(x,[a])) ⟨K⟩:=by
 congr 1
 cases hh:h a <;> simp [ldP,hh]
theorem ld_q {K:PV→List Nat→Prop}:@ldK (ldP h (some k) (.qt k' x)) ⟨K⟩=@ldK (if ksz k=0 then none else (ldU k' k 0 x).map fun y=>(y,[])) ⟨K⟩:=rfl
theorem ldU_s:ldU k k 0 x=some x:=by simp [ldU]
theorem ldU_c {n:Nat}:ldU (some n) none j (.ag l)=l[j]?:=by simp [ldU]
theorem py_s {o:Oper} {os:List Oper} {b:Bool}:q2g (o :: os) s (j+1) b=q2g os s j b:=rfl
def qex (b:Bool):PV→Option Bool | .vl (.bool c)=>some c | .vl (.tuple _)=>some (!b) | _=>none
theorem py_z {d:Nat} {op:Op} {ty:TypeId} {pos:String} {af:Array Edge} {g:Option (Nat × Bool)} {os:List Oper} {b:Bool}:q2g (⟨some d,op,ty,pos,af,g⟩ :: os) s 0 b=qex b (s d):=rfl
theorem qjl {b c:Bool}:qex c (.vl (.bool b))=some b:=rfl
theorem qjj:qex true (.vl undef)=some false:=rfl
theorem qjk:qex false (.vl undef)=some true:=rfl
theorem qp0:q3K h []=some ([],[]):=rfl
theorem qp1:q3K h (x :: l)=qdW (clo h x) (q3K h l):=rfl
theorem qgQ {a b:List Nat}:qdW (some (x,a)) (some (l,b))=some (x :: l,a ++ b):=rfl
theorem qp2 {v:Value}:clo h (.vl v)=some (.vl v,[]):=by simp [clo,q3p,q49]
theorem qp7 {G:Fam}:clo h (.fm G)=some (.fm G,[]):=by simp [clo,q3p,q49]
theorem qp3:clo h (.sl k l)=some (.sl k l,[]):=by simp [clo,q3p,q49]
theorem qp4:clo h (.qt k x)=some (.qt k x,[]):=by simp [clo,q3p,q49]
theorem qhi:clo h .un=some (.un,[]):=by simp [clo,q3p,q49]
theorem qp5 {a off c:Nat}:clo h (.ow a k off c)=clB (h a) a k off c:=by simp only [clo,q3p,clB]
theorem clB_s {a off c:Nat} {T:TypeId}:clB (some ⟨T,k,l,false⟩) a k off c=cO (ClL l) (some (.sl k ((l.drop off).take c),[a])):=by
 unfold clB cO ClL;simp only [Option.bind_some]
 by_cases hc:∀ x ∈ l,Cld x
 ·rw [if_pos ⟨rfl,rfl,hc⟩,if_pos hc]
 ·rw [if_neg fun h=>hc h.2.2,if_neg hc]
theorem cO_t {α:Type} {o:Option α}:cO True o=o:=by simp [cO]
theorem qp8:clo h (.ag l)=(q34 h l).map fun r=>(.ag r.1,r.2):=rfl
theorem qkw:q34 h []=some ([],[]):=rfl
theorem qkx:q34 h (x :: l)=qdW (q3p h x) (q34 h l):=rfl
theorem qkz {v:Value}:q3p h (.vl v)=some (.vl v,[]):=by simp [q3p,q49]
theorem qlC {G:Fam}:q3p h (.fm G)=some (.fm G,[]):=by simp [q3p,q49]
theorem qlA:q3p h (.sl k l)=some (.sl k l,[]):=by simp [q3p,q49]
theorem qlB {a off c:Nat}:q3p h (.ow a k off c)=clB (h a) a k off c:=by simp only [q3p,clB]
theorem qrS {v:Value}:Cld (.vl v)=True:=by simp [Cld,q49]
theorem qrU {G:Fam}:Cld (.fm G)=True:=by simp [Cld,q49]
theorem qrT:Cld (.sl k l)=True:=by simp [Cld,q49]
theorem ClL_n:ClL []=True:=by simp [ClL]
theorem ClL_c:ClL (x :: l)=(Cld x∧ClL l):=by simp [ClL]
theorem ClL_a:ClL (l ++ m)=(ClL l∧ClL m):=by
 simp only [ClL,List.mem_append];exact propext ⟨fun h=>⟨fun x hx=>h x (.inl hx),fun x hx=>h x (.inr hx)⟩,fun h x hx=>hx.elim (h.1 x) (h.2 x)⟩
theorem qmB {α:Type} {f:α→PV} {q:List α}:ClL (q.map f)=∀ a ∈ q,Cld (f a):=by simp [ClL]
theorem qgm {α:Type} {f:α→Value} {q:List α}:ClL (q.map fun a=>.vl (f a))=True:=by simp [ClL,Cld,q49]
theorem rsP_t {t:Nat}:rsP P h s (.tmp t)=some (s t):=rfl
theorem qm3 {t:TypeId} {ps:List (Nat × PV)} {pl:List (Nat × Nat)} {z:List Value} (hp:plc P t=some (pl,z)):blP P t ps=(flP pl (z.map .vl) ps).map .ag:=by unfold blP; rw [hp]; rfl
theorem qp9 {acc:List FP}:qpb [] acc=True:=by simp [qpb,chk]
end
end Go.E
namespace Go.Proofs.YtbcmhlhgljoolaaGreatDoor
open Go Go.E
set_option maxRecDepth 100000
theorem elK22:elK Tryz.prog 22=some (29,none,8):=by kernel_rfl
theorem elZ22:elZ Tryz.prog 22=some (29,none,8,.vl (.int .u64 0)):=by kernel_rfl
theorem elK23:elK Tryz.prog 23=some (4,none,1):=by kernel_rfl
theorem elZ23:elZ Tryz.prog 23=some (4,none,1,.vl (.bool false)):=by kernel_rfl
theorem elK24:elK Tryz.prog 24=some (3,none,8):=by kernel_rfl
theorem elZ24:elZ Tryz.prog 24=some (3,none,8,.vl (.int .i64 0)):=by kernel_rfl
theorem elK25:elK Tryz.prog 25=some (30,none,8):=by kernel_rfl
theorem elZ25:elZ Tryz.prog 25=some (30,none,8,.vl (.int .u64 0)):=by kernel_rfl
theorem elK98:elK Tryz.prog 98=some (125,none,24):=by kernel_rfl
theorem elZ98:elZ Tryz.prog 98=some (125,none,24,.vl (.slice none 0 0)):=by kernel_rfl
theorem elK99:elK Tryz.prog 99=some (125,none,24):=by kernel_rfl
theorem elZ99:elZ Tryz.prog 99=some (125,none,24,.vl (.slice none 0 0)):=by kernel_rfl
theorem qpJ:elK Tryz.prog 125=some (74,some 4,48):=by kernel_rfl
theorem qpI:elZ Tryz.prog 125=some (74,some 4,48,.ag [.vl (.bool false),.vl (.bool false),.vl (.slice none 0 0),.vl (.int .i64 0)]):=by kernel_rfl
theorem alB3:alB Tryz.prog 3=some ⟨3,none,[.vl (.int .i64 0)],false⟩:=by kernel_rfl
theorem alB27:alB Tryz.prog 27=some ⟨27,some 4,[.ag [.vl (.slice none 0 0),.vl (.slice none 0 0),.vl (.slice none 0 0),.vl (.slice none 0 0)]],false⟩:=by kernel_rfl
theorem alB52:alB Tryz.prog 52=some ⟨52,some 5,[.ag [.vl (.int .i64 0),.vl (.int .i64 0),.vl (.slice none 0 0),.vl (.slice none 0 0),.vl (.slice none 0 0)]],false⟩:=by kernel_rfl
theorem alB72:alB Tryz.prog 72=some ⟨72,some 2,[.ag [.vl (.bool false),.vl (.slice none 0 0)]],false⟩:=by kernel_rfl
theorem alB74:alB Tryz.prog 74=some ⟨74,some 4,[.ag [.vl (.bool false),.vl (.bool false),.vl (.slice none 0 0),.vl (.int .i64 0)]],false⟩:=by kernel_rfl
theorem qqZ:alB Tryz.prog 115=some ⟨115,some 17,[.ag [.vl (.int .i64 0),.vl (.int .i64 0),.vl (.slice none 0 0),.vl (.slice none 0 0),.vl (.slice none 0 0),.vl (.slice none 0 0),.vl (.slice none 0 0),.vl (.slice none 0 0),.vl (.slice none 0 0),.vl (.slice none 0 0),.vl (.slice none 0 0),.vl (.slice none 0 0),.vl (.slice none 0 0),.vl (.bool false),.vl (.bool false),.vl (.slice none 0 0),.vl (.int .i64 0)]],false⟩:=by kernel_rfl
theorem qqY:alB Tryz.prog 155=some ⟨155,some 5,[.ag [.vl (.bool false),.vl (.bool false),.vl (.slice none 0 0),.vl (.int .i64 0),.vl (.bool false)]],false⟩:=by kernel_rfl
theorem qqX:alB Tryz.prog 241=some ⟨241,some 32,[.ag [.vl (.int .u8 0),.vl (.int .u8 0),.vl (.int .u8 0),.vl (.int .u8 0),.vl (.int .u8 0),.vl (.int .u8 0),.vl (.int .u8 0),.vl (.int .u8 0),.vl (.int .u8 0),.vl (.int .u8 0),.vl (.int .u8 0),.vl (.int .u8 0),.vl (.int .u8 0),.vl (.int .u8 0),.vl (.int .u8 0),.vl (.int .u8 0),.vl (.int .u8 0),.vl (.int .u8 0),.vl (.int .u8 0),.vl (.int .u8 0),.vl (.int .u8 0),.vl (.int .u8 0),.vl (.int .u8 0),.vl (.int .u8 0),.vl (.int .u8 0),.vl (.int .u8 0),.vl (.int .u8 0),.vl (.int .u8 0),.vl (.int .u8 0),.vl (.int .u8 0),.vl (.int .u8 0),.vl (.int .u8 0)]],false⟩:=by kernel_rfl
theorem qfi:q32 Tryz.prog 27 0=some (0,none):=by kernel_rfl
theorem qfh:q32 Tryz.prog 27 1=some (1,none):=by kernel_rfl
theorem qfg:q32 Tryz.prog 27 2=some (2,none):=by kernel_rfl
theorem qff:q32 Tryz.prog 27 3=some (3,none):=by kernel_rfl
theorem qfe:q32 Tryz.prog 52 0=some (0,none):=by kernel_rfl
theorem qfd:q32 Tryz.prog 52 1=some (1,none):=by kernel_rfl
theorem qfc:q32 Tryz.prog 52 2=some (2,none):=by kernel_rfl
theorem qfb:q32 Tryz.prog 52 3=some (3,none):=by kernel_rfl
theorem qfa:q32 Tryz.prog 52 4=some (4,none):=by kernel_rfl
theorem qf9:q32 Tryz.prog 72 0=some (0,none):=by kernel_rfl
theorem qf8:q32 Tryz.prog 72 1=some (1,none):=by kernel_rfl
theorem qf7:q32 Tryz.prog 74 0=some (0,none):=by kernel_rfl
theorem qf6:q32 Tryz.prog 74 1=some (1,some 2):=by kernel_rfl
theorem qf5:q32 Tryz.prog 74 2=some (3,none):=by kernel_rfl
theorem qcx:q32 Tryz.prog 115 0=some (0,some 5):=by kernel_rfl
theorem qcw:q32 Tryz.prog 115 1=some (5,some 4):=by kernel_rfl
theorem qcv:q32 Tryz.prog 115 2=some (9,none):=by kernel_rfl
theorem qcu:q32 Tryz.prog 115 3=some (10,none):=by kernel_rfl
theorem qct:q32 Tryz.prog 115 4=some (11,none):=by kernel_rfl
theorem qcs:q32 Tryz.prog 115 5=some (12,none):=by kernel_rfl
theorem qcr:q32 Tryz.prog 115 6=some (13,some 4):=by kernel_rfl
theorem qcq:q32 Tryz.prog 155 0=some (0,none):=by kernel_rfl
theorem qcp:q32 Tryz.prog 155 1=some (1,some 2):=by kernel_rfl
theorem qco:q32 Tryz.prog 155 2=some (3,none):=by kernel_rfl
theorem qcn:q32 Tryz.prog 155 3=some (4,none):=by kernel_rfl
theorem plc27:plc Tryz.prog 27=some ([(0,1),(1,1),(2,1),(3,1)],[.slice none 0 0,.slice none 0 0,.slice none 0 0,.slice none 0 0]):=by kernel_rfl
theorem plc52:plc Tryz.prog 52=some ([(0,1),(1,1),(2,1),(3,1),(4,1)],[.int .i64 0,.int .i64 0,.slice none 0 0,.slice none 0 0,.slice none 0 0]):=by kernel_rfl
theorem plc72:plc Tryz.prog 72=some ([(0,1),(1,1)],[.bool false,.slice none 0 0]):=by kernel_rfl
theorem plc74:plc Tryz.prog 74=some ([(0,1),(1,2),(3,1)],[.bool false,.bool false,.slice none 0 0,.int .i64 0]):=by kernel_rfl
theorem qoK:plc Tryz.prog 115=some ([(0,5),(5,4),(9,1),(10,1),(11,1),(12,1),(13,4)],[.int .i64 0,.int .i64 0,.slice none 0 0,.slice none 0 0,.slice none 0 0,.slice none 0 0,.slice none 0 0,.slice none 0 0,.slice none 0 0,.slice none 0 0,.slice none 0 0,.slice none 0 0,.slice none 0 0,.bool false,.bool false,.slice none 0 0,.int .i64 0]):=by kernel_rfl
theorem qoJ:plc Tryz.prog 155=some ([(0,1),(1,2),(3,1),(4,1)],[.bool false,.bool false,.slice none 0 0,.int .i64 0,.bool false]):=by kernel_rfl
attribute [go_sem] elK22 elZ22 elK23 elZ23 elK24 elZ24 elK25 elZ25 elK98 elZ98 elK99 elZ99 qpJ qpI alB3 alB27 alB52 alB72 alB74 qqZ
attribute [go_sem] qqY qqX qfi qfh qfg qff qfe qfd qfc qfb qfa qf9 qf8 qf7 qf6 qf5 qcx qcw qcv
attribute [go_sem] qcu qct qcs qcr qcq qcp qco qcn
theorem qps {ps:List (Nat × PV)}:blP Tryz.prog 27 ps=(flP [(0,1),(1,1),(2,1),(3,1)] ([.slice none 0 0,.slice none 0 0,.slice none 0 0,.slice none 0 0].map .vl) ps).map .ag:=qm3 plc27
theorem qpr {ps:List (Nat × PV)}:blP Tryz.prog 52 ps=(flP [(0,1),(1,1),(2,1),(3,1),(4,1)] ([.int .i64 0,.int .i64 0,.slice none 0 0,.slice none 0 0,.slice none 0 0].map .vl) ps).map .ag:=qm3 plc52
theorem qpq {ps:List (Nat × PV)}:blP Tryz.prog 72 ps=(flP [(0,1),(1,1)] ([.bool false,.slice none 0 0].map .vl) ps).map .ag:=qm3 plc72
theorem qpp {ps:List (Nat × PV)}:blP Tryz.prog 74 ps=(flP [(0,1),(1,2),(3,1)] ([.bool false,.bool false,.slice none 0 0,.int .i64 0].map .vl) ps).map .ag:=qm3 plc74
theorem qlW {ps:List (Nat × PV)}:blP Tryz.prog 115 ps=(flP [(0,5),(5,4),(9,1),(10,1),(11,1),(12,1),(13,4)] ([.int .i64 0,.int .i64 0,.slice none 0 0,.slice none 0 0,.slice none 0 0,.slice none 0 0,.slice none 0 0,.slice none 0 0,.slice none 0 0,.slice none 0 0,.slice none 0 0,.slice none 0 0,.slice none 0 0,.bool false,.bool false,.slice none 0 0,.int .i64 0].map .vl) ps).map .ag:=qm3 qoK
theorem qlV {ps:List (Nat × PV)}:blP Tryz.prog 155 ps=(flP [(0,1),(1,2),(3,1),(4,1)] ([.bool false,.bool false,.slice none 0 0,.int .i64 0,.bool false].map .vl) ps).map .ag:=qm3 qoJ
attribute [go_sem] qps qpr qpq qpp qlW qlV
end Go.Proofs.YtbcmhlhgljoolaaGreatDoor
namespace Go.E
open Go Go.RowKit
attribute [go_sem ↓] pu_ap qkR qr0 AL_n AL_g qlh qdm qlg qg3 qlf qan q7e qam q8g q7d qg0 qqP fnP_q qg1 qqO qqN qqM qlj qg4 qqU qqT qqS qqR qqQ qli qgZ qdn qlk q9u
attribute [go_sem] cK_t oK_s nnK_n vK_v ldK_s qoL qoM qoN qoO mkA_n qpB qkc qow qoy qox qpC q99 q9a qnR qiz qiy qnT qnS ldU_b qqK qqJ qqI qqH qqF qqG qqE pe_t pe_c qoH qoI h0_ap enP_z enP_s stK_c stK_n kin_c kin_n hpK_c hpK_n ksz_n ksz_s qnV qnU bn_v un_v cv_v pk_t pk_f fld_p ex_t nl_p nl_q mm_v qo8 qo9 qo7 qc9 qkF qca qkH ld_p ld_q ldU_s ldU_c py_s py_z qjl qjj qjk qp0 qp1 qgQ qp2 qp7 qp3 qp4 qhi qp5 clB_s cO_t qp8 qkw qkx qkz qlC qlA qlB qrS qrU qrT ClL_n ClL_c ClL_a qmB qgm qp9
attribute [go_sem] Option.bind_some Option.bind_none List.getElem?_cons_zero List.getElem?_cons_succ List.getElem?_map List.length_map List.length_replicate List.length_cons List.length_nil List.length_append List.length_set List.drop_zero List.nil_append Nat.add_zero and_true true_and implies_true or_false Bool.false_eq_true List.set_cons_zero List.set_cons_succ List.take_succ_cons List.take_zero List.take_nil List.drop_succ_cons
def q7G:List PV→Nat→PV→Option (List PV)
 | [],_,_=>none
 | _ :: l,0,x=>some (x :: l)
 | y :: l,n+1,x=>(q7G l n x).map fun r=>y :: r
theorem qbg:∀ {l:List PV} {n:Nat} {x:PV},q7G l n x=if n < l.length then some (l.set n x) else none
 | [],n,x=>by simp [q7G]
 | y :: l,0,x=>by simp [q7G]
 | y :: l,n+1,x=>by
  simp only [q7G,qbg (l:=l)]
  by_cases h:n < l.length <;> simp [h]
theorem qne {y x:PV} {l:List PV}:q7G (y :: l) 0 x=some (x :: l):=rfl
theorem qnf {y x:PV} {l:List PV} {n:Nat}:q7G (y :: l) (n+1) x=(q7G l n x).map fun r=>y :: r:=rfl
def q8J:List PV→Nat→List PV→Option (List PV)
 | cs,0,[]=>some cs
 | _ :: cs,0,y :: l=>(q8J cs 0 l).map fun r=>y :: r
 | x :: cs,n+1,l=>(q8J cs n l).map fun r=>x :: r
 | [],_,_=>none
theorem q5C:∀ {cs:List PV} {n:Nat} {l:List PV},0 < l.length→q8J cs n l=if n+l.length≤cs.length then some (cs.take n ++ l ++ cs.drop (n+l.length)) else none
 | [],n,y :: l,_=>by
  cases n <;> simp [q8J]
 | x :: cs,0,[y],_=>by simp [q8J]
 | x :: cs,0,y :: z :: l,_=>by
  rw [q8J,q5C (cs:=cs) (n:=0) (l:=z :: l) (by simp)];simp only [List.length_cons]
  by_cases h:l.length+1≤cs.length
  ·rw [if_pos (by omega),if_pos (by omega)]; simp [Nat.add_assoc]
  ·rw [if_neg (by omega),if_neg (by omega)]; rfl
 | x :: cs,n+1,y :: l,hl=>by
  rw [q8J,q5C (cs:=cs) (n:=n) hl];simp only [List.length_cons]
  by_cases h:n+(l.length+1)≤cs.length
  ·rw [if_pos h,if_pos (by omega)];rw [show n+1+(l.length+1)=n+(l.length+1)+1 by omega];simp
  ·rw [if_neg h,if_neg (by omega)]; rfl
theorem qng {cs:List PV}:q8J cs 0 []=some cs:=by cases cs <;> rfl
theorem qni {x y:PV} {cs l:List PV}:q8J (x :: cs) 0 (y :: l)=(q8J cs 0 l).map fun r=>y :: r:=rfl
theorem qnh {x:PV} {cs l:List PV} {n:Nat}:q8J (x :: cs) (n+1) l=(q8J cs n l).map fun r=>x :: r:=by cases l <;> rfl
def flS (o:Option (Nat × Nat)) (x:PV) (cs:List PV):Option (List PV):=match o with
 | some (off,1)=>match x with
  | .vl y=>if y.oneCell'=true then q7G cs off (.vl y) else none
  | .sl k l=>q7G cs off (.sl k l)
  | .ow id k a n=>q7G cs off (.ow id k a n)
  | .pt id a n=>q7G cs off (.pt id a n)
  | _=>none
 | some (off,m)=>match x with
  | .ag l=>if l.length=m∧off+m≤cs.length then some (cs.take off ++ l ++ cs.drop (off+m)) else none
  | _=>none
 | none=>none
theorem flP_n {pl:List (Nat × Nat)} {cs:List PV}:flP pl cs []=some cs:=rfl
theorem flP_c {pl:List (Nat × Nat)} {cs:List PV} {i:Nat} {x:PV} {r:List (Nat × PV)}:flP pl cs ((i,x) :: r)=(flS (pl[i]?) x cs).bind fun c=>flP pl c r:=by
 rw [flP];unfold flS;cases pl[i]? with
 | none=>rfl
 | some p =>
  obtain ⟨off,m⟩:=p
  match m with
  | 0=>cases x <;> (try rfl); simp only; split <;> rfl
  | 1 =>
   cases x <;> simp only [qbg] <;> (try rfl)
   case vl y=>by_cases h1:y.oneCell'=true <;> by_cases h2:off < cs.length <;> simp [h1,h2]
   all_goals (by_cases h2:off < cs.length <;> simp [h2])
  | m+2=>cases x <;> (try rfl); simp only; split <;> rfl
theorem flS_2 {off:Nat} {a b:PV} {cs:List PV}:flS (some (off,2)) (.ag [a,b]) cs=q8J cs off [a,b]:=by
 rw [q5C (by simp)];simp [flS]
theorem flS_4 {off:Nat} {a b c d:PV} {cs:List PV}:flS (some (off,4)) (.ag [a,b,c,d]) cs=q8J cs off [a,b,c,d]:=by
 rw [q5C (by simp)];simp [flS]
theorem flS_i {off:Nat} {k:IntKind} {z:Int} {cs:List PV}:flS (some (off,1)) (.vl (.int k z)) cs=q7G cs off (.vl (.int k z)):=rfl
theorem flS_b {off:Nat} {z:Bool} {cs:List PV}:flS (some (off,1)) (.vl (.bool z)) cs=q7G cs off (.vl (.bool z)):=rfl
theorem flS_l {off n c:Nat} {A:Option Addr} {cs:List PV}:flS (some (off,1)) (.vl (.slice A n c)) cs=q7G cs off (.vl (.slice A n c)):=rfl
theorem flS_s {off:Nat} {k:Kd} {l cs:List PV}:flS (some (off,1)) (.sl k l) cs=q7G cs off (.sl k l):=rfl
theorem flS_o {off id a n:Nat} {k:Kd} {cs:List PV}:flS (some (off,1)) (.ow id k a n) cs=q7G cs off (.ow id k a n):=rfl
attribute [go_sem] qne qnf qng qni qnh flS_2 flS_4 flP_n flP_c flS_i flS_b flS_l flS_s flS_o
theorem tkm {α β:Type} {f:α→β} {l:List α}:(l.map f).take l.length=l.map f:=List.take_of_length_le (by simp)
theorem tkm' {α β:Type} {f:α→β} {l:List α} {n:Nat} (hn:l.length≤n):(l.map f).take n=l.map f:=List.take_of_length_le (by simpa using hn)
theorem tkl {α:Type} {l:List α}:l.take l.length=l:=List.take_length
attribute [go_sem] tkm tkm' tkl
def nin (x:Nat):List Nat→Prop
 | []=>True
 | y :: r=>x≠y∧nin x r
def dis (l:List Nat):List Nat→Prop
 | []=>True
 | x :: r=>nin x l∧dis l r
theorem qhX {x:Nat}:∀ {l:List Nat},nin x l=(x ∉ l)
 | []=>by simp [nin]
 | y :: r=>by simp [nin,qhX (l:=r)]
theorem qhf {l:List Nat}:∀ {r:List Nat},dis l r=∀ x ∈ r,x ∉ l
 | []=>by simp [dis]
 | y :: r=>by simp [dis,qhX,qhf (r:=r)]
theorem nin_n {x:Nat}:nin x []=True:=rfl
theorem nin_c {x y:Nat} {r:List Nat}:nin x (y :: r)=(x≠y∧nin x r):=rfl
theorem dis_n {l:List Nat}:dis l []=True:=rfl
theorem dis_c {l r:List Nat} {x:Nat}:dis l (x :: r)=(nin x l∧dis l r):=rfl
theorem dj_eq {a b c d:List Nat}:dj (a,b) (c,d)=(dis c b∧dis d b∧dis a d):=by
 simp only [dj,qhf];exact propext ⟨fun h=>⟨fun x hx=>(h.1 x hx).1,fun x hx=>(h.1 x hx).2,h.2⟩,fun h=>⟨fun x hx=>⟨h.1 x hx,h.2.1 x hx⟩,h.2.2⟩⟩
theorem qpa {a b:Nat} {r:List (Nat × Nat)} {acc:List FP}:qpb ((a,b) :: r) acc=(dj (acc.reverse.getD a ([],[])) (acc.reverse.getD b ([],[]))∧qpb r acc):=by
 simp [qpb,chk]
attribute [go_sem] nin_n nin_c dis_n dis_c dj_eq qpa List.reverse_cons List.reverse_nil List.cons_append List.getD_cons_zero List.getD_cons_succ Option.toList_some Option.toList_none List.append_nil
theorem qfw {z:Int} {A:Prop}:q2K none (.vl (.int .i64 z)) A=A:=by rw [qh8]; simp [cK,q4H]
theorem qfv {z:Int} {A:Prop}:q2K none (.vl (.int .u64 z)) A=A:=by rw [qh8]; simp [cK,q4H]
attribute [go_sem] qfw qfv cK_of
section
variable {τ:Nat→Option Nat} {h h':Hp} {x y:PV} {l m:List PV} {k k':Kd}
theorem qqf:LeV τ h h' x .un=True:=by simp [LeV.un]
theorem qi2 {a b:Value}:LeV τ h h' (.vl a) (.vl b)=(a=b):=by
 refine propext ⟨fun h=>by cases h; rfl,fun h=>by subst h; exact .cl (by simp [Cld,q49])⟩
theorem qqn {G H:Fam}:LeV τ h h' (.fm G) (.fm H)=(G=H):=by
 refine propext ⟨fun h=>by cases h; rfl,fun h=>by subst h; exact .cl (by simp [Cld,q49])⟩
theorem qqh:LeV τ h h' (.sl k l) (.sl k' m)=(k=k'∧l=m):=by
 refine propext ⟨fun h=>by cases h; exact ⟨rfl,rfl⟩,fun h=>by obtain ⟨rfl,rfl⟩:=h; exact .cl (by simp [Cld,q49])⟩
theorem qqk {i j a b c d:Nat}:LeV τ h h' (.ow j k a b) (.ow i k' c d)=(τ i=some j∧(∃ b,h' i=some b)∧k=k'∧a=c∧b=d):=by
 refine propext ⟨fun h=>?_,fun ⟨h1,⟨b,h2⟩,h3,h4,h5⟩=>by subst h3; subst h4; subst h5; exact .ow h1 h2⟩;cases h with
 | cl hc=>simp [Cld,q49] at hc
 | ow h1 h2=>exact ⟨h1,⟨_,h2⟩,rfl,rfl,rfl⟩
theorem qqj {i j a b c d:Nat}:LeV τ h h' (.pt j a b) (.pt i c d)=(τ i=some j∧(∃ b,h' i=some b)∧a=c∧b=d):=by
 refine propext ⟨fun h=>?_,fun ⟨h1,⟨b,h2⟩,h4,h5⟩=>by subst h4; subst h5; exact .pt h1 h2⟩;cases h with
 | cl hc=>simp [Cld,q49] at hc
 | pt h1 h2=>exact ⟨h1,⟨_,h2⟩,rfl,rfl⟩
theorem qi3 {j a b:Nat} {T:TypeId} (hj:h j=some ⟨T,k,l,false⟩) (hc:ClL l) (hn:∀ i,τ i=some j→h' i=none) (he:(l.drop a).take b=m):LeV τ h h' (.ow j k a b) (.sl k m):=by
 subst he;exact .fz hj rfl rfl hc hn
theorem qqm {i a b:Nat}:LeV τ h h' (.vl (.slice none 0 0)) (.ow i k a b)=(τ i=none∧(∃ b,h' i=some b∧b.k=k)∧a=0∧b=0):=by
 refine propext ⟨fun h=>?_,fun ⟨h1,⟨b,h2,h3⟩,h4,h5⟩=>by subst h4; subst h5; exact .nilow h1 h2 h3⟩;cases h with
 | nilow h1 h2 h3=>exact ⟨h1,⟨_,h2,h3⟩,rfl,rfl⟩
theorem qql:LeV τ h h' (.vl (.slice none 0 0)) (.sl k l)=(l=[]):=by
 refine propext ⟨fun h=>by cases h; rfl,fun h=>by subst h; exact .nilsl⟩
def qaz (τ:Nat→Option Nat) (h h':Hp):List PV→List PV→Prop
 | [],[]=>True
 | x :: l,y :: m=>LeV τ h h' x y∧qaz τ h h' l m
 | _,_=>False
theorem q6p:∀ {l m:List PV},qaz τ h h' l m=LeL τ h h' l m
 | [],[]=>by simp [qaz,LeL]
 | x :: l,[]=>by simp [qaz,LeL]
 | [],y :: m=>by simp [qaz,LeL]
 | x :: l,y :: m=>by
  simp only [qaz];rw [q6p (l:=l) (m:=m)];refine propext ⟨fun ⟨h1,h2,h3⟩=>⟨by simp [h2],fun i a b ha hb=>?_⟩,fun ⟨h1,h2⟩=>⟨h2 0 x y rfl rfl,by simpa using h1,fun i a b ha hb=>h2 (i+1) a b (by simpa using ha) (by simpa using hb)⟩⟩;cases i with
  | zero=>simp at ha hb; subst ha; subst hb; exact h1
  | succ i=>exact h3 i a b (by simpa using ha) (by simpa using hb)
theorem qqo:LeV τ h h' (.ag l) (.ag m)=qaz τ h h' l m:=by
 rw [q6p];refine propext ⟨fun h=>?_,fun ⟨h1,h2⟩=>.ag h1 h2⟩;cases h with
 | cl hc=>exact ⟨rfl,fun i a b ha hb=>by rw [ha] at hb; cases hb; have:=hc a (List.mem_of_getElem? ha); exact .cl (by cases a <;> simp_all [Cld,q49])⟩
 | ag h1 h2=>exact ⟨h1,h2⟩
theorem qqg:LeV τ h h' (.tu l) (.tu m)=qaz τ h h' l m:=by
 rw [q6p];refine propext ⟨fun h=>?_,fun ⟨h1,h2⟩=>.tu h1 h2⟩;cases h with
 | cl hc=>simp [Cld,q49] at hc
 | tu h1 h2=>exact ⟨h1,h2⟩
theorem qqp:qaz τ h h' [] []=True:=rfl
theorem qqq:qaz τ h h' (x :: l) (y :: m)=(LeV τ h h' x y∧qaz τ h h' l m):=rfl
theorem qqr {s:Nat→PV}:q7i τ h h' s []=True:=rfl
theorem qqs {s:Nat→PV} {t:Nat} {r:List (Nat × PV)}:q7i τ h h' s ((t,x) :: r)=(LeV τ h h' (s t) x∧q7i τ h h' s r):=rfl
theorem qqt {s s0:Nat→PV}:LeSk τ h h' s s0 []=True:=rfl
theorem qqu {s s0:Nat→PV} {t:Nat} {r:List Nat}:LeSk τ h h' s s0 (t :: r)=(LeV τ h h' (s t) (s0 t)∧LeSk τ h h' s s0 r):=rfl
theorem qrI:qmA τ h h' []=True:=rfl
theorem qrJ {t:Nat} {b:Bk} {r:List (Nat × Bk)}:qmA τ h h' ((t,b) :: r)=(LeB τ h h' t b∧qmA τ h h' r):=rfl
theorem qrM {hb:Hp}:LeBk τ h h' hb []=True:=rfl
theorem qrN {hb:Hp} {t:Nat} {r:List Nat}:LeBk τ h h' hb (t :: r)=((∀ b,hb t=some b→LeB τ h h' t b)∧LeBk τ h h' hb r):=rfl
theorem qnA {i a:Nat} {o:Option Nat} {r:List (Nat × Option Nat)}:q53 ((a,o) :: r) i=if i=a then o else q53 r i:=rfl
theorem qmz {i:Nat}:q53 [] i=some i:=rfl
def LeB' (o:Option Nat) (τ:Nat→Option Nat) (h h':Hp) (b':Bk):Prop :=
 match o with
 | some j=>∃ b,h j=some b∧b'.T=b.T∧b'.k=b.k∧(b'.st=false∧b.st=false)∧LeL τ h h' b.xs b'.xs
 | none=>b'.xs=[]
theorem qrP {i:Nat} {b':Bk}:LeB τ h h' i b'=LeB' (τ i) τ h h' b':=rfl
def LeBb (o:Option Bk) (τ:Nat→Option Nat) (h h':Hp) (b':Bk):Prop:=∃ b,o=some b∧b'.T=b.T∧b'.k=b.k∧(b'.st=false∧b.st=false)∧LeL τ h h' b.xs b'.xs
theorem qrQ {j:Nat} {b':Bk}:LeB' (some j) τ h h' b'=LeBb (h j) τ h h' b':=rfl
theorem qrR {T:TypeId} {st:Bool}:LeB' none τ h h' ⟨T,k,l,st⟩=(l=[]):=rfl
theorem qrO {T T':TypeId} {st st':Bool}:LeBb (some ⟨T,k,l,st⟩) τ h h' ⟨T',k',m,st'⟩=(T'=T∧k'=k∧(st'=false∧st=false)∧LeL τ h h' l m):=by simp [LeBb]
theorem q2E (he:l=m) (hc:ClL m):LeL τ h h' l m:=by
 subst he;exact ⟨rfl,fun i a b ha hb=>by rw [ha] at hb; cases hb; exact .cl (hc a (List.mem_of_getElem? ha))⟩
theorem q8m:LeL τ h h' [x] [y]=LeV τ h h' x y:=by rw [← q6p]; simp [qaz]
theorem qis:q8A τ []=True:=rfl
def qgu (τ:Nat→Option Nat) (i:Nat):List Nat→Prop
 | []=>True
 | j :: r=>(i=j∨τ i=none∨τ i≠τ j)∧qgu τ i r
theorem qbR {i:Nat}:∀ {r:List Nat},qgu τ i r=∀ j ∈ r,i=j∨τ i=none∨τ i≠τ j
 | []=>by simp [qgu]
 | j :: r=>by simp only [qgu,qbR (r:=r),List.forall_mem_cons]
theorem qnC {i:Nat}:qgu τ i []=True:=rfl
theorem qnD {i j:Nat} {r:List Nat}:qgu τ i (j :: r)=((i=j∨τ i=none∨τ i≠τ j)∧qgu τ i r):=rfl
theorem qit {i:Nat} {r:List Nat}:q8A τ (i :: r)=(qgu τ i r∧q8A τ r):=by rw [qbR]; rfl
theorem qpR {i:Nat} {b:Bk} {bs:List (Nat × Bk)} {kb:List Nat}:dom1 ((i,b) :: bs) kb=i :: dom1 bs kb:=rfl
theorem qpQ {kb:List Nat}:dom1 [] kb=kb:=rfl
end
section
variable {P:Program} {Tb:World→Prop} {J:Nat→Prop} {n:Nat} {Q:SQ} {s:Nat→PV} {h:Hp}
theorem qgn {id:Nat} {l:List Oper} {b:Code} (hw:∀ K:(Nat→PV)→Hp→Prop,(∀ s h,AW P Tb J n b Q s h→K s h)→AL P Tb l (fun s h _=>K s h) l s h []):AW P Tb J n (.seq (.region id l.toArray false) b) Q s h :=
 q7l fun K hK=>qi6 fun K1 hK1=>hw K1 fun s h hb=>hK1 s h (hK s h hb)
theorem Az {id:Nat} {l:List Oper} {b:Code} {s1:Nat→PV} {h1:Hp}  (k:AW P Tb J n b Q s1 h1) (ee:∀ K:(Nat→PV)→Hp→Prop,AL P Tb l (fun s h _=>K s h) l s h []=K s1 h1:=by intro K; simp -implicitDefEqProofs (disch:=omega) only [go_sem,Nat.reduceEqDiff,Nat.reduceAdd,↓reduceIte]; exact rfl):AW P Tb J n (.seq (.region id l.toArray false) b) Q s h:=qgn fun K hK=>(ee K).mpr (hK _ _ k)
theorem Az1 {id:Nat} {l:List Oper} {b:Code} {s1:Nat→PV} {h1:Hp} {F1:Prop} (f1:F1) (k:AW P Tb J n b Q s1 h1) (ee:F1→∀ K:(Nat→PV)→Hp→Prop,AL P Tb l (fun s h _=>K s h) l s h []=K s1 h1:=by intro g1 K; simp -implicitDefEqProofs (disch:=omega) only [go_sem,Nat.reduceEqDiff,Nat.reduceAdd,↓reduceIte,g1]; exact rfl):AW P Tb J n (.seq (.region id l.toArray false) b) Q s h:=qgn fun K hK=>(ee f1 K).mpr (hK _ _ k)
theorem Az2 {id:Nat} {l:List Oper} {b:Code} {s1:Nat→PV} {h1:Hp} {F1 F2:Prop} (f1:F1) (f2:F2) (k:AW P Tb J n b Q s1 h1) (ee:F1→F2→∀ K:(Nat→PV)→Hp→Prop,AL P Tb l (fun s h _=>K s h) l s h []=K s1 h1:=by intro g1 g2 K; simp -implicitDefEqProofs (disch:=omega) only [go_sem,Nat.reduceEqDiff,Nat.reduceAdd,↓reduceIte,g1,g2]; exact rfl):AW P Tb J n (.seq (.region id l.toArray false) b) Q s h:=qgn fun K hK=>(ee f1 f2 K).mpr (hK _ _ k)
theorem Az3 {id:Nat} {l:List Oper} {b:Code} {s1:Nat→PV} {h1:Hp} {F1 F2 F3:Prop} (f1:F1) (f2:F2) (f3:F3) (k:AW P Tb J n b Q s1 h1) (ee:F1→F2→F3→∀ K:(Nat→PV)→Hp→Prop,AL P Tb l (fun s h _=>K s h) l s h []=K s1 h1:=by intro g1 g2 g3 K; simp -implicitDefEqProofs (disch:=omega) only [go_sem,Nat.reduceEqDiff,Nat.reduceAdd,↓reduceIte,g1,g2,g3]; exact rfl):AW P Tb J n (.seq (.region id l.toArray false) b) Q s h:=qgn fun K hK=>(ee f1 f2 f3 K).mpr (hK _ _ k)
theorem Az4 {id:Nat} {l:List Oper} {b:Code} {s1:Nat→PV} {h1:Hp} {F1 F2 F3 F4:Prop} (f1:F1) (f2:F2) (f3:F3) (f4:F4) (k:AW P Tb J n b Q s1 h1) (ee:F1→F2→F3→F4→∀ K:(Nat→PV)→Hp→Prop,AL P Tb l (fun s h _=>K s h) l s h []=K s1 h1:=by intro g1 g2 g3 g4 K; simp -implicitDefEqProofs (disch:=omega) only [go_sem,Nat.reduceEqDiff,Nat.reduceAdd,↓reduceIte,g1,g2,g3,g4]; exact rfl):AW P Tb J n (.seq (.region id l.toArray false) b) Q s h:=qgn fun K hK=>(ee f1 f2 f3 f4 K).mpr (hK _ _ k)
theorem Az5 {id:Nat} {l:List Oper} {b:Code} {s1:Nat→PV} {h1:Hp} {F1 F2 F3 F4 F5:Prop} (f1:F1) (f2:F2) (f3:F3) (f4:F4) (f5:F5) (k:AW P Tb J n b Q s1 h1) (ee:F1→F2→F3→F4→F5→∀ K:(Nat→PV)→Hp→Prop,AL P Tb l (fun s h _=>K s h) l s h []=K s1 h1:=by intro g1 g2 g3 g4 g5 K; simp -implicitDefEqProofs (disch:=omega) only [go_sem,Nat.reduceEqDiff,Nat.reduceAdd,↓reduceIte,g1,g2,g3,g4,g5]; exact rfl):AW P Tb J n (.seq (.region id l.toArray false) b) Q s h:=qgn fun K hK=>(ee f1 f2 f3 f4 f5 K).mpr (hK _ _ k)
theorem Az6 {id:Nat} {l:List Oper} {b:Code} {s1:Nat→PV} {h1:Hp} {F1 F2 F3 F4 F5 F6:Prop} (f1:F1) (f2:F2) (f3:F3) (f4:F4) (f5:F5) (f6:F6) (k:AW P Tb J n b Q s1 h1) (ee:F1→F2→F3→F4→F5→F6→∀ K:(Nat→PV)→Hp→Prop,AL P Tb l (fun s h _=>K s h) l s h []=K s1 h1:=by intro g1 g2 g3 g4 g5 g6 K; simp -implicitDefEqProofs (disch:=omega) only [go_sem,Nat.reduceEqDiff,Nat.reduceAdd,↓reduceIte,g1,g2,g3,g4,g5,g6]; exact rfl):AW P Tb J n (.seq (.region id l.toArray false) b) Q s h:=qgn fun K hK=>(ee f1 f2 f3 f4 f5 f6 K).mpr (hK _ _ k)
theorem stM_c {xs kv:List (Nat × PV)} {t a:Nat} {x:PV}:stM ((a,x) :: xs) kv t=if t=a then x else stM xs kv t:=rfl
theorem stM_n {kv:List (Nat × PV)} {t:Nat}:stM [] kv t=stV kv t:=rfl
theorem stV_c {kv:List (Nat × PV)} {t a:Nat} {x:PV}:stV ((a,x) :: kv) t=if t=a then x else stV kv t:=rfl
theorem stV_n {t:Nat}:stV [] t=.un:=rfl
theorem hpM_c {bs:List (Nat × Bk)} {kb:List (Nat × Option Bk)} {i a:Nat} {b:Bk}:hpM ((a,b) :: bs) kb i=if i=a then some b else hpM bs kb i:=rfl
theorem hpM_n {kb:List (Nat × Option Bk)} {i:Nat}:hpM [] kb i=hpV kb i:=rfl
theorem hpV_c {kb:List (Nat × Option Bk)} {i a:Nat} {b:Option Bk}:hpV ((a,b) :: kb) i=if i=a then b else hpV kb i:=rfl
theorem hpV_n {i:Nat}:hpV [] i=none:=rfl
theorem qrK {τ:Nat→Option Nat} {h h':Hp}:qbA τ h h' []=True:=rfl
theorem qrL {τ:Nat→Option Nat} {h h':Hp} {i:Nat} {T:TypeId} {k:Kd} {l:List PV} {st:Bool} {r:List (Nat × Option Bk)}:qbA τ h h' ((i,some ⟨T,k,l,st⟩) :: r)=(LeB τ h h' i ⟨T,k,l,st⟩∧qbA τ h h' r):=by simp [qbA]
attribute [go_sem ↓] stM_c stM_n stV_c stV_n hpM_c hpM_n hpV_c hpV_n
attribute [go_sem] qrK qrL
def qjQ (o:Option (List PV × List Nat)) (r:PV):Prop:=match o with | some (al,_)=>LeV (fun _=>none) h0 h0 (mkR al) r | none=>False
theorem qnr {x r:PV} {l:List Nat}:qjQ (some ([x],l)) r=LeV (fun _=>none) h0 h0 x r:=rfl
theorem qns {r:PV} {l:List Nat}:qjQ (some ([],l)) r=LeV (fun _=>none) h0 h0 (.tu []) r:=rfl
theorem qnq {x y r:PV} {m:List PV} {l:List Nat}:qjQ (some (x :: y :: m,l)) r=LeV (fun _=>none) h0 h0 (.tu (x :: y :: m)) r:=rfl
theorem rsL_n:rsL P h s []=some []:=rfl
def rsC (h:Hp) (k:Option Kd) (p:PV):Option PV:=(ldP h k p).map (·.1)
theorem rsP_l {a t:Nat}:rsP P h s (.cell a t)=rsC h (q0g P t) (s a):=rfl
theorem rsC_p {k:Kd} {a i j:Nat}:rsC h (some k) (.pt a i j)=(h a).bind fun b=>if b.st=true∨ksz k=0 then none else (b.xs[i]?).bind (ldU b.k k j):=by
 have e:ldP h (some k) (.pt a i j)=(h a).bind fun b=>if b.st=true∨ksz k=0 then none else ((b.xs[i]?).bind (ldU b.k k j)).map fun x=>(x,[a]):=by
  cases hh:h a <;> simp [ldP,hh]
 unfold rsC;rw [e];cases h a with
 | none=>rfl
 | some b =>
  simp only [Option.bind_some]
  by_cases hc:b.st=true∨ksz k=0
  ·rw [if_pos hc,if_pos hc]; rfl
  ·rw [if_neg hc,if_neg hc];cases (b.xs[i]?).bind (ldU b.k k j) <;> rfl
def rsB (a:Option PV) (b:Option (List PV)):Option (List PV):=a.bind fun x=>b.map fun y=>x :: y
theorem rsL_c {r:ResultVar} {l:List ResultVar}:rsL P h s (r :: l)=rsB (rsP P h s r) (rsL P h s l):=rfl
theorem rsB_s {x:PV} {l:List PV}:rsB (some x) (some l)=some (x :: l):=rfl
theorem rt {fn:Func} {r:PV} {rs:List ResultVar} (hr:fn.results.toList=rs) (hlen:(decide (rs.length≤4))=true) (hk:qjQ ((rsL P h s rs).bind (q3K h)) r) {x:Exit} (hx:x=.ret∨x=.normal):retA P fn r x s h:=by
 refine ⟨hx,by rw [hr]; simpa using hlen,?_⟩;rw [hr];cases h1:rsL P h s rs with
 | none=>rw [h1] at hk; exact hk.elim
 | some l =>
  rw [h1,Option.bind_some] at hk;cases h2:q3K h l with
  | none=>rw [h2] at hk; exact hk.elim
  | some p=>rw [h2] at hk; exact ⟨l,p.1,p.2,rfl,h2,hk⟩
theorem A_t {c:Operand} {a b:Code} (hc:pe s c=.vl (.bool true)) (ha:AW P Tb J n a Q s h):AW P Tb J n (.cond c a b) Q s h:=qeI hc (fun _=>ha) (fun h=>by cases h)
theorem A_f {c:Operand} {a b:Code} (hc:pe s c=.vl (.bool false)) (hb:AW P Tb J n b Q s h):AW P Tb J n (.cond c a b) Q s h:=qeI hc (fun h=>by cases h) (fun _=>hb)
end
attribute [go_sem] qnr qns qnq rsL_n rsL_c rsB_s rsP_t rsP_l rsC_p qqf qi2 qqn qqh qqk qqj qqm qql qqo qqg qqp qqq qqr qqs qqt qqu qrI qrJ qrM qrN qnA qmz qrP qrQ qrR qrO q8m qis qit qpR qpQ qnC qnD ne_eq not_false_eq_true or_true true_or Option.some.injEq Value.int.injEq Value.bool.injEq Option.map_none exists_eq' false_or and_self reduceCtorEq
end Go.E
namespace Go.Proofs.YtbcmhlhgljoolaaGreatDoor
open Go Go.E Go.Sp
abbrev iv (z:Int):PV:=.vl (.int .i64 z)
abbrev uv (z:Int):PV:=.vl (.int .u64 z)
abbrev bv (b:Bool):PV:=.vl (.bool b)
abbrev qoZ:PV:=.vl (.slice none 0 0)
abbrev pI (l:List Int):PV:=.sl none (l.map fun z=>iv z)
abbrev pF (l:List Nat):PV:=.sl none (l.map fun z:Nat=>uv z)
abbrev pV (V:Int):PV:=.fm (fV V)
abbrev ACt (f:FuncId) (al:List PV) (r:PV):Prop:=AC Tryz.prog q2a f al r
section
variable {τ:Nat→Option Nat} {h h':Hp}
theorem qgk {l m:List Value}:LeL τ h h' (l.map .vl) (m.map .vl)=(l=m):=by
 refine propext ⟨fun ⟨h1,h2⟩=>?_,fun h=>by subst h; exact q2E rfl (by simp [ClL,Cld,q49])⟩
 apply List.ext_getElem?
 intro i
 rcases Nat.lt_or_ge i l.length with hi | hi
 ·have hm:i < m.length:=by simp at h1; omega
  have:=h2 i (.vl l[i]) (.vl m[i]) (by simp [hi]) (by simp [hm]);rw [qi2] at this;rw [List.getElem?_eq_getElem hi,List.getElem?_eq_getElem hm,this]
 ·rw [List.getElem?_eq_none hi,List.getElem?_eq_none (by simp at h1; omega)]
theorem q8n {α:Type} {f:α→Value} (hf:∀ a b,f a=f b→a=b) {l m:List α}:LeL τ h h' (l.map fun z=>.vl (f z)) (m.map fun z=>.vl (f z))=(l=m):=by
 have h1:=qgk (τ:=τ) (h:=h) (h':=h') (l:=l.map f) (m:=m.map f);rw [List.map_map,List.map_map] at h1;refine Eq.trans h1 (propext ⟨fun h=>?_,fun h=>by rw [h]⟩);exact List.map_inj_right hf |>.1 h
theorem inj_i:∀ a b:Int,Value.int .i64 a=Value.int .i64 b→a=b:=fun a b h=>by injection h
theorem inj_u:∀ a b:Nat,Value.int .u64 a=Value.int .u64 b→a=b:=fun a b h=>by injection h with _ h; omega
theorem inj_b:∀ a b:Bool,Value.bool a=Value.bool b→a=b:=fun a b h=>by injection h
theorem qaq {l m:List Int}:LeL τ h h' (l.map fun z=>iv z) (m.map fun z=>iv z)=(l=m):=q8n inj_i
theorem qeD {l m:List Nat}:LeL τ h h' (l.map fun z:Nat=>uv z) (m.map fun z:Nat=>uv z)=(l=m):=q8n (f:=fun z:Nat=>Value.int .u64 z) inj_u
theorem qgl {l m:List Bool}:LeL τ h h' (l.map fun z=>bv z) (m.map fun z=>bv z)=(l=m):=q8n inj_b
theorem qrC {m:List Int}:LeL τ h h' [] (m.map fun z=>iv z)=([]=m):=qaq (l:=[])
theorem qqx {m:List Nat}:LeL τ h h' [] (m.map fun z:Nat=>uv z)=([]=m):=qeD (l:=[])
theorem qrH {m:List Bool}:LeL τ h h' [] (m.map fun z=>bv z)=([]=m):=qgl (l:=[])
theorem qrE {x:Int} {m:List Int}:LeL τ h h' [iv x] (m.map fun z=>iv z)=([x]=m):=qaq (l:=[x])
theorem qrD {x:Int} {l m:List Int}:LeL τ h h' ((l.map fun z=>iv z) ++ [iv x]) (m.map fun z=>iv z)=(l ++ [x]=m):=by
 have:=qaq (τ:=τ) (h:=h) (h':=h') (l:=l ++ [x]) (m:=m)
 rwa [List.map_append] at this
theorem qqy {x:Nat} {l m:List Nat}:LeL τ h h' ((l.map fun z:Nat=>uv z) ++ [uv x]) (m.map fun z:Nat=>uv z)=(l ++ [x]=m):=by
 have:=qeD (τ:=τ) (h:=h) (h':=h') (l:=l ++ [x]) (m:=m)
 rwa [List.map_append] at this
theorem qrA {x:Int} {k:Nat} {l m:List Int}:LeL τ h h' ((l.map fun z=>iv z).set k (iv x)) (m.map fun z=>iv z)=(l.set k x=m):=by
 have:=qaq (τ:=τ) (h:=h) (h':=h') (l:=l.set k x) (m:=m)
 rwa [List.map_set] at this
theorem qqv {x:Nat} {k:Nat} {l m:List Nat}:LeL τ h h' ((l.map fun z:Nat=>uv z).set k (uv x)) (m.map fun z:Nat=>uv z)=(l.set k x=m):=by
 have:=qeD (τ:=τ) (h:=h) (h':=h') (l:=l.set k x) (m:=m)
 rwa [List.map_set] at this
theorem qrF {x:Bool} {k:Nat} {l m:List Bool}:LeL τ h h' ((l.map fun z=>bv z).set k (bv x)) (m.map fun z=>bv z)=(l.set k x=m):=by
 have:=qgl (τ:=τ) (h:=h) (h':=h') (l:=l.set k x) (m:=m)
 rwa [List.map_set] at this
theorem qqw {n:Nat} {m:List Nat}:LeL τ h h' (List.replicate n (uv 0)) (m.map fun z:Nat=>uv z)=(List.replicate n 0=m):=by
 have:=qeD (τ:=τ) (h:=h) (h':=h') (l:=List.replicate n 0) (m:=m)
 rwa [List.map_replicate] at this
theorem qrB {n:Nat} {x:Int} {m:List Int}:LeL τ h h' (List.replicate n (iv x)) (m.map fun z=>iv z)=(List.replicate n x=m):=by
 have:=qaq (τ:=τ) (h:=h) (h':=h') (l:=List.replicate n x) (m:=m)
 rwa [List.map_replicate] at this
theorem qrG {n:Nat} {x:Bool} {m:List Bool}:LeL τ h h' (List.replicate n (bv x)) (m.map fun z=>bv z)=(List.replicate n x=m):=by
 have:=qgl (τ:=τ) (h:=h) (h':=h') (l:=List.replicate n x) (m:=m)
 rwa [List.map_replicate] at this
attribute [go_sem] qaq qeD qgl qrC qqx qrH qrE qrD qqy qrA qqv qrF qqw qrB qrG exists_eq_left' forall_eq'
end
theorem q8y (w w':World) (hx:Ext w w') (hT:q2a w):q2a w':=hT.ext hx
theorem act {f:FuncId} {fn:Func} {c:Code} {al:List PV} {r:PV} (hc:q0C Tryz.prog f=true) (hf:Tryz.prog.funcs[f]?=some fn) (hb:fn.body=some c) {n:Nat} (hn:fn.ntmps=n) (hd:(decide (al.length≤n) && q7o n c)=true)
  (hw:AW Tryz.prog q2a (fun _=>False) n c (retA Tryz.prog fn r) (enP al) h0):ACt f al r:=AC_of hc hf hb hn hd q8y hw
end Go.Proofs.YtbcmhlhgljoolaaGreatDoor
namespace Go.E
open Go Go.RowKit
section
variable {P:Program} {Tb:World→Prop} {J:Nat→Prop} {n:Nat} {Q:SQ} {s:Nat→PV} {h:Hp}
theorem qhD:∀ {kv:List (Nat × PV)},(∀ p ∈ kv,p.2=s p.1)→∀ t,stV kv t=s t∨stV kv t=.un
 | [],_,_=>.inr rfl
 | p :: l,hk,t=>by
  unfold stV
  split
  ·rename_i ht; subst ht; exact .inl (hk p List.mem_cons_self)
  ·exact qhD (fun q hq=>hk q (List.mem_cons_of_mem _ hq)) t
theorem q8p {c:Code} (ks:List Nat) {kv:List (Nat × PV)} (hk:(ks.map fun t=>(t,s t))=kv) (hw:AW P Tb J n c Q (stV kv) h):AW P Tb J n c Q s h:=q8o (s':=stV kv) (h':=h) (fun D0 w0 ρ e w _ S=>⟨ρ,S.inj,S.own,S.vir,fun t=>by
  rcases qhD (s:=s) (kv:=kv) (fun p hp=>by
   rw [← hk] at hp;obtain ⟨t,_,rfl⟩:=List.mem_map.1 hp
   rfl) t with h | h
  ·rw [h]; exact S.rd t
  ·rw [h]; unfold Rd; trivial,S.ext,S.fr,S.imp,S.pin⟩) hw
theorem qkG {kk:IntKind} {l:List PV}:q95 (some 1) (.sl none l) (.vl (.int kk 0))=(l[0]?).map (.qt none):=qc9 (n:=0)
theorem qkI {kk:IntKind} {a off c:Nat} (hn:0 < c):q95 (some 1) (.ow a none off c) (.vl (.int kk 0))=some (.pt a off 0):=qca (n:=0) hn
def fldQ (r:Nat × Kd) (l:List PV):Option PV:=match r.2 with
 | none=>(l[r.1]?).map (.qt none)
 | some m=>if r.1+m≤l.length∧0 < m then some (.qt (some m) (.ag ((l.drop r.1).take m))) else none
theorem qos {t:TypeId} {f n:Nat} {l:List PV}:qmW P t f (.qt (some n) (.ag l))=(q32 P t f).bind fun r=>fldQ r l:=by unfold qmW fldQ; rfl
theorem qov {o:Nat} {l:List PV}:fldQ (o,none) l=(l[o]?).map (.qt none):=rfl
attribute [go_sem] qkG qkI qos qov Option.bind_some
end
def nos:Nat→PV:=fun _=>.un
abbrev win (i:Nat):Prop:=5000≤i∧i < 1000000
def q1q (hw h:Hp):Hp:=fun i=>if win i then hw i else h i
mutual
def IdP (p:Nat→Prop):PV→Prop
 | .ow id _ _ _=>p id
 | .pt id _ _=>p id
 | .ag l=>IdL p l
 | .tu l=>IdL p l
 | _=>True
def IdL (p:Nat→Prop):List PV→Prop
 | []=>True
 | x :: l=>IdP p x∧IdL p l
end
theorem IdL.mem {p:Nat→Prop}:∀ {l:List PV},IdL p l→∀ x ∈ l,IdP p x
 | y :: l,h,x,hx=>by
  unfold IdL at h
  rcases List.mem_cons.1 hx with rfl | hx
  ·exact h.1
  ·exact h.2.mem x hx
theorem IdL.of {p:Nat→Prop}:∀ {l:List PV},(∀ x ∈ l,IdP p x)→IdL p l
 | [],_=>by unfold IdL; trivial
 | y :: l,h=>by unfold IdL; exact ⟨h y List.mem_cons_self,IdL.of fun x hx=>h x (List.mem_cons_of_mem _ hx)⟩
section
variable {w:World} {D D':Nat→Prop} {ρ:Nat→Option Nat} {h h':Hp} {p:Nat→Prop}
mutual
theorem Rd.only (hd:∀ k,D k→D' k) (hp:∀ i,p i→h' i=h i):∀ (x:PV) (y:Value),IdP p x→Rd w D x ρ h y→Rd w D' x ρ h' y
 | .un,_,_,_=>by unfold Rd; trivial
 | .vl x,y,_,hr=>by unfold Rd at hr ⊢; exact hr
 | .fm G,y,_,hr=>by unfold Rd at hr ⊢; exact hr.sub fun k _ hk=>hd k hk
 | .sl k l,y,_,hr=>((q5V (x:=.sl k l) trivial hr).sub fun k _ hk=>hd k hk).cl
 | .qt k x,y,_,hr=>((q5V (x:=.qt k x) trivial hr).sub fun k _ hk=>hd k hk).cl
 | .ow id k off n,y,hi,hr=>by
  unfold IdP at hi;unfold Rd at hr ⊢;rw [hp id hi];exact hr
 | .pt id i j,y,hi,hr=>by
  unfold IdP at hi;unfold Rd at hr ⊢;rw [hp id hi];exact hr
 | .ag l,y,hi,hr=>by
  unfold IdP at hi;unfold Rd at hr ⊢;obtain ⟨vs,h1,h2⟩:=hr;exact ⟨vs,h1,RdL.only hd hp l vs hi h2⟩
 | .tu l,y,hi,hr=>by
  unfold IdP at hi;unfold Rd at hr ⊢;obtain ⟨vs,h1,h2⟩:=hr;exact ⟨vs,h1,RdL.only hd hp l vs hi h2⟩
theorem RdL.only (hd:∀ k,D k→D' k) (hp:∀ i,p i→h' i=h i):∀ (l:List PV) (vs:List Value),IdL p l→RdL w D l ρ h vs→RdL w D' l ρ h' vs
 | [],vs,_,hr=>by unfold RdL at hr ⊢; exact hr
 | x :: l,vs,hi,hr=>by
  unfold IdL at hi;unfold RdL at hr ⊢;obtain ⟨y,ys,h1,h2,h3⟩:=hr;exact ⟨y,ys,h1,Rd.only hd hp x y hi.1 h2,RdL.only hd hp l ys hi.2 h3⟩
end
end
structure ACm (P:Program) (Tb:World→Prop) (f:FuncId) (al:List PV) (hin:Hp) (x:PV) (hout:Hp):Prop where
 ca:q0C P f=true
 hi:∀ i b,hin i=some b→win i∧b.st=false∧IdL win b.xs∧∃ b',hout i=some b'∧b'.k=b.k∧b.xs.length≤b'.xs.length
 ho:∀ i b,hout i=some b→win i
 ids:IdL win al
 run:∀ (D0:Nat→Prop) (B:Base) (ρ:Nat→Option Nat) (w:World) (vs:List Value),(∀ w',Kp B.F B.w w'→Tb w')→(∀ i r,B.J i r→hin i≠none)→Fr D0 B.w→vs.length=al.length→Sat D0 B (enP al) hin ρ (q48 vs) w →
  Calls P f vs.toArray w fun r w'=>∃ v ρ',r=.returned v∧Sat D0 B nos hout ρ' (fun _=>v) w'∧Rd w' (dm D0 ρ' hout) x ρ' hout v
def retM (P:Program) (fn:Func) (hin:Hp) (x:PV) (hout:Hp):SQ:=fun e s h=>(e=.ret∨e=.normal)∧fn.results.toList.length≤4∧∃ l,rsL P h s fn.results.toList=some l∧Le (fun i=>hin i≠none) (fun _=>mkR l) h (fun _=>x) hout
section
variable {P:Program} {Tb:World→Prop} {n:Nat} {s:Nat→PV} {h hin hout:Hp} {D0:Nat→Prop} {w0:Base} {w:World} {ρ:Nat→Option Nat} {e:Env}
theorem qo2 {D:Nat→Prop} {l:List PV} {us:List Value} (hr:RdL w D l ρ h us):Rd w D (mkR l) ρ h (mkV us):=by
 cases l with
 | nil=>unfold RdL at hr; subst hr; unfold mkR mkV Rd; exact ⟨[],rfl,by unfold RdL; rfl⟩
 | cons c cl =>
  cases cl with
  | nil =>
   unfold RdL at hr;obtain ⟨y,ys,rfl,e1,e2⟩:=hr;unfold RdL at e2;subst e2;exact e1
  | cons d cl =>
   have u5:=hr;unfold RdL at u5;obtain ⟨y,ys,rfl,e1,e2⟩:=u5;unfold RdL at e2;obtain ⟨z,zs,rfl,e3,e4⟩:=e2
   show Rd w D (.tu (c :: d :: cl)) _ _ (.tuple ⟨y :: z :: zs⟩)
   unfold Rd;exact ⟨_,rfl,hr⟩
theorem qr1 {f:FuncId} {fn:Func} {c:Code} {al:List PV} {x:PV} (hc:q0C P f=true) (hf:P.funcs[f]?=some fn) (hb:fn.body=some c) (hn:fn.ntmps=n) (hd:(decide (al.length≤n) && q7o n c)=true)
  (hi:∀ i b,hin i=some b→win i∧b.st=false∧IdL win b.xs∧∃ b',hout i=some b'∧b'.k=b.k∧b.xs.length≤b'.xs.length) (ho:∀ i b,hout i=some b→win i) (hal:IdL win al)
  (hw:AW P Tb (fun i=>hin i≠none) n c (retM P fn hin x hout) (enP al) hin):ACm P Tb f al hin x hout:=by
 refine ⟨hc,hi,ho,hal,fun D0 B ρ w vs hT hJ hF hlen S=>?_⟩;refine q0I hf hb hn (by rw [List.size_toArray,hlen]; exact hd) ?_;refine q4W (fun y e' w' hx=>?_) (hw D0 B ρ _ w ⟨hT,hJ⟩ hF S);obtain ⟨s',h',ρ',S',hy,h4,l,h1,hle⟩:=hx;obtain ⟨us,u1,u2⟩:=qbr S' h1;have S2:Sat D0 B (fun _=>mkR l) h' ρ' (fun _=>mkV us) w':=⟨S'.inj,S'.own,S'.vir,fun _=>qo2 u2,S'.ext,S'.fr,S'.imp,S'.pin⟩;obtain ⟨ρ2,S3⟩:=hle _ _ _ _ _ hJ S2;have fin:∃ v ρ',Ending.returned (mkV us)=.returned v∧Sat D0 B nos hout ρ' (fun _=>v) w'∧Rd w' (dm D0 ρ' hout) x ρ' hout v :=
  ⟨_,ρ2,rfl,⟨S3.inj,S3.own,S3.vir,fun _=>by unfold nos Rd; trivial,S3.ext,S3.fr,S3.imp,S3.pin⟩,S3.rd 0⟩
 have key:q7n P fn (fun r w'=>∃ v ρ',r=.returned v∧Sat D0 B nos hout ρ' (fun _=>v) w'∧Rd w' (dm D0 ρ' hout) x ρ' hout v) .ret e' w':=by
  cases hrs:fn.results with
  | mk rs =>
  rw [hrs] at u1 h4;simp only at u1 h4;clear u2 h1 S2 hle S3
  rcases rs with _ | ⟨a,_ | ⟨b,_ | ⟨c,_ | ⟨d,_ | ⟨f,rs⟩⟩⟩⟩⟩ <;> rcases us with _ | ⟨x,_ | ⟨y,_ | ⟨z,_ | ⟨t,_ | ⟨t',us⟩⟩⟩⟩⟩ <;> simp at u1 h4
  ·exact ret0 hrs fin
  ·exact q28 hrs u1 fin
  ·exact qjS hrs u1.1 u1.2 fin
  ·exact qjR hrs u1.1 u1.2.1 u1.2.2 fin
  ·exact qnt hrs u1.1 u1.2.1 u1.2.2.1 u1.2.2.2 fin
 rcases hy with rfl | rfl
 ·exact key
 ·exact key
theorem q1G {hw:Hp} {i:Nat} (hi:win i):q1q hw h i=hw i:=if_pos hi
theorem q1c {hw:Hp} {i:Nat} (hi:¬ win i):q1q hw h i=h i:=if_neg hi
theorem Blk.uniq {g:Nat} {T T':TypeId} {c c':Array Value} (h1:Blk w g T c) (h2:Blk w g T' c'):c=c'∧T=T':=by
 have h5:=h1.symm.trans h2
 injection h5 with h5
 injection h5 with h5 h6
 exact ⟨h5,h6⟩
theorem Sat.callm {J:Nat→Prop} (S:Sat D0 w0 s h ρ e w) (hT:∀ w,Kp w0.F w0.w w→Tb w) (hF:Fr D0 w0.w) (hJ:∀ i r,w0.J i r→J i) {f:FuncId} {args:List Operand} {al:List PV} {x:PV} (ha:args.map (pe s)=al) (hC:ACm P Tb f al hin x hout) (hh:∀ i,win i→h i=hin i) (hn:∀ i,J i→hout i≠none→hin i≠none) {K:Value→World→Prop}
  (hK:∀ v w' ρ',Sat D0 w0 s (q1q hout h) ρ' e w'→Rd w' (dm D0 ρ' (q1q hout h)) x ρ' (q1q hout h) v→K v w'):q0C P f=true∧Calls P f (args.map (ev e)).toArray w fun r w'=>match r with | .returned v=>K v w' | _=>False:=by
 classical
 refine ⟨hC.ca,?_⟩;subst ha
 let hd:Nat→Prop:=fun g=>∃ i b,win i∧h i=some b∧ρ i=some g
 let B:Base:=⟨w,fun k=>k < w.heap.size∧¬ hd k,fun g T m=>∃ cs,Blk w g T cs∧cs.size=m∧∀ u ∈ cs.toList,q4H u=true,fun i r=>(∃ b,hin i=some b)∧ρ i=r,fun k hk=>hk.1,fun i r ⟨⟨b,hb⟩,_⟩=>(hC.hi i b hb).1⟩
 let D1:Nat→Prop:=fun k=>D0 k∧(hd k∨∀ i b,h i=some b→¬ win i→ρ i≠some k)
 have toh:∀ {i b},hin i=some b→h i=some b:=fun {i b} hb=>(hh i (hC.hi i b hb).1).trans hb;have hno:∀ i b g,h i=some b→¬ win i→b.st=false→ρ i=some g→¬ hd g:=fun i b g hi hw hs hr ⟨j,c,wj,hj,rj⟩=>by
  have hcs:=(hC.hi j c ((hh j wj).symm.trans hj)).2.1
  rcases S.inj i j b c g hi hj hcs hr rj with e | e
  ·subst e; exact hw wj
  ·rw [hs] at e; cases e
 have e1:∀ k,dm D1 ρ hin k ↔ dm D0 ρ h k:=fun k=>by
  constructor
  ·rintro ⟨⟨q1,q2⟩,q3⟩;refine ⟨q1,fun i b hi hr=>?_⟩
   by_cases hw:win i
   ·exact q3 i b ((hh i hw).symm.trans hi) hr
   ·rcases q2 with ⟨j,c,wj,hj,rj⟩ | q2
    ·exact q3 j c ((hh j wj).symm.trans hj) rj
    ·exact q2 i b hi hw hr
  ·rintro ⟨q1,q2⟩;exact ⟨⟨q1,.inr fun i b hi _=>q2 i b hi⟩,fun i b hi=>q2 i b (toh hi)⟩
 have S0:Sat D1 B (enP (args.map (pe s))) hin ρ (q48 (args.map (ev e))) w:=by
  refine ⟨fun i j b c g hi hj hs ri rj=>S.inj i j b c g (toh hi) (toh hj) hs ri rj,fun i b g hi ri=>?_,fun i b hi ri=>S.vir i b (toh hi) ri,fun t=>?_,Kp.refl _ _,fun k hk=>?_,fun g T m hi=>hi,fun i r hi=>hi.2⟩
  ·obtain ⟨a1,cs,c1,c2,c3⟩:=S.own i b g (toh hi) ri;have hg:hd g:=⟨i,b,(hC.hi i b hi).1,toh hi,ri⟩;refine ⟨⟨fun hf=>hf.2 hg,a1.2,.inl hg⟩,cs,c1,c2,fun hs=>?_⟩;obtain ⟨vs,v1,v2,v3⟩:=c3 hs;exact ⟨vs,v1,RdL.only (fun k hk=>(e1 k).2 hk) (fun i hi=>(hh i hi).symm) _ _ (hC.hi i b hi).2.2.1 v2,v3⟩
  ·unfold enP q48;rw [List.getD_eq_getElem?_getD,List.getD_eq_getElem?_getD,List.getElem?_map,List.getElem?_map];cases ht:args[t]? with
   | none=>simp only [Option.map_none,Option.getD_none]; unfold Rd; trivial
   | some x =>
    simp only [Option.map_some,Option.getD_some];exact Rd.only (fun k hk=>(e1 k).2 hk) (fun i hi=>(hh i hi).symm) _ _ (hC.ids.mem _ (List.mem_map_of_mem (List.mem_of_getElem? ht))) (S.pex x)
  ·exact ⟨hF k (Nat.le_trans S.ext.size hk),.inr fun i b hi _ hr=>by have:=(S.own i b k hi hr).2.lt; have:w.heap.size≤k:=hk; omega⟩
 have hFB:∀ k,w0.F k→B.F k:=fun k hk=>⟨Nat.lt_of_lt_of_le (w0.lt k hk) S.ext.size,fun ⟨i,b,_,hi,hr⟩=>(S.own i b k hi hr).1.1 hk⟩;have hFr:Fr D1 B.w:=S0.fr;refine (hC.run D1 B ρ w _ (fun w' hk=>hT w' (S.ext.trans (hk.mono fun k _ hq=>hFB k hq))) (fun i r ⟨⟨b,hb⟩,_⟩=>by rw [hb]; exact Option.some_ne_none b) hFr (by simp) S0).mono fun r w' hx=>?_;obtain ⟨v,ρ',rfl,S',hx⟩:=hx
 let ρ2:Nat→Option Nat:=fun i=>if win i then (if hout i=none then ρ i else ρ' i) else ρ i
 have p1:∀ {i b},hin i=some b→ρ' i=ρ i:=fun {i b} hb=>S'.pin i _ ⟨⟨b,hb⟩,rfl⟩;have p2:∀ {i b},hout i=some b→ρ2 i=ρ' i:=fun {i b} hb=>by simp only [ρ2,if_pos (hC.ho i b hb),hb]; rfl
 have p3:∀ {i},¬ win i→ρ2 i=ρ i:=fun {i} hw=>by simp only [ρ2,if_neg hw]
 have hk:Kp B.F w w':=S'.ext;have bold:∀ i b g,h i=some b→ρ i=some g→∃ cs,Blk w' g b.T cs∧(∀ u ∈ cs.toList,q4H u=true)∧∀ m,BSz w g m→cs.size=m:=fun i b g hi hr=>by
  obtain ⟨_,cs,c1,c2,_⟩:=S.own i b g hi hr;obtain ⟨cs',d1,d2,d3⟩:=S'.imp g b.T cs.size ⟨cs,c1,rfl,c2⟩;refine ⟨cs',d1,d3,fun m ⟨c0,T0,f1,f2⟩=>?_⟩;have:=(Blk.uniq c1 f1).1;subst this;omega
 have hdn:∀ {k},dm D0 ρ h k→¬ hd k:=fun {k} hq ⟨i,b,_,hi,hr⟩=>hq.2 i b hi hr;have cA:Cpt w w' ρ h ρ2 (q1q hout h):=fun i b hi=>by
  refine ⟨?_,?_,fun g m hr hb=>?_⟩
  ·by_cases hw:win i
   ·have hb:=(hh i hw).symm.trans hi;obtain ⟨b',hb',_⟩:=(hC.hi i b hb).2.2.2;rw [p2 hb',p1 hb]
   ·exact p3 hw
  ·by_cases hw:win i
   ·obtain ⟨b',hb',h1,h2⟩:=(hC.hi i b ((hh i hw).symm.trans hi)).2.2.2;exact ⟨b',by rw [q1G hw]; exact hb',h1,h2⟩
   ·exact ⟨b,by rw [q1c hw]; exact hi,rfl,Nat.le_refl _⟩
  ·obtain ⟨cs,c1,_,c3⟩:=bold i b g hi hr;exact ⟨cs,_,c1,c3 m hb⟩
 have cB:Cpt w' w' ρ' hout ρ2 (q1q hout h):=fun i b hi=>⟨p2 hi,⟨b,by rw [q1G (hC.ho i b hi)]; exact hi,rfl,Nat.le_refl _⟩,fun _ _ _ hb=>hb⟩;have nF:∀ {i b g},hout i=some b→ρ' i=some g→g < w.heap.size→hd g:=fun {i b g} hi hr hlt=>by
  have:=(S'.own i b g hi hr).1.1;exact Classical.byContradiction fun hn=>this ⟨hlt,hn⟩
 have e2:∀ k,dm D1 ρ' hout k→dm D0 ρ2 (q1q hout h) k:=fun k ⟨⟨q1,q2⟩,q3⟩=>⟨q1,fun i b hi hr=>by
  by_cases hw:win i
  ·rw [q1G hw] at hi;rw [p2 hi] at hr;exact q3 i b hi hr
  ·rw [q1c hw] at hi;rw [p3 hw] at hr
   rcases q2 with ⟨j,c,wj,hj,rj⟩ | q2
   ·have hb:=(hh j wj).symm.trans hj;obtain ⟨b',hb',_⟩:=(hC.hi j c hb).2.2.2;exact q3 j b' hb' ((p1 hb).trans rj)
   ·exact q2 i b hi hw hr⟩
 have hd1:∀ k,k < w.heap.size→dm D0 ρ h k→dm D0 ρ2 (q1q hout h) k:=fun k hlt hq=>⟨hq.1,fun i b hi hr=>by
  by_cases hw:win i
  ·rw [q1G hw] at hi;rw [p2 hi] at hr;exact hdn hq (nF hi hr hlt)
  ·rw [q1c hw] at hi;rw [p3 hw] at hr;exact hq.2 i b hi hr⟩
 have kpd:Kp (dm D0 ρ h) w w':=hk.mono fun k hlt hq=>⟨hlt,hdn hq⟩;refine hK v w' ρ2 ⟨fun i j b c g hi hj hs ri rj=>?_,fun i b g hi ri=>?_,fun i b hi ri=>?_,fun t=>Rd.mv kpd hd1 _ _ _ _ _ _ cA (S.rd t),S.ext.trans (hk.mono fun k _ hq=>hFB k hq),S.fr,fun g T m hi=>?_,fun i r hj=>?_⟩ (Rd.mv (Kp.refl _ _) (fun k _ hq=>e2 k hq) _ _ _ _ _ _ cB hx)
 ·by_cases wi:win i <;> by_cases wj:win j
  ·rw [q1G wi] at hi; rw [q1G wj] at hj;rw [p2 hi] at ri; rw [p2 hj] at rj;exact S'.inj i j b c g hi hj hs ri rj
  ·rw [q1G wi] at hi; rw [q1c wj] at hj;rw [p2 hi] at ri; rw [p3 wj] at rj;exact (hno j c g hj wj hs rj (nF hi ri (S.own j c g hj rj).2.lt)).elim
  ·rw [q1c wi] at hi; rw [q1G wj] at hj;rw [p3 wi] at ri; rw [p2 hj] at rj;cases hb:b.st
   ·exact (hno i b g hi wi hb ri (nF hj rj (S.own i b g hi ri).2.lt)).elim
   ·exact .inr rfl
  ·rw [q1c wi] at hi; rw [q1c wj] at hj;rw [p3 wi] at ri; rw [p3 wj] at rj;exact S.inj i j b c g hi hj hs ri rj
 ·by_cases wi:win i
  ·rw [q1G wi] at hi;rw [p2 hi] at ri;obtain ⟨⟨a1,a2⟩,a3⟩:=S'.own i b g hi ri;exact ⟨⟨fun hf=>a1 (hFB g hf),a2.1⟩,a3.mv rfl (Kp.refl _ _) (fun k _ hq=>e2 k hq) cB⟩
  ·rw [q1c wi] at hi;rw [p3 wi] at ri;obtain ⟨a1,a2⟩:=S.own i b g hi ri;refine ⟨a1,?_⟩;cases hb:b.st
   ·exact a2.mv (hk.block g a2.lt ⟨a2.lt,hno i b g hi wi hb ri⟩) kpd hd1 cA
   ·obtain ⟨cs,c1,c2,_⟩:=bold i b g hi ri;exact ⟨cs,c1,c2,fun hf=>by rw [hb] at hf; cases hf⟩
 ·by_cases wi:win i
  ·rw [q1G wi] at hi;rw [p2 hi] at ri;exact S'.vir i b hi ri
  ·rw [q1c wi] at hi;rw [p3 wi] at ri;exact S.vir i b hi ri
 ·obtain ⟨cs,c1,c2,c3⟩:=S.imp g T m hi;exact S'.imp g T m ⟨cs,c1,c2,c3⟩
 ·have h1:=S.pin i r hj
  show (if win i then (if hout i=none then ρ i else ρ' i) else ρ i)=r
  split
  ·split
   ·exact h1
   ·rename_i ho;have:=hn i (hJ i r hj) ho;obtain ⟨b,hb⟩:=Option.ne_none_iff_exists'.1 this;rw [p1 hb]; exact h1
  ·exact h1
theorem q2M {α:Type} {o:Option α} {A B:α→Prop} (hk:∀ a,A a→B a) (h:q21 o A):q21 o B:=by
 cases o with
 | none=>exact h.elim
 | some a=>exact hk a h
theorem qii {o:Oper} {A B:Value→World→Prop} (hk:∀ v w,A v w→B v w) (h:wo P o e w A):wo P o e w B:=by
 obtain ⟨dst,op,ty,pos,af,gd⟩:=o;have hWO:WO P ⟨dst,op,ty,pos,af,gd⟩ e w A→WO P ⟨dst,op,ty,pos,af,gd⟩ e w B:=fun h=>qdz hk h;unfold wo at h ⊢;cases op <;> simp only at h ⊢ <;> (try (first | exact hk _ _ h | exact q2M (fun _ hq=>hk _ _ hq) h | exact hWO h))
 case pick c a b=>split at h <;> first | exact hk _ _ h | exact h
 case store t a x =>
  split at h
  ·exact ⟨h.1,h.2.1,hk _ _ h.2.2⟩
  ·exact h
 case fieldAddr t x f =>
  split at h
  ·exact q2M (fun _ hq=>hk _ _ hq) h
  ·exact h
 case slice t x lo hi mx=>cases mx <;> first | exact q2M (fun _ hq=>hk _ _ hq) h | exact hWO h
 case makeSlice t l c =>
  split at h
  ·exact q2M (fun _ hq=>⟨hq.1,hk _ _ hq.2⟩) h
  ·exact h
 case nilCheck x =>
  split at h
  ·exact hk _ _ h
  ·exact h
 case call c =>
  obtain ⟨callee,args,tys⟩:=c;cases callee
  case builtin b =>
   cases b <;> simp only at h ⊢ <;> (try (first | exact q2M (fun _ hq=>hk _ _ hq) h | exact hWO h))
   split at h
   ·exact q2M (fun _ hq=>hk _ _ hq) h
   ·exact h
  case value f =>
   cases f <;> simp only at h ⊢ <;> (try exact hWO h);exact ⟨h.1,h.2.mono fun x w' hq=>by cases x <;> first | exact hk _ _ hq | exact hq⟩
  case invoke r m=>exact hWO h
theorem qim {ops:Array Oper} {o:Oper} {A B:Value→World→Prop} (hk:∀ v w,A v w→B v w) (h:wg P ops o e w A):wg P ops o e w B:=by
 unfold wg at h ⊢
 split
 ·rename_i hw; rw [if_pos hw] at h; exact qii hk h
 ·rename_i hw; rw [if_neg hw] at h; exact hk _ _ h
def Sj (P:Program) (Tb:World→Prop) (J:Nat→Prop) (ops:List Oper) (o:Oper) (s:Nat→PV) (h:Hp) (K:(Nat→PV)→Hp→Prop):Prop :=
 (∃ x h' fp,q6q P Tb ops o s h x h' fp∧K (q2w s o.dst x) h') ∨
  (o.guard=none∧∃ f args ts hin x hout,o.op=.call ⟨.value (.func f),args,ts⟩∧ACm P Tb f (args.toList.map (pe s)) hin x hout∧(∀ i,win i→h i=hin i)∧(∀ i,J i→hout i≠none→hin i≠none)∧K (q2w s o.dst x) (q1q hout h))
def ALj (P:Program) (Tb:World→Prop) (J:Nat→Prop) (ops:List Oper) (K:(Nat→PV)→Hp→Prop):List Oper→(Nat→PV)→Hp→Prop
 | [],s,h=>K s h
 | o :: l,s,h=>Sj P Tb J ops o s h (ALj P Tb J ops K l)
def ASj (P:Program) (Tb:World→Prop) (J:Nat→Prop) (ops:List Oper) (K:(Nat→PV)→Hp→Prop):Sch→(Nat→PV)→Hp→Prop
 | .fin,s,h=>K s h
 | .one i t,s,h=>Sj P Tb J ops (qaY ops i) s h (ASj P Tb J ops K t)
 | .alt t u,s,h=>ASj P Tb J ops K t s h∧ASj P Tb J ops K u s h
theorem Sj_ok {J:Nat→Prop} {ops:List Oper} (hT:∀ w,Kp w0.F w0.w w→Tb w) (hJ:∀ i r,w0.J i r→J i) (hF:Fr D0 w0.w) {o:Oper} {K:(Nat→PV)→Hp→Prop} {K':Env→World→Prop} (S:Sat D0 w0 s h ρ e w) (hs:Sj P Tb J ops o s h K) (hk:∀ s h ρ e w,Sat D0 w0 s h ρ e w→K s h→K' e w):wg P ops.toArray o e w fun v w'=>K' (E.put e o.dst v) w':=by
 rcases hs with ⟨x,h',fp,h1,h2⟩ | ⟨hg,f,args,ts,hin,x,hout,ho,hC,hh,hn,h2⟩
 ·exact qim (fun v w' ⟨ρ',S'⟩=>hk _ _ ρ' _ _ S' h2) (q8Z S (hT _ S.ext) hF h1)
 ·have:=S.callm (K:=fun v w'=>K' (E.put e o.dst v) w') hT hF hJ rfl hC hh hn fun v w' ρ' S' hr=>hk _ _ ρ' _ _ (S'.puto o.dst hr) h2;have he:args.map (ev e)=(args.toList.map (ev e)).toArray:=by cases args; simp
  rw [← he] at this;obtain ⟨dst,op,ty,pos,af,gd⟩:=o;simp only at ho hg;subst ho;subst hg;rw [q6B];exact this
theorem qi8 {J:Nat→Prop} {ops:List Oper} {K:(Nat→PV)→Hp→Prop} (hT:∀ w,Kp w0.F w0.w w→Tb w) (hJ:∀ i r,w0.J i r→J i) (hF:Fr D0 w0.w) {K':Env→World→Prop} (hk:∀ s h ρ e w,Sat D0 w0 s h ρ e w→K s h→K' e w):∀ (l:List Oper) (s:Nat→PV) (h:Hp) (ρ:Nat→Option Nat) (e:Env) (w:World),Sat D0 w0 s h ρ e w→ALj P Tb J ops K l s h→WL P ops.toArray K' l e w
 | [],s,h,ρ,e,w,S,hal=>hk s h ρ e w S hal
 | o :: l,s,h,ρ,e,w,S,hal=>q0o (Sj_ok hT hJ hF S hal fun s h ρ e w S' hq=>qi8 hT hJ hF hk l s h ρ e w S' hq)
theorem qmD {J:Nat→Prop} {Q:SQ} {id:Nat} {l:List Oper} (hw:∀ K:(Nat→PV)→Hp→Prop,(∀ s h,Q .normal s h→K s h)→ALj P Tb J l K l s h):AW P Tb J n (.region id l.toArray false) Q s h:=fun D0 w0 ρ e w hT hF S=>by
 refine q4s ?_;exact qi8 (K':=fun e' w'=>∃ s' h' ρ',Sat D0 w0 s' h' ρ' e' w'∧Q .normal s' h') hT.1 hT.2 hF (fun s h ρ e w S hq=>⟨s,h,ρ,S,hq⟩) l s h ρ e w S (hw _ fun _ _ h=>h)
theorem A_sj {J:Nat→Prop} {Q:SQ} {id:Nat} {l:List Oper} {b:Code} (hw:∀ K:(Nat→PV)→Hp→Prop,(∀ s h,AW P Tb J n b Q s h→K s h)→ALj P Tb J l K l s h):AW P Tb J n (.seq (.region id l.toArray false) b) Q s h :=
 q7l fun K hK=>qmD fun K1 hK1=>hw K1 fun s h hb=>hK1 s h (hK s h hb)
end
def qa4 (P:Program) (Tb:World→Prop) (J:Nat→Prop) (f:FuncId) (h:Hp) (xs:List PV) [K:Cn (PV→Hp→Prop)]:Prop :=
 @q5W P Tb f (q3K h xs) ⟨fun x _=>K.k x h⟩∨∃ hin x hout,ACm P Tb f xs hin x hout∧(∀ i,win i→h i=hin i)∧(∀ i,J i→hout i≠none→hin i≠none)∧K.k x (q1q hout h)
def aoj (P:Program) (Tb:World→Prop) (J:Nat→Prop) (d:Option Nat) (op:Op) (s:Nat→PV) (h:Hp) (K:PV→Hp→Prop):Prop :=
 match op with
 | .call ⟨.value (.func f),args,_⟩=>@qa4 P Tb J f h (args.toList.map (pe s)) ⟨K⟩
 | op=>ao P Tb d op s h fun x h' _=>K x h'
section
variable {P:Program} {Tb:World→Prop} {J:Nat→Prop} {d:Option Nat} {ty t:TypeId} {pos:String} {af:Array Edge} {s:Nat→PV} {h:Hp} {K:PV→Hp→Prop} {ops r:List Oper} {KL:(Nat→PV)→Hp→Prop}
@[congr] theorem qqL {op:Op}:aoj P Tb J d op s h K=aoj P Tb J d op s h K:=rfl
@[congr] theorem qrZ {l:List Oper}:ALj P Tb J ops KL l s h=ALj P Tb J ops KL l s h:=rfl
@[congr] theorem qrY {t:Sch}:ASj P Tb J ops KL t s h=ASj P Tb J ops KL t s h:=rfl
@[congr] theorem Sj_congr {o o':Oper} (ho:o=o'):Sj P Tb J ops o s h KL=Sj P Tb J ops o' s h KL:=by rw [ho]
theorem qmK:ALj P Tb J ops KL [] s h=KL s h:=rfl
theorem qgp {o:Oper}:ALj P Tb J ops KL (o :: r) s h=Sj P Tb J ops o s h (ALj P Tb J ops KL r):=rfl
theorem qmH:ASj P Tb J ops KL .fin s h=KL s h:=rfl
theorem qmG {i:Nat} {t:Sch}:ASj P Tb J ops KL (.one i t) s h=Sj P Tb J ops (qaY ops i) s h (ASj P Tb J ops KL t):=rfl
theorem qmI {t u:Sch}:ASj P Tb J ops KL (.alt t u) s h=(ASj P Tb J ops KL t s h∧ASj P Tb J ops KL u s h):=rfl
theorem qdl {op : Op} {K : PV → Hp → FP → Prop} : ao P Tb d op s h K = ∃ x h' fp, Stp P Tb ⟨d, op, 0, "", #[], none⟩ s h x h' fp ∧ K x h' fp := by
 unfold ao; rfl
theorem qdc {f:FuncId} {o:Option (List PV × List Nat)} {K:PV→List Nat→Prop}:@q5W P Tb f o ⟨K⟩=∃ al ids x,o=some (al,ids)∧AC P Tb f al x∧(ids=[]∨Nz x)∧K x ids:=by
 unfold q5W; rfl
def noC:Op→Bool
 | .call ⟨.value (.func _),_,_⟩=>false
 | _=>true
theorem q2I {op:Op} (ho:noC op=true):aoj P Tb J d op s h K=ao P Tb d op s h fun x h' _=>K x h':=by
 unfold aoj
 split
 ·cases ho
 ·rfl
theorem qgY {f:FuncId} {xs:List Operand} {ts:Array TypeId}:aoj P Tb J d (.call ⟨.value (.func f),xs.toArray,ts⟩) s h K=@qa4 P Tb J f h (xs.map (pe s)) ⟨K⟩:=rfl
theorem qle {op : Op} : aoj P Tb J d op s h K ↔ (∃ x h' fp, Stp P Tb ⟨d, op, 0, "", #[], none⟩ s h x h' fp ∧ K x h') ∨ (∃ f args ts hin x hout, op = .call ⟨.value (.func f), args, ts⟩ ∧ ACm P Tb f (args.toList.map (pe s)) hin x hout ∧ (∀ i, win i → h i = hin i) ∧ (∀ i, J i → hout i ≠ none → hin i ≠ none) ∧ K x (q1q hout h)) := by
 unfold aoj
 split
 ·rename_i f args ts;unfold qa4;rw [qdc]
  constructor
  ·rintro (⟨al,ids,x,h1,h2,h3,h4⟩ | ⟨hin,x,hout,h1,h2,h3,h4⟩)
   ·exact .inl ⟨x,h,(ids,[]),⟨al,ids,h1,h2,h3,rfl,rfl⟩,h4⟩
   ·exact .inr ⟨_,_,_,hin,x,hout,rfl,h1,h2,h3,h4⟩
  ·rintro (⟨x,h',fp,⟨al,ids,h1,h2,h3,rfl,_⟩,h4⟩ | ⟨f,args,ts,hin,x,hout,he,h1,h2,h3,h4⟩)
   ·exact .inl ⟨al,ids,x,h1,h2,h3,h4⟩
   ·cases he;exact .inr ⟨hin,x,hout,h1,h2,h3,h4⟩
 ·rename_i hno;rw [qdl]
  constructor
  ·rintro ⟨x,h',fp,h1,h2⟩;exact .inl ⟨x,h',fp,h1,h2⟩
  ·rintro (⟨x,h',fp,h1,h2⟩ | ⟨f,args,ts,hin,x,hout,he,_⟩)
   ·exact ⟨x,h',fp,h1,h2⟩
   ·exact (hno _ _ _ he).elim
theorem Sj_n {op:Op}:Sj P Tb J ops ⟨d,op,ty,pos,af,none⟩ s h KL=aoj P Tb J d op s h fun x h'=>KL (q2w s d x) h':=by
 rw [qle];refine propext ⟨?_,?_⟩
 ·rintro (⟨x,h',fp,h1,h2⟩ | ⟨_,f,args,ts,hin,x,hout,ho,h1,h2,h3,h4⟩)
  ·exact .inl ⟨x,h',fp,h1,h2⟩
  ·exact .inr ⟨f,args,ts,hin,x,hout,ho,h1,h2,h3,h4⟩
 ·rintro (⟨x,h',fp,h1,h2⟩ | ⟨f,args,ts,hin,x,hout,ho,h1,h2,h3,h4⟩)
  ·exact .inl ⟨x,h',fp,h1,h2⟩
  ·exact .inr ⟨rfl,f,args,ts,hin,x,hout,ho,h1,h2,h3,h4⟩
theorem Sj_g {op:Op} {j:Nat} {b:Bool}:Sj P Tb J ops ⟨d,op,ty,pos,af,some (j,b)⟩ s h KL=@pgA (q2g ops s j b) b ⟨ao P Tb d op s h fun x h' _=>KL (q2w s d x) h'⟩ ⟨KL (q2w s d (.vl undef)) h⟩:=by
 unfold pgA;refine propext ⟨?_,fun hp=>?_⟩
 ·rintro (⟨x,h',fp,hg,hk⟩ | ⟨hg,_⟩)
  ·unfold q6q at hg;simp only at hg;obtain ⟨c,hc,hg⟩:=hg;rw [hc];simp only
   split at hg
   ·rename_i hcb; rw [if_pos hcb,qdl]; exact ⟨x,h',fp,hg,hk⟩
   ·rename_i hcb; rw [if_neg hcb]; obtain ⟨rfl,rfl,rfl⟩:=hg; exact hk
  ·cases hg
 ·split at hp
  ·rename_i c hc
   split at hp
   ·rename_i hcb;rw [qdl] at hp;obtain ⟨x,h',fp,hg,hk⟩:=hp;exact .inl ⟨x,h',fp,by unfold q6q; exact ⟨c,hc,by rw [if_pos hcb]; exact hg⟩,hk⟩
   ·rename_i hcb;exact .inl ⟨.vl undef,h,([],[]),by unfold q6q; exact ⟨c,hc,by rw [if_neg hcb]; exact ⟨rfl,rfl,rfl⟩⟩,hp⟩
  ·exact hp.elim
section
variable {x a b:Operand} {i f:Nat}
theorem qlo:aoj P Tb J d (.move x) s h K=ao P Tb d (.move x) s h fun x h' _=>K x h':=q2I rfl
theorem qdo:aoj P Tb J d (.assign x) s h K=ao P Tb d (.assign x) s h fun x h' _=>K x h':=q2I rfl
theorem qln {c}:aoj P Tb J d (.pick c a b) s h K=ao P Tb d (.pick c a b) s h fun x h' _=>K x h':=q2I rfl
theorem qq7 {op t'}:aoj P Tb J d (.binOp op t a b t') s h K=ao P Tb d (.binOp op t a b t') s h fun x h' _=>K x h':=q2I rfl
theorem aj_un {op}:aoj P Tb J d (.unOp op t x) s h K=ao P Tb d (.unOp op t x) s h fun x h' _=>K x h':=q2I rfl
theorem qlr {u v}:aoj P Tb J d (.convert u v x) s h K=ao P Tb d (.convert u v x) s h fun x h' _=>K x h':=q2I rfl
theorem qq3:aoj P Tb J d (.fieldAddr t x f) s h K=ao P Tb d (.fieldAddr t x f) s h fun x h' _=>K x h':=q2I rfl
theorem qq4:aoj P Tb J d (.extract x i) s h K=ao P Tb d (.extract x i) s h fun x h' _=>K x h':=q2I rfl
theorem qq0:aoj P Tb J d (.nilCheck x) s h K=ao P Tb d (.nilCheck x) s h fun x h' _=>K x h':=q2I rfl
theorem qq1:aoj P Tb J d (.indexAddr t a b) s h K=ao P Tb d (.indexAddr t a b) s h fun x h' _=>K x h':=q2I rfl
theorem qg9 {lo hi mx}:aoj P Tb J d (.slice t x lo hi mx) s h K=ao P Tb d (.slice t x lo hi mx) s h fun x h' _=>K x h':=q2I rfl
theorem qq2 {fn first cap}:aoj P Tb J d (.makeFunc fn first cap) s h K=ao P Tb d (.makeFunc fn first cap) s h fun x h' _=>K x h':=q2I rfl
theorem qgb {ps}:aoj P Tb J d (.build t ps) s h K=ao P Tb d (.build t ps) s h fun x h' _=>K x h':=q2I rfl
theorem qlq:aoj P Tb J d (.load t x) s h K=ao P Tb d (.load t x) s h fun x h' _=>K x h':=q2I rfl
theorem qgc:aoj P Tb J d (.alloc t) s h K=ao P Tb d (.alloc t) s h fun x h' _=>K x h':=q2I rfl
theorem qq5:aoj P Tb J d (.box t x) s h K=ao P Tb d (.box t x) s h fun x h' _=>K x h':=q2I rfl
theorem aj_bs {n ps}:aoj P Tb J d (.buildSlice t n ps) s h K=ao P Tb d (.buildSlice t n ps) s h fun x h' _=>K x h':=q2I rfl
theorem qlp:aoj P Tb J d (.makeSlice t a b) s h K=ao P Tb d (.makeSlice t a b) s h fun x h' _=>K x h':=q2I rfl
theorem qg8:aoj P Tb J d (.store t a b) s h K=ao P Tb d (.store t a b) s h fun x h' _=>K x h':=q2I rfl
theorem qq6 {u xs ts}:aoj P Tb J d (.call ⟨.builtin u,xs,ts⟩) s h K=ao P Tb d (.call ⟨.builtin u,xs,ts⟩) s h fun x h' _=>K x h':=q2I rfl
theorem qga {t:Nat} {xs:List Operand} {ts}:aoj P Tb J d (.call ⟨.value (.tmp t),xs.toArray,ts⟩) s h K=@qdI P Tb h (s t) (xs.map (pe s)) ⟨fun x ids=>K x h⟩:=(q2I rfl).trans q9u
end
theorem jm {f:FuncId} {xs:List PV} {hin hout:Hp} {x:PV} (hc:ACm P Tb f xs hin x hout) (hw:∀ i,win i→h i=hin i) (hj:∀ i,J i→hout i≠none→hin i≠none) (hk:K x (q1q hout h)):@qa4 P Tb J f h xs ⟨K⟩:=.inr ⟨hin,x,hout,hc,hw,hj,hk⟩
def Wn (h hw:Hp):Prop:=∀ i,win i→h i=hw i
theorem Wn_lo {i:Nat} {b:Bk} {hw:Hp} (hi:¬ win i):Wn (q08 h i b) hw=Wn h hw:=by
 refine propext ⟨fun hq j hj=>?_,fun hq j hj=>?_⟩
 ·rw [← hq j hj,q0L fun e=>hi (by rw [← e]; exact hj)]
 ·rw [← hq j hj,q0L fun e=>hi (by rw [← e]; exact hj)]
theorem q3H {hw:Hp}:Wn (q1q hw h) hw:=fun _ hi=>q1G hi
theorem qkP {hw:Hp} {i:Nat} (hi:i < 5000):q1q hw h i=h i:=q1c fun hw=>by unfold win at hw; omega
theorem qkQ {hw:Hp} {i:Nat} (h1:5000≤i) (h2:i < 1000000):q1q hw h i=hw i:=q1G ⟨h1,h2⟩
structure WfH (hw:Hp):Prop where
 wf:∀ i b,hw i=some b→b.st=false∧IdL (fun j=>win j∧hw j≠none) b.xs
section
variable {τ:Nat→Option Nat} {h':Hp} {p:Nat→Prop}
mutual
theorem qgi (hp:∀ j,p j→τ j=some j∧∃ b,h' j=some b):∀ (x:PV),IdP p x→LeV τ h h' x x
 | .un,_=>.un
 | .vl _,_=>.cl trivial
 | .fm _,_=>.cl trivial
 | .sl _ _,_=>.cl trivial
 | .qt _ _,_=>.cl trivial
 | .ow id k a b,hi=>by
  unfold IdP at hi;obtain ⟨h1,c,h2⟩:=hp id hi;exact .ow h1 h2
 | .pt id a b,hi=>by
  unfold IdP at hi;obtain ⟨h1,c,h2⟩:=hp id hi;exact .pt h1 h2
 | .ag l,hi=>by
  unfold IdP at hi;obtain ⟨h1,h2⟩:=LeL_self hp l hi;exact .ag h1 h2
 | .tu l,hi=>by
  unfold IdP at hi;obtain ⟨h1,h2⟩:=LeL_self hp l hi;exact .tu h1 h2
theorem LeL_self (hp:∀ j,p j→τ j=some j∧∃ b,h' j=some b):∀ (l:List PV),IdL p l→LeL τ h h' l l
 | [],_=>⟨rfl,fun i a b ha hb=>by simp at ha⟩
 | x :: l,hi=>by
  unfold IdL at hi;obtain ⟨h1,h2⟩:=LeL_self hp l hi.2;refine ⟨rfl,fun i a b ha hb=>?_⟩;cases i with
  | zero=>simp at ha hb; subst ha; subst hb; exact qgi hp x hi.1
  | succ i=>exact h2 i a b (by simpa using ha) (by simpa using hb)
end
def q7m (τ:Nat→Option Nat):List Nat→Prop
 | []=>True
 | i :: l=>(¬ win i∧∀ j,τ i=some j→¬ win j)∧q7m τ l
theorem q6F:∀ {l:List Nat},q7m τ l→∀ i ∈ l,¬ win i∧∀ j,τ i=some j→¬ win j
 | i :: l,h,j,hj=>by
  rcases List.mem_cons.1 hj with rfl | hj
  ·exact h.1
  ·exact q6F h.2 j hj
theorem LeW (l:List (Nat × Option Nat)) (hl:qnB l=true) (hlt:q53 l=τ) {hw:Hp} {xs kv:List (Nat × PV)} {bs:List (Nat × Bk)} {kb:List (Nat × Option Bk)} (hq:Wn h hw) (wf:WfH hw) (hx:q7m τ (bs.map (·.1) ++ kb.map (·.1)))
  (hh:q7i τ h (q1q hw (hpM bs kb)) s xs∧q7i τ h (q1q hw (hpM bs kb)) s kv∧qmA τ h (q1q hw (hpM bs kb)) bs∧qbA τ h (q1q hw (hpM bs kb)) kb∧q8A τ (bs.map (·.1) ++ kb.map (·.1))):Le J s h (stM xs kv) (q1q hw (hpM bs kb)):=by
 obtain ⟨h1,h2,h3,h4,h5⟩:=hh;have ht:∀ i,win i→τ i=some i:=fun i hi=>by rw [← hlt]; exact q8B hl i hi.1 hi.2
 have hm:∀ i b,q1q hw (hpM bs kb) i=some b→(win i∧hw i=some b)∨(¬ win i∧LeB τ h (q1q hw (hpM bs kb)) i b∧i ∈ bs.map (·.1) ++ kb.map (·.1)):=fun i b hb=>by
  by_cases hi:win i
  ·rw [q1G hi] at hb; exact .inl ⟨hi,hb⟩
  ·rw [q1c hi] at hb; exact .inr ⟨hi,q7j h4 h3 i b hb⟩
 refine q6o τ (fun i b hb=>?_) (fun i j k b c hi hj ti tj=>?_) (fun t=>q5x h2 h1 t) fun i _ q1 q2=>ht i ⟨q1,q2⟩
 ·rcases hm i b hb with ⟨hi,hb⟩ | ⟨_,hb,_⟩
  ·unfold LeB;rw [ht i hi];obtain ⟨q1,q2⟩:=wf.wf i b hb;refine ⟨b,(hq i hi).trans hb,rfl,rfl,⟨q1,q1⟩,LeL_self (fun j hj=>⟨ht j hj.1,?_⟩) _ q2⟩;obtain ⟨c,hc⟩:=Option.ne_none_iff_exists'.1 hj.2;exact ⟨c,by rw [q1G hj.1]; exact hc⟩
  ·exact hb
 ·rcases hm i b hi with ⟨wi,_⟩ | ⟨wi,_,mi⟩ <;> rcases hm j c hj with ⟨wj,_⟩ | ⟨wj,_,mj⟩
  ·rw [ht i wi] at ti; rw [ht j wj] at tj;cases ti; cases tj; rfl
  ·rw [ht i wi] at ti;cases ti;exact ((q6F hx j mj).2 _ tj wi).elim
  ·rw [ht j wj] at tj;cases tj;exact ((q6F hx i mi).2 _ ti wj).elim
  ·rcases q4y h5 i mi j mj with h | h | h
   ·exact h
   ·rw [ti] at h; cases h
   ·rw [ti,tj] at h; exact absurd rfl h
end
theorem q3E {n:Nat} {Q:SQ} {ι:Type} {c:Code} (I:ι→Prop) (ks kb:List Nat) {kv:List (Nat × PV)} {kbv:List (Nat × Option Bk)} (hk:(ks.map fun t=>(t,s t))=kv) (hb:(kb.map fun i=>(i,h i))=kbv) (xs:ι→List (Nat × PV)) (bs:ι→List (Nat × Bk)) (hw:ι→Hp) (μ:ι→Nat) (i0:ι) (hI:I i0) (hl:Le J s h (stM (xs i0) kv) (q1q (hw i0) (hpM (bs i0) kbv)))
  (round:∀ i,I i→AW P Tb J n c (thA (fun s' h'=>∃ j,I j∧μ j < μ i∧Le J s' h' (stM (xs j) kv) (q1q (hw j) (hpM (bs j) kbv))) Q) (stM (xs i) kv) (q1q (hw i) (hpM (bs i) kbv))):AW P Tb J n (.loop c) Q s h :=
 qeH (ι:={i:ι // I i}) (fun i=>stM (xs i.1) kv) (fun i=>q1q (hw i.1) (hpM (bs i.1) kbv)) (fun i=>μ i.1) ⟨i0,hI⟩ hl fun i=>by
  intro D0 w0 ρ e w hT hF S;refine q4W (fun x e' w' hx=>?_) (round i.1 i.2 D0 w0 ρ e w hT hF S);obtain ⟨s',h',ρ',S',q⟩:=hx;refine ⟨s',h',ρ',S',?_⟩;cases x
  case normal=>obtain ⟨j,h1,h2,h3⟩:=q; exact ⟨⟨j,h1⟩,h3,h2⟩
  all_goals exact q
end
attribute [irreducible] aoj qa4
attribute [go_sem ↓] qkP qkQ qmK qgp qmH qmG qmI Sj_n Sj_g qlo qdo qln qq7 aj_un qlr qq3 qq4 qq0 qq1 qg9 qq2 qgb qlq qgc qq5 aj_bs qlp qg8 qq6 qga qgY q9V qcH
section
variable {P:Program} {J:Nat→Prop} {s:Nat→PV} {h hin hout hw:Hp} {τ:Nat→Option Nat}
theorem mkR_1 {x:PV}:mkR [x]=x:=rfl
theorem mkR_0:mkR []=.tu []:=rfl
attribute [go_sem] mkR_1 mkR_0
theorem rtM {fn:Func} {x:PV} {rs:List ResultVar} {l:List PV} (hr:fn.results.toList=rs) (hlen:(decide (rs.length≤4))=true) (hl:rsL P h s rs=some l) (hle:Le (fun i=>hin i≠none) (fun _=>mkR l) h (fun _=>x) hout) {e:Exit} (he:e=.ret∨e=.normal):retM P fn hin x hout e s h :=
 ⟨he,by rw [hr]; simpa using hlen,l,by rw [hr]; exact hl,hle⟩
theorem jmF {P:Program} {Tb:World→Prop} {K:PV→Hp→Prop} {f:FuncId} {xs:List PV} {x:PV} (hc:ACm P Tb f xs hin x hout) (hw:Wn h hin) (hk:K x (q1q hout h)):@qa4 P Tb (fun _=>False) f h xs ⟨K⟩:=jm hc hw (fun _ hi=>hi.elim) hk
def nmW (o r:Nat):List Nat→Prop
 | []=>True
 | i :: l=>(i < 5000∧i≠o∧i≠r)∧nmW o r l
theorem q6W {o r:Nat}:∀ {l:List Nat},nmW o r l→∀ i ∈ l,i < 5000∧i≠o∧i≠r
 | i :: l,h,j,hj=>by
  rcases List.mem_cons.1 hj with rfl | hj
  ·exact h.1
  ·exact q6W h.2 j hj
def qmM (T1 T2:TypeId) (N R n m:Nat) (g:Nat→Nat→Bool):Hp:=fun i =>
 if i=N then some ⟨T1,none,(List.range n).map fun j=>.ow (j+R) none 0 m,false⟩
 else if R≤i∧i < R+n then some ⟨T2,none,(List.range m).map fun c=>.vl (.bool (g (i-R) c)),false⟩ else none
variable {T1 T2:TypeId} {N R n m:Nat} {g:Nat→Nat→Bool}
theorem qnH:qmM T1 T2 N R n m g N=some ⟨T1,none,(List.range n).map fun j=>.ow (j+R) none 0 m,false⟩:=if_pos rfl
theorem qgv {j:Nat} (hN:N < R) (hj:j < n):qmM T1 T2 N R n m g (j+R)=some ⟨T2,none,(List.range m).map fun c=>.vl (.bool (g j c)),false⟩:=by
 unfold qmM;rw [if_neg (by omega),if_pos (by omega),Nat.add_sub_cancel]
attribute [go_sem ↓] qnH qgv
theorem qnG {i:Nat} (h1:i≠N) (h2:i < R∨R+n≤i):qmM T1 T2 N R n m g i=none:=by
 unfold qmM;rw [if_neg h1,if_neg (by omega)]
theorem qjV {x:PV}:List.replicate m x=(List.range m).map fun _=>x:=by simp [List.map_const']
theorem q8j {i:Nat} {b:Bk} (hi:i < 5000) (hq:Wn h hw):Wn (q08 h i b) hw:=by
 rw [Wn_lo fun w=>by unfold win at w; omega]; exact hq
theorem q8i:Wn h h:=fun _ _=>rfl
theorem q7q:Wn h0 h0:=fun _ _=>rfl
theorem Wn_V:∀ {kb:List (Nat × Option Bk)},nmW 0 0 (kb.map fun p=>p.1+1)→Wn (hpV kb) h0
 | [],_=>q7q
 | p :: l,hk=>fun i hi=>by
  unfold hpV;have:p.1+1 < 5000:=hk.1.1;rw [if_neg (by unfold win at hi; omega)];exact Wn_V hk.2 i hi
theorem q7p:∀ {bs:List (Nat × Bk)} {kb:List (Nat × Option Bk)},nmW 0 0 (bs.map fun p=>p.1+1)→nmW 0 0 (kb.map fun p=>p.1+1)→Wn (hpM bs kb) h0
 | [],_,_,hk=>Wn_V hk
 | p :: l,_,hb,hk=>fun i hi=>by
  unfold hpM;have:p.1+1 < 5000:=hb.1.1;rw [if_neg (by unfold win at hi; omega)];exact q7p hb.2 hk i hi
def tn (N:Nat):Nat→Option Nat:=fun i=>if i=N then none else some i
theorem tn_ap {i:Nat}:tn N i=if i=N then none else some i:=rfl
def tp (N K o r:Nat):Nat→Option Nat:=fun i=>if i=N then some o else if i=K then some r else some i
theorem tp_ap {K o r i:Nat}:tp N K o r i=if i=N then some o else if i=K then some r else some i:=rfl
attribute [go_sem ↓] tn_ap tp_ap
end
end Go.E
namespace Go.Proofs.YtbcmhlhgljoolaaGreatDoor
open Go Go.E Go.Sp
abbrev qma (f:FuncId) (al:List PV) (hin:Hp) (x:PV) (hout:Hp):Prop:=ACm Tryz.prog q2a f al hin x hout
theorem actm {f:FuncId} {fn:Func} {c:Code} {al:List PV} {x:PV} {hin hout:Hp} (hc:q0C Tryz.prog f=true) (hf:Tryz.prog.funcs[f]?=some fn) (hb:fn.body=some c) {n:Nat} (hn:fn.ntmps=n) (hd:(decide (al.length≤n) && q7o n c)=true)
  (hi:∀ i b,hin i=some b→win i∧b.st=false∧IdL win b.xs∧∃ b',hout i=some b'∧b'.k=b.k∧b.xs.length≤b'.xs.length) (ho:∀ i b,hout i=some b→win i) (hal:IdL win al)
  (hw:AW Tryz.prog q2a (fun i=>hin i≠none) n c (retM Tryz.prog fn hin x hout) (enP al) hin):qma f al hin x hout:=qr1 hc hf hb hn hd hi ho hal hw
end Go.Proofs.YtbcmhlhgljoolaaGreatDoor
namespace Go.E
open Go Go.RowKit
section
variable {w:World} {D:Nat→Prop} {ρ:Nat→Option Nat} {h:Hp} {vs:List Value} {x y z t:PV}
theorem qhN (hr:RdL w D [x] ρ h vs):∃ a,vs=[a]∧Rd w D x ρ h a:=by
 unfold RdL at hr;obtain ⟨a,l,rfl,h1,h2⟩:=hr;unfold RdL at h2;subst h2;exact ⟨a,rfl,h1⟩
theorem qaS (hr:RdL w D [x,y] ρ h vs):∃ a b,vs=[a,b]∧Rd w D x ρ h a∧Rd w D y ρ h b:=by
 unfold RdL at hr;obtain ⟨a,l,rfl,h1,h2⟩:=hr;obtain ⟨b,rfl,h3⟩:=qhN h2;exact ⟨a,b,rfl,h1,h3⟩
theorem rd_3 (hr:RdL w D [x,y,z] ρ h vs):∃ a b c,vs=[a,b,c]∧Rd w D x ρ h a∧Rd w D y ρ h b∧Rd w D z ρ h c:=by
 unfold RdL at hr;obtain ⟨a,l,rfl,h1,h2⟩:=hr;obtain ⟨b,c,rfl,h3,h4⟩:=qaS h2;exact ⟨a,b,c,rfl,h1,h3,h4⟩
theorem rd_4 (hr:RdL w D [x,y,z,t] ρ h vs):∃ a b c d,vs=[a,b,c,d]∧Rd w D x ρ h a∧Rd w D y ρ h b∧Rd w D z ρ h c∧Rd w D t ρ h d:=by
 unfold RdL at hr;obtain ⟨a,l,rfl,h1,h2⟩:=hr;obtain ⟨b,c,d,rfl,h3,h4,h5⟩:=rd_3 h2;exact ⟨a,b,c,d,rfl,h1,h3,h4,h5⟩
theorem q6R {v a:Value} (hr:Rd w D (.vl v) ρ h a):a=v:=by unfold Rd at hr; exact hr
theorem q6S {G:Fam} {a:Value} (hr:Rd w D (.fm G) ρ h a):In G D a w:=by unfold Rd at hr; exact hr
theorem q8M {G:Fam} {a:Value} (hr:In G D a w):Rd w D (.fm G) ρ h a:=by unfold Rd; exact hr
theorem q29 {v:Value}:Rd w D (.vl v) ρ h v:=by unfold Rd; rfl
theorem q7J {α:Type} {f:α→Value} {l:List α} {a:Value} (hr:Rd w D (.sl none (l.map fun x=>.vl (f x))) ρ h a):∃ A n c,a=.slice A n c∧In (fSc f l) D (.slice A n c) w:=by
 unfold Rd at hr;obtain ⟨A,n,c,vs,rfl,h1,h2,h3,h4⟩:=hr;have:vs=l.map f:=by
  obtain ⟨q1,q2⟩:=RdL.iff.1 h3
  apply List.ext_getElem?
  intro i
  rcases Nat.lt_or_ge i l.length with hi | hi
  ·obtain ⟨u,hv⟩:∃ u,vs[i]?=some u:=⟨_,List.getElem?_eq_getElem (by simp at q1; omega)⟩;have:=q2 i (.vl (f l[i])) u (by simp [hi]) hv;rw [hv,q6R this]; simp [hi]
  ·rw [List.getElem?_eq_none (by simp at q1; omega),List.getElem?_eq_none (by simpa using hi)]
 subst this;refine ⟨A,n,c,rfl,A,n,c,rfl,?_⟩;have hf:q0b (l.map f)=l.map f:=by
  have:∀ v ∈ l.map f,v.cells=#[v]:=fun v hv=>(h4 v hv).1;clear h1 h2 h3 h4
  induction l with
  | nil=>rfl
  | cons x l ih =>
   have e:=ih fun v hv=>this v (List.mem_cons_of_mem _ hv);unfold q0b at e ⊢;rw [List.map_cons,List.flatMap_cons,e,this _ List.mem_cons_self]
   rfl
 rw [hf] at h1;exact h1
theorem qnk {α:Type} {f:α→Value} {l:List α} {a:Value} (hf:∀ x,qjo (f x)) (hr:In (fSc f l) D a w):Rd w D (.sl none (l.map fun x=>.vl (f x))) ρ h a:=by
 obtain ⟨A,n,c,rfl,h1⟩:=hr;unfold Rd;have hfl:q0b (l.map f)=l.map f:=by
  clear h1
  induction l with
  | nil=>rfl
  | cons x l ih =>
   unfold q0b at ih ⊢;rw [List.map_cons,List.flatMap_cons,ih,q1n (hf x).1]
   rfl
 refine ⟨A,n,c,l.map f,rfl,by rw [hfl]; exact h1,by have:=h1.len; simpa [ksz] using this,?_,fun v hv=>?_⟩
 ·have:=q4t (w:=w) (D:=D) (ρ:=fun _=>none) (h:=h0) (l.map f);rw [List.map_map] at this;exact this
 ·obtain ⟨x,_,rfl⟩:=List.mem_map.1 hv;exact ⟨q1n (hf x).1,hf x⟩
end
end Go.E
namespace Go.Proofs.YtbcmhlhgljoolaaGreatDoor
open Go Go.E Go.Sp
theorem qoT {v:Value}:Nz (.vl v):=fun w D B x _ h=>by unfold Rd at h ⊢; exact h
theorem fitV {V:Int}:∀ D v w,In (fV V) D v w→q2b (some 4) v:=fun D v w h=>by
 obtain ⟨s,A,n,c,rfl,_⟩:=h;exact ⟨_,rfl,rfl,fun u hu=>by simp at hu; rcases hu with rfl | rfl | rfl | rfl <;> exact ⟨rfl,rfl⟩⟩
theorem fitKV {V:Int} {A:Prop}:q2K (some 4) (pV V) A=A:=qpA fitV
attribute [go_sem] fitKV
theorem ac_c {f:FuncId} {al:List PV} {v:Value} (hc:q0C Tryz.prog f=true) (h:∀ (D:Nat→Prop) (w:World) (vs:List Value),q2a w→Fr D w→RdL w D al (fun _=>none) h0 vs→Calls Tryz.prog f vs.toArray w fun x w'=>x=.returned v∧Ext w w'):ACt f al (.vl v) :=
 ⟨hc,fun D w vs hT hF hR=>(h D w vs hT hF hR).mono fun x w' ⟨h1,h2⟩=>⟨v,h1,h2,q29⟩⟩
theorem qds {f:FuncId} {al:List PV} {G:Fam} (hc:q0C Tryz.prog f=true) (h:∀ (D:Nat→Prop) (w:World) (vs:List Value),q2a w→Fr D w→RdL w D al (fun _=>none) h0 vs→Calls Tryz.prog f vs.toArray w (Rt G D w)):ACt f al (.fm G) :=
 ⟨hc,fun D w vs hT hF hR=>(h D w vs hT hF hR).mono fun x w' ⟨v,h1,h2,h3⟩=>⟨v,h1,h2,q8M h3⟩⟩
end Go.Proofs.YtbcmhlhgljoolaaGreatDoor
namespace Go.E
open Go Go.RowKit
section
variable {P:Program} {Tb:World→Prop} {J:Nat→Prop} {n:Nat} {Q Q':SQ} {s:Nat→PV} {h:Hp}
theorem qeG {c:Code} (hq:∀ x s h,Q x s h→Q' x s h) (hw:AW P Tb J n c Q s h):AW P Tb J n c Q' s h:=fun D0 w0 ρ e w hT hF S=>q4W (fun x e' w' ⟨s',h',ρ',S',q⟩=>⟨s',h',ρ',S',hq _ _ _ q⟩) (hw D0 w0 ρ e w hT hF S)
theorem A_sq {a b:Code} (hw:AW P Tb J n a (thA (AW P Tb J n b Q) Q) s h):AW P Tb J n (.seq a b) Q s h:=q7l fun K hK=>qeG (fun x s h q=>by cases x <;> first | exact hK _ _ q | exact q) hw
theorem A_sqc {c:Operand} {x y b:Code} (hw:AW P Tb J n (.cond c x y) (thA (AW P Tb J n b Q) Q) s h):AW P Tb J n (.seq (.cond c x y) b) Q s h:=A_sq hw
theorem A_sqb {id:Nat} {a b:Code} (hw:AW P Tb J n (.block id a) (thA (AW P Tb J n b Q) Q) s h):AW P Tb J n (.seq (.block id a) b) Q s h:=A_sq hw
theorem A_sql {a b:Code} (hw:AW P Tb J n (.loop a) (thA (AW P Tb J n b Q) Q) s h):AW P Tb J n (.seq (.loop a) b) Q s h:=A_sq hw
theorem A_sqs {a b c:Code} (hw:AW P Tb J n (.seq a b) (thA (AW P Tb J n c Q) Q) s h):AW P Tb J n (.seq (.seq a b) c) Q s h:=A_sq hw
structure Hid (p:Prop):Prop where
 o:p
theorem qm9 {a b:Code} (hw:∀ K:(Nat→PV)→Hp→Prop,(∀ s h,AW P Tb J n b Q s h→K s h)→AW P Tb J n a (thA K Q) s h):AW P Tb J n a (thA (AW P Tb J n b Q) Q) s h:=hw _ fun _ _ h=>h
theorem x2 {A B:Prop} (a:A) (b:B):A∧B:=⟨a,b⟩
theorem x3 {A B C:Prop} (a:A) (b:B) (c:C):A∧B∧C:=⟨a,b,c⟩
theorem x4 {A B C D:Prop} (a:A) (b:B) (c:C) (d:D):A∧B∧C∧D:=⟨a,b,c,d⟩
theorem x5 {A B C D E:Prop} (a:A) (b:B) (c:C) (d:D) (e:E):A∧B∧C∧D∧E:=⟨a,b,c,d,e⟩
theorem x6 {A B C D E F:Prop} (a:A) (b:B) (c:C) (d:D) (e:E) (f:F):A∧B∧C∧D∧E∧F:=⟨a,b,c,d,e,f⟩
def qcD (ops:List Oper):List (Nat × Nat) :=
 (List.range ops.length).flatMap fun i=>match ops[i]? with
  | none=>[]
  | some o=>(List.range i).filterMap fun j=>match ops[j]? with
   | none=>none
   | some p=>if ((qmS [] ops).getD i 0).testBit j || harm (cls p) (cls o) then none else some (j,i)
def djB (a b:FP):Bool:=(a.2.all fun x=>!(b.1.any fun y=>Nat.beq x y) && !(b.2.any fun y=>Nat.beq x y)) && b.2.all fun x=>!(a.1.any fun y=>Nat.beq x y)
def chkB (prs:List (Nat × Nat)) (fps:List FP):Bool:=prs.all fun p=>djB (fps.getD p.1 ([],[])) (fps.getD p.2 ([],[]))
theorem nbq {x:Nat} {l:List Nat} (hx:(!(l.any fun y=>Nat.beq x y))=true):x ∉ l:=fun hm=>by
 have:(l.any fun y=>Nat.beq x y)=true:=List.any_eq_true.2 ⟨x,hm,Nat.beq_refl x⟩;rw [this] at hx; cases hx
theorem qlD {prs:List (Nat × Nat)} {fps:List FP} (hc:chkB prs fps=true):chk prs fps:=fun p hp=>by
 have:=List.all_eq_true.1 hc p hp;unfold djB at this;rw [Bool.and_eq_true] at this;refine ⟨fun x hx=>?_,fun x hx=>nbq (List.all_eq_true.1 this.2 x hx)⟩;have q:=List.all_eq_true.1 this.1 x hx;rw [Bool.and_eq_true] at q;exact ⟨nbq q.1,nbq q.2⟩
def cB (l:List Oper) (acc:List FP):Prop:=chkB (qcD l) acc.reverse=true
theorem qpk {l:List Oper} {acc:List FP} (hc:chkB (qcD l) acc.reverse=true):cB l acc:=hc
@[congr] theorem cB_congr {l:List Oper} {acc acc':List FP} (he:acc=acc'):cB l acc=cB l acc':=by rw [he]
theorem qeJ {ops:List Oper} {K K':(Nat→PV)→Hp→List FP→Prop} (hk:∀ s h acc,K s h acc→K' s h acc):∀ {l:List Oper} {s:Nat→PV} {h:Hp} {acc:List FP},AL P Tb ops K l s h acc→AL P Tb ops K' l s h acc
 | [],_,_,_,hq=>hk _ _ _ hq
 | _ :: _,_,_,_,⟨x,h',fp,h1,h2⟩=>⟨x,h',fp,h1,qeJ hk h2⟩
theorem qi7 {id:Nat} {l:List Oper} (hm:P.follows .mixedOrders=true) (hok:qdN l (qmS [] l) (qcD l)=true) (hw:∀ K:(Nat→PV)→Hp→Prop,(∀ s h,Q .normal s h→K s h)→AL P Tb l (fun s h acc=>cB l acc∧K s h) l s h []):AW P Tb J n (.region id l.toArray true) Q s h :=
 qrX (qcD l) hm hok fun K hK=>qeJ (fun _ _ _ q=>⟨qlD q.1,q.2⟩) (hw K hK)
theorem A_sdd {id:Nat} {l:List Oper} {b:Code} (hm:P.follows .mixedOrders=true) (hok:qdN l (qmS [] l) (qcD l)=true) (hw:∀ K:(Nat→PV)→Hp→Prop,(∀ s h,AW P Tb J n b Q s h→K s h)→AL P Tb l (fun s h acc=>cB l acc∧K s h) l s h []):AW P Tb J n (.seq (.region id l.toArray true) b) Q s h :=
 q7l fun K hK=>qi7 hm hok fun K1 hK1=>hw K1 fun s h hb=>hK1 s h (hK s h hb)
variable {K:(Nat→PV)→Hp→Prop} {i id:Nat}
theorem q_n (hq:K s h):thA K Q .normal s h:=hq
theorem q_r (hq:Q .ret s h):thA K Q .ret s h:=hq
theorem q_e (hq:Q (.exit i) s h):thA K Q (.exit i) s h:=hq
theorem i_n (hq:Q .normal s h):inA id Q .normal s h:=hq
theorem i_r (hq:Q .ret s h):inA id Q .ret s h:=hq
theorem i_e (hq:Q .normal s h):inA id Q (.exit id) s h:=by simpa [inA] using hq
theorem i_o (hi:i≠id) (hq:Q (.exit i) s h):inA id Q (.exit i) s h:=by simpa [inA,hi] using hq
def retQ (P:Program) (rs:List ResultVar) (r:PV):SQ:=fun x s h=>(x=.ret∨x=.normal)∧qjQ ((rsL P h s rs).bind (q3K h)) r
theorem qrt {rs:List ResultVar} {r:PV} (hq:qjQ ((rsL P h s rs).bind (q3K h)) r):retQ P rs r .ret s h:=⟨.inl rfl,hq⟩
theorem qrn {rs:List ResultVar} {r:PV} (hq:qjQ ((rsL P h s rs).bind (q3K h)) r):retQ P rs r .normal s h:=⟨.inr rfl,hq⟩
section
variable {a b:Int}
theorem d_lt {i:Decidable (a < b)} (h:a < b):@decide _ i=true:=decide_eq_true h
theorem qpV {i:Decidable (a < b)} (h:¬ a < b):@decide _ i=false:=decide_eq_false h
theorem d_le {i:Decidable (a≤b)} (h:a≤b):@decide _ i=true:=decide_eq_true h
theorem qpW {i:Decidable (a≤b)} (h:¬ a≤b):@decide _ i=false:=decide_eq_false h
theorem b_t (h:a=b):(a == b)=true:=by simpa using h
theorem b_f (h:a≠b):(a == b)=false:=by simpa using h
theorem n_t (h:a≠b):(a != b)=true:=by simpa using h
theorem n_f (h:a=b):(a != b)=false:=by simpa using h
variable {p:Prop} {i:Decidable p} {x y:PV}
theorem qas (h:p):some (@decide p i)=some true:=by rw [decide_eq_true h]
theorem qat (h:¬ p):some (@decide p i)=some false:=by rw [decide_eq_false h]
theorem qax (h:a=b):some (a == b)=some true:=by rw [b_t h]
theorem qay (h:a≠b):some (a == b)=some false:=by rw [b_f h]
theorem qau (h:a≠b):some (a != b)=some true:=by rw [n_t h]
theorem qav (h:a=b):some (a != b)=some false:=by rw [n_f h]
theorem q42 (h:p):pkP (.vl (.bool (@decide p i))) x y=some x:=by rw [decide_eq_true h]; rfl
theorem q43 (h:¬ p):pkP (.vl (.bool (@decide p i))) x y=some y:=by rw [decide_eq_false h]; rfl
theorem q44 (h:a=b):pkP (.vl (.bool (a == b))) x y=some x:=by rw [b_t h]; rfl
theorem q45 (h:a≠b):pkP (.vl (.bool (a == b))) x y=some y:=by rw [b_f h]; rfl
theorem q40 (h:a≠b):pkP (.vl (.bool (a != b))) x y=some x:=by rw [n_t h]; rfl
theorem q41 (h:a=b):pkP (.vl (.bool (a != b))) x y=some y:=by rw [n_f h]; rfl
end
end
end Go.E
namespace Go.Proofs.YtbcmhlhgljoolaaGreatDoor
open Go Go.E Go.Sp
theorem ac0 {f:FuncId} {fn:Func} {c:Code} {al:List PV} {r:PV} {n:Nat} (hf:Tryz.prog.funcs[f]?=some fn) (hn:fn.ntmps=n) (rs:List ResultVar) (hw:AW Tryz.prog q2a (fun _=>False) n c (retQ Tryz.prog rs r) (enP al) h0)
  (hb:fn.body=some c:=by rfl) (hr:fn.results.toList=rs:=by rfl) (hl:(decide (rs.length≤4))=true:=by rfl) (hd:(decide (al.length≤n) && q7o n c)=true:=by kernel_rfl) (hc:q0C Tryz.prog f=true:=by kernel_rfl):ACt f al r :=
 act hc hf hb hn hd (qeG (fun x s h q=>rt hr hl q.2 q.1) hw)
theorem wk1 {G p q:Prop} (g:G) (k:q) (e:G→Hid q→p:=by
 intro g k
 repeat (first
  | (refine qgn fun K hK=>?_; simp -implicitDefEqProofs (maxSteps:=50000) (disch:=omega) only [go_sem,Nat.reduceEqDiff,Nat.reduceAdd,↓reduceIte,i64_in,Bool.not_true,Bool.not_false,List.length_range,Nat.zero_add,Int.reduceLT,Int.reduceEq,Int.natAbs_natCast,Bool.true_and,Bool.false_and,Bool.and_true,Bool.and_false,qas,qat,qax,qay,qau,qav,q42,q43,q44,q45,q40,q41,g]; (repeat ((first | (apply q3D; focus (first | with_reducible assumption | (apply_assumption -exfalso -symm <;> first | assumption | omega | rfl | exact negN.symm | (simp only [Int.natAbs_natCast]; omega) | (apply_assumption -exfalso -symm <;> first | assumption | omega)))) | (apply q4r; (focus with_reducible assumption); (focus with_reducible assumption))); try simp -implicitDefEqProofs (maxSteps:=50000) (disch:=omega) only [go_sem,Nat.reduceEqDiff,Nat.reduceAdd,↓reduceIte,i64_in,Bool.not_true,Bool.not_false,List.length_range,Nat.zero_add,Int.reduceLT,Int.reduceEq,Int.natAbs_natCast,Bool.true_and,Bool.false_and,Bool.and_true,Bool.and_false,qas,qat,qax,qay,qau,qav,q42,q43,q44,q45,q40,q41,g])); refine hK _ _ ?_; clear hK K)
  | (refine A_sdd q0k (by kernel_rfl) fun K hK=>?_; simp -implicitDefEqProofs (maxSteps:=50000) (disch:=omega) only [go_sem,Nat.reduceEqDiff,Nat.reduceAdd,↓reduceIte,i64_in,Bool.not_true,Bool.not_false,List.length_range,Nat.zero_add,Int.reduceLT,Int.reduceEq,Int.natAbs_natCast,Bool.true_and,Bool.false_and,Bool.and_true,Bool.and_false,qas,qat,qax,qay,qau,qav,q42,q43,q44,q45,q40,q41,g]; (repeat ((first | (apply q3D; focus (first | with_reducible assumption | (apply_assumption -exfalso -symm <;> first | assumption | omega | rfl | exact negN.symm | (simp only [Int.natAbs_natCast]; omega) | (apply_assumption -exfalso -symm <;> first | assumption | omega)))) | (apply q4r; (focus with_reducible assumption); (focus with_reducible assumption))); try simp -implicitDefEqProofs (maxSteps:=50000) (disch:=omega) only [go_sem,Nat.reduceEqDiff,Nat.reduceAdd,↓reduceIte,i64_in,Bool.not_true,Bool.not_false,List.length_range,Nat.zero_add,Int.reduceLT,Int.reduceEq,Int.natAbs_natCast,Bool.true_and,Bool.false_and,Bool.and_true,Bool.and_false,qas,qat,qax,qay,qau,qav,q42,q43,q44,q45,q40,q41,g])); refine ⟨qpk (by kernel_rfl),hK _ _ ?_⟩; clear hK K)
  | (refine qi6 fun K hK=>?_; simp -implicitDefEqProofs (maxSteps:=50000) (disch:=omega) only [go_sem,Nat.reduceEqDiff,Nat.reduceAdd,↓reduceIte,i64_in,Bool.not_true,Bool.not_false,List.length_range,Nat.zero_add,Int.reduceLT,Int.reduceEq,Int.natAbs_natCast,Bool.true_and,Bool.false_and,Bool.and_true,Bool.and_false,qas,qat,qax,qay,qau,qav,q42,q43,q44,q45,q40,q41,g]; (repeat ((first | (apply q3D; focus (first | with_reducible assumption | (apply_assumption -exfalso -symm <;> first | assumption | omega | rfl | exact negN.symm | (simp only [Int.natAbs_natCast]; omega) | (apply_assumption -exfalso -symm <;> first | assumption | omega)))) | (apply q4r; (focus with_reducible assumption); (focus with_reducible assumption))); try simp -implicitDefEqProofs (maxSteps:=50000) (disch:=omega) only [go_sem,Nat.reduceEqDiff,Nat.reduceAdd,↓reduceIte,i64_in,Bool.not_true,Bool.not_false,List.length_range,Nat.zero_add,Int.reduceLT,Int.reduceEq,Int.natAbs_natCast,Bool.true_and,Bool.false_and,Bool.and_true,Bool.and_false,qas,qat,qax,qay,qau,qav,q42,q43,q44,q45,q40,q41,g])); refine hK _ _ ?_; clear hK K)
  | (refine qi7 q0k (by kernel_rfl) fun K hK=>?_; simp -implicitDefEqProofs (maxSteps:=50000) (disch:=omega) only [go_sem,Nat.reduceEqDiff,Nat.reduceAdd,↓reduceIte,i64_in,Bool.not_true,Bool.not_false,List.length_range,Nat.zero_add,Int.reduceLT,Int.reduceEq,Int.natAbs_natCast,Bool.true_and,Bool.false_and,Bool.and_true,Bool.and_false,qas,qat,qax,qay,qau,qav,q42,q43,q44,q45,q40,q41,g]; (repeat ((first | (apply q3D; focus (first | with_reducible assumption | (apply_assumption -exfalso -symm <;> first | assumption | omega | rfl | exact negN.symm | (simp only [Int.natAbs_natCast]; omega) | (apply_assumption -exfalso -symm <;> first | assumption | omega)))) | (apply q4r; (focus with_reducible assumption); (focus with_reducible assumption))); try simp -implicitDefEqProofs (maxSteps:=50000) (disch:=omega) only [go_sem,Nat.reduceEqDiff,Nat.reduceAdd,↓reduceIte,i64_in,Bool.not_true,Bool.not_false,List.length_range,Nat.zero_add,Int.reduceLT,Int.reduceEq,Int.natAbs_natCast,Bool.true_and,Bool.false_and,Bool.and_true,Bool.and_false,qas,qat,qax,qay,qau,qav,q42,q43,q44,q45,q40,q41,g])); refine ⟨qpk (by kernel_rfl),hK _ _ ?_⟩; clear hK K)
  | refine A_sqc ?_
  | refine A_sqb ?_
  | refine A_sql ?_
  | refine A_sqs ?_
  | refine qgo ?_
  | (refine A_t ?_ ?_; focus (simp -implicitDefEqProofs (disch:=omega) only [go_sem,Nat.reduceEqDiff,↓reduceIte,Bool.not_true,Bool.not_false,d_lt,qpV,d_le,qpW,b_t,b_f,n_t,n_f,g]; done))
  | (refine A_f ?_ ?_; focus (simp -implicitDefEqProofs (disch:=omega) only [go_sem,Nat.reduceEqDiff,↓reduceIte,Bool.not_true,Bool.not_false,d_lt,qpV,d_le,qpW,b_t,b_f,n_t,n_f,g]; done))
  | refine qmC ?_
  | refine qmF ?_
  | refine qrW ?_
  | refine q_n ?_
  | refine q_r ?_
  | refine q_e ?_
  | refine i_n ?_
  | refine i_r ?_
  | refine i_e ?_
  | refine i_o (by decide) ?_
  | (have t:True:=k.o; refine qrt ?_; simp -implicitDefEqProofs (maxSteps:=50000) (disch:=omega) only [go_sem,Nat.reduceEqDiff,Nat.reduceAdd,↓reduceIte,i64_in,Bool.not_true,Bool.not_false,List.length_range,Nat.zero_add,Int.reduceLT,Int.reduceEq,Int.natAbs_natCast,Bool.true_and,Bool.false_and,Bool.and_true,Bool.and_false,qas,qat,qax,qay,qau,qav,q42,q43,q44,q45,q40,q41,g]; done)
  | (refine qrt ?_; simp -implicitDefEqProofs (maxSteps:=50000) (disch:=omega) only [go_sem,Nat.reduceEqDiff,Nat.reduceAdd,↓reduceIte,i64_in,Bool.not_true,Bool.not_false,List.length_range,Nat.zero_add,Int.reduceLT,Int.reduceEq,Int.natAbs_natCast,Bool.true_and,Bool.false_and,Bool.and_true,Bool.and_false,qas,qat,qax,qay,qau,qav,q42,q43,q44,q45,q40,q41,g]; exact k.o)
  | (have t:True:=k.o; refine qrn ?_; simp -implicitDefEqProofs (maxSteps:=50000) (disch:=omega) only [go_sem,Nat.reduceEqDiff,Nat.reduceAdd,↓reduceIte,i64_in,Bool.not_true,Bool.not_false,List.length_range,Nat.zero_add,Int.reduceLT,Int.reduceEq,Int.natAbs_natCast,Bool.true_and,Bool.false_and,Bool.and_true,Bool.and_false,qas,qat,qax,qay,qau,qav,q42,q43,q44,q45,q40,q41,g]; done)
  | (refine qrn ?_; simp -implicitDefEqProofs (maxSteps:=50000) (disch:=omega) only [go_sem,Nat.reduceEqDiff,Nat.reduceAdd,↓reduceIte,i64_in,Bool.not_true,Bool.not_false,List.length_range,Nat.zero_add,Int.reduceLT,Int.reduceEq,Int.natAbs_natCast,Bool.true_and,Bool.false_and,Bool.and_true,Bool.and_false,qas,qat,qax,qay,qau,qav,q42,q43,q44,q45,q40,q41,g]; exact k.o))
 first | done | exact k.o):p:=e g ⟨k⟩
theorem wk {p q:Prop} (k:q) (e:Hid q→p:=by intro k; exact wk1 @Nat.zero_add k.o):p:=e ⟨k⟩
def fL (z:Int):Fam:=⟨fun D v w=>∃ A n c,v=.slice A n c∧U32 w D A n c (lim z.natAbs),fun k ⟨A,n,c,e,h⟩=>⟨A,n,c,e,h.kp k⟩,fun k ⟨A,n,c,e,h⟩=>⟨A,n,c,e,h.sub k⟩⟩
theorem fitLz {z:Int}:∀ D v w,In (fL z) D v w→q2b none v:=fun D v w h=>by
 obtain ⟨A,n,c,rfl,_⟩:=h;exact ⟨rfl,rfl,rfl⟩
theorem qoz {z:Int} {A:Prop}:q2K none (.fm (fL z)) A=A:=by simp only [q2K,q64,qcz]; exact propext ⟨fun h=>h.2,fun h=>⟨fitLz,h⟩⟩
abbrev bT (z:Int):PV:=.ag [bv (decide (z < 0)),.fm (fL z)]
abbrev dT (V:Int):PV:=.ag [bv false,bv (decide (od V < 0)),.fm (fL (od V)),iv (dyE V)]
section
variable {w:World} {D:Nat→Prop} {ρ:Nat→Option Nat} {h:Hp} {v:Value} {z V:Int}
theorem q2Z:Rd w D (bT z) ρ h v ↔ In (fB z) D v w:=by
 unfold bT
 constructor
 ·intro hr;unfold Rd at hr;obtain ⟨vs,rfl,h1⟩:=hr;obtain ⟨a,b,rfl,h2,h3⟩:=qaS h1;rw [q6R h2];obtain ⟨A,n,c,rfl,h4⟩:=q6S h3;exact ⟨_,A,n,c,rfl,rfl,h4⟩
 ·rintro ⟨s,A,n,c,rfl,h1,h2⟩;subst h1;unfold Rd;refine ⟨_,rfl,?_⟩;unfold RdL;refine ⟨_,_,rfl,q29,?_⟩;unfold RdL;exact ⟨_,_,rfl,q8M ⟨A,n,c,rfl,h2⟩,by unfold RdL; rfl⟩
theorem q4X:Rd w D (dT V) ρ h v∧q0i V ↔ In (fV V) D v w:=by
 unfold dT
 constructor
 ·rintro ⟨hr,ho⟩;unfold Rd at hr;obtain ⟨vs,rfl,h1⟩:=hr;obtain ⟨a,b,c,d,rfl,h2,h3,h4,h5⟩:=rd_4 h1;rw [q6R h2,q6R h3,q6R h5];obtain ⟨A,n,c,rfl,h6⟩:=q6S h4;exact ⟨_,A,n,c,rfl,⟨rfl,h6⟩,ho⟩
 ·rintro ⟨s,A,n,c,rfl,⟨h1,h2⟩,ho⟩;subst h1;refine ⟨?_,ho⟩;unfold Rd;refine ⟨_,rfl,?_⟩;unfold RdL;refine ⟨_,_,rfl,q29,?_⟩;unfold RdL;refine ⟨_,_,rfl,q29,?_⟩;unfold RdL;refine ⟨_,_,rfl,q8M ⟨A,n,c,rfl,h2⟩,?_⟩;unfold RdL;exact ⟨_,_,rfl,q29,by unfold RdL; rfl⟩
end
theorem qdt {f:FuncId} {al al':List PV} {r:PV} {p:Prop} (hc:q0C Tryz.prog f=true) (h:∀ (D:Nat→Prop) (w:World) (vs:List Value),RdL w D al (fun _=>none) h0 vs→RdL w D al' (fun _=>none) h0 vs∧p) (ha:p→ACt f al' r):ACt f al r :=
 ⟨hc,fun D w vs hT hF hR=>(ha (h D w vs hR).2).2 D w vs hT hF (h D w vs hR).1⟩
theorem q2D {f:FuncId} {al:List PV} {r r':PV} (h:∀ (D:Nat→Prop) (w:World) (v:Value),Rd w D r (fun _=>none) h0 v→Rd w D r' (fun _=>none) h0 v) (ha:ACt f al r):ACt f al r' :=
 ⟨ha.1,fun D w vs hT hF hR=>(ha.2 D w vs hT hF hR).mono fun x w' ⟨v,h1,h2,h3⟩=>⟨v,h1,h2,h _ _ _ h3⟩⟩
theorem ac_1 {f:FuncId} {V:Int} {r:PV} (hc:q0C Tryz.prog f=true) (ha:q0i V→ACt f [dT V] r):ACt f [pV V] r:=qdt hc (fun D w vs hR=>by
 obtain ⟨a,rfl,h1⟩:=qhN hR;obtain ⟨h2,h3⟩:=q4X.2 (q6S h1);exact ⟨RdL.one h2,h3⟩) ha
theorem ac_2 {f:FuncId} {V U:Int} {r:PV} (hc:q0C Tryz.prog f=true) (ha:q0i V∧q0i U→ACt f [dT V,dT U] r):ACt f [pV V,pV U] r:=qdt hc (fun D w vs hR=>by
 obtain ⟨a,b,rfl,h1,h2⟩:=qaS hR;obtain ⟨h3,h4⟩:=q4X.2 (q6S h1);obtain ⟨h5,h6⟩:=q4X.2 (q6S h2);refine ⟨?_,h4,h6⟩;unfold RdL;exact ⟨_,_,rfl,h3,RdL.one h5⟩) ha
theorem nfL {τ:Nat→Option Nat} {h h':Hp} {z:Int} (hz:z=0):LeV τ h h' qoZ (.fm (fL z))=True:=eq_true (.nilfm fun D w=>by subst hz; exact ⟨none,0,0,rfl,U32.nil⟩)
theorem negN {n:Nat}:decide ((n:Int) < 0)=false:=decide_eq_false (by omega)
theorem ldU_5 {a b c d e:PV}:ldU (some 5) (some 2) 1 (.ag [a,b,c,d,e])=some (.ag [b,c]):=by simp [ldU]
attribute [go_sem] qoz nfL negN ldU_5
section
variable {f:FuncId} {a b z m:Int} {c:Value} {s t:Bool}
abbrev sT (s:Bool) (z:Int):PV:=.ag [bv s,.fm (fL z)]
theorem B0 (h:∀ (D:Nat→Prop) (w:World),Fr D w→Calls Tryz.prog f #[.int .i64 m] w (Rt (fB z) D w)) (hc:q0C Tryz.prog f=true:=by kernel_rfl):ACt f [iv m] (bT z):=q2D (r:=.fm (fB z)) (fun D w v h=>q2Z.2 (q6S h)) (qds hc fun D w vs hT hF hR=>by
 obtain ⟨_,rfl,h3⟩:=qhN hR;rw [q6R h3];exact h D w hF)
theorem B1 (hs:s=decide (a < 0)) (h:∀ (D:Nat→Prop) (w:World) (v:Value),In (fB a) D v w→Fr D w→Calls Tryz.prog f #[v] w (Rt (fB z) D w)) (hc:q0C Tryz.prog f=true:=by kernel_rfl):ACt f [sT s a] (bT z):=hs ▸ q2D (r:=.fm (fB z)) (fun D w v h=>q2Z.2 (q6S h)) (qds hc fun D w vs hT hF hR=>by
 obtain ⟨_,rfl,h3⟩:=qhN hR;exact h D w _ (q2Z.1 h3) hF)
theorem B2 (hs:s=decide (a < 0)) (ht:t=decide (b < 0)) (h:∀ (D:Nat→Prop) (w:World) (v u:Value),In (fB a) D v w→In (fB b) D u w→Fr D w→Calls Tryz.prog f #[v,u] w (Rt (fB z) D w)) (hc:q0C Tryz.prog f=true:=by kernel_rfl):ACt f [sT s a,sT t b] (bT z):=hs ▸ ht ▸ q2D (r:=.fm (fB z)) (fun D w v h=>q2Z.2 (q6S h)) (qds hc fun D w vs hT hF hR=>by
 obtain ⟨_,_,rfl,h3,h4⟩:=qaS hR;exact h D w _ _ (q2Z.1 h3) (q2Z.1 h4) hF)
theorem B1c (hs:s=decide (a < 0)) (h:∀ (D:Nat→Prop) (w:World) (v:Value),q2a w→In (fB a) D v w→Fr D w→Calls Tryz.prog f #[v] w fun e w'=>e=.returned c∧Ext w w') (hc:q0C Tryz.prog f=true:=by kernel_rfl):ACt f [sT s a] (.vl c):=hs ▸ ac_c hc fun D w vs hT hF hR=>by
 obtain ⟨_,rfl,h3⟩:=qhN hR;exact h D w _ hT (q2Z.1 h3) hF
theorem B2c (hs:s=decide (a < 0)) (ht:t=decide (b < 0)) (h:∀ (D:Nat→Prop) (w:World) (v u:Value),In (fB a) D v w→In (fB b) D u w→Calls Tryz.prog f #[v,u] w fun e w'=>e=.returned c∧Ext w w') (hc:q0C Tryz.prog f=true:=by kernel_rfl):ACt f [sT s a,sT t b] (.vl c):=hs ▸ ht ▸ ac_c hc fun D w vs hT hF hR=>by
 obtain ⟨_,_,rfl,h3,h4⟩:=qaS hR;exact h D w _ _ (q2Z.1 h3) (q2Z.1 h4)
theorem qfV (hs:s=decide (a < 0)) (ha:bl a.natAbs≤20000000):ACt 235 [sT s a] (bT a):=B1 hs fun _ _ _ h hf=>qkK h ha hf
theorem q8W (hs:s=decide (a < 0)) (ha:bl a.natAbs≤20000000):ACt 131 [sT s a] (bT (-a)):=B1 hs fun _ _ _ h hf=>qoi h ha hf
theorem q8Y (hs:s=decide (a < 0)) (ha:bl a.natAbs≤20000000):ACt 187 [sT s a] (bT a.natAbs):=B1 hs fun _ _ _ h hf=>qon h ha hf
theorem q30 (h1 : -9223372036854775808≤z) (h2:z≤9223372036854775807):ACt 129 [iv z] (bT z):=B0 fun _ _ hf=>qa5 h1 h2 hf
theorem q8X (hs:s=decide (a < 0)) (ht:t=decide (b < 0)) (ha:bl a.natAbs≤19000000) (hb:bl b.natAbs≤19000000):ACt 195 [sT s a,sT t b] (bT (a+b)):=B2 hs ht fun _ _ _ _ h h' hf=>qom h h' ha hb hf
theorem qkJ (hs:s=decide (a < 0)) (ht:t=decide (b < 0)) (ha:bl a.natAbs≤19000000) (hb:bl b.natAbs≤19000000):ACt 259 [sT s a,sT t b] (bT (a-b)):=B2 hs ht fun _ _ _ _ h h' hf=>qoh h h' ha hb hf
theorem qkM (hs:s=decide (a < 0)) (ht:t=decide (b < 0)) (ha:bl a.natAbs≤9000000) (hb:bl b.natAbs≤9000000):ACt 199 [sT s a,sT t b] (bT (a*b)):=B2 hs ht fun _ _ _ _ h h' hf=>qoj h h' ha hb hf
theorem q3j (hs:s=decide (a < 0)) (ha:bl a.natAbs≤20000000):ACt 176 [sT s a] (iv a.sign):=B1c hs fun _ _ _ _ h _=>q8V h ha
theorem q3C (hs:s=decide (a < 0)) (ha:bl a.natAbs≤20000000):ACt 191 [sT s a] (iv (bl a.natAbs:Nat)):=B1c hs fun _ _ _ _ h _=>qcb h ha
theorem qh5 (hs:s=decide (a < 0)) (ha:bl a.natAbs≤20000000):ACt 236 [sT s a] (iv (tz a.natAbs:Nat)):=B1c hs fun _ _ _ hT h _=>iTZ_v hT h ha
theorem qkO (hs:s=decide (a < 0)) (ht:t=decide (b < 0)) (ha:bl a.natAbs≤19000000) (hb:bl b.natAbs≤19000000):ACt 260 [sT s a,sT t b] (iv (a-b).sign):=B2c hs ht fun _ _ _ _ h h'=>qol h h' ha hb
theorem q7X (hs:s=decide (a < 0)) (ha:bl a.natAbs≤10000000) (h1 : -1048576≤m) (h2:m≤1048576):ACt 245 [sT s a,iv m] (.tu [bT (shI a m),iv 0]):=hs ▸ q2D (r:=.fm (fP (fB (shI a m)) (fc (.int .i64 0)))) (fun D w v h=>by
 obtain ⟨p,q,rfl,h1,rfl⟩:=q6S h;unfold Rd;refine ⟨_,rfl,?_⟩;unfold RdL;exact ⟨_,_,rfl,q2Z.2 h1,RdL.one q29⟩) (qds (by kernel_rfl) fun D w vs hT hF hR=>by
 obtain ⟨_,_,rfl,h3,h4⟩:=qaS hR;rw [q6R h4];exact qfU (q2Z.1 h3) ha h1 h2 hF)
theorem qa6 {x y:Nat} (hs:s=decide ((x:Int) < 0)) (ht:t=decide ((y:Int) < 0)) (hb:bl x≤20000000) (hd0:y≠0) (hby:bl y≤20000000):ACt 192 [sT s x,sT t y] (.tu [bT (x / y:Nat),bT (x % y:Nat),iv 0]):=by
 subst hs ht;exact q2D (r:=.fm (fP3 (fB (x / y:Nat)) (fB (x % y:Nat)) (fc (.int .i64 0)))) (fun D w v h=>by
  obtain ⟨p,q,r,rfl,h1,h2,rfl⟩:=q6S h;unfold Rd;refine ⟨_,rfl,?_⟩;unfold RdL;refine ⟨_,_,rfl,q2Z.2 h1,?_⟩;unfold RdL;exact ⟨_,_,rfl,q2Z.2 h2,RdL.one q29⟩) (qds (by kernel_rfl) fun D w vs hT hF hR=>by
  obtain ⟨_,_,rfl,h3,h4⟩:=qaS hR;exact qa7 (q2Z.1 h3) (q2Z.1 h4) hb hd0 hby hF)
end
section
variable {a b z m:Int} {s t:Bool}
theorem q66 (hs:s=decide (a < 0)) (ha:bl a.natAbs≤20000000):ACt 148 [sT s a] (iv a.sign):=B1c hs fun _ _ _ _ h hf=>qj0 h ha hf
theorem qpM (hs:s=decide (a < 0)) (ha:bl a.natAbs≤20000000):ACt 158 [sT s a] (iv (tz a.natAbs:Nat)):=B1c hs fun _ _ _ hT h _=>qnw hT h ha
theorem qdM (hs:s=decide (a < 0)) (ht:t=decide (b < 0)) (ha:bl a.natAbs≤20000000) (hb:bl b.natAbs≤20000000):ACt 153 [sT s a,sT t b] (bT (a+b)):=B2 hs ht fun _ _ _ _ h h' hf=>qoE h h' ha hb hf
theorem q75 (h1 : -9223372036854775808≤z) (h2:z≤9223372036854775807):ACt 150 [iv z] (bT z):=B0 fun _ _ hf=>qaT h1 h2 hf
theorem qgF {n:Nat} (hs:s=decide (a < 0)) (ha:bl a.natAbs≤20000000) (hn:n≤1000000000):ACt 251 [sT s a,iv n] (bv (decide (a.natAbs % 2 ^ n≠0))):=hs ▸ ac_c (by kernel_rfl) fun D w vs hT hF hR=>by
 obtain ⟨_,_,rfl,h3,h4⟩:=qaS hR;rw [q6R h4];exact qj7 (q2Z.1 h3) ha (by omega) hF
theorem q5U (hs:s=decide (a < 0)) (ha:bl a.natAbs≤20000000) (h1 : -1000000000≤m) (h2:m≤1000000000):ACt 154 [sT s a,iv m] (bT (shI a m)):=hs ▸ q2D (r:=.fm (fB (shI a m))) (fun D w v h=>q2Z.2 (q6S h)) (qds (by kernel_rfl) fun D w vs hT hF hR=>by
 obtain ⟨_,_,rfl,h3,h4⟩:=qaS hR;rw [q6R h4];exact q9O (q2Z.1 h3) ha h1 h2 hF)
theorem qgG {N:Nat} (hs:s=decide (a < 0)) (ha:bl a.natAbs≤20000000) (hn:N≤1048576):ACt 159 [sT s a,iv N] (bT (shI a (-(N:Int)))):=by
 have C1:=@q5U;refine ac0 Tryz.func159 Tryz.ntmps159 [.cell 4 72] ?_;refine wk ?_;refine q0T (fun _:Unit=>True) [1,2,4] [2,4] Lk Lk (fun _=>[]) (fun _=>[]) (fun _=>0) () trivial ?_ ?_
 ·refine LeM [] rfl rfl ?_;exact Zy
 ·intro _ _;exact wk1 @Int.zero_sub trivial
end
theorem qpL {neg odd:Bool} {half mode:Int}:ACt 252 [bv neg,iv half,bv odd,iv mode] (bv (upS mode neg half odd)):=by
 unfold upS;refine ac0 Tryz.func252 Tryz.ntmps252 [.tmp 8] ?_
 by_cases m1:mode=1
 ·rw [if_pos m1];exact wk trivial
 rw [if_neg m1]
 by_cases m2:mode=2
 ·rw [if_pos m2];exact wk trivial
 rw [if_neg m2]
 by_cases m3:mode=3
 ·rw [if_pos m3];exact wk trivial
 rw [if_neg m3]
 by_cases h1:0 < half
 ·rw [decide_eq_true h1,Bool.true_or];exact wk trivial
 rw [decide_eq_false h1,Bool.false_or]
 by_cases h2:half=0
 ·rw [decide_eq_true h2,Bool.true_and];exact wk trivial
 ·rw [decide_eq_false h2,Bool.false_and];exact wk trivial
theorem qkj {N M k:Nat} {neg more s:Bool} {mode:Int} (hs:s=decide (((N / M:Nat):Int) < 0)) (hM:0 < M) (hm:more=decide (N % M≠0)) (hk:more=true→0 < k) (hb:bl (N / M)≤1000000) (hkb:k≤1000000) :
  ACt 210 [bv neg,sT s (N / M:Nat),iv k,bv more,iv mode] (bT (rq mode neg N (M*2 ^ k):Nat)):=by
 obtain rfl:s=false:=hs.trans negN;have hrq:=qnm (mode:=mode) (neg:=neg) (k:=k) hM (fun h=>hk (by rw [hm]; simpa using h));have C1:=@qgG;have C2:=@qgF;have C3:=@qpM;have C4:=@q66;have C5:=@qpL;have C6:=@q75;have C7:=@qdM;have hb2:bl (1:Int).natAbs≤1:=by show bl 1≤_; rw [q5Z]; omega
 rw [hrq];have hH:qa8 N M k=if 0 < k∧N / M / 2 ^ (k-1) % 2=1 then (if N % M≠0∨N / M % 2 ^ (k-1)≠0 then 1 else 0) else -1:=rfl
 generalize N / M=m at *;have hbq:bl (m / 2 ^ k)≤1000000:=Nat.le_trans (q1C (Nat.div_le_self _ _)) hb;have hbb:bl (m / 2 ^ (k-1))≤1000000:=Nat.le_trans (q1C (Nat.div_le_self _ _)) hb;have f1:=qbb m k;have f2:=qbb m (k-1);generalize qa8 N M k=H at *;generalize hz:m % 2 ^ k=r at *;generalize m / 2 ^ k=q at *;generalize hb1:m / 2 ^ (k-1)=b at *;refine ac0 Tryz.func210 Tryz.ntmps210 [.cell 10 72] ?_
 by_cases hex:r=0∧more=false
 ·obtain ⟨hr,hmo⟩:=hex;have hnm:N % M=0:=by rw [hmo] at hm; simpa using hm.symm
  have q1:decide (r≠0)=false:=by simp [hr]
  rw [if_neg (by rw [hr,hnm]; simp),Nat.add_zero];exact wk1 (x4 f1 hz q1 hmo) trivial
 ·have hnex:r≠0∨N % M≠0:=by
   by_cases h0:N % M=0
   ·left; intro h1; exact hex ⟨h1,by rw [hm,h0]; rfl⟩
   ·exact .inr h0
  refine wk1 (x2 f1 hz) ?_;refine qm9 fun K hK=>?_;have fin0:∀ (s:Nat→PV) (h:Hp),s 0=bv neg→s 2=iv k→s 3=bv more→s 4=iv mode→s 6=.pt 6 0 0→s 10=.pt 10 0 0→s 11=.pt 11 0 0→h 6=some ⟨72,some 2,[.ag [bv false,.fm (fL m)]],false⟩→h 10=some ⟨72,some 2,[.ag [bv false,qoZ]],false⟩→h 11=some ⟨72,some 2,[bT q],false⟩→h 14=none→K s h:=by
   intro s h s0 s2 s3 s4 s6 s10 s11 h6 h10 h11 h14;refine hK _ _ ?_; clear hK K;refine wk1 s2 ?_;refine qm9 fun K hK=>?_;have fin1:∀ (s:Nat→PV) (h:Hp),s 0=bv neg→s 4=iv mode→s 10=.pt 10 0 0→s 11=.pt 11 0 0→s 13=iv H→h 10=some ⟨72,some 2,[.ag [bv false,qoZ]],false⟩→h 11=some ⟨72,some 2,[bT q],false⟩→K s h:=by
    clear s0 s2 s3 s4 s6 s10 s11 h6 h10 h11 h14;intro s h s0 s4 s10 s11 s13 h10 h11;refine hK _ _ ?_; clear hK K;have e2:((q+1:Nat):Int)=(q:Int)+1:=rfl;have hbz:bl ((q:Int)+1).natAbs≤1000001:=q3t (k:=1000000) (a:=q) (b:=1) (by omega) (by rw [q5Z]; omega);obtain ⟨o,ho⟩:∃ o,o=decide (q % 2=1):=⟨_,rfl⟩;rw [← ho];have hq:(q=0∧o=false)∨(q≠0∧(((tz q:Nat):Int) == 0)=o):=by
     by_cases hq0:q=0
     ·exact .inl ⟨hq0,by rw [ho,hq0]; rfl⟩
     ·refine .inr ⟨hq0,?_⟩;rw [q7c,ho];exact decide_eq_decide.2 ⟨fun h=>q3R.1 ⟨h,hq0⟩,fun h=>(q3R.2 h).1⟩
    by_cases hu:upS mode neg H o=true
    ·rw [if_pos ⟨hnex,hu⟩]
     rcases hq with ⟨h0,h1⟩ | ⟨h0,h1⟩
     ·have q1:(((q:Nat):Int).sign != 0)=false:=by rw [h0]; rfl
      subst h1;exact wk1 (x6 s0 s4 s10 s11 s13 (x5 h10 h11 q1 hu e2)) trivial
     ·have q1:(((q:Nat):Int).sign != 0)=true:=by rw [Int.sign_eq_one_of_pos (by omega)]; rfl
      exact wk1 (x6 s0 s4 s10 s11 s13 (x6 h10 h11 q1 h1 hu e2)) trivial
    ·rw [if_neg fun h=>hu h.2,Nat.add_zero];rw [Bool.not_eq_true] at hu
     rcases hq with ⟨h0,h1⟩ | ⟨h0,h1⟩
     ·have q1:(((q:Nat):Int).sign != 0)=false:=by rw [h0]; rfl
      subst h1;exact wk1 (x6 s0 s4 s10 s11 s13 (x4 h10 h11 q1 hu)) trivial
     ·have q1:(((q:Nat):Int).sign != 0)=true:=by rw [Int.sign_eq_one_of_pos (by omega)]; rfl
      exact wk1 (x6 s0 s4 s10 s11 s13 (x5 h10 h11 q1 h1 hu)) trivial
   by_cases hk0:0 < k
   ·have e1:(k:Int)-1=((k-1:Nat):Int):=by omega
    by_cases ho:b % 2=1
    ·have q2:(((tz b:Nat):Int) == 0)=true:=by rw [q8u ho]; rfl
     have q3:(((b:Nat):Int).sign != 0)=true:=by rw [Int.sign_eq_one_of_pos (by omega)]; rfl
     rw [if_pos ⟨hk0,ho⟩] at hH
     by_cases hmo:more=true
     ·rw [if_pos (.inl (by rw [hmo] at hm; simpa using hm.symm))] at hH;refine wk1 (x6 s0 s2 s3 s4 s6 (x6 s10 s11 h6 h10 h11 (x6 h14 e1 f2 q2 q3 hmo))) ?_;refine fin1 _ _ ?_ ?_ ?_ ?_ ?_ ?_ ?_ <;> simp -implicitDefEqProofs (disch:=omega) only [go_sem,Nat.reduceEqDiff,Nat.reduceAdd,↓reduceIte,s0,s2,s3,s4,s6,s10,s11,h6,h10,h11,hH]
     ·rw [Bool.not_eq_true] at hmo;have hnm:N % M=0:=by rw [hmo] at hm; simpa using hm.symm
      by_cases hl:m % 2 ^ (k-1)=0
      ·have q4:decide (m % 2 ^ (k-1)≠0)=false:=by simp [hl]
       rw [if_neg (by rw [hl,hnm]; simp)] at hH;refine wk1 (x6 s0 s2 s3 s4 s6 (x6 s10 s11 h6 h10 h11 (x6 h14 e1 f2 q2 q3 (x2 hmo q4)))) ?_;refine fin1 _ _ ?_ ?_ ?_ ?_ ?_ ?_ ?_ <;> simp -implicitDefEqProofs (disch:=omega) only [go_sem,Nat.reduceEqDiff,Nat.reduceAdd,↓reduceIte,s0,s2,s3,s4,s6,s10,s11,h6,h10,h11,hH]
      ·have q4:decide (m % 2 ^ (k-1)≠0)=true:=by simp [hl]
       rw [if_pos (.inr hl)] at hH;refine wk1 (x6 s0 s2 s3 s4 s6 (x6 s10 s11 h6 h10 h11 (x6 h14 e1 f2 q2 q3 (x2 hmo q4)))) ?_;refine fin1 _ _ ?_ ?_ ?_ ?_ ?_ ?_ ?_ <;> simp -implicitDefEqProofs (disch:=omega) only [go_sem,Nat.reduceEqDiff,Nat.reduceAdd,↓reduceIte,s0,s2,s3,s4,s6,s10,s11,h6,h10,h11,hH]
    ·rw [if_neg fun h=>ho h.2] at hH
     by_cases hb0:b=0
     ·have q2:(((tz b:Nat):Int) == 0)=true:=by rw [hb0]; rfl
      have q3:(((b:Nat):Int).sign != 0)=false:=by rw [hb0]; rfl
      refine wk1 (x6 s0 s2 s3 s4 s6 (x6 s10 s11 h6 h10 h11 (x5 h14 e1 f2 q2 q3))) ?_;refine fin1 _ _ ?_ ?_ ?_ ?_ ?_ ?_ ?_ <;> simp -implicitDefEqProofs (disch:=omega) only [go_sem,Nat.reduceEqDiff,Nat.reduceAdd,↓reduceIte,s0,s2,s3,s4,s6,s10,s11,h6,h10,h11,hH]
     ·have q2:(((tz b:Nat):Int) == 0)=false:=by
       rw [q7c]; refine decide_eq_false fun h=>ho (q3R.1 ⟨h,hb0⟩)
      refine wk1 (x6 s0 s2 s3 s4 s6 (x6 s10 s11 h6 h10 h11 (x4 h14 e1 f2 q2))) ?_;refine fin1 _ _ ?_ ?_ ?_ ?_ ?_ ?_ ?_ <;> simp -implicitDefEqProofs (disch:=omega) only [go_sem,Nat.reduceEqDiff,Nat.reduceAdd,↓reduceIte,s0,s2,s3,s4,s6,s10,s11,h6,h10,h11,hH]
   ·rw [if_neg fun h=>hk0 h.1] at hH;refine wk1 (x6 s0 s2 s3 s4 s6 (x6 s10 s11 h6 h10 h11 h14)) ?_;refine fin1 _ _ ?_ ?_ ?_ ?_ ?_ ?_ ?_ <;> simp -implicitDefEqProofs (disch:=omega) only [go_sem,Nat.reduceEqDiff,Nat.reduceAdd,↓reduceIte,s0,s2,s3,s4,s6,s10,s11,h6,h10,h11,hH]
  by_cases hr:r=0
  ·have hmo:more=true:=by
    cases more
    ·exact (hex ⟨hr,rfl⟩).elim
    ·rfl
   have q1:decide (r≠0)=false:=by simp [hr]
   refine wk1 (x2 q1 hmo) ?_;refine fin0 _ _ ?_ ?_ ?_ ?_ ?_ ?_ ?_ ?_ ?_ ?_ ?_ <;> simp -implicitDefEqProofs (disch:=omega) only [go_sem,Nat.reduceEqDiff,Nat.reduceAdd,↓reduceIte,hmo]
  ·have q1:decide (r≠0)=true:=by simp [hr]
   refine wk1 q1 ?_;refine fin0 _ _ ?_ ?_ ?_ ?_ ?_ ?_ ?_ ?_ ?_ ?_ ?_ <;> simp -implicitDefEqProofs (disch:=omega) only [go_sem,Nat.reduceEqDiff,Nat.reduceAdd,↓reduceIte]
theorem q4q {m e V:Int} {s:Bool} (hs:s=decide (m < 0)) (hb:bl m.natAbs≤1000000) (he1 : -1000000≤e) (he2:e≤1000000) (hv:mkV m e=some V):ACt 103 [sT s m,iv e] (pV V):=hs ▸ qds (by kernel_rfl) fun D w vs hT hF hR=>by
 obtain ⟨_,_,rfl,h3,h4⟩:=qaS hR;rw [q6R h4];exact qj6 hT (q2Z.1 h3) hb he1 he2 hv hF
section
variable {m e V:Int} {f:FuncId} {al:List PV}
theorem qjb (h:ACt f al (dT V)) (ho:q0i V):ACt f al (pV V):=q2D (r:=dT V) (fun D w v h=>q8M (q4X.1 ⟨h,ho⟩)) h
theorem dv_of (h:ACt f al (pV V)):ACt f al (dT V):=q2D (r:=pV V) (fun D w v h=>(q4X.2 (q6S h)).1) h
theorem qpN {s:Bool} (hs:s=decide (m < 0)) (hb:bl m.natAbs≤1000000) (he1 : -1000000≤e) (he2:e≤1000000) (hv:mkV m e=some V):ACt 103 [sT s m,iv e] (dT V):=dv_of (q4q hs hb he1 he2 hv)
end
theorem q4c {V:Int} (ho:q0i V):ACt 101 [dT V] (dT V):=by
 obtain ⟨h1,h2,h3⟩:=q1N ho;have C1:=qpN (m:=od V) (e:=dyE V) rfl (by omega) (by omega) (by omega) (qh0 ho);refine ac0 Tryz.func101 Tryz.ntmps101 [.cell 2 74] ?_;exact wk trivial
theorem qkh {l:List Int} (hn:l.length≤1000) (ho:∀ x ∈ l,q0i x) (hv:q0i (q1K l)):ACt 95 [.sl (some 4) (l.map fun V=>pV V)] (pV (q1K l)):=by
 have C2:=@q66;refine ac0 Tryz.func95 Tryz.ntmps95 [.cell 2 74] ?_;refine wk ?_;refine q0T (fun q:Nat × Int × Int=>q.1≤l.length ∧ -65536≤q.2.2∧q.2.2≤65536∧q.2.1*(2:Int) ^ (q.2.2+65536).toNat=q1K (l.take q.1)) [0,2,3,7] [2] Lk Lk (fun q=>[(5,iv q.1),(4,iv q.2.2)]) (fun q=>[(3,⟨72,some 2,[bT q.2.1],false⟩)]) (fun q=>l.length-q.1) (0,0,0) ⟨Nat.zero_le _,by decide,by decide,by rw [Int.zero_mul]; rfl⟩ ?_ ?_
 ·refine LeM [] rfl rfl ?_;refine Zz ?_;exact ⟨rfl,rfl⟩
 ·rintro ⟨i,tot,e⟩ ⟨hi,he1,he2,hs⟩;simp only at hi he1 he2 hs ⊢;have hbs:=qgz (i:=i) ho (by omega);have hbt:=q3s hs
  by_cases hlt:i < l.length
  ·obtain ⟨x,hxi⟩:∃ x,l[i]?=some x:=⟨_,List.getElem?_eq_getElem (by omega)⟩;have hox:=ho x (List.mem_of_getElem? hxi);obtain ⟨hd1,hd2,hd3⟩:=q1N hox;have hst:=q5A l i x hxi;have hbx:bl x.natAbs≤131072:=hox;have C1:=ac_1 (by kernel_rfl) fun h=>q4c h (V:=x)
   by_cases hx0:x=0
   ·have q1:((od x).sign == 0)=true:=by rw [hx0]; rfl
    refine wk1 (x2 hxi q1) ?_;refine ⟨(i+1,tot,e),⟨by simp only; omega,he1,he2,by simp only; rw [hst,hx0,Int.add_zero]; exact hs⟩,by simp only; omega,?_⟩;simp only;refine LeM [] rfl rfl ?_;refine Zz ?_
    rfl
   ·have q1:((od x).sign == 0)=false:=by
     have hod:=q4G hx0
     rcases Int.lt_or_gt_of_ne hod with h | h
     ·rw [Int.sign_eq_neg_one_of_neg h]; rfl
     ·rw [Int.sign_eq_one_of_pos h]; rfl
    have hdx:dyE x=(tz x.natAbs:Int)-65536:=by unfold dyE; rw [if_neg hx0]
    have hodx:od x*(2:Int) ^ (dyE x+65536).toNat=x:=by
     rw [hdx,show ((tz x.natAbs:Int)-65536+65536).toNat=tz x.natAbs by omega,q2N]
    by_cases ht0:tot=0
    ·have q2:(Int.sign tot == 0)=true:=by rw [ht0]; rfl
     refine wk1 (x3 hxi q1 q2) ?_;refine ⟨(i+1,od x,dyE x),⟨by simp only; omega,hd1,hd2,by simp only; rw [hst,hodx,← hs,ht0]; simp⟩,by simp only; omega,?_⟩;simp only;refine LeM [] rfl rfl ?_;refine Zz ?_
     rfl
    ·have q2:(Int.sign tot == 0)=false:=by
      rcases Int.lt_or_gt_of_ne ht0 with h | h
      ·rw [Int.sign_eq_neg_one_of_neg h]; rfl
      ·rw [Int.sign_eq_one_of_pos h]; rfl
     have C3:=@q5U;have C4:=@qdM
     by_cases hge:e≤dyE x
     ·have hsh:shI (od x) (dyE x-e)=od x*(2:Int) ^ (dyE x-e).toNat:=by unfold shI; rw [if_pos (by omega)]
      have hlf:od x*(2:Int) ^ (dyE x-e).toNat*(2:Int) ^ (e+65536).toNat=x:=by
       rw [Int.mul_assoc,← Int.pow_add,show (dyE x-e).toNat+(e+65536).toNat=(dyE x+65536).toNat by omega,hodx]
      have hb11:=q3s hlf;refine wk1 (x4 hxi q1 q2 hsh) ?_;refine ⟨(i+1,tot+od x*(2:Int) ^ (dyE x-e).toNat,e),⟨by simp only; omega,he1,he2,by simp only; rw [hst,Int.add_mul,hs,hlf]⟩,by simp only; omega,?_⟩;simp only;refine LeM [] rfl rfl ?_;refine Zz ?_
      rfl
     ·have hsh:shI tot (e-dyE x)=tot*(2:Int) ^ (e-dyE x).toNat:=by unfold shI; rw [if_pos (by omega)]
      have hlf:tot*(2:Int) ^ (e-dyE x).toNat*(2:Int) ^ (dyE x+65536).toNat=q1K (l.take i):=by
       rw [Int.mul_assoc,← Int.pow_add,show (e-dyE x).toNat+(dyE x+65536).toNat=(e+65536).toNat by omega,hs]
      have hb11:=q3s hlf;refine wk1 (x4 hxi q1 q2 hsh) ?_;refine ⟨(i+1,tot*(2:Int) ^ (e-dyE x).toNat+od x,dyE x),⟨by simp only; omega,hd1,hd2,by simp only; rw [hst,Int.add_mul,hlf,hodx]⟩,by simp only; omega,?_⟩;simp only;refine LeM [] rfl rfl ?_;refine Zz ?_
      rfl
  ·obtain rfl:i=l.length:=by omega
   rw [List.take_length] at hs hbs hbt;have C1:=@q4q;have hmk:mkV tot e=some (q1K l):=by rw [q4m (by omega) hs]; exact q2y hv
   exact wk trivial
section
variable {a b m e V:Int} {f:FuncId} {al:List PV}
theorem qgE {s t:Bool} (hs:s=decide (a < 0)) (ht:t=decide (b < 0)) (ha:bl a.natAbs≤20000000) (hb:bl b.natAbs≤20000000):ACt 233 [sT s a,sT t b] (bT (a*b)):=B2 hs ht fun _ _ _ _ h h' hf=>qny h h' ha hb hf
theorem qag {s:Bool} (hs:s=decide (a < 0)) (ha:bl a.natAbs≤20000000):ACt 155 [sT s a] (iv (bl a.natAbs:Nat)):=B1c hs fun _ _ _ _ h _=>q7M h ha
theorem qkk {s:Bool} (hs:s=decide (a < 0)) (ha:bl a.natAbs≤20000000):ACt 151 [sT s a] (bT a.natAbs):=B1 hs fun _ _ _ h hf=>qhP h ha hf
theorem qki {s:Bool} (hs:s=decide (a < 0)) (h0:0≤a) (ha:a≤9223372036854775807):ACt 211 [sT s a] (.tu [iv a,bv true]):=q2D (r:=.vl (.tuple #[.int .i64 a,.bool true])) (fun D w v h=>by
 rw [q6R h];unfold Rd;refine ⟨_,rfl,?_⟩;unfold RdL;exact ⟨_,_,rfl,q29,RdL.one q29⟩) (B1c hs fun _ _ _ _ h hf=>qnz h h0 ha hf)
theorem qby {z:Int} (h1 : -9223372036854775808≤z) (h2:z≤9223372036854775807) (hv:mkV z 0=some V):ACt 91 [iv z] (pV V):=by
 have hz:bl z.natAbs≤64:=q0Y (Nat.lt_of_le_of_lt (show z.natAbs≤9223372036854775808 by omega) (by decide));have C1:=@q75;have C2:=@q4q;refine ac0 Tryz.func91 Tryz.ntmps91 [.cell 2 74] ?_;exact wk trivial
theorem qj5 (hv:mkV (a*b) (-131072)=some V):ACt 173 [pV a,pV b] (pV V):=ac_2 (by kernel_rfl) fun ⟨ha,hb⟩=>by
 obtain ⟨ha1,ha2,ha3⟩:=q1N ha;obtain ⟨hb1,hb22,hb33⟩:=q1N hb;have hmul:=q2P (od a).natAbs (od b).natAbs;rw [← Int.natAbs_mul] at hmul;have C1:=q4c ha;have C4:=q4c hb;have C2:=@qgE;have C3:=q4q (m:=od a*od b) (e:=dyE a+dyE b) rfl (by omega) (by omega) (by omega) ((qcR a b).trans hv);refine ac0 Tryz.func173 Tryz.ntmps173 [.cell 4 74] ?_;exact wk trivial
theorem od_sg {V:Int} (hz:V≠0):((od V).sign == 0)=false:=by
 have hod:=q4G hz
 rcases Int.lt_or_gt_of_ne hod with h | h
 ·rw [Int.sign_eq_neg_one_of_neg h]; rfl
 ·rw [Int.sign_eq_one_of_pos h]; rfl
theorem ac_1x {x r:PV} (hc:q0C Tryz.prog f=true) (ha:q0i V→ACt f [dT V,x] r):ACt f [pV V,x] r:=qdt hc (fun D w vs hR=>by
 obtain ⟨a,b,rfl,h1,h2⟩:=qaS hR;obtain ⟨h3,h4⟩:=q4X.2 (q6S h1);refine ⟨?_,h4⟩;unfold RdL;exact ⟨_,_,rfl,h3,RdL.one h2⟩) ha
end
section
variable {f:Nat} {neg:Bool}
theorem q4D (hf:f < 9223372036854775808):ACt 212 [bv neg,uv f] (uv (sb neg f:Nat)):=by
 have h:=qcE hf;refine ac0 Tryz.func212 Tryz.ntmps212 [.tmp 4] ?_;cases neg
 ·exact wk1 (show sb false f=f from rfl) trivial
 ·exact wk1 (x2 h (show sb true f=f+9223372036854775808 from rfl)) trivial
theorem qer {mode:Int}:ACt 209 [bv neg,iv mode] (uv (qeL mode neg:Nat)):=by
 have C1:=q4D (f:=9218868437227405312) (neg:=neg) (by omega);have C2:=q4D (f:=9218868437227405311) (neg:=neg) (by omega);have e:qeL mode neg=sb neg (if mode=3∨mode=1∧neg=false∨mode=2∧neg=true then 9218868437227405311 else 9218868437227405312):=by
  unfold qeL;cases neg <;> simp <;> split <;> rfl
 rw [e];clear e;refine ac0 Tryz.func209 Tryz.ntmps209 [.tmp 4] ?_
 by_cases m3:mode=3
 ·rw [if_pos (.inl m3)];exact wk trivial
 ·by_cases m1:mode=1
  ·have m2:mode≠2:=by omega
   cases neg
   ·rw [if_pos (.inr (.inl ⟨m1,rfl⟩))];exact wk trivial
   ·rw [if_neg (by simp [m1])];exact wk trivial
  ·by_cases m2:mode=2
   ·cases neg
    ·rw [if_neg (by simp [m2])];exact wk trivial
    ·rw [if_pos (.inr (.inr ⟨m2,rfl⟩))];exact wk trivial
   ·rw [if_neg (by simp [m1,m2,m3])];exact wk trivial
theorem q6T (hf:f < 18446744073709551616):ACt 42 [uv f] (bv (decide (q0V f))):=by
 have h1:=q3v (a:=f / 4503599627370496) (by omega);have h2:(((f / 4503599627370496 % 2048:Nat):Int) != 2047)=decide (q0V f):=qpu (b:=2047);refine ac0 Tryz.func42 Tryz.ntmps42 [.tmp 2] ?_;exact wk1 (x2 h1 h2) trivial
end
theorem q9b (q:Int) (n:Nat) (h1:0≤q+1075) (h2:¬ 2047≤q+1075) (h3:4503599627370496≤n) (h4:n < 9007199254740992):∃ x:Nat,q+1075=x∧(q+1075).toNat=x∧IntKind.u64.wrap (x:Int)=x∧(q0r Tryz.prog .shl 30 (.int .u64 (x:Int)) (.int .u64 52)=some (.int .u64 ((x*4503599627370496:Nat):Int)))∧IntKind.u64.wrap ((n:Int)-4503599627370496)=((n-4503599627370496:Nat):Int)∧q0q .or .u64 ((x*4503599627370496:Nat):Int) ((n-4503599627370496:Nat):Int)=((x*4503599627370496+(n-4503599627370496):Nat):Int)∧x*4503599627370496+(n-4503599627370496) < 9223372036854775808 :=
 ⟨(q+1075).toNat,by omega,rfl,u64_in (by omega) (by omega),q9J (by omega),by rw [u64_in (by omega) (by omega)]; omega,qhV (by omega) (by omega),by omega⟩
theorem q8N {N M:Nat} {neg more s:Bool} {mode e:Int} (hs:s=decide (((N / M:Nat):Int) < 0)) (hM:0 < M) (hN:M≤N) (hm:more=decide (N % M≠0)) (hmb:more=true→55≤bl (N / M)) (hb:bl (N / M)≤200000) (he1 : -200000≤e) (he2:e≤200000) :
  ACt 152 [bv neg,sT s (N / M:Nat),iv e,bv more,iv mode] (uv (rE mode neg N M e:Nat)):=by
 obtain rfl:s=false:=hs.trans negN;have hp:=Nat.div_pos hN hM;have hL1:=q5Y (n:=N / M) (by omega);have C1:=@qag;have C3:=@q5U;have C4:=@qki;have C5:=@q4D;have C6:=@qer
 by_cases ht:1024≤e+(bl (N / M):Int)-1
 ·rw [qj8 (mode:=mode) (neg:=neg) hM hN (e:=e) ht];obtain ⟨L,hL⟩:∃ L,bl (N / M)=L:=⟨_,rfl⟩;rw [hL] at ht hb hL1;refine ac0 Tryz.func152 Tryz.ntmps152 [.tmp 10] ?_;exact wk1 hL trivial
 ·have hval:=qbz (mode:=mode) (neg:=neg) (e:=e) hM hN;have hnle:=qj9 (mode:=mode) (neg:=neg) (e:=e) (q:=max (e+(bl (N / M):Int)-53) (-1074)) hM hN (by omega);obtain ⟨L,hL⟩:∃ L,bl (N / M)=L:=⟨_,rfl⟩;rw [hL] at hmb hb hval hnle hL1 ht;obtain ⟨q,hq⟩:∃ q,max (e+(L:Int)-53) (-1074)=q:=⟨_,rfl⟩;rw [hq] at hval hnle;have hq':max (e+(L:Int)-1-52) (-1074)=q:=by omega
  have C2:=fun h:e≤q=>qkj (neg:=neg) (mode:=mode) (k:=(q-e).toNat) negN.symm hM hm (fun h=>by have:=hmb h; omega) (by omega) (by omega);have hr2:q < e→shI ((N / M:Nat):Int) (e-q)=(rq mode neg (N*2 ^ (e-q).toNat) (M*2 ^ (q-e).toNat):Nat):=fun hqe=>by
   have hmo:N % M=0:=by
    cases more
    ·simpa using hm.symm
    ·have:=hmb rfl; omega
   have hd:N=N / M*M:=by have:=Nat.div_add_mod N M; rw [Nat.mul_comm] at this; omega
   rw [show (q-e).toNat=0 by omega,Nat.pow_zero,Nat.mul_one];unfold shI;rw [if_pos (by omega),q4g (by rw [hd,Nat.mul_right_comm]; exact Nat.mul_mod_left _ _)]
   conv=>rhs; rw [hd,Nat.mul_right_comm,Nat.mul_div_cancel _ hM]
   rw [Int.natCast_mul,q0v]
  have hr3:e≤q→N*2 ^ (e-q).toNat=N:=fun h=>by rw [show (e-q).toNat=0 by omega,Nat.pow_zero,Nat.mul_one]
  obtain ⟨r,hr⟩:∃ r,rq mode neg (N*2 ^ (e-q).toNat) (M*2 ^ (q-e).toNat)=r:=⟨_,rfl⟩;rw [hr] at hval hnle hr2;have hbr:bl r≤54:=q0Y (Nat.lt_of_le_of_lt hnle (by decide));have C2':e≤q→ACt _ _ (bT r):=fun h=>by
   have:=C2 h;rw [← hr3 h,hr] at this
   rwa [hr3 h] at this
  rw [hval];generalize N / M=d at *;clear hval hr hr3 C2 hm hmb;unfold Go.Sp.fin Go.Sp.fin2;refine ac0 Tryz.func152 Tryz.ntmps152 [.tmp 10] ?_;refine wk1 (x2 hL hq') ?_;refine qm9 fun K hK=>?_;have fin0:∀ (s:Nat→PV) (h:Hp),s 0=bv neg→s 4=iv mode→s 12=iv q→s 13=.pt 13 0 0→h 13=some ⟨72,some 2,[bT r],false⟩→K s h:=by
   intro s h s0 s4 s12 s13 h13;refine hK _ _ ?_; clear hK K;have e2:IntKind.u64.wrap ((r:Nat):Int)=r:=u64_in (by omega) (by omega)
   by_cases h53:r=9007199254740992
   ·rw [if_pos h53,if_neg (by omega)]
    by_cases hov:2047≤q+1+1075
    ·rw [if_pos hov];exact wk1 (x6 s0 s4 s12 s13 h13 h53) trivial
    ·rw [if_neg hov];obtain ⟨x,f1,f2,f3,f4,f5,f6,f7⟩:=q9b (q+1) 4503599627370496 (by omega) hov (by omega) (by omega);rw [f2,Nat.sub_self,Nat.add_zero];rw [Nat.sub_self,Nat.add_zero] at f6 f7;replace f6:q0q .or .u64 ((x*4503599627370496:Nat):Int) 0=((x*4503599627370496:Nat):Int):=f6;replace f5:IntKind.u64.wrap 0=0:=f5;have f8:IntKind.i64.wrap (4503599627370496-4503599627370496)=0:=rfl;exact wk1 (x6 s0 s4 s12 s13 h13 (x6 h53 f1 f3 f4 f5 (x2 f6 f8))) trivial
   ·rw [if_neg h53]
    by_cases h52:r < 4503599627370496
    ·rw [if_pos h52];exact wk1 (x6 s0 s4 s12 s13 h13 e2) trivial
    ·rw [if_neg h52]
     by_cases hov:2047≤q+1075
     ·rw [if_pos hov];exact wk1 (x6 s0 s4 s12 s13 h13 e2) trivial
     ·rw [if_neg hov];obtain ⟨x,f1,f2,f3,f4,f5,f6,f7⟩:=q9b q r (by omega) hov (by omega) (by omega);rw [f2];exact wk1 (x6 s0 s4 s12 s13 h13 (x6 e2 f1 f3 f4 f5 f6)) trivial
  by_cases hqe:e≤q
  ·have C2:=C2' hqe;obtain ⟨k,f0⟩:∃ k:Nat,q-e=(k:Int):=⟨(q-e).toNat,by omega⟩;rw [show (q-e).toNat=k by omega] at C2;refine wk1 f0 ?_;refine fin0 _ _ ?_ ?_ ?_ ?_ ?_ <;> simp -implicitDefEqProofs (disch:=omega) only [go_sem,Nat.reduceEqDiff,Nat.reduceAdd,↓reduceIte,f0]
  ·have f0:=hr2 (by omega);refine wk1 f0 ?_;refine fin0 _ _ ?_ ?_ ?_ ?_ ?_ <;> simp -implicitDefEqProofs (disch:=omega) only [go_sem,Nat.reduceEqDiff,Nat.reduceAdd,↓reduceIte,f0]
theorem qbU {V mode:Int} (ho:q0i V):ACt 94 [dT V,iv mode] (uv (fR mode V:Nat)):=by
 obtain ⟨hd1,hd2,hd3⟩:=q1N ho;have C1:=q4c ho;have C2:=@q66;have C3:=@qkk;refine ac0 Tryz.func94 Tryz.ntmps94 [.tmp 4] ?_
 by_cases hz:V=0
 ·have q1:((od V).sign == 0)=true:=by rw [hz]; rfl
  rw [show ((fR mode V:Nat):Int)=0 by rw [show fR mode V=0 from if_pos hz]; rfl];exact wk1 q1 trivial
 ·have q1:=od_sg hz;have hod:=q4G hz;have C4:=q8N (N:=(od V).natAbs) (M:=1) (neg:=decide (od V < 0)) (more:=false) (s:=false) (mode:=mode) (e:=dyE V) negN.symm Nat.one_pos (by omega) (by rw [Nat.mod_one]; rfl) (fun h=>by cases h) (by rw [Nat.div_one]; omega) (by omega) (by omega);rw [Nat.div_one,rE_V hz,q3W,show rF mode (decide (V < 0)) V.natAbs (2 ^ 65536)=fR mode V from (if_neg hz).symm] at C4;rw [← q3W] at C4;exact wk1 q1 trivial
theorem q7K {V mode:Int}:ACt 94 [pV V,iv mode] (uv (fR mode V:Nat)):=ac_1x (by kernel_rfl) fun ho=>qbU ho
theorem q5j {z V mode:Int} (h1 : -9223372036854775808≤z) (h2:z≤9223372036854775807) (hv:mkV z 0=some V):ACt 34 [iv z,iv mode] (uv (fR mode V:Nat)):=by
 have C1:=qby h1 h2 hv;have C2:=q7K (V:=V) (mode:=mode);refine ac0 Tryz.func34 Tryz.ntmps34 [.tmp 4] ?_;exact wk trivial
theorem q7Q {a:Int} {n:Nat} (h1 : -9223372036854775808≤a) (h2:a≤9223372036854775807) (hn:0 < n) (hn2:n≤9223372036854775807):ACt 25 [iv a,iv n] (iv (q3X a n:Nat)):=by
 have e1:IntKind.u64.wrap a=a % 18446744073709551616:=q1D a;have e2:IntKind.u64.wrap (n:Int)=n:=u64_in (by omega) (by omega);have e3:¬ ((n:Int)=0):=by omega
 have hlt:=q8R (a:=a) hn;have e4:(a % 18446744073709551616).tmod (n:Int)=((q3X a n:Nat):Int):=by
  unfold q3X;rw [Int.tmod_eq_emod_of_nonneg (by omega),Int.natCast_emod]
  congr 1; omega
 refine ac0 Tryz.func25 Tryz.ntmps25 [.tmp 4] ?_;exact wk1 (x4 e1 e2 e3 e4) trivial
theorem qbE {raw:List Nat} {k:Int} (hr:raw.length≤9223372036854775807) (h1 : -9223372036854775808≤k) (h2:k≤9223372036854775807):ACt 13 [pF raw,iv k] (uv (q7v raw k:Nat)):=by
 rw [q6v raw k];unfold q7u qid qie;have q1:∀ x:Int,q0r Tryz.prog .shr 29 (.int .u64 x) (.int .u64 31)=some (.int .u64 (x.fdiv (2 ^ 31))):=fun x=>by rw [q1o,if_neg (by omega)]; rfl
 have q2:∀ x:Int,q0r Tryz.prog .shr 29 (.int .u64 x) (.int .u64 29)=some (.int .u64 (x.fdiv (2 ^ 29))):=fun x=>by rw [q1o,if_neg (by omega)]; rfl
 refine ac0 Tryz.func13 Tryz.ntmps13 [.tmp 4] ?_
 by_cases h0:raw.length=0
 ·rw [if_pos h0];exact wk1 (x2 q1 q2) trivial
 ·rw [if_neg h0];have C1:=q7Q (n:=raw.length) h1 h2 (by omega) hr;have hlt:=q8R (a:=k) (n:=raw.length) (by omega);have hx:raw[q3X k raw.length]?=some (raw.getD (q3X k raw.length) 0):=by rw [List.getD_eq_getElem?_getD,List.getElem?_eq_getElem hlt]; rfl
  generalize raw.getD (q3X k raw.length) 0=x at *;generalize q3X k raw.length=m at *;exact wk1 (x3 hx q1 q2) trivial
theorem qec {x:Nat} (hx:x < 18446744073709551616):ACt 43 [uv x] (uv (flz (q4C x):Nat)):=by
 have hs:=q9H x;have e1:((x:Nat):Int).tmod 19=((x % 19:Nat):Int):=rfl;have e3:IntKind.i64.wrap (((x % 19:Nat):Int)-9)=q4C x:=by rw [i64_in (by omega) (by omega)]; rfl
 have hb:bl (q4C x).natAbs≤4:=q0Y (show (q4C x).natAbs < 2 ^ 4 by omega);have C1:=q5j (z:=q4C x) (mode:=0) (by omega) (by omega) (qcS (by omega));rw [show fR 0 (q4C x*2 ^ 65536)=flz (q4C x) from rfl] at C1;generalize flz (q4C x)=y at *;refine ac0 Tryz.func43 Tryz.ntmps43 [.tmp 2] ?_;exact wk1 (x2 e1 e3) trivial
theorem qhW {x:Nat} {st:Int} (hx:x < 18446744073709551616) (h1 : -9223372036854775808≤st) (h2:st≤9223372036854775807):ACt 12 [uv x,iv st] (uv (q2j (q3X st 4) x:Nat)):=by
 have C1:=q7Q (n:=4) h1 h2 (by omega) (by omega);have hm4:q3X st 4 < 4:=by unfold q3X; omega
 generalize q3X st 4=m at *
 rcases (by omega:m=1∨m=2∨m=3∨m=0) with h | h | h | h <;> subst h
 ·have a1:q0q .and .u64 (x:Int) 9227875636482146303=((x &&& 9227875636482146303:Nat):Int):=q3x hx (b:=9227875636482146303) (by omega);have a2:q0q .and .u64 ((x / 4503599627370496:Nat):Int) 7=((x / 4503599627370496 % 8:Nat):Int):=by
   have:=q3x (a:=x / 4503599627370496) (b:=7) (by omega) (by omega);rw [show x / 4503599627370496 &&& 7=x / 4503599627370496 % 8 from Nat.and_two_pow_sub_one_eq_mod _ 3] at this;exact this
  obtain ⟨e,he⟩:∃ e,e=x / 4503599627370496 % 8:=⟨_,rfl⟩;rw [← he] at a2;have a3:IntKind.u64.wrap (1019+(e:Int))=((1019+e:Nat):Int):=by rw [u64_in (by omega) (by omega)]; omega
  have a4':IntKind.u64.wrap (((1019+e:Nat):Int)*2 ^ min (Int.toNat 52) 64)=(((1019+e)*4503599627370496:Nat):Int):=by
   rw [show (2:Int) ^ min (Int.toNat 52) 64=4503599627370496 from rfl,u64_in (by omega) (by omega)]; omega
  have ha:x &&& 9227875636482146303 < 18446744073709551616:=Nat.lt_of_le_of_lt Nat.and_le_left hx;have a5:q0q .or .u64 ((x &&& 9227875636482146303:Nat):Int) (((1019+e)*4503599627370496:Nat):Int)=((q2j 1 x:Nat):Int):=by
   rw [qaX ha (by omega),he,num_1 hx]
  generalize q2j 1 x=r at *;generalize x &&& 9227875636482146303=y at *;refine ac0 Tryz.func12 Tryz.ntmps12 [.tmp 4] ?_;exact wk1 (x5 a1 a2 a3 a4' a5) trivial
 ·have a1:q0q .and .u64 (x:Int) 9225623836668461056=((x &&& 9225623836668461056:Nat):Int):=q3x hx (b:=9225623836668461056) (by omega);obtain ⟨e,he⟩:∃ e,e=x / 256 % 81:=⟨_,rfl⟩;have a0:Int.fdiv (x:Int) (2 ^ min (Int.toNat 8) 64)=((x / 256:Nat):Int):=by
   rw [show (2:Int) ^ min (Int.toNat 8) 64=((256:Nat):Int) from rfl,Int.fdiv_eq_ediv_of_nonneg _ (by omega)]; rfl
  have a2:Int.tmod ((x / 256:Nat):Int) 81=(e:Int):=by rw [he]; rfl
  have a3:IntKind.u64.wrap (983+(e:Int))=((983+e:Nat):Int):=by rw [u64_in (by omega) (by omega)]; omega
  have a4:IntKind.u64.wrap (((983+e:Nat):Int)*2 ^ min (Int.toNat 52) 64)=(((983+e)*4503599627370496:Nat):Int):=by
   rw [show (2:Int) ^ min (Int.toNat 52) 64=4503599627370496 from rfl,u64_in (by omega) (by omega)]; omega
  have ha:x &&& 9225623836668461056 < 18446744073709551616:=Nat.lt_of_le_of_lt Nat.and_le_left hx;have a5:q0q .or .u64 ((x &&& 9225623836668461056:Nat):Int) (((983+e)*4503599627370496:Nat):Int)=((q2j 2 x:Nat):Int):=by
   rw [qaX ha (by omega),he,num_2 hx]
  generalize q2j 2 x=r at *;generalize x &&& 9225623836668461056=y at *;generalize x / 256=z at *;refine ac0 Tryz.func12 Tryz.ntmps12 [.tmp 4] ?_;exact wk1 (x6 a0 a1 a2 a3 a4 a5) trivial
 ·have C2:=q6T hx;refine ac0 Tryz.func12 Tryz.ntmps12 [.tmp 4] ?_
  by_cases hfi:q0V x
  ·rw [show q2j 3 x=x by unfold q0V at hfi; simp [q2j,hfi]];rw [decide_eq_true hfi] at C2;exact wk trivial
  ·rw [show ((q2j 3 x:Nat):Int)=0 by rw [show q2j 3 x=0 by unfold q0V at hfi; simp [q2j]; omega]; rfl];rw [decide_eq_false hfi] at C2;exact wk trivial
 ·have C2:=qec hx;rw [show flz (q4C x)=q2j 0 x by simp [q2j]] at C2;generalize q2j 0 x=r at *;refine ac0 Tryz.func12 Tryz.ntmps12 [.tmp 4] ?_;exact wk trivial
theorem qoR (V:Int):(od V).sign=V.sign:=by
 conv=>rhs; rw [← q2N V,Int.sign_mul,Int.sign_eq_one_of_pos (q0c _),Int.mul_one]
section
variable {a b m e V:Int}
theorem q38 {s:Bool} (hs:s=decide (a < 0)) (ha:bl a.natAbs≤10000000) (h1 : -1048576≤m) (h2:m≤1048576):ACt 193 [sT s a,iv m] (bT (shI a m)):=by
 have C1:=@q7X;refine ac0 Tryz.func193 Tryz.ntmps193 [.cell 4 72] ?_;exact wk trivial
theorem q6u {s:Bool} {N:Nat} (hs:s=decide (a < 0)) (ha:bl a.natAbs≤10000000) (hn:N≤1048576):ACt 237 [sT s a,iv N] (bT (shI a (-(N:Int)))):=by
 have C1:=@q7X;refine ac0 Tryz.func237 Tryz.ntmps237 [.cell 4 72] ?_;refine wk ?_;refine q0T (fun _:Unit=>True) [1,2,4] [2,4] Lk Lk (fun _=>[]) (fun _=>[]) (fun _=>0) () trivial ?_ ?_
 ·refine LeM [] rfl rfl ?_;exact Zy
 ·intro _ _;exact wk1 @Int.zero_sub trivial
theorem qo0 {D:Nat→Prop} {v:Value} {w:World} (h:Rd w D (.ag [bv false,bv false,qoZ,iv 0]) (fun _=>none) h0 v):Rd w D (dT 0) (fun _=>none) h0 v:=by
 unfold Rd at h;obtain ⟨vs,rfl,h1⟩:=h;obtain ⟨_,_,_,_,rfl,h2,h3,h4,h5⟩:=rd_4 h1;rw [q6R h2,q6R h3,q6R h4,q6R h5];have h6:In (fV 0) D (.agg #[.bool false,.bool false,.slice none 0 0,.int .i64 0]) w:=⟨false,none,0,0,rfl,⟨rfl,U32.nil⟩,by simp [q0i,q1a]⟩;exact (q4X.2 h6).1
theorem qme {s:Bool} (hs:s=decide (m < 0)) (hb:bl m.natAbs≤1000000) (he1 : -1000000≤e) (he2:e≤1000000) (hv:mkV m e=some V):ACt 175 [.ag [bv false,bv s,.fm (fL m),iv e]] (.tu [dT V,bv true]):=by
 have C1:=@qfV;have C2:=@q3j
 by_cases hz:m=0
 ·obtain rfl:V=0:=by rw [hz,q1x] at hv; exact (Option.some.inj hv).symm
  refine q2D (r:=.tu [.ag [bv false,bv false,qoZ,iv 0],bv true]) (fun D w v h=>?_) ?_
  ·unfold Rd at h ⊢;obtain ⟨vs,rfl,h1⟩:=h;obtain ⟨_,_,rfl,h2,h3⟩:=qaS h1;refine ⟨_,rfl,?_⟩;unfold RdL;exact ⟨_,_,rfl,qo0 h2,RdL.one h3⟩
  ·have e1:(m.sign == 0)=true:=by rw [hz]; rfl
   refine ac0 Tryz.func175 Tryz.ntmps175 [.cell 2 74,.tmp 3] ?_;exact wk1 e1 trivial
 ·have hz':(m.sign == 0)=false:=by
   rw [beq_eq_false_iff_ne]; intro h0; exact hz (Int.sign_eq_zero_iff_zero.1 h0)
  obtain ⟨hv1,hv2,hv3⟩:=q6X hz hv;obtain ⟨hv4,hv5,_,hv6⟩:=q4S hv;have htl:=qe7 (n:=m.natAbs) (by omega);have hbo:=q88 hz;have C3:=@qh5;have C4:=@q3C;have C5:=@q6u;have f1:=(qjH m).trans hv4.symm;have f2:=(hv5 hz).2.symm;refine ac0 Tryz.func175 Tryz.ntmps175 [.cell 2 74,.tmp 3] ?_;exact wk1 (x3 hz' f1 f2) trivial
theorem qaC (hV:q0i V):ACt 175 [dT V] (.tu [dT V,bv true]):=by
 obtain ⟨h1,h2,h3⟩:=q1N hV;exact qme rfl (by omega) (by omega) (by omega) (qh0 hV)
theorem q5y (hV:q0i V):ACt 124 [dT V] (dT V):=by
 have C1:=qaC hV;refine ac0 Tryz.func124 Tryz.ntmps124 [.cell 2 74] ?_;exact wk trivial
theorem q2U (hV:q0i V):ACt 117 [dT V] (iv V.sign):=by
 have C1:=qaC hV;have C2:=@q3j;have:=(q1N hV).2.2;refine ac0 Tryz.func117 Tryz.ntmps117 [.tmp 2] ?_;exact wk1 (qoR V) trivial
theorem qbD (hV:q0i V):ACt 133 [dT V] (dT (-V)):=by
 have C1:=qaC hV;have C2:=@q8W;have:=(q1N hV).2.2;have f1:=(qoS V).symm;have f2:=qkl V;refine ac0 Tryz.func133 Tryz.ntmps133 [.cell 2 74] ?_;exact wk1 (x2 f1 f2) trivial
theorem q4b {s:Bool} (hs:s=decide (m < 0)) (hb:bl m.natAbs≤1000000) (he1 : -1000000≤e) (he2:e≤1000000) (hv:mkV m e=some V):ACt 132 [sT s m,iv e] (dT V):=by
 have C1:=qme hs hb he1 he2 hv;refine ac0 Tryz.func132 Tryz.ntmps132 [.cell 4 74] ?_;exact wk trivial
theorem qbB (ha:q0i a) (hb:q0i b):ACt 198 [dT a,dT b] (.tu [dT a,dT b,bv true]):=by
 have C1:=qaC ha;have C2:=qaC hb;refine ac0 Tryz.func198 Tryz.ntmps198 [.cell 4 74,.cell 5 74,.tmp 6] ?_;exact wk trivial
theorem q4v (ha:q0i a) (hb:q0i b) (hv:mkV (a*b) (-131072)=some V):ACt 134 [dT a,dT b] (dT V):=by
 obtain ⟨ha1,ha2,ha3⟩:=q1N ha;obtain ⟨hb1,hb22,hb33⟩:=q1N hb;have hmul:=q2P (od a).natAbs (od b).natAbs;rw [← Int.natAbs_mul] at hmul;have C1:=qbB ha hb;have C2:=@qkM;have C3:=q4b (m:=od a*od b) (e:=dyE a+dyE b) rfl (by omega) (by omega) (by omega) ((qcR a b).trans hv);refine ac0 Tryz.func134 Tryz.ntmps134 [.cell 4 74] ?_;exact wk trivial
end
abbrev reT (neg:Bool) (q:Nat) (e:Int) (inx:Bool):PV:=.ag [bv neg,bv false,.fm (fL q),iv e,bv inx]
section
variable {neg inx:Bool} {q k:Nat} {e p:Int}
theorem qeW (hb:bl q≤1000000) (he1 : -1000000≤e) (he2:e≤1000000):ACt 185 [reT neg q e inx] (iv (e+bl q-1)):=by
 have C1:=@q3C;refine ac0 Tryz.func185 Tryz.ntmps185 [.tmp 2] ?_;exact wk trivial
theorem qib (hq:q≠0) (hb:bl q≤1000000) (hk:0 < k) (hk2:k≤5000000):ACt 240 [reT neg q e inx,iv k] (.tu [bT (q / 2 ^ k:Nat),iv (Go.Sp.hf q k inx),bv (decide (q % 2 ^ k=0) && !inx)]):=by
 have C1:=@q3C
 by_cases hkb:bl q < k
 ·have hqp:=q35 q;have hp1:2 ^ bl q≤2 ^ (k-1):=Nat.pow_le_pow_right (by omega) (by omega);have hp2:2 ^ (k-1)≤2 ^ k:=Nat.pow_le_pow_right (by omega) (by omega);have hmod:q % 2 ^ k=q:=Nat.mod_eq_of_lt (by omega);have hdiv:q / 2 ^ k=0:=Nat.div_eq_of_lt (by omega);have hhf:Go.Sp.hf q k inx = -1:=by
   unfold Go.Sp.hf;have:(((q % 2 ^ k:Nat):Int)-2 ^ (k-1)).sign = -1:=by
    refine Int.sign_eq_neg_one_of_neg ?_;rw [hmod,← q0v]; omega
   rw [this]; simp
  have hex:(decide (q % 2 ^ k=0) && !inx)=false:=by rw [hmod,decide_eq_false hq]; rfl
  rw [hdiv,hhf,hex];refine ac0 Tryz.func240 Tryz.ntmps240 [.cell 4 72,.tmp 5,.tmp 6] ?_;exact wk trivial
 ·have C2:=@q6u;have C3:=@q38;have C4:=@qkJ;have C5:=@q30;have C6:=@qkO;have C7:=@q3j;have hsh:shI ((q:Nat):Int) (-(k:Int))=((q / 2 ^ k:Nat):Int):=by
   unfold shI; rw [if_neg (by omega),show (- -(k:Int)).toNat=k by omega,← q0v]; rfl
  have hql:bl (q / 2 ^ k)≤1000000:=Nat.le_trans (q1C (Nat.div_le_self _ _)) hb;have hsl:shI ((q / 2 ^ k:Nat):Int) (k:Int)=((q / 2 ^ k*2 ^ k:Nat):Int):=by
   unfold shI; rw [if_pos (by omega),Int.toNat_natCast,← q0v]; simp
  have hbm:bl (q / 2 ^ k*2 ^ k)≤1000000:=Nat.le_trans (q1C (Nat.div_mul_le_self _ _)) hb;have hrs:((q:Nat):Int)-((q / 2 ^ k*2 ^ k:Nat):Int)=((q % 2 ^ k:Nat):Int):=by
   have:=Nat.div_add_mod q (2 ^ k);rw [Nat.mul_comm] at this; omega
  have hbr:bl (q % 2 ^ k)≤1000000:=Nat.le_trans (q1C (Nat.mod_le _ _)) hb;have hs1:shI 1 ((k:Int)-1)=(2:Int) ^ (k-1):=by
   unfold shI; rw [if_pos (by omega),show ((k:Int)-1).toNat=k-1 by omega,Int.one_mul]
  have hb1:bl ((2:Int) ^ (k-1)).natAbs≤k:=by
   rw [q5n]; exact q0Y (Nat.pow_lt_pow_right (by omega) (by omega))
  have hb2:bl (1:Int).natAbs≤1:=by show bl 1≤_; rw [q5Z]; omega
  have sE:(((q % 2 ^ k:Nat):Int).sign == 0)=decide (q % 2 ^ k=0):=by
   by_cases h0:q % 2 ^ k=0
   ·rw [h0]; rfl
   ·rw [decide_eq_false h0,beq_eq_false_iff_ne];intro h; exact h0 (by have:=Int.sign_eq_zero_iff_zero.1 h; omega)
  have hhf:Go.Sp.hf q k inx=if (((q % 2 ^ k:Nat):Int)-2 ^ (k-1)).sign=0∧inx=true then 1 else (((q % 2 ^ k:Nat):Int)-2 ^ (k-1)).sign:=rfl
  rw [hhf];generalize hr:q % 2 ^ k=r at *;generalize hz:q / 2 ^ k=z at *;generalize hw:z*2 ^ k=zw at *;generalize hP:(2:Int) ^ (k-1)=P at *;refine ac0 Tryz.func240 Tryz.ntmps240 [.cell 4 72,.tmp 5,.tmp 6] ?_;refine wk1 (x4 hsh hsl hrs hs1) ?_
  by_cases hS:((r:Int)-P).sign=0
  ·rw [hS];cases inx
   ·rw [if_neg fun h=>Bool.noConfusion h.2]
    by_cases h0:r=0
    ·exact wk1 (x2 sE (decide_eq_true h0)) trivial
    ·exact wk1 (x2 sE (decide_eq_false h0)) trivial
   ·rw [if_pos ⟨rfl,rfl⟩]
    by_cases h0:r=0
    ·exact wk1 (x2 sE (decide_eq_true h0)) trivial
    ·exact wk1 (x2 sE (decide_eq_false h0)) trivial
  ·rw [if_neg fun h=>hS h.1]
   by_cases h0:r=0
   ·exact wk1 (x2 sE (decide_eq_true h0)) trivial
   ·exact wk1 (x2 sE (decide_eq_false h0)) trivial
theorem qeV (hq:q≠0) (hb:bl q≤900000) (he1 : -900000≤e) (he2:e≤900000) (hp1 : -100000≤p) (hp2:p≤1000000):ACt 188 [reT neg q e inx,iv p,iv 0] (bT (sgn neg (qjs q e p inx))):=by
 have C1:=@q38;have C2:=@q8W;have s0:∀ n:Nat,sgn false n=n:=fun n=>rfl;have s1:∀ n:Nat,sgn true n = -(n:Int):=fun n=>rfl
 by_cases hpe:p≤e
 ·have hsl:shI ((q:Nat):Int) (e-p)=((q*2 ^ (e-p).toNat:Nat):Int):=by
   unfold shI; rw [if_pos (by omega),← q0v]; simp
  have hbq:bl (q*2 ^ (e-p).toNat)≤2000000:=by rw [q27 hq]; omega
  rw [show qjs q e p inx=q*2 ^ (e-p).toNat from if_pos hpe];generalize q*2 ^ (e-p).toNat=z at *;refine ac0 Tryz.func188 Tryz.ntmps188 [.cell 6 72] ?_;cases neg
  ·exact wk1 (x2 hsl s0) trivial
  ·exact wk1 (x2 hsl s1) trivial
 ·obtain ⟨k,hk⟩:∃ k:Nat,p-e=k:=⟨(p-e).toNat,by omega⟩;have hbq:bl (q / 2 ^ k)≤2000000:=Nat.le_trans (q1C (Nat.div_le_self _ _)) (by omega);have C3:=qib (neg:=neg) (inx:=inx) (e:=e) (q:=q) (k:=k) hq (by omega) (by omega) (by omega);have C4:=@q30;have C5:=@q8X;have C6:=@q3j;have C7:=@qh5;have hb2:bl (1:Int).natAbs≤1:=by show bl 1≤_; rw [q5Z]; omega
  have hm:qjs q e p inx=q / 2 ^ k+(if ¬ (q % 2 ^ k=0∧inx=false)∧(0 < Go.Sp.hf q k inx∨(Go.Sp.hf q k inx=0∧q / 2 ^ k % 2=1)) then 1 else 0):=by
   unfold qjs; rw [if_neg hpe,show (p-e).toNat=k by omega]
  generalize qjs q e p inx=m at *;generalize Go.Sp.hf q k inx=H at *;generalize hr:q % 2 ^ k=r at *;generalize hz:q / 2 ^ k=z at *;have hbz:bl ((z:Int)+1).natAbs≤2000001:=by
   have:=q3t (k:=2000000) (a:=z) (b:=1) (by omega) (by rw [q5Z]; omega);exact this
  have e2:((z+1:Nat):Int)=(z:Int)+1:=rfl;refine ac0 Tryz.func188 Tryz.ntmps188 [.cell 6 72] ?_
  by_cases hex:r=0∧inx=false
  ·have f:(decide (r=0) && !inx)=true:=by simp [hex]
   rw [if_neg fun h=>h.1 hex,Nat.add_zero] at hm;subst hm;cases neg
   ·exact wk1 (x3 hk f s0) trivial
   ·exact wk1 (x3 hk f s1) trivial
  ·have f:(decide (r=0) && !inx)=false:=by
    rw [Bool.and_eq_false_iff]
    by_cases h:r=0
    ·exact .inr (by cases inx <;> simp_all)
    ·exact .inl (decide_eq_false h)
   by_cases hh:0 < H
   ·rw [if_pos ⟨hex,.inl hh⟩] at hm;subst hm;cases neg
    ·exact wk1 (x4 hk f s0 e2) trivial
    ·exact wk1 (x4 hk f s1 e2) trivial
   ·by_cases h0:H=0
    ·by_cases hodd:z % 2=1
     ·rw [if_pos ⟨hex,.inr ⟨h0,hodd⟩⟩] at hm;subst hm;have q3:(((z:Nat):Int).sign != 0)=true:=by rw [Int.sign_eq_one_of_pos (by omega)]; rfl
      have q4:(((tz z:Nat):Int) == 0)=true:=by rw [q8u hodd]; rfl
      cases neg
      ·exact wk1 (x6 hk f q3 q4 s0 e2) trivial
      ·exact wk1 (x6 hk f q3 q4 s1 e2) trivial
     ·rw [if_neg fun h=>h.2.elim hh fun h=>hodd h.2,Nat.add_zero] at hm;subst hm
      by_cases hz0:m=0
      ·have q3:(((m:Nat):Int).sign != 0)=false:=by rw [hz0]; rfl
       cases neg
       ·exact wk1 (x4 hk f q3 s0) trivial
       ·exact wk1 (x4 hk f q3 s1) trivial
      ·have q3:(((m:Nat):Int).sign != 0)=true:=by rw [Int.sign_eq_one_of_pos (by omega)]; rfl
       have q4:(((tz m:Nat):Int) == 0)=false:=by
        rw [q7c];refine decide_eq_false fun h0=>hodd ?_;obtain ⟨r,hr,he⟩:=q2e hz0;rw [h0,Nat.pow_zero,Nat.mul_one] at he;omega
       cases neg
       ·exact wk1 (x5 hk f q3 q4 s0) trivial
       ·exact wk1 (x5 hk f q3 q4 s1) trivial
    ·rw [if_neg fun h=>h.2.elim hh fun h=>h0 h.1,Nat.add_zero] at hm;subst hm;cases neg
     ·exact wk1 (x3 hk f s0) trivial
     ·exact wk1 (x3 hk f s1) trivial
end
theorem qbC {a b:Int} (hA:q0i a) (hB:q0i b) (ha:a≠0) (hb:b≠0):∃ k:Nat,(bl (od b).natAbs+58 < bl ((od a).natAbs*2 ^ k)∧k≤140000∧bl ((od a).natAbs*2 ^ k)≤140000) ∧
  ACt 126 [dT a,dT b,iv 56] (reT (decide (a < 0) != decide (b < 0)) ((od a).natAbs*2 ^ k / (od b).natAbs) (dyE a-k-dyE b) (decide ((od a).natAbs*2 ^ k % (od b).natAbs≠0))):=by
 obtain ⟨ha1,ha2,ha3⟩:=q1N hA;obtain ⟨hb1,hb2,hb3⟩:=q1N hB;have hoa:=q4G ha;have hob:=q4G hb;rw [← q3W a,← q3W b];have C1:=@q3C;have C2:=@q8Y;have C3:=@q38;have C4:=@qa6;have C5:=@q3j;obtain ⟨p,hp⟩:∃ p,(od a).natAbs=p:=⟨_,rfl⟩;obtain ⟨r,hr⟩:∃ r,(od b).natAbs=r:=⟨_,rfl⟩;have hbp:=hp ▸ ha3;have hbr:=hr ▸ hb3;rw [hp,hr];have hp0:p≠0:=by omega
 have hr0:r≠0:=by omega
 obtain ⟨k,hk⟩:∃ k:Nat,max 0 (56+3+((bl r:Nat):Int)-((bl p:Nat):Int))=k:=⟨(max 0 (56+3+((bl r:Nat):Int)-((bl p:Nat):Int))).toNat,by omega⟩;have hbN:bl (p*2 ^ k)=bl p+k:=q27 hp0 k;refine ⟨k,⟨by omega,by omega,by omega⟩,?_⟩;have hsh:shI ((p:Nat):Int) (k:Int)=((p*2 ^ k:Nat):Int):=by
  unfold shI; rw [if_pos (by omega),Int.toNat_natCast,← q0v]; simp
 have hml:bl (p*2 ^ k % r)≤300000:=Nat.le_trans (q1C (Nat.mod_le _ _)) (by omega);have sE:(((p*2 ^ k % r:Nat):Int).sign != 0)=decide (p*2 ^ k % r≠0):=by
  by_cases h0:p*2 ^ k % r=0
  ·rw [h0]; rfl
  ·rw [decide_eq_true h0,bne_iff_ne];intro h; exact h0 (by have:=Int.sign_eq_zero_iff_zero.1 h; omega)
 refine ac0 Tryz.func126 Tryz.ntmps126 [.cell 6 155] ?_;exact wk1 (x6 hp hr @qhZ hk hsh sE) trivial
theorem clD {l:List Int}:ClL (l.map fun x=>dT x):=fun x hx=>by
 obtain ⟨z,_,rfl⟩:=List.mem_map.1 hx;intro y hy;simp at hy
 rcases hy with rfl | rfl | rfl | rfl <;> trivial
theorem q7s {l:List Int} (hn:l.length≤1000) (ho:∀ x ∈ l,q0i x) (hv:q0i (q1K l)):ACt 127 [.sl (some 4) (l.map fun V=>pV V)] (dT (q1K l)):=by
 refine ac0 Tryz.func127 Tryz.ntmps127 [.cell 2 74] ?_;refine wk ?_;refine q0T (fun q:Nat × Int=>q.1≤l.length ∧ -65536≤q.2∧q.2≤0∧∀ x ∈ l.take q.1,q.2≤dyE x) [0,2,12,13] [2] Lk Lk (fun q=>[(14,iv q.1),(4,iv q.2),(3,.ow 1001 (some 4) 0 q.1)]) (fun q=>[(1001,⟨74,some 4,(l.take q.1).map fun x=>dT x,false⟩)]) (fun q=>l.length-q.1) (0,0) ⟨Nat.zero_le _,by omega,by omega,fun x hx=>by simp at hx⟩ ?_ ?_
 ·refine LeM [(1001,none)] rfl rfl ?_;refine Zz ?_
  rfl
 ·rintro ⟨i,lo⟩ ⟨hi,hlo1,hlo2,hmin⟩;simp only at hi hlo1 hlo2 hmin ⊢
  by_cases hlt:i < l.length
  ·obtain ⟨x,hxi⟩:∃ x,l[i]?=some x:=⟨_,List.getElem?_eq_getElem (by omega)⟩;have hox:=ho x (List.mem_of_getElem? hxi);obtain ⟨hd1,hd2,hd3⟩:=q1N hox;have C1:=ac_1 (by kernel_rfl) fun h=>qaC h (V:=x);have htk:l.take (i+1)=l.take i ++ [x]:=by
    obtain ⟨hlt,he⟩:=List.getElem?_eq_some_iff.1 hxi;rw [List.take_succ_eq_append_getElem hlt,he]
   have ht:(l.take i).length=i:=by rw [List.length_take]; omega
   refine wk1 (x3 hxi @qhY ht) ?_;refine ⟨(i+1,min lo (dyE x)),⟨by simp only; omega,by simp only; omega,by simp only; omega,fun y hy=>?_⟩,by simp only; omega,?_⟩
   ·simp only at hy ⊢;rw [htk] at hy
    rcases List.mem_append.1 hy with hy | hy
    ·have:=hmin y hy; omega
    ·simp at hy; subst hy; omega
   ·simp only;refine LeM [(1001,some 33)] rfl rfl ?_;refine Zz ?_;exact ⟨by omega,q2E (by rw [htk,List.map_append]; rfl) clD⟩
  ·obtain rfl:i=l.length:=by omega
   rw [List.take_length] at hmin;refine wk ?_;refine q0T (fun q:Nat × Int=>q.1≤l.length∧q.2*(2:Int) ^ (lo+65536).toNat=q1K (l.take q.1)) [2,4,9,35,36] [2,1001] Lk Lk (fun q=>[(37,iv q.1)]) (fun q=>[(9,⟨72,some 2,[bT q.2],false⟩)]) (fun q=>l.length-q.1) (0,0) ⟨Nat.zero_le _,by rw [Int.zero_mul]; rfl⟩ ?_ ?_
   ·refine LeM [] rfl rfl ?_;refine Zz ?_;exact ⟨rfl,rfl,q2E rfl clD⟩
   ·rintro ⟨j,tot⟩ ⟨hj,hs⟩;simp only at hj hs ⊢;have hbs:=qgz (i:=j) ho (by omega);have hbt:=q3s hs
    by_cases hlt:j < l.length
    ·obtain ⟨x,hxi⟩:∃ x,l[j]?=some x:=⟨_,List.getElem?_eq_getElem (by omega)⟩;have hox:=ho x (List.mem_of_getElem? hxi);obtain ⟨hd1,hd2,hd3⟩:=q1N hox;have hst:=q5A l j x hxi;have hlo:=hmin x (List.mem_of_getElem? hxi);have hsh:shI (od x) (dyE x-lo)=od x*(2:Int) ^ (dyE x-lo).toNat:=by unfold shI; rw [if_pos (by omega)]
     have hlf:=q8P (V:=x) (E:=lo) (by omega) (by omega);have hb12:=q3s hlf;have hbx:bl x.natAbs≤131072:=hox;have C1:=@q38;have C2:=@q8X;refine wk1 (x2 hxi hsh) ?_;refine ⟨(j+1,tot+od x*(2:Int) ^ (dyE x-lo).toNat),⟨by simp only; omega,by simp only; rw [hst,Int.add_mul,hs,hlf]⟩,by simp only; omega,?_⟩;simp only;refine LeM [] rfl rfl ?_;refine Zz ?_;exact ⟨by omega,q2E rfl clD⟩
    ·obtain rfl:j=l.length:=by omega
     rw [List.take_length] at hs hbs hbt;have C1:=@q4b;have hmk:mkV tot lo=some (q1K l):=by rw [q4m (by omega) hs]; exact q2y hv
     exact wk trivial
theorem fOk {f:Nat} {V:Int} (hv:ofF f=some V):q0i V:=by
 have hfin:q0V f:=fun h=>by unfold ofF at hv; rw [if_pos h] at hv; cases hv
 obtain ⟨V',hv',hmk⟩:=q8O hfin;rw [hv] at hv'; cases hv';exact (q4S hmk).2.2.2
section
variable {f:Nat} {neg:Bool}
theorem q5S (hf:f < 18446744073709551616):ACt 128 [uv f] (.tu [iv (f / 4503599627370496 % 2048:Nat),uv (f % 4503599627370496:Nat)]):=by
 have h1:=q3v (a:=f / 4503599627370496) (by omega);have h2:=q6j hf;refine ac0 Tryz.func128 Tryz.ntmps128 [.tmp 2,.tmp 3] ?_;exact wk1 (x2 h1 h2) trivial
theorem qdG (hf:f < 18446744073709551616):ACt 130 [uv f] (bv (decide (9223372036854775808≤f))):=by
 have h2:=qcJ hf;refine ac0 Tryz.func130 Tryz.ntmps130 [.tmp 2] ?_;exact wk1 h2 trivial
theorem q5r (hf:f < 9223372036854775808):ACt 189 [uv f,bv neg] (uv (sb neg f:Nat)):=by
 have h:=qcE hf;refine ac0 Tryz.func189 Tryz.ntmps189 [.tmp 4] ?_;cases neg
 ·exact wk1 (show sb false f=f from rfl) trivial
 ·exact wk1 (x2 h (show sb true f=f+9223372036854775808 from rfl)) trivial
theorem q4M (hf:f < 18446744073709551616):ACt 63 [uv f] (bv (decide (q0V f))):=by
 have C1:=q5S hf;have h2:(((f / 4503599627370496 % 2048:Nat):Int) != 2047)=decide (q0V f):=qpu (b:=2047);refine ac0 Tryz.func63 Tryz.ntmps63 [.tmp 2] ?_;exact wk1 h2 trivial
theorem qfy:ACt 190 [bv neg,iv 0] (uv (qeL 0 neg:Nat)):=by
 have C1:=q5r (f:=9218868437227405312) (neg:=neg) (by omega);have e:qeL 0 neg=sb neg 9218868437227405312:=by simp [qeL]
 refine ac0 Tryz.func190 Tryz.ntmps190 [.tmp 4] ?_;exact wk1 e trivial
theorem q2m {V:Int} (hf:f < 18446744073709551616) (hv:ofF f=some V):ACt 62 [uv f] (dT V):=by
 have hfin:q0V f:=fun h=>by unfold ofF at hv; rw [if_pos h] at hv; cases hv
 obtain ⟨V',hv',hmk⟩:=q8O hfin;rw [hv] at hv'; cases hv';have C1:=q5S hf;have C2:=qdG hf;have C3:=@q30;have C4:=@q8W;have C5:=@q4b;have hxm:=Nat.mod_lt (f / 4503599627370496) (show 0 < 2048 by omega);have hm:=Nat.mod_lt f (show 0 < 4503599627370496 by omega);unfold q0V at hfin;generalize f / 4503599627370496 % 2048=x at *;generalize f % 4503599627370496=m at *;generalize decide (9223372036854775808≤f)=sg at *;have h4:=qhU hm;obtain ⟨M,hM⟩:∃ M,M=if x=0 then m else 4503599627370496+m:=⟨_,rfl⟩
 have hMl:M < 9007199254740992:=by rw [hM]; split <;> omega
 have hbl:bl M≤53:=q0Y (show M < 2 ^ 53 by omega);have hbn:bl (-(M:Int)).natAbs≤53:=by rw [Int.natAbs_neg]; exact hbl
 refine ac0 Tryz.func62 Tryz.ntmps62 [.cell 2 74] ?_
 by_cases hx0:x=0
 ·rw [if_pos hx0] at hM;subst hM;rw [if_pos hx0,if_pos hx0] at hmk;cases sg
  ·exact wk trivial
  ·exact wk trivial
 ·rw [if_neg hx0] at hM;rw [if_neg hx0,if_neg hx0,← hM] at hmk;rw [← hM] at h4;cases sg
  ·exact wk1 h4 trivial
  ·exact wk1 h4 trivial
end
theorem qkN {a:Int} {s:Bool} (hs:s=decide (a < 0)) (h0:0≤a) (ha:a≤9223372036854775807):ACt 186 [sT s a] (.tu [iv a,bv true]):=q2D (r:=.vl (.tuple #[.int .i64 a,.bool true])) (fun D w v h=>by
 rw [q6R h];unfold Rd;refine ⟨_,rfl,?_⟩;unfold RdL;exact ⟨_,_,rfl,q29,RdL.one q29⟩) (B1c hs fun _ _ _ _ h _=>qok h h0 ha)
theorem q5R {N M:Nat} {neg:Bool} {e:Int} (hM:0 < M) (hN:M≤N) (hmb:N % M≠0→55≤bl (N / M)) (hb:bl (N / M)≤200000) (he1 : -400000≤e) (he2:e≤400000):ACt 125 [reT neg (N / M) e (decide (N % M≠0)),iv 0] (uv (rE 0 neg N M e:Nat)):=by
 have hp:=Nat.div_pos hN hM;have hL1:=q5Y (n:=N / M) (by omega);have hval:=qbz (mode:=0) (neg:=neg) (e:=e) hM hN;have hnle:=qj9 (mode:=0) (neg:=neg) (e:=e) (q:=max (e+(bl (N / M):Int)-53) (-1074)) hM hN (by omega);have hmul:=qjr (neg:=neg) (e:=e) (p:=max (e+(bl (N / M):Int)-53) (-1074)) hM (fun h=>by have:=hmb h; omega);have C1:=qeW (neg:=neg) (q:=N / M) (e:=e) (inx:=decide (N % M≠0)) (by omega) (by omega) (by omega);obtain ⟨L,hL⟩:∃ L,bl (N / M)=L:=⟨_,rfl⟩;rw [hL] at hmb hb hval hnle hmul hL1 C1;obtain ⟨q,hq⟩:∃ q,max (e+(L:Int)-53) (-1074)=q:=⟨_,rfl⟩;rw [hq] at hval hnle hmul;have hq':max (e+(L:Int)-1-52) (-1074)=q:=by omega
 have C2:=qeV (neg:=neg) (inx:=decide (N % M≠0)) (q:=N / M) (e:=e) (p:=q) (by omega) (by omega) (by omega) (by omega) (by omega) (by omega);rw [hmul] at C2;obtain ⟨r,hr⟩:∃ r,rq 0 neg (N*2 ^ (e-q).toNat) (M*2 ^ (q-e).toNat)=r:=⟨_,rfl⟩;rw [hr] at hval hnle C2;have hbr:bl r≤54:=q0Y (Nat.lt_of_le_of_lt hnle (by decide));have hsn:=q1Q neg r;have hbs:bl (sgn neg r).natAbs≤54:=by rw [hsn]; exact hbr
 have C3:=@q8Y;have C4:=@qkN;have C5:=@q5r;have C6:=@qfy;have e2:IntKind.u64.wrap ((r:Nat):Int)=r:=u64_in (by omega) (by omega);rw [hval];generalize N / M=d at *;generalize decide (N % M≠0)=ix at *;clear hmul hmb hp hval hr;unfold Go.Sp.fin Go.Sp.fin2;have comp:∀ (q2:Int) (n2:Nat),0≤q2+1075→¬ 2047≤q2+1075→4503599627370496≤n2→n2 < 9007199254740992→∃ x:Nat,q2+1075=x∧(q2+1075).toNat=x∧IntKind.u64.wrap (x:Int)=x∧(q0r Tryz.prog .shl 30 (.int .u64 (x:Int)) (.int .u64 52)=some (.int .u64 ((x*4503599627370496:Nat):Int)))∧IntKind.u64.wrap ((n2:Int)-4503599627370496)=((n2-4503599627370496:Nat):Int)∧q0q .or .u64 ((x*4503599627370496:Nat):Int) ((n2-4503599627370496:Nat):Int)=((x*4503599627370496+(n2-4503599627370496):Nat):Int)∧x*4503599627370496+(n2-4503599627370496) < 9223372036854775808:=fun q2 n2 h1 h2 h3 h4 =>
  ⟨(q2+1075).toNat,by omega,rfl,u64_in (by omega) (by omega),q9J (by omega),by rw [u64_in (by omega) (by omega)]; omega,qhV (by omega) (by omega),by omega⟩
 refine ac0 Tryz.func125 Tryz.ntmps125 [.tmp 4] ?_
 by_cases h53:r=9007199254740992
 ·rw [if_pos h53,if_neg (by omega)]
  by_cases hov:2047≤q+1+1075
  ·rw [if_pos hov];exact wk1 (x3 hq' hsn e2) trivial
  ·rw [if_neg hov];obtain ⟨x,f1,f2,f3,f4,f5,f6,f7⟩:=comp (q+1) 4503599627370496 (by omega) hov (by omega) (by omega);rw [f2,Nat.sub_self,Nat.add_zero];rw [Nat.sub_self,Nat.add_zero] at f6 f7;replace f5:IntKind.u64.wrap (4503599627370496-4503599627370496)=0:=f5;replace f6:q0q .or .u64 ((x*4503599627370496:Nat):Int) 0=((x*4503599627370496:Nat):Int):=f6;exact wk1 (x6 hq' hsn e2 f1 f3 (x3 f4 f5 f6)) trivial
 ·rw [if_neg h53]
  by_cases h52:r < 4503599627370496
  ·rw [if_pos h52];exact wk1 (x3 hq' hsn e2) trivial
  ·rw [if_neg h52]
   by_cases hov:2047≤q+1075
   ·rw [if_pos hov];exact wk1 (x3 hq' hsn e2) trivial
   ·rw [if_neg hov];obtain ⟨x,f1,f2,f3,f4,f5,f6,f7⟩:=comp q r (by omega) hov (by omega) (by omega);rw [f2];exact wk1 (x6 hq' hsn e2 f1 f3 (x3 f4 f5 f6)) trivial
theorem q83 {a b:Int} (hA:q0i a) (hB:q0i b) (hb0:b≠0):ACt 60 [dT a,dT b,iv 0] (uv (fQ 0 a b:Nat)):=by
 have C1:=q5y hA;have C2:=q5y hB;have C3:=q2U hA;have C4:=q2U hB;have q1:(b.sign == 0)=false:=by
  rw [beq_eq_false_iff_ne]; intro h; exact hb0 (Int.sign_eq_zero_iff_zero.1 h)
 refine ac0 Tryz.func60 Tryz.ntmps60 [.tmp 6] ?_
 by_cases ha0:a=0
 ·have q2:(a.sign == 0)=true:=by rw [ha0]; rfl
  rw [show ((fQ 0 a b:Nat):Int)=0 by rw [show fQ 0 a b=0 from if_pos ha0]; rfl];exact wk1 (x2 q1 q2) trivial
 ·have q2:(a.sign == 0)=false:=by
   rw [beq_eq_false_iff_ne]; intro h; exact ha0 (Int.sign_eq_zero_iff_zero.1 h)
  obtain ⟨k,⟨c1,c2,c3⟩,C5⟩:=qbC hA hB ha0 hb0;have hob:=q4G hb0;have hd1:=q1N hA;have hd2:=q1N hB;have hge:=qdi (N:=(od a).natAbs*2 ^ k) (M:=(od b).natAbs) (by omega) (k:=57) (by omega);have hle:bl ((od a).natAbs*2 ^ k / (od b).natAbs)≤140000:=Nat.le_trans (q1C (Nat.div_le_self _ _)) c3;have hMN:(od b).natAbs≤(od a).natAbs*2 ^ k:=by
   rcases Nat.lt_or_ge ((od a).natAbs*2 ^ k) (od b).natAbs with h | h
   ·have:=q1C (Nat.le_of_lt h); omega
   ·exact h
  have C6:=q5R (neg:=decide (a < 0) != decide (b < 0)) (e:=dyE a-k-dyE b) (by omega) hMN (fun _=>by omega) (by omega) (by omega) (by omega);rw [qoB ha0 hb0,show rF 0 (decide (a < 0) != decide (b < 0)) a.natAbs b.natAbs=fQ 0 a b from (if_neg ha0).symm] at C6;exact wk1 (x2 q1 q2) trivial
end Go.Proofs.YtbcmhlhgljoolaaGreatDoor
namespace Go.E
open Go
section
variable {G:Fam} {D:Nat→Prop} {A:Option Addr} {v:Value} {w w':World} {L:List Nat} {α:Type} {H:α→Fam} {T sz B n c:Nat} {l:List α}
theorem q36.blk_lt (h:q36 H T sz w D B A n c l):∀ a,A=some a→a.block < w.heap.size∧B≤a.block:=by
 obtain ⟨vs,h1,_⟩:=h;exact h1.blk_lt
theorem q36.nb (h:q36 H T sz w D B A n c l) {k:Nat} (hk:k < B):nb A k:=fun a ha=>by have:=h.blk_lt a ha; omega
theorem q36.under {w0:World} (h:q36 H T sz w D B A n c l) (hx:Ext w0 w) (k:Kp (Go.E.nb A) w w') (hB:w0.heap.size≤B):Ext w0 w':=hx.under k fun j hj=>h.nb (by omega)
end
end Go.E
namespace Go.Proofs.YtbcmhlhgljoolaaGreatDoor
open Go Go.E Go.Sp
theorem qpn (a b c d:Value):bsV Tryz.prog 125 1 [(0,.agg #[a,b,c,d])]=some (74,#[a,b,c,d]):=by
 unfold bsV;simp only [qdL];have hr:Array.range 4=#[0,1,2,3]:=rfl;simp [Instr.fill,Value.cells,hr]
section
variable {f:Nat} {w:World}
theorem qey (hf:f < 18446744073709551616):Calls Tryz.prog 128 #[.int .u64 f] w fun e w'=>e=.returned (.tuple #[.int .i64 (f / 4503599627370496 % 2048:Nat),.int .u64 (f % 4503599627370496:Nat)])∧w=w':=by
 refine q0I Tryz.func128 rfl Tryz.ntmps128 (by kernel_rfl) ?_;refine Wz ?_;have h1:=q3v (a:=f / 4503599627370496) (by omega);have h2:=q6j (a:=f) hf;have h3:IntKind.i64.wrap ((f / 4503599627370496 % 2048:Nat):Int)=((f / 4503599627370496 % 2048:Nat):Int):=i64_in (by omega) (by omega);refine Wz3 h1 h2 h3 ?_;refine q0N ?_
 try simp only [q0D,q0O]
 refine q8L rfl ⟨by simp only [q0E,Nat.reduceEqDiff,↓reduceIte],rfl⟩
theorem q4V (hf:f < 18446744073709551616):Calls Tryz.prog 63 #[.int .u64 f] w fun e w'=>e=.returned (.bool (decide (q0V f)))∧w=w':=by
 refine q0I Tryz.func63 rfl Tryz.ntmps63 (by kernel_rfl) ?_;refine Wz ?_;refine q0A fun K hK=>?_;refine Zz ?_;refine q0F qiM (qey hf) ?_;rintro _ _ ⟨rfl,rfl⟩; refine ⟨_,rfl,?_⟩;have h2:(((f / 4503599627370496 % 2048:Nat):Int) != 2047)=decide (q0V f):=qpu (b:=2047);refine Zz ?_;refine hK _ _ ?_; clear hK;refine Wz1 h2 ?_;refine q0N ?_
 try simp only [q0D,q0O]
 refine q1F rfl ⟨by simp only [q0E,Nat.reduceEqDiff,↓reduceIte],rfl⟩
end
section
variable {g:FuncId} {al:List PV} {vs:List Value} {V:Int} {c:Value} {D:Nat→Prop} {w:World} {v v':Value} {a b:Int}
theorem acV (h:ACt g al (dT V)) (ho:q0i V) (hT:q2a w) (hF:Fr D w) (hR:RdL w D al (fun _=>none) h0 vs):Calls Tryz.prog g vs.toArray w (Rt (fV V) D w):=(h.2 D w vs hT hF hR).mono fun x w' ⟨v,h1,h2,h3⟩=>⟨v,h1,h2,q4X.1 ⟨h3,ho⟩⟩
theorem acK (h:ACt g al (.vl c)) (hT:q2a w) (hF:Fr D w) (hR:RdL w D al (fun _=>none) h0 vs):Calls Tryz.prog g vs.toArray w fun e w'=>e=.returned c∧Ext w w':=(h.2 D w vs hT hF hR).mono fun x w' ⟨v,h1,h2,h3⟩=>⟨by rw [h1,q6R h3],h2⟩
theorem rdV (h:In (fV V) D v w):Rd w D (dT V) (fun _=>none) h0 v:=(q4X.2 h).1
theorem RdL.two {x y:PV} (h1:Rd w D x (fun _=>none) h0 v) (h2:Rd w D y (fun _=>none) h0 v'):RdL w D [x,y] (fun _=>none) h0 [v,v']:=by
 unfold RdL;exact ⟨_,_,rfl,h1,RdL.one h2⟩
theorem qdF {f:Nat} (hT:q2a w) (hf:f < 18446744073709551616) (hv:ofF f=some V) (hfr:Fr D w):Calls Tryz.prog 62 #[.int .u64 f] w (Rt (fV V) D w):=acV (q2m hf hv) (fOk hv) hT hfr (RdL.one q29)
theorem qpZ (hT:q2a w) (h:In (fV a) D v w) (h':In (fV b) D v' w) (hv:mkV (a*b) (-131072)=some V) (hf:Fr D w):Calls Tryz.prog 134 #[v,v'] w (Rt (fV V) D w):=acV (q4v h.ok h'.ok hv) (q4S hv).2.2.2 hT hf (RdL.two (rdV h) (rdV h'))
theorem qpY (hT:q2a w) (h:In (fV V) D v w) (hf:Fr D w):Calls Tryz.prog 133 #[v] w (Rt (fV (-V)) D w):=acV (qbD h.ok) (qgH h.ok) hT hf (RdL.one (rdV h))
theorem qha (hT:q2a w) (h:In (fV a) D v w) (h':In (fV b) D v' w) (hb0:b≠0) (hf:Fr D w):Calls Tryz.prog 60 #[v,v',.int .i64 0] w fun x w'=>x=.returned (.int .u64 (fQ 0 a b:Nat))∧Ext w w':=acK (q83 h.ok h'.ok hb0) hT hf (by
 unfold RdL;exact ⟨_,_,rfl,rdV h,RdL.two (rdV h') q29⟩)
theorem qpX {A:Option Addr} {n c:Nat} {l:List Int} (hT:q2a w) (h:In (fSl 4 fV l) D (.slice A n c) w) (hn:n≤1000) (ho:∀ x ∈ l,q0i x) (hv:q0i (q1K l)) (hf:Fr D w) :
  Calls Tryz.prog 127 #[.slice A n c] w (Rt (fV (q1K l)) D w):=by
 have hl:=h.sl_len;obtain ⟨_,_,_,vs,e,h1,⟨h2,h3⟩,h4⟩:=h;cases e;refine acV (q7s (by omega) ho hv) hv hT hf (RdL.one ?_);unfold Rd;refine ⟨A,n,c,vs,rfl,h1,by simpa using h4,RdL.iff.2 ⟨by simpa using h2.symm,fun i x v hx hv=>?_⟩,fun v hv=>?_⟩
 ·rw [List.getElem?_map] at hx;obtain ⟨V,hV,rfl⟩:=Option.map_eq_some_iff.1 hx;obtain ⟨u,hu,q1,_⟩:=h3 i V hV;rw [hv] at hu; cases hu;exact q8M q1
 ·obtain ⟨i,hi,rfl⟩:=List.getElem_of_mem hv;obtain ⟨u,hu,q1,_⟩:=h3 i l[i] (List.getElem?_eq_getElem (by omega));rw [List.getElem?_eq_getElem hi] at hu;cases hu;exact fitV _ _ _ q1
end
def q1M (l:List Nat):Prop:=∀ f ∈ l,f < 18446744073709551616∧q0V f
section
variable {D:Nat→Prop} {A:Option Addr} {n c:Nat} {l:List Nat} {w:World}
theorem qjm {w:World} {B E n c:Nat} {A:Option Addr} {α:Type} {f:α→Value} {l:List α} {D:Nat→Prop} (h:Own w B E 1 A n c (l.map f)) (hd:∀ k,B≤k→D k):In (fSc f l) D (.slice A n c) w:=⟨A,n,c,rfl,h.row.sub fun k _ hk=>hd k hk⟩
def qaH (n:Nat):List Int:=(List.range n).map fun k:Nat=>(k:Int)
theorem qbM (n:Nat):qaH (n+1)=qaH n ++ [(n:Int)]:=by unfold qaH; rw [List.range_succ,List.map_append]; rfl
theorem q8s (n:Nat):(qaH n).length=n:=by simp [qaH]
end
end Go.Proofs.YtbcmhlhgljoolaaGreatDoor
namespace Go.E
open Go
theorem q9F {P:Program} {w:World} {T E Bd g n c:Nat} {xs:List Value} {v:Value} (h:Own w Bd E 1 (some ⟨g,0,none⟩) n c xs) {j:Nat} (hj:j < n) (hs:q07 P T=some 1) (hv:v.cells=#[v]) (h1:v.oneCell'=true) {K:World→Prop}
  (hK:∀ w',Own w' Bd E 1 (some ⟨g,0,none⟩) n c (xs.set j v)→Kp (fun k=>k≠g) w w'→w'.heap.size=w.heap.size→K w'):q3I P T w (.pointer (some ⟨g,j,none⟩)) v K:=by
 have hl:xs.length=n:=by have:=h.len; simpa using this
 obtain ⟨g',hg,hb,hc,hfz⟩:=h.cell (j:=j) Oq;cases hg;rw [q4d,hv];refine ⟨hs,⟨?_,?_,h1,trivial⟩,?_⟩
 ·rw [q02,Nat.add_zero,hc]; rfl
 ·rw [q02,Nat.add_zero]; exact hfz
 ·refine hK _ ?_ ?_ ?_
  ·have:=h.set j v;simpa [stN,q02] using this
  ·simp only [stN,q02,Nat.add_zero];exact Kp.setCell w (fun _ h=>h rfl) v
  ·simp [stN,World.setCell]
end Go.E
namespace Go.Proofs.YtbcmhlhgljoolaaGreatDoor
open Go Go.E Go.Sp
def qof (l:List Int):Prop:=(∀ x ∈ l,0≤x∧x < l.length)∧l.Nodup
section
variable {D:Nat→Prop} {A:Option Addr} {n c:Nat} {l:List Int} {w:World}
end
end Go.Proofs.YtbcmhlhgljoolaaGreatDoor
namespace Go.E
open Go Go.Sp
section
variable {D:Nat→Prop} {A:Option Addr} {n c:Nat} {w:World}
theorem In.ixI {l:List Int} (h:In (fSc q3k l) D (.slice A n c) w) {i:Nat} {x:Int} (hi:l[i]?=some x):∃ ad,A=some ad∧((0:Int)≤(i:Int)∧(i:Int) < n)∧w.cell? (ad.add i)=some (.int .i64 x):=by
 obtain ⟨hlt,he⟩:=List.getElem?_eq_some_iff.1 hi;obtain ⟨ad,hA,hc⟩:=h.sc_get hlt;have:=h.sc_len;exact ⟨ad,hA,by omega,by rw [hc,he]; rfl⟩
theorem In.ixU {l:List Nat} (h:In (fSc q2S l) D (.slice A n c) w) {i:Nat} {x:Nat} (hi:l[i]?=some x):∃ ad,A=some ad∧((0:Int)≤(i:Int)∧(i:Int) < n)∧w.cell? (ad.add i)=some (.int .u64 (x:Int)):=by
 obtain ⟨hlt,he⟩:=List.getElem?_eq_some_iff.1 hi;obtain ⟨ad,hA,hc⟩:=h.sc_get hlt;have:=h.sc_len;exact ⟨ad,hA,by omega,by rw [hc,he]; rfl⟩
end
end Go.E
namespace Go.Proofs.YtbcmhlhgljoolaaGreatDoor
open Go Go.E Go.Sp
structure Fac where
 pm:List Int
 cp:List Int
 ri:List Int
 vs:List Nat
structure Col (f:Fac) (j a b:Nat):Prop where
 ha:f.cp[j]?=some (a:Int)
 hb:f.cp[j+1]?=some (b:Int)
 lt:a < b
 le:b≤f.ri.length
 first:f.ri[a]?=some (j:Int)
 last:∃ z:Int,f.ri[b-1]?=some z∧z < f.pm.length
 inc:∀ i,a < i→i < b→∃ y z:Int,f.ri[i-1]?=some y∧f.ri[i]?=some z∧y < z
 diag:∃ (x:Nat) (V:Int),f.vs[a]?=some x∧ofF x=some V∧0 < V
structure FacOk (f:Fac):Prop where
 perm:qof f.pm
 n:f.pm.length≤200
 cpl:f.cp.length=f.pm.length+1
 ril:f.ri.length=f.vs.length
 rib:f.ri.length≤1000000
 c0:f.cp[0]?=some 0
 cn:f.cp[f.pm.length]?=some (f.ri.length:Int)
 col:∀ j,j < f.pm.length→∃ a b,Col f j a b
 vals:q1M f.vs
def fFac (f:Fac):Fam:=⟨fun D v w=>∃ a b c d,v=.agg #[a,b,c,d]∧(fSc q3k f.pm).p D a w∧(fSc q3k f.cp).p D b w∧(fSc q3k f.ri).p D c w∧(fSc q2S f.vs).p D d w,fun k ⟨a,b,c,d,e,h1,h2,h3,h4⟩=>⟨a,b,c,d,e,(fSc q3k f.pm).kp k h1,(fSc q3k f.cp).kp k h2,(fSc q3k f.ri).kp k h3,(fSc q2S f.vs).kp k h4⟩,fun k ⟨a,b,c,d,e,h1,h2,h3,h4⟩=>⟨a,b,c,d,e,(fSc q3k f.pm).sub k h1,(fSc q3k f.cp).sub k h2,(fSc q3k f.ri).sub k h3,(fSc q2S f.vs).sub k h4⟩⟩
theorem q71 {D:Nat→Prop} {f:Fac} {v:Value} {w:World} (h:In (fFac f) D v w):∃ A1 n1 c1 A2 n2 c2 A3 n3 c3 A4 n4 c4,v=.agg #[.slice A1 n1 c1,.slice A2 n2 c2,.slice A3 n3 c3,.slice A4 n4 c4]∧In (fSc q3k f.pm) D (.slice A1 n1 c1) w∧In (fSc q3k f.cp) D (.slice A2 n2 c2) w∧In (fSc q3k f.ri) D (.slice A3 n3 c3) w∧In (fSc q2S f.vs) D (.slice A4 n4 c4) w:=by
 obtain ⟨a,b,c,d,rfl,h1,h2,h3,h4⟩:=h;obtain ⟨A1,n1,c1,rfl,r1⟩:=h1;obtain ⟨A2,n2,c2,rfl,r2⟩:=h2;obtain ⟨A3,n3,c3,rfl,r3⟩:=h3;obtain ⟨A4,n4,c4,rfl,r4⟩:=h4;exact ⟨_,_,_,_,_,_,_,_,_,_,_,_,rfl,⟨_,_,_,rfl,r1⟩,⟨_,_,_,rfl,r2⟩,⟨_,_,_,rfl,r3⟩,⟨_,_,_,rfl,r4⟩⟩
def slv (s:Option Addr × Nat × Nat):Value:=.slice s.1 s.2.1 s.2.2
structure Sums (w:World) (D:Nat→Prop) (L:List Nat) (N0 g n:Nat) (rows:List (List Int)) (ss:List (Option Addr × Nat × Nat)):Prop where
 own:Own w N0 125 1 (some ⟨g,0,none⟩) n n (ss.map slv)
 len:ss.length=rows.length
 row:∀ (i:Nat) (s:Option Addr × Nat × Nat) (r:List Int),ss[i]?=some s→rows[i]?=some r→q36 fV 74 4 w (Dl D L) N0 s.1 s.2.1 s.2.2 r
 mem:∀ (i:Nat) (s:Option Addr × Nat × Nat) (a:Addr),ss[i]?=some s→s.1=some a→a.block ∈ L∧a.block≠g
 ne:∀ (i j:Nat) (s t:Option Addr × Nat × Nat) (a b:Addr),i≠j→ss[i]?=some s→ss[j]?=some t→s.1=some a→t.1=some b→a.block≠b.block
 gL:g ∈ L
 lo:∀ k ∈ L,N0≤k
 hi:∀ k ∈ L,k < w.heap.size
theorem qlz {α:Type} {G:α→Fam} {T sz B n c:Nat} {A:Option Addr} {w:World} {D D':Nat→Prop} {l:List α} (h:q36 G T sz w D' B A n c l) (h1:∀ k,D' k→D k) (h2:∀ k,B≤k→D k):In (fSl sz G l) D (.slice A n c) w:=by
 obtain ⟨vs,a1,a2,a3⟩:=h;exact ⟨A,n,c,vs,rfl,a1.row.sub fun k _ hk=>h2 k hk,a2.sub fun k _ hk=>h1 k hk.1,a3⟩
section
variable {D:Nat→Prop} {L:List Nat} {N0 g n:Nat} {rows:List (List Int)} {ss:List (Option Addr × Nat × Nat)} {w w':World}
theorem Sums.ext (h:Sums w D L N0 g n rows ss) (k:Ext w w'):Sums w' D L N0 g n rows ss :=
 ⟨h.own.ext k,h.len,fun i s r a b=>(h.row i s r a b).ext k,h.mem,h.ne,h.gL,h.lo,fun j hj=>Nat.lt_of_lt_of_le (h.hi j hj) k.size⟩
theorem Sums.sub {D':Nat→Prop} (h:Sums w D L N0 g n rows ss) (hd:∀ k,k < w.heap.size→D k→D' k):Sums w D' L N0 g n rows ss :=
 ⟨h.own,h.len,fun i s r a b=>by
  obtain ⟨vs,a1,a2,a3⟩:=h.row i s r a b;exact ⟨vs,a1,a2.sub fun k hk hq=>⟨⟨hd k hk hq.1.1,hq.1.2⟩,hq.2⟩,a3⟩,h.mem,h.ne,h.gL,h.lo,h.hi⟩
theorem Sums.get (h:Sums w D L N0 g n rows ss) {i:Nat} {r:List Int} (hr:rows[i]?=some r) (hD:∀ k,N0≤k→D k):∃ A m c,ss[i]?=some (A,m,c)∧i < n∧w.cell? ⟨g,i,none⟩=some (.slice A m c)∧In (fSl 4 fV r) D (.slice A m c) w:=by
 have hlt:=(List.getElem?_eq_some_iff.1 hr).1;have hlen:=h.len;have hn:ss.length=n:=by have:=h.own.len; simpa using this
 obtain ⟨⟨A,m,c⟩,hs⟩:∃ s,ss[i]?=some s:=⟨_,List.getElem?_eq_getElem Oq⟩;obtain ⟨g',hg,_,hc,_⟩:=h.own.cell (j:=i) (by simp; omega);cases hg;refine ⟨A,m,c,hs,by omega,?_,qlz (h.row i _ r hs hr) (fun k hk=>hk.1) hD⟩;rw [hc];obtain ⟨h1,h2⟩:=List.getElem?_eq_some_iff.1 hs;simp [h2,slv]
theorem q8w {i:Nat} {r:List Int} (hT:q2a w) (hS:Sums w D L N0 g n rows ss) (hr:rows[i]?=some r) (hl:r.length≤1000) (ho:∀ x ∈ r,q0i x) (hv:q0i (q1K r)) (hD0:∀ k,N0≤k→D k) (hf:Fr D w) :
  Calls Tryz.prog 61 #[.slice (some ⟨g,0,none⟩) n n,.int .i64 i] w (Rt (fV (q1K r)) D w):=by
 obtain ⟨A,m,c,_,hin,hcell,hrow⟩:=hS.get hr hD0;have hm:=hrow.sl_len;refine q0I Tryz.func61 rfl Tryz.ntmps61 (by kernel_rfl) ?_;refine q0A fun K hK=>?_;refine Zz ?_;refine q0m ?_;intro g4 w4 hg4 hx4 hb4 hs4;refine hK _ _ ?_; clear hK K;have hx:Ext w w4:=hx4;replace hrow:=(hrow.nL (L:=[g4]) (by intro g hg; simp at hg; omega)).ext hx;have hD:Fr (Dl D [g4]) w4:=hf.nL hx (by intro g hg; simp at hg; omega);clear hx4;have hcell':w4.cell? ⟨g,i,none⟩=some (.slice A m c):=hx.cell (D:=fun _=>True) trivial hcell;have e1:(0:Int)≤i∧(i:Int) < n:=by omega
 refine q0A fun K hK=>?_;refine Zz2 e1 hcell' ?_;refine Cr qiN (qpX (hT.ext hx) hrow Oq ho hv hD) fun v5 w5 hx5 h5=>?_;replace hrow:=hrow.ext hx5;replace hb4:=hb4.ext hx5;replace hD:=hD.kp hx5;replace hx:=hx.trans hx5;clear hx5;refine q1W hb4 qb8 rfl (qeO h5) fun w90 hk90 hb90=>?_;refine hK _ _ ?_; clear hK;refine q0N ?_
 try simp only [q0D,q0O]
 exact qaQ rfl Rf qdp hb90 (qeO h5) (Rt.fin hx h5 hk90 (by simp) Oq)
end
theorem q9z {α:Type} {G:α→Fam} {T sz B n c:Nat} {A:Option Addr} {w:World} {D D':Nat→Prop} {l:List α} (h:q36 G T sz w D B A n c l) (h1:∀ k,k < w.heap.size→D k→nb A k→D' k):q36 G T sz w D' B A n c l:=by
 obtain ⟨vs,a1,a2,a3⟩:=h;exact ⟨vs,a1,a2.sub fun k hk hd=>⟨h1 k hk hd.1 hd.2,hd.2⟩,a3⟩
section
variable {D:Nat→Prop} {L:List Nat} {N0 g n i:Nat} {rows:List (List Int)} {ss:List (Option Addr × Nat × Nat)} {w w2 w3:World} {A A':Option Addr} {m c m' c':Nat} {r r':List Int}
theorem q1Y {α:Type} {l:List α} {i j:Nat} {x y:α} (hj:(l.set i x)[j]?=some y):(i=j∧y=x∧i < l.length)∨(i≠j∧l[j]?=some y):=by
 by_cases h:i=j
 ·subst h
  rcases Nat.lt_or_ge i l.length with h1 | h1
  ·rw [List.getElem?_set_self h1] at hj;exact .inl ⟨rfl,(Option.some.inj hj).symm,h1⟩
  ·rw [List.getElem?_eq_none (by simpa using h1)] at hj; cases hj
 ·rw [List.getElem?_set_ne h] at hj;exact .inr ⟨h,hj⟩
theorem Sums.push (h:Sums w D L N0 g n rows ss) (hs:ss[i]?=some (A,m,c)) (hO:q36 fV 74 4 w2 (Dl D L) N0 A' m' c' r') (hk:Kp (nb A) w w2) (hat:A'=A∨∃ g',w.heap.size≤g'∧A'=some ⟨g',0,none⟩)
  (ho:Own w3 N0 125 1 (some ⟨g,0,none⟩) n n ((ss.set i (A',m',c')).map slv)) (hk3:Kp (fun k=>k≠g) w2 w3) (hs3:w3.heap.size=w2.heap.size) :
  ∃ L',(∀ k ∈ L,k ∈ L')∧(∀ k ∈ L',k ∈ L∨w.heap.size≤k)∧Sums w3 D L' N0 g n (rows.set i r') (ss.set i (A',m',c')):=by
 have hgs:=h.hi g h.gL;have hgl:=h.lo g h.gL;have hsz:=hk.size;have hnA:∀ k,k ∉ L→nb A k:=fun k hk a ha he=>hk (by have:=(h.mem i _ a hs ha).1; rw [he] at this; exact this);have hother:∀ (j:Nat) (s:Option Addr × Nat × Nat) (q:List Int),i≠j→ss[j]?=some s→rows[j]?=some q→q36 fV 74 4 w3 (Dl D L) N0 s.1 s.2.1 s.2.2 q:=fun j s q hij hsj hq=>by
  refine ((h.row j s q hsj hq).kp hk (fun k hd=>hnA k hd.2) fun a ha b hb=>?_).kp hk3 (fun k hd e=>hd.2 (e ▸ h.gL)) fun a ha=>(h.mem j s a hsj ha).2;exact h.ne i j _ s b a hij hs hsj hb ha
 rcases hat with rfl | ⟨g',hg',rfl⟩
 ·refine ⟨L,fun k hk=>hk,fun k hk=>.inl hk,ho,by simpa using h.len,fun j s q hsj hq=>?_,fun j s a hsj ha=>?_,fun j k s t a b hjk hsj htk ha hb=>?_,h.gL,h.lo,fun k hk=>by have:=h.hi k hk; omega⟩
  ·rcases q1Y hsj with ⟨rfl,rfl,hlt⟩ | ⟨hne,hsj⟩
   ·rcases q1Y hq with ⟨_,rfl,_⟩ | ⟨hne,_⟩
    ·exact hO.kp hk3 (fun k hd e=>hd.2 (e ▸ h.gL)) fun a ha=>(h.mem i _ a hs ha).2
    ·exact absurd rfl hne
   ·rcases q1Y hq with ⟨rfl,_,_⟩ | ⟨_,hq⟩
    ·exact absurd rfl hne
    ·exact hother j s q hne hsj hq
  ·rcases q1Y hsj with ⟨rfl,rfl,hlt⟩ | ⟨hne,hsj⟩
   ·exact h.mem i _ a hs ha
   ·exact h.mem j s a hsj ha
  ·rcases q1Y hsj with ⟨rfl,rfl,hlt⟩ | ⟨hne,hsj⟩ <;> rcases q1Y htk with ⟨rfl,rfl,hlt2⟩ | ⟨hne2,htk⟩
   ·exact absurd rfl hjk
   ·exact h.ne i k _ t a b hjk hs htk ha hb
   ·exact h.ne j i s _ a b hjk hsj hs ha hb
   ·exact h.ne j k s t a b hjk hsj htk ha hb
 ·have hlt':=hO.blk_lt _ rfl;simp only at hlt';refine ⟨g' :: L,fun k hk=>List.mem_cons_of_mem _ hk,fun k hk=>?_,ho,by simpa using h.len,fun j s q hsj hq=>?_,fun j s a hsj ha=>?_,fun j k s t a b hjk hsj htk ha hb=>?_,List.mem_cons_of_mem _ h.gL,fun k hk=>?_,fun k hk=>?_⟩
  ·rcases List.mem_cons.1 hk with rfl | hk
   ·exact .inr hg'
   ·exact .inl hk
  ·rcases q1Y hsj with ⟨rfl,rfl,hlt⟩ | ⟨hne,hsj⟩
   ·rcases q1Y hq with ⟨_,rfl,_⟩ | ⟨hne,_⟩
    ·have h1:q36 fV 74 4 w3 (Dl D L) N0 (some ⟨g',0,none⟩) m' c' q:=hO.kp hk3 (fun k hd e=>hd.2 (e ▸ h.gL)) fun a ha=>by cases ha; simp only; omega
     refine q9z h1 fun k _ hd hn=>⟨hd.1,fun hm=>?_⟩
     rcases List.mem_cons.1 hm with e | hm
     ·exact hn _ rfl e.symm
     ·exact hd.2 hm
    ·exact absurd rfl hne
   ·rcases q1Y hq with ⟨rfl,_,_⟩ | ⟨_,hq⟩
    ·exact absurd rfl hne
    ·have h1:q36 fV 74 4 w (Dl D (g' :: L)) N0 s.1 s.2.1 s.2.2 q:=q9z (h.row j s q hsj hq) fun k hk hd _=>⟨hd.1,fun hm=>by
      rcases List.mem_cons.1 hm with e | hm
      ·omega
      ·exact hd.2 hm⟩
     refine (h1.kp hk (fun k hd=>hnA k fun hm=>hd.2 (List.mem_cons_of_mem _ hm)) fun a ha b hb=>?_).kp hk3 (fun k hd e=>hd.2 (List.mem_cons_of_mem _ (e ▸ h.gL))) fun a ha=>(h.mem j s a hsj ha).2;exact h.ne i j _ s b a hne hs hsj hb ha
  ·rcases q1Y hsj with ⟨rfl,rfl,hlt⟩ | ⟨hne,hsj⟩
   ·cases ha;exact ⟨List.mem_cons_self,by simp only; omega⟩
   ·obtain ⟨h1,h2⟩:=h.mem j s a hsj ha;exact ⟨List.mem_cons_of_mem _ h1,h2⟩
  ·rcases q1Y hsj with ⟨rfl,rfl,hlt⟩ | ⟨hne,hsj⟩ <;> rcases q1Y htk with ⟨rfl,rfl,hlt2⟩ | ⟨hne2,htk⟩
   ·exact absurd rfl hjk
   ·cases ha;have:=h.hi _ (h.mem k t b htk hb).1;simp only; omega
   ·cases hb;have:=h.hi _ (h.mem j s a hsj ha).1;simp only; omega
   ·exact h.ne j k s t a b hjk hsj htk ha hb
  ·rcases List.mem_cons.1 hk with rfl | hk
   ·omega
   ·exact h.lo k hk
  ·rcases List.mem_cons.1 hk with rfl | hk
   ·omega
   ·have:=h.hi k hk; omega
end
theorem appV {w:World} {ty B n c g2:Nat} {A:Option Addr} {D:Nat→Prop} {l:List Int} {V:Int} {v:Value} (hO:q36 fV 74 4 w D B A n c l) (hv:In (fV V) (fun k=>D k∧nb A k) v w) (hb2:Blk w g2 74 v.cells) (hn:n≤1000000000) (hb:B≤w.heap.size) {K:Value→World→Prop}
  (hK:∀ A' c' w',q36 fV 74 4 w' D B A' (n+1) c' (l ++ [V])→Kp (nb A) w w'→(A'=A∨∃ g,w.heap.size≤g∧A'=some ⟨g,0,none⟩)→K (.slice A' (n+1) c') w') :
  qeP Tryz.prog #[125,125] ty [.slice A n c,.slice (some ⟨g2,0,none⟩) 1 1] w K:=by
 obtain ⟨vs,h1,h2,h3⟩:=hO;have hc:=(qeO hv).cel;have hr:Row w (fun _=>True) 4 (some ⟨g2,0,none⟩) 1 1 v.cells.toList:=⟨Nat.le_refl _,by rw [Array.length_toList,hc.1],fun _=>⟨⟨g2,0,none⟩,rfl,trivial,fun j u hu=>by rw [q02,Nat.zero_add,hb2.cell]; simpa using hu⟩⟩;refine q6i qdL rfl Oq h1 hr (fun u hu=>List.all_eq_true.1 hc.2 u hu) Oq hb fun A' c' w' ho hk hat=>?_;have hat':A'=A∨∃ g,w.heap.size≤g∧A'=some ⟨g,0,none⟩:=hat.imp id fun h=>⟨_,Nat.le_refl _,h⟩;refine hK A' c' w' ⟨vs ++ [v],by rw [qcy]; exact ho,?_,by simp [h3]⟩ hk hat';have hs:=h2.snoc hv hc;exact ⟨hs.len,fun i y hy=>by
  obtain ⟨u,a,b,c⟩:=hs.get i y hy;exact ⟨u,a,b.grew hk hat',c⟩⟩
section
variable {D:Nat→Prop} {L:List Nat} {N0 g n i:Nat} {rows:List (List Int)} {ss:List (Option Addr × Nat × Nat)} {w w2 w3:World} {r:List Int} {x y:Nat} {a b V:Int}
theorem q5B (hT:q2a w) (hS:Sums w D L N0 g n rows ss) (hr0:rows[i]?=some r) (hx0:x < 18446744073709551616) (hy0:y < 18446744073709551616) (hxa:ofF x=some a) (hyb:ofF y=some b) (hV:mkV (a*b) (-131072)=some V) (hl:r.length≤1000000) (hf:Fr D w) :
  Calls Tryz.prog 64 #[.slice (some ⟨g,0,none⟩) n n,.int .i64 i,.int .u64 x,.int .u64 y] w fun e w'=>e=.returned (.tuple #[])∧Kp (fun k=>k ∉ L) w w'∧∃ L' ss',(∀ k ∈ L,k ∈ L')∧(∀ k ∈ L',k ∈ L∨w.heap.size≤k)∧Sums w' D L' N0 g n (rows.set i (r ++ [-V])) ss':=by
 obtain ⟨A,m,c,hss,hin,hcell,hrow⟩:=(hS.sub (D':=fun _=>True) fun _ _ _=>trivial).get hr0 fun _ _=>trivial;have hm:=hrow.sl_len;have e1:(0:Int)≤i∧(i:Int) < n:=by omega
 have hOi:=hS.row i _ r hss hr0;have hD:Fr (Dl D L) w:=fun k hk=>⟨hf k hk,fun hm=>by have:=hS.hi k hm; omega⟩;obtain ⟨X,hX1,hX2,hX3⟩:∃ X:List Nat,(∀ k,k ∉ X→nb A k)∧(∀ k ∈ X,k ∈ L∧k≠g)∧(∀ k,nb A k→k ∉ X):=by
  cases A with
  | none=>exact ⟨[],fun k _ a ha=>(by cases ha),fun k hk=>(by simp at hk),fun k _=>(by simp)⟩
  | some ad =>
   refine ⟨[ad.block],fun k hk a ha=>(by cases ha; simp at hk; exact fun e=>hk e.symm),fun k hk=>?_,fun k hk=>?_⟩
   ·simp at hk; subst hk; exact hS.mem i _ ad hss rfl
   ·simp; exact fun e=>hk ad rfl e.symm
 have hg0:g ∉ X:=fun h=>(hX2 g h).2 rfl;refine q0I Tryz.func64 rfl Tryz.ntmps64 (by kernel_rfl) ?_;have hx:Ext w w:=Kp.refl _ _;refine q8l q0k (Kp (fun k=>k ∉ X)) (fun _ _=>False) (Kp.pre _) [true,true,true,true,true,true,true,false,true,false,false,false,false,false,false,false] [false,false,false,false,false,false,false,false,false,false,false,false,false,false,false,false] [1,1,1,1,1,1,1,0,1,0,0,0,0,0,1,1] (by kernel_rfl) ?_
 apply Exists.intro
 refine ⟨fun wE hE KE hKE=>?_,fun wE hE KE hKE=>?_,fun wE hxE hr=>?_⟩
 ·have hcellE:=hE.cell (D:=fun k=>k ∉ X) (w':=wE) (by exact hg0) hcell;refine Zz2 e1 hcellE ?_;exact hKE
 ·exact hE.elim
 simp only [q1h,q1j,q1i];have hcellE:=hxE.cell (D:=fun _=>True) trivial hcell;have hnA:∀ k,k ∉ L→nb A k:=fun k hk a ha he=>hk (by have:=(hS.mem i _ a hss ha).1; rw [he] at this; exact this);simp -implicitDefEqProofs (disch:=omega) only [go_sem,Nat.reduceEqDiff,Nat.reduceAdd,↓reduceIte,List.toList_toArray,e1,hcellE];refine q0F qaj (qdF (hT.ext hxE) hx0 hxa (hD.kp hxE)) ?_;rintro _ w7 ⟨v7,rfl,hx7,h7⟩; refine ⟨_,rfl,⟨hr.trans (Kp.of_ext hx7),?_⟩⟩;have hy7:=hxE.trans hx7;refine q0F qaj (qdF (hT.ext hy7) hy0 hyb (hD.kp hy7)) ?_;rintro _ w9 ⟨v9,rfl,hx9,h9⟩; refine ⟨_,rfl,⟨(hr.trans (Kp.of_ext hx7)).trans (Kp.of_ext hx9),?_⟩⟩;have hy9:=hy7.trans hx9;refine q0F qiK (qpZ (hT.ext hy9) (h7.ext hx9) h9 hV (hD.kp hy9)) ?_;rintro _ w10 ⟨v10,rfl,hx10,h10⟩; refine ⟨_,rfl,⟨((hr.trans (Kp.of_ext hx7)).trans (Kp.of_ext hx9)).trans (Kp.of_ext hx10),?_⟩⟩;have hy10:=hy9.trans hx10;refine q0F qiL (qpY (hT.ext hy10) h10 (hD.kp hy10)) ?_;rintro _ w11 ⟨v11,rfl,hx11,h11⟩; refine ⟨_,rfl,⟨(((hr.trans (Kp.of_ext hx7)).trans (Kp.of_ext hx9)).trans (Kp.of_ext hx10)).trans (Kp.of_ext hx11),?_⟩⟩;have hy11:=hy10.trans hx11;obtain ⟨s0,A0,n0,c0,rfl,_⟩:=id h11;rw [qpn];refine q3L fun w12 hx12 hb12 hs12=>⟨((((hr.trans (Kp.of_ext hx7)).trans (Kp.of_ext hx9)).trans (Kp.of_ext hx10)).trans (Kp.of_ext hx11)).trans (Kp.of_ext hx12),?_⟩;have hy12:=hy11.trans hx12;have hr12:=((((hr.trans (Kp.of_ext hx7)).trans (Kp.of_ext hx9)).trans (Kp.of_ext hx10)).trans (Kp.of_ext hx11)).trans (Kp.of_ext hx12);have hS12:=hS.ext hy12;have hO12:q36 fV 74 4 w12 (Dl D L) N0 A m c r:=hS12.row i _ r hss hr0;have h12:=h11.ext hx12;refine appV hO12 (h12.sub fun k _ hd=>⟨hd,hnA k hd.2⟩) hb12 Oq (by have:=hS.lo g hS.gL; have:=hS.hi g hS.gL; have:=hy12.size; omega) fun A' c' w13 hO13 hk13 hat=>⟨hr12.trans (hk13.mono fun k _ hk=>hX1 k hk),?_⟩;have hown:Own w13 N0 125 1 (some ⟨g,0,none⟩) n n (ss.map slv):=hS12.own.kp hk13 fun a ha b hb=>by
  cases ha;exact (hS.mem i _ b hss hb).2
 refine q9F hown hin qb9 rfl rfl fun w14 hO14 hk14 hs14=>?_;have hO14':Own w14 N0 125 1 (some ⟨g,0,none⟩) n n ((ss.set i (A',m+1,c')).map slv):=by rw [List.map_set]; exact hO14
 obtain ⟨L',g1,g2,g3⟩:=hS12.push hss hO13 hk13 hat hO14' hk14 hs14;refine ret0n rfl ⟨rfl,?_,L',_,g1,fun k hk=>?_,g3⟩
 ·exact ((hy12.mono fun _ _ _=>trivial).trans (hk13.mono fun k _ hk=>hnA k hk)).trans (hk14.mono fun k _ hk e=>hk (e ▸ hS.gL))
 ·rcases g2 k hk with h | h
  ·exact .inl h
  ·exact .inr (Nat.le_trans hy12.size h)
end
theorem newRow {w1 w2:World} {D:Nat→Prop} {N0:Nat} {V:Int} {v:Value} (hb:Blk w2 w1.heap.size 74 v.cells) (hv:In (fV V) (fun k=>D k∧nb (some ⟨w1.heap.size,0,none⟩) k) v w2) (hN:N0≤w1.heap.size):q36 fV 74 4 w2 D N0 (some ⟨w1.heap.size,0,none⟩) 1 1 [V]:=by
 have hc:=(qeO hv).cel;have h1:=Own.made (w:=w2) (w':=w1) (B:=N0) (sz:=4) (n:=1) (c:=1) hb (Nat.le_refl _) (by simp [maxLen]) (by rw [hc.1]) hN;refine ⟨[v],?_,by simpa using (Els.nil (G:=fV) (sz:=4)).snoc hv hc,rfl⟩;have:v.cells.toList.take (1*4)=q0b [v]:=by
  rw [List.take_of_length_le (by rw [Array.length_toList,hc.1]; omega)]; simp [q0b]
 rw [← this]; exact h1
def q6O (vals:List Int) (i n:Nat):List (List Int):=(vals.take i).map (fun V=>[V]) ++ List.replicate (n-i) []
theorem qbt {vals:List Int} {i n:Nat} {V:Int} (hV:vals[i]?=some V) (hn:vals.length=n):(q6O vals i n).set i [V]=q6O vals (i+1) n:=by
 obtain ⟨hlt,he⟩:=List.getElem?_eq_some_iff.1 hV;unfold q6O;rw [List.take_succ_eq_append_getElem hlt,he,List.map_append,show n-i=(n-(i+1))+1 by omega,List.replicate_succ,List.set_append_right _ _ (by simp; omega)];simp [Nat.min_eq_left (Nat.le_of_lt hlt)]
theorem q9t {D:Nat→Prop} {A:Option Addr} {n c:Nat} {l:List Nat} {vals:List Int} {w:World} (hT:q2a w) (h:In (fSc q2S l) D (.slice A n c) w) (hl:vals.length=l.length) (hn:n≤1000000) (hv:∀ (i x:Nat),l[i]?=some x→x < 18446744073709551616∧∃ V,vals[i]?=some V∧ofF x=some V) (hf:Fr D w) :
  Calls Tryz.prog 59 #[.slice A n c] w fun e w'=>e=.returned (.slice (some ⟨w.heap.size,0,none⟩) n n)∧Ext w w'∧∃ L ss,Sums w' D L w.heap.size w.heap.size n (vals.map fun V=>[V]) ss:=by
 have hln:=h.sc_len;refine q0I Tryz.func59 rfl Tryz.ntmps59 (by kernel_rfl) ?_;refine Wz ?_;refine q0A fun K hK=>?_;refine Zz ?_;refine q5I (Nat.le_refl _) Oq (by unfold maxLen; omega) fun w0 hx0 hO0 hs0=>?_;generalize hg:w.heap.size=g at hO0;refine hK _ _ ?_; clear hK;refine q0B fun K0 hK0=>?_;refine Wz ?_;have hS0:Sums w0 D [g] g g n (q6O vals 0 n) (List.replicate n (none,0,0)):=by
  refine ⟨by simpa [slv] using hO0,by simp [q6O],?_,?_,?_,by simp,?_,?_⟩
  ·intro i s r hs hr;rw [List.getElem?_replicate] at hs;simp only [q6O,List.take_zero,List.map_nil,List.nil_append,List.getElem?_replicate] at hr
   split at hs
   ·split at hr
    ·cases hs;cases hr;exact q36.nil
    ·cases hr
   ·cases hs
  ·intro i s a hs ha;rw [List.getElem?_replicate] at hs
   split at hs
   ·cases hs;cases ha
   ·cases hs
  ·intro i j s t a b _ hs _ ha _;rw [List.getElem?_replicate] at hs
   split at hs
   ·cases hs;cases ha
   ·cases hs
  ·intro k hk;simp at hk;omega
  ·intro k hk;simp at hk;omega
 refine q01 ?_;refine q09 (fun e2 w'=>∃ (i:Nat) (L:List Nat) (ss:List (Option Addr × Nat × Nat)),e2 11=.int .i64 i∧i≤n∧Ext w w'∧Sums w' D L g g n (q6O vals i n) ss∧∀ j,i≤j→j < n→ss[j]?=some (none,0,0)) (fun e2 _=>n-(RowKit.intOf (e2 11)).toNat) ⟨0,_,_,rfl,Nat.zero_le _,hx0,hS0,fun j _ hj=>by rw [List.getElem?_replicate,if_pos hj]⟩ ?_;rintro e1 w1 ⟨i,L,ss,k11,hi,hx,hS,hss⟩ hkk;have k3:e1 3=.slice (some ⟨g,0,none⟩) n n:=(hkk 3 (by kernel_rfl)).trans Ue;have k9:e1 9=.slice A n c:=(hkk 9 (by kernel_rfl)).trans Ue;have k10:e1 10=.int .i64 n:=(hkk 10 (by kernel_rfl)).trans Ue;clear hkk
 by_cases hlt:i < n
 ·have hlt':(i:Int) < n:=by omega
  refine Wz3 k11 k10 hlt' ?_;refine q0B fun K1 hK1=>?_;refine Wt (q0H (hK1 _ _ ?_));clear hK1;refine q0M fun K hK=>?_;obtain ⟨x,hxi⟩:∃ x,l[i]?=some x:=⟨_,List.getElem?_eq_getElem Oq⟩;obtain ⟨hx1,V,hV1,hV2⟩:=hv i x hxi;obtain ⟨ad,rfl,i1,x1⟩:=(h.ext hx).ixU hxi;have hD:Fr (Dl D L) w1:=fun k hk=>⟨hf k (Nat.le_trans hx.size hk),fun hm=>by have:=hS.hi k hm; omega⟩;refine Wz4 k9 k11 i1 x1 ?_;refine q0Q fun K9 hK9=>?_;refine Zz2 k3 i1 ?_;refine Cr qaj (qdF (hT.ext hx) hx1 hV2 hD) fun v5 w5 hx5 h5=>?_;obtain ⟨s0,A0,n0,c0,rfl,_⟩:=id h5;simp -implicitDefEqProofs (disch:=omega) only [go_sem,Nat.reduceEqDiff,Nat.reduceAdd,↓reduceIte,qpn];refine q3L fun w6 hx6 hb6 hs6=>?_;have hS5:=hS.ext hx5;have hg5:=hS5.hi g hS5.gL;have hOn:=newRow hb6 ((h5.sub (D':=fun k=>Dl D L k∧nb (some ⟨w5.heap.size,0,none⟩) k) fun k hk hd=>⟨hd,fun a ha e=>by cases ha; simp only at e; omega⟩).ext hx6) (Nat.le_of_lt hg5);have hsi:=hss i (Nat.le_refl _) hlt;refine q9F (hS5.ext hx6).own hlt qb9 rfl rfl fun w7 hO7 hk7 hs7=>?_;refine hK9 _ _ ?_; clear hK9;have hO7':Own w7 g 125 1 (some ⟨g,0,none⟩) n n ((ss.set i (some ⟨w5.heap.size,0,none⟩,1,1)).map slv):=by rw [List.map_set]; exact hO7
  obtain ⟨L',g1,g2,g3⟩:=hS5.push hsi hOn (Kp.of_ext hx6) (.inr ⟨_,Nat.le_refl _,rfl⟩) hO7' hk7 hs7;rw [qbt hV1 (by omega)] at g3;refine hK _ _ ?_; clear hK;refine q0Q fun K9 hK9=>?_;refine Zz2 k11 @i64_in ?_;refine hK9 _ _ ?_; clear hK9 K9;refine ⟨⟨i+1,L',_,rfl,by omega,((hx.trans hx5).trans hx6).under hk7 fun k hk=>by omega,g3,fun j hj1 hj2=>?_⟩,by simp only [q0E,↓reduceIte,RowKit.intOf,k11]; omega⟩;rw [List.getElem?_set_ne (by omega)]; exact hss j Oq hj2
 ·have hlt':¬ (i:Int) < n:=by omega
  refine Wz3 k11 k10 hlt' ?_;refine q0B fun K1 hK1=>?_;refine Wf (q03 (hK0 _ _ ?_));obtain rfl:i=n:=by omega
  have hr:q6O vals i i=vals.map fun V=>[V]:=by
   unfold q6O; rw [List.take_of_length_le Oq,Nat.sub_self]; simp
  rw [hr] at hS;refine Wz1 k3 ?_;refine q0N ?_
  try simp only [q0D,q0O]
  refine q1F rfl ⟨by simp only [q0E,Nat.reduceEqDiff,↓reduceIte,hg],hx,L,ss,by rw [hg]; exact hS⟩
end Go.Proofs.YtbcmhlhgljoolaaGreatDoor
namespace Go.Sp
open Go Go.E
end Go.Sp
namespace Go.Proofs.YtbcmhlhgljoolaaGreatDoor
open Go.Sp
end Go.Proofs.YtbcmhlhgljoolaaGreatDoor
namespace Go.Sp
open Go Go.E
def ofZ (x:Nat):Int:=(ofF x).getD 0
def q1U (x y:Nat):Int:=(mkV (ofZ x*ofZ y) (-131072)).getD 0
theorem q4l {f:Nat} (hf:q0V f):∃ (m:Int) (k:Nat),ofF f=some (m*(2:Int) ^ k)∧bl m.natAbs≤53∧64462≤k∧k≤66507:=by
 unfold q0V at hf;have hx:=Nat.mod_lt (f / 4503599627370496) (show 0 < 2048 by omega);have hm:=Nat.mod_lt f (show 0 < 4503599627370496 by omega);unfold ofF;rw [if_neg hf];generalize f / 4503599627370496 % 2048=x at *;generalize f % 4503599627370496=m at *;have h53:∀ n:Nat,n < 9007199254740992→bl n≤53:=fun n h=>q0Y (Nat.lt_of_lt_of_le h (Nat.le_refl _))
 split
 ·exact ⟨_,64462,rfl,by rw [q1Q]; exact h53 _ Oq,by omega,by omega⟩
 ·exact ⟨_,64461+x,rfl,by rw [q1Q]; exact h53 _ Oq,by omega,by omega⟩
theorem q1I {f:Nat} {V:Int} (h:ofF f=some V):ofZ f=V:=by unfold ofZ; rw [h]; rfl
theorem q0h {f:Nat} (hf:q0V f):ofF f=some (ofZ f):=by
 obtain ⟨m,k,h,_⟩:=q4l hf;rw [q1I h,h]
theorem q7N {f:Nat} (hf:q0V f):bl (ofZ f).natAbs≤67600:=by
 obtain ⟨m,k,h,h1,h2,h3⟩:=q4l hf;rw [q1I h]
 by_cases hm:m=0
 ·subst hm; rw [Int.zero_mul]; simp [q1a]
 ·rw [q0R,q27 (by omega)]; omega
theorem q0w {x y:Nat} (hx:q0V x) (hy:q0V y):mkV (ofZ x*ofZ y) (-131072)=some (q1U x y)∧bl (q1U x y).natAbs≤67600:=by
 obtain ⟨m,k,h,h1,h2,h3⟩:=q4l hx;obtain ⟨m',k',h',h1',h2',h3'⟩:=q4l hy;have e:ofZ x*ofZ y=m*m'*(2:Int) ^ (k+k'):=by
  rw [q1I h,q1I h',Int.pow_add];simp only [Int.mul_assoc,Int.mul_left_comm,Int.mul_comm]
 unfold q1U;rw [e,q2l]
 by_cases hM:m*m'=0
 ·rw [hM,q1x]; exact ⟨rfl,by simp [q1a]⟩
 ·have hb:bl (m*m').natAbs≤106:=by
   rw [Int.natAbs_mul];exact Nat.le_trans (q2P _ _) Oq
  generalize m*m'=M at *;have ht:=qe7 (n:=M.natAbs) Oq;unfold mkV;rw [if_neg hM,if_pos (by omega)];refine ⟨rfl,?_⟩;have ho:=q88 hM;have hne:=q4G hM;rw [Option.getD_some,q0R,q27 (by omega)];omega
end Go.Sp
namespace Go.Proofs.YtbcmhlhgljoolaaGreatDoor
open Go Go.E Go.Sp
def qb1 (f:Fac) (q:Nat):Nat→Nat→List (List Int)→List (List Int)
 | _,0,rows=>rows
 | p,c+1,rows=>qb1 f q (p+1) c (rows.set (f.ri.getD p 0).toNat (rows.getD (f.ri.getD p 0).toNat [] ++ [-(q1U (f.vs.getD p 0) q)]))
def qeN (f:Fac):List Int→List (List Int)→List Nat→Option (List Nat)
 | [],_,ys=>some ys
 | k :: ks,rows,ys =>
  if q0V (fQ 0 (q1K (rows.getD k.toNat [])) (ofZ (f.vs.getD (f.cp.getD k.toNat 0).toNat 0))) then
   qeN f ks (qb1 f (fQ 0 (q1K (rows.getD k.toNat [])) (ofZ (f.vs.getD (f.cp.getD k.toNat 0).toNat 0))) ((f.cp.getD k.toNat 0).toNat+1) ((f.cp.getD (k.toNat+1) 0).toNat-((f.cp.getD k.toNat 0).toNat+1)) rows) (ys.set k.toNat (fQ 0 (q1K (rows.getD k.toNat [])) (ofZ (f.vs.getD (f.cp.getD k.toNat 0).toNat 0))))
  else none
theorem getD_some {α:Type} {l:List α} {i:Nat} {x d:α} (h:l[i]?=some x):l.getD i d=x:=by rw [List.getD_eq_getElem?_getD,h]; rfl
theorem q7Z {f:Fac} {k a b x:Nat} {ks:List Int} {rows:List (List Int)} {ys:List Nat} {r:List Int} (ha:f.cp[k]?=some (a:Int)) (hb:f.cp[k+1]?=some (b:Int)) (hx:f.vs[a]?=some x) (hr:rows[k]?=some r) :
  qeN f ((k:Int) :: ks) rows ys=if q0V (fQ 0 (q1K r) (ofZ x)) then qeN f ks (qb1 f (fQ 0 (q1K r) (ofZ x)) (a+1) (b-(a+1)) rows) (ys.set k (fQ 0 (q1K r) (ofZ x))) else none:=by
 rw [qeN,show ((k:Int)).toNat=k by omega,getD_some ha,getD_some hb,getD_some hr,show ((a:Int)).toNat=a by omega,show ((b:Int)).toNat=b by omega,getD_some hx]
theorem q7D {f:Fac} {q p c i x:Nat} {rows:List (List Int)} {r:List Int} (hi:f.ri[p]?=some (i:Int)) (hx:f.vs[p]?=some x) (hr:rows[i]?=some r) :
  qb1 f q p (c+1) rows=qb1 f q (p+1) c (rows.set i (r ++ [-(q1U x q)])):=by
 show qb1 f q (p+1) c _=_
 rw [getD_some hi,show ((i:Int)).toNat=i by omega,getD_some hx,getD_some hr]
theorem q9E {f:Fac} {q:Nat}:∀ (c p:Nat) (rows:List (List Int)),(qb1 f q p c rows).length=rows.length
 | 0,_,_=>rfl
 | c+1,p,rows=>by
  show (qb1 f q (p+1) c _).length=_
  rw [q9E]; simp
theorem Col.mono {f:Fac} {j a b:Nat} (h:Col f j a b):∀ (d p:Nat) (y z:Int),a≤p→p+d < b→f.ri[p]?=some y→f.ri[p+d]?=some z→(if d=0 then y=z else y < z)
 | 0,p,y,z,_,_,h1,h2=>by
  rw [if_pos rfl];rw [Nat.add_zero,h1] at h2; exact Option.some.inj h2
 | d+1,p,y,z,ha,hb,h1,h2=>by
  rw [if_neg (by omega)];obtain ⟨u,v,hu,hv,huv⟩:=h.inc (p+(d+1)) Oq hb;rw [h2] at hv;obtain rfl:=Option.some.inj hv;have:=h.mono d p y u ha Oq h1 (by rw [show p+d=p+(d+1)-1 by omega]; exact hu)
  split at this <;> omega
theorem Col.row {f:Fac} {j a b p:Nat} (h:Col f j a b) (hn:f.pm.length≤200) (h1:a < p) (h2:p < b):∃ i:Nat,f.ri[p]?=some (i:Int)∧j < i∧i < f.pm.length:=by
 have hle:=h.le;obtain ⟨z,hz⟩:∃ z,f.ri[p]?=some z:=⟨_,List.getElem?_eq_getElem Oq⟩;have m1:=h.mono (p-a) a j z (Nat.le_refl _) Oq h.first (by rw [show a+(p-a)=p by omega]; exact hz)
 rw [if_neg (by omega)] at m1;obtain ⟨l,hl,hlt⟩:=h.last;have m2:=h.mono (b-1-p) p z l Oq Oq hz (by rw [show p+(b-1-p)=b-1 by omega]; exact hl);have:z≤l:=by split at m2 <;> omega
 refine ⟨z.toNat,?_,by omega,by omega⟩;rw [hz]; congr 1; omega
def q2d (f:Fac) (x:Int):Nat→Nat→Nat
 | _,0=>0
 | a,k+1=>if f.ri[a]?=some x then f.vs.getD a 0 else q2d f x (a+1) k
theorem qci {l:List Nat} {i:Nat} (h:∀ x ∈ l,x < 18446744073709551616∧q0V x):l.getD i 0 < 18446744073709551616∧q0V (l.getD i 0):=by
 rw [List.getD_eq_getElem?_getD];cases hx:l[i]? with
 | none=>exact ⟨by simp,by unfold q0V; simp⟩
 | some x=>exact h x (List.mem_of_getElem? hx)
theorem qhO {x:Nat} {V:Int} (hx:x < 18446744073709551616) (hv:ofF x=some V):ACt 38 [uv x] (pV V):=qds qpi fun D w vs hT hF hR=>by
 obtain ⟨_,rfl,h3⟩:=qhN hR;rw [q6R h3];exact rOf_v hT hx hv hF
theorem clI {l:List Int}:ClL (l.map fun z=>iv z):=fun x hx=>by
 obtain ⟨e,_,rfl⟩:=List.mem_map.1 hx
 trivial

end Go.Proofs.YtbcmhlhgljoolaaGreatDoor
namespace Go.Sp
open Go Go.E
theorem q51 {a:Nat} (ha:a < 18446744073709551616):q0q .andNot .u64 (a:Int) 9223372036854775808=((a % 9223372036854775808:Nat):Int):=by
 have h2:(BitVec.ofInt 64 (a:Int) &&& ~~~(BitVec.ofInt 64 9223372036854775808)).toNat=a % 9223372036854775808:=by
  rw [show ~~~(BitVec.ofInt 64 9223372036854775808)=BitVec.ofNat 64 9223372036854775807 from rfl,q3r,BitVec.toNat_and,BitVec.toNat_ofNat,BitVec.toNat_ofNat,Nat.mod_eq_of_lt ha];exact Nat.and_two_pow_sub_one_eq_mod a 63
 show IntKind.u64.wrap ((BitVec.ofInt 64 (a:Int) &&& ~~~(BitVec.ofInt 64 9223372036854775808)).toNat:Int)=_
 rw [h2,q1D];omega
def q6n (f:Nat):Nat:=f % 9223372036854775808
def q5m (f:Nat):Nat:=if f < 9223372036854775808 then f+9223372036854775808 else f-9223372036854775808
def q93 (f:Nat):Int:=if 9223372036854775808≤f then -(q6n f:Int) else q6n f
def qm0 (a b:Int):Int:=if a < b then -1 else if b < a then 1 else 0
theorem q6m {f:Nat}:q6n f < 9223372036854775808:=Nat.mod_lt _ (by omega)
theorem q9y {f:Nat} (h:q0V f):q0V (q6n f):=by unfold q0V q6n at *; omega
theorem q91 {f:Nat} (h:q0V f):q61 f≠3:=by unfold q0V at h; unfold q61; rw [if_neg fun q=>h q.1,if_neg h]; split <;> omega
theorem qc6 {f:Nat} (hf:f < 18446744073709551616):q61 f=0 ↔ q6n f=0:=by
 unfold q61 q6n
 constructor
 ·intro h
  split at h
  ·cases h
  ·split at h
   ·cases h
   ·split at h
    ·omega
    ·cases h
 ·intro h;rw [if_neg (by omega),if_neg (by omega),if_pos (by omega)]
end Go.Sp
namespace Go.Proofs.YtbcmhlhgljoolaaGreatDoor
open Go Go.E Go.Sp
section
variable {f g:Nat}
theorem q65 (hf:f < 18446744073709551616):ACt 79 [uv f] (iv (q61 f:Nat)):=by
 have C1:=@q5S f hf;unfold q61;generalize f / 4503599627370496 % 2048=x at *;generalize f % 4503599627370496=m at *;refine ac0 Tryz.func79 Tryz.ntmps79 [.tmp 2] ?_
 by_cases hx2:x=2047
 ·by_cases hm0:m=0
  ·rw [if_neg (by simp [hm0]),if_pos hx2];exact wk1 (show ((2:Nat):Int)=2 from rfl) trivial
  ·rw [if_pos ⟨hx2,hm0⟩];exact wk1 (show ((3:Nat):Int)=3 from rfl) trivial
 ·rw [if_neg fun h=>hx2 h.1,if_neg hx2]
  by_cases hx0:x=0
  ·by_cases hm0:m=0
   ·rw [if_pos ⟨hx0,hm0⟩];exact wk1 (show ((0:Nat):Int)=0 from rfl) trivial
   ·rw [if_neg fun h=>hm0 h.2];exact wk1 (show ((1:Nat):Int)=1 from rfl) trivial
  ·rw [if_neg fun h=>hx0 h.1];exact wk1 (show ((1:Nat):Int)=1 from rfl) trivial
theorem qdH {l:List Nat} (hl:q1M l) (hn:l.length≤1000):ACt 201 [pF l] (bv false):=by
 refine ac0 Tryz.func201 Tryz.ntmps201 [.tmp 2] ?_;refine wk ?_;refine q0T (fun i=>i≤l.length) [5,6] [] Lk Lk (fun i:Nat=>[(7,iv i)]) (fun _=>[]) (fun i=>l.length-i) 0 (Nat.zero_le _) ?_ ?_
 ·refine LeM [] rfl rfl ?_;refine Zz ?_
  rfl
 ·intro i hi
  by_cases hlt:i < l.length
  ·obtain ⟨x,hx⟩:∃ x,l[i]?=some x:=⟨_,List.getElem?_eq_getElem hlt⟩;obtain ⟨h1,h2⟩:=hl x (List.mem_of_getElem? hx);have C1:=q65 h1;have q:(((q61 x:Nat):Int) == 3)=false:=by
    have:=q91 h2;simp; omega
   refine wk1 (x2 hx q) ?_;refine ⟨i+1,by omega,by omega,?_⟩;refine LeM [] rfl rfl ?_;refine Zz ?_;omega
  ·exact wk trivial
theorem q73 (hf:f < 18446744073709551616):ACt 202 [uv f] (iv (q93 f)):=by
 have C1:=@qdG f hf;have h1:=q51 hf;have h2:=q6m (f:=f);unfold q93;rw [show f % 9223372036854775808=q6n f from rfl] at h1;refine ac0 Tryz.func202 Tryz.ntmps202 [.tmp 2] ?_
 by_cases h:9223372036854775808≤f
 ·rw [if_pos h];rw [decide_eq_true h] at C1;exact wk1 (x2 h1 @Int.zero_sub) trivial
 ·rw [if_neg h];rw [decide_eq_false h] at C1;exact wk1 h1 trivial
theorem qke (hf:f < 18446744073709551616) (h:q0V f):ACt 140 [uv f] (uv (q6n f:Nat)):=by
 have C1:ACt 201 [.sl none [uv f]] (bv false):=qdH (l:=[f]) (fun x hx=>by simp at hx; subst hx; exact ⟨hf,h⟩) (by simp);have N1:Nz (bv false):=qoT;have h1:=q51 hf;rw [show f % 9223372036854775808=q6n f from rfl] at h1;refine ac0 Tryz.func140 Tryz.ntmps140 [.tmp 2] ?_;exact wk1 h1 trivial
theorem qkd (hf:f < 18446744073709551616) (h:q0V f) (hg:g < 18446744073709551616) (hgf:q0V g):ACt 139 [uv f,uv g] (.tu [iv (qm0 (q93 f) (q93 g)),bv true]):=by
 have C1:ACt 201 [.sl none [uv f,uv g]] (bv false):=qdH (l:=[f,g]) (fun x hx=>by simp at hx; rcases hx with rfl | rfl <;> exact ⟨by assumption,by assumption⟩) (by simp);have N1:Nz (bv false):=qoT;have C2:=q73 hf;have C3:=q73 hg;unfold qm0;generalize q93 f=x at *;generalize q93 g=y at *;refine ac0 Tryz.func139 Tryz.ntmps139 [.tmp 4,.tmp 5] ?_
 by_cases h1:x < y
 ·rw [if_pos h1];exact wk trivial
 ·rw [if_neg h1]
  by_cases h2:y < x
  ·rw [if_pos h2];exact wk trivial
  ·rw [if_neg h2];exact wk trivial
end


structure Aln (A B x y e:Int):Prop where
 e1 : -65536≤e
 e2:e≤65536
 a:x*(2:Int) ^ (e+65536).toNat=A
 b:y*(2:Int) ^ (e+65536).toNat=B
theorem qc1 {x V:Int} {k:Nat} (h:x*(2:Int) ^ k=V) (hv:q0i V):bl x.natAbs≤131072:=by
 subst h;unfold q0i at hv;rw [q0R] at hv
 by_cases h0:x.natAbs=0
 ·rw [h0]; simp [bl]
 ·rw [q27 h0] at hv; omega
theorem Aln.bl {A B x y e:Int} (h:Aln A B x y e) (ha:q0i A) (hb:q0i B):Sp.bl x.natAbs≤131072∧Sp.bl y.natAbs≤131072:=⟨qc1 h.a ha,qc1 h.b hb⟩
theorem qdj {a b:Int} {k:Nat} (ha:bl a.natAbs≤k) (hb:bl b.natAbs≤k):bl (a+b).natAbs≤k+1:=by
 have h1:=q2Q ha;have h2:=q2Q hb;exact qdh.2 (by rw [Nat.pow_succ]; omega)
theorem Aln.sgn {A B x y e:Int} (h:Aln A B x y e):(x-y).sign=(A-B).sign:=by
 rw [← h.a,← h.b,← Int.sub_mul,Int.sign_mul,Int.sign_eq_one_of_pos (q0c _),Int.mul_one]
theorem Aln.sum {A B x y e:Int} (h:Aln A B x y e) (ho:q0i (A+B)):mkV (x+y) e=some (A+B):=by
 rw [q4m h.e1 (V:=A+B) (by rw [Int.add_mul,h.a,h.b]),q2y ho]
section
variable {A B:Int}
theorem q7t (hA:q0i A) (hB:q0i B):∃ x y e,ACt 249 [dT A,dT B] (.tu [bT x,bT y,iv e])∧Aln A B x y e:=by
 obtain ⟨a1,a2,a3⟩:=q1N hA;obtain ⟨b1,b2,b3⟩:=q1N hB;have C1:=@q38;have key:∀ e:Int,e≤dyE A→e≤dyE B → -65536≤e→e≤65536→Aln A B (shI (od A) (dyE A-e)) (shI (od B) (dyE B-e)) e:=fun e h1 h2 h3 h4 =>
  ⟨h3,h4,by unfold shI; rw [if_pos (by omega)]; exact q8P h3 h1,by unfold shI; rw [if_pos (by omega)]; exact q8P h3 h2⟩
 obtain ⟨e,he⟩:∃ e,min (dyE A) (dyE B)=e:=⟨_,rfl⟩;refine ⟨_,_,e,?_,key e (by omega) (by omega) (by omega) (by omega)⟩;refine ac0 Tryz.func249 Tryz.ntmps249 [.cell 4 72,.cell 5 72,.tmp 6] ?_;exact wk1 he trivial
theorem qic (hA:q0i A) (hB:q0i B) (ho:q0i (A+B)):ACt 203 [dT A,dT B] (dT (A+B)):=by
 obtain ⟨x,y,e,C1,hL⟩:=q7t hA hB;obtain ⟨l1,l2⟩:=hL.bl hA hB;have C2:=qbB hA hB;have C3:=@q8X;have h1:=hL.e1;have h2:=hL.e2;have h3:=qdj l1 l2;have C4:=q4b (m:=x+y) (e:=e) rfl (by omega) (by omega) (by omega) (hL.sum ho);refine ac0 Tryz.func203 Tryz.ntmps203 [.cell 4 74] ?_;exact wk trivial
theorem qmf (hA:q0i A):ACt 184 [dT A] (reT (decide (od A < 0)) (od A).natAbs (dyE A) false):=by
 have C1:=@q8Y;have:=(q1N hA).2.2;refine ac0 Tryz.func184 Tryz.ntmps184 [.cell 2 155] ?_;exact wk trivial
theorem q72 (hA:q0i A):ACt 123 [dT A,iv 0] (uv (fR 0 A:Nat)):=by
 obtain ⟨hd1,hd2,hd3⟩:=q1N hA;have C1:=q5y hA;have C2:=q2U hA;have C3:=qmf hA;refine ac0 Tryz.func123 Tryz.ntmps123 [.tmp 4] ?_
 by_cases hz:A=0
 ·have q1:(A.sign == 0)=true:=by rw [hz]; rfl
  rw [show ((fR 0 A:Nat):Int)=0 by rw [show fR 0 A=0 from if_pos hz]; rfl];exact wk1 q1 trivial
 ·have q1:(A.sign == 0)=false:=by
   rw [beq_eq_false_iff_ne]; intro h; exact hz (Int.sign_eq_zero_iff_zero.1 h)
  have hod:=q4G hz;have C4:=q5R (N:=(od A).natAbs) (M:=1) (neg:=decide (od A < 0)) (e:=dyE A) Nat.one_pos (by omega) (by rw [Nat.mod_one]; intro h; exact absurd rfl h) (by rw [Nat.div_one]; omega) (by omega) (by omega);rw [Nat.div_one,Nat.mod_one,show decide ((0:Nat)≠0)=false from rfl,rE_V hz,q3W,show rF 0 (decide (A < 0)) A.natAbs (2 ^ 65536)=fR 0 A from (if_neg hz).symm] at C4;rw [← q3W] at C4;exact wk1 q1 trivial
theorem qj1:ACt 70 [pV A] (uv (fR 0 A:Nat)):=by
 have C1:=q7K (V:=A) (mode:=0);refine ac0 Tryz.func70 Tryz.ntmps70 [.tmp 2] ?_;exact wk trivial
end
def q3T (l:List Nat) (i:Nat):Nat:=(l.take i).foldl (fun b x=>max b (q6n x)) 0
theorem qhE {l:List Nat} {i x:Nat} (h:l[i]?=some x):q3T l (i+1)=max (q3T l i) (q6n x):=by
 obtain ⟨h1,h2⟩:=List.getElem?_eq_some_iff.1 h;unfold q3T;rw [List.take_succ_eq_append_getElem h1,List.foldl_append,h2]
 rfl
theorem q8F {l:List Nat} (hl:q1M l):∀ i,i≤l.length→q3T l i < 9223372036854775808∧q0V (q3T l i)
 | 0,_=>⟨by simp [q3T],by simp [q3T,q0V]⟩
 | i+1,hi=>by
  have ih:=q8F hl i (by omega);obtain ⟨x,hx⟩:∃ x,l[i]?=some x:=⟨_,List.getElem?_eq_getElem (by omega)⟩;rw [qhE hx];have:=(hl x (List.mem_of_getElem? hx)).2;have h1:=q6m (f:=x);have h2:=q9y this
  rcases Nat.le_total (q3T l i) (q6n x) with h | h
  ·rw [Nat.max_eq_right h]; exact ⟨h1,h2⟩
  ·rw [Nat.max_eq_left h]; exact ih
theorem q92 {f:Nat} (h:f < 9223372036854775808):q93 f=f:=by
 unfold q93 q6n;rw [if_neg (by omega),Nat.mod_eq_of_lt h]
theorem qgR {a b:Nat} (ha:a < 9223372036854775808) (hb:b < 9223372036854775808):(0 < qm0 (q93 a) (q93 b)→max b a=a)∧(¬ 0 < qm0 (q93 a) (q93 b)→max b a=b):=by
 rw [q92 ha,q92 hb];unfold qm0
 constructor
 ·intro h
  split at h
  ·omega
  ·split at h
   ·omega
   ·omega
 ·intro h
  split at h
  ·omega
  ·split at h
   ·omega
   ·omega
section
variable {l:List Nat}
theorem q94 (hl:q1M l) (hn:l.length≤1000000):ACt 78 [pF l] (uv (q3T l l.length:Nat)):=by
 have hs:=q8F hl;refine ac0 Tryz.func78 Tryz.ntmps78 [.tmp 2] ?_;refine wk ?_;refine q0T (fun i=>i≤l.length) [8,9] [] Lk Lk (fun i:Nat=>[(10,iv i),(3,uv (q3T l i:Nat))]) (fun _=>[]) (fun i=>l.length-i) 0 (Nat.zero_le _) ?_ ?_
 ·refine LeM [] rfl rfl ?_;refine Zz ?_;exact ⟨rfl,rfl⟩
 ·intro i hi
  by_cases hlt:i < l.length
  ·obtain ⟨x,hx⟩:∃ x,l[i]?=some x:=⟨_,List.getElem?_eq_getElem hlt⟩;obtain ⟨h1,h2⟩:=hl x (List.mem_of_getElem? hx);obtain ⟨h3,h4⟩:=hs i hi;have C1:=q65 h1;have q:(((q61 x:Nat):Int) == 3)=false:=by
    have:=q91 h2;simp; omega
   have C2:=qke h1 h2;have C3:=qkd (f:=q6n x) (g:=q3T l i) (by have:=q6m (f:=x); omega) (q9y h2) (by omega) h4;have hm:=qgR (q6m (f:=x)) h3;have es:=qhE hx;generalize qm0 (q93 (q6n x)) (q93 (q3T l i))=c at *
   by_cases hc:c > 0
   ·rw [hm.1 hc] at es;refine wk1 (x2 hx q) ?_;refine ⟨i+1,by omega,by omega,?_⟩;rw [es];refine LeM [] rfl rfl ?_;refine Zz ?_;omega
   ·rw [hm.2 hc] at es;refine wk1 (x2 hx q) ?_;refine ⟨i+1,by omega,by omega,?_⟩;rw [es];refine LeM [] rfl rfl ?_;refine Zz ?_;omega
  ·obtain rfl:i=l.length:=by omega
   exact wk trivial
end
end Go.Proofs.YtbcmhlhgljoolaaGreatDoor
namespace Go.Sp
open Go.E
def ixF (l:List Nat):Nat→Nat→Int
 | _,0 => -1
 | i,m+1=>if q0V (l.getD i 0) then ixF l (i+1) m else i
theorem qh4 {l:List Nat}:∀ (m i:Nat),0≤ixF l i m ↔ ∃ j,i≤j∧j < i+m∧¬ q0V (l.getD j 0)
 | 0,i=>by unfold ixF; exact ⟨fun h=>by omega,fun ⟨j,h1,h2,_⟩=>by omega⟩
 | m+1,i=>by
  unfold ixF
  by_cases h:q0V (l.getD i 0)
  ·rw [if_pos h,qh4 m (i+1)]
   constructor
   ·rintro ⟨j,h1,h2,h3⟩; exact ⟨j,by omega,by omega,h3⟩
   ·rintro ⟨j,h1,h2,h3⟩;refine ⟨j,?_,by omega,h3⟩
    rcases Nat.eq_or_lt_of_le h1 with e | e
    ·subst e; exact absurd h h3
    ·omega
  ·rw [if_neg h];exact ⟨fun _=>⟨i,Nat.le_refl _,by omega,h⟩,fun _=>by omega⟩
theorem qkB {l:List Nat}:decide (0≤ixF l 0 l.length)=!decide (∀ x ∈ l,q0V x):=by
 rw [← decide_not,decide_eq_decide,qh4]
 constructor
 ·rintro ⟨j,_,h2,h3⟩ h;have hj:j < l.length:=by omega
  rw [List.getD_eq_getElem?_getD,List.getElem?_eq_getElem hj] at h3;exact h3 (h _ (List.getElem_mem hj))
 ·intro h;refine Classical.byContradiction fun hn=>h fun x hx=>?_;obtain ⟨j,hj,rfl⟩:=List.getElem_of_mem hx;refine Classical.byContradiction fun hf=>hn ⟨j,Nat.zero_le _,by omega,?_⟩;rw [List.getD_eq_getElem?_getD,List.getElem?_eq_getElem hj];exact hf
end Go.Sp
namespace Go.Proofs.YtbcmhlhgljoolaaGreatDoor
open Go Go.E Go.Sp
section
variable {l:List Nat} {f:FuncId}
theorem pe_fn {s:Nat→PV}:pe s (.func f)=.vl (.func (.func f) #[] #[]):=rfl
attribute [go_sem] pe_fn
theorem q7W (hf:∀ x:Nat,x < 18446744073709551616→ACt f [uv x] (bv (!decide (q0V x)))) (hu:∀ x ∈ l,x < 18446744073709551616) (hn:l.length≤1000000) :
  ACt 224 [pF l,.vl (.func (.func f) #[] #[])] (iv (ixF l 0 l.length)):=by
 refine ac0 Tryz.func224 Tryz.ntmps224 [.tmp 4] ?_;refine wk ?_;refine q0T (fun i=>i≤l.length∧ixF l 0 l.length=ixF l i (l.length-i)) [0,1,7] [] Lk Lk (fun i:Nat=>[(8,iv i)]) (fun _=>[]) (fun i=>l.length-i) 0 ⟨Nat.zero_le _,rfl⟩ ?_ ?_
 ·refine LeM [] rfl rfl ?_;refine Zz ?_
  rfl
 ·rintro i ⟨hi,hx⟩
  by_cases hlt:i < l.length
  ·obtain ⟨x,hxi⟩:∃ x,l[i]?=some x:=⟨_,List.getElem?_eq_getElem hlt⟩;have C1:=hf x (hu x (List.mem_of_getElem? hxi));rw [show l.length-i=(l.length-(i+1))+1 by omega,ixF,getD_some hxi] at hx;refine wk1 hxi ?_;refine qgn fun K hK=>?_;refine Zz1 hxi ?_;refine qfz FnP_v ?_;simp only [List.append_nil]
   try refine Zz ?_
   refine q3D C1 ?_
   try refine Zz ?_
   refine hK _ _ ?_; clear hK K
   by_cases h:q0V x
   ·rw [if_pos h] at hx;refine wk1 (decide_eq_true h) ?_;refine ⟨i+1,⟨by omega,by rw [show l.length-(i+1)=l.length-(i+1) from rfl]; exact hx⟩,by omega,?_⟩;refine LeM [] rfl rfl ?_;refine Zz ?_;omega
   ·rw [if_neg h] at hx;rw [hx];exact wk1 (decide_eq_false h) trivial
  ·obtain rfl:i=l.length:=by omega
   rw [Nat.sub_self,ixF] at hx;rw [hx];exact wk trivial
theorem q2o (hf:∀ x:Nat,x < 18446744073709551616→ACt f [uv x] (bv (!decide (q0V x)))) (hu:∀ x ∈ l,x < 18446744073709551616) (hn:l.length≤1000000) :
  ACt 162 [pF l,.vl (.func (.func f) #[] #[])] (bv (!decide (∀ x ∈ l,q0V x))):=by
 have C1:=q7W hf hu hn;rw [← qkB];generalize ixF l 0 l.length=z at *;refine ac0 Tryz.func162 Tryz.ntmps162 [.tmp 4] ?_;exact wk trivial
theorem q8T {x:Nat} (hx:x < 18446744073709551616):ACt 164 [uv x] (bv (!decide (q0V x))):=by
 have C1:=q4M hx;refine ac0 Tryz.func164 Tryz.ntmps164 [.tmp 2] ?_;exact wk trivial
theorem q3B (hu:∀ x ∈ l,x < 18446744073709551616) (hn:l.length≤1000000):ACt 106 [pF l] (bv (decide (∀ x ∈ l,q0V x))):=by
 have C1:=q2o (f:=164) (fun x hx=>q8T hx) hu hn;generalize decide (∀ x ∈ l,q0V x)=b at *;refine ac0 Tryz.func106 Tryz.ntmps106 [.tmp 2] ?_;exact wk1 @Bool.not_not trivial
end

def qgh (l:List Int) (n:Int):Prop:=(l.length:Int)=n∧(∀ x ∈ l,0≤x∧x < n)∧l.Nodup
def q54 (l:List Int) (i:Nat):List Bool:=(List.range l.length).map fun k:Nat=>decide ((k:Int) ∈ l.take i)
theorem qem {l:List Int} {i:Nat}:(q54 l i).length=l.length:=by simp [q54]
theorem qnj {l:List Int}:List.replicate l.length false=q54 l 0:=by simp [q54,List.map_const']
theorem qen {l:List Int} {i k:Nat} (hk:k < l.length):(q54 l i)[k]?=some (decide ((k:Int) ∈ l.take i)):=by simp [q54,hk]
theorem qel {l:List Int} {i k:Nat} (hi:l[i]?=some (k:Int)):(q54 l i).set k true=q54 l (i+1):=by
 obtain ⟨hlt,he⟩:=List.getElem?_eq_some_iff.1 hi
 apply List.ext_getElem?
 intro m;rw [List.getElem?_set];simp only [q54,List.getElem?_map,List.length_map,List.length_range,List.take_succ_eq_append_getElem hlt,he,List.mem_append,List.mem_singleton]
 by_cases hm:m < l.length
 ·rw [List.getElem?_range hm]
  by_cases hkm:k=m
  ·subst hkm; simp [hm]
  ·rw [if_neg hkm]; simp; omega
 ·rw [List.getElem?_eq_none (by simp; omega)]
  by_cases hkm:k=m <;> simp [hkm] <;> omega
theorem q5d {α:Type} {l:List α} {i:Nat} {x:α} (hx:l[i]?=some x):l.take (i+1)=l.take i ++ [x]:=by
 obtain ⟨h1,h2⟩:=List.getElem?_eq_some_iff.1 hx;rw [List.take_succ_eq_append_getElem h1,h2]
theorem qe9 {α:Type} {p:α→Prop} {l:List α} {i:Nat} {x:α} (hx:l[i]?=some x) (h:∀ y ∈ l.take i,p y) (hp:p x):∀ y ∈ l.take (i+1),p y:=by
 rw [q5d hx];intro y hy
 rcases List.mem_append.1 hy with hy | hy
 ·exact h y hy
 ·simp at hy; subst hy; exact hp
open Classical in
theorem qaU {l:List Nat} (hl:l.length≤9223372036854775807) (hu:∀ x ∈ l,x < 18446744073709551616):ACt 142 [pF l] (bv (decide (∀ x ∈ l,q0V x))):=by
 refine ac0 Tryz.func142 Tryz.ntmps142 [.tmp 2] ?_;refine wk ?_;refine q0T (fun i=>i≤l.length∧∀ x ∈ l.take i,q0V x) [0] [] Lk Lk (fun i:Nat=>[(3,iv i)]) (fun _=>[]) (fun i=>l.length-i) 0 ⟨Nat.zero_le _,by simp⟩ ?_ ?_
 ·refine LeM [] rfl rfl ?_;refine Zz ?_
  rfl
 ·rintro i ⟨hi,hr⟩;refine wk ?_
  by_cases hlt:i < l.length
  ·have hlt':(i:Int) < l.length:=by omega
   refine wk1 hlt' ?_;obtain ⟨x,hx⟩:∃ x,l[i]?=some x:=⟨_,List.getElem?_eq_getElem hlt⟩;have hm:=List.mem_of_getElem? hx;have C1:=(q6T (hu x hm));refine wk1 hx ?_
   by_cases hf:q0V x
   ·refine wk1 hf ?_;refine ⟨i+1,⟨by omega,qe9 hx hr hf⟩,by omega,?_⟩;refine LeM [] rfl rfl ?_;refine Zz ?_;omega
   ·refine wk1 hf ?_;exact (decide_eq_false fun h=>hf (h x hm)).symm
  ·have hlt':¬ (i:Int) < l.length:=by omega
   refine wk1 hlt' ?_;obtain rfl:i=l.length:=by omega
   rw [List.take_length] at hr;exact (decide_eq_true hr).symm
def q5k (rows cols:Int) (st ix:List Int) (vl:List Nat):PV:=.ag [iv rows,iv cols,pI st,pI ix,pF vl]
structure MSz (rows cols:Int) (ix:List Int):Prop where
 r0:¬ rows < 0
 r1:¬ 200 < rows
 c0:¬ cols < 0
 c1:¬ 200 < cols
 i1:¬ (10000:Int) < ix.length
structure MPt (cols:Int) (st ix:List Int) (vl:List Nat):Prop where
 v:vl.length=ix.length
 s:(st.length:Int)=cols+1
 f:st[0]?=some 0
 l:st[cols.toNat]?=some (ix.length:Int)
 m:∀ (j:Nat) (x y:Int),st[j]?=some x→st[j+1]?=some y→x≤y
def MIx1 (rows:Int) (ix:List Int) (x:Int) (k:Nat):Prop:=∀ v,ix[k]?=some v→0≤v∧v < rows∧(x < k→∀ u,ix[k-1]?=some u→u < v)
def MIx (rows:Int) (st ix:List Int):Prop:=∀ (j:Nat) (x y:Int),st[j]?=some x→st[j+1]?=some y→∀ k:Nat,x≤k→(k:Int) < y→MIx1 rows ix x k
open Classical in
noncomputable def q5t (rows cols:Int) (st ix:List Int) (vl:List Nat):Int :=
 if MSz rows cols ix then (if MPt cols st ix vl∧MIx rows st ix then (if ∀ x ∈ vl,q0V x then 0 else 4) else 1) else 6
theorem MPt.nn {cols:Int} {st ix:List Int} {vl:List Nat} (h:MPt cols st ix vl):∀ (j:Nat) (x:Int),st[j]?=some x→0≤x
 | 0,x,hx=>by rw [h.f] at hx; cases hx; omega
 | j+1,x,hx=>by
  have hlt:=(List.getElem?_eq_some_iff.1 hx).1;have hj:st[j]?=some st[j]:=List.getElem?_eq_getElem (by omega);have:=h.m j _ _ hj hx;have:=h.nn j _ hj;omega
theorem MPt.ub {cols:Int} {st ix:List Int} {vl:List Nat} (h:MPt cols st ix vl) (hc:0≤cols):∀ (d j:Nat) (x:Int),j+d=cols.toNat→st[j]?=some x→x≤ix.length
 | 0,j,x,hd,hx=>by
  have:j=cols.toNat:=by omega
  subst this;rw [h.l] at hx; cases hx; omega
 | d+1,j,x,hd,hx=>by
  have hlt:j+1 < st.length:=by have:=h.s; omega
  have hj:st[j+1]?=some st[j+1]:=List.getElem?_eq_getElem hlt;have:=h.m j _ _ hx hj;have:=h.ub hc d (j+1) _ (by omega) hj;omega
theorem q9Q {rows cols:Int} {st ix:List Int} {vl:List Nat} (hl:st.length≤9223372036854775807) (hli:ix.length≤9223372036854775807) (hlv:vl.length≤9223372036854775807) (hu:∀ x ∈ vl,x < 18446744073709551616) :
  ACt 81 [q5k rows cols st ix vl] (iv (q5t rows cols st ix vl)):=by
 have c6:¬ MSz rows cols ix→q5t rows cols st ix vl=6:=fun h=>if_neg h;have c1:MSz rows cols ix→¬ (MPt cols st ix vl∧MIx rows st ix)→q5t rows cols st ix vl=1:=fun h h2=>by unfold q5t; rw [if_pos h,if_neg h2]
 have c0:MSz rows cols ix→MPt cols st ix vl∧MIx rows st ix→q5t rows cols st ix vl=if ∀ x ∈ vl,q0V x then 0 else 4:=fun h h2=>by unfold q5t; rw [if_pos h,if_pos h2]
 generalize q5t rows cols st ix vl=res at *;unfold q5k;refine ac0 Tryz.func81 Tryz.ntmps81 [.tmp 2] ?_;refine wk ?_
 by_cases h1:rows < 0
 ·refine wk1 h1 ?_;rw [c6 fun h=>h.r0 h1]
 by_cases h2:200 < rows
 ·refine wk1 (x2 h1 h2) ?_;rw [c6 fun h=>h.r1 h2]
 by_cases h3:cols < 0
 ·refine wk1 (x3 h1 h2 h3) ?_;rw [c6 fun h=>h.c0 h3]
 by_cases h4:200 < cols
 ·refine wk1 (x4 h1 h2 h3 h4) ?_;rw [c6 fun h=>h.c1 h4]
 by_cases h5:(10000:Int) < ix.length
 ·refine wk1 (x5 h1 h2 h3 h4 h5) ?_;rw [c6 fun h=>h.i1 h5]
 refine wk1 (x5 h1 h2 h3 h4 h5) ?_;have hz:MSz rows cols ix:=⟨h1,h2,h3,h4,h5⟩;obtain ⟨n,rfl⟩:∃ n:Nat,cols=n:=⟨cols.toNat,by omega⟩;refine wk ?_;have w0:IntKind.i64.wrap ((n:Int)+1)=(n:Int)+1:=i64_in (by omega) (by omega)
 by_cases hv:vl.length=ix.length
 case neg =>
  have e1:((vl.length:Int) != ix.length)=true:=by simp; omega
  refine wk1 e1 ?_;rw [c1 hz fun h=>hv h.1.v]
 have e1:((vl.length:Int) != ix.length)=false:=by simp; omega
 by_cases hs:st.length=n+1
 case neg =>
  have e2:((st.length:Int) != (n:Int)+1)=true:=by simp; omega
  refine wk1 (x3 e1 w0 e2) ?_;rw [c1 hz fun h=>by have:=h.1.s; omega]
 have e2:((st.length:Int) != (n:Int)+1)=false:=by simp; omega
 obtain ⟨x0,hx0⟩:∃ x,st[0]?=some x:=⟨_,List.getElem?_eq_getElem (by omega)⟩;obtain ⟨xn,hxn⟩:∃ x,st[n]?=some x:=⟨_,List.getElem?_eq_getElem (by omega)⟩
 by_cases h0:x0=0
 case neg =>
  have e3:(x0 != 0)=true:=by simpa using h0
  refine wk1 (x5 e1 w0 e2 hx0 e3) ?_;rw [c1 hz fun h=>by have:=h.1.f; rw [hx0] at this; exact h0 (Option.some.inj this)]
 subst h0;have e3:((0:Int) != 0)=false:=rfl
 by_cases hn:xn=ix.length
 case neg =>
  have e4:(xn != (ix.length:Int))=true:=by simpa using hn
  refine wk1 (x6 e1 w0 e2 hx0 e3 (x2 hxn e4)) ?_;rw [c1 hz fun h=>by have:=h.1.l; rw [Int.toNat_natCast,hxn] at this; exact hn (Option.some.inj this)]
 subst hn;have e4:((ix.length:Int) != (ix.length:Int))=false:=by simp
 refine wk1 (x6 e1 w0 e2 hx0 e3 (x2 hxn e4)) ?_;have hp:∀ {j:Nat} {x:Int},(∀ (j:Nat) (x y:Int),st[j]?=some x→st[j+1]?=some y→x≤y)→MPt n st ix vl:=fun hm=>⟨hv,by omega,hx0,by rw [Int.toNat_natCast]; exact hxn,hm⟩;refine q8p [1,3,4] Lk ?_;refine wk ?_;refine q0T (fun i=>i≤n∧∀ j x y,j < i→st[j]?=some x→st[j+1]?=some y→x≤y) [1] [1] Lk Lk (fun i:Nat=>[(4,iv i)]) (fun _=>[]) (fun i=>n-i) 0 ⟨Nat.zero_le _,by omega⟩ ?_ ?_
 ·refine LeM [] rfl rfl ?_;refine Zz ?_
  rfl
 ·rintro i ⟨hi,hr⟩;refine wk ?_
  by_cases hlt:i < n
  ·have hlt':(i:Int) < n:=by omega
   refine wk1 hlt' ?_;obtain ⟨x,hx⟩:∃ x,st[i]?=some x:=⟨_,List.getElem?_eq_getElem (by omega)⟩;obtain ⟨y,hy⟩:∃ x,st[i+1]?=some x:=⟨_,List.getElem?_eq_getElem (by omega)⟩;have wi:IntKind.i64.wrap ((i:Int)+1)=((i+1:Nat):Int):=by rw [i64_in (by omega) (by omega)]; omega
   by_cases hxy:y < x
   ·refine wk1 (x4 hx hy wi hxy) ?_;rw [c1 hz fun h=>by have:=h.1.m i x y hx hy; omega]
   ·refine wk1 (x4 hx hy wi hxy) ?_;refine ⟨i+1,⟨by omega,fun j x' y' hj hx' hy'=>?_⟩,by omega,?_⟩
    ·by_cases hji:j=i
     ·subst hji;rw [hx] at hx'; rw [hy] at hy';cases hx'; cases hy'; omega
     ·exact hr j x' y' (by omega) hx' hy'
    ·refine LeM [] rfl rfl ?_;exact Zy
  ·have hlt':¬ (i:Int) < n:=by omega
   refine wk1 hlt' ?_;obtain rfl:i=n:=by omega
   have hP:MPt i st ix vl:=⟨hv,by omega,hx0,by rw [Int.toNat_natCast]; exact hxn,fun j x y hx hy=>hr j x y (by have:=(List.getElem?_eq_some_iff.1 hy).1; omega) hx hy⟩;clear hr hp hlt hlt';refine wk ?_;refine q0T (fun j=>j≤i∧∀ j' x y,j' < j→st[j']?=some x→st[j'+1]?=some y→∀ k:Nat,x≤k→(k:Int) < y→MIx1 rows ix x k) [1] [1] Lk Lk (fun j:Nat=>[(5,iv j)]) (fun _=>[]) (fun j=>i-j) 0 ⟨Nat.zero_le _,by omega⟩ ?_ ?_
   ·refine LeM [] rfl rfl ?_;refine Zz ?_
    rfl
   ·rintro j ⟨hj,hr⟩;refine wk ?_
    by_cases hlt:j < i
    ·have hlt':(j:Int) < i:=by omega
     refine wk1 hlt' ?_;obtain ⟨x,hx⟩:∃ x,st[j]?=some x:=⟨_,List.getElem?_eq_getElem (by omega)⟩;obtain ⟨y,hy⟩:∃ x,st[j+1]?=some x:=⟨_,List.getElem?_eq_getElem (by omega)⟩;have wi:IntKind.i64.wrap ((j:Int)+1)=((j+1:Nat):Int):=by rw [i64_in (by omega) (by omega)]; omega
     have hxy:=hP.m j x y hx hy;obtain ⟨a,rfl⟩:∃ a:Nat,x=a:=⟨x.toNat,by have:=hP.nn j x hx; omega⟩;obtain ⟨b,rfl⟩:∃ b:Nat,y=b:=⟨y.toNat,by omega⟩;have hb:b≤ix.length:=by have:=hP.ub (by omega) (i-(j+1)) (j+1) b (by rw [Int.toNat_natCast]; omega) hy; omega
     refine wk1 hx ?_;refine q0T (fun k=>a≤k∧k≤b∧∀ k':Nat,a≤k'→k' < k→MIx1 rows ix a k') [1,5] [1] Lk Lk (fun k:Nat=>[(6,iv k)]) (fun _=>[]) (fun k=>b-k) a ⟨Nat.le_refl _,by omega,by omega⟩ ?_ ?_
     ·refine LeM [] rfl rfl ?_;exact Zy
     ·rintro k ⟨hk,hkb,hrk⟩;refine wk ?_
      by_cases hltk:k < b
      ·have hltk':(k:Int) < b:=by omega
       refine wk1 (x3 wi hy hltk') ?_;obtain ⟨v,hv⟩:∃ v,ix[k]?=some v:=⟨_,List.getElem?_eq_getElem (by omega)⟩;have fin:(¬ (0≤v∧v < rows∧((a:Int) < k→∀ u,ix[k-1]?=some u→u < v)))→res=1:=fun hb'=>c1 hz fun h=>hb' (h.2 j a b hx hy k (by omega) (by omega) v hv);have ok:0≤v→v < rows→((a:Int) < k→∀ u,ix[k-1]?=some u→u < v)→∀ k':Nat,a≤k'→k' < k+1→MIx1 rows ix a k':=fun q1 q2 q3 k' hk' hk1=>by
        by_cases hkk:k'=k
        ·subst hkk;intro v' hv';rw [hv] at hv'; cases hv';exact ⟨q1,q2,q3⟩
        ·exact hrk k' hk' (by omega)
       by_cases hv0:v < 0
       ·refine wk1 (x2 hv hv0) ?_;rw [fin fun h=>by omega]
       ·by_cases hvr:rows≤v
        ·refine wk1 (x3 hv hv0 hvr) ?_;rw [fin fun h=>by omega]
        ·by_cases hak:(a:Int) < k
         ·obtain ⟨k,rfl⟩:∃ k',k=k'+1:=⟨k-1,by omega⟩;obtain ⟨u,hu⟩:∃ v,ix[k]?=some v:=⟨_,List.getElem?_eq_getElem (by omega)⟩;have wk:IntKind.i64.wrap (((k+1:Nat):Int)-1)=k:=by rw [i64_in (by omega) (by omega)]; omega
          by_cases huv:v≤u
          ·refine wk1 (x6 hv hv0 hvr hx hak (x3 @wk hu huv)) ?_;rw [fin fun h=>by have:=h.2.2 hak u hu; omega]
          ·refine wk1 (x6 hv hv0 hvr hx hak (x3 @wk hu huv)) ?_;refine ⟨k+1+1,⟨by omega,by omega,ok (by omega) (by omega) fun _ u' hu'=>?_⟩,by omega,?_⟩
           ·rw [Nat.add_sub_cancel,hu] at hu'; cases hu'; omega
           ·refine LeM [] rfl rfl ?_;refine Zz ?_;omega
         ·refine wk1 (x5 hv hv0 hvr hx hak) ?_;refine ⟨k+1,⟨by omega,by omega,ok (by omega) (by omega) fun h=>absurd h hak⟩,by omega,?_⟩;refine LeM [] rfl rfl ?_;refine Zz ?_;omega
      ·have hltk':¬ (k:Int) < b:=by omega
       refine wk1 (x3 wi hy hltk') ?_;refine ⟨j+1,⟨by omega,fun j' x' y' hj' hx' hy' k' h1' h2'=>?_⟩,by omega,?_⟩
       ·by_cases hji:j'=j
        ·subst hji;rw [hx] at hx'; rw [hy] at hy';cases hx'; cases hy';exact hrk k' (by omega) (by omega)
        ·exact hr j' x' y' (by omega) hx' hy' k' h1' h2'
       ·refine LeM [] rfl rfl ?_;exact Zy
    ·have hlt':¬ (j:Int) < i:=by omega
     refine wk1 hlt' ?_;obtain rfl:j=i:=by omega
     have hX:MIx rows st ix:=fun j' x y hx hy=>hr j' x y (by have:=(List.getElem?_eq_some_iff.1 hy).1; omega) hx hy;have c0:=c0 hz ⟨hP,hX⟩;have C1:=(qaU hlv hu);refine wk ?_
     by_cases hf:∀ x ∈ vl,q0V x
     ·rw [if_pos hf] at c0;have ef:∀ (i:Decidable (∀ x ∈ vl,q0V x)),@decide _ i=true:=fun _=>decide_eq_true hf;refine wk1 ef ?_;rw [c0]
     ·rw [if_neg hf] at c0;have ef:∀ (i:Decidable (∀ x ∈ vl,q0V x)),@decide _ i=false:=fun _=>decide_eq_false hf;refine wk1 ef ?_;rw [c0]
def q80 (ix:List Int) (i:Int) (a b:Nat):Option Nat:=(List.range' a (b-a)).find? fun k=>decide (ix[k]?=some i)
theorem qor {ix:List Int} {i v:Int} {a b:Nat} (h:a < b) (hv:ix[a]?=some v) (hn:¬ v=i):q80 ix i a b=q80 ix i (a+1) b:=by
 unfold q80;rw [show b-a=(b-(a+1))+1 by omega,List.range'_succ,List.find?_cons,hv];have:decide (some v=some i)=false:=decide_eq_false fun e=>hn (Option.some.inj e);rw [this]
theorem qkW {ix:List Int} {v:Int} {a b:Nat} (h:a < b) (hv:ix[a]?=some v):q80 ix v a b=some a:=by
 unfold q80;rw [show b-a=(b-(a+1))+1 by omega,List.range'_succ,List.find?_cons,hv];have:decide (some v=some v)=true:=decide_eq_true rfl;rw [this]
theorem qkX {ix:List Int} {v:Int} {a b:Nat} (h:b≤a):q80 ix v a b=none:=by
 unfold q80;rw [show b-a=0 by omega]; rfl
def qmZ (st ix:List Int) (i:Int) (j:Nat):Option Nat:=q80 ix i (st.getD j 0).toNat (st.getD (j+1) 0).toNat
open Classical in
noncomputable def atM (rows cols:Int) (st ix:List Int) (vl:List Nat) (i j:Int):Nat:=if q5t rows cols st ix vl=0∧0≤j∧j < cols then (match qmZ st ix i j.toNat with | some k=>vl.getD k 0 | none=>0) else 0
theorem chk0 {rows cols:Int} {st ix:List Int} {vl:List Nat} (h:q5t rows cols st ix vl=0):MSz rows cols ix∧MPt cols st ix vl∧MIx rows st ix∧∀ x ∈ vl,q0V x:=by
 unfold q5t at h
 split at h
 ·split at h
  ·split at h
   ·exact ⟨‹_›,(‹_∧_›).1,(‹_∧_›).2,‹_›⟩
   ·cases h
  ·cases h
 ·cases h
theorem MPt.col {n:Nat} {st ix:List Int} {vl:List Nat} (h:MPt n st ix vl) {j:Nat} (hj:j < n):∃ a b:Nat,st[j]?=some (a:Int)∧st[j+1]?=some (b:Int)∧a≤b∧b≤ix.length∧(st.getD j 0).toNat=a∧(st.getD (j+1) 0).toNat=b:=by
 have hs:=h.s;obtain ⟨x,hx⟩:∃ x,st[j]?=some x:=⟨_,List.getElem?_eq_getElem (by omega)⟩;obtain ⟨y,hy⟩:∃ x,st[j+1]?=some x:=⟨_,List.getElem?_eq_getElem (by omega)⟩;have h1:=h.nn j x hx;have h2:=h.nn (j+1) y hy;have h3:=h.m j x y hx hy;have h4:=h.ub (by omega) (n-(j+1)) (j+1) y (by rw [Int.toNat_natCast]; omega) hy;refine ⟨x.toNat,y.toNat,by rw [hx]; congr 1; omega,by rw [hy]; congr 1; omega,by omega,by omega,?_,?_⟩
 ·rw [List.getD_eq_getElem?_getD,hx]; rfl
 ·rw [List.getD_eq_getElem?_getD,hy]; rfl
theorem qoD {rows cols i j:Int} {st ix:List Int} {vl:List Nat} (hl:st.length≤9223372036854775807) (hli:ix.length≤9223372036854775807) (hlv:vl.length≤9223372036854775807) (hu:∀ x ∈ vl,x < 18446744073709551616):ACt 93 [q5k rows cols st ix vl,iv i,iv j] (uv (atM rows cols st ix vl i j:Nat)):=by
 have c0:¬ (q5t rows cols st ix vl=0∧0≤j∧j < cols)→atM rows cols st ix vl i j=0:=fun h=>if_neg h;have c1:(q5t rows cols st ix vl=0∧0≤j∧j < cols)→atM rows cols st ix vl i j=(match qmZ st ix i j.toNat with | some k=>vl.getD k 0 | none=>0):=fun h=>if_pos h;have hA:=q9Q (rows:=rows) (cols:=cols) hl hli hlv hu;generalize atM rows cols st ix vl i j=res at *;unfold q5k at *;refine ac0 Tryz.func93 Tryz.ntmps93 [.tmp 6] ?_;refine wk ?_
 by_cases hz:q5t rows cols st ix vl=0
 case neg =>
  have e1:(q5t rows cols st ix vl != 0)=true:=by simpa using hz
  refine wk1 e1 ?_;rw [c0 fun h=>hz h.1]; rfl
 have e1:(q5t rows cols st ix vl != 0)=false:=by simpa using hz
 by_cases h3:j < 0
 ·refine wk1 (x2 e1 h3) ?_;rw [c0 fun h=>by omega]; rfl
 by_cases h4:cols≤j
 ·refine wk1 (x3 e1 h3 h4) ?_;rw [c0 fun h=>by omega]; rfl
 refine wk1 (x3 e1 h3 h4) ?_;have d1:=c1 ⟨hz,by omega,by omega⟩;obtain ⟨hz1,hP,hX,hfn⟩:=chk0 hz;have hc:=hz1.c1;have hi:=hz1.i1;obtain ⟨j,rfl⟩:∃ j':Nat,j=j':=⟨j.toNat,by omega⟩;obtain ⟨n,rfl⟩:∃ n:Nat,cols=n:=⟨cols.toNat,by omega⟩;obtain ⟨a,b,hx,hy,hab,hb,ea,eb⟩:=hP.col (show j < n by omega);rw [Int.toNat_natCast] at d1;unfold qmZ at d1;rw [ea,eb] at d1;have wi:IntKind.i64.wrap ((j:Int)+1)=((j+1:Nat):Int):=by rw [i64_in (by omega) (by omega)]; omega
 refine wk1 hx ?_;refine q8p [1,2,3,7] Lk ?_;refine wk ?_;refine q0T (fun k=>a≤k∧k≤b∧q80 ix i a b=q80 ix i k b) [1,2,3] [3] Lk Lk (fun k:Nat=>[(7,iv k)]) (fun _=>[]) (fun k=>b-k) a ⟨Nat.le_refl _,hab,rfl⟩ ?_ ?_
 ·refine LeM [] rfl rfl ?_;exact Zy
 ·rintro k ⟨hk,hkb,hr⟩;refine wk ?_
  by_cases hlt:k < b
  ·have hlt':(k:Int) < b:=by omega
   refine wk1 (x3 wi hy hlt') ?_;obtain ⟨v,hv⟩:∃ v,ix[k]?=some v:=⟨_,List.getElem?_eq_getElem (by omega)⟩
   by_cases hvi:v=i
   ·subst hvi;have e1:(v == v)=true:=by simp
    refine wk1 (x2 hv e1) ?_;obtain ⟨u,hu'⟩:∃ u,vl[k]?=some u:=⟨_,List.getElem?_eq_getElem (by have:=hP.v; omega)⟩;refine wk1 hu' ?_;rw [d1,hr,qkW hlt hv];simp only [List.getD_eq_getElem?_getD,hu']; rfl
   ·have e1:(v == i)=false:=by simpa using hvi
    refine wk1 (x2 hv e1) ?_;refine ⟨k+1,⟨by omega,by omega,by rw [hr,qor hlt hv hvi]⟩,by omega,?_⟩;refine LeM [] rfl rfl ?_;refine Zz ?_;omega
  ·have hlt':¬ (k:Int) < b:=by omega
   refine wk1 (x3 wi hy hlt') ?_;rw [d1,hr,qkX (by omega)]; rfl

def tC (f:Nat→Nat→Option Nat) (j:Nat) (p:List Int × List Nat):Nat→List Int × List Nat
 | 0=>p
 | i+1=>match f j i with
  | some x=>((tC f j p i).1 ++ [(i:Int)],(tC f j p i).2 ++ [x])
  | none=>tC f j p i
def tM (f:Nat→Nat→Option Nat) (R:Nat):Nat→List Int × List Int × List Nat
 | 0=>([0],[],[])
 | j+1=>((tM f R j).1 ++ [((tC f j (tM f R j).2 R).1.length:Int)],tC f j (tM f R j).2 R)
def pT (R C:Nat) (f:Nat→Nat→Option Nat):PV:=q5k R C (tM f R C).1 (tM f R C).2.1 (tM f R C).2.2
theorem qgx {f:Nat→Nat→Option Nat} {j:Nat} {p:List Int × List Nat} (hp:p.1.length=p.2.length):∀ i,(tC f j p i).1.length=(tC f j p i).2.length∧p.1.length≤(tC f j p i).1.length∧(tC f j p i).1.length≤p.1.length+i
 | 0=>⟨hp,Nat.le_refl _,Nat.le_refl _⟩
 | i+1=>by
  have:=qgx (f:=f) (j:=j) hp i;simp only [tC]
  split
  ·simp only [List.length_append,List.length_cons,List.length_nil]; omega
  ·omega
theorem q3d {f:Nat→Nat→Option Nat} {R:Nat}:∀ j,(tM f R j).1.length=j+1∧(tM f R j).2.1.length=(tM f R j).2.2.length∧(tM f R j).2.1.length≤j*R
 | 0=>⟨rfl,rfl,by simp [tM]⟩
 | j+1=>by
  have h1:=q3d (f:=f) (R:=R) j;have h2:=qgx (f:=f) (j:=j) h1.2.1 R;simp only [tM];refine ⟨by simp [h1.1],h2.1,?_⟩;rw [Nat.succ_mul]; omega
section
variable {f:Nat→Nat→Option Nat} {R C:Nat}
def tZ (f:Nat→Nat→Option Nat) (j i:Nat):List (Nat × Nat):=(List.range i).filterMap fun k=>(f j k).map fun x=>(k,x)
theorem tZ_s {j i:Nat}:tZ f j (i+1)=tZ f j i ++ (match f j i with | some x=>[(i,x)] | none=>[]):=by
 unfold tZ;rw [List.range_succ,List.filterMap_append]
 congr 1
 cases h:f j i <;> simp [h]
theorem q5e {j i k x:Nat}:(k,x) ∈ tZ f j i ↔ k < i∧f j k=some x:=by
 unfold tZ;rw [List.mem_filterMap]
 constructor
 ·rintro ⟨a,ha,h⟩;obtain ⟨y,hy,h2⟩:=Option.map_eq_some_iff.1 h;cases h2;exact ⟨List.mem_range.1 ha,hy⟩
 ·rintro ⟨h1,h2⟩;exact ⟨k,List.mem_range.2 h1,by rw [h2]; rfl⟩
theorem qgw {j:Nat}:∀ i,(tZ f j i).Pairwise fun a b=>a.1 < b.1
 | 0=>by simp [tZ]
 | i+1=>by
  rw [tZ_s,List.pairwise_append];refine ⟨qgw i,?_,fun a ha b hb=>?_⟩
  ·split <;> simp
  ·have h1:=(q5e.1 (show (a.1,a.2) ∈ tZ f j i from ha)).1
   split at hb
   ·simp at hb; subst hb; exact h1
   ·cases hb
theorem qaI {j:Nat} {p:List Int × List Nat}:∀ i,tC f j p i=(p.1 ++ (tZ f j i).map (fun q=>(q.1:Int)),p.2 ++ (tZ f j i).map (·.2))
 | 0=>by simp [tC,tZ]
 | i+1=>by
  rw [tC,tZ_s,qaI i];cases h:f j i <;> simp
def tO (f:Nat→Nat→Option Nat) (R j:Nat):Nat:=(tM f R j).2.1.length
theorem qmN {j:Nat}:tO f R (j+1)=tO f R j+(tZ f j R).length:=by simp [tO,tM,qaI]
theorem tM_st {j:Nat}:(tM f R j).1[j]?=some (tO f R j:Int):=by
 cases j with
 | zero=>simp [tM,tO]
 | succ j =>
  have:=(q3d (f:=f) (R:=R) j).1;simp only [tM,tO];rw [List.getElem?_append_right (by omega),this];simp
theorem qbV {j:Nat}:∀ d,∃ a b c,(tM f R (j+d)).1=(tM f R j).1 ++ a∧(tM f R (j+d)).2.1=(tM f R j).2.1 ++ b∧(tM f R (j+d)).2.2=(tM f R j).2.2 ++ c
 | 0=>⟨[],[],[],by simp,by simp,by simp⟩
 | d+1=>by
  obtain ⟨a,b,c,h1,h2,h3⟩:=qbV (j:=j) d;have e1:(tM f R (j+(d+1))).1=(tM f R (j+d)).1 ++ [((tC f (j+d) (tM f R (j+d)).2 R).1.length:Int)]:=rfl;have e2:(tM f R (j+(d+1))).2=tC f (j+d) (tM f R (j+d)).2 R:=rfl;rw [qaI] at e2;rw [e1,e2,h1,h2,h3];simp only [List.append_assoc];exact ⟨_,_,_,rfl,rfl,rfl⟩
theorem q4z {j:Nat} (hj:j≤C):(tM f R C).1[j]?=some (tO f R j:Int):=by
 obtain ⟨a,b,c,h1,_,_⟩:=qbV (f:=f) (R:=R) (j:=j) (C-j);rw [show j+(C-j)=C by omega] at h1;rw [h1,List.getElem?_append_left (by rw [(q3d j).1]; omega)];exact tM_st
theorem qnM {j:Nat} (hj:j < C):∃ b c,(tM f R C).2.1=(tM f R j).2.1 ++ (tZ f j R).map (fun q=>(q.1:Int)) ++ b∧(tM f R C).2.2=(tM f R j).2.2 ++ (tZ f j R).map (·.2) ++ c:=by
 obtain ⟨a,b,c,_,h2,h3⟩:=qbV (f:=f) (R:=R) (j:=j+1) (C-(j+1));rw [show j+1+(C-(j+1))=C by omega] at h2 h3;refine ⟨b,c,?_,?_⟩
 ·rw [h2]; simp only [tM,qaI]
 ·rw [h3]; simp only [tM,qaI]
theorem qbW {j k:Nat} (hj:j < C) (h1:tO f R j≤k) (h2:k < tO f R (j+1)):∃ q,(tZ f j R)[k-tO f R j]?=some q∧(tM f R C).2.1[k]?=some (q.1:Int)∧(tM f R C).2.2[k]?=some q.2:=by
 obtain ⟨b,c,e1,e2⟩:=qnM (f:=f) (R:=R) hj;rw [qmN] at h2;have hl:=(q3d (f:=f) (R:=R) j).2.1;have ho:tO f R j=(tM f R j).2.1.length:=rfl;obtain ⟨q,hq⟩:∃ q,(tZ f j R)[k-tO f R j]?=some q:=⟨_,List.getElem?_eq_getElem (by omega)⟩;refine ⟨q,hq,?_,?_⟩
 ·rw [e1,List.getElem?_append_left (by simp; omega),List.getElem?_append_right (by omega),List.getElem?_map,← ho,hq]; rfl
 ·rw [e2,List.getElem?_append_left (by simp; omega),List.getElem?_append_right (by omega),List.getElem?_map,← hl,← ho,hq]; rfl
theorem tM_pt:MPt C (tM f R C).1 (tM f R C).2.1 (tM f R C).2.2:=by
 have hl:=q3d (f:=f) (R:=R) C;refine ⟨hl.2.1.symm,by omega,?_,by rw [Int.toNat_natCast]; exact q4z (Nat.le_refl _),fun j x y hx hy=>?_⟩
 ·rw [q4z (Nat.zero_le _)]; rfl
 ·have h1:=(List.getElem?_eq_some_iff.1 hy).1;rw [q4z (by omega)] at hx hy;cases hx; cases hy;have:=qmN (f:=f) (R:=R) (j:=j);omega
theorem qnK:MIx R (tM f R C).1 (tM f R C).2.1:=fun j x y hx hy k h1 h2 v hv=>by
 have hl:=q3d (f:=f) (R:=R) C;have h3:=(List.getElem?_eq_some_iff.1 hy).1;rw [q4z (by omega)] at hx hy;cases hx; cases hy;obtain ⟨q,q1,q2,q3⟩:=qbW (f:=f) (R:=R) (C:=C) (j:=j) (k:=k) (by omega) (by omega) (by omega);rw [hv] at q2;cases q2;have:=(q5e.1 (show (q.1,q.2) ∈ _ from List.mem_of_getElem? q1)).1;refine ⟨by omega,by omega,fun hk u hu=>?_⟩;obtain ⟨p,p1,p2,p3⟩:=qbW (f:=f) (R:=R) (C:=C) (j:=j) (k:=k-1) (by omega) (by omega) (by omega);rw [hu] at p2;cases p2;have ha:=List.pairwise_iff_getElem.1 (qgw (f:=f) (j:=j) R);obtain ⟨a1,a2⟩:=List.getElem?_eq_some_iff.1 p1;obtain ⟨b1,b2⟩:=List.getElem?_eq_some_iff.1 q1;have:=ha _ _ a1 b1 (by omega);rw [a2,b2] at this;omega
theorem q8C {x:Nat}:∀ C,x ∈ (tM f R C).2.2→∃ j i,j < C∧i < R∧f j i=some x
 | 0,h=>by simp [tM] at h
 | C+1,h=>by
  simp only [tM,qaI,List.mem_append] at h
  rcases h with h | h
  ·obtain ⟨j,i,h1,h2,h3⟩:=q8C C h;exact ⟨j,i,by omega,h2,h3⟩
  ·obtain ⟨⟨k,y⟩,hq,rfl⟩:=List.mem_map.1 h;have:=q5e.1 hq;exact ⟨C,k,by omega,this.1,this.2⟩
theorem qnN (hR:R≤200) (hC:C≤200) (hRC:C*R≤10000) (hf:∀ j i x,j < C→i < R→f j i=some x→q0V x):q5t R C (tM f R C).1 (tM f R C).2.1 (tM f R C).2.2=0:=by
 have hl:=q3d (f:=f) (R:=R) C;have hz:MSz R C (tM f R C).2.1:=⟨by omega,by omega,by omega,by omega,by omega⟩;unfold q5t;rw [if_pos hz,if_pos ⟨tM_pt,qnK⟩,if_pos];intro x hx;obtain ⟨j,i,h1,h2,h3⟩:=q8C C hx;exact hf j i x h1 h2 h3
end
structure TOk (f:Nat→Nat→Option Nat) (R C:Nat):Prop where
 r:R≤200
 c:C≤200
 m:C*R≤10000
 u:∀ j i x,j < C→i < R→f j i=some x→x < 18446744073709551616
 v:∀ j i x,j < C→i < R→f j i=some x→q0V x
theorem TOk.vl {f:Nat→Nat→Option Nat} {R C:Nat} (h:TOk f R C):(tM f R C).1.length≤9223372036854775807∧(tM f R C).2.1.length≤9223372036854775807∧(tM f R C).2.2.length≤9223372036854775807∧(∀ x ∈ (tM f R C).2.2,x < 18446744073709551616):=by
 have:=q3d (f:=f) (R:=R) C;have:=h.c;have:=h.m;refine ⟨by omega,by omega,by omega,fun x hx=>?_⟩;obtain ⟨j,i,h1,h2,h3⟩:=q8C C hx;exact h.u j i x h1 h2 h3
theorem TOk.chk {f:Nat→Nat→Option Nat} {R C:Nat} (h:TOk f R C):q5t R C (tM f R C).1 (tM f R C).2.1 (tM f R C).2.2=0:=qnN h.r h.c h.m h.v
theorem qbX {f:Nat→Nat→Option Nat} {R C:Nat} (h:TOk f R C):ACt 81 [pT R C f] (iv 0):=by
 obtain ⟨h1,h2,h3,h4⟩:=h.vl;have:=q9Q (rows:=R) (cols:=C) h1 h2 h3 h4;rw [h.chk] at this;exact this

theorem qeE {τ:Nat→Option Nat} {h h':Hp} {a b c d:List PV} (h1:LeL τ h h' a c) (h2:LeL τ h h' b d):LeL τ h h' (a ++ b) (c ++ d):=by
 obtain ⟨l1,e1⟩:=h1;obtain ⟨l2,e2⟩:=h2;refine ⟨by simp [l1,l2],fun i x y hx hy=>?_⟩
 by_cases hi:i < a.length
 ·rw [List.getElem?_append_left hi] at hx;rw [List.getElem?_append_left (by omega)] at hy;exact e1 i x y hx hy
 ·rw [List.getElem?_append_right (by omega)] at hx;rw [List.getElem?_append_right (by omega),← l1] at hy;exact e2 _ x y hx hy
theorem clR {α:Type} {f:α→List Int} {l:List α}:ClL (l.map fun v=>pI (f v)):=fun x hx=>by
 obtain ⟨e,_,rfl⟩:=List.mem_map.1 hx
 trivial
theorem qqz {α:Type} {f:α→List Int} {l:List α} {τ:Nat→Option Nat} {h h':Hp}:LeL τ h h' (l.map fun v=>pI (f v)) (l.map fun v=>pI (f v))=True:=eq_true (q2E rfl clR)
attribute [local go_sem] qqz
theorem qf2 {ix:List Int} {i:Int}:∀ {d a:Nat} {k:Nat},q80 ix i a (a+d)=some k→a≤k∧k < a+d∧ix[k]?=some i:=fun {d a k} h=>by
 unfold q80 at h;have h1:=List.find?_some h;have h2:=List.mem_of_find?_eq_some h;rw [List.mem_range'_1] at h2;exact ⟨h2.1,by omega,by simpa using h1⟩
theorem qf3 {ix:List Int} {i:Int} {d a:Nat} (h:q80 ix i a (a+d)=none):∀ k,a≤k→k < a+d→¬ ix[k]?=some i:=fun k h1 h2 h3=>by
 unfold q80 at h;have:=List.find?_eq_none.1 h k (by rw [List.mem_range'_1]; omega);simp [h3] at this
theorem qnL {f:Nat→Nat→Option Nat} {R C i j:Nat} (hi:i < R) (hj:j < C):(match qmZ (tM f R C).1 (tM f R C).2.1 i j with | some k=>(tM f R C).2.2[k]? | none=>none)=f j i:=by
 have e1:((tM f R C).1.getD j 0).toNat=tO f R j:=by rw [List.getD_eq_getElem?_getD,q4z (by omega)]; rfl
 have e2:((tM f R C).1.getD (j+1) 0).toNat=tO f R (j+1):=by rw [List.getD_eq_getElem?_getD,q4z (by omega)]; rfl
 unfold qmZ;rw [e1,e2,qmN];cases h:q80 (tM f R C).2.1 i (tO f R j) (tO f R j+(tZ f j R).length) with
 | some k =>
  obtain ⟨h1,h2,h3⟩:=qf2 h;obtain ⟨q,q1,q2,q3⟩:=qbW (f:=f) (R:=R) (C:=C) (j:=j) (k:=k) hj h1 (by rw [qmN]; exact h2);rw [q2] at h3;have hqi:q.1=i:=by have:=Option.some.inj h3; omega
  have:=(q5e.1 (show (q.1,q.2) ∈ _ from List.mem_of_getElem? q1)).2;simp only;rw [q3,← this,hqi]
 | none =>
  cases hx:f j i with
  | none=>rfl
  | some x =>
   obtain ⟨m,hm⟩:=List.getElem?_of_mem (q5e.2 ⟨hi,hx⟩:(i,x) ∈ tZ f j R);have hml:=(List.getElem?_eq_some_iff.1 hm).1;obtain ⟨q,q1,q2,q3⟩:=qbW (f:=f) (R:=R) (C:=C) (j:=j) (k:=tO f R j+m) hj (by omega) (by rw [qmN]; omega);rw [Nat.add_sub_cancel_left,hm] at q1;cases q1;exact absurd q2 (qf3 h _ (by omega) (by omega))
theorem qnO {f:Nat→Nat→Option Nat} {R C i j:Nat} (h:TOk f R C) (hi:i < R) (hj:j < C):ACt 93 [pT R C f,iv i,iv j] (uv (((f j i).getD 0:Nat):Int)):=by
 obtain ⟨h1,h2,h3,h4⟩:=h.vl;have:=qoD (rows:=R) (cols:=C) (i:=i) (j:=j) h1 h2 h3 h4;unfold atM at this;rw [if_pos ⟨h.chk,by omega,by omega⟩,Int.toNat_natCast] at this;have hf:=qnL (f:=f) hi hj;cases hc:qmZ (tM f R C).1 (tM f R C).2.1 i j with
 | some k =>
  rw [hc] at this hf;simp only at this hf;rw [List.getD_eq_getElem?_getD,hf] at this;exact this
 | none =>
  rw [hc] at this hf;simp only at this hf;rw [← hf];exact this
theorem q7r {x y:Nat} {A B V:Int} (hx:x < 18446744073709551616) (hy:y < 18446744073709551616) (ha:ofF x=some A) (hb:ofF y=some B) (hv:mkV (A*B) (-131072)=some V):ACt 113 [uv x,uv y] (pV V):=by
 refine ac0 Tryz.func113 Tryz.ntmps113 [.cell 4 74] ?_;have C1:=(qhO hx ha);have C2:=(qhO hy hb);have C3:=(qj5 hv);exact wk trivial



def qeK (raw:List Nat) (k:Int) (st n:Nat):List Nat:=(List.range n).map fun i:Nat=>q2j st (q7v raw (k+i))
theorem q8r {raw:List Nat} {k:Int} {st n:Nat}:(qeK raw k st n).length=n:=by simp [qeK]
theorem qml {raw:List Nat} {k:Int} {st n:Nat}:qeK raw k st (n+1)=qeK raw k st n ++ [q2j st (q7v raw (k+n))]:=by simp [qeK,List.range_succ]
def keep (x:Nat):Prop:=0 < x / 1099511627776 % 3
instance {x:Nat}:Decidable (keep x):=inferInstanceAs (Decidable (_ < _))
def gC (raw:List Nat) (R st j:Nat) (p:List Int × List Nat):Nat→List Int × List Nat
 | 0=>p
 | i+1=>let q:=gC raw R st j p i
  if keep (q7v raw (100+j*R+i)) then (q.1 ++ [(i:Int)],q.2 ++ [q2j st (q7v raw (100+j*R+i))]) else q
def gM (raw:List Nat) (R st:Nat):Nat→List Int × List Int × List Nat
 | 0=>([0],[],[])
 | j+1=>let m:=gM raw R st j
  let p:=gC raw R st j m.2 R
  (m.1 ++ [(p.1.length:Int)],p)
abbrev pM (R C:Int) (m:List Int × List Int × List Nat):PV:=.ag [iv R,iv C,pI m.1,pI m.2.1,pF m.2.2]
theorem qcj {raw:List Nat} {R st j:Nat} {p:List Int × List Nat} (hp:p.1.length=p.2.length):∀ i,(gC raw R st j p i).1.length=(gC raw R st j p i).2.length∧(gC raw R st j p i).1.length≤p.1.length+i
 | 0=>⟨hp,Nat.le_refl _⟩
 | i+1=>by
  have:=qcj (raw:=raw) (R:=R) (st:=st) (j:=j) hp i;simp only [gC]
  split
  ·simp only [List.length_append,List.length_cons,List.length_nil]; omega
  ·omega
theorem qh7 {raw:List Nat} {R st:Nat}:∀ j,(gM raw R st j).1.length=j+1∧(gM raw R st j).2.1.length=(gM raw R st j).2.2.length∧(gM raw R st j).2.1.length≤j*R
 | 0=>⟨rfl,rfl,by simp [gM]⟩
 | j+1=>by
  have h1:=qh7 (raw:=raw) (R:=R) (st:=st) j;have h2:=qcj (raw:=raw) (R:=R) (st:=st) (j:=j) h1.2.1 R;simp only [gM];refine ⟨by simp [h1.1],h2.1,?_⟩;rw [Nat.succ_mul]; omega
theorem qaa {raw : List Nat} {st : Int} {R C : Nat} (hr : raw.length ≤ 9223372036854775807) (hR : R ≤ 1000) (hC : C ≤ 1000) (h3 : -9223372036854775808 ≤ st) (h4 : st ≤ 9223372036854775807) :
    ACt 29 [pF raw, iv R, iv C, iv st] (pM R C (gM raw R (q3X st 4) C)) := by
  refine ac0 Tryz.func29 Tryz.ntmps29 [.cell 8 52] ?_
  refine wk ?_
  obtain ⟨sm, hsm⟩ : ∃ sm, sm = q3X st 4 := ⟨_, rfl⟩
  rw [← hsm]
  refine q0T (fun j => j ≤ C) [0, 1, 2, 3, 8, 9] [8] Lk Lk (fun j : Nat => [(10, iv j)]) (fun j => [(9, ⟨52, some 5, [.ag [iv R, iv C, .ow 1001 none 0 (gM raw R sm j).1.length, .ow 1002 none 0 (gM raw R sm j).2.1.length, .ow 1003 none 0 (gM raw R sm j).2.2.length]], false⟩), (1001, ⟨3, none, (gM raw R sm j).1.map fun z => iv z, false⟩), (1002, ⟨3, none, (gM raw R sm j).2.1.map fun z => iv z, false⟩), (1003, ⟨30, none, (gM raw R sm j).2.2.map fun z : Nat => uv z, false⟩)]) (fun j => C - j) 0 (Nat.zero_le _) ?_ ?_
  · refine LeM [(1001, some 15), (1002, none), (1003, none)] rfl rfl ?_
    refine Zz ?_
    exact ⟨rfl, ⟨rfl, rfl, rfl⟩, rfl, rfl, rfl⟩
  · intro j hj
    have hg := qh7 (raw := raw) (R := R) (st := sm) j
    have hjR : j * R ≤ 1000 * 1000 := Nat.mul_le_mul (by omega) hR
    refine wk ?_
    by_cases hlt : j < C
    · have hlt' : (j : Int) < C := by omega
      refine wk1 hlt' ?_
      refine q0T (fun i => i ≤ R) [0, 1, 2, 3, 8, 9, 10] [8, 1001] Lk Lk (fun i : Nat => [(11, iv i)]) (fun i => [(9, ⟨52, some 5, [.ag [iv R, iv C, .ow 1001 none 0 (gM raw R sm j).1.length, .ow 1002 none 0 (gC raw R sm j (gM raw R sm j).2 i).1.length, .ow 1003 none 0 (gC raw R sm j (gM raw R sm j).2 i).2.length]], false⟩), (1002, ⟨3, none, (gC raw R sm j (gM raw R sm j).2 i).1.map fun z => iv z, false⟩), (1003, ⟨30, none, (gC raw R sm j (gM raw R sm j).2 i).2.map fun z : Nat => uv z, false⟩)]) (fun i => R - i) 0 (Nat.zero_le _) ?_ ?_
      · refine LeM [] rfl rfl ?_
        refine Zz ?_
        exact ⟨rfl, ⟨rfl, rfl⟩, rfl, rfl⟩
      · intro i hi
        have hq := qcj (raw := raw) (R := R) (st := sm) (j := j) hg.2.1 i
        refine wk ?_
        by_cases hlt2 : i < R
        · have hlt2' : (i : Int) < R := by omega
          refine wk1 hlt2' ?_
          have e0 : 0 ≤ (j : Int) * R := Int.mul_nonneg (by omega) (by omega)
          have e1 : (j : Int) * R ≤ 1000000 := by have : ((j * R : Nat) : Int) ≤ 1000000 := by omega
                                                  rwa [Int.natCast_mul] at this
          obtain ⟨x, hx⟩ : ∃ x, x = q7v raw (100 + j * R + i) := ⟨_, rfl⟩
          have hxl : x < 18446744073709551616 := by rw [hx]; exact q5z _ _
          have e2 : (((x : Nat) : Int).fdiv (2 ^ min (Int.toNat 40) 64)) = ((x / 1099511627776 : Nat) : Int) := by
            show (((x : Nat) : Int).fdiv (2 ^ 40)) = _
            rw [show ((2 : Int) ^ 40) = ((1099511627776 : Nat) : Int) from rfl, Int.fdiv_eq_ediv_of_nonneg _ (by omega)]; rfl
          have e3 : (((x / 1099511627776 : Nat) : Int).tmod 3) = ((x / 1099511627776 % 3 : Nat) : Int) := by rw [Int.tmod_eq_emod_of_nonneg (by omega)]; rfl
          have C1 := @qbE
          have C2 := @qhW
          have ek : (decide (((x / 1099511627776 % 3 : Nat) : Int) > 0)) = decide (keep x) := by unfold keep; congr 1; exact propext ⟨fun h => by omega, fun h => by omega⟩
          by_cases hkp : keep x
          · refine wk1 (x6 hx.symm hsm.symm e2 e3 ek hkp) ?_
            have eg : gC raw R sm j (gM raw R sm j).2 (i + 1) = ((gC raw R sm j (gM raw R sm j).2 i).1 ++ [(i : Int)], (gC raw R sm j (gM raw R sm j).2 i).2 ++ [q2j sm x]) := by
              simp only [gC]; rw [← hx, if_pos hkp]
            refine ⟨i + 1, by omega, by omega, ?_⟩
            rw [eg]
            refine LeM [(1002, some 43), (1003, some 51)] rfl rfl ?_
            refine Zz ?_
            omega
          · refine wk1 (x5 hx.symm e2 e3 ek hkp) ?_
            refine ⟨i + 1, by omega, by omega, ?_⟩
            have eg : gC raw R sm j (gM raw R sm j).2 (i + 1) = gC raw R sm j (gM raw R sm j).2 i := by
              simp only [gC]; rw [← hx, if_neg hkp]
            rw [eg]
            refine LeM [] rfl rfl ?_
            refine Zz ?_
            omega
        · have hlt2' : ¬ (i : Int) < R := by omega
          obtain rfl : i = R := by omega
          refine wk1 hlt2' ?_
          refine ⟨j + 1, by omega, by omega, ?_⟩
          refine LeM [(1001, some 59)] rfl rfl ?_
          refine Zz ?_
          exact ⟨by omega, ⟨by simp [gM], rfl, rfl⟩, rfl, rfl, rfl⟩
    · have hlt' : ¬ (j : Int) < C := by omega
      obtain rfl : j = C := by omega
      exact wk1 (x2 hlt' hsm.symm) trivial
def gF (raw:List Nat) (R st:Nat) (j i:Nat):Option Nat:=if keep (q7v raw (100+j*R+i)) then some (q2j st (q7v raw (100+j*R+i))) else none
theorem gC_s {raw:List Nat} {R st j i:Nat} {p:List Int × List Nat} {x:Nat} (hx:q7v raw (100+j*R+i)=x):gC raw R st j p (i+1)=if keep x then ((gC raw R st j p i).1 ++ [(i:Int)],(gC raw R st j p i).2 ++ [q2j st x]) else gC raw R st j p i:=by
 subst hx; rfl
theorem gF_x {raw:List Nat} {R st j i x:Nat} (hx:q7v raw (100+j*R+i)=x):gF raw R st j i=if keep x then some (q2j st x) else none:=by
 subst hx; rfl
theorem tC_go {f:Nat→Nat→Option Nat} {j i x:Nat} {p:List Int × List Nat} (h:f j i=some x):tC f j p (i+1)=((tC f j p i).1 ++ [(i:Int)],(tC f j p i).2 ++ [x]):=by simp only [tC,h]
theorem tC_no {f:Nat→Nat→Option Nat} {j i:Nat} {p:List Int × List Nat} (h:f j i=none):tC f j p (i+1)=tC f j p i:=by simp only [tC,h]
theorem gC_eq {raw:List Nat} {R st j:Nat} {p:List Int × List Nat} {G:Nat→Nat→Option Nat} (hG:∀ i,G j i=gF raw R st j i) (i:Nat):gC raw R st j p i=tC G j p i:=by
 induction i with
 | zero=>unfold gC tC; rfl
 | succ i ih =>
  obtain ⟨x,hx⟩:∃ x,q7v raw (100+j*R+i)=x:=⟨_,rfl⟩;have e2:=(hG i).trans (gF_x (R:=R) (st:=st) hx);rw [gC_s hx,ih]
  by_cases h:keep x
  ·rw [if_pos h] at e2 ⊢;rw [tC_go e2]
  ·rw [if_neg h] at e2 ⊢;rw [tC_no e2]
theorem gM_eq {raw:List Nat} {R st:Nat} (j:Nat):gM raw R st j=tM (gF raw R st) R j:=by
 induction j with
 | zero=>rfl
 | succ j ih =>
  have e1:gM raw R st (j+1)=((gM raw R st j).1 ++ [((gC raw R st j (gM raw R st j).2 R).1.length:Int)],gC raw R st j (gM raw R st j).2 R):=rfl;rw [e1,ih,gC_eq (G:=gF raw R st) fun _=>rfl]; rfl
theorem q5O {raw:List Nat} {st:Int} {R C:Nat} (hr:raw.length≤9223372036854775807) (hR:R≤1000) (hC:C≤1000) (h3 : -9223372036854775808≤st) (h4:st≤9223372036854775807) :
  ACt 29 [pF raw,iv R,iv C,iv st] (pT R C (gF raw R (q3X st 4))):=by
 have:=qaa (R:=R) (C:=C) hr hR hC h3 h4;rw [gM_eq] at this;exact this
theorem num1_ok {x:Nat} (hx:x < 18446744073709551616):q0V (q2j 1 x)∧q2j 1 x < 18446744073709551616:=by
 unfold q0V q2j;rw [if_pos rfl];omega
theorem qjq {x:Nat} (hx:x < 18446744073709551616):q0V (q2j 2 x)∧q2j 2 x < 18446744073709551616:=by
 unfold q0V q2j;rw [if_neg (by omega),if_pos rfl];have h1:x / 9223372036854775808≤1:=by omega
 have h2:x / 256 % 81 < 81:=by omega
 have h3:x / 2251799813685248 % 2≤1:=by omega
 generalize x / 9223372036854775808=a at *;generalize x / 256 % 81=b at *;generalize x / 2251799813685248 % 2=c at *;omega
theorem qcG {k x:Nat} (hx:x < 18446744073709551616):q0V (q2j k x)∧q2j k x < 18446744073709551616:=by
 by_cases h1:k=1
 ·subst h1;unfold q0V q2j;rw [if_pos rfl];omega
 by_cases h2:k=2
 ·subst h2; exact qjq hx
 by_cases h3:k=3
 ·subst h3;unfold q0V q2j;rw [if_neg (by omega),if_neg (by omega),if_pos rfl]
  split <;> omega
 have hs:=q9H x;unfold q2j;rw [if_neg h1,if_neg h2,if_neg h3];exact ⟨q4L (by omega),qcl (by omega)⟩
theorem qoo {raw:List Nat} {R C st:Nat} (hR:R≤200) (hC:C≤200) (hm:C*R≤10000):TOk (gF raw R st) R C:=by
 have key:∀ j i x,gF raw R st j i=some x→q0V x∧x < 18446744073709551616:=fun j i x h=>by
  obtain ⟨u,hu⟩:∃ u,q7v raw (100+j*R+i)=u:=⟨_,rfl⟩;have hl:u < 18446744073709551616:=by rw [← hu]; exact q5z _ _
  rw [gF_x hu] at h
  split at h
  ·have h:=Option.some.inj h;rw [← h]; exact qcG hl
  ·cases h
 exact ⟨hR,hC,hm,fun j i x _ _ h=>(key j i x h).2,fun j i x _ _ h=>(key j i x h).1⟩
end Go.Proofs.YtbcmhlhgljoolaaGreatDoor
