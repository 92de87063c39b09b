/- KrylovSteps. 4/7. -/
import Derived.Test.YtbcmhlhgljoolaaGreatDoorPt3
set_option linter.unusedSimpArgs false
set_option linter.unusedVariables false
set_option maxRecDepth 20000
set_option maxHeartbeats 2000000
set_option linter.defProp false
namespace Go.E
open Go Go.RowKit
class Cn (α:Type) where
 k:α
def cK (p:Prop) [A:Cn Prop]:Prop:=p∧A.k
def oK {α:Type} (o:Option α) [K:Cn (α→Prop)]:Prop:=q2r o K.k
def nnK (o:Option Bk) (d:Nat) (A:Prop):Prop:=(o=none∧d < 5000)∧A
def q28 (k:Kd) (x:PV) (A:Prop):Prop:=q7a k x∧A
def vK (x:PV) (K:PV→Prop):Prop:=K x
def ldK (o:Option (PV × List Nat)) [K:Cn (PV→List Nat→Prop)]:Prop:=match o with | some (x,l)=>K.k x l | none=>False
def pgA (o:Option Bool) (b:Bool) [A:Cn Prop] [B:Cn Prop]:Prop:=match o with | some c=>if c=b then A.k else B.k | none=>False
def mkA (bytes:Nat) (l c:PV) (K:Nat→Prop):Prop:=match l,c with | .vl (.int _ a),.vl (.int _ b)=>a=b∧0≤a∧bytes*a.toNat≤281474976710656∧a.toNat≤maxLen∧K a.toNat | _,_=>False
def qc5 (k:Kd) (l:List PV) (A:Prop):Prop:=(∀ x ∈ l,q7a k x)∧A
def qad (o:Option Bk) (k:Option Kd) (m:Option Nat) (i j:Nat) (x:PV) (K:Bk→Prop):Prop :=
 ∃ b k' u u',o=some b∧k=some k'∧m=some (ksz k')∧b.st=false∧q7a k' x∧b.xs[i]?=some u∧stU b.k k' j u x=some u'∧K { b with xs:=b.xs.set i u' }
def qqO (h:Hp) (k:Option Kd) (m:Option Nat) (p x:PV) (K:Nat→Bk→Prop):Prop:=match p with | .pt id i j=>qad (h id) k m i j x (K id) | _=>False
def qmC (o:Option Bk) (E:TypeId) (k k':Kd) (off n id:Nat) (K:List PV→Option Nat→Prop):Prop:=∃ b,o=some b∧(b.st=false∧b.T=E∧b.k=k∧k'=k∧off=0∧n=b.xs.length)∧K b.xs (some id)
def qmD (h:Hp) (E:TypeId) (k:Kd) (p:PV) (K:List PV→Option Nat→Prop):Prop:=match p with
 | .vl (.slice none 0 0)=>K [] none
 | .ow id k' off n=>qmC (h id) E k k' off n id K
 | _=>False
def qrV (h:Hp) (i0:Option Nat) (b:Bk):Hp:=match i0 with | none=>h | some i=>q07 h i b
def qmB (o:Option Bk) (k k':Kd) (off n id:Nat) (K:List PV→List Nat→Prop):Prop:=∃ b,o=some b∧(b.st=false∧b.k=k∧k'=k)∧K ((b.xs.drop off).take n) [id]
def qhJ (h:Hp) (k:Kd) (p:PV) (K:List PV→List Nat→Prop):Prop:=match p with
 | .vl (.slice none 0 0)=>K [] []
 | .sl k' l=>k'=k∧K l []
 | .ow id k' off n=>qmB (h id) k k' off n id K
 | _=>False
noncomputable def cO {α:Type} (p:Prop) (o:Option α):Option α:=open Classical in if p then o else none
def ClL (l:List PV):Prop:=∀ x ∈ l,Cld x
noncomputable def clB (o:Option Bk) (id:Nat) (k:Kd) (off n:Nat):Option (PV × List Nat):=open Classical in o.bind fun b=>if b.st=false∧b.k=k∧∀ x ∈ b.xs,Cld x then some (.sl k ((b.xs.drop off).take n),[id]) else none
def qgH (a:Option (PV × List Nat)) (b:Option (List PV × List Nat)):Option (List PV × List Nat):=a.bind fun a=>b.map fun b=>(a.1 :: b.1,a.2 ++ b.2)
def q5S (P:Program) (Tb:World→Prop) (f:FuncId) (o:Option (List PV × List Nat)) [K:Cn (PV→List Nat→Prop)]:Prop:=∃ al ids x,o=some (al,ids)∧AC P Tb f al x∧(ids=[]∨Nz x)∧K.k x ids
def ao (P : Program) (Tb : World → Prop) (d : Option Nat) (op : Op) (s : Nat → PV) (h : Hp) (K : PV → Hp → FP → Prop) : Prop := ∃ x h' fp, Stp P Tb ⟨d, op, 0, "", #[], none⟩ s h x h' fp ∧ K x h' fp
def qqY (prs:List (Nat × Nat)) (acc:List FP):Prop:=chk prs acc.reverse
section
variable {P:Program} {Tb:World→Prop}
@[congr] theorem qsd {o o':Option Bk} {d:Nat} {A:Prop} (h:o=o'):nnK o d A=nnK o' d A:=by rw [h]
@[congr] theorem qqW {k:Kd} {x x':PV} {A:Prop} (h:x=x'):q28 k x A=q28 k x' A:=by rw [h]
@[congr] theorem qqV {k:Kd} {x x':List PV} {A:Prop} (h:x=x'):qc5 k x A=qc5 k x' A:=by rw [h]
@[congr] theorem vK_congr {x x':PV} {K:PV→Prop} (h:x=x'):vK x K=vK x' K:=by rw [h]
@[congr] theorem qsi {y:Nat} {l l' c c':PV} {K:Nat→Prop} (h:l=l') (h':c=c'):mkA y l c K=mkA y l' c' K:=by rw [h,h']
@[congr] theorem qqP {o o':Option Bk} {k k':Option Kd} {m m':Option Nat} {i j:Nat} {x:PV} {K:Bk→Prop} (h1:o=o') (h2:k=k') (h3:m=m'):qad o k m i j x K=qad o' k' m' i j x K:=by rw [h1,h2,h3]
@[congr] theorem qqN {h:Hp} {k k':Option Kd} {m m':Option Nat} {p p' x x':PV} {K:Nat→Bk→Prop} (h1:p=p') (h2:x=x'):qqO h k m p x K=qqO h k m p' x' K:=by rw [h1,h2]
@[congr] theorem qq4 {o o':Option Bk} {E:TypeId} {k k':Kd} {off n id:Nat} {K:List PV→Option Nat→Prop} (h:o=o'):qmC o E k k' off n id K=qmC o' E k k' off n id K:=by rw [h]
@[congr] theorem qq5 {h:Hp} {E:TypeId} {k:Kd} {p p':PV} {K:List PV→Option Nat→Prop} (h1:p=p'):qmD h E k p K=qmD h E k p' K:=by rw [h1]
@[congr] theorem qq2 {o o':Option Bk} {k k':Kd} {off n id:Nat} {K:List PV→List Nat→Prop} (h:o=o'):qmB o k k' off n id K=qmB o' k k' off n id K:=by rw [h]
@[congr] theorem qq3 {h:Hp} {k:Kd} {p p':PV} {K:List PV→List Nat→Prop} (h1:p=p'):qhJ h k p K=qhJ h k p' K:=by rw [h1]
@[congr] theorem ao_congr {d:Option Nat} {op:Op} {s:Nat→PV} {h:Hp} {K:PV→Hp→FP→Prop}:ao P Tb d op s h K=ao P Tb d op s h K:=rfl
@[congr] theorem AL_congr {ops l:List Oper} {K:(Nat→PV)→Hp→List FP→Prop} {s:Nat→PV} {h:Hp} {acc:List FP}:AL P Tb ops K l s h acc=AL P Tb ops K l s h acc:=rfl
@[congr] theorem AW_congr {J:Nat→Prop} {n:Nat} {c:Code} {Q:SQ} {s:Nat→PV} {h:Hp}:AW P Tb J n c Q s h=AW P Tb J n c Q s h:=rfl
def cK_t {A:Prop}:@cK True ⟨A⟩=A:=by simp [cK]
def cK_of {p A:Prop} (h:p):@cK p ⟨A⟩=A:=by simp [cK,h]
def nnK_n {A:Prop} {d:Nat}:nnK none d A=@cK (d < 5000) ⟨A⟩:=by simp [nnK,cK]
def oK_s {α:Type} {x:α} {K:α→Prop}:@oK _ (some x) ⟨K⟩=K x:=rfl
def vK_v {x:PV} {K:PV→Prop}:vK x K=K x:=rfl
def ldK_s {x:PV} {l:List Nat} {K:PV→List Nat→Prop}:@ldK (some (x,l)) ⟨K⟩=K x l:=rfl
def qsY {A B:Prop}:@pgA (some true) true ⟨A⟩ ⟨B⟩=A:=by simp [pgA]
def qsZ {A B:Prop}:@pgA (some true) false ⟨A⟩ ⟨B⟩=B:=by simp [pgA]
def qs0 {A B:Prop}:@pgA (some false) true ⟨A⟩ ⟨B⟩=B:=by simp [pgA]
def qs1 {A B:Prop}:@pgA (some false) false ⟨A⟩ ⟨B⟩=A:=by simp [pgA]
def mkA_n {y n:Nat} {k k':IntKind} {K:Nat→Prop}:mkA y (.vl (.int k (n:Int))) (.vl (.int k' (n:Int))) K=@cK (y*n≤281474976710656∧n≤9223372036854775807) ⟨K n⟩:=by
 simp only [mkA,cK,Int.toNat_natCast,maxLen,true_and];exact propext ⟨fun h=>⟨⟨h.2.1,h.2.2.1⟩,h.2.2.2⟩,fun h=>⟨by omega,h.1.1,h.1.2,h.2⟩⟩
def qlK {k:IntKind} {z:Int} {A:Prop}:q28 none (.vl (.int k z)) A=@cK (q4n (.int k z)=true) ⟨A⟩:=by simp [q28,q7a,qfe,qn6,cK,Value.oneCell']
def qtT {b:Bool} {A:Prop}:q28 none (.vl (.bool b)) A=A:=by simp [q28,q7a,qfe,qn6,Value.oneCell',q4n]
def qoZ {a:Option Addr} {m c:Nat} {A:Prop}:q28 none (.vl (.slice a m c)) A=A:=by simp [q28,q7a,qfe,qn6,Value.oneCell',q4n]
def qtO {k:Kd} {l:List PV} {A:Prop}:q28 none (.sl k l) A=A:=by simp [q28,q7a,qfe]
def qtQ {id off m:Nat} {k:Kd} {A:Prop}:q28 none (.ow id k off m) A=A:=by simp [q28,q7a,qfe]
def qtP {id i j:Nat} {A:Prop}:q28 none (.pt id i j) A=A:=by simp [q28,q7a,qfe]
def qtU {m:Nat} {l:List PV} {A:Prop}:q28 (some m) (.ag l) A=@cK (l.length=m) ⟨qc5 none l A⟩:=by
 simp only [q28,q7a,cK,qc5,and_assoc]
def qbL {k:Kd} {A:Prop}:qc5 k [] A=A:=by simp [qc5]
def qbM {k:Kd} {x:PV} {l:List PV} {A:Prop}:qc5 k (x :: l) A=q28 k x (qc5 k l A):=by simp [qc5,q28,and_assoc]
def qtS {m:Nat} {G:Fam} {A:Prop} (hf:∀ D v w,In G D v w→q3F (some m) v):q28 (some m) (.fm G) A=A:=by simp only [q28,q7a]; exact propext ⟨fun h=>h.2,fun h=>⟨hf,h⟩⟩
def qrQ {h:Hp} {k:Option Kd} {m:Option Nat} {id i j:Nat} {x:PV} {K:Nat→Bk→Prop}:qqO h k m (.pt id i j) x K=qad (h id) k m i j x (K id):=rfl
def qk3 {T:TypeId} {k:Kd} {xs:List PV} {i:Nat} {x:PV} {K:Bk→Prop}:qad (some ⟨T,k,xs,false⟩) (some k) (some (ksz k)) i 0 x K=@cK (i < xs.length) ⟨q28 k x (K ⟨T,k,xs.set i x,false⟩)⟩:=by
 simp only [qad,cK,q28];refine propext ⟨?_,?_⟩
 ·rintro ⟨b,k',u,u',h1,h2,_,_,h5,h6,h7,h8⟩;cases h1; cases h2;have hlt:=(List.getElem?_eq_some_iff.1 h6).1;simp only [stU,and_self,if_true] at h7;cases h7;exact ⟨hlt,h5,h8⟩
 ·rintro ⟨h1,h2,h3⟩;exact ⟨_,k,_,x,rfl,rfl,rfl,rfl,h2,List.getElem?_eq_getElem h1,by simp [stU],h3⟩
def qmh {T:TypeId} {xs:List PV} {i:Nat} {x:PV} {K:Bk→Prop}:qad (some ⟨T,none,xs,false⟩) (some none) (some 1) i 0 x K=@cK (i < xs.length) ⟨q28 none x (K ⟨T,none,xs.set i x,false⟩)⟩:=qk3
def qmg {T:TypeId} {m:Nat} {xs:List PV} {i:Nat} {x:PV} {K:Bk→Prop}:qad (some ⟨T,some m,xs,false⟩) (some (some m)) (some m) i 0 x K=@cK (i < xs.length) ⟨q28 (some m) x (K ⟨T,some m,xs.set i x,false⟩)⟩:=qk3
def qrS {T:TypeId} {m j:Nat} {l:List PV} {x:PV} {K:Bk→Prop}:qad (some ⟨T,some m,[.ag l],false⟩) (some none) (some 1) 0 j x K=@cK (j < l.length) ⟨q28 none x (K ⟨T,some m,[.ag (l.set j x)],false⟩)⟩:=by
 simp only [qad,cK,q28];refine propext ⟨?_,?_⟩
 ·rintro ⟨b,k',u,u',h1,h2,_,_,h5,h6,h7,h8⟩;cases h1; cases h2;simp at h6;subst h6;unfold stU at h7;rw [if_neg (by simp)] at h7;simp only at h7
  split at h7
  ·cases h7; exact ⟨by assumption,h5,h8⟩
  ·cases h7
 ·rintro ⟨h1,h2,h3⟩;exact ⟨_,none,.ag l,.ag (l.set j x),rfl,rfl,rfl,rfl,h2,rfl,by unfold stU; rw [if_neg (by simp)]; simp [h1],h3⟩
def qrR {T:TypeId} {n m j:Nat} {l r:List PV} {K:Bk→Prop} (hn:n≠m):qad (some ⟨T,some n,[.ag l],false⟩) (some (some m)) (some m) 0 j (.ag r) K=@cK (r.length=m∧j+m≤l.length) ⟨q28 (some m) (.ag r) (K ⟨T,some n,[.ag (l.take j ++ r ++ l.drop (j+m))],false⟩)⟩:=by
 have e:stU (some n) (some m) j (.ag l) (.ag r)=if r.length=m∧j+m≤l.length then some (.ag (l.take j ++ r ++ l.drop (j+m))) else none:=by
  unfold stU; rw [if_neg (by simp [hn])]
 simp only [qad,cK,q28];refine propext ⟨?_,?_⟩
 ·rintro ⟨b,k',u,u',h1,h2,_,_,h5,h6,h7,h8⟩;cases h1; cases h2;simp at h6;subst h6;rw [e] at h7
  split at h7
  ·cases h7; exact ⟨by assumption,h5,h8⟩
  ·cases h7
 ·rintro ⟨h1,h2,h3⟩;exact ⟨_,some m,.ag l,_,rfl,rfl,rfl,rfl,h2,rfl,by rw [e,if_pos h1],h3⟩
def ldU_b {a b c d:PV}:ldU (some 4) (some 2) 1 (.ag [a,b,c,d])=some (.ag [b,c]):=by simp [ldU]
def qul {h:Hp} {E:TypeId} {k:Kd} {K:List PV→Option Nat→Prop}:qmD h E k (.vl (.slice none 0 0)) K=K [] none:=rfl
def quk {h:Hp} {E:TypeId} {k k':Kd} {id off m:Nat} {K:List PV→Option Nat→Prop}:qmD h E k (.ow id k' off m) K=qmC (h id) E k k' off m id K:=rfl
def quj {E:TypeId} {k:Kd} {xs:List PV} {id m:Nat} {K:List PV→Option Nat→Prop}:qmC (some ⟨E,k,xs,false⟩) E k k 0 m id K=@cK (m=xs.length) ⟨K xs (some id)⟩:=by
 simp [qmC,cK]
def qui {h:Hp} {k:Kd} {K:List PV→List Nat→Prop}:qhJ h k (.vl (.slice none 0 0)) K=K [] []:=rfl
def qug {h:Hp} {k:Kd} {l:List PV} {K:List PV→List Nat→Prop}:qhJ h k (.sl k l) K=K l []:=by simp [qhJ]
def quh {h:Hp} {k k':Kd} {id off m:Nat} {K:List PV→List Nat→Prop}:qhJ h k (.ow id k' off m) K=qmB (h id) k k' off m id K:=rfl
def quf {T:TypeId} {k:Kd} {xs:List PV} {off m id:Nat} {K:List PV→List Nat→Prop}:qmB (some ⟨T,k,xs,false⟩) k k off m id K=K ((xs.drop off).take m) [id]:=by
 simp [qmB]
variable {d:Option Nat} {ty t:TypeId} {pos:String} {af:Array Edge} {g:Option (Nat × Bool)} {s:Nat→PV} {h:Hp} {K:PV→Hp→FP→Prop} {ops r:List Oper} {KL:(Nat→PV)→Hp→List FP→Prop} {acc:List FP} {dd:Nat}
def qwK:AL P Tb ops KL [] s h acc=KL s h acc:=rfl
def AL_n {op:Op}:AL P Tb ops KL (⟨d,op,ty,pos,af,none⟩ :: r) s h acc=ao P Tb d op s h fun x h' fp=>AL P Tb ops KL r (q36 s d x) h' (fp :: acc):=rfl
def AL_g {op:Op} {j:Nat} {b:Bool}:AL P Tb ops KL (⟨d,op,ty,pos,af,some (j,b)⟩ :: r) s h acc=@pgA (q3P ops s j b) b ⟨ao P Tb d op s h fun x h' fp=>AL P Tb ops KL r (q36 s d x) h' (fp :: acc)⟩ ⟨AL P Tb ops KL r (q36 s d (.vl undef)) h (([],[]) :: acc)⟩:=by
 refine propext ⟨?_,fun hp=>?_⟩
 ·rintro ⟨x,h',fp,hg,hk⟩;unfold q7w at hg;simp only at hg;obtain ⟨c,hc,hg⟩:=hg;unfold pgA;rw [hc];simp only
  split at hg
  ·rename_i hcb; rw [if_pos hcb]; exact ⟨x,h',fp,hg,hk⟩
  ·rename_i hcb; rw [if_neg hcb]; obtain ⟨rfl,rfl,rfl⟩:=hg; exact hk
 ·unfold pgA at hp
  split at hp
  ·rename_i c hc
   split at hp
   ·rename_i hcb;obtain ⟨x,h',fp,hg,hk⟩:=hp;exact ⟨x,h',fp,by unfold q7w; exact ⟨c,hc,by rw [if_pos hcb]; exact hg⟩,hk⟩
   ·rename_i hcb;exact ⟨.vl undef,h,([],[]),by unfold q7w; exact ⟨c,hc,by rw [if_neg hcb]; exact ⟨rfl,rfl,rfl⟩⟩,hp⟩
  ·exact hp.elim
def q4l {α:Type} {o:Option α} {K:α→Prop}:@oK _ o ⟨K⟩=∃ a,o=some a∧K a:=by
 cases o <;> simp [oK,q2r]
def q3e {op : Op} (hs : ∀ x h' fp, Stp P Tb ⟨d, op, 0, "", #[], none⟩ s h x h' fp = (q5J P op (pe s) = some x ∧ h' = h ∧ fp = ([], []))) : ao P Tb d op s h K = @oK _ (q5J P op (pe s)) ⟨fun x => K x h ([], [])⟩ := by
 rw [q4l];unfold ao;refine propext ⟨?_,?_⟩
 ·rintro ⟨x,h',fp,h1,h2⟩;rw [hs] at h1;obtain ⟨h1,rfl,rfl⟩:=h1;exact ⟨x,h1,h2⟩
 ·rintro ⟨x,h1,h2⟩;exact ⟨x,h,([],[]),by rw [hs]; exact ⟨h1,rfl,rfl⟩,h2⟩
def qpj {x}:ao P Tb d (.move x) s h K=vK (pe s x) fun x=>K x h ([],[]):=q3e fun _ _ _=>rfl
def qgf {x}:ao P Tb d (.assign x) s h K=vK (pe s x) fun x=>K x h ([],[]):=q3e fun _ _ _=>rfl
def qpi {c a b}:ao P Tb d (.pick c a b) s h K=@oK _ (pkP (pe s c) (pe s a) (pe s b)) ⟨fun x=>K x h ([],[])⟩:=q3e fun _ _ _=>rfl
def qjt {op x y t'}:ao P Tb d (.binOp op t x y t') s h K=@oK _ (bnP P op t (pe s x) (pe s y)) ⟨fun x=>K x h ([],[])⟩:=q3e fun _ _ _=>rfl
def qph {op x}:ao P Tb d (.unOp op t x) s h K=@oK _ (unP op (pe s x)) ⟨fun x=>K x h ([],[])⟩:=q3e fun _ _ _=>rfl
def qcj {a b x}:ao P Tb d (.convert a b x) s h K=@oK _ (cvP (P.underlying a) (P.underlying b) (pe s x)) ⟨fun x=>K x h ([],[])⟩:=q3e fun _ _ _=>rfl
def q8w {x f}:ao P Tb d (.fieldAddr t x f) s h K=@oK _ (qqU P t f (pe s x)) ⟨fun x=>K x h ([],[])⟩:=q3e fun _ _ _=>rfl
def qci {x i}:ao P Tb d (.extract x i) s h K=@oK _ (exP i (pe s x)) ⟨fun x=>K x h ([],[])⟩:=q3e fun _ _ _=>rfl
def qaO {x}:ao P Tb d (.nilCheck x) s h K=@oK _ (nlP (pe s x)) ⟨fun x=>K x h ([],[])⟩:=q3e fun _ _ _=>rfl
def q8v {x i}:ao P Tb d (.indexAddr t x i) s h K=@oK _ (qbG (q0n P t) (pe s x) (pe s i)) ⟨fun x=>K x h ([],[])⟩:=q3e fun _ _ _=>rfl
def qjq {x lo hi}:ao P Tb d (.slice t x lo hi none) s h K=@oK _ (slP (q0n P t) (lo.map (pe s)) (hi.map (pe s)) (pe s x)) ⟨fun x=>K x h ([],[])⟩:=q3e fun _ _ _=>rfl
def fnP_q {f:FuncId} {z:Int}:fnP (.func f) #[] [.qt none (.vl (.int .i64 z))]=some (.fm (fFun f z)):=rfl
def qur {fn:Fn} {cap:List Operand} {first:Array Operand}:ao P Tb d (.makeFunc fn first cap.toArray) s h K=@oK _ (fnP fn first (cap.map (pe s))) ⟨fun x=>K x h ([],[])⟩:=q3e fun _ _ _=>rfl
def qjr {ps:List (Nat × Operand)}:ao P Tb d (.build t ps.toArray) s h K=@oK _ (blP P t (ps.map fun p=>(p.1,pe s p.2))) ⟨fun x=>K x h ([],[])⟩:=q3e fun _ _ _=>rfl
def quq {x}:ao P Tb d (.call ⟨.builtin .len,#[x],#[t]⟩) s h K=@oK _ (qqR (q0n P t) (pe s x)) ⟨fun x=>K x h ([],[])⟩:=q3e fun _ _ _=>rfl
def qup {x y ts}:ao P Tb d (.call ⟨.builtin .max,#[x,y],ts⟩) s h K=@oK _ (mmP true [pe s x,pe s y]) ⟨fun x=>K x h ([],[])⟩:=q3e fun _ _ _=>rfl
def qun {x y ts}:ao P Tb d (.call ⟨.builtin .min,#[x,y],ts⟩) s h K=@oK _ (mmP false [pe s x,pe s y]) ⟨fun x=>K x h ([],[])⟩:=q3e fun _ _ _=>rfl
def qpl {a}:ao P Tb d (.load t a) s h K=@ldK (ldP h (q0f P t) (pe s a)) ⟨fun x l=>K x h (l,[])⟩:=by
 unfold ao ldK;refine propext ⟨?_,fun hk=>?_⟩
 ·rintro ⟨x,h',fp,⟨r,h1,rfl,rfl,rfl⟩,hk⟩;rw [h1];exact hk
 ·split at hk
  ·rename_i x l hl;exact ⟨x,h,(l,[]),⟨(x,l),hl,rfl,rfl,rfl⟩,hk⟩
  ·exact hk.elim
def qju:ao P Tb (some dd) (.alloc t) s h K=nnK (h dd) dd (@oK _ (alB P t) ⟨fun b=>K (.pt dd 0 0) (q07 h dd b) ([],[dd])⟩):=by
 unfold ao nnK;rw [q4l];refine propext ⟨?_,?_⟩
 ·rintro ⟨x,h',fp,⟨d,b,h1,h2,h3,rfl,rfl,rfl⟩,hk⟩;cases h1;exact ⟨h2,b,h3,hk⟩
 ·rintro ⟨h2,b,h3,hk⟩;exact ⟨_,_,_,⟨dd,b,rfl,h2,h3,rfl,rfl,rfl⟩,hk⟩
def quw {v}:ao P Tb (some dd) (.box t v) s h K=nnK (h dd) dd (@oK _ (q0f P t) ⟨fun k=>vK (pe s v) fun x=>q28 k x (K (.pt dd 0 0) (q07 h dd ⟨t,k,[x],false⟩) ([],[dd]))⟩):=by
 unfold ao nnK q28 vK;rw [q4l];refine propext ⟨?_,?_⟩
 ·rintro ⟨x,h',fp,⟨d,k,h1,h2,h3,h4,rfl,rfl,rfl⟩,hk⟩;cases h1;exact ⟨h2,k,h3,h4,hk⟩
 ·rintro ⟨h2,k,h3,h4,hk⟩;exact ⟨_,_,_,⟨dd,k,rfl,h2,h3,h4,rfl,rfl,rfl⟩,hk⟩
def qjs {len:Nat} {ps:List (Nat × Operand)} (hp:ps.map (·.1)=List.range len):ao P Tb (some dd) (.buildSlice t len ps.toArray) s h K=nnK (h dd) dd (@oK _ (elK P t) ⟨fun e=>@cK (len*ksz e.2.1≤16777216) ⟨qc5 e.2.1 (ps.map fun p=>pe s p.2) (K (.ow dd e.2.1 0 len) (q07 h dd ⟨e.1,e.2.1,ps.map fun p=>pe s p.2,false⟩) ([],[dd]))⟩⟩):=by
 unfold ao nnK qc5 cK;rw [q4l];refine propext ⟨?_,?_⟩
 ·rintro ⟨x,h',fp,⟨d,E,k,bytes,h1,h2,h3,h4,h5,h6,rfl,rfl,rfl⟩,hk⟩;cases h1;exact ⟨h2,(E,k,bytes),h3,h5,fun x hx=>by obtain ⟨p,hp,rfl⟩:=List.mem_map.1 hx; exact h6 p hp,hk⟩
 ·rintro ⟨h2,⟨E,k,bytes⟩,h3,h5,h6,hk⟩;exact ⟨_,_,_,⟨dd,E,k,bytes,rfl,h2,h3,hp,h5,fun p hp=>h6 _ (List.mem_map.2 ⟨p,hp,rfl⟩),rfl,rfl,rfl⟩,hk⟩
def quv:ao P Tb (some dd) (.buildSlice t 0 #[]) s h K=nnK (h dd) dd (@oK _ (elK P t) ⟨fun e=>K (.ow dd e.2.1 0 0) (q07 h dd ⟨e.1,e.2.1,[],false⟩) ([],[dd])⟩):=by
 have:=qjs (P:=P) (Tb:=Tb) (s:=s) (h:=h) (K:=K) (t:=t) (dd:=dd) (len:=0) (ps:=[]) rfl;simpa [oK,cK,qc5] using this
def quu {a}:ao P Tb (some dd) (.buildSlice t 1 #[(0,a)]) s h K=nnK (h dd) dd (@oK _ (elK P t) ⟨fun e=>@cK (ksz e.2.1≤16777216) ⟨vK (pe s a) fun x=>q28 e.2.1 x (K (.ow dd e.2.1 0 1) (q07 h dd ⟨e.1,e.2.1,[x],false⟩) ([],[dd]))⟩⟩):=by
 have:=qjs (P:=P) (Tb:=Tb) (s:=s) (h:=h) (K:=K) (t:=t) (dd:=dd) (len:=1) (ps:=[(0,a)]) rfl;simpa [oK,cK,qbM,qbL,vK] using this
def qut {a b}:ao P Tb (some dd) (.buildSlice t 2 #[(0,a),(1,b)]) s h K=nnK (h dd) dd (@oK _ (elK P t) ⟨fun e=>@cK (2*ksz e.2.1≤16777216) ⟨vK (pe s a) fun x=>vK (pe s b) fun y=>q28 e.2.1 x (q28 e.2.1 y (K (.ow dd e.2.1 0 2) (q07 h dd ⟨e.1,e.2.1,[x,y],false⟩) ([],[dd])))⟩⟩):=by
 have:=qjs (P:=P) (Tb:=Tb) (s:=s) (h:=h) (K:=K) (t:=t) (dd:=dd) (len:=2) (ps:=[(0,a),(1,b)]) rfl;simpa [oK,cK,qbM,qbL,vK] using this
def qus {a b c}:ao P Tb (some dd) (.buildSlice t 3 #[(0,a),(1,b),(2,c)]) s h K=nnK (h dd) dd (@oK _ (elK P t) ⟨fun e=>@cK (3*ksz e.2.1≤16777216) ⟨vK (pe s a) fun x=>vK (pe s b) fun y=>vK (pe s c) fun z=>q28 e.2.1 x (q28 e.2.1 y (q28 e.2.1 z (K (.ow dd e.2.1 0 3) (q07 h dd ⟨e.1,e.2.1,[x,y,z],false⟩) ([],[dd]))))⟩⟩):=by
 have:=qjs (P:=P) (Tb:=Tb) (s:=s) (h:=h) (K:=K) (t:=t) (dd:=dd) (len:=3) (ps:=[(0,a),(1,b),(2,c)]) rfl;simpa [oK,cK,qbM,qbL,vK] using this
def qpk {l c}:ao P Tb (some dd) (.makeSlice t l c) s h K=nnK (h dd) dd (@oK _ (elZ P t) ⟨fun e=>mkA e.2.2.1 (pe s l) (pe s c) fun n=>K (.ow dd e.2.1 0 n) (q07 h dd ⟨e.1,e.2.1,List.replicate n e.2.2.2,false⟩) ([],[dd])⟩):=by
 unfold ao nnK;rw [q4l];refine propext ⟨?_,?_⟩
 ·rintro ⟨x,h',fp,⟨d,E,k,bytes,z,kl,kc,n,h1,h2,h3,h4,h5,h6,h7,rfl,rfl,rfl⟩,hk⟩;cases h1;refine ⟨h2,_,h3,?_⟩;unfold mkA;rw [h4,h5];exact ⟨rfl,by omega,by simpa using h6,by simpa using h7,by simpa using hk⟩
 ·rintro ⟨h2,⟨E,k,bytes,z⟩,h3,hk⟩;unfold mkA at hk
  split at hk
  ·rename_i kl a kc b ha hb;obtain ⟨rfl,k1,k2,k3,hk⟩:=hk;have e1:((a.toNat:Nat):Int)=a:=by omega
   exact ⟨_,_,_,⟨dd,E,k,bytes,z,kl,kc,a.toNat,rfl,h2,h3,by rw [e1]; exact ha,by rw [e1]; exact hb,k2,k3,rfl,rfl,rfl⟩,hk⟩
  ·exact hk.elim
def qjp {a v}:ao P Tb d (.store t a v) s h K=qqO h (q0f P t) (q03 P t) (pe s a) (pe s v) fun id b=>K (.vl undef) (q07 h id b) ([id],[id]):=by
 unfold ao qqO qad;refine propext ⟨?_,fun hk=>?_⟩
 ·rintro ⟨x,h',fp,⟨id,i,j,b,k,u,u',h1,h2,h3,h4,h5,h6,h7,h8,rfl,rfl,rfl⟩,hk⟩;rw [h1];exact ⟨b,k,u,u',h2,h4,h5,h3,h6,h7,h8,hk⟩
 ·split at hk
  ·rename_i id i j h1;obtain ⟨b,k,u,u',h2,h4,h5,h3,h6,h7,h8,hk⟩:=hk;exact ⟨_,_,_,⟨id,i,j,b,k,u,u',h1,h2,h3,h4,h5,h6,h7,h8,rfl,rfl,rfl⟩,hk⟩
  ·exact hk.elim
def qgg {sx xx}:ao P Tb (some dd) (.call ⟨.builtin .append,#[sx,xx],#[t,t]⟩) s h K=nnK (h dd) dd (@oK _ (elK P t) ⟨fun e=>qmD h e.1 e.2.1 (pe s sx) fun xs i0=>qhJ h e.2.1 (pe s xx) fun ys ids=>@cK ((xs.length+ys.length)*(e.2.2+1)≤140737488355328) ⟨K (.ow dd e.2.1 0 (xs.length+ys.length)) (q07 (qrV h i0 ⟨e.1,e.2.1,xs,true⟩) dd ⟨e.1,e.2.1,xs ++ ys,false⟩) (ids,dd :: i0.toList)⟩⟩):=by
 have hL:∀ {E:TypeId} {k:Kd} {p:PV} {xs:List PV} {i0:Option Nat},apS h E k p=some (xs,i0)→qrV h i0 ⟨E,k,xs,true⟩=stl h i0:=fun {E k p xs i0} ha=>by
  unfold apS at ha
  split at ha
  ·cases ha; rfl
  ·obtain ⟨b,hb,hc⟩:=Option.bind_eq_some_iff.1 ha
   split at hc
   ·rename_i hcc;cases hc;obtain ⟨_,rfl,rfl,_⟩:=hcc;simp only [qrV,stl,hb]
   ·cases hc
  ·cases ha
 have hS:∀ {E:TypeId} {k:Kd} {p:PV} {K:List PV→Option Nat→Prop},qmD h E k p K=∃ xs i0,apS h E k p=some (xs,i0)∧K xs i0:=fun {E k p K}=>by
  refine propext ⟨fun hk=>?_,?_⟩
  ·unfold qmD at hk
   split at hk
   ·exact ⟨[],none,rfl,hk⟩
   ·unfold qmC at hk;obtain ⟨b,hb,hc,hk⟩:=hk;exact ⟨b.xs,some _,by unfold apS; simp only [hb,Option.bind_some]; rw [if_pos hc],hk⟩
   ·exact hk.elim
  ·rintro ⟨xs,i0,ha,hk⟩;unfold apS at ha
   split at ha
   ·cases ha; exact hk
   ·obtain ⟨b,hb,hc⟩:=Option.bind_eq_some_iff.1 ha
    split at hc
    ·rename_i hcc; cases hc; exact ⟨b,hb,hcc,hk⟩
    ·cases hc
   ·cases ha
 have hX:∀ {k:Kd} {p:PV} {K:List PV→List Nat→Prop},qhJ h k p K=∃ xs ids,apX h k p=some (xs,ids)∧K xs ids:=fun {k p K}=>by
  refine propext ⟨fun hk=>?_,?_⟩
  ·unfold qhJ at hk
   split at hk
   ·exact ⟨[],[],rfl,hk⟩
   ·obtain ⟨rfl,hk⟩:=hk;exact ⟨_,[],by unfold apX; simp,hk⟩
   ·unfold qmB at hk;obtain ⟨b,hb,hc,hk⟩:=hk;exact ⟨_,_,by unfold apX; simp only [hb,Option.bind_some]; rw [if_pos hc],hk⟩
   ·exact hk.elim
  ·rintro ⟨xs,ids,ha,hk⟩;unfold apX at ha
   split at ha
   ·cases ha; exact hk
   ·split at ha
    ·rename_i hkk; cases ha; exact ⟨hkk,hk⟩
    ·cases ha
   ·obtain ⟨b,hb,hc⟩:=Option.bind_eq_some_iff.1 ha
    split at hc
    ·rename_i hcc; cases hc; exact ⟨b,hb,hcc,hk⟩
    ·cases hc
   ·cases ha
 unfold ao nnK cK;rw [q4l];refine propext ⟨?_,?_⟩
 ·rintro ⟨x,h',fp,⟨sx',xx',T,d,E,k,bytes,xs,ys,i0,ids,h1,h2,h3,h4,h5,h6,h7,h8,rfl,rfl,rfl⟩,hk⟩;cases h1; cases h2; cases h3;refine ⟨h4,_,h5,?_⟩;rw [hS];refine ⟨xs,i0,h6,?_⟩;rw [hX];exact ⟨ys,ids,h7,h8,by rw [hL h6]; exact hk⟩
 ·rintro ⟨h4,⟨E,k,bytes⟩,h5,hk⟩;rw [hS] at hk;obtain ⟨xs,i0,h6,hk⟩:=hk;rw [hX] at hk;obtain ⟨ys,ids,h7,h8,hk⟩:=hk;simp only at hk;rw [hL h6] at hk;exact ⟨_,_,_,⟨sx,xx,t,dd,E,k,bytes,xs,ys,i0,ids,rfl,rfl,rfl,h4,h5,h6,h7,h8,rfl,rfl,rfl⟩,hk⟩
def qpm {f} {xs:List Operand} {ts}:ao P Tb d (.call ⟨.value (.func f),xs.toArray,ts⟩) s h K=@q5S P Tb f (q2e h (xs.map (pe s))) ⟨fun x ids=>K x h (ids,[])⟩:=by
 unfold ao q5S;refine propext ⟨?_,?_⟩
 ·rintro ⟨x,h',fp,⟨al,ids,h1,h2,h3,rfl,rfl⟩,hk⟩;exact ⟨al,ids,x,by simpa using h1,h2,h3,hk⟩
 ·rintro ⟨al,ids,x,h1,h2,h3,hk⟩;exact ⟨x,h,(ids,[]),⟨al,ids,by simpa using h1,h2,h3,rfl,rfl⟩,hk⟩
def qfn (P:Program) (Tb:World→Prop) (h:Hp) (v:PV) (xs:List PV) [K:Cn (PV→List Nat→Prop)]:Prop:=∃ f ys,FnP v f ys∧@q5S P Tb f (q2e h (xs ++ ys)) K
def qjU {v:PV} {xs:List PV} {f:FuncId} {ys:List PV} {K:Cn (PV→List Nat→Prop)} (hv:FnP v f ys) (hc:@q5S P Tb f (q2e h (xs ++ ys)) K):@qfn P Tb h v xs K:=⟨f,ys,hv,hc⟩
def FnP_v {f:FuncId}:FnP (.vl (.func (.func f) #[] #[])) f []:=fun w D ρ h v hv=>by
 unfold Rd at hv;exact ⟨[],hv,by unfold RdL; rfl⟩
def qbh {t:Nat} {xs:List Operand} {ts}:ao P Tb d (.call ⟨.value (.tmp t),xs.toArray,ts⟩) s h K=@qfn P Tb h (s t) (xs.map (pe s)) ⟨fun x ids=>K x h (ids,[])⟩:=by
 unfold ao qfn q5S;refine propext ⟨?_,?_⟩
 ·rintro ⟨x,h',fp,⟨f,ys,al,ids,h0,h1,h2,h3,rfl,rfl⟩,hk⟩;exact ⟨f,ys,h0,al,ids,x,by simpa using h1,h2,h3,hk⟩
 ·rintro ⟨f,ys,h0,al,ids,x,h1,h2,h3,hk⟩;exact ⟨x,h,(ids,[]),⟨f,ys,al,ids,h0,by simpa using h1,h2,h3,rfl,rfl⟩,hk⟩
def q2B {f:FuncId} {al:List PV} {x:PV} {K:PV→List Nat→Prop} (hc:AC P Tb f al x) (hk:K x []):@q5S P Tb f (some (al,[])) ⟨K⟩:=⟨al,[],x,rfl,hc,.inl rfl,hk⟩
def q42 {f:FuncId} {al:List PV} {x:PV} {ids:List Nat} {K:PV→List Nat→Prop} (hc:AC P Tb f al x) (hz:Nz x) (hk:K x ids):@q5S P Tb f (some (al,ids)) ⟨K⟩:=⟨al,ids,x,rfl,hc,.inr hz,hk⟩
end
attribute [irreducible] cK oK nnK q28 qc5 vK ldK pgA mkA qad qqO qmC qmD qmB qhJ q5S qfn ao
section
variable {P:Program} {s:Nat→PV} {h:Hp} {i j:Nat} {k k':Kd} {x y:PV} {l m:List PV} {b:Bk}
def pe_t {t:Nat}:pe s (.tmp t)=s t:=rfl
def pe_c {v:Value}:pe s (.const v)=.vl v:=rfl
def qsQ {d:Nat}:q36 s (some d) x=pu s d x:=rfl
def qsR:q36 s none x=s:=rfl
def pu_ap {d t:Nat}:pu s d x t=if t=d then x else s t:=rfl
def qoF:q07 h i b j=if j=i then some b else h j:=rfl
def h0_ap:h0 i=none:=rfl
def enP_z:enP (x :: l) 0=x:=rfl
def enP_s:enP (x :: l) (i+1)=enP l i:=rfl
def stK_c {xs:List (Nat × PV)} {ks:List Nat} {t a:Nat}:stK ((a,x) :: xs) ks s t=if t=a then x else stK xs ks s t:=by
 show (match (if t=a then some x else lkP xs t) with | some x=>x | none=>if kin ks t then s t else .un)=_
 by_cases ht:t=a
 ·simp only [ht,if_true]
 ·simp only [ht,if_false]; rfl
def stK_n {ks:List Nat} {t:Nat}:stK [] ks s t=if kin ks t then s t else .un:=rfl
def kin_c {ks:List Nat} {t a:Nat}:kin (a :: ks) t=if t=a then true else kin ks t:=rfl
def kin_n {t:Nat}:kin [] t=false:=rfl
def hpK_c {bs:List (Nat × Bk)} {kb:List Nat} {t a:Nat}:hpK ((a,b) :: bs) kb h t=if t=a then some b else hpK bs kb h t:=by
 show (match (if t=a then some b else lkB bs t) with | some b=>some b | none=>if kin kb t then h t else none)=_
 by_cases ht:t=a
 ·simp only [ht,if_true]
 ·simp only [ht,if_false]; rfl
def hpK_n {kb:List Nat} {t:Nat}:hpK [] kb h t=if kin kb t then h t else none:=rfl
def ksz_n:ksz none=1:=rfl
def ksz_s {n:Nat}:ksz (some n)=n:=rfl
def qrU:qrV h none b=h:=rfl
def qrT {id:Nat}:qrV h (some id) b=q07 h id b:=rfl
def bn_v {op:BinOp} {t:TypeId} {a c:Value}:bnP P op t (.vl a) (.vl c)=(q0z P op t a c).map .vl:=rfl
def un_v {op:UnOp} {a:Value}:unP op (.vl a)=(unV op a).map .vl:=rfl
def cv_v {s d:Option TypeDesc} {a:Value}:cvP s d (.vl a)=(qcb s d a).map .vl:=rfl
def pk_t:pkP (.vl (.bool true)) x y=some x:=rfl
def pk_f:pkP (.vl (.bool false)) x y=some y:=rfl
def fld_p {t:TypeId} {f:Nat} {a:Nat}:qqU P t f (.pt a i j)=(q3E P t f).map fun r=>.pt a i (j+r.1):=rfl
def ex_t:exP i (.tu l)=l[i]?:=rfl
def nl_p {a:Nat}:nlP (.pt a i j)=some (.pt a i j):=rfl
def nl_q:nlP (.qt k x)=some (.qt k x):=rfl
def mm_v {b:Bool} {a c:Value}:mmP b [.vl a,.vl c]=(mmV b [a,c]).map .vl:=rfl
def qsp {n:Nat}:qqR (some n) (.sl k l)=some (.vl (.int .i64 l.length)):=rfl
def qsq {n a c d:Nat}:qqR (some n) (.ow a k c d)=some (.vl (.int .i64 d)):=rfl
def qso {n a c:Nat} {A:Option Addr}:qqR (some n) (.vl (.slice A a c))=some (.vl (.int .i64 a)):=rfl
def qez {kk:IntKind} {n:Nat}:qbG (some 1) (.sl none l) (.vl (.int kk (n:Int)))=(l[n]?).map (.qt none):=by
 simp [qbG,ksz]
def qnu {kk:IntKind} {n c:Nat} (hc:0 < c):qbG (some c) (.sl (some c) l) (.vl (.int kk (n:Int)))=(l[n]?).map (.qt (some c)):=by
 simp [qbG,ksz,hc]
def qfA {kk:IntKind} {a off c n:Nat} (hn:n < c):qbG (some 1) (.ow a none off c) (.vl (.int kk (n:Int)))=some (.pt a (off+n) 0):=by
 simp [qbG,ksz,hn]
def qnw {kk:IntKind} {a off c n e:Nat} (hn:n < c):qbG (some e) (.ow a (some e) off c) (.vl (.int kk (n:Int)))=some (.pt a (off+n) 0):=by
 simp [qbG,ksz,hn]
def ld_p {a:Nat} {K:PV→List Nat→Prop}:@ldK (ldP h (some k) (.pt a i j)) ⟨K⟩=@ldK ((h a).bind fun b=>if b.st=true∨ksz k=0 then none else ((b.xs[i]?).bind (ldU b.k k j)).map fun x=>(x,[a])) ⟨K⟩:=by
 congr 1
 cases hh:h a <;> simp [ldP,hh]
def ld_q {K:PV→List Nat→Prop}:@ldK (ldP h (some k) (.qt k' x)) ⟨K⟩=@ldK (if ksz k=0 then none else (ldU k' k 0 x).map fun y=>(y,[])) ⟨K⟩:=rfl
def ldU_s:ldU k k 0 x=some x:=by simp [ldU]
def ldU_c {n:Nat}:ldU (some n) none j (.ag l)=l[j]?:=by simp [ldU]
def py_s {o:Oper} {os:List Oper} {b:Bool}:q3P (o :: os) s (j+1) b=q3P os s j b:=rfl
def qiJ (b:Bool):PV→Option Bool | .vl (.bool c)=>some c | .vl (.tuple _)=>some (!b) | _=>none
def py_z {d:Nat} {op:Op} {ty:TypeId} {pos:String} {af:Array Edge} {g:Option (Nat × Bool)} {os:List Oper} {b:Bool}:q3P (⟨some d,op,ty,pos,af,g⟩ :: os) s 0 b=qiJ b (s d):=rfl
def qn1 {b c:Bool}:qiJ c (.vl (.bool b))=some b:=rfl
def qnZ:qiJ true (.vl undef)=some false:=rfl
def qn0:qiJ false (.vl undef)=some true:=rfl
def qty:q2e h []=some ([],[]):=rfl
def qtz:q2e h (x :: l)=qgH (clo h x) (q2e h l):=rfl
def qjc {a b:List Nat}:qgH (some (x,a)) (some (l,b))=some (x :: l,a ++ b):=rfl
def quA {v:Value}:clo h (.vl v)=some (.vl v,[]):=by simp [clo,q3d,q5R]
def quF {G:Fam}:clo h (.fm G)=some (.fm G,[]):=by simp [clo,q3d,q5R]
def quB:clo h (.sl k l)=some (.sl k l,[]):=by simp [clo,q3d,q5R]
def quC:clo h (.qt k x)=some (.qt k x,[]):=by simp [clo,q3d,q5R]
def qgM:clo h .un=some (.un,[]):=by simp [clo,q3d,q5R]
def quD {a off c:Nat}:clo h (.ow a k off c)=clB (h a) a k off c:=by simp only [clo,q3d,clB]
def clB_s {a off c:Nat} {T:TypeId}:clB (some ⟨T,k,l,false⟩) a k off c=cO (ClL l) (some (.sl k ((l.drop off).take c),[a])):=by
 unfold clB cO ClL;simp only [Option.bind_some]
 by_cases hc:∀ x ∈ l,Cld x
 ·rw [if_pos ⟨rfl,rfl,hc⟩,if_pos hc]
 ·rw [if_neg fun h=>hc h.2.2,if_neg hc]
def cO_t {α:Type} {o:Option α}:cO True o=o:=by simp [cO]
def quG:clo h (.ag l)=(q2d h l).map fun r=>(.ag r.1,r.2):=rfl
def qot:q2d h []=some ([],[]):=rfl
def qou:q2d h (x :: l)=qgH (q3d h x) (q2d h l):=rfl
def qow {v:Value}:q3d h (.vl v)=some (.vl v,[]):=by simp [q3d,q5R]
def qpA {G:Fam}:q3d h (.fm G)=some (.fm G,[]):=by simp [q3d,q5R]
def qox:q3d h (.sl k l)=some (.sl k l,[]):=by simp [q3d,q5R]
def qoz {a off c:Nat}:q3d h (.ow a k off c)=clB (h a) a k off c:=by simp only [q3d,clB]
def qwD {v:Value}:Cld (.vl v)=True:=by simp [Cld,q5R]
def qwF {G:Fam}:Cld (.fm G)=True:=by simp [Cld,q5R]
def qwE:Cld (.sl k l)=True:=by simp [Cld,q5R]
def ClL_n:ClL []=True:=by simp [ClL]
def ClL_c:ClL (x :: l)=(Cld x∧ClL l):=by simp [ClL]
def ClL_a:ClL (l ++ m)=(ClL l∧ClL m):=by
 simp only [ClL,List.mem_append];exact propext ⟨fun h=>⟨fun x hx=>h x (.inl hx),fun x hx=>h x (.inr hx)⟩,fun h x hx=>hx.elim (h.1 x) (h.2 x)⟩
def qqE {α:Type} {f:α→PV} {q:List α}:ClL (q.map f)=∀ a ∈ q,Cld (f a):=by simp [ClL]
def qkL {α:Type} {f:α→Value} {q:List α}:ClL (q.map fun a=>.vl (f a))=True:=by simp [ClL,Cld,q5R]
def rsP_t {t:Nat}:rsP P h s (.tmp t)=some (s t):=rfl
def qjn {t:TypeId} {ps:List (Nat × PV)} {pl:List (Nat × Nat)} {z:List Value} (hp:plc P t=some (pl,z)):blP P t ps=(flP pl (z.map .vl) ps).map .ag:=by unfold blP; rw [hp]; rfl
def quH {acc:List FP}:qqY [] acc=True:=by simp [qqY,chk]
end
end Go.E
namespace Go.Proofs.YtbcmhlhgljoolaaGreatDoor
open Go Go.E
set_option maxRecDepth 100000
def elK22:elK Tryz.prog 22=some (29,none,8):=by kernel_rfl
def elZ22:elZ Tryz.prog 22=some (29,none,8,.vl (.int .u64 0)):=by kernel_rfl
def elK23:elK Tryz.prog 23=some (4,none,1):=by kernel_rfl
def elZ23:elZ Tryz.prog 23=some (4,none,1,.vl (.bool false)):=by kernel_rfl
def elK24:elK Tryz.prog 24=some (3,none,8):=by kernel_rfl
def elZ24:elZ Tryz.prog 24=some (3,none,8,.vl (.int .i64 0)):=by kernel_rfl
def elK25:elK Tryz.prog 25=some (30,none,8):=by kernel_rfl
def elZ25:elZ Tryz.prog 25=some (30,none,8,.vl (.int .u64 0)):=by kernel_rfl
def elK33:elK Tryz.prog 33=some (24,none,24):=by kernel_rfl
def elZ33:elZ Tryz.prog 33=some (24,none,24,.vl (.slice none 0 0)):=by kernel_rfl
def elK98:elK Tryz.prog 98=some (125,none,24):=by kernel_rfl
def elZ98:elZ Tryz.prog 98=some (125,none,24,.vl (.slice none 0 0)):=by kernel_rfl
def elK99:elK Tryz.prog 99=some (125,none,24):=by kernel_rfl
def elZ99:elZ Tryz.prog 99=some (125,none,24,.vl (.slice none 0 0)):=by kernel_rfl
def qth:elK Tryz.prog 105=some (25,none,24):=by kernel_rfl
def qtd:elZ Tryz.prog 105=some (25,none,24,.vl (.slice none 0 0)):=by kernel_rfl
def qtg:elK Tryz.prog 125=some (74,some 4,48):=by kernel_rfl
def qtc:elZ Tryz.prog 125=some (74,some 4,48,.ag [.vl (.bool false),.vl (.bool false),.vl (.slice none 0 0),.vl (.int .i64 0)]):=by kernel_rfl
def qtf:elK Tryz.prog 147=some (23,none,24):=by kernel_rfl
def qtb:elZ Tryz.prog 147=some (23,none,24,.vl (.slice none 0 0)):=by kernel_rfl
def qte:elK Tryz.prog 221=some (224,some 3,24):=by kernel_rfl
def qta:elZ Tryz.prog 221=some (224,some 3,24,.ag [.vl (.int .i64 0),.vl (.int .i64 0),.vl (.int .u64 0)]):=by kernel_rfl
def alB3:alB Tryz.prog 3=some ⟨3,none,[.vl (.int .i64 0)],false⟩:=by kernel_rfl
def alB27:alB Tryz.prog 27=some ⟨27,some 4,[.ag [.vl (.slice none 0 0),.vl (.slice none 0 0),.vl (.slice none 0 0),.vl (.slice none 0 0)]],false⟩:=by kernel_rfl
def alB52:alB Tryz.prog 52=some ⟨52,some 5,[.ag [.vl (.int .i64 0),.vl (.int .i64 0),.vl (.slice none 0 0),.vl (.slice none 0 0),.vl (.slice none 0 0)]],false⟩:=by kernel_rfl
def alB72:alB Tryz.prog 72=some ⟨72,some 2,[.ag [.vl (.bool false),.vl (.slice none 0 0)]],false⟩:=by kernel_rfl
def alB74:alB Tryz.prog 74=some ⟨74,some 4,[.ag [.vl (.bool false),.vl (.bool false),.vl (.slice none 0 0),.vl (.int .i64 0)]],false⟩:=by kernel_rfl
def qvE:alB Tryz.prog 115=some ⟨115,some 17,[.ag [.vl (.int .i64 0),.vl (.int .i64 0),.vl (.slice none 0 0),.vl (.slice none 0 0),.vl (.slice none 0 0),.vl (.slice none 0 0),.vl (.slice none 0 0),.vl (.slice none 0 0),.vl (.slice none 0 0),.vl (.slice none 0 0),.vl (.slice none 0 0),.vl (.slice none 0 0),.vl (.slice none 0 0),.vl (.bool false),.vl (.bool false),.vl (.slice none 0 0),.vl (.int .i64 0)]],false⟩:=by kernel_rfl
def qvD:alB Tryz.prog 141=some ⟨141,some 1,[.ag [.vl (.slice none 0 0)]],false⟩:=by kernel_rfl
def qvC:alB Tryz.prog 155=some ⟨155,some 5,[.ag [.vl (.bool false),.vl (.bool false),.vl (.slice none 0 0),.vl (.int .i64 0),.vl (.bool false)]],false⟩:=by kernel_rfl
def qvB:alB Tryz.prog 220=some ⟨220,some 2,[.ag [.vl (.slice none 0 0),.vl (.slice none 0 0)]],false⟩:=by kernel_rfl
def qvA:alB Tryz.prog 224=some ⟨224,some 3,[.ag [.vl (.int .i64 0),.vl (.int .i64 0),.vl (.int .u64 0)]],false⟩:=by kernel_rfl
def quz:alB Tryz.prog 241=some ⟨241,some 32,[.ag [.vl (.int .u8 0),.vl (.int .u8 0),.vl (.int .u8 0),.vl (.int .u8 0),.vl (.int .u8 0),.vl (.int .u8 0),.vl (.int .u8 0),.vl (.int .u8 0),.vl (.int .u8 0),.vl (.int .u8 0),.vl (.int .u8 0),.vl (.int .u8 0),.vl (.int .u8 0),.vl (.int .u8 0),.vl (.int .u8 0),.vl (.int .u8 0),.vl (.int .u8 0),.vl (.int .u8 0),.vl (.int .u8 0),.vl (.int .u8 0),.vl (.int .u8 0),.vl (.int .u8 0),.vl (.int .u8 0),.vl (.int .u8 0),.vl (.int .u8 0),.vl (.int .u8 0),.vl (.int .u8 0),.vl (.int .u8 0),.vl (.int .u8 0),.vl (.int .u8 0),.vl (.int .u8 0),.vl (.int .u8 0)]],false⟩:=by kernel_rfl
def qiy:q3E Tryz.prog 27 0=some (0,none):=by kernel_rfl
def qix:q3E Tryz.prog 27 1=some (1,none):=by kernel_rfl
def qiw:q3E Tryz.prog 27 2=some (2,none):=by kernel_rfl
def qiv:q3E Tryz.prog 27 3=some (3,none):=by kernel_rfl
def qiu:q3E Tryz.prog 52 0=some (0,none):=by kernel_rfl
def qit:q3E Tryz.prog 52 1=some (1,none):=by kernel_rfl
def qis:q3E Tryz.prog 52 2=some (2,none):=by kernel_rfl
def qir:q3E Tryz.prog 52 3=some (3,none):=by kernel_rfl
def qiq:q3E Tryz.prog 52 4=some (4,none):=by kernel_rfl
def qip:q3E Tryz.prog 72 0=some (0,none):=by kernel_rfl
def qio:q3E Tryz.prog 72 1=some (1,none):=by kernel_rfl
def qin:q3E Tryz.prog 74 0=some (0,none):=by kernel_rfl
def qim:q3E Tryz.prog 74 1=some (1,some 2):=by kernel_rfl
def qil:q3E Tryz.prog 74 2=some (3,none):=by kernel_rfl
def qfc:q3E Tryz.prog 115 0=some (0,some 5):=by kernel_rfl
def qfb:q3E Tryz.prog 115 1=some (5,some 4):=by kernel_rfl
def qfa:q3E Tryz.prog 115 2=some (9,none):=by kernel_rfl
def qf9:q3E Tryz.prog 115 3=some (10,none):=by kernel_rfl
def qf8:q3E Tryz.prog 115 4=some (11,none):=by kernel_rfl
def qf7:q3E Tryz.prog 115 5=some (12,none):=by kernel_rfl
def qf6:q3E Tryz.prog 115 6=some (13,some 4):=by kernel_rfl
def qf5:q3E Tryz.prog 141 0=some (0,none):=by kernel_rfl
def qf4:q3E Tryz.prog 155 0=some (0,none):=by kernel_rfl
def qf3:q3E Tryz.prog 155 1=some (1,some 2):=by kernel_rfl
def qf2:q3E Tryz.prog 155 2=some (3,none):=by kernel_rfl
def qf1:q3E Tryz.prog 155 3=some (4,none):=by kernel_rfl
def qf0:q3E Tryz.prog 220 0=some (0,none):=by kernel_rfl
def qfZ:q3E Tryz.prog 220 1=some (1,none):=by kernel_rfl
def qfY:q3E Tryz.prog 224 0=some (0,none):=by kernel_rfl
def qfX:q3E Tryz.prog 224 1=some (1,none):=by kernel_rfl
def qfW:q3E Tryz.prog 224 2=some (2,none):=by kernel_rfl
def plc27:plc Tryz.prog 27=some ([(0,1),(1,1),(2,1),(3,1)],[.slice none 0 0,.slice none 0 0,.slice none 0 0,.slice none 0 0]):=by kernel_rfl
def plc52:plc Tryz.prog 52=some ([(0,1),(1,1),(2,1),(3,1),(4,1)],[.int .i64 0,.int .i64 0,.slice none 0 0,.slice none 0 0,.slice none 0 0]):=by kernel_rfl
def plc72:plc Tryz.prog 72=some ([(0,1),(1,1)],[.bool false,.slice none 0 0]):=by kernel_rfl
def plc74:plc Tryz.prog 74=some ([(0,1),(1,2),(3,1)],[.bool false,.bool false,.slice none 0 0,.int .i64 0]):=by kernel_rfl
def qsW:plc Tryz.prog 115=some ([(0,5),(5,4),(9,1),(10,1),(11,1),(12,1),(13,4)],[.int .i64 0,.int .i64 0,.slice none 0 0,.slice none 0 0,.slice none 0 0,.slice none 0 0,.slice none 0 0,.slice none 0 0,.slice none 0 0,.slice none 0 0,.slice none 0 0,.slice none 0 0,.slice none 0 0,.bool false,.bool false,.slice none 0 0,.int .i64 0]):=by kernel_rfl
def qsV:plc Tryz.prog 141=some ([(0,1)],[.slice none 0 0]):=by kernel_rfl
def qsU:plc Tryz.prog 155=some ([(0,1),(1,2),(3,1),(4,1)],[.bool false,.bool false,.slice none 0 0,.int .i64 0,.bool false]):=by kernel_rfl
def qsT:plc Tryz.prog 220=some ([(0,1),(1,1)],[.slice none 0 0,.slice none 0 0]):=by kernel_rfl
def qsS:plc Tryz.prog 224=some ([(0,1),(1,1),(2,1)],[.int .i64 0,.int .i64 0,.int .u64 0]):=by kernel_rfl
attribute [go_sem] elK22 elZ22 elK23 elZ23 elK24 elZ24 elK25 elZ25 elK33 elZ33 elK98 elZ98 elK99 elZ99 qth qtd qtg qtc qtf qtb qte qta alB3 alB27 alB52 alB72 alB74 qvE qvD
attribute [go_sem] qvC qvB qvA quz qiy qix qiw qiv qiu qit qis qir qiq qip qio qin qim qil qfc qfb qfa
attribute [go_sem] qf9 qf8 qf7 qf6 qf5 qf4 qf3 qf2 qf1 qf0 qfZ qfY qfX qfW
def qu2 {ps:List (Nat × PV)}:blP Tryz.prog 27 ps=(flP [(0,1),(1,1),(2,1),(3,1)] ([.slice none 0 0,.slice none 0 0,.slice none 0 0,.slice none 0 0].map .vl) ps).map .ag:=qjn plc27
def qu1 {ps:List (Nat × PV)}:blP Tryz.prog 52 ps=(flP [(0,1),(1,1),(2,1),(3,1),(4,1)] ([.int .i64 0,.int .i64 0,.slice none 0 0,.slice none 0 0,.slice none 0 0].map .vl) ps).map .ag:=qjn plc52
def qu0 {ps:List (Nat × PV)}:blP Tryz.prog 72 ps=(flP [(0,1),(1,1)] ([.bool false,.slice none 0 0].map .vl) ps).map .ag:=qjn plc72
def quZ {ps:List (Nat × PV)}:blP Tryz.prog 74 ps=(flP [(0,1),(1,2),(3,1)] ([.bool false,.bool false,.slice none 0 0,.int .i64 0].map .vl) ps).map .ag:=qjn plc74
def qpY {ps:List (Nat × PV)}:blP Tryz.prog 115 ps=(flP [(0,5),(5,4),(9,1),(10,1),(11,1),(12,1),(13,4)] ([.int .i64 0,.int .i64 0,.slice none 0 0,.slice none 0 0,.slice none 0 0,.slice none 0 0,.slice none 0 0,.slice none 0 0,.slice none 0 0,.slice none 0 0,.slice none 0 0,.slice none 0 0,.slice none 0 0,.bool false,.bool false,.slice none 0 0,.int .i64 0].map .vl) ps).map .ag:=qjn qsW
def qpX {ps:List (Nat × PV)}:blP Tryz.prog 141 ps=(flP [(0,1)] ([.slice none 0 0].map .vl) ps).map .ag:=qjn qsV
def qpW {ps:List (Nat × PV)}:blP Tryz.prog 155 ps=(flP [(0,1),(1,2),(3,1),(4,1)] ([.bool false,.bool false,.slice none 0 0,.int .i64 0,.bool false].map .vl) ps).map .ag:=qjn qsU
def qpV {ps:List (Nat × PV)}:blP Tryz.prog 220 ps=(flP [(0,1),(1,1)] ([.slice none 0 0,.slice none 0 0].map .vl) ps).map .ag:=qjn qsT
def qpU {ps:List (Nat × PV)}:blP Tryz.prog 224 ps=(flP [(0,1),(1,1),(2,1)] ([.int .i64 0,.int .i64 0,.int .u64 0].map .vl) ps).map .ag:=qjn qsS
attribute [go_sem] qu2 qu1 qu0 quZ qpY qpX qpW qpV qpU
end Go.Proofs.YtbcmhlhgljoolaaGreatDoor
namespace Go.E
open Go Go.RowKit
attribute [go_sem ↓] pu_ap qoF qwK AL_n AL_g qpj qgf qpi qjt qph qcj q8w qci qaO q8v qjq qur fnP_q qjr quq qup qun qpl qju quw quv quu qut qus qpk qjp qgg qpm qbh
attribute [go_sem] cK_t oK_s nnK_n vK_v ldK_s qsY qsZ qs0 qs1 mkA_n qtT qoZ qtO qtQ qtP qtU qbL qbM qrQ qmh qmg qrS qrR ldU_b qul quk quj qui qug quh quf pe_t pe_c qsQ qsR h0_ap enP_z enP_s stK_c stK_n kin_c kin_n hpK_c hpK_n ksz_n ksz_s qrU qrT bn_v un_v cv_v pk_t pk_f fld_p ex_t nl_p nl_q mm_v qsp qsq qso qez qnu qfA qnw ld_p ld_q ldU_s ldU_c py_s py_z qn1 qnZ qn0 qty qtz qjc quA quF quB quC qgM quD clB_s cO_t quG qot qou qow qpA qox qoz qwD qwF qwE ClL_n ClL_c ClL_a qqE qkL quH
attribute [go_sem] Option.bind_some Option.bind_none List.getElem?_cons_zero List.getElem?_cons_succ List.getElem?_map List.length_map List.length_replicate List.length_cons List.length_nil List.length_append List.length_set List.drop_zero List.nil_append Nat.add_zero and_true true_and implies_true or_false Bool.false_eq_true List.set_cons_zero List.set_cons_succ List.take_succ_cons List.take_zero List.take_nil List.drop_succ_cons
def q8Q:List PV→Nat→PV→Option (List PV)
 | [],_,_=>none
 | _ :: l,0,x=>some (x :: l)
 | y :: l,n+1,x=>(q8Q l n x).map fun r=>y :: r
def qdn:∀ {l:List PV} {n:Nat} {x:PV},q8Q l n x=if n < l.length then some (l.set n x) else none
 | [],n,x=>by simp [q8Q]
 | y :: l,0,x=>by simp [q8Q]
 | y :: l,n+1,x=>by
  simp only [q8Q,qdn (l:=l)]
  by_cases h:n < l.length <;> simp [h]
def qrk {y x:PV} {l:List PV}:q8Q (y :: l) 0 x=some (x :: l):=rfl
def qrl {y x:PV} {l:List PV} {n:Nat}:q8Q (y :: l) (n+1) x=(q8Q l n x).map fun r=>y :: r:=rfl
def q92:List PV→Nat→List PV→Option (List PV)
 | cs,0,[]=>some cs
 | _ :: cs,0,y :: l=>(q92 cs 0 l).map fun r=>y :: r
 | x :: cs,n+1,l=>(q92 cs n l).map fun r=>x :: r
 | [],_,_=>none
def q5r:∀ {cs:List PV} {n:Nat} {l:List PV},0 < l.length→q92 cs n l=if n+l.length≤cs.length then some (cs.take n ++ l ++ cs.drop (n+l.length)) else none
 | [],n,y :: l,_=>by
  cases n <;> simp [q92]
 | x :: cs,0,[y],_=>by simp [q92]
 | x :: cs,0,y :: z :: l,_=>by
  rw [q92,q5r (cs:=cs) (n:=0) (l:=z :: l) (by simp)];simp only [List.length_cons]
  by_cases h:l.length+1≤cs.length
  ·rw [if_pos (by omega),if_pos (by omega)]; simp [Nat.add_assoc]
  ·rw [if_neg (by omega),if_neg (by omega)]; rfl
 | x :: cs,n+1,y :: l,hl=>by
  rw [q92,q5r (cs:=cs) (n:=n) hl];simp only [List.length_cons]
  by_cases h:n+(l.length+1)≤cs.length
  ·rw [if_pos h,if_pos (by omega)];rw [show n+1+(l.length+1)=n+(l.length+1)+1 by omega];simp
  ·rw [if_neg h,if_neg (by omega)]; rfl
def qrm {cs:List PV}:q92 cs 0 []=some cs:=by cases cs <;> rfl
def qrp {x y:PV} {cs l:List PV}:q92 (x :: cs) 0 (y :: l)=(q92 cs 0 l).map fun r=>y :: r:=rfl
def qro {x:PV} {cs l:List PV} {n:Nat}:q92 (x :: cs) (n+1) l=(q92 cs n l).map fun r=>x :: r:=by cases l <;> rfl
def flS (o:Option (Nat × Nat)) (x:PV) (cs:List PV):Option (List PV):=match o with
 | some (off,1)=>match x with
  | .vl y=>if y.oneCell'=true then q8Q cs off (.vl y) else none
  | .sl k l=>q8Q cs off (.sl k l)
  | .ow id k a n=>q8Q cs off (.ow id k a n)
  | .pt id a n=>q8Q cs off (.pt id a n)
  | _=>none
 | some (off,m)=>match x with
  | .ag l=>if l.length=m∧off+m≤cs.length then some (cs.take off ++ l ++ cs.drop (off+m)) else none
  | _=>none
 | none=>none
def flP_n {pl:List (Nat × Nat)} {cs:List PV}:flP pl cs []=some cs:=rfl
def flP_c {pl:List (Nat × Nat)} {cs:List PV} {i:Nat} {x:PV} {r:List (Nat × PV)}:flP pl cs ((i,x) :: r)=(flS (pl[i]?) x cs).bind fun c=>flP pl c r:=by
 rw [flP];unfold flS;cases pl[i]? with
 | none=>rfl
 | some p =>
  obtain ⟨off,m⟩:=p
  match m with
  | 0=>cases x <;> (try rfl); simp only; split <;> rfl
  | 1 =>
   cases x <;> simp only [qdn] <;> (try rfl)
   case vl y=>by_cases h1:y.oneCell'=true <;> by_cases h2:off < cs.length <;> simp [h1,h2]
   all_goals (by_cases h2:off < cs.length <;> simp [h2])
  | m+2=>cases x <;> (try rfl); simp only; split <;> rfl
def flS_2 {off:Nat} {a b:PV} {cs:List PV}:flS (some (off,2)) (.ag [a,b]) cs=q92 cs off [a,b]:=by
 rw [q5r (by simp)];simp [flS]
def flS_4 {off:Nat} {a b c d:PV} {cs:List PV}:flS (some (off,4)) (.ag [a,b,c,d]) cs=q92 cs off [a,b,c,d]:=by
 rw [q5r (by simp)];simp [flS]
def flS_i {off:Nat} {k:IntKind} {z:Int} {cs:List PV}:flS (some (off,1)) (.vl (.int k z)) cs=q8Q cs off (.vl (.int k z)):=rfl
def flS_b {off:Nat} {z:Bool} {cs:List PV}:flS (some (off,1)) (.vl (.bool z)) cs=q8Q cs off (.vl (.bool z)):=rfl
def flS_l {off n c:Nat} {A:Option Addr} {cs:List PV}:flS (some (off,1)) (.vl (.slice A n c)) cs=q8Q cs off (.vl (.slice A n c)):=rfl
def flS_s {off:Nat} {k:Kd} {l cs:List PV}:flS (some (off,1)) (.sl k l) cs=q8Q cs off (.sl k l):=rfl
def flS_o {off id a n:Nat} {k:Kd} {cs:List PV}:flS (some (off,1)) (.ow id k a n) cs=q8Q cs off (.ow id k a n):=rfl
attribute [go_sem] qrk qrl qrm qrp qro flS_2 flS_4 flP_n flP_c flS_i flS_b flS_l flS_s flS_o
def tkm {α β:Type} {f:α→β} {l:List α}:(l.map f).take l.length=l.map f:=List.take_of_length_le (by simp)
def tkm' {α β:Type} {f:α→β} {l:List α} {n:Nat} (hn:l.length≤n):(l.map f).take n=l.map f:=List.take_of_length_le (by simpa using hn)
def tkl {α:Type} {l:List α}:l.take l.length=l:=List.take_length
attribute [go_sem] tkm tkm' tkl
def nin (x:Nat):List Nat→Prop
 | []=>True
 | y :: r=>x≠y∧nin x r
def dis (l:List Nat):List Nat→Prop
 | []=>True
 | x :: r=>nin x l∧dis l r
def qkr {x:Nat}:∀ {l:List Nat},nin x l=(x ∉ l)
 | []=>by simp [nin]
 | y :: r=>by simp [nin,qkr (l:=r)]
def qlU {l:List Nat}:∀ {r:List Nat},dis l r=∀ x ∈ r,x ∉ l
 | []=>by simp [dis]
 | y :: r=>by simp [dis,qkr,qlU (r:=r)]
def nin_n {x:Nat}:nin x []=True:=rfl
def nin_c {x y:Nat} {r:List Nat}:nin x (y :: r)=(x≠y∧nin x r):=rfl
def dis_n {l:List Nat}:dis l []=True:=rfl
def dis_c {l r:List Nat} {x:Nat}:dis l (x :: r)=(nin x l∧dis l r):=rfl
def dj_eq {a b c d:List Nat}:dj (a,b) (c,d)=(dis c b∧dis d b∧dis a d):=by
 simp only [dj,qlU];exact propext ⟨fun h=>⟨fun x hx=>(h.1 x hx).1,fun x hx=>(h.1 x hx).2,h.2⟩,fun h=>⟨fun x hx=>⟨h.1 x hx,h.2.1 x hx⟩,h.2.2⟩⟩
def quI {a b:Nat} {r:List (Nat × Nat)} {acc:List FP}:qqY ((a,b) :: r) acc=(dj (acc.reverse.getD a ([],[])) (acc.reverse.getD b ([],[]))∧qqY r acc):=by
 simp [qqY,chk]
attribute [go_sem] nin_n nin_c dis_n dis_c dj_eq quI List.reverse_cons List.reverse_nil List.cons_append List.getD_cons_zero List.getD_cons_succ Option.toList_some Option.toList_none List.append_nil
def qjS {z:Int} {A:Prop}:q28 none (.vl (.int .i64 z)) A=A:=by rw [qlK]; simp [cK,q4n]
def qjR {z:Int} {A:Prop}:q28 none (.vl (.int .u64 z)) A=A:=by rw [qlK]; simp [cK,q4n]
attribute [go_sem] qjS qjR cK_of
section
variable {τ:Nat→Option Nat} {h h':Hp} {x y:PV} {l m:List PV} {k k':Kd}
def qv1:LeV τ h h' x .un=True:=by simp [LeV.un]
def qmF {a b:Value}:LeV τ h h' (.vl a) (.vl b)=(a=b):=by
 refine propext ⟨fun h=>by cases h; rfl,fun h=>by subst h; exact .cl (by simp [Cld,q5R])⟩
def qv9 {G H:Fam}:LeV τ h h' (.fm G) (.fm H)=(G=H):=by
 refine propext ⟨fun h=>by cases h; rfl,fun h=>by subst h; exact .cl (by simp [Cld,q5R])⟩
def qv3:LeV τ h h' (.sl k l) (.sl k' m)=(k=k'∧l=m):=by
 refine propext ⟨fun h=>by cases h; exact ⟨rfl,rfl⟩,fun h=>by obtain ⟨rfl,rfl⟩:=h; exact .cl (by simp [Cld,q5R])⟩
def qv6 {i j a b c d:Nat}:LeV τ h h' (.ow j k a b) (.ow i k' c d)=(τ i=some j∧(∃ b,h' i=some b)∧k=k'∧a=c∧b=d):=by
 refine propext ⟨fun h=>?_,fun ⟨h1,⟨b,h2⟩,h3,h4,h5⟩=>by subst h3; subst h4; subst h5; exact .ow h1 h2⟩;cases h with
 | cl hc=>simp [Cld,q5R] at hc
 | ow h1 h2=>exact ⟨h1,⟨_,h2⟩,rfl,rfl,rfl⟩
def qv5 {i j a b c d:Nat}:LeV τ h h' (.pt j a b) (.pt i c d)=(τ i=some j∧(∃ b,h' i=some b)∧a=c∧b=d):=by
 refine propext ⟨fun h=>?_,fun ⟨h1,⟨b,h2⟩,h4,h5⟩=>by subst h4; subst h5; exact .pt h1 h2⟩;cases h with
 | cl hc=>simp [Cld,q5R] at hc
 | pt h1 h2=>exact ⟨h1,⟨_,h2⟩,rfl,rfl⟩
def q3m {j a b:Nat} {T:TypeId} (hj:h j=some ⟨T,k,l,false⟩) (hc:ClL l) (hn:∀ i,τ i=some j→h' i=none) (he:(l.drop a).take b=m):LeV τ h h' (.ow j k a b) (.sl k m):=by
 subst he;exact .fz hj rfl rfl hc hn
def qv8 {i a b:Nat}:LeV τ h h' (.vl (.slice none 0 0)) (.ow i k a b)=(τ i=none∧(∃ b,h' i=some b∧b.k=k)∧a=0∧b=0):=by
 refine propext ⟨fun h=>?_,fun ⟨h1,⟨b,h2,h3⟩,h4,h5⟩=>by subst h4; subst h5; exact .nilow h1 h2 h3⟩;cases h with
 | nilow h1 h2 h3=>exact ⟨h1,⟨_,h2,h3⟩,rfl,rfl⟩
def qv7:LeV τ h h' (.vl (.slice none 0 0)) (.sl k l)=(l=[]):=by
 refine propext ⟨fun h=>by cases h; rfl,fun h=>by subst h; exact .nilsl⟩
def qcx (τ:Nat→Option Nat) (h h':Hp):List PV→List PV→Prop
 | [],[]=>True
 | x :: l,y :: m=>LeV τ h h' x y∧qcx τ h h' l m
 | _,_=>False
def q7v:∀ {l m:List PV},qcx τ h h' l m=LeL τ h h' l m
 | [],[]=>by simp [qcx,LeL]
 | x :: l,[]=>by simp [qcx,LeL]
 | [],y :: m=>by simp [qcx,LeL]
 | x :: l,y :: m=>by
  simp only [qcx];rw [q7v (l:=l) (m:=m)];refine propext ⟨fun ⟨h1,h2,h3⟩=>⟨by simp [h2],fun i a b ha hb=>?_⟩,fun ⟨h1,h2⟩=>⟨h2 0 x y rfl rfl,by simpa using h1,fun i a b ha hb=>h2 (i+1) a b (by simpa using ha) (by simpa using hb)⟩⟩;cases i with
  | zero=>simp at ha hb; subst ha; subst hb; exact h1
  | succ i=>exact h3 i a b (by simpa using ha) (by simpa using hb)
def qmG:LeV τ h h' (.ag l) (.ag m)=qcx τ h h' l m:=by
 rw [q7v];refine propext ⟨fun h=>?_,fun ⟨h1,h2⟩=>.ag h1 h2⟩;cases h with
 | cl hc=>exact ⟨rfl,fun i a b ha hb=>by rw [ha] at hb; cases hb; have:=hc a (List.mem_of_getElem? ha); exact .cl (by cases a <;> simp_all [Cld,q5R])⟩
 | ag h1 h2=>exact ⟨h1,h2⟩
def qv2:LeV τ h h' (.tu l) (.tu m)=qcx τ h h' l m:=by
 rw [q7v];refine propext ⟨fun h=>?_,fun ⟨h1,h2⟩=>.tu h1 h2⟩;cases h with
 | cl hc=>simp [Cld,q5R] at hc
 | tu h1 h2=>exact ⟨h1,h2⟩
def qva:qcx τ h h' [] []=True:=rfl
def qvb:qcx τ h h' (x :: l) (y :: m)=(LeV τ h h' x y∧qcx τ h h' l m):=rfl
def qvc {s:Nat→PV}:q5U τ h h' s []=True:=rfl
def qvd {s:Nat→PV} {t:Nat} {r:List (Nat × PV)}:q5U τ h h' s ((t,x) :: r)=(LeV τ h h' (s t) x∧q5U τ h h' s r):=rfl
def qve {s s0:Nat→PV}:LeSk τ h h' s s0 []=True:=rfl
def qvf {s s0:Nat→PV} {t:Nat} {r:List Nat}:LeSk τ h h' s s0 (t :: r)=(LeV τ h h' (s t) (s0 t)∧LeSk τ h h' s s0 r):=rfl
def qvt:qqD τ h h' []=True:=rfl
def qvu {t:Nat} {b:Bk} {r:List (Nat × Bk)}:qqD τ h h' ((t,b) :: r)=(LeB τ h h' t b∧qqD τ h h' r):=rfl
def qvx {hb:Hp}:LeBk τ h h' hb []=True:=rfl
def qvy {hb:Hp} {t:Nat} {r:List Nat}:LeBk τ h h' hb (t :: r)=((∀ b,hb t=some b→LeB τ h h' t b)∧LeBk τ h h' hb r):=rfl
def qrA {i a:Nat} {o:Option Nat} {r:List (Nat × Option Nat)}:q1s ((a,o) :: r) i=if i=a then o else q1s r i:=rfl
def qqz {i:Nat}:q1s [] i=some i:=rfl
def LeB' (o:Option Nat) (τ:Nat→Option Nat) (h h':Hp) (b':Bk):Prop :=
 match o with
 | some j=>∃ b,h j=some b∧b'.T=b.T∧b'.k=b.k∧(b'.st=false∧b.st=false)∧LeL τ h h' b.xs b'.xs
 | none=>b'.xs=[]
def qwA {i:Nat} {b':Bk}:LeB τ h h' i b'=LeB' (τ i) τ h h' b':=rfl
def LeBb (o:Option Bk) (τ:Nat→Option Nat) (h h':Hp) (b':Bk):Prop:=∃ b,o=some b∧b'.T=b.T∧b'.k=b.k∧(b'.st=false∧b.st=false)∧LeL τ h h' b.xs b'.xs
def qwB {j:Nat} {b':Bk}:LeB' (some j) τ h h' b'=LeBb (h j) τ h h' b':=rfl
def qwC {T:TypeId} {st:Bool}:LeB' none τ h h' ⟨T,k,l,st⟩=(l=[]):=rfl
def qvz {T T':TypeId} {st st':Bool}:LeBb (some ⟨T,k,l,st⟩) τ h h' ⟨T',k',m,st'⟩=(T'=T∧k'=k∧(st'=false∧st=false)∧LeL τ h h' l m):=by simp [LeBb]
def q1A (he:l=m) (hc:ClL m):LeL τ h h' l m:=by
 subst he;exact ⟨rfl,fun i a b ha hb=>by rw [ha] at hb; cases hb; exact .cl (hc a (List.mem_of_getElem? ha))⟩
def q4y:LeL τ h h' [x] [y]=LeV τ h h' x y:=by rw [← q7v]; simp [qcx]
def qm4:q9Q τ []=True:=rfl
def qkS (τ:Nat→Option Nat) (i:Nat):List Nat→Prop
 | []=>True
 | j :: r=>(i=j∨τ i=none∨τ i≠τ j)∧qkS τ i r
def qdP {i:Nat}:∀ {r:List Nat},qkS τ i r=∀ j ∈ r,i=j∨τ i=none∨τ i≠τ j
 | []=>by simp [qkS]
 | j :: r=>by simp only [qkS,qdP (r:=r),List.forall_mem_cons]
def qrC {i:Nat}:qkS τ i []=True:=rfl
def qrD {i j:Nat} {r:List Nat}:qkS τ i (j :: r)=((i=j∨τ i=none∨τ i≠τ j)∧qkS τ i r):=rfl
def qm5 {i:Nat} {r:List Nat}:q9Q τ (i :: r)=(qkS τ i r∧q9Q τ r):=by rw [qdP]; rfl
def qtn {i:Nat} {b:Bk} {bs:List (Nat × Bk)} {kb:List Nat}:dom1 ((i,b) :: bs) kb=i :: dom1 bs kb:=rfl
def qtm {kb:List Nat}:dom1 [] kb=kb:=rfl
end
section
variable {P:Program} {Tb:World→Prop} {J:Nat→Prop} {n:Nat} {Q:SQ} {s:Nat→PV} {h:Hp}
def qcy {id:Nat} {l:List Oper} {b:Code} (hw:∀ K:(Nat→PV)→Hp→Prop,(∀ s h,AW P Tb J n b Q s h→K s h)→AL P Tb l (fun s h _=>K s h) l s h []):AW P Tb J n (.seq (.region id l.toArray false) b) Q s h :=
 q2g fun K hK=>q9C fun K1 hK1=>hw K1 fun s h hb=>hK1 s h (hK s h hb)
def Az {id:Nat} {l:List Oper} {b:Code} {s1:Nat→PV} {h1:Hp}  (k:AW P Tb J n b Q s1 h1) (ee:∀ K:(Nat→PV)→Hp→Prop,AL P Tb l (fun s h _=>K s h) l s h []=K s1 h1:=by intro K; simp -implicitDefEqProofs (disch:=omega) only [go_sem,Nat.reduceEqDiff,Nat.reduceAdd,↓reduceIte]; exact rfl):AW P Tb J n (.seq (.region id l.toArray false) b) Q s h:=qcy fun K hK=>(ee K).mpr (hK _ _ k)
def Az1 {id:Nat} {l:List Oper} {b:Code} {s1:Nat→PV} {h1:Hp} {F1:Prop} (f1:F1) (k:AW P Tb J n b Q s1 h1) (ee:F1→∀ K:(Nat→PV)→Hp→Prop,AL P Tb l (fun s h _=>K s h) l s h []=K s1 h1:=by intro g1 K; simp -implicitDefEqProofs (disch:=omega) only [go_sem,Nat.reduceEqDiff,Nat.reduceAdd,↓reduceIte,g1]; exact rfl):AW P Tb J n (.seq (.region id l.toArray false) b) Q s h:=qcy fun K hK=>(ee f1 K).mpr (hK _ _ k)
def Az2 {id:Nat} {l:List Oper} {b:Code} {s1:Nat→PV} {h1:Hp} {F1 F2:Prop} (f1:F1) (f2:F2) (k:AW P Tb J n b Q s1 h1) (ee:F1→F2→∀ K:(Nat→PV)→Hp→Prop,AL P Tb l (fun s h _=>K s h) l s h []=K s1 h1:=by intro g1 g2 K; simp -implicitDefEqProofs (disch:=omega) only [go_sem,Nat.reduceEqDiff,Nat.reduceAdd,↓reduceIte,g1,g2]; exact rfl):AW P Tb J n (.seq (.region id l.toArray false) b) Q s h:=qcy fun K hK=>(ee f1 f2 K).mpr (hK _ _ k)
def Az3 {id:Nat} {l:List Oper} {b:Code} {s1:Nat→PV} {h1:Hp} {F1 F2 F3:Prop} (f1:F1) (f2:F2) (f3:F3) (k:AW P Tb J n b Q s1 h1) (ee:F1→F2→F3→∀ K:(Nat→PV)→Hp→Prop,AL P Tb l (fun s h _=>K s h) l s h []=K s1 h1:=by intro g1 g2 g3 K; simp -implicitDefEqProofs (disch:=omega) only [go_sem,Nat.reduceEqDiff,Nat.reduceAdd,↓reduceIte,g1,g2,g3]; exact rfl):AW P Tb J n (.seq (.region id l.toArray false) b) Q s h:=qcy fun K hK=>(ee f1 f2 f3 K).mpr (hK _ _ k)
def Az4 {id:Nat} {l:List Oper} {b:Code} {s1:Nat→PV} {h1:Hp} {F1 F2 F3 F4:Prop} (f1:F1) (f2:F2) (f3:F3) (f4:F4) (k:AW P Tb J n b Q s1 h1) (ee:F1→F2→F3→F4→∀ K:(Nat→PV)→Hp→Prop,AL P Tb l (fun s h _=>K s h) l s h []=K s1 h1:=by intro g1 g2 g3 g4 K; simp -implicitDefEqProofs (disch:=omega) only [go_sem,Nat.reduceEqDiff,Nat.reduceAdd,↓reduceIte,g1,g2,g3,g4]; exact rfl):AW P Tb J n (.seq (.region id l.toArray false) b) Q s h:=qcy fun K hK=>(ee f1 f2 f3 f4 K).mpr (hK _ _ k)
def Az5 {id:Nat} {l:List Oper} {b:Code} {s1:Nat→PV} {h1:Hp} {F1 F2 F3 F4 F5:Prop} (f1:F1) (f2:F2) (f3:F3) (f4:F4) (f5:F5) (k:AW P Tb J n b Q s1 h1) (ee:F1→F2→F3→F4→F5→∀ K:(Nat→PV)→Hp→Prop,AL P Tb l (fun s h _=>K s h) l s h []=K s1 h1:=by intro g1 g2 g3 g4 g5 K; simp -implicitDefEqProofs (disch:=omega) only [go_sem,Nat.reduceEqDiff,Nat.reduceAdd,↓reduceIte,g1,g2,g3,g4,g5]; exact rfl):AW P Tb J n (.seq (.region id l.toArray false) b) Q s h:=qcy fun K hK=>(ee f1 f2 f3 f4 f5 K).mpr (hK _ _ k)
def Az6 {id:Nat} {l:List Oper} {b:Code} {s1:Nat→PV} {h1:Hp} {F1 F2 F3 F4 F5 F6:Prop} (f1:F1) (f2:F2) (f3:F3) (f4:F4) (f5:F5) (f6:F6) (k:AW P Tb J n b Q s1 h1) (ee:F1→F2→F3→F4→F5→F6→∀ K:(Nat→PV)→Hp→Prop,AL P Tb l (fun s h _=>K s h) l s h []=K s1 h1:=by intro g1 g2 g3 g4 g5 g6 K; simp -implicitDefEqProofs (disch:=omega) only [go_sem,Nat.reduceEqDiff,Nat.reduceAdd,↓reduceIte,g1,g2,g3,g4,g5,g6]; exact rfl):AW P Tb J n (.seq (.region id l.toArray false) b) Q s h:=qcy fun K hK=>(ee f1 f2 f3 f4 f5 f6 K).mpr (hK _ _ k)
def A_sb {id:Nat} {a b:Code} (hw:∀ K:(Nat→PV)→Hp→Prop,(∀ s h,AW P Tb J n b Q s h→K s h)→AW P Tb J n a (inA id (thA K Q)) s h):AW P Tb J n (.seq (.block id a) b) Q s h :=
 q2g fun K hK=>q7y (hw K hK)
def A_sd {id:Nat} {l:List Oper} {b:Code} (prs:List (Nat × Nat)) (hm:P.follows .mixedOrders=true) (hok:qca l (qne [] l) prs=true) (hw:∀ K:(Nat→PV)→Hp→Prop,(∀ s h,AW P Tb J n b Q s h→K s h)→AL P Tb l (fun s h acc=>qqY prs acc∧K s h) l s h []):AW P Tb J n (.seq (.region id l.toArray true) b) Q s h :=
 q2g fun K hK=>qmJ prs hm hok fun K1 hK1=>hw K1 fun s h hb=>hK1 s h (hK s h hb)
def stM_c {xs kv:List (Nat × PV)} {t a:Nat} {x:PV}:stM ((a,x) :: xs) kv t=if t=a then x else stM xs kv t:=rfl
def stM_n {kv:List (Nat × PV)} {t:Nat}:stM [] kv t=stV kv t:=rfl
def stV_c {kv:List (Nat × PV)} {t a:Nat} {x:PV}:stV ((a,x) :: kv) t=if t=a then x else stV kv t:=rfl
def stV_n {t:Nat}:stV [] t=.un:=rfl
def hpM_c {bs:List (Nat × Bk)} {kb:List (Nat × Option Bk)} {i a:Nat} {b:Bk}:hpM ((a,b) :: bs) kb i=if i=a then some b else hpM bs kb i:=rfl
def hpM_n {kb:List (Nat × Option Bk)} {i:Nat}:hpM [] kb i=hpV kb i:=rfl
def hpV_c {kb:List (Nat × Option Bk)} {i a:Nat} {b:Option Bk}:hpV ((a,b) :: kb) i=if i=a then b else hpV kb i:=rfl
def hpV_n {i:Nat}:hpV [] i=none:=rfl
def qvv {τ:Nat→Option Nat} {h h':Hp}:q9F τ h h' []=True:=rfl
def qvw {τ:Nat→Option Nat} {h h':Hp} {i:Nat} {T:TypeId} {k:Kd} {l:List PV} {st:Bool} {r:List (Nat × Option Bk)}:q9F τ h h' ((i,some ⟨T,k,l,st⟩) :: r)=(LeB τ h h' i ⟨T,k,l,st⟩∧q9F τ h h' r):=by simp [q9F]
attribute [go_sem ↓] stM_c stM_n stV_c stV_n hpM_c hpM_n hpV_c hpV_n
attribute [go_sem] qvv qvw
def qmx (o:Option (List PV × List Nat)) (r:PV):Prop:=match o with | some (al,_)=>LeV (fun _=>none) h0 h0 (mkR al) r | none=>False
def qsA {x r:PV} {l:List Nat}:qmx (some ([x],l)) r=LeV (fun _=>none) h0 h0 x r:=rfl
def qsB {r:PV} {l:List Nat}:qmx (some ([],l)) r=LeV (fun _=>none) h0 h0 (.tu []) r:=rfl
def qrz {x y r:PV} {m:List PV} {l:List Nat}:qmx (some (x :: y :: m,l)) r=LeV (fun _=>none) h0 h0 (.tu (x :: y :: m)) r:=rfl
def rsL_n:rsL P h s []=some []:=rfl
def rsC (h:Hp) (k:Option Kd) (p:PV):Option PV:=(ldP h k p).map (·.1)
def rsP_l {a t:Nat}:rsP P h s (.cell a t)=rsC h (q0f P t) (s a):=rfl
def rsC_p {k:Kd} {a i j:Nat}:rsC h (some k) (.pt a i j)=(h a).bind fun b=>if b.st=true∨ksz k=0 then none else (b.xs[i]?).bind (ldU b.k k j):=by
 have e:ldP h (some k) (.pt a i j)=(h a).bind fun b=>if b.st=true∨ksz k=0 then none else ((b.xs[i]?).bind (ldU b.k k j)).map fun x=>(x,[a]):=by
  cases hh:h a <;> simp [ldP,hh]
 unfold rsC;rw [e];cases h a with
 | none=>rfl
 | some b =>
  simp only [Option.bind_some]
  by_cases hc:b.st=true∨ksz k=0
  ·rw [if_pos hc,if_pos hc]; rfl
  ·rw [if_neg hc,if_neg hc];cases (b.xs[i]?).bind (ldU b.k k j) <;> rfl
def rsB (a:Option PV) (b:Option (List PV)):Option (List PV):=a.bind fun x=>b.map fun y=>x :: y
def rsL_c {r:ResultVar} {l:List ResultVar}:rsL P h s (r :: l)=rsB (rsP P h s r) (rsL P h s l):=rfl
def rsB_s {x:PV} {l:List PV}:rsB (some x) (some l)=some (x :: l):=rfl
def rt {fn:Func} {r:PV} {rs:List ResultVar} (hr:fn.results.toList=rs) (hlen:(decide (rs.length≤4))=true) (hk:qmx ((rsL P h s rs).bind (q2e h)) r) {x:Exit} (hx:x=.ret∨x=.normal):retA P fn r x s h:=by
 refine ⟨hx,by rw [hr]; simpa using hlen,?_⟩;rw [hr];cases h1:rsL P h s rs with
 | none=>rw [h1] at hk; exact hk.elim
 | some l =>
  rw [h1,Option.bind_some] at hk;cases h2:q2e h l with
  | none=>rw [h2] at hk; exact hk.elim
  | some p=>rw [h2] at hk; exact ⟨l,p.1,p.2,rfl,h2,hk⟩
def A_t {c:Operand} {a b:Code} (hc:pe s c=.vl (.bool true)) (ha:AW P Tb J n a Q s h):AW P Tb J n (.cond c a b) Q s h:=qhB hc (fun _=>ha) (fun h=>by cases h)
def A_f {c:Operand} {a b:Code} (hc:pe s c=.vl (.bool false)) (hb:AW P Tb J n b Q s h):AW P Tb J n (.cond c a b) Q s h:=qhB hc (fun h=>by cases h) (fun _=>hb)
end
attribute [go_sem] qsA qsB qrz rsL_n rsL_c rsB_s rsP_t rsP_l rsC_p qv1 qmF qv9 qv3 qv6 qv5 qv8 qv7 qmG qv2 qva qvb qvc qvd qve qvf qvt qvu qvx qvy qrA qqz qwA qwB qwC qvz q4y qm4 qm5 qtn qtm qrC qrD ne_eq not_false_eq_true or_true true_or Option.some.injEq Value.int.injEq Value.bool.injEq Option.map_none exists_eq' false_or and_self reduceCtorEq
end Go.E
namespace Go.Proofs.YtbcmhlhgljoolaaGreatDoor
open Go Go.E Go.Sp
abbrev iv (z:Int):PV:=.vl (.int .i64 z)
abbrev uv (z:Int):PV:=.vl (.int .u64 z)
abbrev bv (b:Bool):PV:=.vl (.bool b)
abbrev q6Z:PV:=.vl (.slice none 0 0)
abbrev pI (l:List Int):PV:=.sl none (l.map fun z=>iv z)
abbrev pF (l:List Nat):PV:=.sl none (l.map fun z:Nat=>uv z)
abbrev pB (l:List Bool):PV:=.sl none (l.map bv)
abbrev pV (V:Int):PV:=.fm (fV V)
abbrev ACt (f:FuncId) (al:List PV) (r:PV):Prop:=AC Tryz.prog q2i f al r
section
variable {τ:Nat→Option Nat} {h h':Hp}
def qkJ {l m:List Value}:LeL τ h h' (l.map .vl) (m.map .vl)=(l=m):=by
 refine propext ⟨fun ⟨h1,h2⟩=>?_,fun h=>by subst h; exact q1A rfl (by simp [ClL,Cld,q5R])⟩
 apply List.ext_getElem?
 intro i
 rcases Nat.lt_or_ge i l.length with hi | hi
 ·have hm:i < m.length:=by simp at h1; omega
  have:=h2 i (.vl l[i]) (.vl m[i]) (by simp [hi]) (by simp [hm]);rw [qmF] at this;rw [List.getElem?_eq_getElem hi,List.getElem?_eq_getElem hm,this]
 ·rw [List.getElem?_eq_none hi,List.getElem?_eq_none (by simp at h1; omega)]
def qaS {α:Type} {f:α→Value} (hf:∀ a b,f a=f b→a=b) {l m:List α}:LeL τ h h' (l.map fun z=>.vl (f z)) (m.map fun z=>.vl (f z))=(l=m):=by
 have h1:=qkJ (τ:=τ) (h:=h) (h':=h') (l:=l.map f) (m:=m.map f);rw [List.map_map,List.map_map] at h1;refine Eq.trans h1 (propext ⟨fun h=>?_,fun h=>by rw [h]⟩);exact List.map_inj_right hf |>.1 h
def inj_i:∀ a b:Int,Value.int .i64 a=Value.int .i64 b→a=b:=fun a b h=>by injection h
def inj_u:∀ a b:Nat,Value.int .u64 a=Value.int .u64 b→a=b:=fun a b h=>by injection h with _ h; omega
def inj_b:∀ a b:Bool,Value.bool a=Value.bool b→a=b:=fun a b h=>by injection h
def qcm {l m:List Int}:LeL τ h h' (l.map fun z=>iv z) (m.map fun z=>iv z)=(l=m):=qaS inj_i
def qgt {l m:List Nat}:LeL τ h h' (l.map fun z:Nat=>uv z) (m.map fun z:Nat=>uv z)=(l=m):=qaS (f:=fun z:Nat=>Value.int .u64 z) inj_u
def qkK {l m:List Bool}:LeL τ h h' (l.map fun z=>bv z) (m.map fun z=>bv z)=(l=m):=qaS inj_b
def qvn {m:List Int}:LeL τ h h' [] (m.map fun z=>iv z)=([]=m):=qcm (l:=[])
def qvi {m:List Nat}:LeL τ h h' [] (m.map fun z:Nat=>uv z)=([]=m):=qgt (l:=[])
def qvs {m:List Bool}:LeL τ h h' [] (m.map fun z=>bv z)=([]=m):=qkK (l:=[])
def qvp {x:Int} {m:List Int}:LeL τ h h' [iv x] (m.map fun z=>iv z)=([x]=m):=qcm (l:=[x])
def qvo {x:Int} {l m:List Int}:LeL τ h h' ((l.map fun z=>iv z) ++ [iv x]) (m.map fun z=>iv z)=(l ++ [x]=m):=by
 have:=qcm (τ:=τ) (h:=h) (h':=h') (l:=l ++ [x]) (m:=m)
 rwa [List.map_append] at this
def qvj {x:Nat} {l m:List Nat}:LeL τ h h' ((l.map fun z:Nat=>uv z) ++ [uv x]) (m.map fun z:Nat=>uv z)=(l ++ [x]=m):=by
 have:=qgt (τ:=τ) (h:=h) (h':=h') (l:=l ++ [x]) (m:=m)
 rwa [List.map_append] at this
def qvl {x:Int} {k:Nat} {l m:List Int}:LeL τ h h' ((l.map fun z=>iv z).set k (iv x)) (m.map fun z=>iv z)=(l.set k x=m):=by
 have:=qcm (τ:=τ) (h:=h) (h':=h') (l:=l.set k x) (m:=m)
 rwa [List.map_set] at this
def qvg {x:Nat} {k:Nat} {l m:List Nat}:LeL τ h h' ((l.map fun z:Nat=>uv z).set k (uv x)) (m.map fun z:Nat=>uv z)=(l.set k x=m):=by
 have:=qgt (τ:=τ) (h:=h) (h':=h') (l:=l.set k x) (m:=m)
 rwa [List.map_set] at this
def qvq {x:Bool} {k:Nat} {l m:List Bool}:LeL τ h h' ((l.map fun z=>bv z).set k (bv x)) (m.map fun z=>bv z)=(l.set k x=m):=by
 have:=qkK (τ:=τ) (h:=h) (h':=h') (l:=l.set k x) (m:=m)
 rwa [List.map_set] at this
def qvh {n:Nat} {m:List Nat}:LeL τ h h' (List.replicate n (uv 0)) (m.map fun z:Nat=>uv z)=(List.replicate n 0=m):=by
 have:=qgt (τ:=τ) (h:=h) (h':=h') (l:=List.replicate n 0) (m:=m)
 rwa [List.map_replicate] at this
def qvm {n:Nat} {x:Int} {m:List Int}:LeL τ h h' (List.replicate n (iv x)) (m.map fun z=>iv z)=(List.replicate n x=m):=by
 have:=qcm (τ:=τ) (h:=h) (h':=h') (l:=List.replicate n x) (m:=m)
 rwa [List.map_replicate] at this
def qvr {n:Nat} {x:Bool} {m:List Bool}:LeL τ h h' (List.replicate n (bv x)) (m.map fun z=>bv z)=(List.replicate n x=m):=by
 have:=qkK (τ:=τ) (h:=h) (h':=h') (l:=List.replicate n x) (m:=m)
 rwa [List.map_replicate] at this
attribute [go_sem] qcm qgt qkK qvn qvi qvs qvp qvo qvj qvl qvg qvq qvh qvm qvr exists_eq_left' forall_eq'
end
def q7D (w w':World) (hx:Ext w w') (hT:q2i w):q2i w':=hT.ext hx
def act {f:FuncId} {fn:Func} {c:Code} {al:List PV} {r:PV} (hc:q0C Tryz.prog f=true) (hf:Tryz.prog.funcs[f]?=some fn) (hb:fn.body=some c) {n:Nat} (hn:fn.ntmps=n) (hd:(decide (al.length≤n) && q9E n c)=true)
  (hw:AW Tryz.prog q2i (fun _=>False) n c (retA Tryz.prog fn r) (enP al) h0):ACt f al r:=AC_of hc hf hb hn hd q7D hw
end Go.Proofs.YtbcmhlhgljoolaaGreatDoor
namespace Go.E
open Go Go.RowKit
section
variable {P:Program} {Tb:World→Prop} {J:Nat→Prop} {n:Nat} {Q:SQ} {s:Nat→PV} {h:Hp}
def qk4:∀ {kv:List (Nat × PV)},(∀ p ∈ kv,p.2=s p.1)→∀ t,stV kv t=s t∨stV kv t=.un
 | [],_,_=>.inr rfl
 | p :: l,hk,t=>by
  unfold stV
  split
  ·rename_i ht; subst ht; exact .inl (hk p List.mem_cons_self)
  ·exact qk4 (fun q hq=>hk q (List.mem_cons_of_mem _ hq)) t
def q4z {c:Code} (ks:List Nat) {kv:List (Nat × PV)} (hk:(ks.map fun t=>(t,s t))=kv) (hw:AW P Tb J n c Q (stV kv) h):AW P Tb J n c Q s h:=q5V (s':=stV kv) (h':=h) (fun D0 w0 ρ e w _ S=>⟨ρ,S.inj,S.own,S.vir,fun t=>by
  rcases qk4 (s:=s) (kv:=kv) (fun p hp=>by
   rw [← hk] at hp;obtain ⟨t,_,rfl⟩:=List.mem_map.1 hp
   rfl) t with h | h
  ·rw [h]; exact S.rd t
  ·rw [h]; unfold Rd; trivial,S.ext,S.fr,S.imp,S.pin⟩) hw
def qnv {kk:IntKind} {l:List PV}:qbG (some 1) (.sl none l) (.vl (.int kk 0))=(l[0]?).map (.qt none):=qez (n:=0)
def qnx {kk:IntKind} {a off c:Nat} (hn:0 < c):qbG (some 1) (.ow a none off c) (.vl (.int kk 0))=some (.pt a off 0):=qfA (n:=0) hn
def fldQ (r:Nat × Kd) (l:List PV):Option PV:=match r.2 with
 | none=>(l[r.1]?).map (.qt none)
 | some m=>if r.1+m≤l.length∧0 < m then some (.qt (some m) (.ag ((l.drop r.1).take m))) else none
def qtK {t:TypeId} {f n:Nat} {l:List PV}:qqU P t f (.qt (some n) (.ag l))=(q3E P t f).bind fun r=>fldQ r l:=by unfold qqU fldQ; rfl
def qtN {o:Nat} {l:List PV}:fldQ (o,none) l=(l[o]?).map (.qt none):=rfl
attribute [go_sem] qnv qnx qtK qtN Option.bind_some
end
def nos:Nat→PV:=fun _=>.un
abbrev win (i:Nat):Prop:=5000≤i∧i < 1000000
def q1Q (hw h:Hp):Hp:=fun i=>if win i then hw i else h i
mutual
def IdP (p:Nat→Prop):PV→Prop
 | .ow id _ _ _=>p id
 | .pt id _ _=>p id
 | .ag l=>IdL p l
 | .tu l=>IdL p l
 | _=>True
def IdL (p:Nat→Prop):List PV→Prop
 | []=>True
 | x :: l=>IdP p x∧IdL p l
end
def IdL.mem {p:Nat→Prop}:∀ {l:List PV},IdL p l→∀ x ∈ l,IdP p x
 | y :: l,h,x,hx=>by
  unfold IdL at h
  rcases List.mem_cons.1 hx with rfl | hx
  ·exact h.1
  ·exact h.2.mem x hx
def IdL.of {p:Nat→Prop}:∀ {l:List PV},(∀ x ∈ l,IdP p x)→IdL p l
 | [],_=>by unfold IdL; trivial
 | y :: l,h=>by unfold IdL; exact ⟨h y List.mem_cons_self,IdL.of fun x hx=>h x (List.mem_cons_of_mem _ hx)⟩
section
variable {w:World} {D D':Nat→Prop} {ρ:Nat→Option Nat} {h h':Hp} {p:Nat→Prop}
mutual
def Rd.only (hd:∀ k,D k→D' k) (hp:∀ i,p i→h' i=h i):∀ (x:PV) (y:Value),IdP p x→Rd w D x ρ h y→Rd w D' x ρ h' y
 | .un,_,_,_=>by unfold Rd; trivial
 | .vl x,y,_,hr=>by unfold Rd at hr ⊢; exact hr
 | .fm G,y,_,hr=>by unfold Rd at hr ⊢; exact hr.sub fun k _ hk=>hd k hk
 | .sl k l,y,_,hr=>((q6Q (x:=.sl k l) trivial hr).sub fun k _ hk=>hd k hk).cl
 | .qt k x,y,_,hr=>((q6Q (x:=.qt k x) trivial hr).sub fun k _ hk=>hd k hk).cl
 | .ow id k off n,y,hi,hr=>by
  unfold IdP at hi;unfold Rd at hr ⊢;rw [hp id hi];exact hr
 | .pt id i j,y,hi,hr=>by
  unfold IdP at hi;unfold Rd at hr ⊢;rw [hp id hi];exact hr
 | .ag l,y,hi,hr=>by
  unfold IdP at hi;unfold Rd at hr ⊢;obtain ⟨vs,h1,h2⟩:=hr;exact ⟨vs,h1,RdL.only hd hp l vs hi h2⟩
 | .tu l,y,hi,hr=>by
  unfold IdP at hi;unfold Rd at hr ⊢;obtain ⟨vs,h1,h2⟩:=hr;exact ⟨vs,h1,RdL.only hd hp l vs hi h2⟩
def RdL.only (hd:∀ k,D k→D' k) (hp:∀ i,p i→h' i=h i):∀ (l:List PV) (vs:List Value),IdL p l→RdL w D l ρ h vs→RdL w D' l ρ h' vs
 | [],vs,_,hr=>by unfold RdL at hr ⊢; exact hr
 | x :: l,vs,hi,hr=>by
  unfold IdL at hi;unfold RdL at hr ⊢;obtain ⟨y,ys,h1,h2,h3⟩:=hr;exact ⟨y,ys,h1,Rd.only hd hp x y hi.1 h2,RdL.only hd hp l ys hi.2 h3⟩
end
end
structure ACm (P:Program) (Tb:World→Prop) (f:FuncId) (al:List PV) (hin:Hp) (x:PV) (hout:Hp):Prop where
 ca:q0C P f=true
 hi:∀ i b,hin i=some b→win i∧b.st=false∧IdL win b.xs∧∃ b',hout i=some b'∧b'.k=b.k∧b.xs.length≤b'.xs.length
 ho:∀ i b,hout i=some b→win i
 ids:IdL win al
 run:∀ (D0:Nat→Prop) (B:Base) (ρ:Nat→Option Nat) (w:World) (vs:List Value),(∀ w',Kp B.F B.w w'→Tb w')→(∀ i r,B.J i r→hin i≠none)→Fr D0 B.w→vs.length=al.length→Sat D0 B (enP al) hin ρ (q4Y vs) w →
  Calls P f vs.toArray w fun r w'=>∃ v ρ',r=.returned v∧Sat D0 B nos hout ρ' (fun _=>v) w'∧Rd w' (dm D0 ρ' hout) x ρ' hout v
def retM (P:Program) (fn:Func) (hin:Hp) (x:PV) (hout:Hp):SQ:=fun e s h=>(e=.ret∨e=.normal)∧fn.results.toList.length≤4∧∃ l,rsL P h s fn.results.toList=some l∧Le (fun i=>hin i≠none) (fun _=>mkR l) h (fun _=>x) hout
section
variable {P:Program} {Tb:World→Prop} {n:Nat} {s:Nat→PV} {h hin hout:Hp} {D0:Nat→Prop} {w0:Base} {w:World} {ρ:Nat→Option Nat} {e:Env}
def qsg {D:Nat→Prop} {l:List PV} {us:List Value} (hr:RdL w D l ρ h us):Rd w D (mkR l) ρ h (mkV us):=by
 cases l with
 | nil=>unfold RdL at hr; subst hr; unfold mkR mkV Rd; exact ⟨[],rfl,by unfold RdL; rfl⟩
 | cons c cl =>
  cases cl with
  | nil =>
   unfold RdL at hr;obtain ⟨y,ys,rfl,e1,e2⟩:=hr;unfold RdL at e2;subst e2;exact e1
  | cons d cl =>
   have u5:=hr;unfold RdL at u5;obtain ⟨y,ys,rfl,e1,e2⟩:=u5;unfold RdL at e2;obtain ⟨z,zs,rfl,e3,e4⟩:=e2
   show Rd w D (.tu (c :: d :: cl)) _ _ (.tuple ⟨y :: z :: zs⟩)
   unfold Rd;exact ⟨_,rfl,hr⟩
def qwL {f:FuncId} {fn:Func} {c:Code} {al:List PV} {x:PV} (hc:q0C P f=true) (hf:P.funcs[f]?=some fn) (hb:fn.body=some c) (hn:fn.ntmps=n) (hd:(decide (al.length≤n) && q9E n c)=true)
  (hi:∀ i b,hin i=some b→win i∧b.st=false∧IdL win b.xs∧∃ b',hout i=some b'∧b'.k=b.k∧b.xs.length≤b'.xs.length) (ho:∀ i b,hout i=some b→win i) (hal:IdL win al)
  (hw:AW P Tb (fun i=>hin i≠none) n c (retM P fn hin x hout) (enP al) hin):ACm P Tb f al hin x hout:=by
 refine ⟨hc,hi,ho,hal,fun D0 B ρ w vs hT hJ hF hlen S=>?_⟩;refine q0J hf hb hn (by rw [List.size_toArray,hlen]; exact hd) ?_;refine q5G (fun y e' w' hx=>?_) (hw D0 B ρ _ w ⟨hT,hJ⟩ hF S);obtain ⟨s',h',ρ',S',hy,h4,l,h1,hle⟩:=hx;obtain ⟨us,u1,u2⟩:=qeA S' h1;have S2:Sat D0 B (fun _=>mkR l) h' ρ' (fun _=>mkV us) w':=⟨S'.inj,S'.own,S'.vir,fun _=>qsg u2,S'.ext,S'.fr,S'.imp,S'.pin⟩;obtain ⟨ρ2,S3⟩:=hle _ _ _ _ _ hJ S2;have fin:∃ v ρ',Ending.returned (mkV us)=.returned v∧Sat D0 B nos hout ρ' (fun _=>v) w'∧Rd w' (dm D0 ρ' hout) x ρ' hout v :=
  ⟨_,ρ2,rfl,⟨S3.inj,S3.own,S3.vir,fun _=>by unfold nos Rd; trivial,S3.ext,S3.fr,S3.imp,S3.pin⟩,S3.rd 0⟩
 have key:q9D P fn (fun r w'=>∃ v ρ',r=.returned v∧Sat D0 B nos hout ρ' (fun _=>v) w'∧Rd w' (dm D0 ρ' hout) x ρ' hout v) .ret e' w':=by
  cases hrs:fn.results with
  | mk rs =>
  rw [hrs] at u1 h4;simp only at u1 h4;clear u2 h1 S2 hle S3
  rcases rs with _ | ⟨a,_ | ⟨b,_ | ⟨c,_ | ⟨d,_ | ⟨f,rs⟩⟩⟩⟩⟩ <;> rcases us with _ | ⟨x,_ | ⟨y,_ | ⟨z,_ | ⟨t,_ | ⟨t',us⟩⟩⟩⟩⟩ <;> simp at u1 h4
  ·exact ret0 hrs fin
  ·exact q3D hrs u1 fin
  ·exact qmz hrs u1.1 u1.2 fin
  ·exact qmy hrs u1.1 u1.2.1 u1.2.2 fin
  ·exact qsC hrs u1.1 u1.2.1 u1.2.2.1 u1.2.2.2 fin
 rcases hy with rfl | rfl
 ·exact key
 ·exact key
def q0m {hw:Hp} {i:Nat} (hi:win i):q1Q hw h i=hw i:=if_pos hi
def q1J {hw:Hp} {i:Nat} (hi:¬ win i):q1Q hw h i=h i:=if_neg hi
def Blk.uniq {g:Nat} {T T':TypeId} {c c':Array Value} (h1:Blk w g T c) (h2:Blk w g T' c'):c=c'∧T=T':=by
 have h5:=h1.symm.trans h2
 injection h5 with h5
 injection h5 with h5 h6
 exact ⟨h5,h6⟩
def Sat.callm {J:Nat→Prop} (S:Sat D0 w0 s h ρ e w) (hT:∀ w,Kp w0.F w0.w w→Tb w) (hF:Fr D0 w0.w) (hJ:∀ i r,w0.J i r→J i) {f:FuncId} {args:List Operand} {al:List PV} {x:PV} (ha:args.map (pe s)=al) (hC:ACm P Tb f al hin x hout) (hh:∀ i,win i→h i=hin i) (hn:∀ i,J i→hout i≠none→hin i≠none) {K:Value→World→Prop}
  (hK:∀ v w' ρ',Sat D0 w0 s (q1Q hout h) ρ' e w'→Rd w' (dm D0 ρ' (q1Q hout h)) x ρ' (q1Q hout h) v→K v w'):q0C P f=true∧Calls P f (args.map (ev e)).toArray w fun r w'=>match r with | .returned v=>K v w' | _=>False:=by
 classical
 refine ⟨hC.ca,?_⟩;subst ha
 let hd:Nat→Prop:=fun g=>∃ i b,win i∧h i=some b∧ρ i=some g
 let B:Base:=⟨w,fun k=>k < w.heap.size∧¬ hd k,fun g T m=>∃ cs,Blk w g T cs∧cs.size=m∧∀ u ∈ cs.toList,q4n u=true,fun i r=>(∃ b,hin i=some b)∧ρ i=r,fun k hk=>hk.1,fun i r ⟨⟨b,hb⟩,_⟩=>(hC.hi i b hb).1⟩
 let D1:Nat→Prop:=fun k=>D0 k∧(hd k∨∀ i b,h i=some b→¬ win i→ρ i≠some k)
 have toh:∀ {i b},hin i=some b→h i=some b:=fun {i b} hb=>(hh i (hC.hi i b hb).1).trans hb;have hno:∀ i b g,h i=some b→¬ win i→b.st=false→ρ i=some g→¬ hd g:=fun i b g hi hw hs hr ⟨j,c,wj,hj,rj⟩=>by
  have hcs:=(hC.hi j c ((hh j wj).symm.trans hj)).2.1
  rcases S.inj i j b c g hi hj hcs hr rj with e | e
  ·subst e; exact hw wj
  ·rw [hs] at e; cases e
 have e1:∀ k,dm D1 ρ hin k ↔ dm D0 ρ h k:=fun k=>by
  constructor
  ·rintro ⟨⟨q1,q2⟩,q3⟩;refine ⟨q1,fun i b hi hr=>?_⟩
   by_cases hw:win i
   ·exact q3 i b ((hh i hw).symm.trans hi) hr
   ·rcases q2 with ⟨j,c,wj,hj,rj⟩ | q2
    ·exact q3 j c ((hh j wj).symm.trans hj) rj
    ·exact q2 i b hi hw hr
  ·rintro ⟨q1,q2⟩;exact ⟨⟨q1,.inr fun i b hi _=>q2 i b hi⟩,fun i b hi=>q2 i b (toh hi)⟩
 have S0:Sat D1 B (enP (args.map (pe s))) hin ρ (q4Y (args.map (ev e))) w:=by
  refine ⟨fun i j b c g hi hj hs ri rj=>S.inj i j b c g (toh hi) (toh hj) hs ri rj,fun i b g hi ri=>?_,fun i b hi ri=>S.vir i b (toh hi) ri,fun t=>?_,Kp.refl _ _,fun k hk=>?_,fun g T m hi=>hi,fun i r hi=>hi.2⟩
  ·obtain ⟨a1,cs,c1,c2,c3⟩:=S.own i b g (toh hi) ri;have hg:hd g:=⟨i,b,(hC.hi i b hi).1,toh hi,ri⟩;refine ⟨⟨fun hf=>hf.2 hg,a1.2,.inl hg⟩,cs,c1,c2,fun hs=>?_⟩;obtain ⟨vs,v1,v2,v3⟩:=c3 hs;exact ⟨vs,v1,RdL.only (fun k hk=>(e1 k).2 hk) (fun i hi=>(hh i hi).symm) _ _ (hC.hi i b hi).2.2.1 v2,v3⟩
  ·unfold enP q4Y;rw [List.getD_eq_getElem?_getD,List.getD_eq_getElem?_getD,List.getElem?_map,List.getElem?_map];cases ht:args[t]? with
   | none=>simp only [Option.map_none,Option.getD_none]; unfold Rd; trivial
   | some x =>
    simp only [Option.map_some,Option.getD_some];exact Rd.only (fun k hk=>(e1 k).2 hk) (fun i hi=>(hh i hi).symm) _ _ (hC.ids.mem _ (List.mem_map_of_mem (List.mem_of_getElem? ht))) (S.pex x)
  ·exact ⟨hF k (Nat.le_trans S.ext.size hk),.inr fun i b hi _ hr=>by have:=(S.own i b k hi hr).2.lt; have:w.heap.size≤k:=hk; omega⟩
 have hFB:∀ k,w0.F k→B.F k:=fun k hk=>⟨Nat.lt_of_lt_of_le (w0.lt k hk) S.ext.size,fun ⟨i,b,_,hi,hr⟩=>(S.own i b k hi hr).1.1 hk⟩;have hFr:Fr D1 B.w:=S0.fr;refine (hC.run D1 B ρ w _ (fun w' hk=>hT w' (S.ext.trans (hk.mono fun k _ hq=>hFB k hq))) (fun i r ⟨⟨b,hb⟩,_⟩=>by rw [hb]; exact Option.some_ne_none b) hFr (by simp) S0).mono fun r w' hx=>?_;obtain ⟨v,ρ',rfl,S',hx⟩:=hx
 let ρ2:Nat→Option Nat:=fun i=>if win i then (if hout i=none then ρ i else ρ' i) else ρ i
 have p1:∀ {i b},hin i=some b→ρ' i=ρ i:=fun {i b} hb=>S'.pin i _ ⟨⟨b,hb⟩,rfl⟩;have p2:∀ {i b},hout i=some b→ρ2 i=ρ' i:=fun {i b} hb=>by simp only [ρ2,if_pos (hC.ho i b hb),hb]; rfl
 have p3:∀ {i},¬ win i→ρ2 i=ρ i:=fun {i} hw=>by simp only [ρ2,if_neg hw]
 have hk:Kp B.F w w':=S'.ext;have bold:∀ i b g,h i=some b→ρ i=some g→∃ cs,Blk w' g b.T cs∧(∀ u ∈ cs.toList,q4n u=true)∧∀ m,BSz w g m→cs.size=m:=fun i b g hi hr=>by
  obtain ⟨_,cs,c1,c2,_⟩:=S.own i b g hi hr;obtain ⟨cs',d1,d2,d3⟩:=S'.imp g b.T cs.size ⟨cs,c1,rfl,c2⟩;refine ⟨cs',d1,d3,fun m ⟨c0,T0,f1,f2⟩=>?_⟩;have:=(Blk.uniq c1 f1).1;subst this;omega
 have hdn:∀ {k},dm D0 ρ h k→¬ hd k:=fun {k} hq ⟨i,b,_,hi,hr⟩=>hq.2 i b hi hr;have cA:Cpt w w' ρ h ρ2 (q1Q hout h):=fun i b hi=>by
  refine ⟨?_,?_,fun g m hr hb=>?_⟩
  ·by_cases hw:win i
   ·have hb:=(hh i hw).symm.trans hi;obtain ⟨b',hb',_⟩:=(hC.hi i b hb).2.2.2;rw [p2 hb',p1 hb]
   ·exact p3 hw
  ·by_cases hw:win i
   ·obtain ⟨b',hb',h1,h2⟩:=(hC.hi i b ((hh i hw).symm.trans hi)).2.2.2;exact ⟨b',by rw [q0m hw]; exact hb',h1,h2⟩
   ·exact ⟨b,by rw [q1J hw]; exact hi,rfl,Nat.le_refl _⟩
  ·obtain ⟨cs,c1,_,c3⟩:=bold i b g hi hr;exact ⟨cs,_,c1,c3 m hb⟩
 have cB:Cpt w' w' ρ' hout ρ2 (q1Q hout h):=fun i b hi=>⟨p2 hi,⟨b,by rw [q0m (hC.ho i b hi)]; exact hi,rfl,Nat.le_refl _⟩,fun _ _ _ hb=>hb⟩;have nF:∀ {i b g},hout i=some b→ρ' i=some g→g < w.heap.size→hd g:=fun {i b g} hi hr hlt=>by
  have:=(S'.own i b g hi hr).1.1;exact Classical.byContradiction fun hn=>this ⟨hlt,hn⟩
 have e2:∀ k,dm D1 ρ' hout k→dm D0 ρ2 (q1Q hout h) k:=fun k ⟨⟨q1,q2⟩,q3⟩=>⟨q1,fun i b hi hr=>by
  by_cases hw:win i
  ·rw [q0m hw] at hi;rw [p2 hi] at hr;exact q3 i b hi hr
  ·rw [q1J hw] at hi;rw [p3 hw] at hr
   rcases q2 with ⟨j,c,wj,hj,rj⟩ | q2
   ·have hb:=(hh j wj).symm.trans hj;obtain ⟨b',hb',_⟩:=(hC.hi j c hb).2.2.2;exact q3 j b' hb' ((p1 hb).trans rj)
   ·exact q2 i b hi hw hr⟩
 have hd1:∀ k,k < w.heap.size→dm D0 ρ h k→dm D0 ρ2 (q1Q hout h) k:=fun k hlt hq=>⟨hq.1,fun i b hi hr=>by
  by_cases hw:win i
  ·rw [q0m hw] at hi;rw [p2 hi] at hr;exact hdn hq (nF hi hr hlt)
  ·rw [q1J hw] at hi;rw [p3 hw] at hr;exact hq.2 i b hi hr⟩
 have kpd:Kp (dm D0 ρ h) w w':=hk.mono fun k hlt hq=>⟨hlt,hdn hq⟩;refine hK v w' ρ2 ⟨fun i j b c g hi hj hs ri rj=>?_,fun i b g hi ri=>?_,fun i b hi ri=>?_,fun t=>Rd.mv kpd hd1 _ _ _ _ _ _ cA (S.rd t),S.ext.trans (hk.mono fun k _ hq=>hFB k hq),S.fr,fun g T m hi=>?_,fun i r hj=>?_⟩ (Rd.mv (Kp.refl _ _) (fun k _ hq=>e2 k hq) _ _ _ _ _ _ cB hx)
 ·by_cases wi:win i <;> by_cases wj:win j
  ·rw [q0m wi] at hi; rw [q0m wj] at hj;rw [p2 hi] at ri; rw [p2 hj] at rj;exact S'.inj i j b c g hi hj hs ri rj
  ·rw [q0m wi] at hi; rw [q1J wj] at hj;rw [p2 hi] at ri; rw [p3 wj] at rj;exact (hno j c g hj wj hs rj (nF hi ri (S.own j c g hj rj).2.lt)).elim
  ·rw [q1J wi] at hi; rw [q0m wj] at hj;rw [p3 wi] at ri; rw [p2 hj] at rj;cases hb:b.st
   ·exact (hno i b g hi wi hb ri (nF hj rj (S.own i b g hi ri).2.lt)).elim
   ·exact .inr rfl
  ·rw [q1J wi] at hi; rw [q1J wj] at hj;rw [p3 wi] at ri; rw [p3 wj] at rj;exact S.inj i j b c g hi hj hs ri rj
 ·by_cases wi:win i
  ·rw [q0m wi] at hi;rw [p2 hi] at ri;obtain ⟨⟨a1,a2⟩,a3⟩:=S'.own i b g hi ri;exact ⟨⟨fun hf=>a1 (hFB g hf),a2.1⟩,a3.mv rfl (Kp.refl _ _) (fun k _ hq=>e2 k hq) cB⟩
  ·rw [q1J wi] at hi;rw [p3 wi] at ri;obtain ⟨a1,a2⟩:=S.own i b g hi ri;refine ⟨a1,?_⟩;cases hb:b.st
   ·exact a2.mv (hk.block g a2.lt ⟨a2.lt,hno i b g hi wi hb ri⟩) kpd hd1 cA
   ·obtain ⟨cs,c1,c2,_⟩:=bold i b g hi ri;exact ⟨cs,c1,c2,fun hf=>by rw [hb] at hf; cases hf⟩
 ·by_cases wi:win i
  ·rw [q0m wi] at hi;rw [p2 hi] at ri;exact S'.vir i b hi ri
  ·rw [q1J wi] at hi;rw [p3 wi] at ri;exact S.vir i b hi ri
 ·obtain ⟨cs,c1,c2,c3⟩:=S.imp g T m hi;exact S'.imp g T m ⟨cs,c1,c2,c3⟩
 ·have h1:=S.pin i r hj
  show (if win i then (if hout i=none then ρ i else ρ' i) else ρ i)=r
  split
  ·split
   ·exact h1
   ·rename_i ho;have:=hn i (hJ i r hj) ho;obtain ⟨b,hb⟩:=Option.ne_none_iff_exists'.1 this;rw [p1 hb]; exact h1
  ·exact h1
def q2b {α:Type} {o:Option α} {A B:α→Prop} (hk:∀ a,A a→B a) (h:q2r o A):q2r o B:=by
 cases o with
 | none=>exact h.elim
 | some a=>exact hk a h
def qmV {o:Oper} {A B:Value→World→Prop} (hk:∀ v w,A v w→B v w) (h:wo P o e w A):wo P o e w B:=by
 obtain ⟨dst,op,ty,pos,af,gd⟩:=o;have hWO:WO P ⟨dst,op,ty,pos,af,gd⟩ e w A→WO P ⟨dst,op,ty,pos,af,gd⟩ e w B:=fun h=>qgp hk h;unfold wo at h ⊢;cases op <;> simp only at h ⊢ <;> (try (first | exact hk _ _ h | exact q2b (fun _ hq=>hk _ _ hq) h | exact hWO h))
 case pick c a b=>split at h <;> first | exact hk _ _ h | exact h
 case store t a x =>
  split at h
  ·exact ⟨h.1,h.2.1,hk _ _ h.2.2⟩
  ·exact h
 case fieldAddr t x f =>
  split at h
  ·exact q2b (fun _ hq=>hk _ _ hq) h
  ·exact h
 case slice t x lo hi mx=>cases mx <;> first | exact q2b (fun _ hq=>hk _ _ hq) h | exact hWO h
 case makeSlice t l c =>
  split at h
  ·exact q2b (fun _ hq=>⟨hq.1,hk _ _ hq.2⟩) h
  ·exact h
 case nilCheck x =>
  split at h
  ·exact hk _ _ h
  ·exact h
 case call c =>
  obtain ⟨callee,args,tys⟩:=c;cases callee
  case builtin b =>
   cases b <;> simp only at h ⊢ <;> (try (first | exact q2b (fun _ hq=>hk _ _ hq) h | exact hWO h))
   split at h
   ·exact q2b (fun _ hq=>hk _ _ hq) h
   ·exact h
  case value f =>
   cases f <;> simp only at h ⊢ <;> (try exact hWO h);exact ⟨h.1,h.2.mono fun x w' hq=>by cases x <;> first | exact hk _ _ hq | exact hq⟩
  case invoke r m=>exact hWO h
def qmZ {ops:Array Oper} {o:Oper} {A B:Value→World→Prop} (hk:∀ v w,A v w→B v w) (h:wg P ops o e w A):wg P ops o e w B:=by
 unfold wg at h ⊢
 split
 ·rename_i hw; rw [if_pos hw] at h; exact qmV hk h
 ·rename_i hw; rw [if_neg hw] at h; exact hk _ _ h
def Sj (P:Program) (Tb:World→Prop) (J:Nat→Prop) (ops:List Oper) (o:Oper) (s:Nat→PV) (h:Hp) (K:(Nat→PV)→Hp→Prop):Prop :=
 (∃ x h' fp,q7w P Tb ops o s h x h' fp∧K (q36 s o.dst x) h') ∨
  (o.guard=none∧∃ f args ts hin x hout,o.op=.call ⟨.value (.func f),args,ts⟩∧ACm P Tb f (args.toList.map (pe s)) hin x hout∧(∀ i,win i→h i=hin i)∧(∀ i,J i→hout i≠none→hin i≠none)∧K (q36 s o.dst x) (q1Q hout h))
def ALj (P:Program) (Tb:World→Prop) (J:Nat→Prop) (ops:List Oper) (K:(Nat→PV)→Hp→Prop):List Oper→(Nat→PV)→Hp→Prop
 | [],s,h=>K s h
 | o :: l,s,h=>Sj P Tb J ops o s h (ALj P Tb J ops K l)
def ASj (P:Program) (Tb:World→Prop) (J:Nat→Prop) (ops:List Oper) (K:(Nat→PV)→Hp→Prop):Sch→(Nat→PV)→Hp→Prop
 | .fin,s,h=>K s h
 | .one i t,s,h=>Sj P Tb J ops (qcS ops i) s h (ASj P Tb J ops K t)
 | .alt t u,s,h=>ASj P Tb J ops K t s h∧ASj P Tb J ops K u s h
def qv0 {J:Nat→Prop} {ops:List Oper} (hT:∀ w,Kp w0.F w0.w w→Tb w) (hJ:∀ i r,w0.J i r→J i) (hF:Fr D0 w0.w) {o:Oper} {K:(Nat→PV)→Hp→Prop} {K':Env→World→Prop} (S:Sat D0 w0 s h ρ e w) (hs:Sj P Tb J ops o s h K) (hk:∀ s h ρ e w,Sat D0 w0 s h ρ e w→K s h→K' e w):wg P ops.toArray o e w fun v w'=>K' (E.put e o.dst v) w':=by
 rcases hs with ⟨x,h',fp,h1,h2⟩ | ⟨hg,f,args,ts,hin,x,hout,ho,hC,hh,hn,h2⟩
 ·exact qmZ (fun v w' ⟨ρ',S'⟩=>hk _ _ ρ' _ _ S' h2) (q9p S (hT _ S.ext) hF h1)
 ·have:=S.callm (K:=fun v w'=>K' (E.put e o.dst v) w') hT hF hJ rfl hC hh hn fun v w' ρ' S' hr=>hk _ _ ρ' _ _ (S'.puto o.dst hr) h2;have he:args.map (ev e)=(args.toList.map (ev e)).toArray:=by cases args; simp
  rw [← he] at this;obtain ⟨dst,op,ty,pos,af,gd⟩:=o;simp only at ho hg;subst ho;subst hg;rw [q6y];exact this
def qmL {J:Nat→Prop} {ops:List Oper} {K:(Nat→PV)→Hp→Prop} (hT:∀ w,Kp w0.F w0.w w→Tb w) (hJ:∀ i r,w0.J i r→J i) (hF:Fr D0 w0.w) {K':Env→World→Prop} (hk:∀ s h ρ e w,Sat D0 w0 s h ρ e w→K s h→K' e w):∀ (l:List Oper) (s:Nat→PV) (h:Hp) (ρ:Nat→Option Nat) (e:Env) (w:World),Sat D0 w0 s h ρ e w→ALj P Tb J ops K l s h→WL P ops.toArray K' l e w
 | [],s,h,ρ,e,w,S,hal=>hk s h ρ e w S hal
 | o :: l,s,h,ρ,e,w,S,hal=>q0w (qv0 hT hJ hF S hal fun s h ρ e w S' hq=>qmL hT hJ hF hk l s h ρ e w S' hq)
def qbq {J:Nat→Prop} {ops:List Oper} {K:(Nat→PV)→Hp→Prop} (hT:∀ w,Kp w0.F w0.w w→Tb w) (hJ:∀ i r,w0.J i r→J i) (hF:Fr D0 w0.w) {K':Env→World→Prop} (hk:∀ s h ρ e w,Sat D0 w0 s h ρ e w→K s h→K' e w):∀ (t:Sch) (s:Nat→PV) (h:Hp) (ρ:Nat→Option Nat) (e:Env) (w:World),Sat D0 w0 s h ρ e w→ASj P Tb J ops K t s h→WS P ops K' t e w
 | .fin,s,h,ρ,e,w,S,hal=>hk s h ρ e w S hal
 | .one i t,s,h,ρ,e,w,S,hal=>qv0 hT hJ hF S hal fun s h ρ e w S' hq=>qbq hT hJ hF hk t s h ρ e w S' hq
 | .alt t u,s,h,ρ,e,w,S,hal=>⟨qbq hT hJ hF hk t s h ρ e w S hal.1,qbq hT hJ hF hk u s h ρ e w S hal.2⟩
def qgx {J:Nat→Prop} {Q:SQ} {id:Nat} {l:List Oper} (hw:∀ K:(Nat→PV)→Hp→Prop,(∀ s h,Q .normal s h→K s h)→ALj P Tb J l K l s h):AW P Tb J n (.region id l.toArray false) Q s h:=fun D0 w0 ρ e w hT hF S=>by
 refine q5g ?_;exact qmL (K':=fun e' w'=>∃ s' h' ρ',Sat D0 w0 s' h' ρ' e' w'∧Q .normal s' h') hT.1 hT.2 hF (fun s h ρ e w S hq=>⟨s,h,ρ,S,hq⟩) l s h ρ e w S (hw _ fun _ _ h=>h)
def qwH {J:Nat→Prop} {Q:SQ} {id:Nat} {l:List Oper} (hm:P.follows .mixedOrders=true) (t:Sch) (hok:(Region.noSelect l.toArray && q5s l t false l.length (Array.replicate l.length false))=true) (hw:∀ K:(Nat→PV)→Hp→Prop,(∀ s h,Q .normal s h→K s h)→ASj P Tb J l K t s h):AW P Tb J n (.region id l.toArray true) Q s h:=fun D0 w0 ρ e w hT hF S=>by
 refine W_dA hm t hok fun K w1 hK hx=>?_;exact qbq (K':=K) hT.1 hT.2 hF (fun s h ρ e w S hq=>hK _ _ ⟨s,h,ρ,S,hq⟩) t s h ρ e w1 (S.extend hx) (hw (fun s h=>Q .normal s h) fun _ _ h=>h)
def A_dj {J:Nat→Prop} {Q:SQ} {id:Nat} {l:List Oper} {b:Code} (hm:P.follows .mixedOrders=true) (t:Sch) (hok:(Region.noSelect l.toArray && q5s l t false l.length (Array.replicate l.length false))=true) (hw:∀ K:(Nat→PV)→Hp→Prop,(∀ s h,AW P Tb J n b Q s h→K s h)→ASj P Tb J l K t s h):AW P Tb J n (.seq (.region id l.toArray true) b) Q s h :=
 q2g fun K hK=>qwH hm t hok fun K1 hK1=>hw K1 fun s h hb=>hK1 s h (hK s h hb)
def qhL {J:Nat→Prop} {Q:SQ} {id:Nat} {l:List Oper} {b:Code} (hw:∀ K:(Nat→PV)→Hp→Prop,(∀ s h,AW P Tb J n b Q s h→K s h)→ALj P Tb J l K l s h):AW P Tb J n (.seq (.region id l.toArray false) b) Q s h :=
 q2g fun K hK=>qgx fun K1 hK1=>hw K1 fun s h hb=>hK1 s h (hK s h hb)
end
def q9i (P:Program) (Tb:World→Prop) (J:Nat→Prop) (f:FuncId) (h:Hp) (xs:List PV) [K:Cn (PV→Hp→Prop)]:Prop :=
 @q5S P Tb f (q2e h xs) ⟨fun x _=>K.k x h⟩∨∃ hin x hout,ACm P Tb f xs hin x hout∧(∀ i,win i→h i=hin i)∧(∀ i,J i→hout i≠none→hin i≠none)∧K.k x (q1Q hout h)
def aoj (P:Program) (Tb:World→Prop) (J:Nat→Prop) (d:Option Nat) (op:Op) (s:Nat→PV) (h:Hp) (K:PV→Hp→Prop):Prop :=
 match op with
 | .call ⟨.value (.func f),args,_⟩=>@q9i P Tb J f h (args.toList.map (pe s)) ⟨K⟩
 | op=>ao P Tb d op s h fun x h' _=>K x h'
section
variable {P:Program} {Tb:World→Prop} {J:Nat→Prop} {d:Option Nat} {ty t:TypeId} {pos:String} {af:Array Edge} {s:Nat→PV} {h:Hp} {K:PV→Hp→Prop} {ops r:List Oper} {KL:(Nat→PV)→Hp→Prop}
@[congr] theorem qum {op:Op}:aoj P Tb J d op s h K=aoj P Tb J d op s h K:=rfl
@[congr] theorem qwJ {l:List Oper}:ALj P Tb J ops KL l s h=ALj P Tb J ops KL l s h:=rfl
@[congr] theorem qwI {t:Sch}:ASj P Tb J ops KL t s h=ASj P Tb J ops KL t s h:=rfl
@[congr] theorem Sj_congr {o o':Oper} (ho:o=o'):Sj P Tb J ops o s h KL=Sj P Tb J ops o' s h KL:=by rw [ho]
def qqK:ALj P Tb J ops KL [] s h=KL s h:=rfl
def qkM {o:Oper}:ALj P Tb J ops KL (o :: r) s h=Sj P Tb J ops o s h (ALj P Tb J ops KL r):=rfl
def qqH:ASj P Tb J ops KL .fin s h=KL s h:=rfl
def qqG {i:Nat} {t:Sch}:ASj P Tb J ops KL (.one i t) s h=Sj P Tb J ops (qcS ops i) s h (ASj P Tb J ops KL t):=rfl
def qqI {t u:Sch}:ASj P Tb J ops KL (.alt t u) s h=(ASj P Tb J ops KL t s h∧ASj P Tb J ops KL u s h):=rfl
def qge {op : Op} {K : PV → Hp → FP → Prop} : ao P Tb d op s h K = ∃ x h' fp, Stp P Tb ⟨d, op, 0, "", #[], none⟩ s h x h' fp ∧ K x h' fp := by
 unfold ao; rfl
def qg7 {f:FuncId} {o:Option (List PV × List Nat)} {K:PV→List Nat→Prop}:@q5S P Tb f o ⟨K⟩=∃ al ids x,o=some (al,ids)∧AC P Tb f al x∧(ids=[]∨Nz x)∧K x ids:=by
 unfold q5S; rfl
def noC:Op→Bool
 | .call ⟨.value (.func _),_,_⟩=>false
 | _=>true
def q27 {op:Op} (ho:noC op=true):aoj P Tb J d op s h K=ao P Tb d op s h fun x h' _=>K x h':=by
 unfold aoj
 split
 ·cases ho
 ·rfl
def qjo {f:FuncId} {xs:List Operand} {ts:Array TypeId}:aoj P Tb J d (.call ⟨.value (.func f),xs.toArray,ts⟩) s h K=@q9i P Tb J f h (xs.map (pe s)) ⟨K⟩:=rfl
def qpg {op : Op} : aoj P Tb J d op s h K ↔ (∃ x h' fp, Stp P Tb ⟨d, op, 0, "", #[], none⟩ s h x h' fp ∧ K x h') ∨ (∃ f args ts hin x hout, op = .call ⟨.value (.func f), args, ts⟩ ∧ ACm P Tb f (args.toList.map (pe s)) hin x hout ∧ (∀ i, win i → h i = hin i) ∧ (∀ i, J i → hout i ≠ none → hin i ≠ none) ∧ K x (q1Q hout h)) := by
 unfold aoj
 split
 ·rename_i f args ts;unfold q9i;rw [qg7]
  constructor
  ·rintro (⟨al,ids,x,h1,h2,h3,h4⟩ | ⟨hin,x,hout,h1,h2,h3,h4⟩)
   ·exact .inl ⟨x,h,(ids,[]),⟨al,ids,h1,h2,h3,rfl,rfl⟩,h4⟩
   ·exact .inr ⟨_,_,_,hin,x,hout,rfl,h1,h2,h3,h4⟩
  ·rintro (⟨x,h',fp,⟨al,ids,h1,h2,h3,rfl,_⟩,h4⟩ | ⟨f,args,ts,hin,x,hout,he,h1,h2,h3,h4⟩)
   ·exact .inl ⟨al,ids,x,h1,h2,h3,h4⟩
   ·cases he;exact .inr ⟨hin,x,hout,h1,h2,h3,h4⟩
 ·rename_i hno;rw [qge]
  constructor
  ·rintro ⟨x,h',fp,h1,h2⟩;exact .inl ⟨x,h',fp,h1,h2⟩
  ·rintro (⟨x,h',fp,h1,h2⟩ | ⟨f,args,ts,hin,x,hout,he,_⟩)
   ·exact ⟨x,h',fp,h1,h2⟩
   ·exact (hno _ _ _ he).elim
def Sj_n {op:Op}:Sj P Tb J ops ⟨d,op,ty,pos,af,none⟩ s h KL=aoj P Tb J d op s h fun x h'=>KL (q36 s d x) h':=by
 rw [qpg];refine propext ⟨?_,?_⟩
 ·rintro (⟨x,h',fp,h1,h2⟩ | ⟨_,f,args,ts,hin,x,hout,ho,h1,h2,h3,h4⟩)
  ·exact .inl ⟨x,h',fp,h1,h2⟩
  ·exact .inr ⟨f,args,ts,hin,x,hout,ho,h1,h2,h3,h4⟩
 ·rintro (⟨x,h',fp,h1,h2⟩ | ⟨f,args,ts,hin,x,hout,ho,h1,h2,h3,h4⟩)
  ·exact .inl ⟨x,h',fp,h1,h2⟩
  ·exact .inr ⟨rfl,f,args,ts,hin,x,hout,ho,h1,h2,h3,h4⟩
def Sj_g {op:Op} {j:Nat} {b:Bool}:Sj P Tb J ops ⟨d,op,ty,pos,af,some (j,b)⟩ s h KL=@pgA (q3P ops s j b) b ⟨ao P Tb d op s h fun x h' _=>KL (q36 s d x) h'⟩ ⟨KL (q36 s d (.vl undef)) h⟩:=by
 unfold pgA;refine propext ⟨?_,fun hp=>?_⟩
 ·rintro (⟨x,h',fp,hg,hk⟩ | ⟨hg,_⟩)
  ·unfold q7w at hg;simp only at hg;obtain ⟨c,hc,hg⟩:=hg;rw [hc];simp only
   split at hg
   ·rename_i hcb; rw [if_pos hcb,qge]; exact ⟨x,h',fp,hg,hk⟩
   ·rename_i hcb; rw [if_neg hcb]; obtain ⟨rfl,rfl,rfl⟩:=hg; exact hk
  ·cases hg
 ·split at hp
  ·rename_i c hc
   split at hp
   ·rename_i hcb;rw [qge] at hp;obtain ⟨x,h',fp,hg,hk⟩:=hp;exact .inl ⟨x,h',fp,by unfold q7w; exact ⟨c,hc,by rw [if_pos hcb]; exact hg⟩,hk⟩
   ·rename_i hcb;exact .inl ⟨.vl undef,h,([],[]),by unfold q7w; exact ⟨c,hc,by rw [if_neg hcb]; exact ⟨rfl,rfl,rfl⟩⟩,hp⟩
  ·exact hp.elim
section
variable {x a b:Operand} {i f:Nat}
def qpq:aoj P Tb J d (.move x) s h K=ao P Tb d (.move x) s h fun x h' _=>K x h':=q27 rfl
def qgh:aoj P Tb J d (.assign x) s h K=ao P Tb d (.assign x) s h fun x h' _=>K x h':=q27 rfl
def qpp {c}:aoj P Tb J d (.pick c a b) s h K=ao P Tb d (.pick c a b) s h fun x h' _=>K x h':=q27 rfl
def qvM {op t'}:aoj P Tb J d (.binOp op t a b t') s h K=ao P Tb d (.binOp op t a b t') s h fun x h' _=>K x h':=q27 rfl
def aj_un {op}:aoj P Tb J d (.unOp op t x) s h K=ao P Tb d (.unOp op t x) s h fun x h' _=>K x h':=q27 rfl
def qpt {u v}:aoj P Tb J d (.convert u v x) s h K=ao P Tb d (.convert u v x) s h fun x h' _=>K x h':=q27 rfl
def qvI:aoj P Tb J d (.fieldAddr t x f) s h K=ao P Tb d (.fieldAddr t x f) s h fun x h' _=>K x h':=q27 rfl
def qvJ:aoj P Tb J d (.extract x i) s h K=ao P Tb d (.extract x i) s h fun x h' _=>K x h':=q27 rfl
def qvF:aoj P Tb J d (.nilCheck x) s h K=ao P Tb d (.nilCheck x) s h fun x h' _=>K x h':=q27 rfl
def qvG:aoj P Tb J d (.indexAddr t a b) s h K=ao P Tb d (.indexAddr t a b) s h fun x h' _=>K x h':=q27 rfl
def qjz {lo hi mx}:aoj P Tb J d (.slice t x lo hi mx) s h K=ao P Tb d (.slice t x lo hi mx) s h fun x h' _=>K x h':=q27 rfl
def qvH {fn first cap}:aoj P Tb J d (.makeFunc fn first cap) s h K=ao P Tb d (.makeFunc fn first cap) s h fun x h' _=>K x h':=q27 rfl
def qkB {ps}:aoj P Tb J d (.build t ps) s h K=ao P Tb d (.build t ps) s h fun x h' _=>K x h':=q27 rfl
def qps:aoj P Tb J d (.load t x) s h K=ao P Tb d (.load t x) s h fun x h' _=>K x h':=q27 rfl
def qkC:aoj P Tb J d (.alloc t) s h K=ao P Tb d (.alloc t) s h fun x h' _=>K x h':=q27 rfl
def qvK:aoj P Tb J d (.box t x) s h K=ao P Tb d (.box t x) s h fun x h' _=>K x h':=q27 rfl
def aj_bs {n ps}:aoj P Tb J d (.buildSlice t n ps) s h K=ao P Tb d (.buildSlice t n ps) s h fun x h' _=>K x h':=q27 rfl
def qpr:aoj P Tb J d (.makeSlice t a b) s h K=ao P Tb d (.makeSlice t a b) s h fun x h' _=>K x h':=q27 rfl
def qjy:aoj P Tb J d (.store t a b) s h K=ao P Tb d (.store t a b) s h fun x h' _=>K x h':=q27 rfl
def qvL {u xs ts}:aoj P Tb J d (.call ⟨.builtin u,xs,ts⟩) s h K=ao P Tb d (.call ⟨.builtin u,xs,ts⟩) s h fun x h' _=>K x h':=q27 rfl
def qkA {t:Nat} {xs:List Operand} {ts}:aoj P Tb J d (.call ⟨.value (.tmp t),xs.toArray,ts⟩) s h K=@qfn P Tb h (s t) (xs.map (pe s)) ⟨fun x ids=>K x h⟩:=(q27 rfl).trans qbh
end
def jc {f:FuncId} {xs:List PV} (hc:@q5S P Tb f (q2e h xs) ⟨fun x _=>K x h⟩):@q9i P Tb J f h xs ⟨K⟩:=.inl hc
def jm {f:FuncId} {xs:List PV} {hin hout:Hp} {x:PV} (hc:ACm P Tb f xs hin x hout) (hw:∀ i,win i→h i=hin i) (hj:∀ i,J i→hout i≠none→hin i≠none) (hk:K x (q1Q hout h)):@q9i P Tb J f h xs ⟨K⟩:=.inr ⟨hin,x,hout,hc,hw,hj,hk⟩
def Wn (h hw:Hp):Prop:=∀ i,win i→h i=hw i
def Wn_lo {i:Nat} {b:Bk} {hw:Hp} (hi:¬ win i):Wn (q07 h i b) hw=Wn h hw:=by
 refine propext ⟨fun hq j hj=>?_,fun hq j hj=>?_⟩
 ·rw [← hq j hj,q0M fun e=>hi (by rw [← e]; exact hj)]
 ·rw [← hq j hj,q0M fun e=>hi (by rw [← e]; exact hj)]
def q2x {hw:Hp}:Wn (q1Q hw h) hw:=fun _ hi=>q0m hi
def qgl {i:Nat} {b:Bk} {hw:Hp} (hq:Wn h hw):Wn (q07 h i b) (q07 hw i b):=fun j hj=>by
 unfold q07
 split
 ·rfl
 ·exact hq j hj
def qaQ {hw hw':Hp} (hq:Wn h hw) (he:hw=hw'):Wn h hw':=he ▸ hq
def qfD {hw:Hp} {i:Nat} (hi:i < 5000):q1Q hw h i=h i:=q1J fun hw=>by unfold win at hw; omega
def qoE {hw:Hp} {i:Nat} (h1:5000≤i) (h2:i < 1000000):q1Q hw h i=hw i:=q0m ⟨h1,h2⟩
structure WfH (hw:Hp):Prop where
 wf:∀ i b,hw i=some b→b.st=false∧IdL (fun j=>win j∧hw j≠none) b.xs
section
variable {τ:Nat→Option Nat} {h':Hp} {p:Nat→Prop}
mutual
def qkH (hp:∀ j,p j→τ j=some j∧∃ b,h' j=some b):∀ (x:PV),IdP p x→LeV τ h h' x x
 | .un,_=>.un
 | .vl _,_=>.cl trivial
 | .fm _,_=>.cl trivial
 | .sl _ _,_=>.cl trivial
 | .qt _ _,_=>.cl trivial
 | .ow id k a b,hi=>by
  unfold IdP at hi;obtain ⟨h1,c,h2⟩:=hp id hi;exact .ow h1 h2
 | .pt id a b,hi=>by
  unfold IdP at hi;obtain ⟨h1,c,h2⟩:=hp id hi;exact .pt h1 h2
 | .ag l,hi=>by
  unfold IdP at hi;obtain ⟨h1,h2⟩:=LeL_self hp l hi;exact .ag h1 h2
 | .tu l,hi=>by
  unfold IdP at hi;obtain ⟨h1,h2⟩:=LeL_self hp l hi;exact .tu h1 h2
def LeL_self (hp:∀ j,p j→τ j=some j∧∃ b,h' j=some b):∀ (l:List PV),IdL p l→LeL τ h h' l l
 | [],_=>⟨rfl,fun i a b ha hb=>by simp at ha⟩
 | x :: l,hi=>by
  unfold IdL at hi;obtain ⟨h1,h2⟩:=LeL_self hp l hi.2;refine ⟨rfl,fun i a b ha hb=>?_⟩;cases i with
  | zero=>simp at ha hb; subst ha; subst hb; exact qkH hp x hi.1
  | succ i=>exact h2 i a b (by simpa using ha) (by simpa using hb)
end
def q21 (τ:Nat→Option Nat):List Nat→Prop
 | []=>True
 | i :: l=>(¬ win i∧∀ j,τ i=some j→¬ win j)∧q21 τ l
def q7C:∀ {l:List Nat},q21 τ l→∀ i ∈ l,¬ win i∧∀ j,τ i=some j→¬ win j
 | i :: l,h,j,hj=>by
  rcases List.mem_cons.1 hj with rfl | hj
  ·exact h.1
  ·exact q7C h.2 j hj
def LeW (l:List (Nat × Option Nat)) (hl:qrB l=true) (hlt:q1s l=τ) {hw:Hp} {xs kv:List (Nat × PV)} {bs:List (Nat × Bk)} {kb:List (Nat × Option Bk)} (hq:Wn h hw) (wf:WfH hw) (hx:q21 τ (bs.map (·.1) ++ kb.map (·.1)))
  (hh:q5U τ h (q1Q hw (hpM bs kb)) s xs∧q5U τ h (q1Q hw (hpM bs kb)) s kv∧qqD τ h (q1Q hw (hpM bs kb)) bs∧q9F τ h (q1Q hw (hpM bs kb)) kb∧q9Q τ (bs.map (·.1) ++ kb.map (·.1))):Le J s h (stM xs kv) (q1Q hw (hpM bs kb)):=by
 obtain ⟨h1,h2,h3,h4,h5⟩:=hh;have ht:∀ i,win i→τ i=some i:=fun i hi=>by rw [← hlt]; exact q9R hl i hi.1 hi.2
 have hm:∀ i b,q1Q hw (hpM bs kb) i=some b→(win i∧hw i=some b)∨(¬ win i∧LeB τ h (q1Q hw (hpM bs kb)) i b∧i ∈ bs.map (·.1) ++ kb.map (·.1)):=fun i b hb=>by
  by_cases hi:win i
  ·rw [q0m hi] at hb; exact .inl ⟨hi,hb⟩
  ·rw [q1J hi] at hb; exact .inr ⟨hi,q9A h4 h3 i b hb⟩
 refine q30 τ (fun i b hb=>?_) (fun i j k b c hi hj ti tj=>?_) (fun t=>q3n h2 h1 t) fun i _ q1 q2=>ht i ⟨q1,q2⟩
 ·rcases hm i b hb with ⟨hi,hb⟩ | ⟨_,hb,_⟩
  ·unfold LeB;rw [ht i hi];obtain ⟨q1,q2⟩:=wf.wf i b hb;refine ⟨b,(hq i hi).trans hb,rfl,rfl,⟨q1,q1⟩,LeL_self (fun j hj=>⟨ht j hj.1,?_⟩) _ q2⟩;obtain ⟨c,hc⟩:=Option.ne_none_iff_exists'.1 hj.2;exact ⟨c,by rw [q0m hj.1]; exact hc⟩
  ·exact hb
 ·rcases hm i b hi with ⟨wi,_⟩ | ⟨wi,_,mi⟩ <;> rcases hm j c hj with ⟨wj,_⟩ | ⟨wj,_,mj⟩
  ·rw [ht i wi] at ti; rw [ht j wj] at tj;cases ti; cases tj; rfl
  ·rw [ht i wi] at ti;cases ti;exact ((q7C hx j mj).2 _ tj wi).elim
  ·rw [ht j wj] at tj;cases tj;exact ((q7C hx i mi).2 _ ti wj).elim
  ·rcases q5m h5 i mi j mj with h | h | h
   ·exact h
   ·rw [ti] at h; cases h
   ·rw [ti,tj] at h; exact absurd rfl h
end
def q0e {n:Nat} {Q:SQ} {ι:Type} {c:Code} (I:ι→Prop) (ks kb:List Nat) {kv:List (Nat × PV)} {kbv:List (Nat × Option Bk)} (hk:(ks.map fun t=>(t,s t))=kv) (hb:(kb.map fun i=>(i,h i))=kbv) (xs:ι→List (Nat × PV)) (bs:ι→List (Nat × Bk)) (hw:ι→Hp) (μ:ι→Nat) (i0:ι) (hI:I i0) (hl:Le J s h (stM (xs i0) kv) (q1Q (hw i0) (hpM (bs i0) kbv)))
  (round:∀ i,I i→AW P Tb J n c (thA (fun s' h'=>∃ j,I j∧μ j < μ i∧Le J s' h' (stM (xs j) kv) (q1Q (hw j) (hpM (bs j) kbv))) Q) (stM (xs i) kv) (q1Q (hw i) (hpM (bs i) kbv))):AW P Tb J n (.loop c) Q s h :=
 qgz (ι:={i:ι // I i}) (fun i=>stM (xs i.1) kv) (fun i=>q1Q (hw i.1) (hpM (bs i.1) kbv)) (fun i=>μ i.1) ⟨i0,hI⟩ hl fun i=>by
  intro D0 w0 ρ e w hT hF S;refine q5G (fun x e' w' hx=>?_) (round i.1 i.2 D0 w0 ρ e w hT hF S);obtain ⟨s',h',ρ',S',q⟩:=hx;refine ⟨s',h',ρ',S',?_⟩;cases x
  case normal=>obtain ⟨j,h1,h2,h3⟩:=q; exact ⟨⟨j,h1⟩,h3,h2⟩
  all_goals exact q
end
attribute [irreducible] aoj q9i
attribute [go_sem ↓] qfD qoE qqK qkM qqH qqG qqI Sj_n Sj_g qpq qgh qpp qvM aj_un qpt qvI qvJ qvF qvG qjz qvH qkB qps qkC qvK aj_bs qpr qjy qvL qkA qjo q8Z qas
section
variable {P:Program} {J:Nat→Prop} {s:Nat→PV} {h hin hout hw:Hp} {τ:Nat→Option Nat}
def qsh {x:PV}:mkR [x]=x:=rfl
def mkR_0:mkR []=.tu []:=rfl
attribute [go_sem] qsh mkR_0
def rtM {fn:Func} {x:PV} {rs:List ResultVar} {l:List PV} (hr:fn.results.toList=rs) (hlen:(decide (rs.length≤4))=true) (hl:rsL P h s rs=some l) (hle:Le (fun i=>hin i≠none) (fun _=>mkR l) h (fun _=>x) hout) {e:Exit} (he:e=.ret∨e=.normal):retM P fn hin x hout e s h :=
 ⟨he,by rw [hr]; simpa using hlen,l,by rw [hr]; exact hl,hle⟩
def jmF {P:Program} {Tb:World→Prop} {K:PV→Hp→Prop} {f:FuncId} {xs:List PV} {x:PV} (hc:ACm P Tb f xs hin x hout) (hw:Wn h hin) (hk:K x (q1Q hout h)):@q9i P Tb (fun _=>False) f h xs ⟨K⟩:=jm hc hw (fun _ hi=>hi.elim) hk
def LeF {x:PV} {l:List PV} (hq:Wn h hout) (ho:∀ i b,hout i=some b→win i) (wf:WfH hout) (hx:LeV some h hout (mkR l) x):Le J (fun _=>mkR l) h (fun _=>x) hout:=by
 refine q30 some (fun i b hb=>?_) (fun i j k b c _ _ ti tj=>by cases ti; cases tj; rfl) (fun _=>hx) fun _ _ _ _=>rfl;obtain ⟨q1,q2⟩:=wf.wf i b hb;refine ⟨b,(hq i (ho i b hb)).trans hb,rfl,rfl,⟨q1,q1⟩,LeL_self (fun j hj=>⟨rfl,Option.ne_none_iff_exists'.1 hj.2⟩) _ q2⟩
def nmW (o r:Nat):List Nat→Prop
 | []=>True
 | i :: l=>(i < 5000∧i≠o∧i≠r)∧nmW o r l
def q3t {o r:Nat}:∀ {l:List Nat},nmW o r l→∀ i ∈ l,i < 5000∧i≠o∧i≠r
 | i :: l,h,j,hj=>by
  rcases List.mem_cons.1 hj with rfl | hj
  ·exact h.1
  ·exact q3t h.2 j hj
def q4e (T1 T2:TypeId) (N R n m:Nat) (g:Nat→Nat→Bool):Hp:=fun i =>
 if i=N then some ⟨T1,none,(List.range n).map fun j=>.ow (j+R) none 0 m,false⟩
 else if R≤i∧i < R+n then some ⟨T2,none,(List.range m).map fun c=>.vl (.bool (g (i-R) c)),false⟩ else none
variable {T1 T2:TypeId} {N R n m:Nat} {g:Nat→Nat→Bool}
def qkT:q4e T1 T2 N R n m g N=some ⟨T1,none,(List.range n).map fun j=>.ow (j+R) none 0 m,false⟩:=if_pos rfl
def q69 {j:Nat} (hN:N < R) (hj:j < n):q4e T1 T2 N R n m g (j+R)=some ⟨T2,none,(List.range m).map fun c=>.vl (.bool (g j c)),false⟩:=by
 unfold q4e;rw [if_neg (by omega),if_pos (by omega),Nat.add_sub_cancel]
attribute [go_sem ↓] qkT q69
def qrF {i:Nat} (h1:i≠N) (h2:i < R∨R+n≤i):q4e T1 T2 N R n m g i=none:=by
 unfold q4e;rw [if_neg h1,if_neg (by omega)]
def q14 {i:Nat} {b:Bk} (hb:q4e T1 T2 N R n m g i=some b):(i=N∧b=⟨T1,none,(List.range n).map fun j=>.ow (j+R) none 0 m,false⟩)∨(R≤i∧i < R+n∧b=⟨T2,none,(List.range m).map fun c=>.vl (.bool (g (i-R) c)),false⟩):=by
 unfold q4e at hb
 split at hb
 ·cases hb; exact .inl ⟨‹_›,rfl⟩
 ·split at hb
  ·rename_i hi; cases hb; exact .inr ⟨hi.1,hi.2,rfl⟩
  ·cases hb
def q5Y (hN:5000≤N) (hNR:N < R) (hR:R+n≤1000000) {i:Nat} {b:Bk} (hb:q4e T1 T2 N R n m g i=some b):win i:=by
 unfold win
 rcases q14 hb with ⟨rfl,_⟩ | ⟨h1,h2,_⟩ <;> omega
def qsy {α:Type} {p:Nat→Prop} {l:List α} {f:α→Bool}:IdL p (l.map fun z=>.vl (.bool (f z))):=IdL.of fun x hx=>by
 obtain ⟨z,_,rfl⟩:=List.mem_map.1 hx;unfold IdP; trivial
def qa4 {p:Nat→Prop} (hp:∀ j,j < n→p (j+R)):IdL p ((List.range n).map fun j=>.ow (j+R) none 0 m):=IdL.of fun x hx=>by
 obtain ⟨z,hz,rfl⟩:=List.mem_map.1 hx;unfold IdP; exact hp z (List.mem_range.1 hz)
def q1t (hN:5000≤N) (hNR:N < R) (hR:R+n≤1000000):WfH (q4e T1 T2 N R n m g):=⟨fun i b hb=>by
 rcases q14 hb with ⟨_,rfl⟩ | ⟨h1,h2,rfl⟩
 ·refine ⟨rfl,qa4 fun j hj=>⟨⟨by omega,by omega⟩,?_⟩⟩;rw [q69 hNR hj]; exact Option.some_ne_none _
 ·exact ⟨rfl,qsy⟩⟩
def q4j {x:PV}:List.replicate m x=(List.range m).map fun _=>x:=by simp [List.map_const']
def Wn_l {i:Nat} {b:Bk} (hi:i < 5000) (hq:Wn h hw):Wn (q07 h i b) hw:=by
 rw [Wn_lo fun w=>by unfold win at w; omega]; exact hq
def Wn_r:Wn h h:=fun _ _=>rfl
def Wn_0:Wn h0 h0:=fun _ _=>rfl
def Wn_V:∀ {kb:List (Nat × Option Bk)},nmW 0 0 (kb.map fun p=>p.1+1)→Wn (hpV kb) h0
 | [],_=>Wn_0
 | p :: l,hk=>fun i hi=>by
  unfold hpV;have:p.1+1 < 5000:=hk.1.1;rw [if_neg (by unfold win at hi; omega)];exact Wn_V hk.2 i hi
def Wn_M:∀ {bs:List (Nat × Bk)} {kb:List (Nat × Option Bk)},nmW 0 0 (bs.map fun p=>p.1+1)→nmW 0 0 (kb.map fun p=>p.1+1)→Wn (hpM bs kb) h0
 | [],_,_,hk=>Wn_V hk
 | p :: l,_,hb,hk=>fun i hi=>by
  unfold hpM;have:p.1+1 < 5000:=hb.1.1;rw [if_neg (by unfold win at hi; omega)];exact Wn_M hb.2 hk i hi
theorem Ow {h hw:Hp} (e:Wn h hw:=by repeat (first | exact q2x | exact Wn_0 | exact Wn_r | exact Wn_M (by simp [nmW]) (by simp [nmW]) | refine Wn_l (by omega) ?_)):Wn h hw:=e
def clT {f:Nat→Bool}:ClL ((List.range m).map fun c=>.vl (.bool (f c))):=fun x hx=>by
 obtain ⟨z,_,rfl⟩:=List.mem_map.1 hx
 trivial
def map_T {f f':Nat→Bool} (hf:∀ c,c < m→f c=f' c):((List.range m).map fun c=>PV.vl (.bool (f c)))=(List.range m).map fun c=>PV.vl (.bool (f' c)):=List.map_congr_left fun c hc=>by rw [hf c (List.mem_range.1 hc)]
def qqC {h':Hp} {f f':Nat→Bool} (hf:∀ c,c < m→f c=f' c):LeL τ h h' ((List.range m).map fun c=>.vl (.bool (f c))) ((List.range m).map fun c=>.vl (.bool (f' c))):=q1A (map_T hf) clT
def qig (g:Nat→Nat→Bool) (r c:Nat) (b:Bool):Nat→Nat→Bool:=fun x y=>if x=r∧y=c then b else g x y
def q94 {f:Nat→Bool} {c:Nat} {b:Bool}:((List.range m).map fun y=>PV.vl (.bool (f y))).set c (.vl (.bool b))=(List.range m).map fun y=>PV.vl (.bool (if y=c then b else f y)):=by
 apply List.ext_getElem?
 intro i;rw [List.getElem?_set];simp only [List.length_map,List.length_range,List.getElem?_map]
 by_cases hi:i < m
 ·rw [List.getElem?_range hi]
  by_cases hc:c=i
  ·subst hc; simp [hi]
  ·simp [hc,Ne.symm hc]
 ·rw [List.getElem?_eq_none (by simpa using hi)]
  by_cases hc:c=i <;> simp [hc]
  omega
def q7E (hNR:N < R) {r c:Nat} {b:Bool} (hr:r < n):q07 (q4e T1 T2 N R n m g) (r+R) ⟨T2,none,((List.range m).map fun y=>.vl (.bool (g r y))).set c (.vl (.bool b)),false⟩=q4e T1 T2 N R n m (qig g r c b):=by
 funext i
 rw [q94];unfold q07
 split
 ·rename_i hi;subst hi;rw [q69 hNR hr];simp [qig]
 ·rename_i hi;unfold q4e
  split
  ·rfl
  ·split
   ·congr 2
    refine List.map_congr_left fun y _=>?_;unfold qig;rw [if_neg (by omega)]
   ·rfl
def q5Z {g':Nat→Nat→Bool} (hg:∀ r c,r < n→c < m→g r c=g' r c):q4e T1 T2 N R n m g=q4e T1 T2 N R n m g':=by
 funext i
 unfold q4e
 split
 ·rfl
 ·split
  ·congr 2
   refine List.map_congr_left fun y hy=>?_;rw [hg _ _ (by omega) (List.mem_range.1 hy)]
  ·rfl
def tn (N:Nat):Nat→Option Nat:=fun i=>if i=N then none else some i
def qdR (hJ:∀ i,¬ J i) (hN:5000≤N) (hNR:N < R) {xs kv:List (Nat × PV)} {kb:List (Nat × Option Bk)} (hn:nmW N N (kb.map (·.1)))
  (hh:q5U (tn N) h (q1Q (q4e T1 T2 N R 0 m g) (hpM [] kb)) s xs∧q5U (tn N) h (q1Q (q4e T1 T2 N R 0 m g) (hpM [] kb)) s kv∧q9F (tn N) h (q1Q (q4e T1 T2 N R 0 m g) (hpM [] kb)) kb):Le J s h (stM xs kv) (q1Q (q4e T1 T2 N R 0 m g) (hpM [] kb)):=by
 obtain ⟨h1,h2,h4⟩:=hh;refine q30 (tn N) (fun i b hb=>?_) (fun i j k b c _ _ ti tj=>?_) (fun t=>q3n h2 h1 t) fun i hi=>(hJ i hi).elim
 ·by_cases hi:win i
  ·rw [q0m hi] at hb
   rcases q14 hb with ⟨rfl,rfl⟩ | ⟨q1,q2,_⟩
   ·unfold LeB tn;rw [if_pos rfl]; rfl
   ·omega
  ·rw [q1J hi] at hb;exact (q2Y h4 i b hb).1
 ·unfold tn at ti tj
  split at ti
  ·cases ti
  ·split at tj
   ·cases tj
   ·cases ti; cases tj; rfl
def tn_ap {i:Nat}:tn N i=if i=N then none else some i:=rfl
def tp (N K o r:Nat):Nat→Option Nat:=fun i=>if i=N then some o else if i=K then some r else some i
def tp_ap {K o r i:Nat}:tp N K o r i=if i=N then some o else if i=K then some r else some i:=rfl
attribute [go_sem ↓] tn_ap tp_ap
def qa2 {k o r:Nat} (hJ:∀ i,¬ J i) (ho:h o=some ⟨T1,none,((List.range k).map fun j=>.ow (j+R) none 0 m) ++ [.ow r none 0 m],false⟩) (hr:h r=some ⟨T2,none,(List.range m).map fun c=>.vl (.bool (g k c)),false⟩)
  (hrow:∀ j,j < k→h (j+R)=some ⟨T2,none,(List.range m).map fun c=>.vl (.bool (g j c)),false⟩) (h5:o < 5000) (h6:r < 5000) (hor:o≠r) (hN:5000≤N) (hNR:N < R) (hR:R+k < 1000000) {xs kv:List (Nat × PV)} {kb:List (Nat × Option Bk)} (hn:nmW o r (kb.map (·.1)))
  (hh:q5U (tp N (k+R) o r) h (q1Q (q4e T1 T2 N R (k+1) m g) (hpM [] kb)) s xs∧q5U (tp N (k+R) o r) h (q1Q (q4e T1 T2 N R (k+1) m g) (hpM [] kb)) s kv∧q9F (tp N (k+R) o r) h (q1Q (q4e T1 T2 N R (k+1) m g) (hpM [] kb)) kb):Le J s h (stM xs kv) (q1Q (q4e T1 T2 N R (k+1) m g) (hpM [] kb)):=by
 obtain ⟨q1,q2,q4⟩:=hh;have tN:tp N (k+R) o r N=some o:=if_pos rfl;have tK:tp N (k+R) o r (k+R)=some r:=by unfold tp; rw [if_neg (by omega),if_pos rfl]
 have tI:∀ i,i≠N→i≠k+R→tp N (k+R) o r i=some i:=fun i a b=>by unfold tp; rw [if_neg a,if_neg b]
 have hm:∀ i b,q1Q (q4e T1 T2 N R (k+1) m g) (hpM [] kb) i=some b→i=N∨i=k+R∨(∃ j,j < k∧i=j+R)∨(¬ win i∧i≠o∧i≠r):=fun i b hb=>by
  by_cases hi:win i
  ·rw [q0m hi] at hb
   rcases q14 hb with ⟨e,_⟩ | ⟨a1,a2,_⟩
   ·exact .inl e
   ·by_cases e:i=k+R
    ·exact .inr (.inl e)
    ·exact .inr (.inr (.inl ⟨i-R,by omega,by omega⟩))
  ·rw [q1J hi] at hb;have:=q3t hn i (q2Y q4 i b hb).2;exact .inr (.inr (.inr ⟨hi,this.2⟩))
 refine q30 (tp N (k+R) o r) (fun i b hb=>?_) (fun i j k' b c hi hj ti tj=>?_) (fun t=>q3n q2 q1 t) fun i hi=>(hJ i hi).elim
 ·by_cases hi:win i
  ·rw [q0m hi] at hb
   rcases q14 hb with ⟨rfl,rfl⟩ | ⟨a1,a2,rfl⟩
   ·unfold LeB;rw [tN];refine ⟨_,ho,rfl,rfl,⟨rfl,rfl⟩,by simp,fun c x y hx hy=>?_⟩;have hc:c < k+1:=by have:=(List.getElem?_eq_some_iff.1 hy).1; simpa using this
    rw [List.getElem?_map,List.getElem?_range hc,Option.map_some] at hy;cases hy;have hex:∃ b,q1Q (q4e T1 T2 i R (k+1) m g) (hpM [] kb) (c+R)=some b:=⟨_,by rw [q0m ⟨by omega,by omega⟩,q69 hNR hc]⟩;obtain ⟨bb,hbb⟩:=hex
    by_cases hck:c=k
    ·subst hck;rw [List.getElem?_append_right (by simp)] at hx;simp at hx;subst hx;exact .ow tK hbb
    ·rw [List.getElem?_append_left (by simp; omega),List.getElem?_map,List.getElem?_range (by omega),Option.map_some] at hx;cases hx;exact .ow (tI _ Oq Oq) hbb
   ·by_cases e:i=k+R
    ·subst e;unfold LeB;rw [tK,Nat.add_sub_cancel];exact ⟨_,hr,rfl,rfl,⟨rfl,rfl⟩,LeL_self (p:=fun _=>False) (fun _ h=>h.elim) _ qsy⟩
    ·unfold LeB;rw [tI i (by omega) e];have:=hrow (i-R) Oq;rw [Nat.sub_add_cancel a1] at this;exact ⟨_,this,rfl,rfl,⟨rfl,rfl⟩,LeL_self (p:=fun _=>False) (fun _ h=>h.elim) _ qsy⟩
  ·rw [q1J hi] at hb;exact (q2Y q4 i b hb).1
 ·have key:∀ i b,q1Q (q4e T1 T2 N R (k+1) m g) (hpM [] kb) i=some b→∀ a,tp N (k+R) o r i=some a→(i=N∧a=o)∨(i=k+R∧a=r)∨(i=a∧a≠o∧a≠r):=fun i b hb a ha=>by
   rcases hm i b hb with rfl | rfl | ⟨j,hj,rfl⟩ | ⟨w1,w2,w3⟩
   ·rw [tN] at ha; cases ha; exact .inl ⟨rfl,rfl⟩
   ·rw [tK] at ha; cases ha; exact .inr (.inl ⟨rfl,rfl⟩)
   ·rw [tI _ (by omega) (by omega)] at ha; cases ha; exact .inr (.inr ⟨rfl,by omega,by omega⟩)
   ·rw [tI i (fun e=>w1 (by subst e; exact ⟨hN,by omega⟩)) (fun e=>w1 (by subst e; exact ⟨by omega,by omega⟩))] at ha; cases ha; exact .inr (.inr ⟨rfl,w2,w3⟩)
  rcases key i b hi k' ti with ⟨e1,e2⟩ | ⟨e1,e2⟩ | ⟨e1,e2,e3⟩ <;> rcases key j c hj k' tj with ⟨f1,f2⟩ | ⟨f1,f2⟩ | ⟨f1,f2,f3⟩ <;> first | omega | (exfalso; omega)
def qdS {h':Hp} (hq:Wn h (q4e T1 T2 N R n m g)) (hN:5000≤N) (hNR:N < R) (hR:R+n≤1000000) (ht:∀ i,win i→h' i=none) (hτ:∀ i j,τ i=some j→win j→i=j):LeV τ h h' (.ow N none 0 n) (.sl none ((List.range n).map fun j=>.sl none ((List.range m).map fun c=>.vl (.bool (g j c))))):=by
 have e:∀ {α:Type} {l:List α} {k:Nat},l.length=k→(l.drop 0).take k=l:=fun {α l k} hl=>by rw [List.drop_zero]; exact List.take_of_length_le (by omega)
 have e1:=e (l:=(List.range n).map fun j=>PV.sl none ((List.range m).map fun c=>.vl (.bool (g j c)))) (k:=n) (by simp);rw [← e1];refine .fzg ((hq N ⟨hN,by omega⟩).trans qkT) rfl rfl (by simp) (fun c x y hx hy=>?_) (fun y hy=>?_) fun i hi=>?_
 ·have hc:c < n:=by have:=(List.getElem?_eq_some_iff.1 hy).1; simpa using this
  rw [List.getElem?_map,List.getElem?_range hc,Option.map_some] at hx hy;cases hx; cases hy;have hb2:=(hq (c+R) ⟨by omega,by omega⟩).trans (q69 (T1:=T1) (T2:=T2) (m:=m) (g:=g) hNR hc);rw [← e (l:=(List.range m).map fun c'=>PV.vl (.bool (g c c'))) (k:=m) (by simp)];exact .fz hb2 rfl rfl clT fun k hk=>by
   obtain rfl:=hτ k _ hk ⟨by omega,by omega⟩;exact ht _ ⟨by omega,by omega⟩
 ·obtain ⟨z,_,rfl⟩:=List.mem_map.1 hy; trivial
 ·obtain rfl:=hτ i _ hi ⟨hN,by omega⟩;exact ht _ ⟨hN,by omega⟩
def q9o:∀ {bs:List (Nat × Bk)} {kb:List (Nat × Option Bk)},nmW 0 0 (bs.map fun p=>p.1+1)→nmW 0 0 (kb.map fun p=>p.1+1)→∀ i,win i→hpM bs kb i=none:=fun hb hk i hi=>Wn_M hb hk i hi
end
end Go.E
namespace Go.Proofs.YtbcmhlhgljoolaaGreatDoor
open Go Go.E Go.Sp
abbrev qcz (f:FuncId) (al:List PV) (hin:Hp) (x:PV) (hout:Hp):Prop:=ACm Tryz.prog q2i f al hin x hout
def qhK {f:FuncId} {fn:Func} {c:Code} {al:List PV} {x:PV} {hin hout:Hp} (hc:q0C Tryz.prog f=true) (hf:Tryz.prog.funcs[f]?=some fn) (hb:fn.body=some c) {n:Nat} (hn:fn.ntmps=n) (hd:(decide (al.length≤n) && q9E n c)=true)
  (hi:∀ i b,hin i=some b→win i∧b.st=false∧IdL win b.xs∧∃ b',hout i=some b'∧b'.k=b.k∧b.xs.length≤b'.xs.length) (ho:∀ i b,hout i=some b→win i) (hal:IdL win al)
  (hw:AW Tryz.prog q2i (fun i=>hin i≠none) n c (retM Tryz.prog fn hin x hout) (enP al) hin):qcz f al hin x hout:=qwL hc hf hb hn hd hi ho hal hw
end Go.Proofs.YtbcmhlhgljoolaaGreatDoor
namespace Go.E
open Go Go.RowKit
section
variable {w:World} {D:Nat→Prop} {ρ:Nat→Option Nat} {h:Hp} {vs:List Value} {x y z t:PV}
def qal (hr:RdL w D [x] ρ h vs):∃ a,vs=[a]∧Rd w D x ρ h a:=by
 unfold RdL at hr;obtain ⟨a,l,rfl,h1,h2⟩:=hr;unfold RdL at h2;subst h2;exact ⟨a,rfl,h1⟩
def q6Y (hr:RdL w D [x,y] ρ h vs):∃ a b,vs=[a,b]∧Rd w D x ρ h a∧Rd w D y ρ h b:=by
 unfold RdL at hr;obtain ⟨a,l,rfl,h1,h2⟩:=hr;obtain ⟨b,rfl,h3⟩:=qal h2;exact ⟨a,b,rfl,h1,h3⟩
def rd_3 (hr:RdL w D [x,y,z] ρ h vs):∃ a b c,vs=[a,b,c]∧Rd w D x ρ h a∧Rd w D y ρ h b∧Rd w D z ρ h c:=by
 unfold RdL at hr;obtain ⟨a,l,rfl,h1,h2⟩:=hr;obtain ⟨b,c,rfl,h3,h4⟩:=q6Y h2;exact ⟨a,b,c,rfl,h1,h3,h4⟩
def rd_4 (hr:RdL w D [x,y,z,t] ρ h vs):∃ a b c d,vs=[a,b,c,d]∧Rd w D x ρ h a∧Rd w D y ρ h b∧Rd w D z ρ h c∧Rd w D t ρ h d:=by
 unfold RdL at hr;obtain ⟨a,l,rfl,h1,h2⟩:=hr;obtain ⟨b,c,d,rfl,h3,h4,h5⟩:=rd_3 h2;exact ⟨a,b,c,d,rfl,h1,h3,h4,h5⟩
def q6W {v a:Value} (hr:Rd w D (.vl v) ρ h a):a=v:=by unfold Rd at hr; exact hr
def q2z {G:Fam} {a:Value} (hr:Rd w D (.fm G) ρ h a):In G D a w:=by unfold Rd at hr; exact hr
def q7T {G:Fam} {a:Value} (hr:In G D a w):Rd w D (.fm G) ρ h a:=by unfold Rd; exact hr
def q3O {v:Value}:Rd w D (.vl v) ρ h v:=by unfold Rd; rfl
def q8T {α:Type} {f:α→Value} {l:List α} {a:Value} (hr:Rd w D (.sl none (l.map fun x=>.vl (f x))) ρ h a):∃ A n c,a=.slice A n c∧In (fSc f l) D (.slice A n c) w:=by
 unfold Rd at hr;obtain ⟨A,n,c,vs,rfl,h1,h2,h3,h4⟩:=hr;have:vs=l.map f:=by
  obtain ⟨q1,q2⟩:=RdL.iff.1 h3
  apply List.ext_getElem?
  intro i
  rcases Nat.lt_or_ge i l.length with hi | hi
  ·obtain ⟨u,hv⟩:∃ u,vs[i]?=some u:=⟨_,List.getElem?_eq_getElem (by simp at q1; omega)⟩;have:=q2 i (.vl (f l[i])) u (by simp [hi]) hv;rw [hv,q6W this]; simp [hi]
  ·rw [List.getElem?_eq_none (by simp at q1; omega),List.getElem?_eq_none (by simpa using hi)]
 subst this;refine ⟨A,n,c,rfl,A,n,c,rfl,?_⟩;have hf:q0h (l.map f)=l.map f:=by
  have:∀ v ∈ l.map f,v.cells=#[v]:=fun v hv=>(h4 v hv).1;clear h1 h2 h3 h4
  induction l with
  | nil=>rfl
  | cons x l ih =>
   have e:=ih fun v hv=>this v (List.mem_cons_of_mem _ hv);unfold q0h at e ⊢;rw [List.map_cons,List.flatMap_cons,e,this _ List.mem_cons_self]
   rfl
 rw [hf] at h1;exact h1
def qrq {α:Type} {f:α→Value} {l:List α} {a:Value} (hf:∀ x,qn6 (f x)) (hr:In (fSc f l) D a w):Rd w D (.sl none (l.map fun x=>.vl (f x))) ρ h a:=by
 obtain ⟨A,n,c,rfl,h1⟩:=hr;unfold Rd;have hfl:q0h (l.map f)=l.map f:=by
  clear h1
  induction l with
  | nil=>rfl
  | cons x l ih =>
   unfold q0h at ih ⊢;rw [List.map_cons,List.flatMap_cons,ih,q2J (hf x).1]
   rfl
 refine ⟨A,n,c,l.map f,rfl,by rw [hfl]; exact h1,by have:=h1.len; simpa [ksz] using this,?_,fun v hv=>?_⟩
 ·have:=q5h (w:=w) (D:=D) (ρ:=fun _=>none) (h:=h0) (l.map f);rw [List.map_map] at this;exact this
 ·obtain ⟨x,_,rfl⟩:=List.mem_map.1 hv;exact ⟨q2J (hf x).1,hf x⟩
end
end Go.E
namespace Go.Proofs.YtbcmhlhgljoolaaGreatDoor
open Go Go.E Go.Sp
def qs7 {v:Value}:Nz (.vl v):=fun w D B x _ h=>by unfold Rd at h ⊢; exact h
def fitV {V:Int}:∀ D v w,In (fV V) D v w→q3F (some 4) v:=fun D v w h=>by
 obtain ⟨s,A,n,c,rfl,_⟩:=h;exact ⟨_,rfl,rfl,fun u hu=>by simp at hu; rcases hu with rfl | rfl | rfl | rfl <;> exact ⟨rfl,rfl⟩⟩
def fitKV {V:Int} {A:Prop}:q28 (some 4) (pV V) A=A:=qtS fitV
attribute [go_sem] fitKV
def qvU {f:FuncId} {al:List PV} {v:Value} (hc:q0C Tryz.prog f=true) (h:∀ (D:Nat→Prop) (w:World) (vs:List Value),q2i w→Fr D w→RdL w D al (fun _=>none) h0 vs→Calls Tryz.prog f vs.toArray w fun x w'=>x=.returned v∧Ext w w'):ACt f al (.vl v) :=
 ⟨hc,fun D w vs hT hF hR=>(h D w vs hT hF hR).mono fun x w' ⟨h1,h2⟩=>⟨v,h1,h2,q3O⟩⟩
def q6u {f:FuncId} {al:List PV} {G:Fam} (hc:q0C Tryz.prog f=true) (h:∀ (D:Nat→Prop) (w:World) (vs:List Value),q2i w→Fr D w→RdL w D al (fun _=>none) h0 vs→Calls Tryz.prog f vs.toArray w (Rt G D w)):ACt f al (.fm G) :=
 ⟨hc,fun D w vs hT hF hR=>(h D w vs hT hF hR).mono fun x w' ⟨v,h1,h2,h3⟩=>⟨v,h1,h2,q7T h3⟩⟩
end Go.Proofs.YtbcmhlhgljoolaaGreatDoor
namespace Go.E
open Go Go.RowKit
section
variable {P:Program} {Tb:World→Prop} {J:Nat→Prop} {n:Nat} {Q Q':SQ} {s:Nat→PV} {h:Hp}
def qgy {c:Code} (hq:∀ x s h,Q x s h→Q' x s h) (hw:AW P Tb J n c Q s h):AW P Tb J n c Q' s h:=fun D0 w0 ρ e w hT hF S=>q5G (fun x e' w' ⟨s',h',ρ',S',q⟩=>⟨s',h',ρ',S',hq _ _ _ q⟩) (hw D0 w0 ρ e w hT hF S)
def A_sq {a b:Code} (hw:AW P Tb J n a (thA (AW P Tb J n b Q) Q) s h):AW P Tb J n (.seq a b) Q s h:=q2g fun K hK=>qgy (fun x s h q=>by cases x <;> first | exact hK _ _ q | exact q) hw
def A_sqc {c:Operand} {x y b:Code} (hw:AW P Tb J n (.cond c x y) (thA (AW P Tb J n b Q) Q) s h):AW P Tb J n (.seq (.cond c x y) b) Q s h:=A_sq hw
def A_sqb {id:Nat} {a b:Code} (hw:AW P Tb J n (.block id a) (thA (AW P Tb J n b Q) Q) s h):AW P Tb J n (.seq (.block id a) b) Q s h:=A_sq hw
def A_sql {a b:Code} (hw:AW P Tb J n (.loop a) (thA (AW P Tb J n b Q) Q) s h):AW P Tb J n (.seq (.loop a) b) Q s h:=A_sq hw
def A_sqs {a b c:Code} (hw:AW P Tb J n (.seq a b) (thA (AW P Tb J n c Q) Q) s h):AW P Tb J n (.seq (.seq a b) c) Q s h:=A_sq hw
structure Hid (p:Prop):Prop where
 o:p
def A_jn {a b:Code} (hw:∀ K:(Nat→PV)→Hp→Prop,(∀ s h,AW P Tb J n b Q s h→K s h)→AW P Tb J n a (thA K Q) s h):AW P Tb J n a (thA (AW P Tb J n b Q) Q) s h:=hw _ fun _ _ h=>h
def x2 {A B:Prop} (a:A) (b:B):A∧B:=⟨a,b⟩
def x3 {A B C:Prop} (a:A) (b:B) (c:C):A∧B∧C:=⟨a,b,c⟩
def x4 {A B C D:Prop} (a:A) (b:B) (c:C) (d:D):A∧B∧C∧D:=⟨a,b,c,d⟩
def x5 {A B C D E:Prop} (a:A) (b:B) (c:C) (d:D) (e:E):A∧B∧C∧D∧E:=⟨a,b,c,d,e⟩
def x6 {A B C D E F:Prop} (a:A) (b:B) (c:C) (d:D) (e:E) (f:F):A∧B∧C∧D∧E∧F:=⟨a,b,c,d,e,f⟩
def qeY (ops:List Oper):List (Nat × Nat) :=
 (List.range ops.length).flatMap fun i=>match ops[i]? with
  | none=>[]
  | some o=>(List.range i).filterMap fun j=>match ops[j]? with
   | none=>none
   | some p=>if ((qne [] ops).getD i 0).testBit j || harm (cls p) (cls o) then none else some (j,i)
def djB (a b:FP):Bool:=(a.2.all fun x=>!(b.1.any fun y=>Nat.beq x y) && !(b.2.any fun y=>Nat.beq x y)) && b.2.all fun x=>!(a.1.any fun y=>Nat.beq x y)
def chkB (prs:List (Nat × Nat)) (fps:List FP):Bool:=prs.all fun p=>djB (fps.getD p.1 ([],[])) (fps.getD p.2 ([],[]))
def nbq {x:Nat} {l:List Nat} (hx:(!(l.any fun y=>Nat.beq x y))=true):x ∉ l:=fun hm=>by
 have:(l.any fun y=>Nat.beq x y)=true:=List.any_eq_true.2 ⟨x,hm,Nat.beq_refl x⟩;rw [this] at hx; cases hx
def qpB {prs:List (Nat × Nat)} {fps:List FP} (hc:chkB prs fps=true):chk prs fps:=fun p hp=>by
 have:=List.all_eq_true.1 hc p hp;unfold djB at this;rw [Bool.and_eq_true] at this;refine ⟨fun x hx=>?_,fun x hx=>nbq (List.all_eq_true.1 this.2 x hx)⟩;have q:=List.all_eq_true.1 this.1 x hx;rw [Bool.and_eq_true] at q;exact ⟨nbq q.1,nbq q.2⟩
def cB (l:List Oper) (acc:List FP):Prop:=chkB (qeY l) acc.reverse=true
def quU {l:List Oper} {acc:List FP} (hc:chkB (qeY l) acc.reverse=true):cB l acc:=hc
@[congr] theorem cB_congr {l:List Oper} {acc acc':List FP} (he:acc=acc'):cB l acc=cB l acc':=by rw [he]
def qhC {ops:List Oper} {K K':(Nat→PV)→Hp→List FP→Prop} (hk:∀ s h acc,K s h acc→K' s h acc):∀ {l:List Oper} {s:Nat→PV} {h:Hp} {acc:List FP},AL P Tb ops K l s h acc→AL P Tb ops K' l s h acc
 | [],_,_,_,hq=>hk _ _ _ hq
 | _ :: _,_,_,_,⟨x,h',fp,h1,h2⟩=>⟨x,h',fp,h1,qhC hk h2⟩
def qmK {id:Nat} {l:List Oper} (hm:P.follows .mixedOrders=true) (hok:qca l (qne [] l) (qeY l)=true) (hw:∀ K:(Nat→PV)→Hp→Prop,(∀ s h,Q .normal s h→K s h)→AL P Tb l (fun s h acc=>cB l acc∧K s h) l s h []):AW P Tb J n (.region id l.toArray true) Q s h :=
 qmJ (qeY l) hm hok fun K hK=>qhC (fun _ _ _ q=>⟨qpB q.1,q.2⟩) (hw K hK)
def A_sdd {id:Nat} {l:List Oper} {b:Code} (hm:P.follows .mixedOrders=true) (hok:qca l (qne [] l) (qeY l)=true) (hw:∀ K:(Nat→PV)→Hp→Prop,(∀ s h,AW P Tb J n b Q s h→K s h)→AL P Tb l (fun s h acc=>cB l acc∧K s h) l s h []):AW P Tb J n (.seq (.region id l.toArray true) b) Q s h :=
 q2g fun K hK=>qmK hm hok fun K1 hK1=>hw K1 fun s h hb=>hK1 s h (hK s h hb)
variable {K:(Nat→PV)→Hp→Prop} {i id:Nat}
def q_n (hq:K s h):thA K Q .normal s h:=hq
def q_r (hq:Q .ret s h):thA K Q .ret s h:=hq
def q_e (hq:Q (.exit i) s h):thA K Q (.exit i) s h:=hq
def i_n (hq:Q .normal s h):inA id Q .normal s h:=hq
def i_r (hq:Q .ret s h):inA id Q .ret s h:=hq
def i_e (hq:Q .normal s h):inA id Q (.exit id) s h:=by simpa [inA] using hq
def i_o (hi:i≠id) (hq:Q (.exit i) s h):inA id Q (.exit i) s h:=by simpa [inA,hi] using hq
def retQ (P:Program) (rs:List ResultVar) (r:PV):SQ:=fun x s h=>(x=.ret∨x=.normal)∧qmx ((rsL P h s rs).bind (q2e h)) r
def qrt {rs:List ResultVar} {r:PV} (hq:qmx ((rsL P h s rs).bind (q2e h)) r):retQ P rs r .ret s h:=⟨.inl rfl,hq⟩
def qrn {rs:List ResultVar} {r:PV} (hq:qmx ((rsL P h s rs).bind (q2e h)) r):retQ P rs r .normal s h:=⟨.inr rfl,hq⟩
section
variable {a b:Int}
def d_lt {i:Decidable (a < b)} (h:a < b):@decide _ i=true:=decide_eq_true h
def qtt {i:Decidable (a < b)} (h:¬ a < b):@decide _ i=false:=decide_eq_false h
def d_le {i:Decidable (a≤b)} (h:a≤b):@decide _ i=true:=decide_eq_true h
def qtu {i:Decidable (a≤b)} (h:¬ a≤b):@decide _ i=false:=decide_eq_false h
def b_t (h:a=b):(a == b)=true:=by simpa using h
def b_f (h:a≠b):(a == b)=false:=by simpa using h
def n_t (h:a≠b):(a != b)=true:=by simpa using h
def n_f (h:a=b):(a != b)=false:=by simpa using h
variable {p:Prop} {i:Decidable p} {x y:PV}
def qcn (h:p):some (@decide p i)=some true:=by rw [decide_eq_true h]
def qco (h:¬ p):some (@decide p i)=some false:=by rw [decide_eq_false h]
def qcs (h:a=b):some (a == b)=some true:=by rw [b_t h]
def qct (h:a≠b):some (a == b)=some false:=by rw [b_f h]
def qcp (h:a≠b):some (a != b)=some true:=by rw [n_t h]
def qcq (h:a=b):some (a != b)=some false:=by rw [n_f h]
def q5N (h:p):pkP (.vl (.bool (@decide p i))) x y=some x:=by rw [decide_eq_true h]; rfl
def q5O (h:¬ p):pkP (.vl (.bool (@decide p i))) x y=some y:=by rw [decide_eq_false h]; rfl
def q5P (h:a=b):pkP (.vl (.bool (a == b))) x y=some x:=by rw [b_t h]; rfl
def q5Q (h:a≠b):pkP (.vl (.bool (a == b))) x y=some y:=by rw [b_f h]; rfl
def q5L (h:a≠b):pkP (.vl (.bool (a != b))) x y=some x:=by rw [n_t h]; rfl
def q5M (h:a=b):pkP (.vl (.bool (a != b))) x y=some y:=by rw [n_f h]; rfl
end
end
end Go.E
namespace Go.Proofs.YtbcmhlhgljoolaaGreatDoor
open Go Go.E Go.Sp
def ac0 {f:FuncId} {fn:Func} {c:Code} {al:List PV} {r:PV} {n:Nat} (hf:Tryz.prog.funcs[f]?=some fn) (hn:fn.ntmps=n) (rs:List ResultVar) (hw:AW Tryz.prog q2i (fun _=>False) n c (retQ Tryz.prog rs r) (enP al) h0)
  (hb:fn.body=some c:=by rfl) (hr:fn.results.toList=rs:=by rfl) (hl:(decide (rs.length≤4))=true:=by rfl) (hd:(decide (al.length≤n) && q9E n c)=true:=by kernel_rfl) (hc:q0C Tryz.prog f=true:=by kernel_rfl):ACt f al r :=
 act hc hf hb hn hd (qgy (fun x s h q=>rt hr hl q.2 q.1) hw)
def wk1 {G p q:Prop} (g:G) (k:q) (e:G→Hid q→p:=by
 intro g k
 repeat (first
  | (refine qcy fun K hK=>?_; simp -implicitDefEqProofs (maxSteps:=50000) (disch:=omega) only [go_sem,Nat.reduceEqDiff,Nat.reduceAdd,↓reduceIte,i64_in,Bool.not_true,Bool.not_false,List.length_range,Nat.zero_add,Int.reduceLT,Int.reduceEq,Int.natAbs_natCast,Bool.true_and,Bool.false_and,Bool.and_true,Bool.and_false,qcn,qco,qcs,qct,qcp,qcq,q5N,q5O,q5P,q5Q,q5L,q5M,g]; (repeat ((first | (apply q2B; focus (first | with_reducible assumption | (apply_assumption -exfalso -symm <;> first | assumption | omega | rfl | exact negN.symm | (simp only [Int.natAbs_natCast]; omega) | (apply_assumption -exfalso -symm <;> first | assumption | omega)))) | (apply q42; (focus with_reducible assumption); (focus with_reducible assumption))); try simp -implicitDefEqProofs (maxSteps:=50000) (disch:=omega) only [go_sem,Nat.reduceEqDiff,Nat.reduceAdd,↓reduceIte,i64_in,Bool.not_true,Bool.not_false,List.length_range,Nat.zero_add,Int.reduceLT,Int.reduceEq,Int.natAbs_natCast,Bool.true_and,Bool.false_and,Bool.and_true,Bool.and_false,qcn,qco,qcs,qct,qcp,qcq,q5N,q5O,q5P,q5Q,q5L,q5M,g])); refine hK _ _ ?_; clear hK K)
  | (refine A_sdd q0l (by kernel_rfl) fun K hK=>?_; simp -implicitDefEqProofs (maxSteps:=50000) (disch:=omega) only [go_sem,Nat.reduceEqDiff,Nat.reduceAdd,↓reduceIte,i64_in,Bool.not_true,Bool.not_false,List.length_range,Nat.zero_add,Int.reduceLT,Int.reduceEq,Int.natAbs_natCast,Bool.true_and,Bool.false_and,Bool.and_true,Bool.and_false,qcn,qco,qcs,qct,qcp,qcq,q5N,q5O,q5P,q5Q,q5L,q5M,g]; (repeat ((first | (apply q2B; focus (first | with_reducible assumption | (apply_assumption -exfalso -symm <;> first | assumption | omega | rfl | exact negN.symm | (simp only [Int.natAbs_natCast]; omega) | (apply_assumption -exfalso -symm <;> first | assumption | omega)))) | (apply q42; (focus with_reducible assumption); (focus with_reducible assumption))); try simp -implicitDefEqProofs (maxSteps:=50000) (disch:=omega) only [go_sem,Nat.reduceEqDiff,Nat.reduceAdd,↓reduceIte,i64_in,Bool.not_true,Bool.not_false,List.length_range,Nat.zero_add,Int.reduceLT,Int.reduceEq,Int.natAbs_natCast,Bool.true_and,Bool.false_and,Bool.and_true,Bool.and_false,qcn,qco,qcs,qct,qcp,qcq,q5N,q5O,q5P,q5Q,q5L,q5M,g])); refine ⟨quU (by kernel_rfl),hK _ _ ?_⟩; clear hK K)
  | (refine q9C fun K hK=>?_; simp -implicitDefEqProofs (maxSteps:=50000) (disch:=omega) only [go_sem,Nat.reduceEqDiff,Nat.reduceAdd,↓reduceIte,i64_in,Bool.not_true,Bool.not_false,List.length_range,Nat.zero_add,Int.reduceLT,Int.reduceEq,Int.natAbs_natCast,Bool.true_and,Bool.false_and,Bool.and_true,Bool.and_false,qcn,qco,qcs,qct,qcp,qcq,q5N,q5O,q5P,q5Q,q5L,q5M,g]; (repeat ((first | (apply q2B; focus (first | with_reducible assumption | (apply_assumption -exfalso -symm <;> first | assumption | omega | rfl | exact negN.symm | (simp only [Int.natAbs_natCast]; omega) | (apply_assumption -exfalso -symm <;> first | assumption | omega)))) | (apply q42; (focus with_reducible assumption); (focus with_reducible assumption))); try simp -implicitDefEqProofs (maxSteps:=50000) (disch:=omega) only [go_sem,Nat.reduceEqDiff,Nat.reduceAdd,↓reduceIte,i64_in,Bool.not_true,Bool.not_false,List.length_range,Nat.zero_add,Int.reduceLT,Int.reduceEq,Int.natAbs_natCast,Bool.true_and,Bool.false_and,Bool.and_true,Bool.and_false,qcn,qco,qcs,qct,qcp,qcq,q5N,q5O,q5P,q5Q,q5L,q5M,g])); refine hK _ _ ?_; clear hK K)
  | (refine qmK q0l (by kernel_rfl) fun K hK=>?_; simp -implicitDefEqProofs (maxSteps:=50000) (disch:=omega) only [go_sem,Nat.reduceEqDiff,Nat.reduceAdd,↓reduceIte,i64_in,Bool.not_true,Bool.not_false,List.length_range,Nat.zero_add,Int.reduceLT,Int.reduceEq,Int.natAbs_natCast,Bool.true_and,Bool.false_and,Bool.and_true,Bool.and_false,qcn,qco,qcs,qct,qcp,qcq,q5N,q5O,q5P,q5Q,q5L,q5M,g]; (repeat ((first | (apply q2B; focus (first | with_reducible assumption | (apply_assumption -exfalso -symm <;> first | assumption | omega | rfl | exact negN.symm | (simp only [Int.natAbs_natCast]; omega) | (apply_assumption -exfalso -symm <;> first | assumption | omega)))) | (apply q42; (focus with_reducible assumption); (focus with_reducible assumption))); try simp -implicitDefEqProofs (maxSteps:=50000) (disch:=omega) only [go_sem,Nat.reduceEqDiff,Nat.reduceAdd,↓reduceIte,i64_in,Bool.not_true,Bool.not_false,List.length_range,Nat.zero_add,Int.reduceLT,Int.reduceEq,Int.natAbs_natCast,Bool.true_and,Bool.false_and,Bool.and_true,Bool.and_false,qcn,qco,qcs,qct,qcp,qcq,q5N,q5O,q5P,q5Q,q5L,q5M,g])); refine ⟨quU (by kernel_rfl),hK _ _ ?_⟩; clear hK K)
  | refine A_sqc ?_
  | refine A_sqb ?_
  | refine A_sql ?_
  | refine A_sqs ?_
  | refine q7y ?_
  | (refine A_t ?_ ?_; focus (simp -implicitDefEqProofs (disch:=omega) only [go_sem,Nat.reduceEqDiff,↓reduceIte,Bool.not_true,Bool.not_false,d_lt,qtt,d_le,qtu,b_t,b_f,n_t,n_f,g]; done))
  | (refine A_f ?_ ?_; focus (simp -implicitDefEqProofs (disch:=omega) only [go_sem,Nat.reduceEqDiff,↓reduceIte,Bool.not_true,Bool.not_false,d_lt,qtt,d_le,qtu,b_t,b_f,n_t,n_f,g]; done))
  | refine q7x ?_
  | refine qhA ?_
  | refine qgw ?_
  | refine q_n ?_
  | refine q_r ?_
  | refine q_e ?_
  | refine i_n ?_
  | refine i_r ?_
  | refine i_e ?_
  | refine i_o (by decide) ?_
  | (have t:True:=k.o; refine qrt ?_; simp -implicitDefEqProofs (maxSteps:=50000) (disch:=omega) only [go_sem,Nat.reduceEqDiff,Nat.reduceAdd,↓reduceIte,i64_in,Bool.not_true,Bool.not_false,List.length_range,Nat.zero_add,Int.reduceLT,Int.reduceEq,Int.natAbs_natCast,Bool.true_and,Bool.false_and,Bool.and_true,Bool.and_false,qcn,qco,qcs,qct,qcp,qcq,q5N,q5O,q5P,q5Q,q5L,q5M,g]; done)
  | (refine qrt ?_; simp -implicitDefEqProofs (maxSteps:=50000) (disch:=omega) only [go_sem,Nat.reduceEqDiff,Nat.reduceAdd,↓reduceIte,i64_in,Bool.not_true,Bool.not_false,List.length_range,Nat.zero_add,Int.reduceLT,Int.reduceEq,Int.natAbs_natCast,Bool.true_and,Bool.false_and,Bool.and_true,Bool.and_false,qcn,qco,qcs,qct,qcp,qcq,q5N,q5O,q5P,q5Q,q5L,q5M,g]; exact k.o)
  | (have t:True:=k.o; refine qrn ?_; simp -implicitDefEqProofs (maxSteps:=50000) (disch:=omega) only [go_sem,Nat.reduceEqDiff,Nat.reduceAdd,↓reduceIte,i64_in,Bool.not_true,Bool.not_false,List.length_range,Nat.zero_add,Int.reduceLT,Int.reduceEq,Int.natAbs_natCast,Bool.true_and,Bool.false_and,Bool.and_true,Bool.and_false,qcn,qco,qcs,qct,qcp,qcq,q5N,q5O,q5P,q5Q,q5L,q5M,g]; done)
  | (refine qrn ?_; simp -implicitDefEqProofs (maxSteps:=50000) (disch:=omega) only [go_sem,Nat.reduceEqDiff,Nat.reduceAdd,↓reduceIte,i64_in,Bool.not_true,Bool.not_false,List.length_range,Nat.zero_add,Int.reduceLT,Int.reduceEq,Int.natAbs_natCast,Bool.true_and,Bool.false_and,Bool.and_true,Bool.and_false,qcn,qco,qcs,qct,qcp,qcq,q5N,q5O,q5P,q5Q,q5L,q5M,g]; exact k.o))
 first | done | exact k.o):p:=e g ⟨k⟩
def wk {p q:Prop} (k:q) (e:Hid q→p:=by intro k; exact wk1 @Nat.zero_add k.o):p:=e ⟨k⟩
def fL (z:Int):Fam:=⟨fun D v w=>∃ A n c,v=.slice A n c∧U32 w D A n c (lim z.natAbs),fun k ⟨A,n,c,e,h⟩=>⟨A,n,c,e,h.kp k⟩,fun k ⟨A,n,c,e,h⟩=>⟨A,n,c,e,h.sub k⟩⟩
def fitLz {z:Int}:∀ D v w,In (fL z) D v w→q3F none v:=fun D v w h=>by
 obtain ⟨A,n,c,rfl,_⟩:=h;exact ⟨rfl,rfl,rfl⟩
def qtR {z:Int} {A:Prop}:q28 none (.fm (fL z)) A=A:=by simp only [q28,q7a,qfe]; exact propext ⟨fun h=>h.2,fun h=>⟨fitLz,h⟩⟩
abbrev bT (z:Int):PV:=.ag [bv (decide (z < 0)),.fm (fL z)]
abbrev dT (V:Int):PV:=.ag [bv false,bv (decide (od V < 0)),.fm (fL (od V)),iv (dyE V)]
section
variable {w:World} {D:Nat→Prop} {ρ:Nat→Option Nat} {h:Hp} {v:Value} {z V:Int}
def q1B:Rd w D (bT z) ρ h v ↔ In (fB z) D v w:=by
 unfold bT
 constructor
 ·intro hr;unfold Rd at hr;obtain ⟨vs,rfl,h1⟩:=hr;obtain ⟨a,b,rfl,h2,h3⟩:=q6Y h1;rw [q6W h2];obtain ⟨A,n,c,rfl,h4⟩:=q2z h3;exact ⟨_,A,n,c,rfl,rfl,h4⟩
 ·rintro ⟨s,A,n,c,rfl,h1,h2⟩;subst h1;unfold Rd;refine ⟨_,rfl,?_⟩;unfold RdL;refine ⟨_,_,rfl,q3O,?_⟩;unfold RdL;exact ⟨_,_,rfl,q7T ⟨A,n,c,rfl,h2⟩,by unfold RdL; rfl⟩
def q2q:Rd w D (dT V) ρ h v∧q0k V ↔ In (fV V) D v w:=by
 unfold dT
 constructor
 ·rintro ⟨hr,ho⟩;unfold Rd at hr;obtain ⟨vs,rfl,h1⟩:=hr;obtain ⟨a,b,c,d,rfl,h2,h3,h4,h5⟩:=rd_4 h1;rw [q6W h2,q6W h3,q6W h5];obtain ⟨A,n,c,rfl,h6⟩:=q2z h4;exact ⟨_,A,n,c,rfl,⟨rfl,h6⟩,ho⟩
 ·rintro ⟨s,A,n,c,rfl,⟨h1,h2⟩,ho⟩;subst h1;refine ⟨?_,ho⟩;unfold Rd;refine ⟨_,rfl,?_⟩;unfold RdL;refine ⟨_,_,rfl,q3O,?_⟩;unfold RdL;refine ⟨_,_,rfl,q3O,?_⟩;unfold RdL;refine ⟨_,_,rfl,q7T ⟨A,n,c,rfl,h2⟩,?_⟩;unfold RdL;exact ⟨_,_,rfl,q3O,by unfold RdL; rfl⟩
end
def q6V {f:FuncId} {al al':List PV} {r:PV} {p:Prop} (hc:q0C Tryz.prog f=true) (h:∀ (D:Nat→Prop) (w:World) (vs:List Value),RdL w D al (fun _=>none) h0 vs→RdL w D al' (fun _=>none) h0 vs∧p) (ha:p→ACt f al' r):ACt f al r :=
 ⟨hc,fun D w vs hT hF hR=>(ha (h D w vs hR).2).2 D w vs hT hF (h D w vs hR).1⟩
def q1N {f:FuncId} {al:List PV} {r r':PV} (h:∀ (D:Nat→Prop) (w:World) (v:Value),Rd w D r (fun _=>none) h0 v→Rd w D r' (fun _=>none) h0 v) (ha:ACt f al r):ACt f al r' :=
 ⟨ha.1,fun D w vs hT hF hR=>(ha.2 D w vs hT hF hR).mono fun x w' ⟨v,h1,h2,h3⟩=>⟨v,h1,h2,h _ _ _ h3⟩⟩
def qvV {f:FuncId} {V:Int} {r:PV} (hc:q0C Tryz.prog f=true) (ha:q0k V→ACt f [dT V] r):ACt f [pV V] r:=q6V hc (fun D w vs hR=>by
 obtain ⟨a,rfl,h1⟩:=qal hR;obtain ⟨h2,h3⟩:=q2q.2 (q2z h1);exact ⟨RdL.one h2,h3⟩) ha
def ac_2 {f:FuncId} {V U:Int} {r:PV} (hc:q0C Tryz.prog f=true) (ha:q0k V∧q0k U→ACt f [dT V,dT U] r):ACt f [pV V,pV U] r:=q6V hc (fun D w vs hR=>by
 obtain ⟨a,b,rfl,h1,h2⟩:=q6Y hR;obtain ⟨h3,h4⟩:=q2q.2 (q2z h1);obtain ⟨h5,h6⟩:=q2q.2 (q2z h2);refine ⟨?_,h4,h6⟩;unfold RdL;exact ⟨_,_,rfl,h3,RdL.one h5⟩) ha
def nfL {τ:Nat→Option Nat} {h h':Hp} {z:Int} (hz:z=0):LeV τ h h' q6Z (.fm (fL z))=True:=eq_true (.nilfm fun D w=>by subst hz; exact ⟨none,0,0,rfl,U32.nil⟩)
def negN {n:Nat}:decide ((n:Int) < 0)=false:=decide_eq_false Oq
def ldU_5 {a b c d e:PV}:ldU (some 5) (some 2) 1 (.ag [a,b,c,d,e])=some (.ag [b,c]):=by simp [ldU]
attribute [go_sem] qtR nfL negN ldU_5
section
variable {f:FuncId} {a b z m:Int} {c:Value} {s t:Bool}
abbrev sT (s:Bool) (z:Int):PV:=.ag [bv s,.fm (fL z)]
def B0 (h:∀ (D:Nat→Prop) (w:World),Fr D w→Calls Tryz.prog f #[.int .i64 m] w (Rt (fB z) D w)) (hc:q0C Tryz.prog f=true:=by kernel_rfl):ACt f [iv m] (bT z):=q1N (r:=.fm (fB z)) (fun D w v h=>q1B.2 (q2z h)) (q6u hc fun D w vs hT hF hR=>by
 obtain ⟨_,rfl,h3⟩:=qal hR;rw [q6W h3];exact h D w hF)
def B1 (hs:s=decide (a < 0)) (h:∀ (D:Nat→Prop) (w:World) (v:Value),In (fB a) D v w→Fr D w→Calls Tryz.prog f #[v] w (Rt (fB z) D w)) (hc:q0C Tryz.prog f=true:=by kernel_rfl):ACt f [sT s a] (bT z):=hs ▸ q1N (r:=.fm (fB z)) (fun D w v h=>q1B.2 (q2z h)) (q6u hc fun D w vs hT hF hR=>by
 obtain ⟨_,rfl,h3⟩:=qal hR;exact h D w _ (q1B.1 h3) hF)
def B2 (hs:s=decide (a < 0)) (ht:t=decide (b < 0)) (h:∀ (D:Nat→Prop) (w:World) (v u:Value),In (fB a) D v w→In (fB b) D u w→Fr D w→Calls Tryz.prog f #[v,u] w (Rt (fB z) D w)) (hc:q0C Tryz.prog f=true:=by kernel_rfl):ACt f [sT s a,sT t b] (bT z):=hs ▸ ht ▸ q1N (r:=.fm (fB z)) (fun D w v h=>q1B.2 (q2z h)) (q6u hc fun D w vs hT hF hR=>by
 obtain ⟨_,_,rfl,h3,h4⟩:=q6Y hR;exact h D w _ _ (q1B.1 h3) (q1B.1 h4) hF)
def B1c (hs:s=decide (a < 0)) (h:∀ (D:Nat→Prop) (w:World) (v:Value),q2i w→In (fB a) D v w→Fr D w→Calls Tryz.prog f #[v] w fun e w'=>e=.returned c∧Ext w w') (hc:q0C Tryz.prog f=true:=by kernel_rfl):ACt f [sT s a] (.vl c):=hs ▸ qvU hc fun D w vs hT hF hR=>by
 obtain ⟨_,rfl,h3⟩:=qal hR;exact h D w _ hT (q1B.1 h3) hF
def B2c (hs:s=decide (a < 0)) (ht:t=decide (b < 0)) (h:∀ (D:Nat→Prop) (w:World) (v u:Value),In (fB a) D v w→In (fB b) D u w→Calls Tryz.prog f #[v,u] w fun e w'=>e=.returned c∧Ext w w') (hc:q0C Tryz.prog f=true:=by kernel_rfl):ACt f [sT s a,sT t b] (.vl c):=hs ▸ ht ▸ qvU hc fun D w vs hT hF hR=>by
 obtain ⟨_,_,rfl,h3,h4⟩:=q6Y hR;exact h D w _ _ (q1B.1 h3) (q1B.1 h4)
def qia (hs:s=decide (a < 0)) (ha:bl a.natAbs≤20000000):ACt 235 [sT s a] (bT a):=B1 hs fun _ _ _ h hf=>qnz h ha hf
def q9l (hs:s=decide (a < 0)) (ha:bl a.natAbs≤20000000):ACt 131 [sT s a] (bT (-a)):=B1 hs fun _ _ _ h hf=>qtA h ha hf
def q9n (hs:s=decide (a < 0)) (ha:bl a.natAbs≤20000000):ACt 187 [sT s a] (bT a.natAbs):=B1 hs fun _ _ _ h hf=>qtF h ha hf
def q3w (h1 : -9223372036854775808≤z) (h2:z≤9223372036854775807):ACt 129 [iv z] (bT z):=B0 fun _ _ hf=>qcY h1 h2 hf
def q9m (hs:s=decide (a < 0)) (ht:t=decide (b < 0)) (ha:bl a.natAbs≤19000000) (hb:bl b.natAbs≤19000000):ACt 195 [sT s a,sT t b] (bT (a+b)):=B2 hs ht fun _ _ _ _ h h' hf=>qtE h h' ha hb hf
def qny (hs:s=decide (a < 0)) (ht:t=decide (b < 0)) (ha:bl a.natAbs≤19000000) (hb:bl b.natAbs≤19000000):ACt 259 [sT s a,sT t b] (bT (a-b)):=B2 hs ht fun _ _ _ _ h h' hf=>qsz h h' ha hb hf
def qoB (hs:s=decide (a < 0)) (ht:t=decide (b < 0)) (ha:bl a.natAbs≤9000000) (hb:bl b.natAbs≤9000000):ACt 199 [sT s a,sT t b] (bT (a*b)):=B2 hs ht fun _ _ _ _ h h' hf=>qtB h h' ha hb hf
def q4R (hs:s=decide (a < 0)) (ha:bl a.natAbs≤20000000):ACt 176 [sT s a] (iv a.sign):=B1c hs fun _ _ _ _ h _=>q9k h ha
def q39 (hs:s=decide (a < 0)) (ha:bl a.natAbs≤20000000):ACt 191 [sT s a] (iv (bl a.natAbs:Nat)):=B1c hs fun _ _ _ _ h _=>qfB h ha
def qlE (hs:s=decide (a < 0)) (ha:bl a.natAbs≤20000000):ACt 236 [sT s a] (iv (tz a.natAbs:Nat)):=B1c hs fun _ _ _ hT h _=>iTZ_v hT h ha
def qoD (hs:s=decide (a < 0)) (ht:t=decide (b < 0)) (ha:bl a.natAbs≤19000000) (hb:bl b.natAbs≤19000000):ACt 260 [sT s a,sT t b] (iv (a-b).sign):=B2c hs ht fun _ _ _ _ h h'=>qtD h h' ha hb
def q89 (hs:s=decide (a < 0)) (ha:bl a.natAbs≤10000000) (h1 : -1048576≤m) (h2:m≤1048576):ACt 245 [sT s a,iv m] (.tu [bT (shI a m),iv 0]):=hs ▸ q1N (r:=.fm (fP (fB (shI a m)) (fc (.int .i64 0)))) (fun D w v h=>by
 obtain ⟨p,q,rfl,h1,rfl⟩:=q2z h;unfold Rd;refine ⟨_,rfl,?_⟩;unfold RdL;exact ⟨_,_,rfl,q1B.2 h1,RdL.one q3O⟩) (q6u (by kernel_rfl) fun D w vs hT hF hR=>by
 obtain ⟨_,_,rfl,h3,h4⟩:=q6Y hR;rw [q6W h4];exact qi9 (q1B.1 h3) ha h1 h2 hF)
def qcZ {x y:Nat} (hs:s=decide ((x:Int) < 0)) (ht:t=decide ((y:Int) < 0)) (hb:bl x≤20000000) (hd0:y≠0) (hby:bl y≤20000000):ACt 192 [sT s x,sT t y] (.tu [bT (x / y:Nat),bT (x % y:Nat),iv 0]):=by
 subst hs ht;exact q1N (r:=.fm (fP3 (fB (x / y:Nat)) (fB (x % y:Nat)) (fc (.int .i64 0)))) (fun D w v h=>by
  obtain ⟨p,q,r,rfl,h1,h2,rfl⟩:=q2z h;unfold Rd;refine ⟨_,rfl,?_⟩;unfold RdL;refine ⟨_,_,rfl,q1B.2 h1,?_⟩;unfold RdL;exact ⟨_,_,rfl,q1B.2 h2,RdL.one q3O⟩) (q6u (by kernel_rfl) fun D w vs hT hF hR=>by
  obtain ⟨_,_,rfl,h3,h4⟩:=q6Y hR;exact qc0 (q1B.1 h3) (q1B.1 h4) hb hd0 hby hF)
end
section
variable {a b z m:Int} {s t:Bool}
def q7d (hs:s=decide (a < 0)) (ha:bl a.natAbs≤20000000):ACt 148 [sT s a] (iv a.sign):=B1c hs fun _ _ _ _ h hf=>qeJ h ha hf
def qtk (hs:s=decide (a < 0)) (ha:bl a.natAbs≤20000000):ACt 158 [sT s a] (iv (tz a.natAbs:Nat)):=B1c hs fun _ _ _ hT h _=>qsF hT h ha
def qft (hs:s=decide (a < 0)) (ht:t=decide (b < 0)) (ha:bl a.natAbs≤20000000) (hb:bl b.natAbs≤20000000):ACt 153 [sT s a,sT t b] (bT (a+b)):=B2 hs ht fun _ _ _ _ h h' hf=>qkf h h' ha hb hf
def q8m (h1 : -9223372036854775808≤z) (h2:z≤9223372036854775807):ACt 150 [iv z] (bT z):=B0 fun _ _ hf=>q6f h1 h2 hf
def qj1 {n:Nat} (hs:s=decide (a < 0)) (ha:bl a.natAbs≤20000000) (hn:n≤1000000000):ACt 251 [sT s a,iv n] (bv (decide (a.natAbs % 2 ^ n≠0))):=hs ▸ qvU (by kernel_rfl) fun D w vs hT hF hR=>by
 obtain ⟨_,_,rfl,h3,h4⟩:=q6Y hR;rw [q6W h4];exact qnJ (q1B.1 h3) ha Oq hF
def q6P (hs:s=decide (a < 0)) (ha:bl a.natAbs≤20000000) (h1 : -1000000000≤m) (h2:m≤1000000000):ACt 154 [sT s a,iv m] (bT (shI a m)):=hs ▸ q1N (r:=.fm (fB (shI a m))) (fun D w v h=>q1B.2 (q2z h)) (q6u (by kernel_rfl) fun D w vs hT hF hR=>by
 obtain ⟨_,_,rfl,h3,h4⟩:=q6Y hR;rw [q6W h4];exact q7U (q1B.1 h3) ha h1 h2 hF)
def qj3 {N:Nat} (hs:s=decide (a < 0)) (ha:bl a.natAbs≤20000000) (hn:N≤1048576):ACt 159 [sT s a,iv N] (bT (shI a (-(N:Int)))):=by
 have C1:=@q6P;refine ac0 Tryz.func159 Tryz.ntmps159 [.cell 4 72] ?_;refine wk ?_;refine q0L (fun _:Unit=>True) [1,2,4] [2,4] Lk Lk (fun _=>[]) (fun _=>[]) (fun _=>0) () trivial ?_ ?_
 ·refine LeM [] rfl rfl ?_;exact Zy
 ·intro _ _;exact wk1 @Int.zero_sub trivial
end
def qtj {neg odd:Bool} {half mode:Int}:ACt 252 [bv neg,iv half,bv odd,iv mode] (bv (upS mode neg half odd)):=by
 unfold upS;refine ac0 Tryz.func252 Tryz.ntmps252 [.tmp 8] ?_
 by_cases m1:mode=1
 ·rw [if_pos m1];exact wk trivial
 rw [if_neg m1]
 by_cases m2:mode=2
 ·rw [if_pos m2];exact wk trivial
 rw [if_neg m2]
 by_cases m3:mode=3
 ·rw [if_pos m3];exact wk trivial
 rw [if_neg m3]
 by_cases h1:0 < half
 ·rw [decide_eq_true h1,Bool.true_or];exact wk trivial
 rw [decide_eq_false h1,Bool.false_or]
 by_cases h2:half=0
 ·rw [decide_eq_true h2,Bool.true_and];exact wk trivial
 ·rw [decide_eq_false h2,Bool.false_and];exact wk trivial
def qod {N M k:Nat} {neg more s:Bool} {mode:Int} (hs:s=decide (((N / M:Nat):Int) < 0)) (hM:0 < M) (hm:more=decide (N % M≠0)) (hk:more=true→0 < k) (hb:bl (N / M)≤1000000) (hkb:k≤1000000) :
  ACt 210 [bv neg,sT s (N / M:Nat),iv k,bv more,iv mode] (bT (rq mode neg N (M*2 ^ k):Nat)):=by
 obtain rfl:s=false:=hs.trans negN;have hrq:=qru (mode:=mode) (neg:=neg) (k:=k) hM (fun h=>hk (by rw [hm]; simpa using h));have C1:=@qj3;have C2:=@qj1;have C3:=@qtk;have C4:=@q7d;have C5:=@qtj;have C6:=@q8m;have C7:=@qft;have hb2:bl (1:Int).natAbs≤1:=by show bl 1≤_; rw [q6S]; omega
 rw [hrq];have hH:qc1 N M k=if 0 < k∧N / M / 2 ^ (k-1) % 2=1 then (if N % M≠0∨N / M % 2 ^ (k-1)≠0 then 1 else 0) else -1:=rfl
 generalize N / M=m at *;have hbq:bl (m / 2 ^ k)≤1000000:=Nat.le_trans (q0d (Nat.div_le_self _ _)) hb;have hbb:bl (m / 2 ^ (k-1))≤1000000:=Nat.le_trans (q0d (Nat.div_le_self _ _)) hb;have f1:=qdi m k;have f2:=qdi m (k-1);generalize qc1 N M k=H at *;generalize hz:m % 2 ^ k=r at *;generalize m / 2 ^ k=q at *;generalize hb1:m / 2 ^ (k-1)=b at *;refine ac0 Tryz.func210 Tryz.ntmps210 [.cell 10 72] ?_
 by_cases hex:r=0∧more=false
 ·obtain ⟨hr,hmo⟩:=hex;have hnm:N % M=0:=by rw [hmo] at hm; simpa using hm.symm
  have q1:decide (r≠0)=false:=by simp [hr]
  rw [if_neg (by rw [hr,hnm]; simp),Nat.add_zero];exact wk1 (x4 f1 hz q1 hmo) trivial
 ·have hnex:r≠0∨N % M≠0:=by
   by_cases h0:N % M=0
   ·left; intro h1; exact hex ⟨h1,by rw [hm,h0]; rfl⟩
   ·exact .inr h0
  refine wk1 (x2 f1 hz) ?_;refine A_jn fun K hK=>?_;have fin0:∀ (s:Nat→PV) (h:Hp),s 0=bv neg→s 2=iv k→s 3=bv more→s 4=iv mode→s 6=.pt 6 0 0→s 10=.pt 10 0 0→s 11=.pt 11 0 0→h 6=some ⟨72,some 2,[.ag [bv false,.fm (fL m)]],false⟩→h 10=some ⟨72,some 2,[.ag [bv false,q6Z]],false⟩→h 11=some ⟨72,some 2,[bT q],false⟩→h 14=none→K s h:=by
   intro s h s0 s2 s3 s4 s6 s10 s11 h6 h10 h11 h14;refine hK _ _ ?_; clear hK K;refine wk1 s2 ?_;refine A_jn fun K hK=>?_;have fin1:∀ (s:Nat→PV) (h:Hp),s 0=bv neg→s 4=iv mode→s 10=.pt 10 0 0→s 11=.pt 11 0 0→s 13=iv H→h 10=some ⟨72,some 2,[.ag [bv false,q6Z]],false⟩→h 11=some ⟨72,some 2,[bT q],false⟩→K s h:=by
    clear s0 s2 s3 s4 s6 s10 s11 h6 h10 h11 h14;intro s h s0 s4 s10 s11 s13 h10 h11;refine hK _ _ ?_; clear hK K;have e2:((q+1:Nat):Int)=(q:Int)+1:=rfl;have hbz:bl ((q:Int)+1).natAbs≤1000001:=q3Y (k:=1000000) (a:=q) (b:=1) (by omega) (by rw [q6S]; omega);obtain ⟨o,ho⟩:∃ o,o=decide (q % 2=1):=⟨_,rfl⟩;rw [← ho];have hq:(q=0∧o=false)∨(q≠0∧(((tz q:Nat):Int) == 0)=o):=by
     by_cases hq0:q=0
     ·exact .inl ⟨hq0,by rw [ho,hq0]; rfl⟩
     ·refine .inr ⟨hq0,?_⟩;rw [q8u,ho];exact decide_eq_decide.2 ⟨fun h=>q3r.1 ⟨h,hq0⟩,fun h=>(q3r.2 h).1⟩
    by_cases hu:upS mode neg H o=true
    ·rw [if_pos ⟨hnex,hu⟩]
     rcases hq with ⟨h0,h1⟩ | ⟨h0,h1⟩
     ·have q1:(((q:Nat):Int).sign != 0)=false:=by rw [h0]; rfl
      subst h1;exact wk1 (x6 s0 s4 s10 s11 s13 (x5 h10 h11 q1 hu e2)) trivial
     ·have q1:(((q:Nat):Int).sign != 0)=true:=by rw [Int.sign_eq_one_of_pos (by omega)]; rfl
      exact wk1 (x6 s0 s4 s10 s11 s13 (x6 h10 h11 q1 h1 hu e2)) trivial
    ·rw [if_neg fun h=>hu h.2,Nat.add_zero];rw [Bool.not_eq_true] at hu
     rcases hq with ⟨h0,h1⟩ | ⟨h0,h1⟩
     ·have q1:(((q:Nat):Int).sign != 0)=false:=by rw [h0]; rfl
      subst h1;exact wk1 (x6 s0 s4 s10 s11 s13 (x4 h10 h11 q1 hu)) trivial
     ·have q1:(((q:Nat):Int).sign != 0)=true:=by rw [Int.sign_eq_one_of_pos (by omega)]; rfl
      exact wk1 (x6 s0 s4 s10 s11 s13 (x5 h10 h11 q1 h1 hu)) trivial
   by_cases hk0:0 < k
   ·have e1:(k:Int)-1=((k-1:Nat):Int):=by omega
    by_cases ho:b % 2=1
    ·have q2:(((tz b:Nat):Int) == 0)=true:=by rw [qaY ho]; rfl
     have q3:(((b:Nat):Int).sign != 0)=true:=by rw [Int.sign_eq_one_of_pos (by omega)]; rfl
     rw [if_pos ⟨hk0,ho⟩] at hH
     by_cases hmo:more=true
     ·rw [if_pos (.inl (by rw [hmo] at hm; simpa using hm.symm))] at hH;refine wk1 (x6 s0 s2 s3 s4 s6 (x6 s10 s11 h6 h10 h11 (x6 h14 e1 f2 q2 q3 hmo))) ?_;refine fin1 _ _ ?_ ?_ ?_ ?_ ?_ ?_ ?_ <;> simp -implicitDefEqProofs (disch:=omega) only [go_sem,Nat.reduceEqDiff,Nat.reduceAdd,↓reduceIte,s0,s2,s3,s4,s6,s10,s11,h6,h10,h11,hH]
     ·rw [Bool.not_eq_true] at hmo;have hnm:N % M=0:=by rw [hmo] at hm; simpa using hm.symm
      by_cases hl:m % 2 ^ (k-1)=0
      ·have q4:decide (m % 2 ^ (k-1)≠0)=false:=by simp [hl]
       rw [if_neg (by rw [hl,hnm]; simp)] at hH;refine wk1 (x6 s0 s2 s3 s4 s6 (x6 s10 s11 h6 h10 h11 (x6 h14 e1 f2 q2 q3 (x2 hmo q4)))) ?_;refine fin1 _ _ ?_ ?_ ?_ ?_ ?_ ?_ ?_ <;> simp -implicitDefEqProofs (disch:=omega) only [go_sem,Nat.reduceEqDiff,Nat.reduceAdd,↓reduceIte,s0,s2,s3,s4,s6,s10,s11,h6,h10,h11,hH]
      ·have q4:decide (m % 2 ^ (k-1)≠0)=true:=by simp [hl]
       rw [if_pos (.inr hl)] at hH;refine wk1 (x6 s0 s2 s3 s4 s6 (x6 s10 s11 h6 h10 h11 (x6 h14 e1 f2 q2 q3 (x2 hmo q4)))) ?_;refine fin1 _ _ ?_ ?_ ?_ ?_ ?_ ?_ ?_ <;> simp -implicitDefEqProofs (disch:=omega) only [go_sem,Nat.reduceEqDiff,Nat.reduceAdd,↓reduceIte,s0,s2,s3,s4,s6,s10,s11,h6,h10,h11,hH]
    ·rw [if_neg fun h=>ho h.2] at hH
     by_cases hb0:b=0
     ·have q2:(((tz b:Nat):Int) == 0)=true:=by rw [hb0]; rfl
      have q3:(((b:Nat):Int).sign != 0)=false:=by rw [hb0]; rfl
      refine wk1 (x6 s0 s2 s3 s4 s6 (x6 s10 s11 h6 h10 h11 (x5 h14 e1 f2 q2 q3))) ?_;refine fin1 _ _ ?_ ?_ ?_ ?_ ?_ ?_ ?_ <;> simp -implicitDefEqProofs (disch:=omega) only [go_sem,Nat.reduceEqDiff,Nat.reduceAdd,↓reduceIte,s0,s2,s3,s4,s6,s10,s11,h6,h10,h11,hH]
     ·have q2:(((tz b:Nat):Int) == 0)=false:=by
       rw [q8u]; refine decide_eq_false fun h=>ho (q3r.1 ⟨h,hb0⟩)
      refine wk1 (x6 s0 s2 s3 s4 s6 (x6 s10 s11 h6 h10 h11 (x4 h14 e1 f2 q2))) ?_;refine fin1 _ _ ?_ ?_ ?_ ?_ ?_ ?_ ?_ <;> simp -implicitDefEqProofs (disch:=omega) only [go_sem,Nat.reduceEqDiff,Nat.reduceAdd,↓reduceIte,s0,s2,s3,s4,s6,s10,s11,h6,h10,h11,hH]
   ·rw [if_neg fun h=>hk0 h.1] at hH;refine wk1 (x6 s0 s2 s3 s4 s6 (x6 s10 s11 h6 h10 h11 h14)) ?_;refine fin1 _ _ ?_ ?_ ?_ ?_ ?_ ?_ ?_ <;> simp -implicitDefEqProofs (disch:=omega) only [go_sem,Nat.reduceEqDiff,Nat.reduceAdd,↓reduceIte,s0,s2,s3,s4,s6,s10,s11,h6,h10,h11,hH]
  by_cases hr:r=0
  ·have hmo:more=true:=by
    cases more
    ·exact (hex ⟨hr,rfl⟩).elim
    ·rfl
   have q1:decide (r≠0)=false:=by simp [hr]
   refine wk1 (x2 q1 hmo) ?_;refine fin0 _ _ ?_ ?_ ?_ ?_ ?_ ?_ ?_ ?_ ?_ ?_ ?_ <;> simp -implicitDefEqProofs (disch:=omega) only [go_sem,Nat.reduceEqDiff,Nat.reduceAdd,↓reduceIte,hmo]
  ·have q1:decide (r≠0)=true:=by simp [hr]
   refine wk1 q1 ?_;refine fin0 _ _ ?_ ?_ ?_ ?_ ?_ ?_ ?_ ?_ ?_ ?_ ?_ <;> simp -implicitDefEqProofs (disch:=omega) only [go_sem,Nat.reduceEqDiff,Nat.reduceAdd,↓reduceIte]
def q3a {m e V:Int} {s:Bool} (hs:s=decide (m < 0)) (hb:bl m.natAbs≤1000000) (he1 : -1000000≤e) (he2:e≤1000000) (hv:mkV m e=some V):ACt 103 [sT s m,iv e] (pV V):=hs ▸ q6u (by kernel_rfl) fun D w vs hT hF hR=>by
 obtain ⟨_,_,rfl,h3,h4⟩:=q6Y hR;rw [q6W h4];exact qnI hT (q1B.1 h3) hb he1 he2 hv hF
section
variable {m e V:Int} {f:FuncId} {al:List PV}
def qnP (h:ACt f al (dT V)) (ho:q0k V):ACt f al (pV V):=q1N (r:=dT V) (fun D w v h=>q7T (q2q.1 ⟨h,ho⟩)) h
def dv_of (h:ACt f al (pV V)):ACt f al (dT V):=q1N (r:=pV V) (fun D w v h=>(q2q.2 (q2z h)).1) h
def qtl {s:Bool} (hs:s=decide (m < 0)) (hb:bl m.natAbs≤1000000) (he1 : -1000000≤e) (he2:e≤1000000) (hv:mkV m e=some V):ACt 103 [sT s m,iv e] (dT V):=dv_of (q3a hs hb he1 he2 hv)
end
def q1P {V:Int} (ho:q0k V):ACt 101 [dT V] (dT V):=by
 obtain ⟨h1,h2,h3⟩:=q1L ho;have C1:=qtl (m:=od V) (e:=dyE V) rfl Oq Oq Oq (qau ho);refine ac0 Tryz.func101 Tryz.ntmps101 [.cell 2 74] ?_;exact wk trivial
def qob {l:List Int} (hn:l.length≤1000) (ho:∀ x ∈ l,q0k x) (hv:q0k (q1I l)):ACt 95 [.sl (some 4) (l.map fun V=>pV V)] (pV (q1I l)):=by
 have C2:=@q7d;refine ac0 Tryz.func95 Tryz.ntmps95 [.cell 2 74] ?_;refine wk ?_;refine q0L (fun q:Nat × Int × Int=>q.1≤l.length ∧ -65536≤q.2.2∧q.2.2≤65536∧q.2.1*(2:Int) ^ (q.2.2+65536).toNat=q1I (l.take q.1)) [0,2,3,7] [2] Lk Lk (fun q=>[(5,iv q.1),(4,iv q.2.2)]) (fun q=>[(3,⟨72,some 2,[bT q.2.1],false⟩)]) (fun q=>l.length-q.1) (0,0,0) ⟨Nat.zero_le _,by decide,by decide,by rw [Int.zero_mul]; rfl⟩ ?_ ?_
 ·refine LeM [] rfl rfl ?_;refine Zz ?_;exact ⟨rfl,rfl⟩
 ·rintro ⟨i,tot,e⟩ ⟨hi,he1,he2,hs⟩;simp only at hi he1 he2 hs ⊢;have hbs:=qk0 (i:=i) ho Oq;have hbt:=q44 hs
  by_cases hlt:i < l.length
  ·obtain ⟨x,hxi⟩:∃ x,l[i]?=some x:=⟨_,List.getElem?_eq_getElem Oq⟩;have hox:=ho x (List.mem_of_getElem? hxi);obtain ⟨hd1,hd2,hd3⟩:=q1L hox;have hst:=q5o l i x hxi;have hbx:bl x.natAbs≤131072:=hox;have C1:=qvV (by kernel_rfl) fun h=>q1P h (V:=x)
   by_cases hx0:x=0
   ·have q1:((od x).sign == 0)=true:=by rw [hx0]; rfl
    refine wk1 (x2 hxi q1) ?_;refine ⟨(i+1,tot,e),⟨by simp only; omega,he1,he2,by simp only; rw [hst,hx0,Int.add_zero]; exact hs⟩,by simp only; omega,?_⟩;simp only;refine LeM [] rfl rfl ?_;refine Zz ?_
    rfl
   ·have q1:((od x).sign == 0)=false:=by
     have hod:=q3c hx0
     rcases Int.lt_or_gt_of_ne hod with h | h
     ·rw [Int.sign_eq_neg_one_of_neg h]; rfl
     ·rw [Int.sign_eq_one_of_pos h]; rfl
    have hdx:dyE x=(tz x.natAbs:Int)-65536:=by unfold dyE; rw [if_neg hx0]
    have hodx:od x*(2:Int) ^ (dyE x+65536).toNat=x:=by
     rw [hdx,show ((tz x.natAbs:Int)-65536+65536).toNat=tz x.natAbs by omega,q1z]
    by_cases ht0:tot=0
    ·have q2:(Int.sign tot == 0)=true:=by rw [ht0]; rfl
     refine wk1 (x3 hxi q1 q2) ?_;refine ⟨(i+1,od x,dyE x),⟨by simp only; omega,hd1,hd2,by simp only; rw [hst,hodx,← hs,ht0]; simp⟩,by simp only; omega,?_⟩;simp only;refine LeM [] rfl rfl ?_;refine Zz ?_
     rfl
    ·have q2:(Int.sign tot == 0)=false:=by
      rcases Int.lt_or_gt_of_ne ht0 with h | h
      ·rw [Int.sign_eq_neg_one_of_neg h]; rfl
      ·rw [Int.sign_eq_one_of_pos h]; rfl
     have C3:=@q6P;have C4:=@qft
     by_cases hge:e≤dyE x
     ·have hsh:shI (od x) (dyE x-e)=od x*(2:Int) ^ (dyE x-e).toNat:=by unfold shI; rw [if_pos (by omega)]
      have hlf:od x*(2:Int) ^ (dyE x-e).toNat*(2:Int) ^ (e+65536).toNat=x:=by
       rw [Int.mul_assoc,← Int.pow_add,show (dyE x-e).toNat+(e+65536).toNat=(dyE x+65536).toNat by omega,hodx]
      have hb11:=q44 hlf;refine wk1 (x4 hxi q1 q2 hsh) ?_;refine ⟨(i+1,tot+od x*(2:Int) ^ (dyE x-e).toNat,e),⟨by simp only; omega,he1,he2,by simp only; rw [hst,Int.add_mul,hs,hlf]⟩,by simp only; omega,?_⟩;simp only;refine LeM [] rfl rfl ?_;refine Zz ?_
      rfl
     ·have hsh:shI tot (e-dyE x)=tot*(2:Int) ^ (e-dyE x).toNat:=by unfold shI; rw [if_pos (by omega)]
      have hlf:tot*(2:Int) ^ (e-dyE x).toNat*(2:Int) ^ (dyE x+65536).toNat=q1I (l.take i):=by
       rw [Int.mul_assoc,← Int.pow_add,show (e-dyE x).toNat+(dyE x+65536).toNat=(e+65536).toNat by omega,hs]
      have hb11:=q44 hlf;refine wk1 (x4 hxi q1 q2 hsh) ?_;refine ⟨(i+1,tot*(2:Int) ^ (e-dyE x).toNat+od x,dyE x),⟨by simp only; omega,hd1,hd2,by simp only; rw [hst,Int.add_mul,hlf,hodx]⟩,by simp only; omega,?_⟩;simp only;refine LeM [] rfl rfl ?_;refine Zz ?_
      rfl
  ·obtain rfl:i=l.length:=by omega
   rw [List.take_length] at hs hbs hbt;have C1:=@q3a;have hmk:mkV tot e=some (q1I l):=by rw [q5a (by omega) hs]; exact q37 hv
   exact wk trivial
section
variable {a b m e V:Int} {f:FuncId} {al:List PV}
def qbU {s t:Bool} (hs:s=decide (a < 0)) (ht:t=decide (b < 0)) (ha:bl a.natAbs≤20000000) (hb:bl b.natAbs≤20000000):ACt 233 [sT s a,sT t b] (bT (a*b)):=B2 hs ht fun _ _ _ _ h h' hf=>qsJ h h' ha hb hf
def qc9 {s:Bool} (hs:s=decide (a < 0)) (ha:bl a.natAbs≤20000000):ACt 155 [sT s a] (iv (bl a.natAbs:Nat)):=B1c hs fun _ _ _ _ h _=>q5z h ha
def qoe {s:Bool} (hs:s=decide (a < 0)) (ha:bl a.natAbs≤20000000):ACt 151 [sT s a] (bT a.natAbs):=B1 hs fun _ _ _ h hf=>qeU h ha hf
def qoc {s:Bool} (hs:s=decide (a < 0)) (h0:0≤a) (ha:a≤9223372036854775807):ACt 211 [sT s a] (.tu [iv a,bv true]):=q1N (r:=.vl (.tuple #[.int .i64 a,.bool true])) (fun D w v h=>by
 rw [q6W h];unfold Rd;refine ⟨_,rfl,?_⟩;unfold RdL;exact ⟨_,_,rfl,q3O,RdL.one q3O⟩) (B1c hs fun _ _ _ _ h hf=>qsK h h0 ha hf)
def q8X {z:Int} (h1 : -9223372036854775808≤z) (h2:z≤9223372036854775807) (hv:mkV z 0=some V):ACt 91 [iv z] (pV V):=by
 have hz:bl z.natAbs≤64:=q0T (Nat.lt_of_le_of_lt (show z.natAbs≤9223372036854775808 by omega) (by decide));have C1:=@q8m;have C2:=@q3a;refine ac0 Tryz.func91 Tryz.ntmps91 [.cell 2 74] ?_;exact wk trivial
def qnH (hv:mkV (a*b) (-131072)=some V):ACt 173 [pV a,pV b] (pV V):=ac_2 (by kernel_rfl) fun ⟨ha,hb⟩=>by
 obtain ⟨ha1,ha2,ha3⟩:=q1L ha;obtain ⟨hb1,hb22,hb33⟩:=q1L hb;have hmul:=q2K (od a).natAbs (od b).natAbs;rw [← Int.natAbs_mul] at hmul;have C1:=q1P ha;have C4:=q1P hb;have C2:=@qbU;have C3:=q3a (m:=od a*od b) (e:=dyE a+dyE b) rfl Oq Oq Oq ((qef a b).trans hv);refine ac0 Tryz.func173 Tryz.ntmps173 [.cell 4 74] ?_;exact wk trivial
def od_sg {V:Int} (hz:V≠0):((od V).sign == 0)=false:=by
 have hod:=q3c hz
 rcases Int.lt_or_gt_of_ne hod with h | h
 ·rw [Int.sign_eq_neg_one_of_neg h]; rfl
 ·rw [Int.sign_eq_one_of_pos h]; rfl
def ac_1x {x r:PV} (hc:q0C Tryz.prog f=true) (ha:q0k V→ACt f [dT V,x] r):ACt f [pV V,x] r:=q6V hc (fun D w vs hR=>by
 obtain ⟨a,b,rfl,h1,h2⟩:=q6Y hR;obtain ⟨h3,h4⟩:=q2q.2 (q2z h1);refine ⟨?_,h4⟩;unfold RdL;exact ⟨_,_,rfl,h3,RdL.one h2⟩) ha
end
section
variable {f:Nat} {neg:Bool}
def q4k (hf:f < 9223372036854775808):ACt 212 [bv neg,uv f] (uv (sb neg f:Nat)):=by
 have h:=qe2 hf;refine ac0 Tryz.func212 Tryz.ntmps212 [.tmp 4] ?_;cases neg
 ·exact wk1 (show sb false f=f from rfl) trivial
 ·exact wk1 (x2 h (show sb true f=f+9223372036854775808 from rfl)) trivial
def qiC {mode:Int}:ACt 209 [bv neg,iv mode] (uv (qhE mode neg:Nat)):=by
 have C1:=q4k (f:=9218868437227405312) (neg:=neg) Oq;have C2:=q4k (f:=9218868437227405311) (neg:=neg) Oq;have e:qhE mode neg=sb neg (if mode=3∨mode=1∧neg=false∨mode=2∧neg=true then 9218868437227405311 else 9218868437227405312):=by
  unfold qhE;cases neg <;> simp <;> split <;> rfl
 rw [e];clear e;refine ac0 Tryz.func209 Tryz.ntmps209 [.tmp 4] ?_
 by_cases m3:mode=3
 ·rw [if_pos (.inl m3)];exact wk trivial
 ·by_cases m1:mode=1
  ·have m2:mode≠2:=by omega
   cases neg
   ·rw [if_pos (.inr (.inl ⟨m1,rfl⟩))];exact wk trivial
   ·rw [if_neg (by simp [m1])];exact wk trivial
  ·by_cases m2:mode=2
   ·cases neg
    ·rw [if_neg (by simp [m2])];exact wk trivial
    ·rw [if_pos (.inr (.inr ⟨m2,rfl⟩))];exact wk trivial
   ·rw [if_neg (by simp [m1,m2,m3])];exact wk trivial
def q95 (hf:f < 18446744073709551616):ACt 42 [uv f] (bv (decide (q0Y f))):=by
 have h1:=q48 (a:=f / 4503599627370496) Oq;have h2:(((f / 4503599627370496 % 2048:Nat):Int) != 2047)=decide (q0Y f):=qu4 (b:=2047);refine ac0 Tryz.func42 Tryz.ntmps42 [.tmp 2] ?_;exact wk1 (x2 h1 h2) trivial
end
def qbN (q:Int) (n:Nat) (h1:0≤q+1075) (h2:¬ 2047≤q+1075) (h3:4503599627370496≤n) (h4:n < 9007199254740992):∃ x:Nat,q+1075=x∧(q+1075).toNat=x∧IntKind.u64.wrap (x:Int)=x∧(q0z Tryz.prog .shl 30 (.int .u64 (x:Int)) (.int .u64 52)=some (.int .u64 ((x*4503599627370496:Nat):Int)))∧IntKind.u64.wrap ((n:Int)-4503599627370496)=((n-4503599627370496:Nat):Int)∧q0y .or .u64 ((x*4503599627370496:Nat):Int) ((n-4503599627370496:Nat):Int)=((x*4503599627370496+(n-4503599627370496):Nat):Int)∧x*4503599627370496+(n-4503599627370496) < 9223372036854775808 :=
 ⟨(q+1075).toNat,by omega,rfl,u64_in (by omega) (by omega),qaf (by omega),by rw [u64_in (by omega) (by omega)]; omega,qkm (by omega) (by omega),by omega⟩
def q5x {N M:Nat} {neg more s:Bool} {mode e:Int} (hs:s=decide (((N / M:Nat):Int) < 0)) (hM:0 < M) (hN:M≤N) (hm:more=decide (N % M≠0)) (hmb:more=true→55≤bl (N / M)) (hb:bl (N / M)≤200000) (he1 : -200000≤e) (he2:e≤200000) :
  ACt 152 [bv neg,sT s (N / M:Nat),iv e,bv more,iv mode] (uv (rE mode neg N M e:Nat)):=by
 obtain rfl:s=false:=hs.trans negN;have hp:=Nat.div_pos hN hM;have hL1:=q45 (n:=N / M) Oq;have C1:=@qc9;have C3:=@q6P;have C4:=@qoc;have C5:=@q4k;have C6:=@qiC
 by_cases ht:1024≤e+(bl (N / M):Int)-1
 ·rw [qnL (mode:=mode) (neg:=neg) hM hN (e:=e) ht];obtain ⟨L,hL⟩:∃ L,bl (N / M)=L:=⟨_,rfl⟩;rw [hL] at ht hb hL1;refine ac0 Tryz.func152 Tryz.ntmps152 [.tmp 10] ?_;exact wk1 hL trivial
 ·have hval:=qeR (mode:=mode) (neg:=neg) (e:=e) hM hN;have hnle:=qnN (mode:=mode) (neg:=neg) (e:=e) (q:=max (e+(bl (N / M):Int)-53) (-1074)) hM hN Oq;obtain ⟨L,hL⟩:∃ L,bl (N / M)=L:=⟨_,rfl⟩;rw [hL] at hmb hb hval hnle hL1 ht;obtain ⟨q,hq⟩:∃ q,max (e+(L:Int)-53) (-1074)=q:=⟨_,rfl⟩;rw [hq] at hval hnle;have hq':max (e+(L:Int)-1-52) (-1074)=q:=by omega
  have C2:=fun h:e≤q=>qod (neg:=neg) (mode:=mode) (k:=(q-e).toNat) negN.symm hM hm (fun h=>by have:=hmb h; omega) Oq Oq;have hr2:q < e→shI ((N / M:Nat):Int) (e-q)=(rq mode neg (N*2 ^ (e-q).toNat) (M*2 ^ (q-e).toNat):Nat):=fun hqe=>by
   have hmo:N % M=0:=by
    cases more
    ·simpa using hm.symm
    ·have:=hmb rfl; omega
   have hd:N=N / M*M:=by have:=Nat.div_add_mod N M; rw [Nat.mul_comm] at this; omega
   rw [show (q-e).toNat=0 by omega,Nat.pow_zero,Nat.mul_one];unfold shI;rw [if_pos (by omega),q54 (by rw [hd,Nat.mul_right_comm]; exact Nat.mul_mod_left _ _)]
   conv=>rhs; rw [hd,Nat.mul_right_comm,Nat.mul_div_cancel _ hM]
   rw [Int.natCast_mul,q1E]
  have hr3:e≤q→N*2 ^ (e-q).toNat=N:=fun h=>by rw [show (e-q).toNat=0 by omega,Nat.pow_zero,Nat.mul_one]
  obtain ⟨r,hr⟩:∃ r,rq mode neg (N*2 ^ (e-q).toNat) (M*2 ^ (q-e).toNat)=r:=⟨_,rfl⟩;rw [hr] at hval hnle hr2;have hbr:bl r≤54:=q0T (Nat.lt_of_le_of_lt hnle (by decide));have C2':e≤q→ACt _ _ (bT r):=fun h=>by
   have:=C2 h;rw [← hr3 h,hr] at this
   rwa [hr3 h] at this
  rw [hval];generalize N / M=d at *;clear hval hr hr3 C2 hm hmb;unfold Go.Sp.fin Go.Sp.fin2;refine ac0 Tryz.func152 Tryz.ntmps152 [.tmp 10] ?_;refine wk1 (x2 hL hq') ?_;refine A_jn fun K hK=>?_;have fin0:∀ (s:Nat→PV) (h:Hp),s 0=bv neg→s 4=iv mode→s 12=iv q→s 13=.pt 13 0 0→h 13=some ⟨72,some 2,[bT r],false⟩→K s h:=by
   intro s h s0 s4 s12 s13 h13;refine hK _ _ ?_; clear hK K;have e2:IntKind.u64.wrap ((r:Nat):Int)=r:=u64_in Oq Oq
   by_cases h53:r=9007199254740992
   ·rw [if_pos h53,if_neg (by omega)]
    by_cases hov:2047≤q+1+1075
    ·rw [if_pos hov];exact wk1 (x6 s0 s4 s12 s13 h13 h53) trivial
    ·rw [if_neg hov];obtain ⟨x,f1,f2,f3,f4,f5,f6,f7⟩:=qbN (q+1) 4503599627370496 Oq hov Oq Oq;rw [f2,Nat.sub_self,Nat.add_zero];rw [Nat.sub_self,Nat.add_zero] at f6 f7;replace f6:q0y .or .u64 ((x*4503599627370496:Nat):Int) 0=((x*4503599627370496:Nat):Int):=f6;replace f5:IntKind.u64.wrap 0=0:=f5;have f8:IntKind.i64.wrap (4503599627370496-4503599627370496)=0:=rfl;exact wk1 (x6 s0 s4 s12 s13 h13 (x6 h53 f1 f3 f4 f5 (x2 f6 f8))) trivial
   ·rw [if_neg h53]
    by_cases h52:r < 4503599627370496
    ·rw [if_pos h52];exact wk1 (x6 s0 s4 s12 s13 h13 e2) trivial
    ·rw [if_neg h52]
     by_cases hov:2047≤q+1075
     ·rw [if_pos hov];exact wk1 (x6 s0 s4 s12 s13 h13 e2) trivial
     ·rw [if_neg hov];obtain ⟨x,f1,f2,f3,f4,f5,f6,f7⟩:=qbN q r Oq hov Oq Oq;rw [f2];exact wk1 (x6 s0 s4 s12 s13 h13 (x6 e2 f1 f3 f4 f5 f6)) trivial
  by_cases hqe:e≤q
  ·have C2:=C2' hqe;obtain ⟨k,f0⟩:∃ k:Nat,q-e=(k:Int):=⟨(q-e).toNat,by omega⟩;rw [show (q-e).toNat=k by omega] at C2;refine wk1 f0 ?_;refine fin0 _ _ ?_ ?_ ?_ ?_ ?_ <;> simp -implicitDefEqProofs (disch:=omega) only [go_sem,Nat.reduceEqDiff,Nat.reduceAdd,↓reduceIte,f0]
  ·have f0:=hr2 Oq;refine wk1 f0 ?_;refine fin0 _ _ ?_ ?_ ?_ ?_ ?_ <;> simp -implicitDefEqProofs (disch:=omega) only [go_sem,Nat.reduceEqDiff,Nat.reduceAdd,↓reduceIte,f0]
def qdV {V mode:Int} (ho:q0k V):ACt 94 [dT V,iv mode] (uv (fR mode V:Nat)):=by
 obtain ⟨hd1,hd2,hd3⟩:=q1L ho;have C1:=q1P ho;have C2:=@q7d;have C3:=@qoe;refine ac0 Tryz.func94 Tryz.ntmps94 [.tmp 4] ?_
 by_cases hz:V=0
 ·have q1:((od V).sign == 0)=true:=by rw [hz]; rfl
  rw [show ((fR mode V:Nat):Int)=0 by rw [show fR mode V=0 from if_pos hz]; rfl];exact wk1 q1 trivial
 ·have q1:=od_sg hz;have hod:=q3c hz;have C4:=q5x (N:=(od V).natAbs) (M:=1) (neg:=decide (od V < 0)) (more:=false) (s:=false) (mode:=mode) (e:=dyE V) negN.symm Nat.one_pos (by omega) (by rw [Nat.mod_one]; rfl) (fun h=>by cases h) (by rw [Nat.div_one]; omega) (by omega) (by omega);rw [Nat.div_one,rE_V hz,q1u,show rF mode (decide (V < 0)) V.natAbs (2 ^ 65536)=fR mode V from (if_neg hz).symm] at C4;rw [← q1u] at C4;exact wk1 q1 trivial
def q8U {V mode:Int}:ACt 94 [pV V,iv mode] (uv (fR mode V:Nat)):=ac_1x (by kernel_rfl) fun ho=>qdV ho
def q6g {z V mode:Int} (h1 : -9223372036854775808≤z) (h2:z≤9223372036854775807) (hv:mkV z 0=some V):ACt 34 [iv z,iv mode] (uv (fR mode V:Nat)):=by
 have C1:=q8X h1 h2 hv;have C2:=q8U (V:=V) (mode:=mode);refine ac0 Tryz.func34 Tryz.ntmps34 [.tmp 4] ?_;exact wk trivial
def q6k {a:Int} {n:Nat} (h1 : -9223372036854775808≤a) (h2:a≤9223372036854775807) (hn:0 < n) (hn2:n≤9223372036854775807):ACt 25 [iv a,iv n] (iv (q19 a n:Nat)):=by
 have e1:IntKind.u64.wrap a=a % 18446744073709551616:=q1O a;have e2:IntKind.u64.wrap (n:Int)=n:=u64_in Oq Oq;have e3:¬ ((n:Int)=0):=by omega
 have hlt:=q70 (a:=a) hn;have e4:(a % 18446744073709551616).tmod (n:Int)=((q19 a n:Nat):Int):=by
  unfold q19;rw [Int.tmod_eq_emod_of_nonneg (by omega),Int.natCast_emod]
  congr 1; omega
 refine ac0 Tryz.func25 Tryz.ntmps25 [.tmp 4] ?_;exact wk1 (x4 e1 e2 e3 e4) trivial
def q9J {raw:List Nat} {k:Int} (hr:raw.length≤9223372036854775807) (h1 : -9223372036854775808≤k) (h2:k≤9223372036854775807):ACt 13 [pF raw,iv k] (uv (q5H raw k:Nat)):=by
 rw [q8D raw k];unfold q9K qmQ qmR;have q1:∀ x:Int,q0z Tryz.prog .shr 29 (.int .u64 x) (.int .u64 31)=some (.int .u64 (x.fdiv (2 ^ 31))):=fun x=>by rw [q2L,if_neg (by omega)]; rfl
 have q2:∀ x:Int,q0z Tryz.prog .shr 29 (.int .u64 x) (.int .u64 29)=some (.int .u64 (x.fdiv (2 ^ 29))):=fun x=>by rw [q2L,if_neg (by omega)]; rfl
 refine ac0 Tryz.func13 Tryz.ntmps13 [.tmp 4] ?_
 by_cases h0:raw.length=0
 ·rw [if_pos h0];exact wk1 (x2 q1 q2) trivial
 ·rw [if_neg h0];have C1:=q6k (n:=raw.length) h1 h2 Oq hr;have hlt:=q70 (a:=k) (n:=raw.length) Oq;have hx:raw[q19 k raw.length]?=some (raw.getD (q19 k raw.length) 0):=by rw [List.getD_eq_getElem?_getD,List.getElem?_eq_getElem hlt]; rfl
  generalize raw.getD (q19 k raw.length) 0=x at *;generalize q19 k raw.length=m at *;exact wk1 (x3 hx q1 q2) trivial
def qhj {x:Nat} (hx:x < 18446744073709551616):ACt 43 [uv x] (uv (flz (q4h x):Nat)):=by
 have hs:=q7L x;have e1:((x:Nat):Int).tmod 19=((x % 19:Nat):Int):=rfl;have e3:IntKind.i64.wrap (((x % 19:Nat):Int)-9)=q4h x:=by rw [i64_in (by omega) (by omega)]; rfl
 have hb:bl (q4h x).natAbs≤4:=q0T (show (q4h x).natAbs < 2 ^ 4 by omega);have C1:=q6g (z:=q4h x) (mode:=0) Oq Oq (q9d Oq);rw [show fR 0 (q4h x*2 ^ 65536)=flz (q4h x) from rfl] at C1;generalize flz (q4h x)=y at *;refine ac0 Tryz.func43 Tryz.ntmps43 [.tmp 2] ?_;exact wk1 (x2 e1 e3) trivial
def qkq {x:Nat} {st:Int} (hx:x < 18446744073709551616) (h1 : -9223372036854775808≤st) (h2:st≤9223372036854775807):ACt 12 [uv x,iv st] (uv (q2s (q19 st 4) x:Nat)):=by
 have C1:=q6k (n:=4) h1 h2 Oq Oq;have hm4:q19 st 4 < 4:=by unfold q19; omega
 generalize q19 st 4=m at *
 rcases (by omega:m=1∨m=2∨m=3∨m=0) with h | h | h | h <;> subst h
 ·have a1:q0y .and .u64 (x:Int) 9227875636482146303=((x &&& 9227875636482146303:Nat):Int):=q4a hx (b:=9227875636482146303) Oq;have a2:q0y .and .u64 ((x / 4503599627370496:Nat):Int) 7=((x / 4503599627370496 % 8:Nat):Int):=by
   have:=q4a (a:=x / 4503599627370496) (b:=7) Oq Oq;rw [show x / 4503599627370496 &&& 7=x / 4503599627370496 % 8 from Nat.and_two_pow_sub_one_eq_mod _ 3] at this;exact this
  obtain ⟨e,he⟩:∃ e,e=x / 4503599627370496 % 8:=⟨_,rfl⟩;rw [← he] at a2;have a3:IntKind.u64.wrap (1019+(e:Int))=((1019+e:Nat):Int):=by rw [u64_in (by omega) (by omega)]; omega
  have a4':IntKind.u64.wrap (((1019+e:Nat):Int)*2 ^ min (Int.toNat 52) 64)=(((1019+e)*4503599627370496:Nat):Int):=by
   rw [show (2:Int) ^ min (Int.toNat 52) 64=4503599627370496 from rfl,u64_in (by omega) (by omega)]; omega
  have ha:x &&& 9227875636482146303 < 18446744073709551616:=Nat.lt_of_le_of_lt Nat.and_le_left hx;have a5:q0y .or .u64 ((x &&& 9227875636482146303:Nat):Int) (((1019+e)*4503599627370496:Nat):Int)=((q2s 1 x:Nat):Int):=by
   rw [qcR ha (by omega),he,num_1 hx]
  generalize q2s 1 x=r at *;generalize x &&& 9227875636482146303=y at *;refine ac0 Tryz.func12 Tryz.ntmps12 [.tmp 4] ?_;exact wk1 (x5 a1 a2 a3 a4' a5) trivial
 ·have a1:q0y .and .u64 (x:Int) 9225623836668461056=((x &&& 9225623836668461056:Nat):Int):=q4a hx (b:=9225623836668461056) Oq;obtain ⟨e,he⟩:∃ e,e=x / 256 % 81:=⟨_,rfl⟩;have a0:Int.fdiv (x:Int) (2 ^ min (Int.toNat 8) 64)=((x / 256:Nat):Int):=by
   rw [show (2:Int) ^ min (Int.toNat 8) 64=((256:Nat):Int) from rfl,Int.fdiv_eq_ediv_of_nonneg _ (by omega)]; rfl
  have a2:Int.tmod ((x / 256:Nat):Int) 81=(e:Int):=by rw [he]; rfl
  have a3:IntKind.u64.wrap (983+(e:Int))=((983+e:Nat):Int):=by rw [u64_in (by omega) (by omega)]; omega
  have a4:IntKind.u64.wrap (((983+e:Nat):Int)*2 ^ min (Int.toNat 52) 64)=(((983+e)*4503599627370496:Nat):Int):=by
   rw [show (2:Int) ^ min (Int.toNat 52) 64=4503599627370496 from rfl,u64_in (by omega) (by omega)]; omega
  have ha:x &&& 9225623836668461056 < 18446744073709551616:=Nat.lt_of_le_of_lt Nat.and_le_left hx;have a5:q0y .or .u64 ((x &&& 9225623836668461056:Nat):Int) (((983+e)*4503599627370496:Nat):Int)=((q2s 2 x:Nat):Int):=by
   rw [qcR ha (by omega),he,num_2 hx]
  generalize q2s 2 x=r at *;generalize x &&& 9225623836668461056=y at *;generalize x / 256=z at *;refine ac0 Tryz.func12 Tryz.ntmps12 [.tmp 4] ?_;exact wk1 (x6 a0 a1 a2 a3 a4 a5) trivial
 ·have C2:=q95 hx;refine ac0 Tryz.func12 Tryz.ntmps12 [.tmp 4] ?_
  by_cases hfi:q0Y x
  ·rw [show q2s 3 x=x by unfold q0Y at hfi; simp [q2s,hfi]];rw [decide_eq_true hfi] at C2;exact wk trivial
  ·rw [show ((q2s 3 x:Nat):Int)=0 by rw [show q2s 3 x=0 by unfold q0Y at hfi; simp [q2s]; omega]; rfl];rw [decide_eq_false hfi] at C2;exact wk trivial
 ·have C2:=qhj hx;rw [show flz (q4h x)=q2s 0 x by simp [q2s]] at C2;generalize q2s 0 x=r at *;refine ac0 Tryz.func12 Tryz.ntmps12 [.tmp 4] ?_;exact wk trivial
def qs6 (V:Int):(od V).sign=V.sign:=by
 conv=>rhs; rw [← q1z V,Int.sign_mul,Int.sign_eq_one_of_pos (q08 _),Int.mul_one]
section
variable {a b m e V:Int}
def q4C {s:Bool} (hs:s=decide (a < 0)) (ha:bl a.natAbs≤10000000) (h1 : -1048576≤m) (h2:m≤1048576):ACt 193 [sT s a,iv m] (bT (shI a m)):=by
 have C1:=@q89;refine ac0 Tryz.func193 Tryz.ntmps193 [.cell 4 72] ?_;exact wk trivial
def q8C {s:Bool} {N:Nat} (hs:s=decide (a < 0)) (ha:bl a.natAbs≤10000000) (hn:N≤1048576):ACt 237 [sT s a,iv N] (bT (shI a (-(N:Int)))):=by
 have C1:=@q89;refine ac0 Tryz.func237 Tryz.ntmps237 [.cell 4 72] ?_;refine wk ?_;refine q0L (fun _:Unit=>True) [1,2,4] [2,4] Lk Lk (fun _=>[]) (fun _=>[]) (fun _=>0) () trivial ?_ ?_
 ·refine LeM [] rfl rfl ?_;exact Zy
 ·intro _ _;exact wk1 @Int.zero_sub trivial
def qse {D:Nat→Prop} {v:Value} {w:World} (h:Rd w D (.ag [bv false,bv false,q6Z,iv 0]) (fun _=>none) h0 v):Rd w D (dT 0) (fun _=>none) h0 v:=by
 unfold Rd at h;obtain ⟨vs,rfl,h1⟩:=h;obtain ⟨_,_,_,_,rfl,h2,h3,h4,h5⟩:=rd_4 h1;rw [q6W h2,q6W h3,q6W h4,q6W h5];have h6:In (fV 0) D (.agg #[.bool false,.bool false,.slice none 0 0,.int .i64 0]) w:=⟨false,none,0,0,rfl,⟨rfl,U32.nil⟩,by simp [q0k,q1c]⟩;exact (q2q.2 h6).1
def qqc {s:Bool} (hs:s=decide (m < 0)) (hb:bl m.natAbs≤1000000) (he1 : -1000000≤e) (he2:e≤1000000) (hv:mkV m e=some V):ACt 175 [.ag [bv false,bv s,.fm (fL m),iv e]] (.tu [dT V,bv true]):=by
 have C1:=@qia;have C2:=@q4R
 by_cases hz:m=0
 ·obtain rfl:V=0:=by rw [hz,q2R] at hv; exact (Option.some.inj hv).symm
  refine q1N (r:=.tu [.ag [bv false,bv false,q6Z,iv 0],bv true]) (fun D w v h=>?_) ?_
  ·unfold Rd at h ⊢;obtain ⟨vs,rfl,h1⟩:=h;obtain ⟨_,_,rfl,h2,h3⟩:=q6Y h1;refine ⟨_,rfl,?_⟩;unfold RdL;exact ⟨_,_,rfl,qse h2,RdL.one h3⟩
  ·have e1:(m.sign == 0)=true:=by rw [hz]; rfl
   refine ac0 Tryz.func175 Tryz.ntmps175 [.cell 2 74,.tmp 3] ?_;exact wk1 e1 trivial
 ·have hz':(m.sign == 0)=false:=by
   rw [beq_eq_false_iff_ne]; intro h0; exact hz (Int.sign_eq_zero_iff_zero.1 h0)
  obtain ⟨hv1,hv2,hv3⟩:=q71 hz hv;obtain ⟨hv4,hv5,_,hv6⟩:=q5C hv;have htl:=qh3 (n:=m.natAbs) Oq;have hbo:=qaG hz;have C3:=@qlE;have C4:=@q39;have C5:=@q8C;have f1:=(qmp m).trans hv4.symm;have f2:=(hv5 hz).2.symm;refine ac0 Tryz.func175 Tryz.ntmps175 [.cell 2 74,.tmp 3] ?_;exact wk1 (x3 hz' f1 f2) trivial
def qbt (hV:q0k V):ACt 175 [dT V] (.tu [dT V,bv true]):=by
 obtain ⟨h1,h2,h3⟩:=q1L hV;exact qqc rfl Oq Oq Oq (qau hV)
def q6w (hV:q0k V):ACt 124 [dT V] (dT V):=by
 have C1:=qbt hV;refine ac0 Tryz.func124 Tryz.ntmps124 [.cell 2 74] ?_;exact wk trivial
def q2k (hV:q0k V):ACt 117 [dT V] (iv V.sign):=by
 have C1:=qbt hV;have C2:=@q4R;have:=(q1L hV).2.2;refine ac0 Tryz.func117 Tryz.ntmps117 [.tmp 2] ?_;exact wk1 (qs6 V) trivial
def qdC (hV:q0k V):ACt 133 [dT V] (dT (-V)):=by
 have C1:=qbt hV;have C2:=@q9l;have:=(q1L hV).2.2;have f1:=(qko V).symm;have f2:=qfu V;refine ac0 Tryz.func133 Tryz.ntmps133 [.cell 2 74] ?_;exact wk1 (x2 f1 f2) trivial
def q5W {s:Bool} (hs:s=decide (m < 0)) (hb:bl m.natAbs≤1000000) (he1 : -1000000≤e) (he2:e≤1000000) (hv:mkV m e=some V):ACt 132 [sT s m,iv e] (dT V):=by
 have C1:=qqc hs hb he1 he2 hv;refine ac0 Tryz.func132 Tryz.ntmps132 [.cell 4 74] ?_;exact wk trivial
def qdA (ha:q0k a) (hb:q0k b):ACt 198 [dT a,dT b] (.tu [dT a,dT b,bv true]):=by
 have C1:=qbt ha;have C2:=qbt hb;refine ac0 Tryz.func198 Tryz.ntmps198 [.cell 4 74,.cell 5 74,.tmp 6] ?_;exact wk trivial
def q5j (ha:q0k a) (hb:q0k b) (hv:mkV (a*b) (-131072)=some V):ACt 134 [dT a,dT b] (dT V):=by
 obtain ⟨ha1,ha2,ha3⟩:=q1L ha;obtain ⟨hb1,hb22,hb33⟩:=q1L hb;have hmul:=q2K (od a).natAbs (od b).natAbs;rw [← Int.natAbs_mul] at hmul;have C1:=qdA ha hb;have C2:=@qoB;have C3:=q5W (m:=od a*od b) (e:=dyE a+dyE b) rfl Oq Oq Oq ((qef a b).trans hv);refine ac0 Tryz.func134 Tryz.ntmps134 [.cell 4 74] ?_;exact wk trivial
end
abbrev reT (neg:Bool) (q:Nat) (e:Int) (inx:Bool):PV:=.ag [bv neg,bv false,.fm (fL q),iv e,bv inx]
section
variable {neg inx:Bool} {q k:Nat} {e p:Int}
def qhS (hb:bl q≤1000000) (he1 : -1000000≤e) (he2:e≤1000000):ACt 185 [reT neg q e inx] (iv (e+bl q-1)):=by
 have C1:=@q39;refine ac0 Tryz.func185 Tryz.ntmps185 [.tmp 2] ?_;exact wk trivial
def qmO (hq:q≠0) (hb:bl q≤1000000) (hk:0 < k) (hk2:k≤5000000):ACt 240 [reT neg q e inx,iv k] (.tu [bT (q / 2 ^ k:Nat),iv (Go.Sp.hf q k inx),bv (decide (q % 2 ^ k=0) && !inx)]):=by
 have C1:=@q39
 by_cases hkb:bl q < k
 ·have hqp:=q2w q;have hp1:2 ^ bl q≤2 ^ (k-1):=Nat.pow_le_pow_right Oq Oq;have hp2:2 ^ (k-1)≤2 ^ k:=Nat.pow_le_pow_right Oq Oq;have hmod:q % 2 ^ k=q:=Nat.mod_eq_of_lt Oq;have hdiv:q / 2 ^ k=0:=Nat.div_eq_of_lt Oq;have hhf:Go.Sp.hf q k inx = -1:=by
   unfold Go.Sp.hf;have:(((q % 2 ^ k:Nat):Int)-2 ^ (k-1)).sign = -1:=by
    refine Int.sign_eq_neg_one_of_neg ?_;rw [hmod,← q1E]; omega
   rw [this]; simp
  have hex:(decide (q % 2 ^ k=0) && !inx)=false:=by rw [hmod,decide_eq_false hq]; rfl
  rw [hdiv,hhf,hex];refine ac0 Tryz.func240 Tryz.ntmps240 [.cell 4 72,.tmp 5,.tmp 6] ?_;exact wk trivial
 ·have C2:=@q8C;have C3:=@q4C;have C4:=@qny;have C5:=@q3w;have C6:=@qoD;have C7:=@q4R;have hsh:shI ((q:Nat):Int) (-(k:Int))=((q / 2 ^ k:Nat):Int):=by
   unfold shI; rw [if_neg (by omega),show (- -(k:Int)).toNat=k by omega,← q1E]; rfl
  have hql:bl (q / 2 ^ k)≤1000000:=Nat.le_trans (q0d (Nat.div_le_self _ _)) hb;have hsl:shI ((q / 2 ^ k:Nat):Int) (k:Int)=((q / 2 ^ k*2 ^ k:Nat):Int):=by
   unfold shI; rw [if_pos (by omega),Int.toNat_natCast,← q1E]; simp
  have hbm:bl (q / 2 ^ k*2 ^ k)≤1000000:=Nat.le_trans (q0d (Nat.div_mul_le_self _ _)) hb;have hrs:((q:Nat):Int)-((q / 2 ^ k*2 ^ k:Nat):Int)=((q % 2 ^ k:Nat):Int):=by
   have:=Nat.div_add_mod q (2 ^ k);rw [Nat.mul_comm] at this; omega
  have hbr:bl (q % 2 ^ k)≤1000000:=Nat.le_trans (q0d (Nat.mod_le _ _)) hb;have hs1:shI 1 ((k:Int)-1)=(2:Int) ^ (k-1):=by
   unfold shI; rw [if_pos (by omega),show ((k:Int)-1).toNat=k-1 by omega,Int.one_mul]
  have hb1:bl ((2:Int) ^ (k-1)).natAbs≤k:=by
   rw [q6j]; exact q0T (Nat.pow_lt_pow_right (by omega) (by omega))
  have hb2:bl (1:Int).natAbs≤1:=by show bl 1≤_; rw [q6S]; omega
  have sE:(((q % 2 ^ k:Nat):Int).sign == 0)=decide (q % 2 ^ k=0):=by
   by_cases h0:q % 2 ^ k=0
   ·rw [h0]; rfl
   ·rw [decide_eq_false h0,beq_eq_false_iff_ne];intro h; exact h0 (by have:=Int.sign_eq_zero_iff_zero.1 h; omega)
  have hhf:Go.Sp.hf q k inx=if (((q % 2 ^ k:Nat):Int)-2 ^ (k-1)).sign=0∧inx=true then 1 else (((q % 2 ^ k:Nat):Int)-2 ^ (k-1)).sign:=rfl
  rw [hhf];generalize hr:q % 2 ^ k=r at *;generalize hz:q / 2 ^ k=z at *;generalize hw:z*2 ^ k=zw at *;generalize hP:(2:Int) ^ (k-1)=P at *;refine ac0 Tryz.func240 Tryz.ntmps240 [.cell 4 72,.tmp 5,.tmp 6] ?_;refine wk1 (x4 hsh hsl hrs hs1) ?_
  by_cases hS:((r:Int)-P).sign=0
  ·rw [hS];cases inx
   ·rw [if_neg fun h=>Bool.noConfusion h.2]
    by_cases h0:r=0
    ·exact wk1 (x2 sE (decide_eq_true h0)) trivial
    ·exact wk1 (x2 sE (decide_eq_false h0)) trivial
   ·rw [if_pos ⟨rfl,rfl⟩]
    by_cases h0:r=0
    ·exact wk1 (x2 sE (decide_eq_true h0)) trivial
    ·exact wk1 (x2 sE (decide_eq_false h0)) trivial
  ·rw [if_neg fun h=>hS h.1]
   by_cases h0:r=0
   ·exact wk1 (x2 sE (decide_eq_true h0)) trivial
   ·exact wk1 (x2 sE (decide_eq_false h0)) trivial
def qhR (hq:q≠0) (hb:bl q≤900000) (he1 : -900000≤e) (he2:e≤900000) (hp1 : -100000≤p) (hp2:p≤1000000):ACt 188 [reT neg q e inx,iv p,iv 0] (bT (sgn neg (qnd q e p inx))):=by
 have C1:=@q4C;have C2:=@q9l;have s0:∀ n:Nat,sgn false n=n:=fun n=>rfl;have s1:∀ n:Nat,sgn true n = -(n:Int):=fun n=>rfl
 by_cases hpe:p≤e
 ·have hsl:shI ((q:Nat):Int) (e-p)=((q*2 ^ (e-p).toNat:Nat):Int):=by
   unfold shI; rw [if_pos (by omega),← q1E]; simp
  have hbq:bl (q*2 ^ (e-p).toNat)≤2000000:=by rw [q1i hq]; omega
  rw [show qnd q e p inx=q*2 ^ (e-p).toNat from if_pos hpe];generalize q*2 ^ (e-p).toNat=z at *;refine ac0 Tryz.func188 Tryz.ntmps188 [.cell 6 72] ?_;cases neg
  ·exact wk1 (x2 hsl s0) trivial
  ·exact wk1 (x2 hsl s1) trivial
 ·obtain ⟨k,hk⟩:∃ k:Nat,p-e=k:=⟨(p-e).toNat,by omega⟩;have hbq:bl (q / 2 ^ k)≤2000000:=Nat.le_trans (q0d (Nat.div_le_self _ _)) Oq;have C3:=qmO (neg:=neg) (inx:=inx) (e:=e) (q:=q) (k:=k) hq Oq Oq Oq;have C4:=@q3w;have C5:=@q9m;have C6:=@q4R;have C7:=@qlE;have hb2:bl (1:Int).natAbs≤1:=by show bl 1≤_; rw [q6S]; omega
  have hm:qnd q e p inx=q / 2 ^ k+(if ¬ (q % 2 ^ k=0∧inx=false)∧(0 < Go.Sp.hf q k inx∨(Go.Sp.hf q k inx=0∧q / 2 ^ k % 2=1)) then 1 else 0):=by
   unfold qnd; rw [if_neg hpe,show (p-e).toNat=k by omega]
  generalize qnd q e p inx=m at *;generalize Go.Sp.hf q k inx=H at *;generalize hr:q % 2 ^ k=r at *;generalize hz:q / 2 ^ k=z at *;have hbz:bl ((z:Int)+1).natAbs≤2000001:=by
   have:=q3Y (k:=2000000) (a:=z) (b:=1) (by omega) (by rw [q6S]; omega);exact this
  have e2:((z+1:Nat):Int)=(z:Int)+1:=rfl;refine ac0 Tryz.func188 Tryz.ntmps188 [.cell 6 72] ?_
  by_cases hex:r=0∧inx=false
  ·have f:(decide (r=0) && !inx)=true:=by simp [hex]
   rw [if_neg fun h=>h.1 hex,Nat.add_zero] at hm;subst hm;cases neg
   ·exact wk1 (x3 hk f s0) trivial
   ·exact wk1 (x3 hk f s1) trivial
  ·have f:(decide (r=0) && !inx)=false:=by
    rw [Bool.and_eq_false_iff]
    by_cases h:r=0
    ·exact .inr (by cases inx <;> simp_all)
    ·exact .inl (decide_eq_false h)
   by_cases hh:0 < H
   ·rw [if_pos ⟨hex,.inl hh⟩] at hm;subst hm;cases neg
    ·exact wk1 (x4 hk f s0 e2) trivial
    ·exact wk1 (x4 hk f s1 e2) trivial
   ·by_cases h0:H=0
    ·by_cases hodd:z % 2=1
     ·rw [if_pos ⟨hex,.inr ⟨h0,hodd⟩⟩] at hm;subst hm;have q3:(((z:Nat):Int).sign != 0)=true:=by rw [Int.sign_eq_one_of_pos (by omega)]; rfl
      have q4:(((tz z:Nat):Int) == 0)=true:=by rw [qaY hodd]; rfl
      cases neg
      ·exact wk1 (x6 hk f q3 q4 s0 e2) trivial
      ·exact wk1 (x6 hk f q3 q4 s1 e2) trivial
     ·rw [if_neg fun h=>h.2.elim hh fun h=>hodd h.2,Nat.add_zero] at hm;subst hm
      by_cases hz0:m=0
      ·have q3:(((m:Nat):Int).sign != 0)=false:=by rw [hz0]; rfl
       cases neg
       ·exact wk1 (x4 hk f q3 s0) trivial
       ·exact wk1 (x4 hk f q3 s1) trivial
      ·have q3:(((m:Nat):Int).sign != 0)=true:=by rw [Int.sign_eq_one_of_pos (by omega)]; rfl
       have q4:(((tz m:Nat):Int) == 0)=false:=by
        rw [q8u];refine decide_eq_false fun h0=>hodd ?_;obtain ⟨r,hr,he⟩:=q3L hz0;rw [h0,Nat.pow_zero,Nat.mul_one] at he;omega
       cases neg
       ·exact wk1 (x5 hk f q3 q4 s0) trivial
       ·exact wk1 (x5 hk f q3 q4 s1) trivial
    ·rw [if_neg fun h=>h.2.elim hh fun h=>h0 h.1,Nat.add_zero] at hm;subst hm;cases neg
     ·exact wk1 (x3 hk f s0) trivial
     ·exact wk1 (x3 hk f s1) trivial
end
def qdB {a b:Int} (hA:q0k a) (hB:q0k b) (ha:a≠0) (hb:b≠0):∃ k:Nat,(bl (od b).natAbs+58 < bl ((od a).natAbs*2 ^ k)∧k≤140000∧bl ((od a).natAbs*2 ^ k)≤140000) ∧
  ACt 126 [dT a,dT b,iv 56] (reT (decide (a < 0) != decide (b < 0)) ((od a).natAbs*2 ^ k / (od b).natAbs) (dyE a-k-dyE b) (decide ((od a).natAbs*2 ^ k % (od b).natAbs≠0))):=by
 obtain ⟨ha1,ha2,ha3⟩:=q1L hA;obtain ⟨hb1,hb2,hb3⟩:=q1L hB;have hoa:=q3c ha;have hob:=q3c hb;rw [← q1u a,← q1u b];have C1:=@q39;have C2:=@q9n;have C3:=@q4C;have C4:=@qcZ;have C5:=@q4R;obtain ⟨p,hp⟩:∃ p,(od a).natAbs=p:=⟨_,rfl⟩;obtain ⟨r,hr⟩:∃ r,(od b).natAbs=r:=⟨_,rfl⟩;have hbp:=hp ▸ ha3;have hbr:=hr ▸ hb3;rw [hp,hr];have hp0:p≠0:=by omega
 have hr0:r≠0:=by omega
 obtain ⟨k,hk⟩:∃ k:Nat,max 0 (56+3+((bl r:Nat):Int)-((bl p:Nat):Int))=k:=⟨(max 0 (56+3+((bl r:Nat):Int)-((bl p:Nat):Int))).toNat,by omega⟩;have hbN:bl (p*2 ^ k)=bl p+k:=q1i hp0 k;refine ⟨k,⟨by omega,by omega,by omega⟩,?_⟩;have hsh:shI ((p:Nat):Int) (k:Int)=((p*2 ^ k:Nat):Int):=by
  unfold shI; rw [if_pos (by omega),Int.toNat_natCast,← q1E]; simp
 have hml:bl (p*2 ^ k % r)≤300000:=Nat.le_trans (q0d (Nat.mod_le _ _)) Oq;have sE:(((p*2 ^ k % r:Nat):Int).sign != 0)=decide (p*2 ^ k % r≠0):=by
  by_cases h0:p*2 ^ k % r=0
  ·rw [h0]; rfl
  ·rw [decide_eq_true h0,bne_iff_ne];intro h; exact h0 (by have:=Int.sign_eq_zero_iff_zero.1 h; omega)
 refine ac0 Tryz.func126 Tryz.ntmps126 [.cell 6 155] ?_;exact wk1 (x6 hp hr @qkt hk hsh sE) trivial
def clD {l:List Int}:ClL (l.map fun x=>dT x):=fun x hx=>by
 obtain ⟨z,_,rfl⟩:=List.mem_map.1 hx;intro y hy;simp at hy
 rcases hy with rfl | rfl | rfl | rfl <;> trivial
def q9H {l:List Int} (hn:l.length≤1000) (ho:∀ x ∈ l,q0k x) (hv:q0k (q1I l)):ACt 127 [.sl (some 4) (l.map fun V=>pV V)] (dT (q1I l)):=by
 refine ac0 Tryz.func127 Tryz.ntmps127 [.cell 2 74] ?_;refine wk ?_;refine q0L (fun q:Nat × Int=>q.1≤l.length ∧ -65536≤q.2∧q.2≤0∧∀ x ∈ l.take q.1,q.2≤dyE x) [0,2,12,13] [2] Lk Lk (fun q=>[(14,iv q.1),(4,iv q.2),(3,.ow 1001 (some 4) 0 q.1)]) (fun q=>[(1001,⟨74,some 4,(l.take q.1).map fun x=>dT x,false⟩)]) (fun q=>l.length-q.1) (0,0) ⟨Nat.zero_le _,by omega,by omega,fun x hx=>by simp at hx⟩ ?_ ?_
 ·refine LeM [(1001,none)] rfl rfl ?_;refine Zz ?_
  rfl
 ·rintro ⟨i,lo⟩ ⟨hi,hlo1,hlo2,hmin⟩;simp only at hi hlo1 hlo2 hmin ⊢
  by_cases hlt:i < l.length
  ·obtain ⟨x,hxi⟩:∃ x,l[i]?=some x:=⟨_,List.getElem?_eq_getElem Oq⟩;have hox:=ho x (List.mem_of_getElem? hxi);obtain ⟨hd1,hd2,hd3⟩:=q1L hox;have C1:=qvV (by kernel_rfl) fun h=>qbt h (V:=x);have htk:l.take (i+1)=l.take i ++ [x]:=by
    obtain ⟨hlt,he⟩:=List.getElem?_eq_some_iff.1 hxi;rw [List.take_succ_eq_append_getElem hlt,he]
   have ht:(l.take i).length=i:=by rw [List.length_take]; omega
   refine wk1 (x3 hxi @qks ht) ?_;refine ⟨(i+1,min lo (dyE x)),⟨by simp only; omega,by simp only; omega,by simp only; omega,fun y hy=>?_⟩,by simp only; omega,?_⟩
   ·simp only at hy ⊢;rw [htk] at hy
    rcases List.mem_append.1 hy with hy | hy
    ·have:=hmin y hy; omega
    ·simp at hy; subst hy; omega
   ·simp only;refine LeM [(1001,some 33)] rfl rfl ?_;refine Zz ?_;exact ⟨by omega,q1A (by rw [htk,List.map_append]; rfl) clD⟩
  ·obtain rfl:i=l.length:=by omega
   rw [List.take_length] at hmin;refine wk ?_;refine q0L (fun q:Nat × Int=>q.1≤l.length∧q.2*(2:Int) ^ (lo+65536).toNat=q1I (l.take q.1)) [2,4,9,35,36] [2,1001] Lk Lk (fun q=>[(37,iv q.1)]) (fun q=>[(9,⟨72,some 2,[bT q.2],false⟩)]) (fun q=>l.length-q.1) (0,0) ⟨Nat.zero_le _,by rw [Int.zero_mul]; rfl⟩ ?_ ?_
   ·refine LeM [] rfl rfl ?_;refine Zz ?_;exact ⟨rfl,rfl,q1A rfl clD⟩
   ·rintro ⟨j,tot⟩ ⟨hj,hs⟩;simp only at hj hs ⊢;have hbs:=qk0 (i:=j) ho Oq;have hbt:=q44 hs
    by_cases hlt:j < l.length
    ·obtain ⟨x,hxi⟩:∃ x,l[j]?=some x:=⟨_,List.getElem?_eq_getElem Oq⟩;have hox:=ho x (List.mem_of_getElem? hxi);obtain ⟨hd1,hd2,hd3⟩:=q1L hox;have hst:=q5o l j x hxi;have hlo:=hmin x (List.mem_of_getElem? hxi);have hsh:shI (od x) (dyE x-lo)=od x*(2:Int) ^ (dyE x-lo).toNat:=by unfold shI; rw [if_pos (by omega)]
     have hlf:=q9b (V:=x) (E:=lo) Oq Oq;have hb12:=q44 hlf;have hbx:bl x.natAbs≤131072:=hox;have C1:=@q4C;have C2:=@q9m;refine wk1 (x2 hxi hsh) ?_;refine ⟨(j+1,tot+od x*(2:Int) ^ (dyE x-lo).toNat),⟨by simp only; omega,by simp only; rw [hst,Int.add_mul,hs,hlf]⟩,by simp only; omega,?_⟩;simp only;refine LeM [] rfl rfl ?_;refine Zz ?_;exact ⟨by omega,q1A rfl clD⟩
    ·obtain rfl:j=l.length:=by omega
     rw [List.take_length] at hs hbs hbt;have C1:=@q5W;have hmk:mkV tot lo=some (q1I l):=by rw [q5a (by omega) hs]; exact q37 hv
     exact wk trivial
def fOk {f:Nat} {V:Int} (hv:ofF f=some V):q0k V:=by
 have hfin:q0Y f:=fun h=>by unfold ofF at hv; rw [if_pos h] at hv; cases hv
 obtain ⟨V',hv',hmk⟩:=q9a hfin;rw [hv] at hv'; cases hv';exact (q5C hmk).2.2.2
section
variable {f:Nat} {neg:Bool}
def q6N (hf:f < 18446744073709551616):ACt 128 [uv f] (.tu [iv (f / 4503599627370496 % 2048:Nat),uv (f % 4503599627370496:Nat)]):=by
 have h1:=q48 (a:=f / 4503599627370496) Oq;have h2:=q7p hf;refine ac0 Tryz.func128 Tryz.ntmps128 [.tmp 2,.tmp 3] ?_;exact wk1 (x2 h1 h2) trivial
def qfl (hf:f < 18446744073709551616):ACt 130 [uv f] (bv (decide (9223372036854775808≤f))):=by
 have h2:=qe6 hf;refine ac0 Tryz.func130 Tryz.ntmps130 [.tmp 2] ?_;exact wk1 h2 trivial
def q6o (hf:f < 9223372036854775808):ACt 189 [uv f,bv neg] (uv (sb neg f:Nat)):=by
 have h:=qe2 hf;refine ac0 Tryz.func189 Tryz.ntmps189 [.tmp 4] ?_;cases neg
 ·exact wk1 (show sb false f=f from rfl) trivial
 ·exact wk1 (x2 h (show sb true f=f+9223372036854775808 from rfl)) trivial
def q4t (hf:f < 18446744073709551616):ACt 63 [uv f] (bv (decide (q0Y f))):=by
 have C1:=q6N hf;have h2:(((f / 4503599627370496 % 2048:Nat):Int) != 2047)=decide (q0Y f):=qu4 (b:=2047);refine ac0 Tryz.func63 Tryz.ntmps63 [.tmp 2] ?_;exact wk1 h2 trivial
def qjT:ACt 190 [bv neg,iv 0] (uv (qhE 0 neg:Nat)):=by
 have C1:=q6o (f:=9218868437227405312) (neg:=neg) Oq;have e:qhE 0 neg=sb neg 9218868437227405312:=by simp [qhE]
 refine ac0 Tryz.func190 Tryz.ntmps190 [.tmp 4] ?_;exact wk1 e trivial
def q3U {V:Int} (hf:f < 18446744073709551616) (hv:ofF f=some V):ACt 62 [uv f] (dT V):=by
 have hfin:q0Y f:=fun h=>by unfold ofF at hv; rw [if_pos h] at hv; cases hv
 obtain ⟨V',hv',hmk⟩:=q9a hfin;rw [hv] at hv'; cases hv';have C1:=q6N hf;have C2:=qfl hf;have C3:=@q3w;have C4:=@q9l;have C5:=@q5W;have hxm:=Nat.mod_lt (f / 4503599627370496) (show 0 < 2048 by omega);have hm:=Nat.mod_lt f (show 0 < 4503599627370496 by omega);unfold q0Y at hfin;generalize f / 4503599627370496 % 2048=x at *;generalize f % 4503599627370496=m at *;generalize decide (9223372036854775808≤f)=sg at *;have h4:=qkl hm;obtain ⟨M,hM⟩:∃ M,M=if x=0 then m else 4503599627370496+m:=⟨_,rfl⟩
 have hMl:M < 9007199254740992:=by rw [hM]; split <;> omega
 have hbl:bl M≤53:=q0T (show M < 2 ^ 53 by omega);have hbn:bl (-(M:Int)).natAbs≤53:=by rw [Int.natAbs_neg]; exact hbl
 refine ac0 Tryz.func62 Tryz.ntmps62 [.cell 2 74] ?_
 by_cases hx0:x=0
 ·rw [if_pos hx0] at hM;subst hM;rw [if_pos hx0,if_pos hx0] at hmk;cases sg
  ·exact wk trivial
  ·exact wk trivial
 ·rw [if_neg hx0] at hM;rw [if_neg hx0,if_neg hx0,← hM] at hmk;rw [← hM] at h4;cases sg
  ·exact wk1 h4 trivial
  ·exact wk1 h4 trivial
end
def qoC {a:Int} {s:Bool} (hs:s=decide (a < 0)) (h0:0≤a) (ha:a≤9223372036854775807):ACt 186 [sT s a] (.tu [iv a,bv true]):=q1N (r:=.vl (.tuple #[.int .i64 a,.bool true])) (fun D w v h=>by
 rw [q6W h];unfold Rd;refine ⟨_,rfl,?_⟩;unfold RdL;exact ⟨_,_,rfl,q3O,RdL.one q3O⟩) (B1c hs fun _ _ _ _ h _=>qtC h h0 ha)
def q6M {N M:Nat} {neg:Bool} {e:Int} (hM:0 < M) (hN:M≤N) (hmb:N % M≠0→55≤bl (N / M)) (hb:bl (N / M)≤200000) (he1 : -400000≤e) (he2:e≤400000):ACt 125 [reT neg (N / M) e (decide (N % M≠0)),iv 0] (uv (rE 0 neg N M e:Nat)):=by
 have hp:=Nat.div_pos hN hM;have hL1:=q45 (n:=N / M) Oq;have hval:=qeR (mode:=0) (neg:=neg) (e:=e) hM hN;have hnle:=qnN (mode:=0) (neg:=neg) (e:=e) (q:=max (e+(bl (N / M):Int)-53) (-1074)) hM hN Oq;have hmul:=qnc (neg:=neg) (e:=e) (p:=max (e+(bl (N / M):Int)-53) (-1074)) hM (fun h=>by have:=hmb h; omega);have C1:=qhS (neg:=neg) (q:=N / M) (e:=e) (inx:=decide (N % M≠0)) Oq Oq Oq;obtain ⟨L,hL⟩:∃ L,bl (N / M)=L:=⟨_,rfl⟩;rw [hL] at hmb hb hval hnle hmul hL1 C1;obtain ⟨q,hq⟩:∃ q,max (e+(L:Int)-53) (-1074)=q:=⟨_,rfl⟩;rw [hq] at hval hnle hmul;have hq':max (e+(L:Int)-1-52) (-1074)=q:=by omega
 have C2:=qhR (neg:=neg) (inx:=decide (N % M≠0)) (q:=N / M) (e:=e) (p:=q) Oq Oq Oq Oq Oq Oq;rw [hmul] at C2;obtain ⟨r,hr⟩:∃ r,rq 0 neg (N*2 ^ (e-q).toNat) (M*2 ^ (q-e).toNat)=r:=⟨_,rfl⟩;rw [hr] at hval hnle C2;have hbr:bl r≤54:=q0T (Nat.lt_of_le_of_lt hnle (by decide));have hsn:=q1R neg r;have hbs:bl (sgn neg r).natAbs≤54:=by rw [hsn]; exact hbr
 have C3:=@q9n;have C4:=@qoC;have C5:=@q6o;have C6:=@qjT;have e2:IntKind.u64.wrap ((r:Nat):Int)=r:=u64_in Oq Oq;rw [hval];generalize N / M=d at *;generalize decide (N % M≠0)=ix at *;clear hmul hmb hp hval hr;unfold Go.Sp.fin Go.Sp.fin2;have comp:∀ (q2:Int) (n2:Nat),0≤q2+1075→¬ 2047≤q2+1075→4503599627370496≤n2→n2 < 9007199254740992→∃ x:Nat,q2+1075=x∧(q2+1075).toNat=x∧IntKind.u64.wrap (x:Int)=x∧(q0z Tryz.prog .shl 30 (.int .u64 (x:Int)) (.int .u64 52)=some (.int .u64 ((x*4503599627370496:Nat):Int)))∧IntKind.u64.wrap ((n2:Int)-4503599627370496)=((n2-4503599627370496:Nat):Int)∧q0y .or .u64 ((x*4503599627370496:Nat):Int) ((n2-4503599627370496:Nat):Int)=((x*4503599627370496+(n2-4503599627370496):Nat):Int)∧x*4503599627370496+(n2-4503599627370496) < 9223372036854775808:=fun q2 n2 h1 h2 h3 h4 =>
  ⟨(q2+1075).toNat,by omega,rfl,u64_in (by omega) (by omega),qaf (by omega),by rw [u64_in (by omega) (by omega)]; omega,qkm (by omega) (by omega),by omega⟩
 refine ac0 Tryz.func125 Tryz.ntmps125 [.tmp 4] ?_
 by_cases h53:r=9007199254740992
 ·rw [if_pos h53,if_neg (by omega)]
  by_cases hov:2047≤q+1+1075
  ·rw [if_pos hov];exact wk1 (x3 hq' hsn e2) trivial
  ·rw [if_neg hov];obtain ⟨x,f1,f2,f3,f4,f5,f6,f7⟩:=comp (q+1) 4503599627370496 Oq hov Oq Oq;rw [f2,Nat.sub_self,Nat.add_zero];rw [Nat.sub_self,Nat.add_zero] at f6 f7;replace f5:IntKind.u64.wrap (4503599627370496-4503599627370496)=0:=f5;replace f6:q0y .or .u64 ((x*4503599627370496:Nat):Int) 0=((x*4503599627370496:Nat):Int):=f6;exact wk1 (x6 hq' hsn e2 f1 f3 (x3 f4 f5 f6)) trivial
 ·rw [if_neg h53]
  by_cases h52:r < 4503599627370496
  ·rw [if_pos h52];exact wk1 (x3 hq' hsn e2) trivial
  ·rw [if_neg h52]
   by_cases hov:2047≤q+1075
   ·rw [if_pos hov];exact wk1 (x3 hq' hsn e2) trivial
   ·rw [if_neg hov];obtain ⟨x,f1,f2,f3,f4,f5,f6,f7⟩:=comp q r Oq hov Oq Oq;rw [f2];exact wk1 (x6 hq' hsn e2 f1 f3 (x3 f4 f5 f6)) trivial
def q9y {a b:Int} (hA:q0k a) (hB:q0k b) (hb0:b≠0):ACt 60 [dT a,dT b,iv 0] (uv (fQ 0 a b:Nat)):=by
 have C1:=q6w hA;have C2:=q6w hB;have C3:=q2k hA;have C4:=q2k hB;have q1:(b.sign == 0)=false:=by
  rw [beq_eq_false_iff_ne]; intro h; exact hb0 (Int.sign_eq_zero_iff_zero.1 h)
 refine ac0 Tryz.func60 Tryz.ntmps60 [.tmp 6] ?_
 by_cases ha0:a=0
 ·have q2:(a.sign == 0)=true:=by rw [ha0]; rfl
  rw [show ((fQ 0 a b:Nat):Int)=0 by rw [show fQ 0 a b=0 from if_pos ha0]; rfl];exact wk1 (x2 q1 q2) trivial
 ·have q2:(a.sign == 0)=false:=by
   rw [beq_eq_false_iff_ne]; intro h; exact ha0 (Int.sign_eq_zero_iff_zero.1 h)
  obtain ⟨k,⟨c1,c2,c3⟩,C5⟩:=qdB hA hB ha0 hb0;have hob:=q3c hb0;have hd1:=q1L hA;have hd2:=q1L hB;have hge:=q8t (N:=(od a).natAbs*2 ^ k) (M:=(od b).natAbs) Oq (k:=57) Oq;have hle:bl ((od a).natAbs*2 ^ k / (od b).natAbs)≤140000:=Nat.le_trans (q0d (Nat.div_le_self _ _)) c3;have hMN:(od b).natAbs≤(od a).natAbs*2 ^ k:=by
   rcases Nat.lt_or_ge ((od a).natAbs*2 ^ k) (od b).natAbs with h | h
   ·have:=q0d (Nat.le_of_lt h); omega
   ·exact h
  have C6:=q6M (neg:=decide (a < 0) != decide (b < 0)) (e:=dyE a-k-dyE b) Oq hMN (fun _=>by omega) Oq Oq Oq;rw [qke ha0 hb0,show rF 0 (decide (a < 0) != decide (b < 0)) a.natAbs b.natAbs=fQ 0 a b from (if_neg ha0).symm] at C6;exact wk1 (x2 q1 q2) trivial
end Go.Proofs.YtbcmhlhgljoolaaGreatDoor
namespace Go.E
open Go
section
variable {G:Fam} {D:Nat→Prop} {A:Option Addr} {v:Value} {w w':World} {L:List Nat} {α:Type} {H:α→Fam} {T sz B n c:Nat} {l:List α}
def q4A.blk_lt (h:q4A H T sz w D B A n c l):∀ a,A=some a→a.block < w.heap.size∧B≤a.block:=by
 obtain ⟨vs,h1,_⟩:=h;exact h1.blk_lt
def q4A.nb (h:q4A H T sz w D B A n c l) {k:Nat} (hk:k < B):nb A k:=fun a ha=>by have:=h.blk_lt a ha; omega
def q4A.under {w0:World} (h:q4A H T sz w D B A n c l) (hx:Ext w0 w) (k:Kp (Go.E.nb A) w w') (hB:w0.heap.size≤B):Ext w0 w':=hx.under k fun j hj=>h.nb Oq
end
end Go.E
namespace Go.Proofs.YtbcmhlhgljoolaaGreatDoor
open Go Go.E Go.Sp
def quX (a b c d:Value):bsV Tryz.prog 125 1 [(0,.agg #[a,b,c,d])]=some (74,#[a,b,c,d]):=by
 unfold bsV;simp only [qfr];have hr:Array.range 4=#[0,1,2,3]:=rfl;simp [Instr.fill,Value.cells,hr]
section
variable {f:Nat} {w:World}
def qiK (hf:f < 18446744073709551616):Calls Tryz.prog 128 #[.int .u64 f] w fun e w'=>e=.returned (.tuple #[.int .i64 (f / 4503599627370496 % 2048:Nat),.int .u64 (f % 4503599627370496:Nat)])∧w=w':=by
 refine q0J Tryz.func128 rfl Tryz.ntmps128 (by kernel_rfl) ?_;refine Wz ?_;have h1:=q48 (a:=f / 4503599627370496) Oq;have h2:=q7p (a:=f) hf;have h3:IntKind.i64.wrap ((f / 4503599627370496 % 2048:Nat):Int)=((f / 4503599627370496 % 2048:Nat):Int):=i64_in Oq Oq;refine Wz3 h1 h2 h3 ?_;refine q0O ?_
 try simp only [q0D,q0S]
 refine q8S rfl ⟨by simp only [q0E,Nat.reduceEqDiff,↓reduceIte],rfl⟩
def q5F (hf:f < 18446744073709551616):Calls Tryz.prog 63 #[.int .u64 f] w fun e w'=>e=.returned (.bool (decide (q0Y f)))∧w=w':=by
 refine q0J Tryz.func63 rfl Tryz.ntmps63 (by kernel_rfl) ?_;refine Wz ?_;refine q0A fun K hK=>?_;refine Zz ?_;refine q0F qlq (qiK hf) ?_;rintro _ _ ⟨rfl,rfl⟩; refine ⟨_,rfl,?_⟩;have h2:(((f / 4503599627370496 % 2048:Nat):Int) != 2047)=decide (q0Y f):=qu4 (b:=2047);refine Zz ?_;refine hK _ _ ?_; clear hK;refine Wz1 h2 ?_;refine q0O ?_
 try simp only [q0D,q0S]
 refine q1S rfl ⟨by simp only [q0E,Nat.reduceEqDiff,↓reduceIte],rfl⟩
end
section
variable {g:FuncId} {al:List PV} {vs:List Value} {V:Int} {c:Value} {D:Nat→Prop} {w:World} {v v':Value} {a b:Int}
def acV (h:ACt g al (dT V)) (ho:q0k V) (hT:q2i w) (hF:Fr D w) (hR:RdL w D al (fun _=>none) h0 vs):Calls Tryz.prog g vs.toArray w (Rt (fV V) D w):=(h.2 D w vs hT hF hR).mono fun x w' ⟨v,h1,h2,h3⟩=>⟨v,h1,h2,q2q.1 ⟨h3,ho⟩⟩
def acK (h:ACt g al (.vl c)) (hT:q2i w) (hF:Fr D w) (hR:RdL w D al (fun _=>none) h0 vs):Calls Tryz.prog g vs.toArray w fun e w'=>e=.returned c∧Ext w w':=(h.2 D w vs hT hF hR).mono fun x w' ⟨v,h1,h2,h3⟩=>⟨by rw [h1,q6W h3],h2⟩
def rdV (h:In (fV V) D v w):Rd w D (dT V) (fun _=>none) h0 v:=(q2q.2 h).1
def RdL.two {x y:PV} (h1:Rd w D x (fun _=>none) h0 v) (h2:Rd w D y (fun _=>none) h0 v'):RdL w D [x,y] (fun _=>none) h0 [v,v']:=by
 unfold RdL;exact ⟨_,_,rfl,h1,RdL.one h2⟩
def qfk {f:Nat} (hT:q2i w) (hf:f < 18446744073709551616) (hv:ofF f=some V) (hfr:Fr D w):Calls Tryz.prog 62 #[.int .u64 f] w (Rt (fV V) D w):=acV (q3U hf hv) (fOk hv) hT hfr (RdL.one q3O)
def qtx (hT:q2i w) (h:In (fV a) D v w) (h':In (fV b) D v' w) (hv:mkV (a*b) (-131072)=some V) (hf:Fr D w):Calls Tryz.prog 134 #[v,v'] w (Rt (fV V) D w):=acV (q5j h.ok h'.ok hv) (q5C hv).2.2.2 hT hf (RdL.two (rdV h) (rdV h'))
def qtw (hT:q2i w) (h:In (fV V) D v w) (hf:Fr D w):Calls Tryz.prog 133 #[v] w (Rt (fV (-V)) D w):=acV (qdC h.ok) (qbV h.ok) hT hf (RdL.one (rdV h))
def qlM (hT:q2i w) (h:In (fV a) D v w) (h':In (fV b) D v' w) (hb0:b≠0) (hf:Fr D w):Calls Tryz.prog 60 #[v,v',.int .i64 0] w fun x w'=>x=.returned (.int .u64 (fQ 0 a b:Nat))∧Ext w w':=acK (q9y h.ok h'.ok hb0) hT hf (by
 unfold RdL;exact ⟨_,_,rfl,rdV h,RdL.two (rdV h') q3O⟩)
def qtv {A:Option Addr} {n c:Nat} {l:List Int} (hT:q2i w) (h:In (fSl 4 fV l) D (.slice A n c) w) (hn:n≤1000) (ho:∀ x ∈ l,q0k x) (hv:q0k (q1I l)) (hf:Fr D w) :
  Calls Tryz.prog 127 #[.slice A n c] w (Rt (fV (q1I l)) D w):=by
 have hl:=h.sl_len;obtain ⟨_,_,_,vs,e,h1,⟨h2,h3⟩,h4⟩:=h;cases e;refine acV (q9H Oq ho hv) hv hT hf (RdL.one ?_);unfold Rd;refine ⟨A,n,c,vs,rfl,h1,by simpa using h4,RdL.iff.2 ⟨by simpa using h2.symm,fun i x v hx hv=>?_⟩,fun v hv=>?_⟩
 ·rw [List.getElem?_map] at hx;obtain ⟨V,hV,rfl⟩:=Option.map_eq_some_iff.1 hx;obtain ⟨u,hu,q1,_⟩:=h3 i V hV;rw [hv] at hu; cases hu;exact q7T q1
 ·obtain ⟨i,hi,rfl⟩:=List.getElem_of_mem hv;obtain ⟨u,hu,q1,_⟩:=h3 i l[i] (List.getElem?_eq_getElem Oq);rw [List.getElem?_eq_getElem hi] at hu;cases hu;exact fitV _ _ _ q1
end
def q1f (l:List Nat):Prop:=∀ f ∈ l,f < 18446744073709551616∧q0Y f
section
variable {D:Nat→Prop} {A:Option Addr} {n c:Nat} {l:List Nat} {w:World}
def qn3 {w:World} {B E n c:Nat} {A:Option Addr} {α:Type} {f:α→Value} {l:List α} {D:Nat→Prop} (h:Own w B E 1 A n c (l.map f)) (hd:∀ k,B≤k→D k):In (fSc f l) D (.slice A n c) w:=⟨A,n,c,rfl,h.row.sub fun k _ hk=>hd k hk⟩
def qbz (n:Nat):List Int:=(List.range n).map fun k:Nat=>(k:Int)
def qdK (n:Nat):qbz (n+1)=qbz n ++ [(n:Int)]:=by unfold qbz; rw [List.range_succ,List.map_append]; rfl
def qaW (n:Nat):(qbz n).length=n:=by simp [qbz]
end
end Go.Proofs.YtbcmhlhgljoolaaGreatDoor
namespace Go.E
open Go
def qac {P:Program} {w:World} {T E Bd g n c:Nat} {xs:List Value} {v:Value} (h:Own w Bd E 1 (some ⟨g,0,none⟩) n c xs) {j:Nat} (hj:j < n) (hs:q03 P T=some 1) (hv:v.cells=#[v]) (h1:v.oneCell'=true) {K:World→Prop}
  (hK:∀ w',Own w' Bd E 1 (some ⟨g,0,none⟩) n c (xs.set j v)→Kp (fun k=>k≠g) w w'→w'.heap.size=w.heap.size→K w'):q3f P T w (.pointer (some ⟨g,j,none⟩)) v K:=by
 have hl:xs.length=n:=by have:=h.len; simpa using this
 obtain ⟨g',hg,hb,hc,hfz⟩:=h.cell (j:=j) Oq;cases hg;rw [q50,hv];refine ⟨hs,⟨?_,?_,h1,trivial⟩,?_⟩
 ·rw [q06,Nat.add_zero,hc]; rfl
 ·rw [q06,Nat.add_zero]; exact hfz
 ·refine hK _ ?_ ?_ ?_
  ·have:=h.set j v;simpa [stN,q06] using this
  ·simp only [stN,q06,Nat.add_zero];exact Kp.setCell w (fun _ h=>h rfl) v
  ·simp [stN,World.setCell]
end Go.E
namespace Go.Proofs.YtbcmhlhgljoolaaGreatDoor
open Go Go.E Go.Sp
def qlD (l:List Int):Prop:=(∀ x ∈ l,0≤x∧x < l.length)∧l.Nodup
section
variable {D:Nat→Prop} {A:Option Addr} {n c:Nat} {l:List Int} {w:World}
end
end Go.Proofs.YtbcmhlhgljoolaaGreatDoor
namespace Go.E
open Go Go.Sp
section
variable {D:Nat→Prop} {A:Option Addr} {n c:Nat} {w:World}
def In.ixI {l:List Int} (h:In (fSc q4S l) D (.slice A n c) w) {i:Nat} {x:Int} (hi:l[i]?=some x):∃ ad,A=some ad∧((0:Int)≤(i:Int)∧(i:Int) < n)∧w.cell? (ad.add i)=some (.int .i64 x):=by
 obtain ⟨hlt,he⟩:=List.getElem?_eq_some_iff.1 hi;obtain ⟨ad,hA,hc⟩:=h.sc_get hlt;have:=h.sc_len;exact ⟨ad,hA,by omega,by rw [hc,he]; rfl⟩
def In.ixU {l:List Nat} (h:In (fSc q2h l) D (.slice A n c) w) {i:Nat} {x:Nat} (hi:l[i]?=some x):∃ ad,A=some ad∧((0:Int)≤(i:Int)∧(i:Int) < n)∧w.cell? (ad.add i)=some (.int .u64 (x:Int)):=by
 obtain ⟨hlt,he⟩:=List.getElem?_eq_some_iff.1 hi;obtain ⟨ad,hA,hc⟩:=h.sc_get hlt;have:=h.sc_len;exact ⟨ad,hA,by omega,by rw [hc,he]; rfl⟩
end
end Go.E
namespace Go.Proofs.YtbcmhlhgljoolaaGreatDoor
open Go Go.E Go.Sp
structure Fac where
 pm:List Int
 cp:List Int
 ri:List Int
 vs:List Nat
structure Col (f:Fac) (j a b:Nat):Prop where
 ha:f.cp[j]?=some (a:Int)
 hb:f.cp[j+1]?=some (b:Int)
 lt:a < b
 le:b≤f.ri.length
 first:f.ri[a]?=some (j:Int)
 last:∃ z:Int,f.ri[b-1]?=some z∧z < f.pm.length
 inc:∀ i,a < i→i < b→∃ y z:Int,f.ri[i-1]?=some y∧f.ri[i]?=some z∧y < z
 diag:∃ (x:Nat) (V:Int),f.vs[a]?=some x∧ofF x=some V∧0 < V
structure FacOk (f:Fac):Prop where
 perm:qlD f.pm
 n:f.pm.length≤200
 cpl:f.cp.length=f.pm.length+1
 ril:f.ri.length=f.vs.length
 rib:f.ri.length≤1000000
 c0:f.cp[0]?=some 0
 cn:f.cp[f.pm.length]?=some (f.ri.length:Int)
 col:∀ j,j < f.pm.length→∃ a b,Col f j a b
 vals:q1f f.vs
def fFac (f:Fac):Fam:=⟨fun D v w=>∃ a b c d,v=.agg #[a,b,c,d]∧(fSc q4S f.pm).p D a w∧(fSc q4S f.cp).p D b w∧(fSc q4S f.ri).p D c w∧(fSc q2h f.vs).p D d w,fun k ⟨a,b,c,d,e,h1,h2,h3,h4⟩=>⟨a,b,c,d,e,(fSc q4S f.pm).kp k h1,(fSc q4S f.cp).kp k h2,(fSc q4S f.ri).kp k h3,(fSc q2h f.vs).kp k h4⟩,fun k ⟨a,b,c,d,e,h1,h2,h3,h4⟩=>⟨a,b,c,d,e,(fSc q4S f.pm).sub k h1,(fSc q4S f.cp).sub k h2,(fSc q4S f.ri).sub k h3,(fSc q2h f.vs).sub k h4⟩⟩
def q8h {D:Nat→Prop} {f:Fac} {v:Value} {w:World} (h:In (fFac f) D v w):∃ A1 n1 c1 A2 n2 c2 A3 n3 c3 A4 n4 c4,v=.agg #[.slice A1 n1 c1,.slice A2 n2 c2,.slice A3 n3 c3,.slice A4 n4 c4]∧In (fSc q4S f.pm) D (.slice A1 n1 c1) w∧In (fSc q4S f.cp) D (.slice A2 n2 c2) w∧In (fSc q4S f.ri) D (.slice A3 n3 c3) w∧In (fSc q2h f.vs) D (.slice A4 n4 c4) w:=by
 obtain ⟨a,b,c,d,rfl,h1,h2,h3,h4⟩:=h;obtain ⟨A1,n1,c1,rfl,r1⟩:=h1;obtain ⟨A2,n2,c2,rfl,r2⟩:=h2;obtain ⟨A3,n3,c3,rfl,r3⟩:=h3;obtain ⟨A4,n4,c4,rfl,r4⟩:=h4;exact ⟨_,_,_,_,_,_,_,_,_,_,_,_,rfl,⟨_,_,_,rfl,r1⟩,⟨_,_,_,rfl,r2⟩,⟨_,_,_,rfl,r3⟩,⟨_,_,_,rfl,r4⟩⟩
def slv (s:Option Addr × Nat × Nat):Value:=.slice s.1 s.2.1 s.2.2
structure Sums (w:World) (D:Nat→Prop) (L:List Nat) (N0 g n:Nat) (rows:List (List Int)) (ss:List (Option Addr × Nat × Nat)):Prop where
 own:Own w N0 125 1 (some ⟨g,0,none⟩) n n (ss.map slv)
 len:ss.length=rows.length
 row:∀ (i:Nat) (s:Option Addr × Nat × Nat) (r:List Int),ss[i]?=some s→rows[i]?=some r→q4A fV 74 4 w (Dl D L) N0 s.1 s.2.1 s.2.2 r
 mem:∀ (i:Nat) (s:Option Addr × Nat × Nat) (a:Addr),ss[i]?=some s→s.1=some a→a.block ∈ L∧a.block≠g
 ne:∀ (i j:Nat) (s t:Option Addr × Nat × Nat) (a b:Addr),i≠j→ss[i]?=some s→ss[j]?=some t→s.1=some a→t.1=some b→a.block≠b.block
 gL:g ∈ L
 lo:∀ k ∈ L,N0≤k
 hi:∀ k ∈ L,k < w.heap.size
def qqB {α:Type} {G:α→Fam} {T sz B n c:Nat} {A:Option Addr} {w:World} {D D':Nat→Prop} {l:List α} (h:q4A G T sz w D' B A n c l) (h1:∀ k,D' k→D k) (h2:∀ k,B≤k→D k):In (fSl sz G l) D (.slice A n c) w:=by
 obtain ⟨vs,a1,a2,a3⟩:=h;exact ⟨A,n,c,vs,rfl,a1.row.sub fun k _ hk=>h2 k hk,a2.sub fun k _ hk=>h1 k hk.1,a3⟩
section
variable {D:Nat→Prop} {L:List Nat} {N0 g n:Nat} {rows:List (List Int)} {ss:List (Option Addr × Nat × Nat)} {w w':World}
def Sums.ext (h:Sums w D L N0 g n rows ss) (k:Ext w w'):Sums w' D L N0 g n rows ss :=
 ⟨h.own.ext k,h.len,fun i s r a b=>(h.row i s r a b).ext k,h.mem,h.ne,h.gL,h.lo,fun j hj=>Nat.lt_of_lt_of_le (h.hi j hj) k.size⟩
def Sums.sub {D':Nat→Prop} (h:Sums w D L N0 g n rows ss) (hd:∀ k,k < w.heap.size→D k→D' k):Sums w D' L N0 g n rows ss :=
 ⟨h.own,h.len,fun i s r a b=>by
  obtain ⟨vs,a1,a2,a3⟩:=h.row i s r a b;exact ⟨vs,a1,a2.sub fun k hk hq=>⟨⟨hd k hk hq.1.1,hq.1.2⟩,hq.2⟩,a3⟩,h.mem,h.ne,h.gL,h.lo,h.hi⟩
def Sums.get (h:Sums w D L N0 g n rows ss) {i:Nat} {r:List Int} (hr:rows[i]?=some r) (hD:∀ k,N0≤k→D k):∃ A m c,ss[i]?=some (A,m,c)∧i < n∧w.cell? ⟨g,i,none⟩=some (.slice A m c)∧In (fSl 4 fV r) D (.slice A m c) w:=by
 have hlt:=(List.getElem?_eq_some_iff.1 hr).1;have hlen:=h.len;have hn:ss.length=n:=by have:=h.own.len; simpa using this
 obtain ⟨⟨A,m,c⟩,hs⟩:∃ s,ss[i]?=some s:=⟨_,List.getElem?_eq_getElem Oq⟩;obtain ⟨g',hg,_,hc,_⟩:=h.own.cell (j:=i) (by simp; omega);cases hg;refine ⟨A,m,c,hs,by omega,?_,qqB (h.row i _ r hs hr) (fun k hk=>hk.1) hD⟩;rw [hc];obtain ⟨h1,h2⟩:=List.getElem?_eq_some_iff.1 hs;simp [h2,slv]
def qa0 {i:Nat} {r:List Int} (hT:q2i w) (hS:Sums w D L N0 g n rows ss) (hr:rows[i]?=some r) (hl:r.length≤1000) (ho:∀ x ∈ r,q0k x) (hv:q0k (q1I r)) (hD0:∀ k,N0≤k→D k) (hf:Fr D w) :
  Calls Tryz.prog 61 #[.slice (some ⟨g,0,none⟩) n n,.int .i64 i] w (Rt (fV (q1I r)) D w):=by
 obtain ⟨A,m,c,_,hin,hcell,hrow⟩:=hS.get hr hD0;have hm:=hrow.sl_len;refine q0J Tryz.func61 rfl Tryz.ntmps61 (by kernel_rfl) ?_;refine q0A fun K hK=>?_;refine Zz ?_;refine q0r ?_;intro g4 w4 hg4 hx4 hb4 hs4;refine hK _ _ ?_; clear hK K;have hx:Ext w w4:=hx4;replace hrow:=(hrow.nL (L:=[g4]) (by intro g hg; simp at hg; omega)).ext hx;have hD:Fr (Dl D [g4]) w4:=hf.nL hx (by intro g hg; simp at hg; omega);clear hx4;have hcell':w4.cell? ⟨g,i,none⟩=some (.slice A m c):=hx.cell (D:=fun _=>True) trivial hcell;have e1:(0:Int)≤i∧(i:Int) < n:=by omega
 refine q0A fun K hK=>?_;refine Zz2 e1 hcell' ?_;refine Cr qlr (qtv (hT.ext hx) hrow Oq ho hv hD) fun v5 w5 hx5 h5=>?_;replace hrow:=hrow.ext hx5;replace hb4:=hb4.ext hx5;replace hD:=hD.kp hx5;replace hx:=hx.trans hx5;clear hx5;refine q1h hb4 qdd rfl (qhH h5) fun w90 hk90 hb90=>?_;refine hK _ _ ?_; clear hK;refine q0O ?_
 try simp only [q0D,q0S]
 exact qcJ rfl Rf qgi hb90 (qhH h5) (Rt.fin hx h5 hk90 (by simp) Oq)
end
def qbp {α:Type} {G:α→Fam} {T sz B n c:Nat} {A:Option Addr} {w:World} {D D':Nat→Prop} {l:List α} (h:q4A G T sz w D B A n c l) (h1:∀ k,k < w.heap.size→D k→nb A k→D' k):q4A G T sz w D' B A n c l:=by
 obtain ⟨vs,a1,a2,a3⟩:=h;exact ⟨vs,a1,a2.sub fun k hk hd=>⟨h1 k hk hd.1 hd.2,hd.2⟩,a3⟩
section
variable {D:Nat→Prop} {L:List Nat} {N0 g n i:Nat} {rows:List (List Int)} {ss:List (Option Addr × Nat × Nat)} {w w2 w3:World} {A A':Option Addr} {m c m' c':Nat} {r r':List Int}
def q1k {α:Type} {l:List α} {i j:Nat} {x y:α} (hj:(l.set i x)[j]?=some y):(i=j∧y=x∧i < l.length)∨(i≠j∧l[j]?=some y):=by
 by_cases h:i=j
 ·subst h
  rcases Nat.lt_or_ge i l.length with h1 | h1
  ·rw [List.getElem?_set_self h1] at hj;exact .inl ⟨rfl,(Option.some.inj hj).symm,h1⟩
  ·rw [List.getElem?_eq_none (by simpa using h1)] at hj; cases hj
 ·rw [List.getElem?_set_ne h] at hj;exact .inr ⟨h,hj⟩
def Sums.push (h:Sums w D L N0 g n rows ss) (hs:ss[i]?=some (A,m,c)) (hO:q4A fV 74 4 w2 (Dl D L) N0 A' m' c' r') (hk:Kp (nb A) w w2) (hat:A'=A∨∃ g',w.heap.size≤g'∧A'=some ⟨g',0,none⟩)
  (ho:Own w3 N0 125 1 (some ⟨g,0,none⟩) n n ((ss.set i (A',m',c')).map slv)) (hk3:Kp (fun k=>k≠g) w2 w3) (hs3:w3.heap.size=w2.heap.size) :
  ∃ L',(∀ k ∈ L,k ∈ L')∧(∀ k ∈ L',k ∈ L∨w.heap.size≤k)∧Sums w3 D L' N0 g n (rows.set i r') (ss.set i (A',m',c')):=by
 have hgs:=h.hi g h.gL;have hgl:=h.lo g h.gL;have hsz:=hk.size;have hnA:∀ k,k ∉ L→nb A k:=fun k hk a ha he=>hk (by have:=(h.mem i _ a hs ha).1; rw [he] at this; exact this);have hother:∀ (j:Nat) (s:Option Addr × Nat × Nat) (q:List Int),i≠j→ss[j]?=some s→rows[j]?=some q→q4A fV 74 4 w3 (Dl D L) N0 s.1 s.2.1 s.2.2 q:=fun j s q hij hsj hq=>by
  refine ((h.row j s q hsj hq).kp hk (fun k hd=>hnA k hd.2) fun a ha b hb=>?_).kp hk3 (fun k hd e=>hd.2 (e ▸ h.gL)) fun a ha=>(h.mem j s a hsj ha).2;exact h.ne i j _ s b a hij hs hsj hb ha
 rcases hat with rfl | ⟨g',hg',rfl⟩
 ·refine ⟨L,fun k hk=>hk,fun k hk=>.inl hk,ho,by simpa using h.len,fun j s q hsj hq=>?_,fun j s a hsj ha=>?_,fun j k s t a b hjk hsj htk ha hb=>?_,h.gL,h.lo,fun k hk=>by have:=h.hi k hk; omega⟩
  ·rcases q1k hsj with ⟨rfl,rfl,hlt⟩ | ⟨hne,hsj⟩
   ·rcases q1k hq with ⟨_,rfl,_⟩ | ⟨hne,_⟩
    ·exact hO.kp hk3 (fun k hd e=>hd.2 (e ▸ h.gL)) fun a ha=>(h.mem i _ a hs ha).2
    ·exact absurd rfl hne
   ·rcases q1k hq with ⟨rfl,_,_⟩ | ⟨_,hq⟩
    ·exact absurd rfl hne
    ·exact hother j s q hne hsj hq
  ·rcases q1k hsj with ⟨rfl,rfl,hlt⟩ | ⟨hne,hsj⟩
   ·exact h.mem i _ a hs ha
   ·exact h.mem j s a hsj ha
  ·rcases q1k hsj with ⟨rfl,rfl,hlt⟩ | ⟨hne,hsj⟩ <;> rcases q1k htk with ⟨rfl,rfl,hlt2⟩ | ⟨hne2,htk⟩
   ·exact absurd rfl hjk
   ·exact h.ne i k _ t a b hjk hs htk ha hb
   ·exact h.ne j i s _ a b hjk hsj hs ha hb
   ·exact h.ne j k s t a b hjk hsj htk ha hb
 ·have hlt':=hO.blk_lt _ rfl;simp only at hlt';refine ⟨g' :: L,fun k hk=>List.mem_cons_of_mem _ hk,fun k hk=>?_,ho,by simpa using h.len,fun j s q hsj hq=>?_,fun j s a hsj ha=>?_,fun j k s t a b hjk hsj htk ha hb=>?_,List.mem_cons_of_mem _ h.gL,fun k hk=>?_,fun k hk=>?_⟩
  ·rcases List.mem_cons.1 hk with rfl | hk
   ·exact .inr hg'
   ·exact .inl hk
  ·rcases q1k hsj with ⟨rfl,rfl,hlt⟩ | ⟨hne,hsj⟩
   ·rcases q1k hq with ⟨_,rfl,_⟩ | ⟨hne,_⟩
    ·have h1:q4A fV 74 4 w3 (Dl D L) N0 (some ⟨g',0,none⟩) m' c' q:=hO.kp hk3 (fun k hd e=>hd.2 (e ▸ h.gL)) fun a ha=>by cases ha; simp only; omega
     refine qbp h1 fun k _ hd hn=>⟨hd.1,fun hm=>?_⟩
     rcases List.mem_cons.1 hm with e | hm
     ·exact hn _ rfl e.symm
     ·exact hd.2 hm
    ·exact absurd rfl hne
   ·rcases q1k hq with ⟨rfl,_,_⟩ | ⟨_,hq⟩
    ·exact absurd rfl hne
    ·have h1:q4A fV 74 4 w (Dl D (g' :: L)) N0 s.1 s.2.1 s.2.2 q:=qbp (h.row j s q hsj hq) fun k hk hd _=>⟨hd.1,fun hm=>by
      rcases List.mem_cons.1 hm with e | hm
      ·omega
      ·exact hd.2 hm⟩
     refine (h1.kp hk (fun k hd=>hnA k fun hm=>hd.2 (List.mem_cons_of_mem _ hm)) fun a ha b hb=>?_).kp hk3 (fun k hd e=>hd.2 (List.mem_cons_of_mem _ (e ▸ h.gL))) fun a ha=>(h.mem j s a hsj ha).2;exact h.ne i j _ s b a hne hs hsj hb ha
  ·rcases q1k hsj with ⟨rfl,rfl,hlt⟩ | ⟨hne,hsj⟩
   ·cases ha;exact ⟨List.mem_cons_self,by simp only; omega⟩
   ·obtain ⟨h1,h2⟩:=h.mem j s a hsj ha;exact ⟨List.mem_cons_of_mem _ h1,h2⟩
  ·rcases q1k hsj with ⟨rfl,rfl,hlt⟩ | ⟨hne,hsj⟩ <;> rcases q1k htk with ⟨rfl,rfl,hlt2⟩ | ⟨hne2,htk⟩
   ·exact absurd rfl hjk
   ·cases ha;have:=h.hi _ (h.mem k t b htk hb).1;simp only; omega
   ·cases hb;have:=h.hi _ (h.mem j s a hsj ha).1;simp only; omega
   ·exact h.ne j k s t a b hjk hsj htk ha hb
  ·rcases List.mem_cons.1 hk with rfl | hk
   ·omega
   ·exact h.lo k hk
  ·rcases List.mem_cons.1 hk with rfl | hk
   ·omega
   ·have:=h.hi k hk; omega
end
def appV {w:World} {ty B n c g2:Nat} {A:Option Addr} {D:Nat→Prop} {l:List Int} {V:Int} {v:Value} (hO:q4A fV 74 4 w D B A n c l) (hv:In (fV V) (fun k=>D k∧nb A k) v w) (hb2:Blk w g2 74 v.cells) (hn:n≤1000000000) (hb:B≤w.heap.size) {K:Value→World→Prop}
  (hK:∀ A' c' w',q4A fV 74 4 w' D B A' (n+1) c' (l ++ [V])→Kp (nb A) w w'→(A'=A∨∃ g,w.heap.size≤g∧A'=some ⟨g,0,none⟩)→K (.slice A' (n+1) c') w') :
  qhI Tryz.prog #[125,125] ty [.slice A n c,.slice (some ⟨g2,0,none⟩) 1 1] w K:=by
 obtain ⟨vs,h1,h2,h3⟩:=hO;have hc:=(qhH hv).cel;have hr:Row w (fun _=>True) 4 (some ⟨g2,0,none⟩) 1 1 v.cells.toList:=⟨Nat.le_refl _,by rw [Array.length_toList,hc.1],fun _=>⟨⟨g2,0,none⟩,rfl,trivial,fun j u hu=>by rw [q06,Nat.zero_add,hb2.cell]; simpa using hu⟩⟩;refine q7o qfr rfl Oq h1 hr (fun u hu=>List.all_eq_true.1 hc.2 u hu) Oq hb fun A' c' w' ho hk hat=>?_;have hat':A'=A∨∃ g,w.heap.size≤g∧A'=some ⟨g,0,none⟩:=hat.imp id fun h=>⟨_,Nat.le_refl _,h⟩;refine hK A' c' w' ⟨vs ++ [v],by rw [qfd]; exact ho,?_,by simp [h3]⟩ hk hat';have hs:=h2.snoc hv hc;exact ⟨hs.len,fun i y hy=>by
  obtain ⟨u,a,b,c⟩:=hs.get i y hy;exact ⟨u,a,b.grew hk hat',c⟩⟩
section
variable {D:Nat→Prop} {L:List Nat} {N0 g n i:Nat} {rows:List (List Int)} {ss:List (Option Addr × Nat × Nat)} {w w2 w3:World} {r:List Int} {x y:Nat} {a b V:Int}
def q5p (hT:q2i w) (hS:Sums w D L N0 g n rows ss) (hr0:rows[i]?=some r) (hx0:x < 18446744073709551616) (hy0:y < 18446744073709551616) (hxa:ofF x=some a) (hyb:ofF y=some b) (hV:mkV (a*b) (-131072)=some V) (hl:r.length≤1000000) (hf:Fr D w) :
  Calls Tryz.prog 64 #[.slice (some ⟨g,0,none⟩) n n,.int .i64 i,.int .u64 x,.int .u64 y] w fun e w'=>e=.returned (.tuple #[])∧Kp (fun k=>k ∉ L) w w'∧∃ L' ss',(∀ k ∈ L,k ∈ L')∧(∀ k ∈ L',k ∈ L∨w.heap.size≤k)∧Sums w' D L' N0 g n (rows.set i (r ++ [-V])) ss':=by
 obtain ⟨A,m,c,hss,hin,hcell,hrow⟩:=(hS.sub (D':=fun _=>True) fun _ _ _=>trivial).get hr0 fun _ _=>trivial;have hm:=hrow.sl_len;have e1:(0:Int)≤i∧(i:Int) < n:=by omega
 have hOi:=hS.row i _ r hss hr0;have hD:Fr (Dl D L) w:=fun k hk=>⟨hf k hk,fun hm=>by have:=hS.hi k hm; omega⟩;obtain ⟨X,hX1,hX2,hX3⟩:∃ X:List Nat,(∀ k,k ∉ X→nb A k)∧(∀ k ∈ X,k ∈ L∧k≠g)∧(∀ k,nb A k→k ∉ X):=by
  cases A with
  | none=>exact ⟨[],fun k _ a ha=>(by cases ha),fun k hk=>(by simp at hk),fun k _=>(by simp)⟩
  | some ad =>
   refine ⟨[ad.block],fun k hk a ha=>(by cases ha; simp at hk; exact fun e=>hk e.symm),fun k hk=>?_,fun k hk=>?_⟩
   ·simp at hk; subst hk; exact hS.mem i _ ad hss rfl
   ·simp; exact fun e=>hk ad rfl e.symm
 have hg0:g ∉ X:=fun h=>(hX2 g h).2 rfl;refine q0J Tryz.func64 rfl Tryz.ntmps64 (by kernel_rfl) ?_;have hx:Ext w w:=Kp.refl _ _;refine qaR q0l (Kp (fun k=>k ∉ X)) (fun _ _=>False) (Kp.pre _) [true,true,true,true,true,true,true,false,true,false,false,false,false,false,false,false] [false,false,false,false,false,false,false,false,false,false,false,false,false,false,false,false] [1,1,1,1,1,1,1,0,1,0,0,0,0,0,1,1] (by kernel_rfl) ?_
 apply Exists.intro
 refine ⟨fun wE hE KE hKE=>?_,fun wE hE KE hKE=>?_,fun wE hxE hr=>?_⟩
 ·have hcellE:=hE.cell (D:=fun k=>k ∉ X) (w':=wE) (by exact hg0) hcell;refine Zz2 e1 hcellE ?_;exact hKE
 ·exact hE.elim
 simp only [q2D,q2F,q2E];have hcellE:=hxE.cell (D:=fun _=>True) trivial hcell;have hnA:∀ k,k ∉ L→nb A k:=fun k hk a ha he=>hk (by have:=(hS.mem i _ a hss ha).1; rw [he] at this; exact this);simp -implicitDefEqProofs (disch:=omega) only [go_sem,Nat.reduceEqDiff,Nat.reduceAdd,↓reduceIte,List.toList_toArray,e1,hcellE];refine q0F qce (qfk (hT.ext hxE) hx0 hxa (hD.kp hxE)) ?_;rintro _ w7 ⟨v7,rfl,hx7,h7⟩; refine ⟨_,rfl,⟨hr.trans (Kp.of_ext hx7),?_⟩⟩;have hy7:=hxE.trans hx7;refine q0F qce (qfk (hT.ext hy7) hy0 hyb (hD.kp hy7)) ?_;rintro _ w9 ⟨v9,rfl,hx9,h9⟩; refine ⟨_,rfl,⟨(hr.trans (Kp.of_ext hx7)).trans (Kp.of_ext hx9),?_⟩⟩;have hy9:=hy7.trans hx9;refine q0F qlo (qtx (hT.ext hy9) (h7.ext hx9) h9 hV (hD.kp hy9)) ?_;rintro _ w10 ⟨v10,rfl,hx10,h10⟩; refine ⟨_,rfl,⟨((hr.trans (Kp.of_ext hx7)).trans (Kp.of_ext hx9)).trans (Kp.of_ext hx10),?_⟩⟩;have hy10:=hy9.trans hx10;refine q0F qlp (qtw (hT.ext hy10) h10 (hD.kp hy10)) ?_;rintro _ w11 ⟨v11,rfl,hx11,h11⟩; refine ⟨_,rfl,⟨(((hr.trans (Kp.of_ext hx7)).trans (Kp.of_ext hx9)).trans (Kp.of_ext hx10)).trans (Kp.of_ext hx11),?_⟩⟩;have hy11:=hy10.trans hx11;obtain ⟨s0,A0,n0,c0,rfl,_⟩:=id h11;rw [quX];refine q3i fun w12 hx12 hb12 hs12=>⟨((((hr.trans (Kp.of_ext hx7)).trans (Kp.of_ext hx9)).trans (Kp.of_ext hx10)).trans (Kp.of_ext hx11)).trans (Kp.of_ext hx12),?_⟩;have hy12:=hy11.trans hx12;have hr12:=((((hr.trans (Kp.of_ext hx7)).trans (Kp.of_ext hx9)).trans (Kp.of_ext hx10)).trans (Kp.of_ext hx11)).trans (Kp.of_ext hx12);have hS12:=hS.ext hy12;have hO12:q4A fV 74 4 w12 (Dl D L) N0 A m c r:=hS12.row i _ r hss hr0;have h12:=h11.ext hx12;refine appV hO12 (h12.sub fun k _ hd=>⟨hd,hnA k hd.2⟩) hb12 Oq (by have:=hS.lo g hS.gL; have:=hS.hi g hS.gL; have:=hy12.size; omega) fun A' c' w13 hO13 hk13 hat=>⟨hr12.trans (hk13.mono fun k _ hk=>hX1 k hk),?_⟩;have hown:Own w13 N0 125 1 (some ⟨g,0,none⟩) n n (ss.map slv):=hS12.own.kp hk13 fun a ha b hb=>by
  cases ha;exact (hS.mem i _ b hss hb).2
 refine qac hown hin qde rfl rfl fun w14 hO14 hk14 hs14=>?_;have hO14':Own w14 N0 125 1 (some ⟨g,0,none⟩) n n ((ss.set i (A',m+1,c')).map slv):=by rw [List.map_set]; exact hO14
 obtain ⟨L',g1,g2,g3⟩:=hS12.push hss hO13 hk13 hat hO14' hk14 hs14;refine ret0n rfl ⟨rfl,?_,L',_,g1,fun k hk=>?_,g3⟩
 ·exact ((hy12.mono fun _ _ _=>trivial).trans (hk13.mono fun k _ hk=>hnA k hk)).trans (hk14.mono fun k _ hk e=>hk (e ▸ hS.gL))
 ·rcases g2 k hk with h | h
  ·exact .inl h
  ·exact .inr (Nat.le_trans hy12.size h)
end
def newRow {w1 w2:World} {D:Nat→Prop} {N0:Nat} {V:Int} {v:Value} (hb:Blk w2 w1.heap.size 74 v.cells) (hv:In (fV V) (fun k=>D k∧nb (some ⟨w1.heap.size,0,none⟩) k) v w2) (hN:N0≤w1.heap.size):q4A fV 74 4 w2 D N0 (some ⟨w1.heap.size,0,none⟩) 1 1 [V]:=by
 have hc:=(qhH hv).cel;have h1:=Own.made (w:=w2) (w':=w1) (B:=N0) (sz:=4) (n:=1) (c:=1) hb (Nat.le_refl _) (by simp [maxLen]) (by rw [hc.1]) hN;refine ⟨[v],?_,by simpa using (Els.nil (G:=fV) (sz:=4)).snoc hv hc,rfl⟩;have:v.cells.toList.take (1*4)=q0h [v]:=by
  rw [List.take_of_length_le (by rw [Array.length_toList,hc.1]; omega)]; simp [q0h]
 rw [← this]; exact h1
def q7Q (vals:List Int) (i n:Nat):List (List Int):=(vals.take i).map (fun V=>[V]) ++ List.replicate (n-i) []
def qeC {vals:List Int} {i n:Nat} {V:Int} (hV:vals[i]?=some V) (hn:vals.length=n):(q7Q vals i n).set i [V]=q7Q vals (i+1) n:=by
 obtain ⟨hlt,he⟩:=List.getElem?_eq_some_iff.1 hV;unfold q7Q;rw [List.take_succ_eq_append_getElem hlt,he,List.map_append,show n-i=(n-(i+1))+1 by omega,List.replicate_succ,List.set_append_right _ _ (by simp; omega)];simp [Nat.min_eq_left (Nat.le_of_lt hlt)]
def qbg {D:Nat→Prop} {A:Option Addr} {n c:Nat} {l:List Nat} {vals:List Int} {w:World} (hT:q2i w) (h:In (fSc q2h l) D (.slice A n c) w) (hl:vals.length=l.length) (hn:n≤1000000) (hv:∀ (i x:Nat),l[i]?=some x→x < 18446744073709551616∧∃ V,vals[i]?=some V∧ofF x=some V) (hf:Fr D w) :
  Calls Tryz.prog 59 #[.slice A n c] w fun e w'=>e=.returned (.slice (some ⟨w.heap.size,0,none⟩) n n)∧Ext w w'∧∃ L ss,Sums w' D L w.heap.size w.heap.size n (vals.map fun V=>[V]) ss:=by
 have hln:=h.sc_len;refine q0J Tryz.func59 rfl Tryz.ntmps59 (by kernel_rfl) ?_;refine Wz ?_;refine q0A fun K hK=>?_;refine Zz ?_;refine q6D (Nat.le_refl _) Oq (by unfold maxLen; omega) fun w0 hx0 hO0 hs0=>?_;generalize hg:w.heap.size=g at hO0;refine hK _ _ ?_; clear hK;refine q0B fun K0 hK0=>?_;refine Wz ?_;have hS0:Sums w0 D [g] g g n (q7Q vals 0 n) (List.replicate n (none,0,0)):=by
  refine ⟨by simpa [slv] using hO0,by simp [q7Q],?_,?_,?_,by simp,?_,?_⟩
  ·intro i s r hs hr;rw [List.getElem?_replicate] at hs;simp only [q7Q,List.take_zero,List.map_nil,List.nil_append,List.getElem?_replicate] at hr
   split at hs
   ·split at hr
    ·cases hs;cases hr;exact q4A.nil
    ·cases hr
   ·cases hs
  ·intro i s a hs ha;rw [List.getElem?_replicate] at hs
   split at hs
   ·cases hs;cases ha
   ·cases hs
  ·intro i j s t a b _ hs _ ha _;rw [List.getElem?_replicate] at hs
   split at hs
   ·cases hs;cases ha
   ·cases hs
  ·intro k hk;simp at hk;omega
  ·intro k hk;simp at hk;omega
 refine q0X ?_;refine q0a (fun e2 w'=>∃ (i:Nat) (L:List Nat) (ss:List (Option Addr × Nat × Nat)),e2 11=.int .i64 i∧i≤n∧Ext w w'∧Sums w' D L g g n (q7Q vals i n) ss∧∀ j,i≤j→j < n→ss[j]?=some (none,0,0)) (fun e2 _=>n-(RowKit.intOf (e2 11)).toNat) ⟨0,_,_,rfl,Nat.zero_le _,hx0,hS0,fun j _ hj=>by rw [List.getElem?_replicate,if_pos hj]⟩ ?_;rintro e1 w1 ⟨i,L,ss,k11,hi,hx,hS,hss⟩ hkk;have k3:e1 3=.slice (some ⟨g,0,none⟩) n n:=(hkk 3 (by kernel_rfl)).trans Ue;have k9:e1 9=.slice A n c:=(hkk 9 (by kernel_rfl)).trans Ue;have k10:e1 10=.int .i64 n:=(hkk 10 (by kernel_rfl)).trans Ue;clear hkk
 by_cases hlt:i < n
 ·have hlt':(i:Int) < n:=by omega
  refine Wz3 k11 k10 hlt' ?_;refine q0B fun K1 hK1=>?_;refine Wt (q0G (hK1 _ _ ?_));clear hK1;refine q0N fun K hK=>?_;obtain ⟨x,hxi⟩:∃ x,l[i]?=some x:=⟨_,List.getElem?_eq_getElem Oq⟩;obtain ⟨hx1,V,hV1,hV2⟩:=hv i x hxi;obtain ⟨ad,rfl,i1,x1⟩:=(h.ext hx).ixU hxi;have hD:Fr (Dl D L) w1:=fun k hk=>⟨hf k (Nat.le_trans hx.size hk),fun hm=>by have:=hS.hi k hm; omega⟩;refine Wz4 k9 k11 i1 x1 ?_;refine q0Q fun K9 hK9=>?_;refine Zz2 k3 i1 ?_;refine Cr qce (qfk (hT.ext hx) hx1 hV2 hD) fun v5 w5 hx5 h5=>?_;obtain ⟨s0,A0,n0,c0,rfl,_⟩:=id h5;simp -implicitDefEqProofs (disch:=omega) only [go_sem,Nat.reduceEqDiff,Nat.reduceAdd,↓reduceIte,quX];refine q3i fun w6 hx6 hb6 hs6=>?_;have hS5:=hS.ext hx5;have hg5:=hS5.hi g hS5.gL;have hOn:=newRow hb6 ((h5.sub (D':=fun k=>Dl D L k∧nb (some ⟨w5.heap.size,0,none⟩) k) fun k hk hd=>⟨hd,fun a ha e=>by cases ha; simp only at e; omega⟩).ext hx6) (Nat.le_of_lt hg5);have hsi:=hss i (Nat.le_refl _) hlt;refine qac (hS5.ext hx6).own hlt qde rfl rfl fun w7 hO7 hk7 hs7=>?_;refine hK9 _ _ ?_; clear hK9;have hO7':Own w7 g 125 1 (some ⟨g,0,none⟩) n n ((ss.set i (some ⟨w5.heap.size,0,none⟩,1,1)).map slv):=by rw [List.map_set]; exact hO7
  obtain ⟨L',g1,g2,g3⟩:=hS5.push hsi hOn (Kp.of_ext hx6) (.inr ⟨_,Nat.le_refl _,rfl⟩) hO7' hk7 hs7;rw [qeC hV1 (by omega)] at g3;refine hK _ _ ?_; clear hK;refine q0Q fun K9 hK9=>?_;refine Zz2 k11 @i64_in ?_;refine hK9 _ _ ?_; clear hK9 K9;refine ⟨⟨i+1,L',_,rfl,by omega,((hx.trans hx5).trans hx6).under hk7 fun k hk=>by omega,g3,fun j hj1 hj2=>?_⟩,by simp only [q0E,↓reduceIte,RowKit.intOf,k11]; omega⟩;rw [List.getElem?_set_ne (by omega)]; exact hss j Oq hj2
 ·have hlt':¬ (i:Int) < n:=by omega
  refine Wz3 k11 k10 hlt' ?_;refine q0B fun K1 hK1=>?_;refine Wf (q04 (hK0 _ _ ?_));obtain rfl:i=n:=by omega
  have hr:q7Q vals i i=vals.map fun V=>[V]:=by
   unfold q7Q; rw [List.take_of_length_le Oq,Nat.sub_self]; simp
  rw [hr] at hS;refine Wz1 k3 ?_;refine q0O ?_
  try simp only [q0D,q0S]
  refine q1S rfl ⟨by simp only [q0E,Nat.reduceEqDiff,↓reduceIte,hg],hx,L,ss,by rw [hg]; exact hS⟩
end Go.Proofs.YtbcmhlhgljoolaaGreatDoor
namespace Go.Sp
open Go Go.E
def q5B (raw:List Nat):Nat→List Int
 | 0=>[]
 | i+1=>(q5B raw i).take (q19 ((q5H raw (700+i) / 2:Nat):Int) (i+1)) ++ [(i:Int)] ++ (q5B raw i).drop (q19 ((q5H raw (700+i) / 2:Nat):Int) (i+1))
def q6A (raw:List Nat):∀ n,(q5B raw n).length=n
 | 0=>rfl
 | n+1=>by
  have ih:=q6A raw n;have:=q70 (a:=((q5H raw (700+n) / 2:Nat):Int)) (n:=n+1) Oq;unfold q5B;simp only [List.length_append,List.length_take,List.length_drop,List.length_singleton,ih];omega
def q7Y (raw:List Nat):∀ n (x:Int),x ∈ q5B raw n→0≤x∧x < n
 | 0,x,h=>by simp [q5B] at h
 | n+1,x,h=>by
  unfold q5B at h;rw [List.mem_append,List.mem_append] at h
  rcases h with (h | h) | h
  ·have:=q7Y raw n x (List.mem_of_mem_take h); omega
  ·simp at h; omega
  ·have:=q7Y raw n x (List.mem_of_mem_drop h); omega
def q8Y (raw:List Nat):∀ n,(q5B raw n).Nodup
 | 0=>by simp [q5B]
 | n+1=>by
  have ih:=q8Y raw n;unfold q5B;generalize q19 _ _=p;have hp:((q5B raw n).take p ++ [(n:Int)] ++ (q5B raw n).drop p).Perm ((n:Int) :: q5B raw n):=by
   rw [List.append_assoc];have h1:((q5B raw n).take p ++ (n:Int) :: (q5B raw n).drop p).Perm ((n:Int) :: ((q5B raw n).take p ++ (q5B raw n).drop p)):=List.perm_middle;rw [List.take_append_drop] at h1;exact h1
  rw [hp.nodup_iff,List.nodup_cons];exact ⟨fun h=>by have:=q7Y raw n _ h; omega,ih⟩
end Go.Sp
namespace Go.Proofs.YtbcmhlhgljoolaaGreatDoor
open Go.Sp
def qiM (raw:List Nat) (n:Nat):qlD (q5B raw n):=⟨fun x hx=>by rw [q6A]; exact q7Y raw n x hx,q8Y raw n⟩
end Go.Proofs.YtbcmhlhgljoolaaGreatDoor
namespace Go.Sp
open Go Go.E
def ofZ (x:Nat):Int:=(ofF x).getD 0
def q1e (x y:Nat):Int:=(mkV (ofZ x*ofZ y) (-131072)).getD 0
def q59 {f:Nat} (hf:q0Y f):∃ (m:Int) (k:Nat),ofF f=some (m*(2:Int) ^ k)∧bl m.natAbs≤53∧64462≤k∧k≤66507:=by
 unfold q0Y at hf;have hx:=Nat.mod_lt (f / 4503599627370496) (show 0 < 2048 by omega);have hm:=Nat.mod_lt f (show 0 < 4503599627370496 by omega);unfold ofF;rw [if_neg hf];generalize f / 4503599627370496 % 2048=x at *;generalize f % 4503599627370496=m at *;have h53:∀ n:Nat,n < 9007199254740992→bl n≤53:=fun n h=>q0T (Nat.lt_of_lt_of_le h (Nat.le_refl _))
 split
 ·exact ⟨_,64462,rfl,by rw [q1R]; exact h53 _ Oq,by omega,by omega⟩
 ·exact ⟨_,64461+x,rfl,by rw [q1R]; exact h53 _ Oq,by omega,by omega⟩
def q0t {f:Nat} {V:Int} (h:ofF f=some V):ofZ f=V:=by unfold ofZ; rw [h]; rfl
def q0g {f:Nat} (hf:q0Y f):ofF f=some (ofZ f):=by
 obtain ⟨m,k,h,_⟩:=q59 hf;rw [q0t h,h]
def q6B {f:Nat} (hf:q0Y f):bl (ofZ f).natAbs≤67600:=by
 obtain ⟨m,k,h,h1,h2,h3⟩:=q59 hf;rw [q0t h]
 by_cases hm:m=0
 ·subst hm; rw [Int.zero_mul]; simp [q1c]
 ·rw [q0U,q1i (by omega)]; omega
def q0u {x y:Nat} (hx:q0Y x) (hy:q0Y y):mkV (ofZ x*ofZ y) (-131072)=some (q1e x y)∧bl (q1e x y).natAbs≤67600:=by
 obtain ⟨m,k,h,h1,h2,h3⟩:=q59 hx;obtain ⟨m',k',h',h1',h2',h3'⟩:=q59 hy;have e:ofZ x*ofZ y=m*m'*(2:Int) ^ (k+k'):=by
  rw [q0t h,q0t h',Int.pow_add];simp only [Int.mul_assoc,Int.mul_left_comm,Int.mul_comm]
 unfold q1e;rw [e,q3T]
 by_cases hM:m*m'=0
 ·rw [hM,q2R]; exact ⟨rfl,by simp [q1c]⟩
 ·have hb:bl (m*m').natAbs≤106:=by
   rw [Int.natAbs_mul];exact Nat.le_trans (q2K _ _) Oq
  generalize m*m'=M at *;have ht:=qh3 (n:=M.natAbs) Oq;unfold mkV;rw [if_neg hM,if_pos (by omega)];refine ⟨rfl,?_⟩;have ho:=qaG hM;have hne:=q3c hM;rw [Option.getD_some,q0U,q1i (by omega)];omega
end Go.Sp
namespace Go.Proofs.YtbcmhlhgljoolaaGreatDoor
open Go Go.E Go.Sp
def qd6 (f:Fac) (q:Nat):Nat→Nat→List (List Int)→List (List Int)
 | _,0,rows=>rows
 | p,c+1,rows=>qd6 f q (p+1) c (rows.set (f.ri.getD p 0).toNat (rows.getD (f.ri.getD p 0).toNat [] ++ [-(q1e (f.vs.getD p 0) q)]))
def qhG (f:Fac):List Int→List (List Int)→List Nat→Option (List Nat)
 | [],_,ys=>some ys
 | k :: ks,rows,ys =>
  if q0Y (fQ 0 (q1I (rows.getD k.toNat [])) (ofZ (f.vs.getD (f.cp.getD k.toNat 0).toNat 0))) then
   qhG f ks (qd6 f (fQ 0 (q1I (rows.getD k.toNat [])) (ofZ (f.vs.getD (f.cp.getD k.toNat 0).toNat 0))) ((f.cp.getD k.toNat 0).toNat+1) ((f.cp.getD (k.toNat+1) 0).toNat-((f.cp.getD k.toNat 0).toNat+1)) rows) (ys.set k.toNat (fQ 0 (q1I (rows.getD k.toNat [])) (ofZ (f.vs.getD (f.cp.getD k.toNat 0).toNat 0))))
  else none
def getD_some {α:Type} {l:List α} {i:Nat} {x d:α} (h:l[i]?=some x):l.getD i d=x:=by rw [List.getD_eq_getElem?_getD,h]; rfl
def q8d {f:Fac} {k a b x:Nat} {ks:List Int} {rows:List (List Int)} {ys:List Nat} {r:List Int} (ha:f.cp[k]?=some (a:Int)) (hb:f.cp[k+1]?=some (b:Int)) (hx:f.vs[a]?=some x) (hr:rows[k]?=some r) :
  qhG f ((k:Int) :: ks) rows ys=if q0Y (fQ 0 (q1I r) (ofZ x)) then qhG f ks (qd6 f (fQ 0 (q1I r) (ofZ x)) (a+1) (b-(a+1)) rows) (ys.set k (fQ 0 (q1I r) (ofZ x))) else none:=by
 rw [qhG,show ((k:Int)).toNat=k by omega,getD_some ha,getD_some hb,getD_some hr,show ((a:Int)).toNat=a by omega,show ((b:Int)).toNat=b by omega,getD_some hx]
def q8N {f:Fac} {q p c i x:Nat} {rows:List (List Int)} {r:List Int} (hi:f.ri[p]?=some (i:Int)) (hx:f.vs[p]?=some x) (hr:rows[i]?=some r) :
  qd6 f q p (c+1) rows=qd6 f q (p+1) c (rows.set i (r ++ [-(q1e x q)])):=by
 show qd6 f q (p+1) c _=_
 rw [getD_some hi,show ((i:Int)).toNat=i by omega,getD_some hx,getD_some hr]
def qab {f:Fac} {q:Nat}:∀ (c p:Nat) (rows:List (List Int)),(qd6 f q p c rows).length=rows.length
 | 0,_,_=>rfl
 | c+1,p,rows=>by
  show (qd6 f q (p+1) c _).length=_
  rw [qab]; simp
def Col.mono {f:Fac} {j a b:Nat} (h:Col f j a b):∀ (d p:Nat) (y z:Int),a≤p→p+d < b→f.ri[p]?=some y→f.ri[p+d]?=some z→(if d=0 then y=z else y < z)
 | 0,p,y,z,_,_,h1,h2=>by
  rw [if_pos rfl];rw [Nat.add_zero,h1] at h2; exact Option.some.inj h2
 | d+1,p,y,z,ha,hb,h1,h2=>by
  rw [if_neg (by omega)];obtain ⟨u,v,hu,hv,huv⟩:=h.inc (p+(d+1)) Oq hb;rw [h2] at hv;obtain rfl:=Option.some.inj hv;have:=h.mono d p y u ha Oq h1 (by rw [show p+d=p+(d+1)-1 by omega]; exact hu)
  split at this <;> omega
def Col.row {f:Fac} {j a b p:Nat} (h:Col f j a b) (hn:f.pm.length≤200) (h1:a < p) (h2:p < b):∃ i:Nat,f.ri[p]?=some (i:Int)∧j < i∧i < f.pm.length:=by
 have hle:=h.le;obtain ⟨z,hz⟩:∃ z,f.ri[p]?=some z:=⟨_,List.getElem?_eq_getElem Oq⟩;have m1:=h.mono (p-a) a j z (Nat.le_refl _) Oq h.first (by rw [show a+(p-a)=p by omega]; exact hz)
 rw [if_neg (by omega)] at m1;obtain ⟨l,hl,hlt⟩:=h.last;have m2:=h.mono (b-1-p) p z l Oq Oq hz (by rw [show p+(b-1-p)=b-1 by omega]; exact hl);have:z≤l:=by split at m2 <;> omega
 refine ⟨z.toNat,?_,by omega,by omega⟩;rw [hz]; congr 1; omega
def q3K (f:Fac) (x:Int):Nat→Nat→Nat
 | _,0=>0
 | a,k+1=>if f.ri[a]?=some x then f.vs.getD a 0 else q3K f x (a+1) k
def qfM {l:List Nat} {i:Nat} (h:∀ x ∈ l,x < 18446744073709551616∧q0Y x):l.getD i 0 < 18446744073709551616∧q0Y (l.getD i 0):=by
 rw [List.getD_eq_getElem?_getD];cases hx:l[i]? with
 | none=>exact ⟨by simp,by unfold q0Y; simp⟩
 | some x=>exact h x (List.mem_of_getElem? hx)
def q8V {x:Nat} {V:Int} (hx:x < 18446744073709551616) (hv:ofF x=some V):ACt 38 [uv x] (pV V):=q6u quS fun D w vs hT hF hR=>by
 obtain ⟨_,rfl,h3⟩:=qal hR;rw [q6W h3];exact rOf_v hT hx hv hF
def clI {l:List Int}:ClL (l.map fun z=>iv z):=fun x hx=>by
 obtain ⟨e,_,rfl⟩:=List.mem_map.1 hx
 trivial
def qr6 {id m n:Nat} (h:m≤n):slP (some 1) none (some (iv (m:Int))) (.ow id none 0 n)=some (.ow id none 0 m):=by
 simp [slP,qcv,ksz];omega
def qr5 {id m n:Nat} (h:m≤n):slP (some 1) (some (iv (m:Int))) none (.ow id none 0 n)=some (.ow id none m (n-m)):=by
 simp [slP,qcv,ksz];omega
def qiL {raw:List Nat} {N:Nat} (hr:raw.length≤9223372036854775807) (hN:N≤1000000):ACt 32 [pF raw,iv N] (pI (q5B raw N)):=by
 have hol:=q6A raw;refine ac0 Tryz.func32 Tryz.ntmps32 [.tmp 4] ?_;refine wk ?_;refine q0L (fun i=>i≤N) [0,1] [] Lk Lk (fun i:Nat=>[(6,iv i),(5,.ow 1001 none 0 i)]) (fun i=>[(1001,⟨3,none,(q5B raw i).map fun z=>iv z,false⟩)]) (fun i=>N-i) 0 (Nat.zero_le _) ?_ ?_
 ·refine LeM [(1001,some 8)] rfl rfl ?_;refine Zz ?_;exact ⟨rfl,rfl⟩
 ·intro i hi
  by_cases hlt:i < N
  ·have C1:=q9J (raw:=raw) (k:=700+(i:Int)) hr Oq Oq;have C2:=q6k (a:=((q5H raw (700+(i:Int)) / 2:Nat):Int)) (n:=i+1) Oq (by have:=q3p raw (700+(i:Int)); omega) Oq Oq;have e2':IntKind.i64.wrap ((i:Int)+1)=((i+1:Nat):Int):=by rw [i64_in (by omega) (by omega)]; omega
   have e3':IntKind.i64.wrap ((q5H raw (700+i) / 2:Nat):Int)=((q5H raw (700+i) / 2:Nat):Int):=i64_in Oq (by have:=q3p raw (700+(i:Int)); omega);have hs:q5B raw (i+1)=(q5B raw i).take (q19 ((q5H raw (700+i) / 2:Nat):Int) (i+1)) ++ [(i:Int)] ++ (q5B raw i).drop (q19 ((q5H raw (700+i) / 2:Nat):Int) (i+1)):=rfl;have hlt2:=q70 (a:=((q5H raw (700+i) / 2:Nat):Int)) (n:=i+1) Oq;have hl:=hol i;generalize q19 ((q5H raw (700+i) / 2:Nat):Int) (i+1)=m at *;generalize q5B raw i=L at *;have f1:slP (some 1) none (some (iv (m:Int))) (.ow 1001 none 0 i)=some (.ow 1001 none 0 m):=qr6 Oq;have f2:slP (some 1) (some (iv (m:Int))) none (.ow 1001 none 0 i)=some (.ow 1001 none m (i-m)):=qr5 Oq;have f3:(List.take m (List.map (fun z=>iv z) L)).length=m:=by
    rw [List.length_take,List.length_map];omega
   have f4:(List.drop m (List.map (fun z=>iv z) L)).length=i-m:=by rw [List.length_drop,List.length_map,hl]
   have f5:List.take (i-m) (List.drop m (List.map (fun z=>iv z) L))=List.drop m (List.map (fun z=>iv z) L):=List.take_of_length_le Oq;refine wk1 (x6 e2' e3' hl f1 f2 (x3 f3 f4 f5)) ?_;refine ⟨i+1,by omega,by omega,?_⟩;rw [hs];have f6:(List.take m (List.map (fun z=>iv z) L) ++ [iv (i:Int)] ++ List.drop m (List.map (fun z=>iv z) L))=(List.take m L ++ [(i:Int)] ++ List.drop m L).map fun z=>iv z:=by simp
   refine LeM [(1001,some 34)] rfl rfl ?_;refine Zz ?_;rw [f6];exact ⟨by omega,q1A rfl clI⟩
  ·obtain rfl:i=N:=by omega
   exact wk1 (hol i) trivial
end Go.Proofs.YtbcmhlhgljoolaaGreatDoor
namespace Go.Sp
open Go Go.E
def q6U {a:Nat} (ha:a < 18446744073709551616):q0y .andNot .u64 (a:Int) 9223372036854775808=((a % 9223372036854775808:Nat):Int):=by
 have h2:(BitVec.ofInt 64 (a:Int) &&& ~~~(BitVec.ofInt 64 9223372036854775808)).toNat=a % 9223372036854775808:=by
  rw [show ~~~(BitVec.ofInt 64 9223372036854775808)=BitVec.ofNat 64 9223372036854775807 from rfl,q43,BitVec.toNat_and,BitVec.toNat_ofNat,BitVec.toNat_ofNat,Nat.mod_eq_of_lt ha];exact Nat.and_two_pow_sub_one_eq_mod a 63
 show IntKind.u64.wrap ((BitVec.ofInt 64 (a:Int) &&& ~~~(BitVec.ofInt 64 9223372036854775808)).toNat:Int)=_
 rw [h2,q1O];omega
def q7t (f:Nat):Nat:=f % 9223372036854775808
def q6i (f:Nat):Nat:=if f < 9223372036854775808 then f+9223372036854775808 else f-9223372036854775808
def qbE (f:Nat):Int:=if 9223372036854775808≤f then -(q7t f:Int) else q7t f
def qqX (a b:Int):Int:=if a < b then -1 else if b < a then 1 else 0
def q7s {f:Nat}:q7t f < 9223372036854775808:=Nat.mod_lt _ Oq
def qbl {f:Nat} (h:q0Y f):q0Y (q7t f):=by unfold q0Y q7t at *; omega
def qbC {f:Nat} (h:q0Y f):q75 f≠3:=by unfold q0Y at h; unfold q75; rw [if_neg fun q=>h q.1,if_neg h]; split <;> omega
def qev {f:Nat} (hf:f < 18446744073709551616):q75 f=0 ↔ q7t f=0:=by
 unfold q75 q7t
 constructor
 ·intro h
  split at h
  ·cases h
  ·split at h
   ·cases h
   ·split at h
    ·omega
    ·cases h
 ·intro h;rw [if_neg (by omega),if_neg (by omega),if_pos (by omega)]
end Go.Sp
namespace Go.Proofs.YtbcmhlhgljoolaaGreatDoor
open Go Go.E Go.Sp
section
variable {f g:Nat}
def q7c (hf:f < 18446744073709551616):ACt 79 [uv f] (iv (q75 f:Nat)):=by
 have C1:=@q6N f hf;unfold q75;generalize f / 4503599627370496 % 2048=x at *;generalize f % 4503599627370496=m at *;refine ac0 Tryz.func79 Tryz.ntmps79 [.tmp 2] ?_
 by_cases hx2:x=2047
 ·by_cases hm0:m=0
  ·rw [if_neg (by simp [hm0]),if_pos hx2];exact wk1 (show ((2:Nat):Int)=2 from rfl) trivial
  ·rw [if_pos ⟨hx2,hm0⟩];exact wk1 (show ((3:Nat):Int)=3 from rfl) trivial
 ·rw [if_neg fun h=>hx2 h.1,if_neg hx2]
  by_cases hx0:x=0
  ·by_cases hm0:m=0
   ·rw [if_pos ⟨hx0,hm0⟩];exact wk1 (show ((0:Nat):Int)=0 from rfl) trivial
   ·rw [if_neg fun h=>hm0 h.2];exact wk1 (show ((1:Nat):Int)=1 from rfl) trivial
  ·rw [if_neg fun h=>hx0 h.1];exact wk1 (show ((1:Nat):Int)=1 from rfl) trivial
def qfm {l:List Nat} (hl:q1f l) (hn:l.length≤1000):ACt 201 [pF l] (bv false):=by
 refine ac0 Tryz.func201 Tryz.ntmps201 [.tmp 2] ?_;refine wk ?_;refine q0L (fun i=>i≤l.length) [5,6] [] Lk Lk (fun i:Nat=>[(7,iv i)]) (fun _=>[]) (fun i=>l.length-i) 0 (Nat.zero_le _) ?_ ?_
 ·refine LeM [] rfl rfl ?_;refine Zz ?_
  rfl
 ·intro i hi
  by_cases hlt:i < l.length
  ·obtain ⟨x,hx⟩:∃ x,l[i]?=some x:=⟨_,List.getElem?_eq_getElem hlt⟩;obtain ⟨h1,h2⟩:=hl x (List.mem_of_getElem? hx);have C1:=q7c h1;have q:(((q75 x:Nat):Int) == 3)=false:=by
    have:=qbC h2;simp; omega
   refine wk1 (x2 hx q) ?_;refine ⟨i+1,by omega,by omega,?_⟩;refine LeM [] rfl rfl ?_;refine Zz ?_;omega
  ·exact wk trivial
def q8j (hf:f < 18446744073709551616):ACt 202 [uv f] (iv (qbE f)):=by
 have C1:=@qfl f hf;have h1:=q6U hf;have h2:=q7s (f:=f);unfold qbE;rw [show f % 9223372036854775808=q7t f from rfl] at h1;refine ac0 Tryz.func202 Tryz.ntmps202 [.tmp 2] ?_
 by_cases h:9223372036854775808≤f
 ·rw [if_pos h];rw [decide_eq_true h] at C1;exact wk1 (x2 h1 @Int.zero_sub) trivial
 ·rw [if_neg h];rw [decide_eq_false h] at C1;exact wk1 h1 trivial
def qo2 (hf:f < 18446744073709551616) (h:q0Y f):ACt 140 [uv f] (uv (q7t f:Nat)):=by
 have C1:ACt 201 [.sl none [uv f]] (bv false):=qfm (l:=[f]) (fun x hx=>by simp at hx; subst hx; exact ⟨hf,h⟩) (by simp);have N1:Nz (bv false):=qs7;have h1:=q6U hf;rw [show f % 9223372036854775808=q7t f from rfl] at h1;refine ac0 Tryz.func140 Tryz.ntmps140 [.tmp 2] ?_;exact wk1 h1 trivial
def qo1 (hf:f < 18446744073709551616) (h:q0Y f) (hg:g < 18446744073709551616) (hgf:q0Y g):ACt 139 [uv f,uv g] (.tu [iv (qqX (qbE f) (qbE g)),bv true]):=by
 have C1:ACt 201 [.sl none [uv f,uv g]] (bv false):=qfm (l:=[f,g]) (fun x hx=>by simp at hx; rcases hx with rfl | rfl <;> exact ⟨by assumption,by assumption⟩) (by simp);have N1:Nz (bv false):=qs7;have C2:=q8j hf;have C3:=q8j hg;unfold qqX;generalize qbE f=x at *;generalize qbE g=y at *;refine ac0 Tryz.func139 Tryz.ntmps139 [.tmp 4,.tmp 5] ?_
 by_cases h1:x < y
 ·rw [if_pos h1];exact wk trivial
 ·rw [if_neg h1]
  by_cases h2:y < x
  ·rw [if_pos h2];exact wk trivial
  ·rw [if_neg h2];exact wk trivial
end
def q9W {a:Int} (ha:bl a.natAbs≤20000000):ACt 151 [bT a] (bT a.natAbs):=q1N (r:=.fm (fB a.natAbs)) (fun D w v h=>q1B.2 (q2z h)) (q6u qg4 fun D w vs hT hF hR=>by
 obtain ⟨_,rfl,h3⟩:=qal hR;exact qeU (q1B.1 h3) ha hF)
def qmc {a:Int} (ha:bl a.natAbs≤20000000):ACt 172 [bT a] (bT (-a)):=q1N (r:=.fm (fB (-a))) (fun D w v h=>q1B.2 (q2z h)) (q6u qg0 fun D w vs hT hF hR=>by
 obtain ⟨_,rfl,h3⟩:=qal hR;exact qsI (q1B.1 h3) ha hF)
def qee {V:Int} (h:q0k V):mkV (-od V) (dyE V)=some (-V):=by
 have:=qau (qbV h)
 rwa [qko,qfu] at this
def qnf {V:Int} (h:q0k V):mkV ((od V).natAbs:Int) (dyE V)=some (V.natAbs:Int):=by
 have hs:=q1u V
 by_cases hv:V < 0
 ·rw [decide_eq_true hv] at hs;have ho:od V < 0:=of_decide_eq_true hs;rw [show ((od V).natAbs:Int) = -od V by omega,show (V.natAbs:Int) = -V by omega];exact qee h
 ·rw [decide_eq_false hv] at hs;have ho:¬ od V < 0:=of_decide_eq_false hs;rw [show ((od V).natAbs:Int)=od V by omega,show (V.natAbs:Int)=V by omega];exact qau h
def qoj {V:Int}:ACt 112 [pV V] (pV (-V)):=qvV qls fun ho=>by
 have hb:=q3b ho;have h1:=qfv (V:=V);have h2:=qbW ho;have cN:=q1P ho;have cB:=qmc (a:=od V) Oq;have cM:=q3a rfl (m := -od V) (e:=dyE V) (by rw [Int.natAbs_neg]; omega) (by omega) (by omega) (qee ho);unfold dT at cN ⊢;unfold bT at cB cM;refine ac0 Tryz.func112 Tryz.ntmps112 [.cell 2 74] ?_;exact wk trivial
def qok {V:Int}:ACt 92 [pV V] (pV (V.natAbs:Int)):=qvV quJ fun ho=>by
 have hb:=q3b ho;have h1:=qfv (V:=V);have h2:=qbW ho;have cN:=q1P ho;have cB:=q9W (a:=od V) Oq;have cM:=q3a rfl (m:=((od V).natAbs:Int)) (e:=dyE V) (by rw [Int.natAbs_natCast]; omega) (by omega) (by omega) (qnf ho);unfold dT at cN ⊢;unfold bT at cB cM;refine ac0 Tryz.func92 Tryz.ntmps92 [.cell 2 74] ?_;exact wk trivial
def q1m {a:Int} (ha:bl a.natAbs≤20000000):ACt 148 [bT a] (iv a.sign):=qvU qlm fun D w vs hT hF hR=>by
 obtain ⟨_,rfl,h3⟩:=qal hR;exact qeJ (q1B.1 h3) ha hF
def q4J {a m:Int} (ha:bl a.natAbs≤20000000) (h1 : -1000000000≤m) (h2:m≤1000000000):ACt 154 [bT a,iv m] (bT (shI a m)):=q1N (r:=.fm (fB (shI a m))) (fun D w v h=>q1B.2 (q2z h)) (q6u qg2 fun D w vs hT hF hR=>by
 obtain ⟨_,_,rfl,h3,h4⟩:=q6Y hR;rw [q6W h4];exact q7U (q1B.1 h3) ha h1 h2 hF)
structure Aln (A B x y e:Int):Prop where
 e1 : -65536≤e
 e2:e≤65536
 a:x*(2:Int) ^ (e+65536).toNat=A
 b:y*(2:Int) ^ (e+65536).toNat=B
def qen {x V:Int} {k:Nat} (h:x*(2:Int) ^ k=V) (hv:q0k V):bl x.natAbs≤131072:=by
 subst h;unfold q0k at hv;rw [q0U] at hv
 by_cases h0:x.natAbs=0
 ·rw [h0]; simp [bl]
 ·rw [q1i h0] at hv; omega
def Aln.bl {A B x y e:Int} (h:Aln A B x y e) (ha:q0k A) (hb:q0k B):Sp.bl x.natAbs≤131072∧Sp.bl y.natAbs≤131072:=⟨qen h.a ha,qen h.b hb⟩
def qhh {a b:Int} (h1 : -65536≤a∧a≤65536) (h2 : -65536≤b∧b≤65536):IntKind.i64.wrap (a-b)=a-b:=i64_in Oq Oq
def qua {a b:Int} {k:Nat} (ha:bl a.natAbs≤k) (hb:bl b.natAbs≤k):bl (a-b).natAbs≤k+1:=by
 have h1:=q1d ha;have h2:=q1d hb;exact q8s.2 (by rw [Nat.pow_succ]; omega)
def qgc {a b:Int} {k:Nat} (ha:bl a.natAbs≤k) (hb:bl b.natAbs≤k):bl (a+b).natAbs≤k+1:=by
 have h1:=q1d ha;have h2:=q1d hb;exact q8s.2 (by rw [Nat.pow_succ]; omega)
def qmf {a b:Int} (ha:bl a.natAbs≤20000000) (hb:bl b.natAbs≤20000000):ACt 153 [bT a,bT b] (bT (a+b)):=q1N (r:=.fm (fB (a+b))) (fun D w v h=>q1B.2 (q2z h)) (q6u qg3 fun D w vs hT hF hR=>by
 obtain ⟨_,_,rfl,h3,h4⟩:=q6Y hR;exact qkf (q1B.1 h3) (q1B.1 h4) ha hb hF)
def qmb {a b:Int} (ha:bl a.natAbs≤20000000) (hb:bl b.natAbs≤20000000):ACt 219 [bT a,bT b] (bT (a-b)):=q1N (r:=.fm (fB (a-b))) (fun D w v h=>q1B.2 (q2z h)) (q6u qgW fun D w vs hT hF hR=>by
 obtain ⟨_,_,rfl,h3,h4⟩:=q6Y hR;exact qsH (q1B.1 h3) (q1B.1 h4) ha hb hF)
def qd1 {a b:Int} (ha:bl a.natAbs≤10000000) (hb:bl b.natAbs≤10000000):ACt 258 [bT a,bT b] (iv (a-b).sign):=by
 have cS:=qmb (a:=a) (b:=b) Oq Oq;have cG:=q1m (a:=a-b) (by have:=qua ha hb; omega);unfold bT at *;refine ac0 Tryz.func258 Tryz.ntmps258 [.tmp 4] ?_;exact wk trivial
def qbY {V:Int}:ACt 88 [pV V] (iv V.sign):=qvV quK fun ho=>by
 have hb:=q3b ho;have cN:=q1P ho;have cS:=q1m (a:=od V) Oq;have es:(od V).sign=V.sign:=by
  conv=>rhs; rw [← q1z V,Int.sign_mul,Int.sign_eq_one_of_pos (q08 _),Int.mul_one]
 rw [es] at cS;unfold dT at cN ⊢;unfold bT at cS;refine ac0 Tryz.func88 Tryz.ntmps88 [.tmp 2] ?_;exact wk trivial
def Aln.sgn {A B x y e:Int} (h:Aln A B x y e):(x-y).sign=(A-B).sign:=by
 rw [← h.a,← h.b,← Int.sub_mul,Int.sign_mul,Int.sign_eq_one_of_pos (q08 _),Int.mul_one]
def Aln.sum {A B x y e:Int} (h:Aln A B x y e) (ho:q0k (A+B)):mkV (x+y) e=some (A+B):=by
 rw [q5a h.e1 (V:=A+B) (by rw [Int.add_mul,h.a,h.b]),q37 ho]
section
variable {A B:Int}
def q9I (hA:q0k A) (hB:q0k B):∃ x y e,ACt 249 [dT A,dT B] (.tu [bT x,bT y,iv e])∧Aln A B x y e:=by
 obtain ⟨a1,a2,a3⟩:=q1L hA;obtain ⟨b1,b2,b3⟩:=q1L hB;have C1:=@q4C;have key:∀ e:Int,e≤dyE A→e≤dyE B → -65536≤e→e≤65536→Aln A B (shI (od A) (dyE A-e)) (shI (od B) (dyE B-e)) e:=fun e h1 h2 h3 h4 =>
  ⟨h3,h4,by unfold shI; rw [if_pos (by omega)]; exact q9b h3 h1,by unfold shI; rw [if_pos (by omega)]; exact q9b h3 h2⟩
 obtain ⟨e,he⟩:∃ e,min (dyE A) (dyE B)=e:=⟨_,rfl⟩;refine ⟨_,_,e,?_,key e Oq Oq Oq Oq⟩;refine ac0 Tryz.func249 Tryz.ntmps249 [.cell 4 72,.cell 5 72,.tmp 6] ?_;exact wk1 he trivial
def qmP (hA:q0k A) (hB:q0k B) (ho:q0k (A+B)):ACt 203 [dT A,dT B] (dT (A+B)):=by
 obtain ⟨x,y,e,C1,hL⟩:=q9I hA hB;obtain ⟨l1,l2⟩:=hL.bl hA hB;have C2:=qdA hA hB;have C3:=@q9m;have h1:=hL.e1;have h2:=hL.e2;have h3:=qgc l1 l2;have C4:=q5W (m:=x+y) (e:=e) rfl Oq Oq Oq (hL.sum ho);refine ac0 Tryz.func203 Tryz.ntmps203 [.cell 4 74] ?_;exact wk trivial
def qqd (hA:q0k A):ACt 184 [dT A] (reT (decide (od A < 0)) (od A).natAbs (dyE A) false):=by
 have C1:=@q9n;have:=(q1L hA).2.2;refine ac0 Tryz.func184 Tryz.ntmps184 [.cell 2 155] ?_;exact wk trivial
def q8i (hA:q0k A):ACt 123 [dT A,iv 0] (uv (fR 0 A:Nat)):=by
 obtain ⟨hd1,hd2,hd3⟩:=q1L hA;have C1:=q6w hA;have C2:=q2k hA;have C3:=qqd hA;refine ac0 Tryz.func123 Tryz.ntmps123 [.tmp 4] ?_
 by_cases hz:A=0
 ·have q1:(A.sign == 0)=true:=by rw [hz]; rfl
  rw [show ((fR 0 A:Nat):Int)=0 by rw [show fR 0 A=0 from if_pos hz]; rfl];exact wk1 q1 trivial
 ·have q1:(A.sign == 0)=false:=by
   rw [beq_eq_false_iff_ne]; intro h; exact hz (Int.sign_eq_zero_iff_zero.1 h)
  have hod:=q3c hz;have C4:=q6M (N:=(od A).natAbs) (M:=1) (neg:=decide (od A < 0)) (e:=dyE A) Nat.one_pos (by omega) (by rw [Nat.mod_one]; intro h; exact absurd rfl h) (by rw [Nat.div_one]; omega) (by omega) (by omega);rw [Nat.div_one,Nat.mod_one,show decide ((0:Nat)≠0)=false from rfl,rE_V hz,q1u,show rF 0 (decide (A < 0)) A.natAbs (2 ^ 65536)=fR 0 A from (if_neg hz).symm] at C4;rw [← q1u] at C4;exact wk1 q1 trivial
end
def q35 (l:List Nat) (i:Nat):Nat:=(l.take i).foldl (fun b x=>max b (q7t x)) 0
def qk5 {l:List Nat} {i x:Nat} (h:l[i]?=some x):q35 l (i+1)=max (q35 l i) (q7t x):=by
 obtain ⟨h1,h2⟩:=List.getElem?_eq_some_iff.1 h;unfold q35;rw [List.take_succ_eq_append_getElem h1,List.foldl_append,h2]
 rfl
def q9Y {l:List Nat} (hl:q1f l):∀ i,i≤l.length→q35 l i < 9223372036854775808∧q0Y (q35 l i)
 | 0,_=>⟨by simp [q35],by simp [q35,q0Y]⟩
 | i+1,hi=>by
  have ih:=q9Y hl i Oq;obtain ⟨x,hx⟩:∃ x,l[i]?=some x:=⟨_,List.getElem?_eq_getElem Oq⟩;rw [qk5 hx];have:=(hl x (List.mem_of_getElem? hx)).2;have h1:=q7s (f:=x);have h2:=qbl this
  rcases Nat.le_total (q35 l i) (q7t x) with h | h
  ·rw [Nat.max_eq_right h]; exact ⟨h1,h2⟩
  ·rw [Nat.max_eq_left h]; exact ih
def qbD {f:Nat} (h:f < 9223372036854775808):qbE f=f:=by
 unfold qbE q7t;rw [if_neg (by omega),Nat.mod_eq_of_lt h]
def qjd {a b:Nat} (ha:a < 9223372036854775808) (hb:b < 9223372036854775808):(0 < qqX (qbE a) (qbE b)→max b a=a)∧(¬ 0 < qqX (qbE a) (qbE b)→max b a=b):=by
 rw [qbD ha,qbD hb];unfold qqX
 constructor
 ·intro h
  split at h
  ·omega
  ·split at h
   ·omega
   ·omega
 ·intro h
  split at h
  ·omega
  ·split at h
   ·omega
   ·omega
section
variable {l:List Nat}
def qbF (hl:q1f l) (hn:l.length≤1000000):ACt 78 [pF l] (uv (q35 l l.length:Nat)):=by
 have hs:=q9Y hl;refine ac0 Tryz.func78 Tryz.ntmps78 [.tmp 2] ?_;refine wk ?_;refine q0L (fun i=>i≤l.length) [8,9] [] Lk Lk (fun i:Nat=>[(10,iv i),(3,uv (q35 l i:Nat))]) (fun _=>[]) (fun i=>l.length-i) 0 (Nat.zero_le _) ?_ ?_
 ·refine LeM [] rfl rfl ?_;refine Zz ?_;exact ⟨rfl,rfl⟩
 ·intro i hi
  by_cases hlt:i < l.length
  ·obtain ⟨x,hx⟩:∃ x,l[i]?=some x:=⟨_,List.getElem?_eq_getElem hlt⟩;obtain ⟨h1,h2⟩:=hl x (List.mem_of_getElem? hx);obtain ⟨h3,h4⟩:=hs i hi;have C1:=q7c h1;have q:(((q75 x:Nat):Int) == 3)=false:=by
    have:=qbC h2;simp; omega
   have C2:=qo2 h1 h2;have C3:=qo1 (f:=q7t x) (g:=q35 l i) (by have:=q7s (f:=x); omega) (qbl h2) Oq h4;have hm:=qjd (q7s (f:=x)) h3;have es:=qk5 hx;generalize qqX (qbE (q7t x)) (qbE (q35 l i))=c at *
   by_cases hc:c > 0
   ·rw [hm.1 hc] at es;refine wk1 (x2 hx q) ?_;refine ⟨i+1,by omega,by omega,?_⟩;rw [es];refine LeM [] rfl rfl ?_;refine Zz ?_;omega
   ·rw [hm.2 hc] at es;refine wk1 (x2 hx q) ?_;refine ⟨i+1,by omega,by omega,?_⟩;rw [es];refine LeM [] rfl rfl ?_;refine Zz ?_;omega
  ·obtain rfl:i=l.length:=by omega
   exact wk trivial
end
end Go.Proofs.YtbcmhlhgljoolaaGreatDoor
namespace Go.Sp
open Go.E
def ixF (l:List Nat):Nat→Nat→Int
 | _,0 => -1
 | i,m+1=>if q0Y (l.getD i 0) then ixF l (i+1) m else i
def qlC {l:List Nat}:∀ (m i:Nat),0≤ixF l i m ↔ ∃ j,i≤j∧j < i+m∧¬ q0Y (l.getD j 0)
 | 0,i=>by unfold ixF; exact ⟨fun h=>by omega,fun ⟨j,h1,h2,_⟩=>by omega⟩
 | m+1,i=>by
  unfold ixF
  by_cases h:q0Y (l.getD i 0)
  ·rw [if_pos h,qlC m (i+1)]
   constructor
   ·rintro ⟨j,h1,h2,h3⟩; exact ⟨j,by omega,by omega,h3⟩
   ·rintro ⟨j,h1,h2,h3⟩;refine ⟨j,?_,by omega,h3⟩
    rcases Nat.eq_or_lt_of_le h1 with e | e
    ·subst e; exact absurd h h3
    ·omega
  ·rw [if_neg h];exact ⟨fun _=>⟨i,Nat.le_refl _,by omega,h⟩,fun _=>by omega⟩
def qnq {l:List Nat}:decide (0≤ixF l 0 l.length)=!decide (∀ x ∈ l,q0Y x):=by
 rw [← decide_not,decide_eq_decide,qlC]
 constructor
 ·rintro ⟨j,_,h2,h3⟩ h;have hj:j < l.length:=by omega
  rw [List.getD_eq_getElem?_getD,List.getElem?_eq_getElem hj] at h3;exact h3 (h _ (List.getElem_mem hj))
 ·intro h;refine Classical.byContradiction fun hn=>h fun x hx=>?_;obtain ⟨j,hj,rfl⟩:=List.getElem_of_mem hx;refine Classical.byContradiction fun hf=>hn ⟨j,Nat.zero_le _,by omega,?_⟩;rw [List.getD_eq_getElem?_getD,List.getElem?_eq_getElem hj];exact hf
end Go.Sp
namespace Go.Proofs.YtbcmhlhgljoolaaGreatDoor
open Go Go.E Go.Sp
section
variable {l:List Nat} {f:FuncId}
def pe_fn {s:Nat→PV}:pe s (.func f)=.vl (.func (.func f) #[] #[]):=rfl
attribute [go_sem] pe_fn
def q88 (hf:∀ x:Nat,x < 18446744073709551616→ACt f [uv x] (bv (!decide (q0Y x)))) (hu:∀ x ∈ l,x < 18446744073709551616) (hn:l.length≤1000000) :
  ACt 224 [pF l,.vl (.func (.func f) #[] #[])] (iv (ixF l 0 l.length)):=by
 refine ac0 Tryz.func224 Tryz.ntmps224 [.tmp 4] ?_;refine wk ?_;refine q0L (fun i=>i≤l.length∧ixF l 0 l.length=ixF l i (l.length-i)) [0,1,7] [] Lk Lk (fun i:Nat=>[(8,iv i)]) (fun _=>[]) (fun i=>l.length-i) 0 ⟨Nat.zero_le _,rfl⟩ ?_ ?_
 ·refine LeM [] rfl rfl ?_;refine Zz ?_
  rfl
 ·rintro i ⟨hi,hx⟩
  by_cases hlt:i < l.length
  ·obtain ⟨x,hxi⟩:∃ x,l[i]?=some x:=⟨_,List.getElem?_eq_getElem hlt⟩;have C1:=hf x (hu x (List.mem_of_getElem? hxi));rw [show l.length-i=(l.length-(i+1))+1 by omega,ixF,getD_some hxi] at hx;refine wk1 hxi ?_;refine qcy fun K hK=>?_;refine Zz1 hxi ?_;refine qjU FnP_v ?_;simp only [List.append_nil]
   try refine Zz ?_
   refine q2B C1 ?_
   try refine Zz ?_
   refine hK _ _ ?_; clear hK K
   by_cases h:q0Y x
   ·rw [if_pos h] at hx;refine wk1 (decide_eq_true h) ?_;refine ⟨i+1,⟨by omega,by rw [show l.length-(i+1)=l.length-(i+1) from rfl]; exact hx⟩,by omega,?_⟩;refine LeM [] rfl rfl ?_;refine Zz ?_;omega
   ·rw [if_neg h] at hx;rw [hx];exact wk1 (decide_eq_false h) trivial
  ·obtain rfl:i=l.length:=by omega
   rw [Nat.sub_self,ixF] at hx;rw [hx];exact wk trivial
def q3W (hf:∀ x:Nat,x < 18446744073709551616→ACt f [uv x] (bv (!decide (q0Y x)))) (hu:∀ x ∈ l,x < 18446744073709551616) (hn:l.length≤1000000) :
  ACt 162 [pF l,.vl (.func (.func f) #[] #[])] (bv (!decide (∀ x ∈ l,q0Y x))):=by
 have C1:=q88 hf hu hn;rw [← qnq];generalize ixF l 0 l.length=z at *;refine ac0 Tryz.func162 Tryz.ntmps162 [.tmp 4] ?_;exact wk trivial
def q9g {x:Nat} (hx:x < 18446744073709551616):ACt 164 [uv x] (bv (!decide (q0Y x))):=by
 have C1:=q4t hx;refine ac0 Tryz.func164 Tryz.ntmps164 [.tmp 2] ?_;exact wk trivial
def q4r (hu:∀ x ∈ l,x < 18446744073709551616) (hn:l.length≤1000000):ACt 106 [pF l] (bv (decide (∀ x ∈ l,q0Y x))):=by
 have C1:=q3W (f:=164) (fun x hx=>q9g hx) hu hn;generalize decide (∀ x ∈ l,q0Y x)=b at *;refine ac0 Tryz.func106 Tryz.ntmps106 [.tmp 2] ?_;exact wk1 @Bool.not_not trivial
end

def q2y (l:List Int) (n:Int):Prop:=(l.length:Int)=n∧(∀ x ∈ l,0≤x∧x < n)∧l.Nodup
def q5I (l:List Int) (i:Nat):List Bool:=(List.range l.length).map fun k:Nat=>decide ((k:Int) ∈ l.take i)
def q7N {l:List Int} {i:Nat}:(q5I l i).length=l.length:=by simp [q5I]
def qdq {l:List Int}:List.replicate l.length false=q5I l 0:=by simp [q5I,List.map_const']
def q7O {l:List Int} {i k:Nat} (hk:k < l.length):(q5I l i)[k]?=some (decide ((k:Int) ∈ l.take i)):=by simp [q5I,hk]
def q7M {l:List Int} {i k:Nat} (hi:l[i]?=some (k:Int)):(q5I l i).set k true=q5I l (i+1):=by
 obtain ⟨hlt,he⟩:=List.getElem?_eq_some_iff.1 hi
 apply List.ext_getElem?
 intro m;rw [List.getElem?_set];simp only [q5I,List.getElem?_map,List.length_map,List.length_range,List.take_succ_eq_append_getElem hlt,he,List.mem_append,List.mem_singleton]
 by_cases hm:m < l.length
 ·rw [List.getElem?_range hm]
  by_cases hkm:k=m
  ·subst hkm; simp [hm]
  ·rw [if_neg hkm]; simp; omega
 ·rw [List.getElem?_eq_none (by simp; omega)]
  by_cases hkm:k=m <;> simp [hkm] <;> omega
open Classical in
def qiA {l:List Int} {n:Int} (hn : -1000000≤n∧n≤1000000):ACt 135 [pI l,iv n] (bv (decide (q2y l n))):=by
 refine ac0 Tryz.func135 Tryz.ntmps135 [.tmp 4] ?_;refine wk ?_
 by_cases hl:(l.length:Int)=n
 ·subst hl;have e1:((l.length:Int) != l.length)=false:=by simp
  refine wk1 e1 ?_;refine q0L (fun i=>i≤l.length∧(∀ x ∈ l.take i,0≤x∧x < l.length)∧(l.take i).Nodup) [0,1,5] [] Lk Lk (fun i:Nat=>[(6,iv i)]) (fun i=>[(12,⟨4,none,(q5I l i).map fun z=>bv z,false⟩)]) (fun i=>l.length-i) 0 ⟨Nat.zero_le _,by simp,by simp⟩ ?_ ?_
  ·refine LeM [] rfl rfl ?_;refine Zz ?_;exact ⟨rfl,qdq⟩
  ·rintro i ⟨hi,hr,hd⟩;refine wk ?_
   by_cases hlt:i < l.length
   ·have hlt':(i:Int) < l.length:=by omega
    refine wk1 hlt' ?_;obtain ⟨x,hx⟩:∃ x,l[i]?=some x:=⟨_,List.getElem?_eq_getElem hlt⟩;have hmem:=List.mem_of_getElem? hx;have ht:l.take (i+1)=l.take i ++ [x]:=by rw [List.take_succ_eq_append_getElem hlt]; congr 2; exact Option.some.inj ((List.getElem?_eq_getElem hlt).symm.trans hx)
    refine wk ?_
    by_cases hx0:x < 0
    ·refine wk1 (x2 hx hx0) ?_;exact (decide_eq_false fun h=>by have:=(h.2.1 x hmem).1; omega).symm
    ·obtain ⟨k,rfl⟩:∃ k:Nat,x=k:=⟨x.toNat,by omega⟩
     by_cases hxn:(l.length:Int)≤k
     ·refine wk1 (x3 hx hx0 hxn) ?_;exact (decide_eq_false fun h=>by have:=(h.2.1 _ hmem).2; omega).symm
     ·have hk:k < l.length:=by omega
      have hs:=q7O (i:=i) hk
      by_cases hm:(k:Int) ∈ l.take i
      ·refine wk1 (x5 hx hx0 hxn hs hm) ?_;refine (decide_eq_false fun h=>?_).symm;have:=(h.2.2.sublist (List.take_sublist (i+1) l));rw [ht,List.nodup_append] at this;exact this.2.2 _ hm _ (by simp) rfl
      ·refine wk1 (x6 hx hx0 hxn hs hm @q7N) ?_;refine ⟨i+1,⟨by omega,?_,?_⟩,by omega,?_⟩
       ·rw [ht];intro y hy
        rcases List.mem_append.1 hy with hy | hy
        ·exact hr y hy
        ·simp at hy; subst hy; omega
       ·rw [ht,List.nodup_append];exact ⟨hd,by simp,fun a ha b hb e=>by simp at hb; subst hb; subst e; exact hm ha⟩
       ·refine LeM [] rfl rfl ?_;refine Zz ?_;exact ⟨by omega,q7M hx⟩
   ·have hlt':¬ (i:Int) < l.length:=by omega
    have hil:i=l.length:=by omega
    refine wk1 hlt' ?_;rw [hil,List.take_length] at hr hd;exact (decide_eq_true ⟨rfl,hr,hd⟩).symm
 ·have e1:((l.length:Int) != n)=true:=by simpa using hl
  refine wk1 e1 ?_;exact (decide_eq_false fun h=>hl h.1).symm
def q4F {α:Type} {l:List α} {i:Nat} {x:α} (hx:l[i]?=some x):l.take (i+1)=l.take i ++ [x]:=by
 obtain ⟨h1,h2⟩:=List.getElem?_eq_some_iff.1 hx;rw [List.take_succ_eq_append_getElem h1,h2]
def q5X {α:Type} {p:α→Prop} {l:List α} {i:Nat} {x:α} (hx:l[i]?=some x) (h:∀ y ∈ l.take i,p y) (hp:p x):∀ y ∈ l.take (i+1),p y:=by
 rw [q4F hx];intro y hy
 rcases List.mem_append.1 hy with hy | hy
 ·exact h y hy
 ·simp at hy; subst hy; exact hp
def qlB {l:List Int} {v:Int} (hl:l.length≤9223372036854775807):ACt 225 [pI l,iv v] (bv (decide (v ∈ l))):=by
 refine ac0 Tryz.func225 Tryz.ntmps225 [.tmp 4] ?_;refine wk ?_;refine q0L (fun i=>i≤l.length∧∀ x ∈ l.take i,¬ v=x) [0,1] [] Lk Lk (fun i:Nat=>[(5,iv i)]) (fun _=>[]) (fun i=>l.length-i) 0 ⟨Nat.zero_le _,by simp⟩ ?_ ?_
 ·refine LeM [] rfl rfl ?_;refine Zz ?_
  rfl
 ·rintro i ⟨hi,hr⟩;refine wk ?_
  by_cases hlt:i < l.length
  ·have hlt':(i:Int) < l.length:=by omega
   refine wk1 hlt' ?_;obtain ⟨x,hx⟩:∃ x,l[i]?=some x:=⟨_,List.getElem?_eq_getElem hlt⟩;refine wk1 hx ?_
   by_cases hv:v=x
   ·have e1:(x == v)=true:=by simpa using hv.symm
    refine wk1 e1 ?_;exact (decide_eq_true (hv ▸ List.mem_of_getElem? hx)).symm
   ·have e1:(x == v)=false:=by simpa using fun e=>hv e.symm
    refine wk1 e1 ?_;refine ⟨i+1,⟨by omega,q5X hx hr hv⟩,by omega,?_⟩;refine LeM [] rfl rfl ?_;refine Zz ?_;omega
  ·have hlt':¬ (i:Int) < l.length:=by omega
   refine wk1 hlt' ?_;obtain rfl:i=l.length:=by omega
   rw [List.take_length] at hr;exact (decide_eq_false fun h=>hr v h rfl).symm
def Asc (l:List Int):Prop:=∀ (i:Nat) (x y:Int),l[i]?=some x→l[i+1]?=some y→x < y
open Classical in
def qnp {l:List Int} (hl:l.length≤9223372036854775807):ACt 52 [pI l] (bv (decide (Asc l))):=by
 refine ac0 Tryz.func52 Tryz.ntmps52 [.tmp 2] ?_;refine wk ?_;refine q0L (fun i=>(i≤l.length∨i=1)∧0 < i∧∀ j x y,j+1 < i→l[j]?=some x→l[j+1]?=some y→x < y) [0] [] Lk Lk (fun i:Nat=>[(3,iv i)]) (fun _=>[]) (fun i=>l.length-i) 1 ⟨.inr rfl,by omega,by omega⟩ ?_ ?_
 ·refine LeM [] rfl rfl ?_;refine Zz ?_
  rfl
 ·rintro i ⟨hi,hi0,hr⟩;refine wk ?_
  by_cases hlt:i < l.length
  ·have hlt':(i:Int) < l.length:=by omega
   refine wk1 hlt' ?_;obtain ⟨i,rfl⟩:∃ i',i=i'+1:=⟨i-1,by omega⟩;obtain ⟨y,hy⟩:∃ x,l[i+1]?=some x:=⟨_,List.getElem?_eq_getElem hlt⟩;obtain ⟨x,hx⟩:∃ x,l[i]?=some x:=⟨_,List.getElem?_eq_getElem Oq⟩;have e0:IntKind.i64.wrap (((i+1:Nat):Int)-1)=i:=by rw [i64_in (by omega) (by omega)]; omega
   by_cases hv:y≤x
   ·refine wk1 (x4 hx hy hv e0) ?_;refine (decide_eq_false fun h=>?_).symm;have:=h i x y hx hy;omega
   ·refine wk1 (x4 hx hy hv e0) ?_;refine ⟨i+1+1,⟨by omega,by omega,fun j x' y' hj hx' hy'=>?_⟩,by omega,?_⟩
    ·by_cases hji:j=i
     ·subst hji;rw [hx] at hx'; rw [hy] at hy';cases hx'; cases hy'; omega
     ·exact hr j x' y' Oq hx' hy'
    ·refine LeM [] rfl rfl ?_;refine Zz ?_;omega
  ·have hlt':¬ (i:Int) < l.length:=by omega
   refine wk1 hlt' ?_;refine (decide_eq_true fun j x y hx hy=>hr j x y ?_ hx hy).symm;have:=(List.getElem?_eq_some_iff.1 hy).1;omega
open Classical in
def qi5 {l:List Int} {n:Int} (hn : -1000000≤n∧n≤1000000):ACt 231 [pI l,iv n] (bv (decide (q2y l n))):=by
 refine ac0 Tryz.func231 Tryz.ntmps231 [.tmp 4] ?_;refine wk ?_
 by_cases hl:(l.length:Int)=n
 ·subst hl;have e1:((l.length:Int) != l.length)=false:=by simp
  refine wk1 e1 ?_;refine q0L (fun i=>i≤l.length∧(∀ x ∈ l.take i,0≤x∧x < l.length)∧(l.take i).Nodup) [0,1,5] [] Lk Lk (fun i:Nat=>[(6,iv i)]) (fun i=>[(12,⟨4,none,(q5I l i).map fun z=>bv z,false⟩)]) (fun i=>l.length-i) 0 ⟨Nat.zero_le _,by simp,by simp⟩ ?_ ?_
  ·refine LeM [] rfl rfl ?_;refine Zz ?_;exact ⟨rfl,qdq⟩
  ·rintro i ⟨hi,hr,hd⟩;refine wk ?_
   by_cases hlt:i < l.length
   ·have hlt':(i:Int) < l.length:=by omega
    refine wk1 hlt' ?_;obtain ⟨x,hx⟩:∃ x,l[i]?=some x:=⟨_,List.getElem?_eq_getElem hlt⟩;have hmem:=List.mem_of_getElem? hx;have ht:l.take (i+1)=l.take i ++ [x]:=by rw [List.take_succ_eq_append_getElem hlt]; congr 2; exact Option.some.inj ((List.getElem?_eq_getElem hlt).symm.trans hx)
    refine wk ?_
    by_cases hx0:x < 0
    ·refine wk1 (x2 hx hx0) ?_;exact (decide_eq_false fun h=>by have:=(h.2.1 x hmem).1; omega).symm
    ·obtain ⟨k,rfl⟩:∃ k:Nat,x=k:=⟨x.toNat,by omega⟩
     by_cases hxn:(l.length:Int)≤k
     ·refine wk1 (x3 hx hx0 hxn) ?_;exact (decide_eq_false fun h=>by have:=(h.2.1 _ hmem).2; omega).symm
     ·have hk:k < l.length:=by omega
      have hs:=q7O (i:=i) hk
      by_cases hm:(k:Int) ∈ l.take i
      ·refine wk1 (x5 hx hx0 hxn hs hm) ?_;refine (decide_eq_false fun h=>?_).symm;have:=(h.2.2.sublist (List.take_sublist (i+1) l));rw [ht,List.nodup_append] at this;exact this.2.2 _ hm _ (by simp) rfl
      ·refine wk1 (x6 hx hx0 hxn hs hm @q7N) ?_;refine ⟨i+1,⟨by omega,?_,?_⟩,by omega,?_⟩
       ·rw [ht];intro y hy
        rcases List.mem_append.1 hy with hy | hy
        ·exact hr y hy
        ·simp at hy; subst hy; omega
       ·rw [ht,List.nodup_append];exact ⟨hd,by simp,fun a ha b hb e=>by simp at hb; subst hb; subst e; exact hm ha⟩
       ·refine LeM [] rfl rfl ?_;refine Zz ?_;exact ⟨by omega,q7M hx⟩
   ·have hlt':¬ (i:Int) < l.length:=by omega
    have hil:i=l.length:=by omega
    refine wk1 hlt' ?_;rw [hil,List.take_length] at hr hd;exact (decide_eq_true ⟨rfl,hr,hd⟩).symm
 ·have e1:((l.length:Int) != n)=true:=by simpa using hl
  refine wk1 e1 ?_;exact (decide_eq_false fun h=>hl h.1).symm
def qbo (l:List Int) (n:Int):Prop:=∀ x ∈ l,0≤x∧x < n
open Classical in
def qeN {l:List Int} {n:Int} (hl:l.length≤9223372036854775807):ACt 254 [pI l,iv n] (bv (decide (qbo l n))):=by
 refine ac0 Tryz.func254 Tryz.ntmps254 [.tmp 4] ?_;refine wk ?_;refine q0L (fun i=>i≤l.length∧∀ x ∈ l.take i,0≤x∧x < n) [0,1] [] Lk Lk (fun i:Nat=>[(5,iv i)]) (fun _=>[]) (fun i=>l.length-i) 0 ⟨Nat.zero_le _,by simp⟩ ?_ ?_
 ·refine LeM [] rfl rfl ?_;refine Zz ?_
  rfl
 ·rintro i ⟨hi,hr⟩;refine wk ?_
  by_cases hlt:i < l.length
  ·have hlt':(i:Int) < l.length:=by omega
   refine wk1 hlt' ?_;obtain ⟨x,hx⟩:∃ x,l[i]?=some x:=⟨_,List.getElem?_eq_getElem hlt⟩;have hm:=List.mem_of_getElem? hx
   by_cases hx0:x < 0
   ·refine wk1 (x2 hx hx0) ?_;exact (decide_eq_false fun h=>by have:=h x hm; omega).symm
   ·by_cases hxn:n≤x
    ·refine wk1 (x3 hx hx0 hxn) ?_;exact (decide_eq_false fun h=>by have:=h x hm; omega).symm
    ·refine wk1 (x3 hx hx0 hxn) ?_;refine ⟨i+1,⟨by omega,q5X hx hr Oq⟩,by omega,?_⟩;refine LeM [] rfl rfl ?_;refine Zz ?_;omega
  ·have hlt':¬ (i:Int) < l.length:=by omega
   refine wk1 hlt' ?_;obtain rfl:i=l.length:=by omega
   rw [List.take_length] at hr;exact (decide_eq_true (p:=qbo l n) hr).symm
open Classical in
def qcM {l:List Nat} (hl:l.length≤9223372036854775807) (hu:∀ x ∈ l,x < 18446744073709551616):ACt 142 [pF l] (bv (decide (∀ x ∈ l,q0Y x))):=by
 refine ac0 Tryz.func142 Tryz.ntmps142 [.tmp 2] ?_;refine wk ?_;refine q0L (fun i=>i≤l.length∧∀ x ∈ l.take i,q0Y x) [0] [] Lk Lk (fun i:Nat=>[(3,iv i)]) (fun _=>[]) (fun i=>l.length-i) 0 ⟨Nat.zero_le _,by simp⟩ ?_ ?_
 ·refine LeM [] rfl rfl ?_;refine Zz ?_
  rfl
 ·rintro i ⟨hi,hr⟩;refine wk ?_
  by_cases hlt:i < l.length
  ·have hlt':(i:Int) < l.length:=by omega
   refine wk1 hlt' ?_;obtain ⟨x,hx⟩:∃ x,l[i]?=some x:=⟨_,List.getElem?_eq_getElem hlt⟩;have hm:=List.mem_of_getElem? hx;have C1:=(q95 (hu x hm));refine wk1 hx ?_
   by_cases hf:q0Y x
   ·refine wk1 hf ?_;refine ⟨i+1,⟨by omega,q5X hx hr hf⟩,by omega,?_⟩;refine LeM [] rfl rfl ?_;refine Zz ?_;omega
   ·refine wk1 hf ?_;exact (decide_eq_false fun h=>hf (h x hm)).symm
  ·have hlt':¬ (i:Int) < l.length:=by omega
   refine wk1 hlt' ?_;obtain rfl:i=l.length:=by omega
   rw [List.take_length] at hr;exact (decide_eq_true hr).symm
def q3G (rows cols:Int) (st ix:List Int) (vl:List Nat):PV:=.ag [iv rows,iv cols,pI st,pI ix,pF vl]
structure MSz (rows cols:Int) (ix:List Int):Prop where
 r0:¬ rows < 0
 r1:¬ 200 < rows
 c0:¬ cols < 0
 c1:¬ 200 < cols
 i1:¬ (10000:Int) < ix.length
structure MPt (cols:Int) (st ix:List Int) (vl:List Nat):Prop where
 v:vl.length=ix.length
 s:(st.length:Int)=cols+1
 f:st[0]?=some 0
 l:st[cols.toNat]?=some (ix.length:Int)
 m:∀ (j:Nat) (x y:Int),st[j]?=some x→st[j+1]?=some y→x≤y
def MIx1 (rows:Int) (ix:List Int) (x:Int) (k:Nat):Prop:=∀ v,ix[k]?=some v→0≤v∧v < rows∧(x < k→∀ u,ix[k-1]?=some u→u < v)
def MIx (rows:Int) (st ix:List Int):Prop:=∀ (j:Nat) (x y:Int),st[j]?=some x→st[j+1]?=some y→∀ k:Nat,x≤k→(k:Int) < y→MIx1 rows ix x k
open Classical in
noncomputable def q3H (rows cols:Int) (st ix:List Int) (vl:List Nat):Int :=
 if MSz rows cols ix then (if MPt cols st ix vl∧MIx rows st ix then (if ∀ x ∈ vl,q0Y x then 0 else 4) else 1) else 6
def MPt.nn {cols:Int} {st ix:List Int} {vl:List Nat} (h:MPt cols st ix vl):∀ (j:Nat) (x:Int),st[j]?=some x→0≤x
 | 0,x,hx=>by rw [h.f] at hx; cases hx; omega
 | j+1,x,hx=>by
  have hlt:=(List.getElem?_eq_some_iff.1 hx).1;have hj:st[j]?=some st[j]:=List.getElem?_eq_getElem Oq;have:=h.m j _ _ hj hx;have:=h.nn j _ hj;omega
def MPt.ub {cols:Int} {st ix:List Int} {vl:List Nat} (h:MPt cols st ix vl) (hc:0≤cols):∀ (d j:Nat) (x:Int),j+d=cols.toNat→st[j]?=some x→x≤ix.length
 | 0,j,x,hd,hx=>by
  have:j=cols.toNat:=by omega
  subst this;rw [h.l] at hx; cases hx; omega
 | d+1,j,x,hd,hx=>by
  have hlt:j+1 < st.length:=by have:=h.s; omega
  have hj:st[j+1]?=some st[j+1]:=List.getElem?_eq_getElem hlt;have:=h.m j _ _ hx hj;have:=h.ub hc d (j+1) _ Oq hj;omega
def q56 {rows cols:Int} {st ix:List Int} {vl:List Nat} (hl:st.length≤9223372036854775807) (hli:ix.length≤9223372036854775807) (hlv:vl.length≤9223372036854775807) (hu:∀ x ∈ vl,x < 18446744073709551616) :
  ACt 81 [q3G rows cols st ix vl] (iv (q3H rows cols st ix vl)):=by
 have c6:¬ MSz rows cols ix→q3H rows cols st ix vl=6:=fun h=>if_neg h;have c1:MSz rows cols ix→¬ (MPt cols st ix vl∧MIx rows st ix)→q3H rows cols st ix vl=1:=fun h h2=>by unfold q3H; rw [if_pos h,if_neg h2]
 have c0:MSz rows cols ix→MPt cols st ix vl∧MIx rows st ix→q3H rows cols st ix vl=if ∀ x ∈ vl,q0Y x then 0 else 4:=fun h h2=>by unfold q3H; rw [if_pos h,if_pos h2]
 generalize q3H rows cols st ix vl=res at *;unfold q3G;refine ac0 Tryz.func81 Tryz.ntmps81 [.tmp 2] ?_;refine wk ?_
 by_cases h1:rows < 0
 ·refine wk1 h1 ?_;rw [c6 fun h=>h.r0 h1]
 by_cases h2:200 < rows
 ·refine wk1 (x2 h1 h2) ?_;rw [c6 fun h=>h.r1 h2]
 by_cases h3:cols < 0
 ·refine wk1 (x3 h1 h2 h3) ?_;rw [c6 fun h=>h.c0 h3]
 by_cases h4:200 < cols
 ·refine wk1 (x4 h1 h2 h3 h4) ?_;rw [c6 fun h=>h.c1 h4]
 by_cases h5:(10000:Int) < ix.length
 ·refine wk1 (x5 h1 h2 h3 h4 h5) ?_;rw [c6 fun h=>h.i1 h5]
 refine wk1 (x5 h1 h2 h3 h4 h5) ?_;have hz:MSz rows cols ix:=⟨h1,h2,h3,h4,h5⟩;obtain ⟨n,rfl⟩:∃ n:Nat,cols=n:=⟨cols.toNat,by omega⟩;refine wk ?_;have w0:IntKind.i64.wrap ((n:Int)+1)=(n:Int)+1:=i64_in Oq Oq
 by_cases hv:vl.length=ix.length
 case neg =>
  have e1:((vl.length:Int) != ix.length)=true:=by simp; omega
  refine wk1 e1 ?_;rw [c1 hz fun h=>hv h.1.v]
 have e1:((vl.length:Int) != ix.length)=false:=by simp; omega
 by_cases hs:st.length=n+1
 case neg =>
  have e2:((st.length:Int) != (n:Int)+1)=true:=by simp; omega
  refine wk1 (x3 e1 w0 e2) ?_;rw [c1 hz fun h=>by have:=h.1.s; omega]
 have e2:((st.length:Int) != (n:Int)+1)=false:=by simp; omega
 obtain ⟨x0,hx0⟩:∃ x,st[0]?=some x:=⟨_,List.getElem?_eq_getElem Oq⟩;obtain ⟨xn,hxn⟩:∃ x,st[n]?=some x:=⟨_,List.getElem?_eq_getElem Oq⟩
 by_cases h0:x0=0
 case neg =>
  have e3:(x0 != 0)=true:=by simpa using h0
  refine wk1 (x5 e1 w0 e2 hx0 e3) ?_;rw [c1 hz fun h=>by have:=h.1.f; rw [hx0] at this; exact h0 (Option.some.inj this)]
 subst h0;have e3:((0:Int) != 0)=false:=rfl
 by_cases hn:xn=ix.length
 case neg =>
  have e4:(xn != (ix.length:Int))=true:=by simpa using hn
  refine wk1 (x6 e1 w0 e2 hx0 e3 (x2 hxn e4)) ?_;rw [c1 hz fun h=>by have:=h.1.l; rw [Int.toNat_natCast,hxn] at this; exact hn (Option.some.inj this)]
 subst hn;have e4:((ix.length:Int) != (ix.length:Int))=false:=by simp
 refine wk1 (x6 e1 w0 e2 hx0 e3 (x2 hxn e4)) ?_;have hp:∀ {j:Nat} {x:Int},(∀ (j:Nat) (x y:Int),st[j]?=some x→st[j+1]?=some y→x≤y)→MPt n st ix vl:=fun hm=>⟨hv,by omega,hx0,by rw [Int.toNat_natCast]; exact hxn,hm⟩;refine q4z [1,3,4] Lk ?_;refine wk ?_;refine q0L (fun i=>i≤n∧∀ j x y,j < i→st[j]?=some x→st[j+1]?=some y→x≤y) [1] [1] Lk Lk (fun i:Nat=>[(4,iv i)]) (fun _=>[]) (fun i=>n-i) 0 ⟨Nat.zero_le _,by omega⟩ ?_ ?_
 ·refine LeM [] rfl rfl ?_;refine Zz ?_
  rfl
 ·rintro i ⟨hi,hr⟩;refine wk ?_
  by_cases hlt:i < n
  ·have hlt':(i:Int) < n:=by omega
   refine wk1 hlt' ?_;obtain ⟨x,hx⟩:∃ x,st[i]?=some x:=⟨_,List.getElem?_eq_getElem Oq⟩;obtain ⟨y,hy⟩:∃ x,st[i+1]?=some x:=⟨_,List.getElem?_eq_getElem Oq⟩;have wi:IntKind.i64.wrap ((i:Int)+1)=((i+1:Nat):Int):=by rw [i64_in (by omega) (by omega)]; omega
   by_cases hxy:y < x
   ·refine wk1 (x4 hx hy wi hxy) ?_;rw [c1 hz fun h=>by have:=h.1.m i x y hx hy; omega]
   ·refine wk1 (x4 hx hy wi hxy) ?_;refine ⟨i+1,⟨by omega,fun j x' y' hj hx' hy'=>?_⟩,by omega,?_⟩
    ·by_cases hji:j=i
     ·subst hji;rw [hx] at hx'; rw [hy] at hy';cases hx'; cases hy'; omega
     ·exact hr j x' y' Oq hx' hy'
    ·refine LeM [] rfl rfl ?_;exact Zy
  ·have hlt':¬ (i:Int) < n:=by omega
   refine wk1 hlt' ?_;obtain rfl:i=n:=by omega
   have hP:MPt i st ix vl:=⟨hv,by omega,hx0,by rw [Int.toNat_natCast]; exact hxn,fun j x y hx hy=>hr j x y (by have:=(List.getElem?_eq_some_iff.1 hy).1; omega) hx hy⟩;clear hr hp hlt hlt';refine wk ?_;refine q0L (fun j=>j≤i∧∀ j' x y,j' < j→st[j']?=some x→st[j'+1]?=some y→∀ k:Nat,x≤k→(k:Int) < y→MIx1 rows ix x k) [1] [1] Lk Lk (fun j:Nat=>[(5,iv j)]) (fun _=>[]) (fun j=>i-j) 0 ⟨Nat.zero_le _,by omega⟩ ?_ ?_
   ·refine LeM [] rfl rfl ?_;refine Zz ?_
    rfl
   ·rintro j ⟨hj,hr⟩;refine wk ?_
    by_cases hlt:j < i
    ·have hlt':(j:Int) < i:=by omega
     refine wk1 hlt' ?_;obtain ⟨x,hx⟩:∃ x,st[j]?=some x:=⟨_,List.getElem?_eq_getElem Oq⟩;obtain ⟨y,hy⟩:∃ x,st[j+1]?=some x:=⟨_,List.getElem?_eq_getElem Oq⟩;have wi:IntKind.i64.wrap ((j:Int)+1)=((j+1:Nat):Int):=by rw [i64_in (by omega) (by omega)]; omega
     have hxy:=hP.m j x y hx hy;obtain ⟨a,rfl⟩:∃ a:Nat,x=a:=⟨x.toNat,by have:=hP.nn j x hx; omega⟩;obtain ⟨b,rfl⟩:∃ b:Nat,y=b:=⟨y.toNat,by omega⟩;have hb:b≤ix.length:=by have:=hP.ub (by omega) (i-(j+1)) (j+1) b (by rw [Int.toNat_natCast]; omega) hy; omega
     refine wk1 hx ?_;refine q0L (fun k=>a≤k∧k≤b∧∀ k':Nat,a≤k'→k' < k→MIx1 rows ix a k') [1,5] [1] Lk Lk (fun k:Nat=>[(6,iv k)]) (fun _=>[]) (fun k=>b-k) a ⟨Nat.le_refl _,by omega,by omega⟩ ?_ ?_
     ·refine LeM [] rfl rfl ?_;exact Zy
     ·rintro k ⟨hk,hkb,hrk⟩;refine wk ?_
      by_cases hltk:k < b
      ·have hltk':(k:Int) < b:=by omega
       refine wk1 (x3 wi hy hltk') ?_;obtain ⟨v,hv⟩:∃ v,ix[k]?=some v:=⟨_,List.getElem?_eq_getElem Oq⟩;have fin:(¬ (0≤v∧v < rows∧((a:Int) < k→∀ u,ix[k-1]?=some u→u < v)))→res=1:=fun hb'=>c1 hz fun h=>hb' (h.2 j a b hx hy k Oq Oq v hv);have ok:0≤v→v < rows→((a:Int) < k→∀ u,ix[k-1]?=some u→u < v)→∀ k':Nat,a≤k'→k' < k+1→MIx1 rows ix a k':=fun q1 q2 q3 k' hk' hk1=>by
        by_cases hkk:k'=k
        ·subst hkk;intro v' hv';rw [hv] at hv'; cases hv';exact ⟨q1,q2,q3⟩
        ·exact hrk k' hk' Oq
       by_cases hv0:v < 0
       ·refine wk1 (x2 hv hv0) ?_;rw [fin fun h=>by omega]
       ·by_cases hvr:rows≤v
        ·refine wk1 (x3 hv hv0 hvr) ?_;rw [fin fun h=>by omega]
        ·by_cases hak:(a:Int) < k
         ·obtain ⟨k,rfl⟩:∃ k',k=k'+1:=⟨k-1,by omega⟩;obtain ⟨u,hu⟩:∃ v,ix[k]?=some v:=⟨_,List.getElem?_eq_getElem Oq⟩;have wk:IntKind.i64.wrap (((k+1:Nat):Int)-1)=k:=by rw [i64_in (by omega) (by omega)]; omega
          by_cases huv:v≤u
          ·refine wk1 (x6 hv hv0 hvr hx hak (x3 @wk hu huv)) ?_;rw [fin fun h=>by have:=h.2.2 hak u hu; omega]
          ·refine wk1 (x6 hv hv0 hvr hx hak (x3 @wk hu huv)) ?_;refine ⟨k+1+1,⟨by omega,by omega,ok Oq Oq fun _ u' hu'=>?_⟩,by omega,?_⟩
           ·rw [Nat.add_sub_cancel,hu] at hu'; cases hu'; omega
           ·refine LeM [] rfl rfl ?_;refine Zz ?_;omega
         ·refine wk1 (x5 hv hv0 hvr hx hak) ?_;refine ⟨k+1,⟨by omega,by omega,ok Oq Oq fun h=>absurd h hak⟩,by omega,?_⟩;refine LeM [] rfl rfl ?_;refine Zz ?_;omega
      ·have hltk':¬ (k:Int) < b:=by omega
       refine wk1 (x3 wi hy hltk') ?_;refine ⟨j+1,⟨by omega,fun j' x' y' hj' hx' hy' k' h1' h2'=>?_⟩,by omega,?_⟩
       ·by_cases hji:j'=j
        ·subst hji;rw [hx] at hx'; rw [hy] at hy';cases hx'; cases hy';exact hrk k' Oq Oq
        ·exact hr j' x' y' Oq hx' hy' k' h1' h2'
       ·refine LeM [] rfl rfl ?_;exact Zy
    ·have hlt':¬ (j:Int) < i:=by omega
     refine wk1 hlt' ?_;obtain rfl:j=i:=by omega
     have hX:MIx rows st ix:=fun j' x y hx hy=>hr j' x y (by have:=(List.getElem?_eq_some_iff.1 hy).1; omega) hx hy;have c0:=c0 hz ⟨hP,hX⟩;have C1:=(qcM hlv hu);refine wk ?_
     by_cases hf:∀ x ∈ vl,q0Y x
     ·rw [if_pos hf] at c0;have ef:∀ (i:Decidable (∀ x ∈ vl,q0Y x)),@decide _ i=true:=fun _=>decide_eq_true hf;refine wk1 ef ?_;rw [c0]
     ·rw [if_neg hf] at c0;have ef:∀ (i:Decidable (∀ x ∈ vl,q0Y x)),@decide _ i=false:=fun _=>decide_eq_false hf;refine wk1 ef ?_;rw [c0]
def q8e (ix:List Int) (i:Int) (a b:Nat):Option Nat:=(List.range' a (b-a)).find? fun k=>decide (ix[k]?=some i)
def qlJ {ix:List Int} {i v:Int} {a b:Nat} (h:a < b) (hv:ix[a]?=some v) (hn:¬ v=i):q8e ix i a b=q8e ix i (a+1) b:=by
 unfold q8e;rw [show b-a=(b-(a+1))+1 by omega,List.range'_succ,List.find?_cons,hv];have:decide (some v=some i)=false:=decide_eq_false fun e=>hn (Option.some.inj e);rw [this]
def qfS {ix:List Int} {v:Int} {a b:Nat} (h:a < b) (hv:ix[a]?=some v):q8e ix v a b=some a:=by
 unfold q8e;rw [show b-a=(b-(a+1))+1 by omega,List.range'_succ,List.find?_cons,hv];have:decide (some v=some v)=true:=decide_eq_true rfl;rw [this]
def qfT {ix:List Int} {v:Int} {a b:Nat} (h:b≤a):q8e ix v a b=none:=by
 unfold q8e;rw [show b-a=0 by omega]; rfl
def qgI (st ix:List Int) (i:Int) (j:Nat):Option Nat:=q8e ix i (st.getD j 0).toNat (st.getD (j+1) 0).toNat
open Classical in
noncomputable def qrP (rows cols:Int) (st ix:List Int) (i j:Int):Bool:=if 0≤i∧i < rows∧0≤j∧j < cols then (qgI st ix i j.toNat).isSome else false
open Classical in
noncomputable def atM (rows cols:Int) (st ix:List Int) (vl:List Nat) (i j:Int):Nat:=if q3H rows cols st ix vl=0∧0≤j∧j < cols then (match qgI st ix i j.toNat with | some k=>vl.getD k 0 | none=>0) else 0
def chk0 {rows cols:Int} {st ix:List Int} {vl:List Nat} (h:q3H rows cols st ix vl=0):MSz rows cols ix∧MPt cols st ix vl∧MIx rows st ix∧∀ x ∈ vl,q0Y x:=by
 unfold q3H at h
 split at h
 ·split at h
  ·split at h
   ·exact ⟨‹_›,(‹_∧_›).1,(‹_∧_›).2,‹_›⟩
   ·cases h
  ·cases h
 ·cases h
def MPt.col {n:Nat} {st ix:List Int} {vl:List Nat} (h:MPt n st ix vl) {j:Nat} (hj:j < n):∃ a b:Nat,st[j]?=some (a:Int)∧st[j+1]?=some (b:Int)∧a≤b∧b≤ix.length∧(st.getD j 0).toNat=a∧(st.getD (j+1) 0).toNat=b:=by
 have hs:=h.s;obtain ⟨x,hx⟩:∃ x,st[j]?=some x:=⟨_,List.getElem?_eq_getElem Oq⟩;obtain ⟨y,hy⟩:∃ x,st[j+1]?=some x:=⟨_,List.getElem?_eq_getElem Oq⟩;have h1:=h.nn j x hx;have h2:=h.nn (j+1) y hy;have h3:=h.m j x y hx hy;have h4:=h.ub (by omega) (n-(j+1)) (j+1) y (by rw [Int.toNat_natCast]; omega) hy;refine ⟨x.toNat,y.toNat,by rw [hx]; congr 1; omega,by rw [hy]; congr 1; omega,by omega,by omega,?_,?_⟩
 ·rw [List.getD_eq_getElem?_getD,hx]; rfl
 ·rw [List.getD_eq_getElem?_getD,hy]; rfl
def qcK {rows cols i j:Int} {st ix:List Int} {vl:List Nat} (hc:cols≤200) (hi:ix.length≤10000) (hP:MPt cols st ix vl):ACt 96 [q3G rows cols st ix vl,iv i,iv j] (bv (qrP rows cols st ix i j)):=by
 have c0:¬ (0≤i∧i < rows∧0≤j∧j < cols)→qrP rows cols st ix i j=false:=fun h=>if_neg h;have c1:(0≤i∧i < rows∧0≤j∧j < cols)→qrP rows cols st ix i j=(qgI st ix i j.toNat).isSome:=fun h=>if_pos h;generalize qrP rows cols st ix i j=res at *;unfold q3G;refine ac0 Tryz.func96 Tryz.ntmps96 [.tmp 6] ?_;refine wk ?_
 by_cases h1:i < 0
 ·refine wk1 h1 ?_;rw [c0 fun h=>by omega]
 by_cases h2:rows≤i
 ·refine wk1 (x2 h1 h2) ?_;rw [c0 fun h=>by omega]
 by_cases h3:j < 0
 ·refine wk1 (x3 h1 h2 h3) ?_;rw [c0 fun h=>by omega]
 by_cases h4:cols≤j
 ·refine wk1 (x4 h1 h2 h3 h4) ?_;rw [c0 fun h=>by omega]
 refine wk1 (x4 h1 h2 h3 h4) ?_;have d1:=c1 ⟨by omega,by omega,by omega,by omega⟩;obtain ⟨j,rfl⟩:∃ j':Nat,j=j':=⟨j.toNat,by omega⟩;obtain ⟨n,rfl⟩:∃ n:Nat,cols=n:=⟨cols.toNat,by omega⟩;obtain ⟨a,b,hx,hy,hab,hb,ea,eb⟩:=hP.col (show j < n by omega);rw [Int.toNat_natCast] at d1;unfold qgI at d1;rw [ea,eb] at d1;have wi:IntKind.i64.wrap ((j:Int)+1)=((j+1:Nat):Int):=by rw [i64_in (by omega) (by omega)]; omega
 refine wk1 hx ?_;refine q4z [1,2,3,7] Lk ?_;refine wk ?_;refine q0L (fun k=>a≤k∧k≤b∧q8e ix i a b=q8e ix i k b) [1,2,3] [3] Lk Lk (fun k:Nat=>[(7,iv k)]) (fun _=>[]) (fun k=>b-k) a ⟨Nat.le_refl _,hab,rfl⟩ ?_ ?_
 ·refine LeM [] rfl rfl ?_;exact Zy
 ·rintro k ⟨hk,hkb,hr⟩;refine wk ?_
  by_cases hlt:k < b
  ·have hlt':(k:Int) < b:=by omega
   refine wk1 (x3 wi hy hlt') ?_;obtain ⟨v,hv⟩:∃ v,ix[k]?=some v:=⟨_,List.getElem?_eq_getElem Oq⟩
   by_cases hvi:v=i
   ·subst hvi;have e1:(v == v)=true:=by simp
    refine wk1 (x2 hv e1) ?_;rw [d1,hr,qfS hlt hv]; rfl
   ·have e1:(v == i)=false:=by simpa using hvi
    refine wk1 (x2 hv e1) ?_;refine ⟨k+1,⟨by omega,by omega,by rw [hr,qlJ hlt hv hvi]⟩,by omega,?_⟩;refine LeM [] rfl rfl ?_;refine Zz ?_;omega
  ·have hlt':¬ (k:Int) < b:=by omega
   refine wk1 (x3 wi hy hlt') ?_;rw [d1,hr,qfT (by omega)]; rfl
def qsM {rows cols i j:Int} {st ix:List Int} {vl:List Nat} (hl:st.length≤9223372036854775807) (hli:ix.length≤9223372036854775807) (hlv:vl.length≤9223372036854775807) (hu:∀ x ∈ vl,x < 18446744073709551616):ACt 93 [q3G rows cols st ix vl,iv i,iv j] (uv (atM rows cols st ix vl i j:Nat)):=by
 have c0:¬ (q3H rows cols st ix vl=0∧0≤j∧j < cols)→atM rows cols st ix vl i j=0:=fun h=>if_neg h;have c1:(q3H rows cols st ix vl=0∧0≤j∧j < cols)→atM rows cols st ix vl i j=(match qgI st ix i j.toNat with | some k=>vl.getD k 0 | none=>0):=fun h=>if_pos h;have hA:=q56 (rows:=rows) (cols:=cols) hl hli hlv hu;generalize atM rows cols st ix vl i j=res at *;unfold q3G at *;refine ac0 Tryz.func93 Tryz.ntmps93 [.tmp 6] ?_;refine wk ?_
 by_cases hz:q3H rows cols st ix vl=0
 case neg =>
  have e1:(q3H rows cols st ix vl != 0)=true:=by simpa using hz
  refine wk1 e1 ?_;rw [c0 fun h=>hz h.1]; rfl
 have e1:(q3H rows cols st ix vl != 0)=false:=by simpa using hz
 by_cases h3:j < 0
 ·refine wk1 (x2 e1 h3) ?_;rw [c0 fun h=>by omega]; rfl
 by_cases h4:cols≤j
 ·refine wk1 (x3 e1 h3 h4) ?_;rw [c0 fun h=>by omega]; rfl
 refine wk1 (x3 e1 h3 h4) ?_;have d1:=c1 ⟨hz,by omega,by omega⟩;obtain ⟨hz1,hP,hX,hfn⟩:=chk0 hz;have hc:=hz1.c1;have hi:=hz1.i1;obtain ⟨j,rfl⟩:∃ j':Nat,j=j':=⟨j.toNat,by omega⟩;obtain ⟨n,rfl⟩:∃ n:Nat,cols=n:=⟨cols.toNat,by omega⟩;obtain ⟨a,b,hx,hy,hab,hb,ea,eb⟩:=hP.col (show j < n by omega);rw [Int.toNat_natCast] at d1;unfold qgI at d1;rw [ea,eb] at d1;have wi:IntKind.i64.wrap ((j:Int)+1)=((j+1:Nat):Int):=by rw [i64_in (by omega) (by omega)]; omega
 refine wk1 hx ?_;refine q4z [1,2,3,7] Lk ?_;refine wk ?_;refine q0L (fun k=>a≤k∧k≤b∧q8e ix i a b=q8e ix i k b) [1,2,3] [3] Lk Lk (fun k:Nat=>[(7,iv k)]) (fun _=>[]) (fun k=>b-k) a ⟨Nat.le_refl _,hab,rfl⟩ ?_ ?_
 ·refine LeM [] rfl rfl ?_;exact Zy
 ·rintro k ⟨hk,hkb,hr⟩;refine wk ?_
  by_cases hlt:k < b
  ·have hlt':(k:Int) < b:=by omega
   refine wk1 (x3 wi hy hlt') ?_;obtain ⟨v,hv⟩:∃ v,ix[k]?=some v:=⟨_,List.getElem?_eq_getElem Oq⟩
   by_cases hvi:v=i
   ·subst hvi;have e1:(v == v)=true:=by simp
    refine wk1 (x2 hv e1) ?_;obtain ⟨u,hu'⟩:∃ u,vl[k]?=some u:=⟨_,List.getElem?_eq_getElem (by have:=hP.v; omega)⟩;refine wk1 hu' ?_;rw [d1,hr,qfS hlt hv];simp only [List.getD_eq_getElem?_getD,hu']; rfl
   ·have e1:(v == i)=false:=by simpa using hvi
    refine wk1 (x2 hv e1) ?_;refine ⟨k+1,⟨by omega,by omega,by rw [hr,qlJ hlt hv hvi]⟩,by omega,?_⟩;refine LeM [] rfl rfl ?_;refine Zz ?_;omega
  ·have hlt':¬ (k:Int) < b:=by omega
   refine wk1 (x3 wi hy hlt') ?_;rw [d1,hr,qfT (by omega)]; rfl
end Go.Proofs.YtbcmhlhgljoolaaGreatDoor
