/- SolveReach: the positions of Sparse are those of Reach and its values those of Lower. Part 4 of 6: Ab12, TaB, Ab13, Ab15, Ac1, Ac2, Ab16, Wk, Ad0, D1, R1, R2, D2, C8, C9, C10, D0, D3, D4, D5, D6, Do, C11, G1, G6, P18, P19, P20, P21, G2, G3, S1, S2, S3, S4, S5, G4, S6, L1, S7, S8, Ab14, Ad1. -/
import Derived.Test.YtbcmhlhgljoolaaGreatDoorPr3
set_option linter.unusedSimpArgs false
set_option linter.unusedVariables false
set_option maxRecDepth 20000
set_option maxHeartbeats 2000000
namespace Go.E
open Go Go.RowKit
class Cn (α:Type) where
 k:α
def cK (p:Prop) [A:Cn Prop]:Prop:=p∧A.k
def oK {α:Type} (o:Option α) [K:Cn (α→Prop)]:Prop:=q2k o K.k
def nnK (o:Option Bk) (d:Nat) (A:Prop):Prop:=(o=none∧d < 5000)∧A
def q26 (k:Kd) (x:PV) (A:Prop):Prop:=q7F k x∧A
def vK (x:PV) (K:PV→Prop):Prop:=K x
def ldK (o:Option (PV × List Nat)) [K:Cn (PV→List Nat→Prop)]:Prop:=match o with | some (x,l)=>K.k x l | none=>False
def pgA (o:Option Bool) (b:Bool) [A:Cn Prop] [B:Cn Prop]:Prop:=match o with | some c=>if c=b then A.k else B.k | none=>False
def mkA (bytes:Nat) (l c:PV) (K:Nat→Prop):Prop:=match l,c with | .vl (.int _ a),.vl (.int _ b)=>a=b∧0≤a∧bytes*a.toNat≤281474976710656∧a.toNat≤maxLen∧K a.toNat | _,_=>False
def qbj (k:Kd) (l:List PV) (A:Prop):Prop:=(∀ x ∈ l,q7F k x)∧A
def q9s (o:Option Bk) (k:Option Kd) (m:Option Nat) (i j:Nat) (x:PV) (K:Bk→Prop):Prop :=
 ∃ b k' u u',o=some b∧k=some k'∧m=some (ksz k')∧b.st=false∧q7F k' x∧b.xs[i]?=some u∧stU b.k k' j u x=some u'∧K { b with xs:=b.xs.set i u' }
def qol (h:Hp) (k:Option Kd) (m:Option Nat) (p x:PV) (K:Nat→Bk→Prop):Prop:=match p with | .pt id i j=>q9s (h id) k m i j x (K id) | _=>False
def qki (o:Option Bk) (E:TypeId) (k k':Kd) (off n id:Nat) (K:List PV→Option Nat→Prop):Prop:=∃ b,o=some b∧(b.st=false∧b.T=E∧b.k=k∧k'=k∧off=0∧n=b.xs.length)∧K b.xs (some id)
def qkj (h:Hp) (E:TypeId) (k:Kd) (p:PV) (K:List PV→Option Nat→Prop):Prop:=match p with
 | .vl (.slice none 0 0)=>K [] none
 | .ow id k' off n=>qki (h id) E k k' off n id K
 | _=>False
def qpi (h:Hp) (i0:Option Nat) (b:Bk):Hp:=match i0 with | none=>h | some i=>q0c h i b
def qkh (o:Option Bk) (k k':Kd) (off n id:Nat) (K:List PV→List Nat→Prop):Prop:=∃ b,o=some b∧(b.st=false∧b.k=k∧k'=k)∧K ((b.xs.drop off).take n) [id]
def qfz (h:Hp) (k:Kd) (p:PV) (K:List PV→List Nat→Prop):Prop:=match p with
 | .vl (.slice none 0 0)=>K [] []
 | .sl k' l=>k'=k∧K l []
 | .ow id k' off n=>qkh (h id) k k' off n id K
 | _=>False
noncomputable def cO {α:Type} (p:Prop) (o:Option α):Option α:=open Classical in if p then o else none
def ClL (l:List PV):Prop:=∀ x ∈ l,Cld x
noncomputable def clB (o:Option Bk) (id:Nat) (k:Kd) (off n:Nat):Option (PV × List Nat):=open Classical in o.bind fun b=>if b.st=false∧b.k=k∧∀ x ∈ b.xs,Cld x then some (.sl k ((b.xs.drop off).take n),[id]) else none
def qfC (a:Option (PV × List Nat)) (b:Option (List PV × List Nat)):Option (List PV × List Nat):=a.bind fun a=>b.map fun b=>(a.1 :: b.1,a.2 ++ b.2)
def q5p (P:Program) (Tb:World→Prop) (f:FuncId) (o:Option (List PV × List Nat)) [K:Cn (PV→List Nat→Prop)]:Prop:=∃ al ids x,o=some (al,ids)∧AC P Tb f al x∧(ids=[]∨Nz x)∧K.k x ids
def ao (P : Program) (Tb : World → Prop) (d : Option Nat) (op : Op) (s : Nat → PV) (h : Hp) (K : PV → Hp → FP → Prop) : Prop := ∃ x h' fp, Stp P Tb ⟨d, op, 0, "", #[], none⟩ s h x h' fp ∧ K x h' fp
def qou (prs:List (Nat × Nat)) (acc:List FP):Prop:=chk prs acc.reverse
section
variable {P:Program} {Tb:World→Prop}
@[congr] theorem qqm {o o':Option Bk} {d:Nat} {A:Prop} (h:o=o'):nnK o d A=nnK o' d A:=by rw [h]
@[congr] theorem qot {k:Kd} {x x':PV} {A:Prop} (h:x=x'):q26 k x A=q26 k x' A:=by rw [h]
@[congr] theorem qos {k:Kd} {x x':List PV} {A:Prop} (h:x=x'):qbj k x A=qbj k x' A:=by rw [h]
@[congr] theorem vK_congr {x x':PV} {K:PV→Prop} (h:x=x'):vK x K=vK x' K:=by rw [h]
@[congr] theorem qqr {y:Nat} {l l' c c':PV} {K:Nat→Prop} (h:l=l') (h':c=c'):mkA y l c K=mkA y l' c' K:=by rw [h,h']
@[congr] theorem qom {o o':Option Bk} {k k':Option Kd} {m m':Option Nat} {i j:Nat} {x:PV} {K:Bk→Prop} (h1:o=o') (h2:k=k') (h3:m=m'):q9s o k m i j x K=q9s o' k' m' i j x K:=by rw [h1,h2,h3]
@[congr] theorem qok {h:Hp} {k k':Option Kd} {m m':Option Nat} {p p' x x':PV} {K:Nat→Bk→Prop} (h1:p=p') (h2:x=x'):qol h k m p x K=qol h k m p' x' K:=by rw [h1,h2]
@[congr] theorem qpA {o o':Option Bk} {E:TypeId} {k k':Kd} {off n id:Nat} {K:List PV→Option Nat→Prop} (h:o=o'):qki o E k k' off n id K=qki o' E k k' off n id K:=by rw [h]
@[congr] theorem qpB {h:Hp} {E:TypeId} {k:Kd} {p p':PV} {K:List PV→Option Nat→Prop} (h1:p=p'):qkj h E k p K=qkj h E k p' K:=by rw [h1]
@[congr] theorem qoy {o o':Option Bk} {k k':Kd} {off n id:Nat} {K:List PV→List Nat→Prop} (h:o=o'):qkh o k k' off n id K=qkh o' k k' off n id K:=by rw [h]
@[congr] theorem qoz {h:Hp} {k:Kd} {p p':PV} {K:List PV→List Nat→Prop} (h1:p=p'):qfz h k p K=qfz h k p' K:=by rw [h1]
@[congr] theorem ao_congr {d:Option Nat} {op:Op} {s:Nat→PV} {h:Hp} {K:PV→Hp→FP→Prop}:ao P Tb d op s h K=ao P Tb d op s h K:=rfl
@[congr] theorem AL_congr {ops l:List Oper} {K:(Nat→PV)→Hp→List FP→Prop} {s:Nat→PV} {h:Hp} {acc:List FP}:AL P Tb ops K l s h acc=AL P Tb ops K l s h acc:=rfl
@[congr] theorem AW_congr {J:Nat→Prop} {n:Nat} {c:Code} {Q:SQ} {s:Nat→PV} {h:Hp}:AW P Tb J n c Q s h=AW P Tb J n c Q s h:=rfl
theorem cK_t {A:Prop}:@cK True ⟨A⟩=A:=by simp [cK]
theorem cK_of {p A:Prop} (h:p):@cK p ⟨A⟩=A:=by simp [cK,h]
theorem nnK_n {A:Prop} {d:Nat}:nnK none d A=@cK (d < 5000) ⟨A⟩:=by simp [nnK,cK]
theorem oK_s {α:Type} {x:α} {K:α→Prop}:@oK _ (some x) ⟨K⟩=K x:=rfl
theorem vK_v {x:PV} {K:PV→Prop}:vK x K=K x:=rfl
theorem ldK_s {x:PV} {l:List Nat} {K:PV→List Nat→Prop}:@ldK (some (x,l)) ⟨K⟩=K x l:=rfl
theorem qqa {A B:Prop}:@pgA (some true) true ⟨A⟩ ⟨B⟩=A:=by simp [pgA]
theorem qqb {A B:Prop}:@pgA (some true) false ⟨A⟩ ⟨B⟩=B:=by simp [pgA]
theorem qqc {A B:Prop}:@pgA (some false) true ⟨A⟩ ⟨B⟩=B:=by simp [pgA]
theorem qqd {A B:Prop}:@pgA (some false) false ⟨A⟩ ⟨B⟩=A:=by simp [pgA]
theorem mkA_n {y n:Nat} {k k':IntKind} {K:Nat→Prop}:mkA y (.vl (.int k (n:Int))) (.vl (.int k' (n:Int))) K=@cK (y*n≤281474976710656∧n≤9223372036854775807) ⟨K n⟩:=by
 simp only [mkA,cK,Int.toNat_natCast,maxLen,true_and];exact propext ⟨fun h=>⟨⟨h.2.1,h.2.2.1⟩,h.2.2.2⟩,fun h=>⟨by omega,h.1.1,h.1.2,h.2⟩⟩
theorem qjs {k:IntKind} {z:Int} {A:Prop}:q26 none (.vl (.int k z)) A=@cK (q4V (.int k z)=true) ⟨A⟩:=by simp [q26,q7F,qeb,qj2,cK,Value.oneCell']
theorem qrX {b:Bool} {A:Prop}:q26 none (.vl (.bool b)) A=A:=by simp [q26,q7F,qeb,qj2,Value.oneCell',q4V]
theorem qnA {a:Option Addr} {m c:Nat} {A:Prop}:q26 none (.vl (.slice a m c)) A=A:=by simp [q26,q7F,qeb,qj2,Value.oneCell',q4V]
theorem qrS {k:Kd} {l:List PV} {A:Prop}:q26 none (.sl k l) A=A:=by simp [q26,q7F,qeb]
theorem qrU {id off m:Nat} {k:Kd} {A:Prop}:q26 none (.ow id k off m) A=A:=by simp [q26,q7F,qeb]
theorem qrT {id i j:Nat} {A:Prop}:q26 none (.pt id i j) A=A:=by simp [q26,q7F,qeb]
theorem qrY {m:Nat} {l:List PV} {A:Prop}:q26 (some m) (.ag l) A=@cK (l.length=m) ⟨qbj none l A⟩:=by
 simp only [q26,q7F,cK,qbj,and_assoc]
theorem qa5 {k:Kd} {A:Prop}:qbj k [] A=A:=by simp [qbj]
theorem qa6 {k:Kd} {x:PV} {l:List PV} {A:Prop}:qbj k (x :: l) A=q26 k x (qbj k l A):=by simp [qbj,q26,and_assoc]
theorem qrW {m:Nat} {G:Fam} {A:Prop} (hf:∀ D v w,In G D v w→q2w (some m) v):q26 (some m) (.fm G) A=A:=by simp only [q26,q7F]; exact propext ⟨fun h=>h.2,fun h=>⟨hf,h⟩⟩
theorem qpd {h:Hp} {k:Option Kd} {m:Option Nat} {id i j:Nat} {x:PV} {K:Nat→Bk→Prop}:qol h k m (.pt id i j) x K=q9s (h id) k m i j x (K id):=rfl
theorem qjN {T:TypeId} {k:Kd} {xs:List PV} {i:Nat} {x:PV} {K:Bk→Prop}:q9s (some ⟨T,k,xs,false⟩) (some k) (some (ksz k)) i 0 x K=@cK (i < xs.length) ⟨q26 k x (K ⟨T,k,xs.set i x,false⟩)⟩:=by
 simp only [q9s,cK,q26];refine propext ⟨?_,?_⟩
 ·rintro ⟨b,k',u,u',h1,h2,_,_,h5,h6,h7,h8⟩;cases h1; cases h2;have hlt:=(List.getElem?_eq_some_iff.1 h6).1;simp only [stU,and_self,if_true] at h7;cases h7;exact ⟨hlt,h5,h8⟩
 ·rintro ⟨h1,h2,h3⟩;exact ⟨_,k,_,x,rfl,rfl,rfl,rfl,h2,List.getElem?_eq_getElem h1,by simp [stU],h3⟩
theorem qlX {T:TypeId} {xs:List PV} {i:Nat} {x:PV} {K:Bk→Prop}:q9s (some ⟨T,none,xs,false⟩) (some none) (some 1) i 0 x K=@cK (i < xs.length) ⟨q26 none x (K ⟨T,none,xs.set i x,false⟩)⟩:=qjN
theorem qlW {T:TypeId} {m:Nat} {xs:List PV} {i:Nat} {x:PV} {K:Bk→Prop}:q9s (some ⟨T,some m,xs,false⟩) (some (some m)) (some m) i 0 x K=@cK (i < xs.length) ⟨q26 (some m) x (K ⟨T,some m,xs.set i x,false⟩)⟩:=qjN
theorem qpf {T:TypeId} {m j:Nat} {l:List PV} {x:PV} {K:Bk→Prop}:q9s (some ⟨T,some m,[.ag l],false⟩) (some none) (some 1) 0 j x K=@cK (j < l.length) ⟨q26 none x (K ⟨T,some m,[.ag (l.set j x)],false⟩)⟩:=by
 simp only [q9s,cK,q26];refine propext ⟨?_,?_⟩
 ·rintro ⟨b,k',u,u',h1,h2,_,_,h5,h6,h7,h8⟩;cases h1; cases h2;simp at h6;subst h6;unfold stU at h7;rw [if_neg (by simp)] at h7;simp only at h7
  split at h7
  ·cases h7; exact ⟨by assumption,h5,h8⟩
  ·cases h7
 ·rintro ⟨h1,h2,h3⟩;exact ⟨_,none,.ag l,.ag (l.set j x),rfl,rfl,rfl,rfl,h2,rfl,by unfold stU; rw [if_neg (by simp)]; simp [h1],h3⟩
theorem qpe {T:TypeId} {n m j:Nat} {l r:List PV} {K:Bk→Prop} (hn:n≠m):q9s (some ⟨T,some n,[.ag l],false⟩) (some (some m)) (some m) 0 j (.ag r) K=@cK (r.length=m∧j+m≤l.length) ⟨q26 (some m) (.ag r) (K ⟨T,some n,[.ag (l.take j ++ r ++ l.drop (j+m))],false⟩)⟩:=by
 have e:stU (some n) (some m) j (.ag l) (.ag r)=if r.length=m∧j+m≤l.length then some (.ag (l.take j ++ r ++ l.drop (j+m))) else none:=by
  unfold stU; rw [if_neg (by simp [hn])]
 simp only [q9s,cK,q26];refine propext ⟨?_,?_⟩
 ·rintro ⟨b,k',u,u',h1,h2,_,_,h5,h6,h7,h8⟩;cases h1; cases h2;simp at h6;subst h6;rw [e] at h7
  split at h7
  ·cases h7; exact ⟨by assumption,h5,h8⟩
  ·cases h7
 ·rintro ⟨h1,h2,h3⟩;exact ⟨_,some m,.ag l,_,rfl,rfl,rfl,rfl,h2,rfl,by rw [e,if_pos h1],h3⟩
theorem ldU_b {a b c d:PV}:ldU (some 4) (some 2) 1 (.ag [a,b,c,d])=some (.ag [b,c]):=by simp [ldU]
theorem qsr {h:Hp} {E:TypeId} {k:Kd} {K:List PV→Option Nat→Prop}:qkj h E k (.vl (.slice none 0 0)) K=K [] none:=rfl
theorem qsq {h:Hp} {E:TypeId} {k k':Kd} {id off m:Nat} {K:List PV→Option Nat→Prop}:qkj h E k (.ow id k' off m) K=qki (h id) E k k' off m id K:=rfl
theorem qsp {E:TypeId} {k:Kd} {xs:List PV} {id m:Nat} {K:List PV→Option Nat→Prop}:qki (some ⟨E,k,xs,false⟩) E k k 0 m id K=@cK (m=xs.length) ⟨K xs (some id)⟩:=by
 simp [qki,cK]
theorem qso {h:Hp} {k:Kd} {K:List PV→List Nat→Prop}:qfz h k (.vl (.slice none 0 0)) K=K [] []:=rfl
theorem qsm {h:Hp} {k:Kd} {l:List PV} {K:List PV→List Nat→Prop}:qfz h k (.sl k l) K=K l []:=by simp [qfz]
theorem qsn {h:Hp} {k k':Kd} {id off m:Nat} {K:List PV→List Nat→Prop}:qfz h k (.ow id k' off m) K=qkh (h id) k k' off m id K:=rfl
theorem qsl {T:TypeId} {k:Kd} {xs:List PV} {off m id:Nat} {K:List PV→List Nat→Prop}:qkh (some ⟨T,k,xs,false⟩) k k off m id K=K ((xs.drop off).take m) [id]:=by
 simp [qkh]
variable {d:Option Nat} {ty t:TypeId} {pos:String} {af:Array Edge} {g:Option (Nat × Bool)} {s:Nat→PV} {h:Hp} {K:PV→Hp→FP→Prop} {ops r:List Oper} {KL:(Nat→PV)→Hp→List FP→Prop} {acc:List FP} {dd:Nat}
theorem quO:AL P Tb ops KL [] s h acc=KL s h acc:=rfl
theorem AL_n {op:Op}:AL P Tb ops KL (⟨d,op,ty,pos,af,none⟩ :: r) s h acc=ao P Tb d op s h fun x h' fp=>AL P Tb ops KL r (q3V s d x) h' (fp :: acc):=rfl
theorem AL_g {op:Op} {j:Nat} {b:Bool}:AL P Tb ops KL (⟨d,op,ty,pos,af,some (j,b)⟩ :: r) s h acc=@pgA (q3H ops s j b) b ⟨ao P Tb d op s h fun x h' fp=>AL P Tb ops KL r (q3V s d x) h' (fp :: acc)⟩ ⟨AL P Tb ops KL r (q3V s d (.vl undef)) h (([],[]) :: acc)⟩:=by
 refine propext ⟨?_,fun hp=>?_⟩
 ·rintro ⟨x,h',fp,hg,hk⟩;unfold q72 at hg;simp only at hg;obtain ⟨c,hc,hg⟩:=hg;unfold pgA;rw [hc];simp only
  split at hg
  ·rename_i hcb; rw [if_pos hcb]; exact ⟨x,h',fp,hg,hk⟩
  ·rename_i hcb; rw [if_neg hcb]; obtain ⟨rfl,rfl,rfl⟩:=hg; exact hk
 ·unfold pgA at hp
  split at hp
  ·rename_i c hc
   split at hp
   ·rename_i hcb;obtain ⟨x,h',fp,hg,hk⟩:=hp;exact ⟨x,h',fp,by unfold q72; exact ⟨c,hc,by rw [if_pos hcb]; exact hg⟩,hk⟩
   ·rename_i hcb;exact ⟨.vl undef,h,([],[]),by unfold q72; exact ⟨c,hc,by rw [if_neg hcb]; exact ⟨rfl,rfl,rfl⟩⟩,hp⟩
  ·exact hp.elim
theorem q4U {α:Type} {o:Option α} {K:α→Prop}:@oK _ o ⟨K⟩=∃ a,o=some a∧K a:=by
 cases o <;> simp [oK,q2k]
theorem q30 {op : Op} (hs : ∀ x h' fp, Stp P Tb ⟨d, op, 0, "", #[], none⟩ s h x h' fp = (q4f P op (pe s) = some x ∧ h' = h ∧ fp = ([], []))) : ao P Tb d op s h K = @oK _ (q4f P op (pe s)) ⟨fun x => K x h ([], [])⟩ := by
 rw [q4U];unfold ao;refine propext ⟨?_,?_⟩
 ·rintro ⟨x,h',fp,h1,h2⟩;rw [hs] at h1;obtain ⟨h1,rfl,rfl⟩:=h1;exact ⟨x,h1,h2⟩
 ·rintro ⟨x,h1,h2⟩;exact ⟨x,h,([],[]),by rw [hs]; exact ⟨h1,rfl,rfl⟩,h2⟩
theorem qoS {x}:ao P Tb d (.move x) s h K=vK (pe s x) fun x=>K x h ([],[]):=q30 fun _ _ _=>rfl
theorem qf9 {x}:ao P Tb d (.assign x) s h K=vK (pe s x) fun x=>K x h ([],[]):=q30 fun _ _ _=>rfl
theorem qoR {c a b}:ao P Tb d (.pick c a b) s h K=@oK _ (pkP (pe s c) (pe s a) (pe s b)) ⟨fun x=>K x h ([],[])⟩:=q30 fun _ _ _=>rfl
theorem qif {op x y t'}:ao P Tb d (.binOp op t x y t') s h K=@oK _ (bnP P op t (pe s x) (pe s y)) ⟨fun x=>K x h ([],[])⟩:=q30 fun _ _ _=>rfl
theorem qoQ {op x}:ao P Tb d (.unOp op t x) s h K=@oK _ (unP op (pe s x)) ⟨fun x=>K x h ([],[])⟩:=q30 fun _ _ _=>rfl
theorem qbv {a b x}:ao P Tb d (.convert a b x) s h K=@oK _ (cvP (P.underlying a) (P.underlying b) (pe s x)) ⟨fun x=>K x h ([],[])⟩:=q30 fun _ _ _=>rfl
theorem q8Y {x f}:ao P Tb d (.fieldAddr t x f) s h K=@oK _ (qor P t f (pe s x)) ⟨fun x=>K x h ([],[])⟩:=q30 fun _ _ _=>rfl
theorem qbu {x i}:ao P Tb d (.extract x i) s h K=@oK _ (exP i (pe s x)) ⟨fun x=>K x h ([],[])⟩:=q30 fun _ _ _=>rfl
theorem q98 {x}:ao P Tb d (.nilCheck x) s h K=@oK _ (nlP (pe s x)) ⟨fun x=>K x h ([],[])⟩:=q30 fun _ _ _=>rfl
theorem q8X {x i}:ao P Tb d (.indexAddr t x i) s h K=@oK _ (qaY (q0p P t) (pe s x) (pe s i)) ⟨fun x=>K x h ([],[])⟩:=q30 fun _ _ _=>rfl
theorem qic {x lo hi}:ao P Tb d (.slice t x lo hi none) s h K=@oK _ (slP (q0p P t) (lo.map (pe s)) (hi.map (pe s)) (pe s x)) ⟨fun x=>K x h ([],[])⟩:=q30 fun _ _ _=>rfl
theorem fnP_q {f:FuncId} {z:Int}:fnP (.func f) #[] [.qt none (.vl (.int .i64 z))]=some (.fm (fFun f z)):=rfl
theorem qsw {fn:Fn} {cap:List Operand} {first:Array Operand}:ao P Tb d (.makeFunc fn first cap.toArray) s h K=@oK _ (fnP fn first (cap.map (pe s))) ⟨fun x=>K x h ([],[])⟩:=q30 fun _ _ _=>rfl
theorem qid {ps:List (Nat × Operand)}:ao P Tb d (.build t ps.toArray) s h K=@oK _ (blP P t (ps.map fun p=>(p.1,pe s p.2))) ⟨fun x=>K x h ([],[])⟩:=q30 fun _ _ _=>rfl
theorem qsv {x}:ao P Tb d (.call ⟨.builtin .len,#[x],#[t]⟩) s h K=@oK _ (qoo (q0p P t) (pe s x)) ⟨fun x=>K x h ([],[])⟩:=q30 fun _ _ _=>rfl
theorem qsu {x y ts}:ao P Tb d (.call ⟨.builtin .max,#[x,y],ts⟩) s h K=@oK _ (mmP true [pe s x,pe s y]) ⟨fun x=>K x h ([],[])⟩:=q30 fun _ _ _=>rfl
theorem qst {x y ts}:ao P Tb d (.call ⟨.builtin .min,#[x,y],ts⟩) s h K=@oK _ (mmP false [pe s x,pe s y]) ⟨fun x=>K x h ([],[])⟩:=q30 fun _ _ _=>rfl
theorem qoU {a}:ao P Tb d (.load t a) s h K=@ldK (ldP h (q0d P t) (pe s a)) ⟨fun x l=>K x h (l,[])⟩:=by
 unfold ao ldK;refine propext ⟨?_,fun hk=>?_⟩
 ·rintro ⟨x,h',fp,⟨r,h1,rfl,rfl,rfl⟩,hk⟩;rw [h1];exact hk
 ·split at hk
  ·rename_i x l hl;exact ⟨x,h,(l,[]),⟨(x,l),hl,rfl,rfl,rfl⟩,hk⟩
  ·exact hk.elim
theorem qig:ao P Tb (some dd) (.alloc t) s h K=nnK (h dd) dd (@oK _ (alB P t) ⟨fun b=>K (.pt dd 0 0) (q0c h dd b) ([],[dd])⟩):=by
 unfold ao nnK;rw [q4U];refine propext ⟨?_,?_⟩
 ·rintro ⟨x,h',fp,⟨d,b,h1,h2,h3,rfl,rfl,rfl⟩,hk⟩;cases h1;exact ⟨h2,b,h3,hk⟩
 ·rintro ⟨h2,b,h3,hk⟩;exact ⟨_,_,_,⟨dd,b,rfl,h2,h3,rfl,rfl,rfl⟩,hk⟩
theorem qtB {v}:ao P Tb (some dd) (.box t v) s h K=nnK (h dd) dd (@oK _ (q0d P t) ⟨fun k=>vK (pe s v) fun x=>q26 k x (K (.pt dd 0 0) (q0c h dd ⟨t,k,[x],false⟩) ([],[dd]))⟩):=by
 unfold ao nnK q26 vK;rw [q4U];refine propext ⟨?_,?_⟩
 ·rintro ⟨x,h',fp,⟨d,k,h1,h2,h3,h4,rfl,rfl,rfl⟩,hk⟩;cases h1;exact ⟨h2,k,h3,h4,hk⟩
 ·rintro ⟨h2,k,h3,h4,hk⟩;exact ⟨_,_,_,⟨dd,k,rfl,h2,h3,h4,rfl,rfl,rfl⟩,hk⟩
theorem qie {len:Nat} {ps:List (Nat × Operand)} (hp:ps.map (·.1)=List.range len):ao P Tb (some dd) (.buildSlice t len ps.toArray) s h K=nnK (h dd) dd (@oK _ (elK P t) ⟨fun e=>@cK (len*ksz e.2.1≤16777216) ⟨qbj e.2.1 (ps.map fun p=>pe s p.2) (K (.ow dd e.2.1 0 len) (q0c h dd ⟨e.1,e.2.1,ps.map fun p=>pe s p.2,false⟩) ([],[dd]))⟩⟩):=by
 unfold ao nnK qbj cK;rw [q4U];refine propext ⟨?_,?_⟩
 ·rintro ⟨x,h',fp,⟨d,E,k,bytes,h1,h2,h3,h4,h5,h6,rfl,rfl,rfl⟩,hk⟩;cases h1;exact ⟨h2,(E,k,bytes),h3,h5,fun x hx=>by obtain ⟨p,hp,rfl⟩:=List.mem_map.1 hx; exact h6 p hp,hk⟩
 ·rintro ⟨h2,⟨E,k,bytes⟩,h3,h5,h6,hk⟩;exact ⟨_,_,_,⟨dd,E,k,bytes,rfl,h2,h3,hp,h5,fun p hp=>h6 _ (List.mem_map.2 ⟨p,hp,rfl⟩),rfl,rfl,rfl⟩,hk⟩
theorem qtA:ao P Tb (some dd) (.buildSlice t 0 #[]) s h K=nnK (h dd) dd (@oK _ (elK P t) ⟨fun e=>K (.ow dd e.2.1 0 0) (q0c h dd ⟨e.1,e.2.1,[],false⟩) ([],[dd])⟩):=by
 have:=qie (P:=P) (Tb:=Tb) (s:=s) (h:=h) (K:=K) (t:=t) (dd:=dd) (len:=0) (ps:=[]) rfl;simpa [oK,cK,qbj] using this
theorem qsz {a}:ao P Tb (some dd) (.buildSlice t 1 #[(0,a)]) s h K=nnK (h dd) dd (@oK _ (elK P t) ⟨fun e=>@cK (ksz e.2.1≤16777216) ⟨vK (pe s a) fun x=>q26 e.2.1 x (K (.ow dd e.2.1 0 1) (q0c h dd ⟨e.1,e.2.1,[x],false⟩) ([],[dd]))⟩⟩):=by
 have:=qie (P:=P) (Tb:=Tb) (s:=s) (h:=h) (K:=K) (t:=t) (dd:=dd) (len:=1) (ps:=[(0,a)]) rfl;simpa [oK,cK,qa6,qa5,vK] using this
theorem qsy {a b}:ao P Tb (some dd) (.buildSlice t 2 #[(0,a),(1,b)]) s h K=nnK (h dd) dd (@oK _ (elK P t) ⟨fun e=>@cK (2*ksz e.2.1≤16777216) ⟨vK (pe s a) fun x=>vK (pe s b) fun y=>q26 e.2.1 x (q26 e.2.1 y (K (.ow dd e.2.1 0 2) (q0c h dd ⟨e.1,e.2.1,[x,y],false⟩) ([],[dd])))⟩⟩):=by
 have:=qie (P:=P) (Tb:=Tb) (s:=s) (h:=h) (K:=K) (t:=t) (dd:=dd) (len:=2) (ps:=[(0,a),(1,b)]) rfl;simpa [oK,cK,qa6,qa5,vK] using this
theorem qsx {a b c}:ao P Tb (some dd) (.buildSlice t 3 #[(0,a),(1,b),(2,c)]) s h K=nnK (h dd) dd (@oK _ (elK P t) ⟨fun e=>@cK (3*ksz e.2.1≤16777216) ⟨vK (pe s a) fun x=>vK (pe s b) fun y=>vK (pe s c) fun z=>q26 e.2.1 x (q26 e.2.1 y (q26 e.2.1 z (K (.ow dd e.2.1 0 3) (q0c h dd ⟨e.1,e.2.1,[x,y,z],false⟩) ([],[dd]))))⟩⟩):=by
 have:=qie (P:=P) (Tb:=Tb) (s:=s) (h:=h) (K:=K) (t:=t) (dd:=dd) (len:=3) (ps:=[(0,a),(1,b),(2,c)]) rfl;simpa [oK,cK,qa6,qa5,vK] using this
theorem qoT {l c}:ao P Tb (some dd) (.makeSlice t l c) s h K=nnK (h dd) dd (@oK _ (elZ P t) ⟨fun e=>mkA e.2.2.1 (pe s l) (pe s c) fun n=>K (.ow dd e.2.1 0 n) (q0c h dd ⟨e.1,e.2.1,List.replicate n e.2.2.2,false⟩) ([],[dd])⟩):=by
 unfold ao nnK;rw [q4U];refine propext ⟨?_,?_⟩
 ·rintro ⟨x,h',fp,⟨d,E,k,bytes,z,kl,kc,n,h1,h2,h3,h4,h5,h6,h7,rfl,rfl,rfl⟩,hk⟩;cases h1;refine ⟨h2,_,h3,?_⟩;unfold mkA;rw [h4,h5];exact ⟨rfl,by omega,by simpa using h6,by simpa using h7,by simpa using hk⟩
 ·rintro ⟨h2,⟨E,k,bytes,z⟩,h3,hk⟩;unfold mkA at hk
  split at hk
  ·rename_i kl a kc b ha hb;obtain ⟨rfl,k1,k2,k3,hk⟩:=hk;have e1:((a.toNat:Nat):Int)=a:=by omega
   exact ⟨_,_,_,⟨dd,E,k,bytes,z,kl,kc,a.toNat,rfl,h2,h3,by rw [e1]; exact ha,by rw [e1]; exact hb,k2,k3,rfl,rfl,rfl⟩,hk⟩
  ·exact hk.elim
theorem qib {a v}:ao P Tb d (.store t a v) s h K=qol h (q0d P t) (q04 P t) (pe s a) (pe s v) fun id b=>K (.vl undef) (q0c h id b) ([id],[id]):=by
 unfold ao qol q9s;refine propext ⟨?_,fun hk=>?_⟩
 ·rintro ⟨x,h',fp,⟨id,i,j,b,k,u,u',h1,h2,h3,h4,h5,h6,h7,h8,rfl,rfl,rfl⟩,hk⟩;rw [h1];exact ⟨b,k,u,u',h2,h4,h5,h3,h6,h7,h8,hk⟩
 ·split at hk
  ·rename_i id i j h1;obtain ⟨b,k,u,u',h2,h4,h5,h3,h6,h7,h8,hk⟩:=hk;exact ⟨_,_,_,⟨id,i,j,b,k,u,u',h1,h2,h3,h4,h5,h6,h7,h8,rfl,rfl,rfl⟩,hk⟩
  ·exact hk.elim
theorem qfa {sx xx}:ao P Tb (some dd) (.call ⟨.builtin .append,#[sx,xx],#[t,t]⟩) s h K=nnK (h dd) dd (@oK _ (elK P t) ⟨fun e=>qkj h e.1 e.2.1 (pe s sx) fun xs i0=>qfz h e.2.1 (pe s xx) fun ys ids=>@cK ((xs.length+ys.length)*(e.2.2+1)≤140737488355328) ⟨K (.ow dd e.2.1 0 (xs.length+ys.length)) (q0c (qpi h i0 ⟨e.1,e.2.1,xs,true⟩) dd ⟨e.1,e.2.1,xs ++ ys,false⟩) (ids,dd :: i0.toList)⟩⟩):=by
 have hL:∀ {E:TypeId} {k:Kd} {p:PV} {xs:List PV} {i0:Option Nat},apS h E k p=some (xs,i0)→qpi h i0 ⟨E,k,xs,true⟩=stl h i0:=fun {E k p xs i0} ha=>by
  unfold apS at ha
  split at ha
  ·cases ha; rfl
  ·obtain ⟨b,hb,hc⟩:=Option.bind_eq_some_iff.1 ha
   split at hc
   ·rename_i hcc;cases hc;obtain ⟨_,rfl,rfl,_⟩:=hcc;simp only [qpi,stl,hb]
   ·cases hc
  ·cases ha
 have hS:∀ {E:TypeId} {k:Kd} {p:PV} {K:List PV→Option Nat→Prop},qkj h E k p K=∃ xs i0,apS h E k p=some (xs,i0)∧K xs i0:=fun {E k p K}=>by
  refine propext ⟨fun hk=>?_,?_⟩
  ·unfold qkj at hk
   split at hk
   ·exact ⟨[],none,rfl,hk⟩
   ·unfold qki at hk;obtain ⟨b,hb,hc,hk⟩:=hk;exact ⟨b.xs,some _,by unfold apS; simp only [hb,Option.bind_some]; rw [if_pos hc],hk⟩
   ·exact hk.elim
  ·rintro ⟨xs,i0,ha,hk⟩;unfold apS at ha
   split at ha
   ·cases ha; exact hk
   ·obtain ⟨b,hb,hc⟩:=Option.bind_eq_some_iff.1 ha
    split at hc
    ·rename_i hcc; cases hc; exact ⟨b,hb,hcc,hk⟩
    ·cases hc
   ·cases ha
 have hX:∀ {k:Kd} {p:PV} {K:List PV→List Nat→Prop},qfz h k p K=∃ xs ids,apX h k p=some (xs,ids)∧K xs ids:=fun {k p K}=>by
  refine propext ⟨fun hk=>?_,?_⟩
  ·unfold qfz at hk
   split at hk
   ·exact ⟨[],[],rfl,hk⟩
   ·obtain ⟨rfl,hk⟩:=hk;exact ⟨_,[],by unfold apX; simp,hk⟩
   ·unfold qkh at hk;obtain ⟨b,hb,hc,hk⟩:=hk;exact ⟨_,_,by unfold apX; simp only [hb,Option.bind_some]; rw [if_pos hc],hk⟩
   ·exact hk.elim
  ·rintro ⟨xs,ids,ha,hk⟩;unfold apX at ha
   split at ha
   ·cases ha; exact hk
   ·split at ha
    ·rename_i hkk; cases ha; exact ⟨hkk,hk⟩
    ·cases ha
   ·obtain ⟨b,hb,hc⟩:=Option.bind_eq_some_iff.1 ha
    split at hc
    ·rename_i hcc; cases hc; exact ⟨b,hb,hcc,hk⟩
    ·cases hc
   ·cases ha
 unfold ao nnK cK;rw [q4U];refine propext ⟨?_,?_⟩
 ·rintro ⟨x,h',fp,⟨sx',xx',T,d,E,k,bytes,xs,ys,i0,ids,h1,h2,h3,h4,h5,h6,h7,h8,rfl,rfl,rfl⟩,hk⟩;cases h1; cases h2; cases h3;refine ⟨h4,_,h5,?_⟩;rw [hS];refine ⟨xs,i0,h6,?_⟩;rw [hX];exact ⟨ys,ids,h7,h8,by rw [hL h6]; exact hk⟩
 ·rintro ⟨h4,⟨E,k,bytes⟩,h5,hk⟩;rw [hS] at hk;obtain ⟨xs,i0,h6,hk⟩:=hk;rw [hX] at hk;obtain ⟨ys,ids,h7,h8,hk⟩:=hk;simp only at hk;rw [hL h6] at hk;exact ⟨_,_,_,⟨sx,xx,t,dd,E,k,bytes,xs,ys,i0,ids,rfl,rfl,rfl,h4,h5,h6,h7,h8,rfl,rfl,rfl⟩,hk⟩
theorem qoV {f} {xs:List Operand} {ts}:ao P Tb d (.call ⟨.value (.func f),xs.toArray,ts⟩) s h K=@q5p P Tb f (q3e h (xs.map (pe s))) ⟨fun x ids=>K x h (ids,[])⟩:=by
 unfold ao q5p;refine propext ⟨?_,?_⟩
 ·rintro ⟨x,h',fp,⟨al,ids,h1,h2,h3,rfl,rfl⟩,hk⟩;exact ⟨al,ids,x,by simpa using h1,h2,h3,hk⟩
 ·rintro ⟨al,ids,x,h1,h2,h3,hk⟩;exact ⟨x,h,(ids,[]),⟨al,ids,by simpa using h1,h2,h3,rfl,rfl⟩,hk⟩
def qiD (P:Program) (Tb:World→Prop) (h:Hp) (v:PV) (xs:List PV) [K:Cn (PV→List Nat→Prop)]:Prop:=∃ f ys,FnP v f ys∧@q5p P Tb f (q3e h (xs ++ ys)) K
theorem qbA {t:Nat} {xs:List Operand} {ts}:ao P Tb d (.call ⟨.value (.tmp t),xs.toArray,ts⟩) s h K=@qiD P Tb h (s t) (xs.map (pe s)) ⟨fun x ids=>K x h (ids,[])⟩:=by
 unfold ao qiD q5p;refine propext ⟨?_,?_⟩
 ·rintro ⟨x,h',fp,⟨f,ys,al,ids,h0,h1,h2,h3,rfl,rfl⟩,hk⟩;exact ⟨f,ys,h0,al,ids,x,by simpa using h1,h2,h3,hk⟩
 ·rintro ⟨f,ys,h0,al,ids,x,h1,h2,h3,hk⟩;exact ⟨x,h,(ids,[]),⟨f,ys,al,ids,h0,by simpa using h1,h2,h3,rfl,rfl⟩,hk⟩
theorem q2C {f:FuncId} {al:List PV} {x:PV} {K:PV→List Nat→Prop} (hc:AC P Tb f al x) (hk:K x []):@q5p P Tb f (some (al,[])) ⟨K⟩:=⟨al,[],x,rfl,hc,.inl rfl,hk⟩
theorem q4B {f:FuncId} {al:List PV} {x:PV} {ids:List Nat} {K:PV→List Nat→Prop} (hc:AC P Tb f al x) (hz:Nz x) (hk:K x ids):@q5p P Tb f (some (al,ids)) ⟨K⟩:=⟨al,ids,x,rfl,hc,.inr hz,hk⟩
end
attribute [irreducible] cK oK nnK q26 qbj vK ldK pgA mkA q9s qol qki qkj qkh qfz q5p qiD ao
section
variable {P:Program} {s:Nat→PV} {h:Hp} {i j:Nat} {k k':Kd} {x y:PV} {l m:List PV} {b:Bk}
theorem pe_t {t:Nat}:pe s (.tmp t)=s t:=rfl
theorem pe_c {v:Value}:pe s (.const v)=.vl v:=rfl
theorem qq3 {d:Nat}:q3V s (some d) x=pu s d x:=rfl
theorem qq4:q3V s none x=s:=rfl
theorem pu_ap {d t:Nat}:pu s d x t=if t=d then x else s t:=rfl
theorem qmh:q0c h i b j=if j=i then some b else h j:=rfl
theorem h0_ap:h0 i=none:=rfl
theorem enP_z:enP (x :: l) 0=x:=rfl
theorem enP_s:enP (x :: l) (i+1)=enP l i:=rfl
theorem stK_c {xs:List (Nat × PV)} {ks:List Nat} {t a:Nat}:stK ((a,x) :: xs) ks s t=if t=a then x else stK xs ks s t:=by
 show (match (if t=a then some x else lkP xs t) with | some x=>x | none=>if kin ks t then s t else .un)=_
 by_cases ht:t=a
 ·simp only [ht,if_true]
 ·simp only [ht,if_false]; rfl
theorem stK_n {ks:List Nat} {t:Nat}:stK [] ks s t=if kin ks t then s t else .un:=rfl
theorem kin_c {ks:List Nat} {t a:Nat}:kin (a :: ks) t=if t=a then true else kin ks t:=rfl
theorem kin_n {t:Nat}:kin [] t=false:=rfl
theorem hpK_c {bs:List (Nat × Bk)} {kb:List Nat} {t a:Nat}:hpK ((a,b) :: bs) kb h t=if t=a then some b else hpK bs kb h t:=by
 show (match (if t=a then some b else lkB bs t) with | some b=>some b | none=>if kin kb t then h t else none)=_
 by_cases ht:t=a
 ·simp only [ht,if_true]
 ·simp only [ht,if_false]; rfl
theorem hpK_n {kb:List Nat} {t:Nat}:hpK [] kb h t=if kin kb t then h t else none:=rfl
theorem ksz_n:ksz none=1:=rfl
theorem ksz_s {n:Nat}:ksz (some n)=n:=rfl
theorem qph:qpi h none b=h:=rfl
theorem qpg {id:Nat}:qpi h (some id) b=q0c h id b:=rfl
theorem bn_v {op:BinOp} {t:TypeId} {a c:Value}:bnP P op t (.vl a) (.vl c)=(q0y P op t a c).map .vl:=rfl
theorem un_v {op:UnOp} {a:Value}:unP op (.vl a)=(unV op a).map .vl:=rfl
theorem cv_v {s d:Option TypeDesc} {a:Value}:cvP s d (.vl a)=(qbn s d a).map .vl:=rfl
theorem pk_t:pkP (.vl (.bool true)) x y=some x:=rfl
theorem pk_f:pkP (.vl (.bool false)) x y=some y:=rfl
theorem fld_p {t:TypeId} {f:Nat} {a:Nat}:qor P t f (.pt a i j)=(q3h P t f).map fun r=>.pt a i (j+r.1):=rfl
theorem ex_t:exP i (.tu l)=l[i]?:=rfl
theorem nl_p {a:Nat}:nlP (.pt a i j)=some (.pt a i j):=rfl
theorem nl_q:nlP (.qt k x)=some (.qt k x):=rfl
theorem mm_v {b:Bool} {a c:Value}:mmP b [.vl a,.vl c]=(mmV b [a,c]).map .vl:=rfl
theorem qqx {n:Nat}:qoo (some n) (.sl k l)=some (.vl (.int .i64 l.length)):=rfl
theorem qqy {n a c d:Nat}:qoo (some n) (.ow a k c d)=some (.vl (.int .i64 d)):=rfl
theorem qqw {n a c:Nat} {A:Option Addr}:qoo (some n) (.vl (.slice A a c))=some (.vl (.int .i64 a)):=rfl
theorem qeD {kk:IntKind} {n:Nat}:qaY (some 1) (.sl none l) (.vl (.int kk (n:Int)))=(l[n]?).map (.qt none):=by
 simp [qaY,ksz]
theorem qm6 {kk:IntKind} {n c:Nat} (hc:0 < c):qaY (some c) (.sl (some c) l) (.vl (.int kk (n:Int)))=(l[n]?).map (.qt (some c)):=by
 simp [qaY,ksz,hc]
theorem qeE {kk:IntKind} {a off c n:Nat} (hn:n < c):qaY (some 1) (.ow a none off c) (.vl (.int kk (n:Int)))=some (.pt a (off+n) 0):=by
 simp [qaY,ksz,hn]
theorem qm8 {kk:IntKind} {a off c n e:Nat} (hn:n < c):qaY (some e) (.ow a (some e) off c) (.vl (.int kk (n:Int)))=some (.pt a (off+n) 0):=by
 simp [qaY,ksz,hn]
theorem ld_p {a:Nat} {K:PV→List Nat→Prop}:@ldK (ldP h (some k) (.pt a i j)) ⟨K⟩=@ldK ((h a).bind fun b=>if b.st=true∨ksz k=0 then none else ((b.xs[i]?).bind (ldU b.k k j)).map fun x=>(x,[a])) ⟨K⟩:=by
 congr 1
 cases hh:h a <;> simp [ldP,hh]
theorem ld_q {K:PV→List Nat→Prop}:@ldK (ldP h (some k) (.qt k' x)) ⟨K⟩=@ldK (if ksz k=0 then none else (ldU k' k 0 x).map fun y=>(y,[])) ⟨K⟩:=rfl
theorem ldU_s:ldU k k 0 x=some x:=by simp [ldU]
theorem ldU_c {n:Nat}:ldU (some n) none j (.ag l)=l[j]?:=by simp [ldU]
theorem py_s {o:Oper} {os:List Oper} {b:Bool}:q3H (o :: os) s (j+1) b=q3H os s j b:=rfl
def qgu (b:Bool):PV→Option Bool | .vl (.bool c)=>some c | .vl (.tuple _)=>some (!b) | _=>none
theorem py_z {d:Nat} {op:Op} {ty:TypeId} {pos:String} {af:Array Edge} {g:Option (Nat × Bool)} {os:List Oper} {b:Bool}:q3H (⟨some d,op,ty,pos,af,g⟩ :: os) s 0 b=qgu b (s d):=rfl
theorem qmI {b c:Bool}:qgu c (.vl (.bool b))=some b:=rfl
theorem qmG:qgu true (.vl undef)=some false:=rfl
theorem qmH:qgu false (.vl undef)=some true:=rfl
theorem qsC:q3e h []=some ([],[]):=rfl
theorem qsD:q3e h (x :: l)=qfC (clo h x) (q3e h l):=rfl
theorem qiV {a b:List Nat}:qfC (some (x,a)) (some (l,b))=some (x :: l,a ++ b):=rfl
theorem qsE {v:Value}:clo h (.vl v)=some (.vl v,[]):=by simp [clo,q4O,q4p]
theorem qsK {G:Fam}:clo h (.fm G)=some (.fm G,[]):=by simp [clo,q4O,q4p]
theorem qsG:clo h (.sl k l)=some (.sl k l,[]):=by simp [clo,q4O,q4p]
theorem qsH:clo h (.qt k x)=some (.qt k x,[]):=by simp [clo,q4O,q4p]
theorem qsF:clo h .un=some (.un,[]):=by simp [clo,q4O,q4p]
theorem qsI {a off c:Nat}:clo h (.ow a k off c)=clB (h a) a k off c:=by simp only [clo,q4O,clB]
theorem clB_s {a off c:Nat} {T:TypeId}:clB (some ⟨T,k,l,false⟩) a k off c=cO (ClL l) (some (.sl k ((l.drop off).take c),[a])):=by
 unfold clB cO ClL;simp only [Option.bind_some]
 by_cases hc:∀ x ∈ l,Cld x
 ·rw [if_pos ⟨rfl,rfl,hc⟩,if_pos hc]
 ·rw [if_neg fun h=>hc h.2.2,if_neg hc]
theorem cO_t {α:Type} {o:Option α}:cO True o=o:=by simp [cO]
theorem qsL:clo h (.ag l)=(q2b h l).map fun r=>(.ag r.1,r.2):=rfl
theorem qn4:q2b h []=some ([],[]):=rfl
theorem qn5:q2b h (x :: l)=qfC (q4O h x) (q2b h l):=rfl
theorem qn7 {v:Value}:q4O h (.vl v)=some (.vl v,[]):=by simp [q4O,q4p]
theorem qna {G:Fam}:q4O h (.fm G)=some (.fm G,[]):=by simp [q4O,q4p]
theorem qn8:q4O h (.sl k l)=some (.sl k l,[]):=by simp [q4O,q4p]
theorem qn9 {a off c:Nat}:q4O h (.ow a k off c)=clB (h a) a k off c:=by simp only [q4O,clB]
theorem quG {v:Value}:Cld (.vl v)=True:=by simp [Cld,q4p]
theorem quI {G:Fam}:Cld (.fm G)=True:=by simp [Cld,q4p]
theorem quH:Cld (.sl k l)=True:=by simp [Cld,q4p]
theorem ClL_n:ClL []=True:=by simp [ClL]
theorem ClL_c:ClL (x :: l)=(Cld x∧ClL l):=by simp [ClL]
theorem ClL_a:ClL (l ++ m)=(ClL l∧ClL m):=by
 simp only [ClL,List.mem_append];exact propext ⟨fun h=>⟨fun x hx=>h x (.inl hx),fun x hx=>h x (.inr hx)⟩,fun h x hx=>hx.elim (h.1 x) (h.2 x)⟩
theorem qod {α:Type} {f:α→PV} {q:List α}:ClL (q.map f)=∀ a ∈ q,Cld (f a):=by simp [ClL]
theorem qiw {α:Type} {f:α→Value} {q:List α}:ClL (q.map fun a=>.vl (f a))=True:=by simp [ClL,Cld,q4p]
theorem rsP_t {t:Nat}:rsP P h s (.tmp t)=some (s t):=rfl
theorem qkd {t:TypeId} {ps:List (Nat × PV)} {pl:List (Nat × Nat)} {z:List Value} (hp:plc P t=some (pl,z)):blP P t ps=(flP pl (z.map .vl) ps).map .ag:=by unfold blP; rw [hp]; rfl
theorem qsM {acc:List FP}:qou [] acc=True:=by simp [qou,chk]
end
end Go.E
namespace Go.Proofs.YtbcmhlhgljoolaaGreatDoor
open Go Go.E
set_option maxRecDepth 100000
theorem elK22:elK Tryz.prog 22=some (29,none,8):=by kernel_rfl
theorem elZ22:elZ Tryz.prog 22=some (29,none,8,.vl (.int .u64 0)):=by kernel_rfl
theorem elK23:elK Tryz.prog 23=some (4,none,1):=by kernel_rfl
theorem elZ23:elZ Tryz.prog 23=some (4,none,1,.vl (.bool false)):=by kernel_rfl
theorem elK24:elK Tryz.prog 24=some (3,none,8):=by kernel_rfl
theorem elZ24:elZ Tryz.prog 24=some (3,none,8,.vl (.int .i64 0)):=by kernel_rfl
theorem elK25:elK Tryz.prog 25=some (30,none,8):=by kernel_rfl
theorem elZ25:elZ Tryz.prog 25=some (30,none,8,.vl (.int .u64 0)):=by kernel_rfl
theorem elK33:elK Tryz.prog 33=some (24,none,24):=by kernel_rfl
theorem elZ33:elZ Tryz.prog 33=some (24,none,24,.vl (.slice none 0 0)):=by kernel_rfl
theorem elK99:elK Tryz.prog 99=some (125,none,24):=by kernel_rfl
theorem elZ99:elZ Tryz.prog 99=some (125,none,24,.vl (.slice none 0 0)):=by kernel_rfl
theorem qro:elK Tryz.prog 105=some (25,none,24):=by kernel_rfl
theorem qrj:elZ Tryz.prog 105=some (25,none,24,.vl (.slice none 0 0)):=by kernel_rfl
theorem qrm:elK Tryz.prog 125=some (74,some 4,48):=by kernel_rfl
theorem qri:elZ Tryz.prog 125=some (74,some 4,48,.ag [.vl (.bool false),.vl (.bool false),.vl (.slice none 0 0),.vl (.int .i64 0)]):=by kernel_rfl
theorem qrl:elK Tryz.prog 147=some (23,none,24):=by kernel_rfl
theorem qrh:elZ Tryz.prog 147=some (23,none,24,.vl (.slice none 0 0)):=by kernel_rfl
theorem qrk:elK Tryz.prog 221=some (224,some 3,24):=by kernel_rfl
theorem qrg:elZ Tryz.prog 221=some (224,some 3,24,.ag [.vl (.int .i64 0),.vl (.int .i64 0),.vl (.int .u64 0)]):=by kernel_rfl
theorem alB3:alB Tryz.prog 3=some ⟨3,none,[.vl (.int .i64 0)],false⟩:=by kernel_rfl
theorem alB27:alB Tryz.prog 27=some ⟨27,some 4,[.ag [.vl (.slice none 0 0),.vl (.slice none 0 0),.vl (.slice none 0 0),.vl (.slice none 0 0)]],false⟩:=by kernel_rfl
theorem alB52:alB Tryz.prog 52=some ⟨52,some 5,[.ag [.vl (.int .i64 0),.vl (.int .i64 0),.vl (.slice none 0 0),.vl (.slice none 0 0),.vl (.slice none 0 0)]],false⟩:=by kernel_rfl
theorem alB72:alB Tryz.prog 72=some ⟨72,some 2,[.ag [.vl (.bool false),.vl (.slice none 0 0)]],false⟩:=by kernel_rfl
theorem alB74:alB Tryz.prog 74=some ⟨74,some 4,[.ag [.vl (.bool false),.vl (.bool false),.vl (.slice none 0 0),.vl (.int .i64 0)]],false⟩:=by kernel_rfl
theorem qtI:alB Tryz.prog 141=some ⟨141,some 1,[.ag [.vl (.slice none 0 0)]],false⟩:=by kernel_rfl
theorem qtH:alB Tryz.prog 155=some ⟨155,some 5,[.ag [.vl (.bool false),.vl (.bool false),.vl (.slice none 0 0),.vl (.int .i64 0),.vl (.bool false)]],false⟩:=by kernel_rfl
theorem qtG:alB Tryz.prog 220=some ⟨220,some 2,[.ag [.vl (.slice none 0 0),.vl (.slice none 0 0)]],false⟩:=by kernel_rfl
theorem qtF:alB Tryz.prog 224=some ⟨224,some 3,[.ag [.vl (.int .i64 0),.vl (.int .i64 0),.vl (.int .u64 0)]],false⟩:=by kernel_rfl
theorem qtE:alB Tryz.prog 241=some ⟨241,some 32,[.ag [.vl (.int .u8 0),.vl (.int .u8 0),.vl (.int .u8 0),.vl (.int .u8 0),.vl (.int .u8 0),.vl (.int .u8 0),.vl (.int .u8 0),.vl (.int .u8 0),.vl (.int .u8 0),.vl (.int .u8 0),.vl (.int .u8 0),.vl (.int .u8 0),.vl (.int .u8 0),.vl (.int .u8 0),.vl (.int .u8 0),.vl (.int .u8 0),.vl (.int .u8 0),.vl (.int .u8 0),.vl (.int .u8 0),.vl (.int .u8 0),.vl (.int .u8 0),.vl (.int .u8 0),.vl (.int .u8 0),.vl (.int .u8 0),.vl (.int .u8 0),.vl (.int .u8 0),.vl (.int .u8 0),.vl (.int .u8 0),.vl (.int .u8 0),.vl (.int .u8 0),.vl (.int .u8 0),.vl (.int .u8 0)]],false⟩:=by kernel_rfl
theorem qhi:q3h Tryz.prog 27 0=some (0,none):=by kernel_rfl
theorem qhh:q3h Tryz.prog 27 1=some (1,none):=by kernel_rfl
theorem qhg:q3h Tryz.prog 27 2=some (2,none):=by kernel_rfl
theorem qhf:q3h Tryz.prog 27 3=some (3,none):=by kernel_rfl
theorem qhe:q3h Tryz.prog 52 0=some (0,none):=by kernel_rfl
theorem qhd:q3h Tryz.prog 52 1=some (1,none):=by kernel_rfl
theorem qhc:q3h Tryz.prog 52 2=some (2,none):=by kernel_rfl
theorem qhb:q3h Tryz.prog 52 3=some (3,none):=by kernel_rfl
theorem qha:q3h Tryz.prog 52 4=some (4,none):=by kernel_rfl
theorem qh9:q3h Tryz.prog 72 0=some (0,none):=by kernel_rfl
theorem qh8:q3h Tryz.prog 72 1=some (1,none):=by kernel_rfl
theorem qh7:q3h Tryz.prog 74 0=some (0,none):=by kernel_rfl
theorem qh6:q3h Tryz.prog 74 1=some (1,some 2):=by kernel_rfl
theorem qh5:q3h Tryz.prog 74 2=some (3,none):=by kernel_rfl
theorem qe9:q3h Tryz.prog 141 0=some (0,none):=by kernel_rfl
theorem qe8:q3h Tryz.prog 155 0=some (0,none):=by kernel_rfl
theorem qe7:q3h Tryz.prog 155 1=some (1,some 2):=by kernel_rfl
theorem qe6:q3h Tryz.prog 155 2=some (3,none):=by kernel_rfl
theorem qe5:q3h Tryz.prog 155 3=some (4,none):=by kernel_rfl
theorem qe4:q3h Tryz.prog 220 0=some (0,none):=by kernel_rfl
theorem qe3:q3h Tryz.prog 220 1=some (1,none):=by kernel_rfl
theorem qe2:q3h Tryz.prog 224 0=some (0,none):=by kernel_rfl
theorem qe1:q3h Tryz.prog 224 1=some (1,none):=by kernel_rfl
theorem qe0:q3h Tryz.prog 224 2=some (2,none):=by kernel_rfl
theorem plc27:plc Tryz.prog 27=some ([(0,1),(1,1),(2,1),(3,1)],[.slice none 0 0,.slice none 0 0,.slice none 0 0,.slice none 0 0]):=by kernel_rfl
theorem plc52:plc Tryz.prog 52=some ([(0,1),(1,1),(2,1),(3,1),(4,1)],[.int .i64 0,.int .i64 0,.slice none 0 0,.slice none 0 0,.slice none 0 0]):=by kernel_rfl
theorem plc72:plc Tryz.prog 72=some ([(0,1),(1,1)],[.bool false,.slice none 0 0]):=by kernel_rfl
theorem plc74:plc Tryz.prog 74=some ([(0,1),(1,2),(3,1)],[.bool false,.bool false,.slice none 0 0,.int .i64 0]):=by kernel_rfl
theorem qq8:plc Tryz.prog 141=some ([(0,1)],[.slice none 0 0]):=by kernel_rfl
theorem qq7:plc Tryz.prog 155=some ([(0,1),(1,2),(3,1),(4,1)],[.bool false,.bool false,.slice none 0 0,.int .i64 0,.bool false]):=by kernel_rfl
theorem qq6:plc Tryz.prog 220=some ([(0,1),(1,1)],[.slice none 0 0,.slice none 0 0]):=by kernel_rfl
theorem qq5:plc Tryz.prog 224=some ([(0,1),(1,1),(2,1)],[.int .i64 0,.int .i64 0,.int .u64 0]):=by kernel_rfl
attribute [go_sem] elK22 elZ22 elK23 elZ23 elK24 elZ24 elK25 elZ25 elK33 elZ33 elK99 elZ99 qro qrj qrm qri qrl qrh qrk qrg alB3 alB27 alB52 alB72 alB74 qtI
attribute [go_sem] qtH qtG qtF qtE qhi qhh qhg qhf qhe qhd qhc qhb qha qh9 qh8 qh7 qh6 qh5
attribute [go_sem] qe9 qe8 qe7 qe6 qe5 qe4 qe3 qe2 qe1 qe0
theorem qsa {ps:List (Nat × PV)}:blP Tryz.prog 27 ps=(flP [(0,1),(1,1),(2,1),(3,1)] ([.slice none 0 0,.slice none 0 0,.slice none 0 0,.slice none 0 0].map .vl) ps).map .ag:=qkd plc27
theorem qs9 {ps:List (Nat × PV)}:blP Tryz.prog 52 ps=(flP [(0,1),(1,1),(2,1),(3,1),(4,1)] ([.int .i64 0,.int .i64 0,.slice none 0 0,.slice none 0 0,.slice none 0 0].map .vl) ps).map .ag:=qkd plc52
theorem qs8 {ps:List (Nat × PV)}:blP Tryz.prog 72 ps=(flP [(0,1),(1,1)] ([.bool false,.slice none 0 0].map .vl) ps).map .ag:=qkd plc72
theorem qs7 {ps:List (Nat × PV)}:blP Tryz.prog 74 ps=(flP [(0,1),(1,2),(3,1)] ([.bool false,.bool false,.slice none 0 0,.int .i64 0].map .vl) ps).map .ag:=qkd plc74
theorem qny {ps:List (Nat × PV)}:blP Tryz.prog 141 ps=(flP [(0,1)] ([.slice none 0 0].map .vl) ps).map .ag:=qkd qq8
theorem qnx {ps:List (Nat × PV)}:blP Tryz.prog 155 ps=(flP [(0,1),(1,2),(3,1),(4,1)] ([.bool false,.bool false,.slice none 0 0,.int .i64 0,.bool false].map .vl) ps).map .ag:=qkd qq7
theorem qnw {ps:List (Nat × PV)}:blP Tryz.prog 220 ps=(flP [(0,1),(1,1)] ([.slice none 0 0,.slice none 0 0].map .vl) ps).map .ag:=qkd qq6
theorem qnv {ps:List (Nat × PV)}:blP Tryz.prog 224 ps=(flP [(0,1),(1,1),(2,1)] ([.int .i64 0,.int .i64 0,.int .u64 0].map .vl) ps).map .ag:=qkd qq5
attribute [go_sem] qsa qs9 qs8 qs7 qny qnx qnw qnv
end Go.Proofs.YtbcmhlhgljoolaaGreatDoor
namespace Go.E
open Go Go.RowKit
attribute [go_sem ↓] pu_ap qmh quO AL_n AL_g qoS qf9 qoR qif qoQ qbv q8Y qbu q98 q8X qic qsw fnP_q qid qsv qsu qst qoU qig qtB qtA qsz qsy qsx qoT qib qfa qoV qbA
attribute [go_sem] cK_t oK_s nnK_n vK_v ldK_s qqa qqb qqc qqd mkA_n qrX qnA qrS qrU qrT qrY qa5 qa6 qpd qlX qlW qpf qpe ldU_b qsr qsq qsp qso qsm qsn qsl pe_t pe_c qq3 qq4 h0_ap enP_z enP_s stK_c stK_n kin_c kin_n hpK_c hpK_n ksz_n ksz_s qph qpg bn_v un_v cv_v pk_t pk_f fld_p ex_t nl_p nl_q mm_v qqx qqy qqw qeD qm6 qeE qm8 ld_p ld_q ldU_s ldU_c py_s py_z qmI qmG qmH qsC qsD qiV qsE qsK qsG qsH qsF qsI clB_s cO_t qsL qn4 qn5 qn7 qna qn8 qn9 quG quI quH ClL_n ClL_c ClL_a qod qiw qsM
attribute [go_sem] Option.bind_some Option.bind_none List.getElem?_cons_zero List.getElem?_cons_succ List.getElem?_map List.length_map List.length_replicate List.length_cons List.length_nil List.length_append List.length_set List.drop_zero List.nil_append Nat.add_zero and_true true_and implies_true or_false Bool.false_eq_true List.set_cons_zero List.set_cons_succ List.take_succ_cons List.take_zero List.take_nil List.drop_succ_cons
def q7n:List PV→Nat→PV→Option (List PV)
 | [],_,_=>none
 | _ :: l,0,x=>some (x :: l)
 | y :: l,n+1,x=>(q7n l n x).map fun r=>y :: r
theorem qct:∀ {l:List PV} {n:Nat} {x:PV},q7n l n x=if n < l.length then some (l.set n x) else none
 | [],n,x=>by simp [q7n]
 | y :: l,0,x=>by simp [q7n]
 | y :: l,n+1,x=>by
  simp only [q7n,qct (l:=l)]
  by_cases h:n < l.length <;> simp [h]
theorem qpz {y x:PV} {l:List PV}:q7n (y :: l) 0 x=some (x :: l):=rfl
theorem qqA {y x:PV} {l:List PV} {n:Nat}:q7n (y :: l) (n+1) x=(q7n l n x).map fun r=>y :: r:=rfl
def q9x:List PV→Nat→List PV→Option (List PV)
 | cs,0,[]=>some cs
 | _ :: cs,0,y :: l=>(q9x cs 0 l).map fun r=>y :: r
 | x :: cs,n+1,l=>(q9x cs n l).map fun r=>x :: r
 | [],_,_=>none
theorem q6e:∀ {cs:List PV} {n:Nat} {l:List PV},0 < l.length→q9x cs n l=if n+l.length≤cs.length then some (cs.take n ++ l ++ cs.drop (n+l.length)) else none
 | [],n,y :: l,_=>by
  cases n <;> simp [q9x]
 | x :: cs,0,[y],_=>by simp [q9x]
 | x :: cs,0,y :: z :: l,_=>by
  rw [q9x,q6e (cs:=cs) (n:=0) (l:=z :: l) (by simp)];simp only [List.length_cons]
  by_cases h:l.length+1≤cs.length
  ·rw [if_pos (by omega),if_pos (by omega)]; simp [Nat.add_assoc]
  ·rw [if_neg (by omega),if_neg (by omega)]; rfl
 | x :: cs,n+1,y :: l,hl=>by
  rw [q9x,q6e (cs:=cs) (n:=n) hl];simp only [List.length_cons]
  by_cases h:n+(l.length+1)≤cs.length
  ·rw [if_pos h,if_pos (by omega)];rw [show n+1+(l.length+1)=n+(l.length+1)+1 by omega];simp
  ·rw [if_neg h,if_neg (by omega)]; rfl
theorem qqB {cs:List PV}:q9x cs 0 []=some cs:=by cases cs <;> rfl
theorem qqD {x y:PV} {cs l:List PV}:q9x (x :: cs) 0 (y :: l)=(q9x cs 0 l).map fun r=>y :: r:=rfl
theorem qqC {x:PV} {cs l:List PV} {n:Nat}:q9x (x :: cs) (n+1) l=(q9x cs n l).map fun r=>x :: r:=by cases l <;> rfl
def flS (o:Option (Nat × Nat)) (x:PV) (cs:List PV):Option (List PV):=match o with
 | some (off,1)=>match x with
  | .vl y=>if y.oneCell'=true then q7n cs off (.vl y) else none
  | .sl k l=>q7n cs off (.sl k l)
  | .ow id k a n=>q7n cs off (.ow id k a n)
  | .pt id a n=>q7n cs off (.pt id a n)
  | _=>none
 | some (off,m)=>match x with
  | .ag l=>if l.length=m∧off+m≤cs.length then some (cs.take off ++ l ++ cs.drop (off+m)) else none
  | _=>none
 | none=>none
theorem flP_n {pl:List (Nat × Nat)} {cs:List PV}:flP pl cs []=some cs:=rfl
theorem flP_c {pl:List (Nat × Nat)} {cs:List PV} {i:Nat} {x:PV} {r:List (Nat × PV)}:flP pl cs ((i,x) :: r)=(flS (pl[i]?) x cs).bind fun c=>flP pl c r:=by
 rw [flP];unfold flS;cases pl[i]? with
 | none=>rfl
 | some p =>
  obtain ⟨off,m⟩:=p
  match m with
  | 0=>cases x <;> (try rfl); simp only; split <;> rfl
  | 1 =>
   cases x <;> simp only [qct] <;> (try rfl)
   case vl y=>by_cases h1:y.oneCell'=true <;> by_cases h2:off < cs.length <;> simp [h1,h2]
   all_goals (by_cases h2:off < cs.length <;> simp [h2])
  | m+2=>cases x <;> (try rfl); simp only; split <;> rfl
theorem flS_2 {off:Nat} {a b:PV} {cs:List PV}:flS (some (off,2)) (.ag [a,b]) cs=q9x cs off [a,b]:=by
 rw [q6e (by simp)];simp [flS]
theorem flS_4 {off:Nat} {a b c d:PV} {cs:List PV}:flS (some (off,4)) (.ag [a,b,c,d]) cs=q9x cs off [a,b,c,d]:=by
 rw [q6e (by simp)];simp [flS]
theorem flS_i {off:Nat} {k:IntKind} {z:Int} {cs:List PV}:flS (some (off,1)) (.vl (.int k z)) cs=q7n cs off (.vl (.int k z)):=rfl
theorem flS_b {off:Nat} {z:Bool} {cs:List PV}:flS (some (off,1)) (.vl (.bool z)) cs=q7n cs off (.vl (.bool z)):=rfl
theorem flS_l {off n c:Nat} {A:Option Addr} {cs:List PV}:flS (some (off,1)) (.vl (.slice A n c)) cs=q7n cs off (.vl (.slice A n c)):=rfl
theorem flS_s {off:Nat} {k:Kd} {l cs:List PV}:flS (some (off,1)) (.sl k l) cs=q7n cs off (.sl k l):=rfl
theorem flS_o {off id a n:Nat} {k:Kd} {cs:List PV}:flS (some (off,1)) (.ow id k a n) cs=q7n cs off (.ow id k a n):=rfl
attribute [go_sem] qpz qqA qqB qqD qqC flS_2 flS_4 flP_n flP_c flS_i flS_b flS_l flS_s flS_o
theorem tkm {α β:Type} {f:α→β} {l:List α}:(l.map f).take l.length=l.map f:=List.take_of_length_le (by simp)
theorem tkm' {α β:Type} {f:α→β} {l:List α} {n:Nat} (hn:l.length≤n):(l.map f).take n=l.map f:=List.take_of_length_le (by simpa using hn)
theorem tkl {α:Type} {l:List α}:l.take l.length=l:=List.take_length
attribute [go_sem] tkm tkm' tkl
def nin (x:Nat):List Nat→Prop
 | []=>True
 | y :: r=>x≠y∧nin x r
def dis (l:List Nat):List Nat→Prop
 | []=>True
 | x :: r=>nin x l∧dis l r
theorem qj7 {x:Nat}:∀ {l:List Nat},nin x l=(x ∉ l)
 | []=>by simp [nin]
 | y :: r=>by simp [nin,qj7 (l:=r)]
theorem qkB {l:List Nat}:∀ {r:List Nat},dis l r=∀ x ∈ r,x ∉ l
 | []=>by simp [dis]
 | y :: r=>by simp [dis,qj7,qkB (r:=r)]
theorem nin_n {x:Nat}:nin x []=True:=rfl
theorem nin_c {x y:Nat} {r:List Nat}:nin x (y :: r)=(x≠y∧nin x r):=rfl
theorem dis_n {l:List Nat}:dis l []=True:=rfl
theorem dis_c {l r:List Nat} {x:Nat}:dis l (x :: r)=(nin x l∧dis l r):=rfl
theorem dj_eq {a b c d:List Nat}:dj (a,b) (c,d)=(dis c b∧dis d b∧dis a d):=by
 simp only [dj,qkB];exact propext ⟨fun h=>⟨fun x hx=>(h.1 x hx).1,fun x hx=>(h.1 x hx).2,h.2⟩,fun h=>⟨fun x hx=>⟨h.1 x hx,h.2.1 x hx⟩,h.2.2⟩⟩
theorem qsN {a b:Nat} {r:List (Nat × Nat)} {acc:List FP}:qou ((a,b) :: r) acc=(dj (acc.reverse.getD a ([],[])) (acc.reverse.getD b ([],[]))∧qou r acc):=by
 simp [qou,chk]
attribute [go_sem] nin_n nin_c dis_n dis_c dj_eq qsN List.reverse_cons List.reverse_nil List.cons_append List.getD_cons_zero List.getD_cons_succ Option.toList_some Option.toList_none List.append_nil
theorem qhv {z:Int} {A:Prop}:q26 none (.vl (.int .i64 z)) A=A:=by rw [qjs]; simp [cK,q4V]
theorem qhu {z:Int} {A:Prop}:q26 none (.vl (.int .u64 z)) A=A:=by rw [qjs]; simp [cK,q4V]
attribute [go_sem] qhv qhu cK_of
section
variable {τ:Nat→Option Nat} {h h':Hp} {x y:PV} {l m:List PV} {k k':Kd}
theorem qt4:LeV τ h h' x .un=True:=by simp [LeV.un]
theorem qkl {a b:Value}:LeV τ h h' (.vl a) (.vl b)=(a=b):=by
 refine propext ⟨fun h=>by cases h; rfl,fun h=>by subst h; exact .cl (by simp [Cld,q4p])⟩
theorem qtc {G H:Fam}:LeV τ h h' (.fm G) (.fm H)=(G=H):=by
 refine propext ⟨fun h=>by cases h; rfl,fun h=>by subst h; exact .cl (by simp [Cld,q4p])⟩
theorem qt6:LeV τ h h' (.sl k l) (.sl k' m)=(k=k'∧l=m):=by
 refine propext ⟨fun h=>by cases h; exact ⟨rfl,rfl⟩,fun h=>by obtain ⟨rfl,rfl⟩:=h; exact .cl (by simp [Cld,q4p])⟩
theorem qt9 {i j a b c d:Nat}:LeV τ h h' (.ow j k a b) (.ow i k' c d)=(τ i=some j∧(∃ b,h' i=some b)∧k=k'∧a=c∧b=d):=by
 refine propext ⟨fun h=>?_,fun ⟨h1,⟨b,h2⟩,h3,h4,h5⟩=>by subst h3; subst h4; subst h5; exact .ow h1 h2⟩;cases h with
 | cl hc=>simp [Cld,q4p] at hc
 | ow h1 h2=>exact ⟨h1,⟨_,h2⟩,rfl,rfl,rfl⟩
theorem qt8 {i j a b c d:Nat}:LeV τ h h' (.pt j a b) (.pt i c d)=(τ i=some j∧(∃ b,h' i=some b)∧a=c∧b=d):=by
 refine propext ⟨fun h=>?_,fun ⟨h1,⟨b,h2⟩,h4,h5⟩=>by subst h4; subst h5; exact .pt h1 h2⟩;cases h with
 | cl hc=>simp [Cld,q4p] at hc
 | pt h1 h2=>exact ⟨h1,⟨_,h2⟩,rfl,rfl⟩
theorem q3Q {j a b:Nat} {T:TypeId} (hj:h j=some ⟨T,k,l,false⟩) (hc:ClL l) (hn:∀ i,τ i=some j→h' i=none) (he:(l.drop a).take b=m):LeV τ h h' (.ow j k a b) (.sl k m):=by
 subst he;exact .fz hj rfl rfl hc hn
theorem qtb {i a b:Nat}:LeV τ h h' (.vl (.slice none 0 0)) (.ow i k a b)=(τ i=none∧(∃ b,h' i=some b∧b.k=k)∧a=0∧b=0):=by
 refine propext ⟨fun h=>?_,fun ⟨h1,⟨b,h2,h3⟩,h4,h5⟩=>by subst h4; subst h5; exact .nilow h1 h2 h3⟩;cases h with
 | nilow h1 h2 h3=>exact ⟨h1,⟨_,h2,h3⟩,rfl,rfl⟩
theorem qta:LeV τ h h' (.vl (.slice none 0 0)) (.sl k l)=(l=[]):=by
 refine propext ⟨fun h=>by cases h; rfl,fun h=>by subst h; exact .nilsl⟩
def qcK (τ:Nat→Option Nat) (h h':Hp):List PV→List PV→Prop
 | [],[]=>True
 | x :: l,y :: m=>LeV τ h h' x y∧qcK τ h h' l m
 | _,_=>False
theorem q7Y:∀ {l m:List PV},qcK τ h h' l m=LeL τ h h' l m
 | [],[]=>by simp [qcK,LeL]
 | x :: l,[]=>by simp [qcK,LeL]
 | [],y :: m=>by simp [qcK,LeL]
 | x :: l,y :: m=>by
  simp only [qcK];rw [q7Y (l:=l) (m:=m)];refine propext ⟨fun ⟨h1,h2,h3⟩=>⟨by simp [h2],fun i a b ha hb=>?_⟩,fun ⟨h1,h2⟩=>⟨h2 0 x y rfl rfl,by simpa using h1,fun i a b ha hb=>h2 (i+1) a b (by simpa using ha) (by simpa using hb)⟩⟩;cases i with
  | zero=>simp at ha hb; subst ha; subst hb; exact h1
  | succ i=>exact h3 i a b (by simpa using ha) (by simpa using hb)
theorem qkm:LeV τ h h' (.ag l) (.ag m)=qcK τ h h' l m:=by
 rw [q7Y];refine propext ⟨fun h=>?_,fun ⟨h1,h2⟩=>.ag h1 h2⟩;cases h with
 | cl hc=>exact ⟨rfl,fun i a b ha hb=>by rw [ha] at hb; cases hb; have:=hc a (List.mem_of_getElem? ha); exact .cl (by cases a <;> simp_all [Cld,q4p])⟩
 | ag h1 h2=>exact ⟨h1,h2⟩
theorem qt5:LeV τ h h' (.tu l) (.tu m)=qcK τ h h' l m:=by
 rw [q7Y];refine propext ⟨fun h=>?_,fun ⟨h1,h2⟩=>.tu h1 h2⟩;cases h with
 | cl hc=>simp [Cld,q4p] at hc
 | tu h1 h2=>exact ⟨h1,h2⟩
theorem qtd:qcK τ h h' [] []=True:=rfl
theorem qte:qcK τ h h' (x :: l) (y :: m)=(LeV τ h h' x y∧qcK τ h h' l m):=rfl
theorem qtf {s:Nat→PV}:q7Z τ h h' s []=True:=rfl
theorem qtg {s:Nat→PV} {t:Nat} {r:List (Nat × PV)}:q7Z τ h h' s ((t,x) :: r)=(LeV τ h h' (s t) x∧q7Z τ h h' s r):=rfl
theorem qth {s s0:Nat→PV}:LeSk τ h h' s s0 []=True:=rfl
theorem qti {s s0:Nat→PV} {t:Nat} {r:List Nat}:LeSk τ h h' s s0 (t :: r)=(LeV τ h h' (s t) (s0 t)∧LeSk τ h h' s s0 r):=rfl
theorem qtw:qoc τ h h' []=True:=rfl
theorem qtx {t:Nat} {b:Bk} {r:List (Nat × Bk)}:qoc τ h h' ((t,b) :: r)=(LeB τ h h' t b∧qoc τ h h' r):=rfl
theorem quA {hb:Hp}:LeBk τ h h' hb []=True:=rfl
theorem quB {hb:Hp} {t:Nat} {r:List Nat}:LeBk τ h h' hb (t :: r)=((∀ b,hb t=some b→LeB τ h h' t b)∧LeBk τ h h' hb r):=rfl
theorem qp2 {i a:Nat} {o:Option Nat} {r:List (Nat × Option Nat)}:q2i ((a,o) :: r) i=if i=a then o else q2i r i:=rfl
theorem qp1 {i:Nat}:q2i [] i=some i:=rfl
def LeB' (o:Option Nat) (τ:Nat→Option Nat) (h h':Hp) (b':Bk):Prop :=
 match o with
 | some j=>∃ b,h j=some b∧b'.T=b.T∧b'.k=b.k∧(b'.st=false∧b.st=false)∧LeL τ h h' b.xs b'.xs
 | none=>b'.xs=[]
theorem quD {i:Nat} {b':Bk}:LeB τ h h' i b'=LeB' (τ i) τ h h' b':=rfl
def LeBb (o:Option Bk) (τ:Nat→Option Nat) (h h':Hp) (b':Bk):Prop:=∃ b,o=some b∧b'.T=b.T∧b'.k=b.k∧(b'.st=false∧b.st=false)∧LeL τ h h' b.xs b'.xs
theorem quE {j:Nat} {b':Bk}:LeB' (some j) τ h h' b'=LeBb (h j) τ h h' b':=rfl
theorem quF {T:TypeId} {st:Bool}:LeB' none τ h h' ⟨T,k,l,st⟩=(l=[]):=rfl
theorem quC {T T':TypeId} {st st':Bool}:LeBb (some ⟨T,k,l,st⟩) τ h h' ⟨T',k',m,st'⟩=(T'=T∧k'=k∧(st'=false∧st=false)∧LeL τ h h' l m):=by simp [LeBb]
theorem q0q (he:l=m) (hc:ClL m):LeL τ h h' l m:=by
 subst he;exact ⟨rfl,fun i a b ha hb=>by rw [ha] at hb; cases hb; exact .cl (hc a (List.mem_of_getElem? ha))⟩
theorem q70:LeL τ h h' [x] [y]=LeV τ h h' x y:=by rw [← q7Y]; simp [qcK]
theorem qlK:q8h τ []=True:=rfl
def qjC (τ:Nat→Option Nat) (i:Nat):List Nat→Prop
 | []=>True
 | j :: r=>(i=j∨τ i=none∨τ i≠τ j)∧qjC τ i r
theorem qcY {i:Nat}:∀ {r:List Nat},qjC τ i r=∀ j ∈ r,i=j∨τ i=none∨τ i≠τ j
 | []=>by simp [qjC]
 | j :: r=>by simp only [qjC,qcY (r:=r),List.forall_mem_cons]
theorem qp4 {i:Nat}:qjC τ i []=True:=rfl
theorem qp5 {i j:Nat} {r:List Nat}:qjC τ i (j :: r)=((i=j∨τ i=none∨τ i≠τ j)∧qjC τ i r):=rfl
theorem qlL {i:Nat} {r:List Nat}:q8h τ (i :: r)=(qjC τ i r∧q8h τ r):=by rw [qcY]; rfl
theorem qru {i:Nat} {b:Bk} {bs:List (Nat × Bk)} {kb:List Nat}:dom1 ((i,b) :: bs) kb=i :: dom1 bs kb:=rfl
theorem qrs {kb:List Nat}:dom1 [] kb=kb:=rfl
end
section
variable {P:Program} {Tb:World→Prop} {J:Nat→Prop} {n:Nat} {Q:SQ} {s:Nat→PV} {h:Hp}
theorem qfn {id:Nat} {l:List Oper} {b:Code} (hw:∀ K:(Nat→PV)→Hp→Prop,(∀ s h,AW P Tb J n b Q s h→K s h)→AL P Tb l (fun s h _=>K s h) l s h []):AW P Tb J n (.seq (.region id l.toArray false) b) Q s h :=
 q2t fun K hK=>q86 fun K1 hK1=>hw K1 fun s h hb=>hK1 s h (hK s h hb)
theorem Az {id:Nat} {l:List Oper} {b:Code} {s1:Nat→PV} {h1:Hp}  (k:AW P Tb J n b Q s1 h1) (ee:∀ K:(Nat→PV)→Hp→Prop,AL P Tb l (fun s h _=>K s h) l s h []=K s1 h1:=by intro K; simp -implicitDefEqProofs (disch:=omega) only [go_sem,Nat.reduceEqDiff,Nat.reduceAdd,↓reduceIte]; exact rfl):AW P Tb J n (.seq (.region id l.toArray false) b) Q s h:=qfn fun K hK=>(ee K).mpr (hK _ _ k)
theorem Az1 {id:Nat} {l:List Oper} {b:Code} {s1:Nat→PV} {h1:Hp} {F1:Prop} (f1:F1) (k:AW P Tb J n b Q s1 h1) (ee:F1→∀ K:(Nat→PV)→Hp→Prop,AL P Tb l (fun s h _=>K s h) l s h []=K s1 h1:=by intro g1 K; simp -implicitDefEqProofs (disch:=omega) only [go_sem,Nat.reduceEqDiff,Nat.reduceAdd,↓reduceIte,g1]; exact rfl):AW P Tb J n (.seq (.region id l.toArray false) b) Q s h:=qfn fun K hK=>(ee f1 K).mpr (hK _ _ k)
theorem Az2 {id:Nat} {l:List Oper} {b:Code} {s1:Nat→PV} {h1:Hp} {F1 F2:Prop} (f1:F1) (f2:F2) (k:AW P Tb J n b Q s1 h1) (ee:F1→F2→∀ K:(Nat→PV)→Hp→Prop,AL P Tb l (fun s h _=>K s h) l s h []=K s1 h1:=by intro g1 g2 K; simp -implicitDefEqProofs (disch:=omega) only [go_sem,Nat.reduceEqDiff,Nat.reduceAdd,↓reduceIte,g1,g2]; exact rfl):AW P Tb J n (.seq (.region id l.toArray false) b) Q s h:=qfn fun K hK=>(ee f1 f2 K).mpr (hK _ _ k)
theorem Az3 {id:Nat} {l:List Oper} {b:Code} {s1:Nat→PV} {h1:Hp} {F1 F2 F3:Prop} (f1:F1) (f2:F2) (f3:F3) (k:AW P Tb J n b Q s1 h1) (ee:F1→F2→F3→∀ K:(Nat→PV)→Hp→Prop,AL P Tb l (fun s h _=>K s h) l s h []=K s1 h1:=by intro g1 g2 g3 K; simp -implicitDefEqProofs (disch:=omega) only [go_sem,Nat.reduceEqDiff,Nat.reduceAdd,↓reduceIte,g1,g2,g3]; exact rfl):AW P Tb J n (.seq (.region id l.toArray false) b) Q s h:=qfn fun K hK=>(ee f1 f2 f3 K).mpr (hK _ _ k)
theorem Az4 {id:Nat} {l:List Oper} {b:Code} {s1:Nat→PV} {h1:Hp} {F1 F2 F3 F4:Prop} (f1:F1) (f2:F2) (f3:F3) (f4:F4) (k:AW P Tb J n b Q s1 h1) (ee:F1→F2→F3→F4→∀ K:(Nat→PV)→Hp→Prop,AL P Tb l (fun s h _=>K s h) l s h []=K s1 h1:=by intro g1 g2 g3 g4 K; simp -implicitDefEqProofs (disch:=omega) only [go_sem,Nat.reduceEqDiff,Nat.reduceAdd,↓reduceIte,g1,g2,g3,g4]; exact rfl):AW P Tb J n (.seq (.region id l.toArray false) b) Q s h:=qfn fun K hK=>(ee f1 f2 f3 f4 K).mpr (hK _ _ k)
theorem Az5 {id:Nat} {l:List Oper} {b:Code} {s1:Nat→PV} {h1:Hp} {F1 F2 F3 F4 F5:Prop} (f1:F1) (f2:F2) (f3:F3) (f4:F4) (f5:F5) (k:AW P Tb J n b Q s1 h1) (ee:F1→F2→F3→F4→F5→∀ K:(Nat→PV)→Hp→Prop,AL P Tb l (fun s h _=>K s h) l s h []=K s1 h1:=by intro g1 g2 g3 g4 g5 K; simp -implicitDefEqProofs (disch:=omega) only [go_sem,Nat.reduceEqDiff,Nat.reduceAdd,↓reduceIte,g1,g2,g3,g4,g5]; exact rfl):AW P Tb J n (.seq (.region id l.toArray false) b) Q s h:=qfn fun K hK=>(ee f1 f2 f3 f4 f5 K).mpr (hK _ _ k)
theorem Az6 {id:Nat} {l:List Oper} {b:Code} {s1:Nat→PV} {h1:Hp} {F1 F2 F3 F4 F5 F6:Prop} (f1:F1) (f2:F2) (f3:F3) (f4:F4) (f5:F5) (f6:F6) (k:AW P Tb J n b Q s1 h1) (ee:F1→F2→F3→F4→F5→F6→∀ K:(Nat→PV)→Hp→Prop,AL P Tb l (fun s h _=>K s h) l s h []=K s1 h1:=by intro g1 g2 g3 g4 g5 g6 K; simp -implicitDefEqProofs (disch:=omega) only [go_sem,Nat.reduceEqDiff,Nat.reduceAdd,↓reduceIte,g1,g2,g3,g4,g5,g6]; exact rfl):AW P Tb J n (.seq (.region id l.toArray false) b) Q s h:=qfn fun K hK=>(ee f1 f2 f3 f4 f5 f6 K).mpr (hK _ _ k)
theorem A_sb {id:Nat} {a b:Code} (hw:∀ K:(Nat→PV)→Hp→Prop,(∀ s h,AW P Tb J n b Q s h→K s h)→AW P Tb J n a (inA id (thA K Q)) s h):AW P Tb J n (.seq (.block id a) b) Q s h :=
 q2t fun K hK=>q74 (hw K hK)
theorem A_sd {id:Nat} {l:List Oper} {b:Code} (prs:List (Nat × Nat)) (hm:P.follows .mixedOrders=true) (hok:qbm l (qmU [] l) prs=true) (hw:∀ K:(Nat→PV)→Hp→Prop,(∀ s h,AW P Tb J n b Q s h→K s h)→AL P Tb l (fun s h acc=>qou prs acc∧K s h) l s h []):AW P Tb J n (.seq (.region id l.toArray true) b) Q s h :=
 q2t fun K hK=>qkp prs hm hok fun K1 hK1=>hw K1 fun s h hb=>hK1 s h (hK s h hb)
theorem stM_c {xs kv:List (Nat × PV)} {t a:Nat} {x:PV}:stM ((a,x) :: xs) kv t=if t=a then x else stM xs kv t:=rfl
theorem stM_n {kv:List (Nat × PV)} {t:Nat}:stM [] kv t=stV kv t:=rfl
theorem stV_c {kv:List (Nat × PV)} {t a:Nat} {x:PV}:stV ((a,x) :: kv) t=if t=a then x else stV kv t:=rfl
theorem stV_n {t:Nat}:stV [] t=.un:=rfl
theorem hpM_c {bs:List (Nat × Bk)} {kb:List (Nat × Option Bk)} {i a:Nat} {b:Bk}:hpM ((a,b) :: bs) kb i=if i=a then some b else hpM bs kb i:=rfl
theorem hpM_n {kb:List (Nat × Option Bk)} {i:Nat}:hpM [] kb i=hpV kb i:=rfl
theorem hpV_c {kb:List (Nat × Option Bk)} {i a:Nat} {b:Option Bk}:hpV ((a,b) :: kb) i=if i=a then b else hpV kb i:=rfl
theorem hpV_n {i:Nat}:hpV [] i=none:=rfl
theorem qty {τ:Nat→Option Nat} {h h':Hp}:qbz τ h h' []=True:=rfl
theorem qtz {τ:Nat→Option Nat} {h h':Hp} {i:Nat} {T:TypeId} {k:Kd} {l:List PV} {st:Bool} {r:List (Nat × Option Bk)}:qbz τ h h' ((i,some ⟨T,k,l,st⟩) :: r)=(LeB τ h h' i ⟨T,k,l,st⟩∧qbz τ h h' r):=by simp [qbz]
attribute [go_sem ↓] stM_c stM_n stV_c stV_n hpM_c hpM_n hpV_c hpV_n
attribute [go_sem] qty qtz
def qlg (o:Option (List PV × List Nat)) (r:PV):Prop:=match o with | some (al,_)=>LeV (fun _=>none) h0 h0 (mkR al) r | none=>False
theorem qqM {x r:PV} {l:List Nat}:qlg (some ([x],l)) r=LeV (fun _=>none) h0 h0 x r:=rfl
theorem qqN {r:PV} {l:List Nat}:qlg (some ([],l)) r=LeV (fun _=>none) h0 h0 (.tu []) r:=rfl
theorem qqL {x y r:PV} {m:List PV} {l:List Nat}:qlg (some (x :: y :: m,l)) r=LeV (fun _=>none) h0 h0 (.tu (x :: y :: m)) r:=rfl
theorem rsL_n:rsL P h s []=some []:=rfl
def rsC (h:Hp) (k:Option Kd) (p:PV):Option PV:=(ldP h k p).map (·.1)
theorem rsP_l {a t:Nat}:rsP P h s (.cell a t)=rsC h (q0d P t) (s a):=rfl
theorem rsC_p {k:Kd} {a i j:Nat}:rsC h (some k) (.pt a i j)=(h a).bind fun b=>if b.st=true∨ksz k=0 then none else (b.xs[i]?).bind (ldU b.k k j):=by
 have e:ldP h (some k) (.pt a i j)=(h a).bind fun b=>if b.st=true∨ksz k=0 then none else ((b.xs[i]?).bind (ldU b.k k j)).map fun x=>(x,[a]):=by
  cases hh:h a <;> simp [ldP,hh]
 unfold rsC;rw [e];cases h a with
 | none=>rfl
 | some b =>
  simp only [Option.bind_some]
  by_cases hc:b.st=true∨ksz k=0
  ·rw [if_pos hc,if_pos hc]; rfl
  ·rw [if_neg hc,if_neg hc];cases (b.xs[i]?).bind (ldU b.k k j) <;> rfl
def rsB (a:Option PV) (b:Option (List PV)):Option (List PV):=a.bind fun x=>b.map fun y=>x :: y
theorem rsL_c {r:ResultVar} {l:List ResultVar}:rsL P h s (r :: l)=rsB (rsP P h s r) (rsL P h s l):=rfl
theorem rsB_s {x:PV} {l:List PV}:rsB (some x) (some l)=some (x :: l):=rfl
theorem rt {fn:Func} {r:PV} {rs:List ResultVar} (hr:fn.results.toList=rs) (hlen:(decide (rs.length≤4))=true) (hk:qlg ((rsL P h s rs).bind (q3e h)) r) {x:Exit} (hx:x=.ret∨x=.normal):retA P fn r x s h:=by
 refine ⟨hx,by rw [hr]; simpa using hlen,?_⟩;rw [hr];cases h1:rsL P h s rs with
 | none=>rw [h1] at hk; exact hk.elim
 | some l =>
  rw [h1,Option.bind_some] at hk;cases h2:q3e h l with
  | none=>rw [h2] at hk; exact hk.elim
  | some p=>rw [h2] at hk; exact ⟨l,p.1,p.2,rfl,h2,hk⟩
theorem A_t {c:Operand} {a b:Code} (hc:pe s c=.vl (.bool true)) (ha:AW P Tb J n a Q s h):AW P Tb J n (.cond c a b) Q s h:=qft hc (fun _=>ha) (fun h=>by cases h)
theorem A_f {c:Operand} {a b:Code} (hc:pe s c=.vl (.bool false)) (hb:AW P Tb J n b Q s h):AW P Tb J n (.cond c a b) Q s h:=qft hc (fun h=>by cases h) (fun _=>hb)
end
attribute [go_sem] qqM qqN qqL rsL_n rsL_c rsB_s rsP_t rsP_l rsC_p qt4 qkl qtc qt6 qt9 qt8 qtb qta qkm qt5 qtd qte qtf qtg qth qti qtw qtx quA quB qp2 qp1 quD quE quF quC q70 qlK qlL qru qrs qp4 qp5 ne_eq not_false_eq_true or_true true_or Option.some.injEq Value.int.injEq Value.bool.injEq Option.map_none exists_eq' false_or and_self reduceCtorEq
end Go.E
namespace Go.Proofs.YtbcmhlhgljoolaaGreatDoor
open Go Go.E Go.Sp
abbrev iv (z:Int):PV:=.vl (.int .i64 z)
abbrev uv (z:Int):PV:=.vl (.int .u64 z)
abbrev bv (b:Bool):PV:=.vl (.bool b)
abbrev q5y:PV:=.vl (.slice none 0 0)
abbrev pI (l:List Int):PV:=.sl none (l.map fun z=>iv z)
abbrev pF (l:List Nat):PV:=.sl none (l.map fun z:Nat=>uv z)
abbrev pB (l:List Bool):PV:=.sl none (l.map bv)
abbrev pV (V:Int):PV:=.fm (fV V)
abbrev ACt (f:FuncId) (al:List PV) (r:PV):Prop:=AC Tryz.prog q1r f al r
section
variable {τ:Nat→Option Nat} {h h':Hp}
theorem qiu {l m:List Value}:LeL τ h h' (l.map .vl) (m.map .vl)=(l=m):=by
 refine propext ⟨fun ⟨h1,h2⟩=>?_,fun h=>by subst h; exact q0q rfl (by simp [ClL,Cld,q4p])⟩
 apply List.ext_getElem?
 intro i
 rcases Nat.lt_or_ge i l.length with hi | hi
 ·have hm:i < m.length:=by simp at h1; omega
  have:=h2 i (.vl l[i]) (.vl m[i]) (by simp [hi]) (by simp [hm]);rw [qkl] at this;rw [List.getElem?_eq_getElem hi,List.getElem?_eq_getElem hm,this]
 ·rw [List.getElem?_eq_none hi,List.getElem?_eq_none (by simp at h1; omega)]
theorem q9c {α:Type} {f:α→Value} (hf:∀ a b,f a=f b→a=b) {l m:List α}:LeL τ h h' (l.map fun z=>.vl (f z)) (m.map fun z=>.vl (f z))=(l=m):=by
 have h1:=qiu (τ:=τ) (h:=h) (h':=h') (l:=l.map f) (m:=m.map f);rw [List.map_map,List.map_map] at h1;refine Eq.trans h1 (propext ⟨fun h=>?_,fun h=>by rw [h]⟩);exact List.map_inj_right hf |>.1 h
theorem inj_i:∀ a b:Int,Value.int .i64 a=Value.int .i64 b→a=b:=fun a b h=>by injection h
theorem inj_u:∀ a b:Nat,Value.int .u64 a=Value.int .u64 b→a=b:=fun a b h=>by injection h with _ h; omega
theorem inj_b:∀ a b:Bool,Value.bool a=Value.bool b→a=b:=fun a b h=>by injection h
theorem qby {l m:List Int}:LeL τ h h' (l.map fun z=>iv z) (m.map fun z=>iv z)=(l=m):=q9c inj_i
theorem qfl {l m:List Nat}:LeL τ h h' (l.map fun z:Nat=>uv z) (m.map fun z:Nat=>uv z)=(l=m):=q9c (f:=fun z:Nat=>Value.int .u64 z) inj_u
theorem qiv {l m:List Bool}:LeL τ h h' (l.map fun z=>bv z) (m.map fun z=>bv z)=(l=m):=q9c inj_b
theorem qtq {m:List Int}:LeL τ h h' [] (m.map fun z=>iv z)=([]=m):=qby (l:=[])
theorem qtl {m:List Nat}:LeL τ h h' [] (m.map fun z:Nat=>uv z)=([]=m):=qfl (l:=[])
theorem qtv {m:List Bool}:LeL τ h h' [] (m.map fun z=>bv z)=([]=m):=qiv (l:=[])
theorem qts {x:Int} {m:List Int}:LeL τ h h' [iv x] (m.map fun z=>iv z)=([x]=m):=qby (l:=[x])
theorem qtr {x:Int} {l m:List Int}:LeL τ h h' ((l.map fun z=>iv z) ++ [iv x]) (m.map fun z=>iv z)=(l ++ [x]=m):=by
 have:=qby (τ:=τ) (h:=h) (h':=h') (l:=l ++ [x]) (m:=m)
 rwa [List.map_append] at this
theorem qtm {x:Nat} {l m:List Nat}:LeL τ h h' ((l.map fun z:Nat=>uv z) ++ [uv x]) (m.map fun z:Nat=>uv z)=(l ++ [x]=m):=by
 have:=qfl (τ:=τ) (h:=h) (h':=h') (l:=l ++ [x]) (m:=m)
 rwa [List.map_append] at this
theorem qto {x:Int} {k:Nat} {l m:List Int}:LeL τ h h' ((l.map fun z=>iv z).set k (iv x)) (m.map fun z=>iv z)=(l.set k x=m):=by
 have:=qby (τ:=τ) (h:=h) (h':=h') (l:=l.set k x) (m:=m)
 rwa [List.map_set] at this
theorem qtj {x:Nat} {k:Nat} {l m:List Nat}:LeL τ h h' ((l.map fun z:Nat=>uv z).set k (uv x)) (m.map fun z:Nat=>uv z)=(l.set k x=m):=by
 have:=qfl (τ:=τ) (h:=h) (h':=h') (l:=l.set k x) (m:=m)
 rwa [List.map_set] at this
theorem qtt {x:Bool} {k:Nat} {l m:List Bool}:LeL τ h h' ((l.map fun z=>bv z).set k (bv x)) (m.map fun z=>bv z)=(l.set k x=m):=by
 have:=qiv (τ:=τ) (h:=h) (h':=h') (l:=l.set k x) (m:=m)
 rwa [List.map_set] at this
theorem qtk {n:Nat} {m:List Nat}:LeL τ h h' (List.replicate n (uv 0)) (m.map fun z:Nat=>uv z)=(List.replicate n 0=m):=by
 have:=qfl (τ:=τ) (h:=h) (h':=h') (l:=List.replicate n 0) (m:=m)
 rwa [List.map_replicate] at this
theorem qtp {n:Nat} {x:Int} {m:List Int}:LeL τ h h' (List.replicate n (iv x)) (m.map fun z=>iv z)=(List.replicate n x=m):=by
 have:=qby (τ:=τ) (h:=h) (h':=h') (l:=List.replicate n x) (m:=m)
 rwa [List.map_replicate] at this
theorem qtu {n:Nat} {x:Bool} {m:List Bool}:LeL τ h h' (List.replicate n (bv x)) (m.map fun z=>bv z)=(List.replicate n x=m):=by
 have:=qiv (τ:=τ) (h:=h) (h':=h') (l:=List.replicate n x) (m:=m)
 rwa [List.map_replicate] at this
attribute [go_sem] qby qfl qiv qtq qtl qtv qts qtr qtm qto qtj qtt qtk qtp qtu exists_eq_left' forall_eq'
end
theorem q9i (w w':World) (hx:Ext w w') (hT:q1r w):q1r w':=hT.ext hx
theorem act {f:FuncId} {fn:Func} {c:Code} {al:List PV} {r:PV} (hc:q0C Tryz.prog f=true) (hf:Tryz.prog.funcs[f]?=some fn) (hb:fn.body=some c) {n:Nat} (hn:fn.ntmps=n) (hd:(decide (al.length≤n) && q8b n c)=true)
  (hw:AW Tryz.prog q1r (fun _=>False) n c (retA Tryz.prog fn r) (enP al) h0):ACt f al r:=AC_of hc hf hb hn hd q9i hw
end Go.Proofs.YtbcmhlhgljoolaaGreatDoor
namespace Go.E
open Go Go.RowKit
section
variable {P:Program} {Tb:World→Prop} {J:Nat→Prop} {n:Nat} {Q:SQ} {s:Nat→PV} {h:Hp}
theorem qjO:∀ {kv:List (Nat × PV)},(∀ p ∈ kv,p.2=s p.1)→∀ t,stV kv t=s t∨stV kv t=.un
 | [],_,_=>.inr rfl
 | p :: l,hk,t=>by
  unfold stV
  split
  ·rename_i ht; subst ht; exact .inl (hk p List.mem_cons_self)
  ·exact qjO (fun q hq=>hk q (List.mem_cons_of_mem _ hq)) t
theorem q43 {c:Code} (ks:List Nat) {kv:List (Nat × PV)} (hk:(ks.map fun t=>(t,s t))=kv) (hw:AW P Tb J n c Q (stV kv) h):AW P Tb J n c Q s h:=q5v (s':=stV kv) (h':=h) (fun D0 w0 ρ e w _ S=>⟨ρ,S.inj,S.own,S.vir,fun t=>by
  rcases qjO (s:=s) (kv:=kv) (fun p hp=>by
   rw [← hk] at hp;obtain ⟨t,_,rfl⟩:=List.mem_map.1 hp
   rfl) t with h | h
  ·rw [h]; exact S.rd t
  ·rw [h]; unfold Rd; trivial,S.ext,S.fr,S.imp,S.pin⟩) hw
theorem qm7 {kk:IntKind} {l:List PV}:qaY (some 1) (.sl none l) (.vl (.int kk 0))=(l[0]?).map (.qt none):=qeD (n:=0)
theorem qm9 {kk:IntKind} {a off c:Nat} (hn:0 < c):qaY (some 1) (.ow a none off c) (.vl (.int kk 0))=some (.pt a off 0):=qeE (n:=0) hn
def fldQ (r:Nat × Kd) (l:List PV):Option PV:=match r.2 with
 | none=>(l[r.1]?).map (.qt none)
 | some m=>if r.1+m≤l.length∧0 < m then some (.qt (some m) (.ag ((l.drop r.1).take m))) else none
theorem qrO {t:TypeId} {f n:Nat} {l:List PV}:qor P t f (.qt (some n) (.ag l))=(q3h P t f).bind fun r=>fldQ r l:=by unfold qor fldQ; rfl
theorem qrR {o:Nat} {l:List PV}:fldQ (o,none) l=(l[o]?).map (.qt none):=rfl
attribute [go_sem] qm7 qm9 qrO qrR Option.bind_some
end
def nos:Nat→PV:=fun _=>.un
abbrev win (i:Nat):Prop:=5000≤i∧i < 1000000
def q1v (hw h:Hp):Hp:=fun i=>if win i then hw i else h i
mutual
def IdP (p:Nat→Prop):PV→Prop
 | .ow id _ _ _=>p id
 | .pt id _ _=>p id
 | .ag l=>IdL p l
 | .tu l=>IdL p l
 | _=>True
def IdL (p:Nat→Prop):List PV→Prop
 | []=>True
 | x :: l=>IdP p x∧IdL p l
end
theorem IdL.mem {p:Nat→Prop}:∀ {l:List PV},IdL p l→∀ x ∈ l,IdP p x
 | y :: l,h,x,hx=>by
  unfold IdL at h
  rcases List.mem_cons.1 hx with rfl | hx
  ·exact h.1
  ·exact h.2.mem x hx
theorem IdL.of {p:Nat→Prop}:∀ {l:List PV},(∀ x ∈ l,IdP p x)→IdL p l
 | [],_=>by unfold IdL; trivial
 | y :: l,h=>by unfold IdL; exact ⟨h y List.mem_cons_self,IdL.of fun x hx=>h x (List.mem_cons_of_mem _ hx)⟩
section
variable {w:World} {D D':Nat→Prop} {ρ:Nat→Option Nat} {h h':Hp} {p:Nat→Prop}
mutual
theorem Rd.only (hd:∀ k,D k→D' k) (hp:∀ i,p i→h' i=h i):∀ (x:PV) (y:Value),IdP p x→Rd w D x ρ h y→Rd w D' x ρ h' y
 | .un,_,_,_=>by unfold Rd; trivial
 | .vl x,y,_,hr=>by unfold Rd at hr ⊢; exact hr
 | .fm G,y,_,hr=>by unfold Rd at hr ⊢; exact hr.sub fun k _ hk=>hd k hk
 | .sl k l,y,_,hr=>((q5o (x:=.sl k l) trivial hr).sub fun k _ hk=>hd k hk).cl
 | .qt k x,y,_,hr=>((q5o (x:=.qt k x) trivial hr).sub fun k _ hk=>hd k hk).cl
 | .ow id k off n,y,hi,hr=>by
  unfold IdP at hi;unfold Rd at hr ⊢;rw [hp id hi];exact hr
 | .pt id i j,y,hi,hr=>by
  unfold IdP at hi;unfold Rd at hr ⊢;rw [hp id hi];exact hr
 | .ag l,y,hi,hr=>by
  unfold IdP at hi;unfold Rd at hr ⊢;obtain ⟨vs,h1,h2⟩:=hr;exact ⟨vs,h1,RdL.only hd hp l vs hi h2⟩
 | .tu l,y,hi,hr=>by
  unfold IdP at hi;unfold Rd at hr ⊢;obtain ⟨vs,h1,h2⟩:=hr;exact ⟨vs,h1,RdL.only hd hp l vs hi h2⟩
theorem RdL.only (hd:∀ k,D k→D' k) (hp:∀ i,p i→h' i=h i):∀ (l:List PV) (vs:List Value),IdL p l→RdL w D l ρ h vs→RdL w D' l ρ h' vs
 | [],vs,_,hr=>by unfold RdL at hr ⊢; exact hr
 | x :: l,vs,hi,hr=>by
  unfold IdL at hi;unfold RdL at hr ⊢;obtain ⟨y,ys,h1,h2,h3⟩:=hr;exact ⟨y,ys,h1,Rd.only hd hp x y hi.1 h2,RdL.only hd hp l ys hi.2 h3⟩
end
end
structure ACm (P:Program) (Tb:World→Prop) (f:FuncId) (al:List PV) (hin:Hp) (x:PV) (hout:Hp):Prop where
 ca:q0C P f=true
 hi:∀ i b,hin i=some b→win i∧b.st=false∧IdL win b.xs∧∃ b',hout i=some b'∧b'.k=b.k∧b.xs.length≤b'.xs.length
 ho:∀ i b,hout i=some b→win i
 ids:IdL win al
 run:∀ (D0:Nat→Prop) (B:Base) (ρ:Nat→Option Nat) (w:World) (vs:List Value),(∀ w',Kp B.F B.w w'→Tb w')→(∀ i r,B.J i r→hin i≠none)→Fr D0 B.w→vs.length=al.length→Sat D0 B (enP al) hin ρ (q4o vs) w →
  Calls P f vs.toArray w fun r w'=>∃ v ρ',r=.returned v∧Sat D0 B nos hout ρ' (fun _=>v) w'∧Rd w' (dm D0 ρ' hout) x ρ' hout v
def retM (P:Program) (fn:Func) (hin:Hp) (x:PV) (hout:Hp):SQ:=fun e s h=>(e=.ret∨e=.normal)∧fn.results.toList.length≤4∧∃ l,rsL P h s fn.results.toList=some l∧Le (fun i=>hin i≠none) (fun _=>mkR l) h (fun _=>x) hout
section
variable {P:Program} {Tb:World→Prop} {n:Nat} {s:Nat→PV} {h hin hout:Hp} {D0:Nat→Prop} {w0:Base} {w:World} {ρ:Nat→Option Nat} {e:Env}
theorem qqp {D:Nat→Prop} {l:List PV} {us:List Value} (hr:RdL w D l ρ h us):Rd w D (mkR l) ρ h (mkV us):=by
 cases l with
 | nil=>unfold RdL at hr; subst hr; unfold mkR mkV Rd; exact ⟨[],rfl,by unfold RdL; rfl⟩
 | cons c cl =>
  cases cl with
  | nil =>
   unfold RdL at hr;obtain ⟨y,ys,rfl,e1,e2⟩:=hr;unfold RdL at e2;subst e2;exact e1
  | cons d cl =>
   have u5:=hr;unfold RdL at u5;obtain ⟨y,ys,rfl,e1,e2⟩:=u5;unfold RdL at e2;obtain ⟨z,zs,rfl,e3,e4⟩:=e2
   show Rd w D (.tu (c :: d :: cl)) _ _ (.tuple ⟨y :: z :: zs⟩)
   unfold Rd;exact ⟨_,rfl,hr⟩
theorem quP {f:FuncId} {fn:Func} {c:Code} {al:List PV} {x:PV} (hc:q0C P f=true) (hf:P.funcs[f]?=some fn) (hb:fn.body=some c) (hn:fn.ntmps=n) (hd:(decide (al.length≤n) && q8b n c)=true)
  (hi:∀ i b,hin i=some b→win i∧b.st=false∧IdL win b.xs∧∃ b',hout i=some b'∧b'.k=b.k∧b.xs.length≤b'.xs.length) (ho:∀ i b,hout i=some b→win i) (hal:IdL win al)
  (hw:AW P Tb (fun i=>hin i≠none) n c (retM P fn hin x hout) (enP al) hin):ACm P Tb f al hin x hout:=by
 refine ⟨hc,hi,ho,hal,fun D0 B ρ w vs hT hJ hF hlen S=>?_⟩;refine q0H hf hb hn (by rw [List.size_toArray,hlen]; exact hd) ?_;refine q4c (fun y e' w' hx=>?_) (hw D0 B ρ _ w ⟨hT,hJ⟩ hF S);obtain ⟨s',h',ρ',S',hy,h4,l,h1,hle⟩:=hx;obtain ⟨us,u1,u2⟩:=qdG S' h1;have S2:Sat D0 B (fun _=>mkR l) h' ρ' (fun _=>mkV us) w':=⟨S'.inj,S'.own,S'.vir,fun _=>qqp u2,S'.ext,S'.fr,S'.imp,S'.pin⟩;obtain ⟨ρ2,S3⟩:=hle _ _ _ _ _ hJ S2;have fin:∃ v ρ',Ending.returned (mkV us)=.returned v∧Sat D0 B nos hout ρ' (fun _=>v) w'∧Rd w' (dm D0 ρ' hout) x ρ' hout v :=
  ⟨_,ρ2,rfl,⟨S3.inj,S3.own,S3.vir,fun _=>by unfold nos Rd; trivial,S3.ext,S3.fr,S3.imp,S3.pin⟩,S3.rd 0⟩
 have key:q89 P fn (fun r w'=>∃ v ρ',r=.returned v∧Sat D0 B nos hout ρ' (fun _=>v) w'∧Rd w' (dm D0 ρ' hout) x ρ' hout v) .ret e' w':=by
  cases hrs:fn.results with
  | mk rs =>
  rw [hrs] at u1 h4;simp only at u1 h4;clear u2 h1 S2 hle S3
  rcases rs with _ | ⟨a,_ | ⟨b,_ | ⟨c,_ | ⟨d,_ | ⟨f,rs⟩⟩⟩⟩⟩ <;> rcases us with _ | ⟨x,_ | ⟨y,_ | ⟨z,_ | ⟨t,_ | ⟨t',us⟩⟩⟩⟩⟩ <;> simp at u1 h4
  ·exact ret0 hrs fin
  ·exact q2u hrs u1 fin
  ·exact qli hrs u1.1 u1.2 fin
  ·exact qlh hrs u1.1 u1.2.1 u1.2.2 fin
  ·exact qqO hrs u1.1 u1.2.1 u1.2.2.1 u1.2.2.2 fin
 rcases hy with rfl | rfl
 ·exact key
 ·exact key
theorem q1J {hw:Hp} {i:Nat} (hi:win i):q1v hw h i=hw i:=if_pos hi
theorem q1d {hw:Hp} {i:Nat} (hi:¬ win i):q1v hw h i=h i:=if_neg hi
theorem Blk.uniq {g:Nat} {T T':TypeId} {c c':Array Value} (h1:Blk w g T c) (h2:Blk w g T' c'):c=c'∧T=T':=by
 have h5:=h1.symm.trans h2
 injection h5 with h5
 injection h5 with h5 h6
 exact ⟨h5,h6⟩
theorem Sat.callm {J:Nat→Prop} (S:Sat D0 w0 s h ρ e w) (hT:∀ w,Kp w0.F w0.w w→Tb w) (hF:Fr D0 w0.w) (hJ:∀ i r,w0.J i r→J i) {f:FuncId} {args:List Operand} {al:List PV} {x:PV} (ha:args.map (pe s)=al) (hC:ACm P Tb f al hin x hout) (hh:∀ i,win i→h i=hin i) (hn:∀ i,J i→hout i≠none→hin i≠none) {K:Value→World→Prop}
  (hK:∀ v w' ρ',Sat D0 w0 s (q1v hout h) ρ' e w'→Rd w' (dm D0 ρ' (q1v hout h)) x ρ' (q1v hout h) v→K v w'):q0C P f=true∧Calls P f (args.map (ev e)).toArray w fun r w'=>match r with | .returned v=>K v w' | _=>False:=by
 classical
 refine ⟨hC.ca,?_⟩;subst ha
 let hd:Nat→Prop:=fun g=>∃ i b,win i∧h i=some b∧ρ i=some g
 let B:Base:=⟨w,fun k=>k < w.heap.size∧¬ hd k,fun g T m=>∃ cs,Blk w g T cs∧cs.size=m∧∀ u ∈ cs.toList,q4V u=true,fun i r=>(∃ b,hin i=some b)∧ρ i=r,fun k hk=>hk.1,fun i r ⟨⟨b,hb⟩,_⟩=>(hC.hi i b hb).1⟩
 let D1:Nat→Prop:=fun k=>D0 k∧(hd k∨∀ i b,h i=some b→¬ win i→ρ i≠some k)
 have toh:∀ {i b},hin i=some b→h i=some b:=fun {i b} hb=>(hh i (hC.hi i b hb).1).trans hb;have hno:∀ i b g,h i=some b→¬ win i→b.st=false→ρ i=some g→¬ hd g:=fun i b g hi hw hs hr ⟨j,c,wj,hj,rj⟩=>by
  have hcs:=(hC.hi j c ((hh j wj).symm.trans hj)).2.1
  rcases S.inj i j b c g hi hj hcs hr rj with e | e
  ·subst e; exact hw wj
  ·rw [hs] at e; cases e
 have e1:∀ k,dm D1 ρ hin k ↔ dm D0 ρ h k:=fun k=>by
  constructor
  ·rintro ⟨⟨q1,q2⟩,q3⟩;refine ⟨q1,fun i b hi hr=>?_⟩
   by_cases hw:win i
   ·exact q3 i b ((hh i hw).symm.trans hi) hr
   ·rcases q2 with ⟨j,c,wj,hj,rj⟩ | q2
    ·exact q3 j c ((hh j wj).symm.trans hj) rj
    ·exact q2 i b hi hw hr
  ·rintro ⟨q1,q2⟩;exact ⟨⟨q1,.inr fun i b hi _=>q2 i b hi⟩,fun i b hi=>q2 i b (toh hi)⟩
 have S0:Sat D1 B (enP (args.map (pe s))) hin ρ (q4o (args.map (ev e))) w:=by
  refine ⟨fun i j b c g hi hj hs ri rj=>S.inj i j b c g (toh hi) (toh hj) hs ri rj,fun i b g hi ri=>?_,fun i b hi ri=>S.vir i b (toh hi) ri,fun t=>?_,Kp.refl _ _,fun k hk=>?_,fun g T m hi=>hi,fun i r hi=>hi.2⟩
  ·obtain ⟨a1,cs,c1,c2,c3⟩:=S.own i b g (toh hi) ri;have hg:hd g:=⟨i,b,(hC.hi i b hi).1,toh hi,ri⟩;refine ⟨⟨fun hf=>hf.2 hg,a1.2,.inl hg⟩,cs,c1,c2,fun hs=>?_⟩;obtain ⟨vs,v1,v2,v3⟩:=c3 hs;exact ⟨vs,v1,RdL.only (fun k hk=>(e1 k).2 hk) (fun i hi=>(hh i hi).symm) _ _ (hC.hi i b hi).2.2.1 v2,v3⟩
  ·unfold enP q4o;rw [List.getD_eq_getElem?_getD,List.getD_eq_getElem?_getD,List.getElem?_map,List.getElem?_map];cases ht:args[t]? with
   | none=>simp only [Option.map_none,Option.getD_none]; unfold Rd; trivial
   | some x =>
    simp only [Option.map_some,Option.getD_some];exact Rd.only (fun k hk=>(e1 k).2 hk) (fun i hi=>(hh i hi).symm) _ _ (hC.ids.mem _ (List.mem_map_of_mem (List.mem_of_getElem? ht))) (S.pex x)
  ·exact ⟨hF k (Nat.le_trans S.ext.size hk),.inr fun i b hi _ hr=>by have:=(S.own i b k hi hr).2.lt; have:w.heap.size≤k:=hk; omega⟩
 have hFB:∀ k,w0.F k→B.F k:=fun k hk=>⟨Nat.lt_of_lt_of_le (w0.lt k hk) S.ext.size,fun ⟨i,b,_,hi,hr⟩=>(S.own i b k hi hr).1.1 hk⟩;have hFr:Fr D1 B.w:=S0.fr;refine (hC.run D1 B ρ w _ (fun w' hk=>hT w' (S.ext.trans (hk.mono fun k _ hq=>hFB k hq))) (fun i r ⟨⟨b,hb⟩,_⟩=>by rw [hb]; exact Option.some_ne_none b) hFr (by simp) S0).mono fun r w' hx=>?_;obtain ⟨v,ρ',rfl,S',hx⟩:=hx
 let ρ2:Nat→Option Nat:=fun i=>if win i then (if hout i=none then ρ i else ρ' i) else ρ i
 have p1:∀ {i b},hin i=some b→ρ' i=ρ i:=fun {i b} hb=>S'.pin i _ ⟨⟨b,hb⟩,rfl⟩;have p2:∀ {i b},hout i=some b→ρ2 i=ρ' i:=fun {i b} hb=>by simp only [ρ2,if_pos (hC.ho i b hb),hb]; rfl
 have p3:∀ {i},¬ win i→ρ2 i=ρ i:=fun {i} hw=>by simp only [ρ2,if_neg hw]
 have hk:Kp B.F w w':=S'.ext;have bold:∀ i b g,h i=some b→ρ i=some g→∃ cs,Blk w' g b.T cs∧(∀ u ∈ cs.toList,q4V u=true)∧∀ m,BSz w g m→cs.size=m:=fun i b g hi hr=>by
  obtain ⟨_,cs,c1,c2,_⟩:=S.own i b g hi hr;obtain ⟨cs',d1,d2,d3⟩:=S'.imp g b.T cs.size ⟨cs,c1,rfl,c2⟩;refine ⟨cs',d1,d3,fun m ⟨c0,T0,f1,f2⟩=>?_⟩;have:=(Blk.uniq c1 f1).1;subst this;omega
 have hdn:∀ {k},dm D0 ρ h k→¬ hd k:=fun {k} hq ⟨i,b,_,hi,hr⟩=>hq.2 i b hi hr;have cA:Cpt w w' ρ h ρ2 (q1v hout h):=fun i b hi=>by
  refine ⟨?_,?_,fun g m hr hb=>?_⟩
  ·by_cases hw:win i
   ·have hb:=(hh i hw).symm.trans hi;obtain ⟨b',hb',_⟩:=(hC.hi i b hb).2.2.2;rw [p2 hb',p1 hb]
   ·exact p3 hw
  ·by_cases hw:win i
   ·obtain ⟨b',hb',h1,h2⟩:=(hC.hi i b ((hh i hw).symm.trans hi)).2.2.2;exact ⟨b',by rw [q1J hw]; exact hb',h1,h2⟩
   ·exact ⟨b,by rw [q1d hw]; exact hi,rfl,Nat.le_refl _⟩
  ·obtain ⟨cs,c1,_,c3⟩:=bold i b g hi hr;exact ⟨cs,_,c1,c3 m hb⟩
 have cB:Cpt w' w' ρ' hout ρ2 (q1v hout h):=fun i b hi=>⟨p2 hi,⟨b,by rw [q1J (hC.ho i b hi)]; exact hi,rfl,Nat.le_refl _⟩,fun _ _ _ hb=>hb⟩;have nF:∀ {i b g},hout i=some b→ρ' i=some g→g < w.heap.size→hd g:=fun {i b g} hi hr hlt=>by
  have:=(S'.own i b g hi hr).1.1;exact Classical.byContradiction fun hn=>this ⟨hlt,hn⟩
 have e2:∀ k,dm D1 ρ' hout k→dm D0 ρ2 (q1v hout h) k:=fun k ⟨⟨q1,q2⟩,q3⟩=>⟨q1,fun i b hi hr=>by
  by_cases hw:win i
  ·rw [q1J hw] at hi;rw [p2 hi] at hr;exact q3 i b hi hr
  ·rw [q1d hw] at hi;rw [p3 hw] at hr
   rcases q2 with ⟨j,c,wj,hj,rj⟩ | q2
   ·have hb:=(hh j wj).symm.trans hj;obtain ⟨b',hb',_⟩:=(hC.hi j c hb).2.2.2;exact q3 j b' hb' ((p1 hb).trans rj)
   ·exact q2 i b hi hw hr⟩
 have hd1:∀ k,k < w.heap.size→dm D0 ρ h k→dm D0 ρ2 (q1v hout h) k:=fun k hlt hq=>⟨hq.1,fun i b hi hr=>by
  by_cases hw:win i
  ·rw [q1J hw] at hi;rw [p2 hi] at hr;exact hdn hq (nF hi hr hlt)
  ·rw [q1d hw] at hi;rw [p3 hw] at hr;exact hq.2 i b hi hr⟩
 have kpd:Kp (dm D0 ρ h) w w':=hk.mono fun k hlt hq=>⟨hlt,hdn hq⟩;refine hK v w' ρ2 ⟨fun i j b c g hi hj hs ri rj=>?_,fun i b g hi ri=>?_,fun i b hi ri=>?_,fun t=>Rd.mv kpd hd1 _ _ _ _ _ _ cA (S.rd t),S.ext.trans (hk.mono fun k _ hq=>hFB k hq),S.fr,fun g T m hi=>?_,fun i r hj=>?_⟩ (Rd.mv (Kp.refl _ _) (fun k _ hq=>e2 k hq) _ _ _ _ _ _ cB hx)
 ·by_cases wi:win i <;> by_cases wj:win j
  ·rw [q1J wi] at hi; rw [q1J wj] at hj;rw [p2 hi] at ri; rw [p2 hj] at rj;exact S'.inj i j b c g hi hj hs ri rj
  ·rw [q1J wi] at hi; rw [q1d wj] at hj;rw [p2 hi] at ri; rw [p3 wj] at rj;exact (hno j c g hj wj hs rj (nF hi ri (S.own j c g hj rj).2.lt)).elim
  ·rw [q1d wi] at hi; rw [q1J wj] at hj;rw [p3 wi] at ri; rw [p2 hj] at rj;cases hb:b.st
   ·exact (hno i b g hi wi hb ri (nF hj rj (S.own i b g hi ri).2.lt)).elim
   ·exact .inr rfl
  ·rw [q1d wi] at hi; rw [q1d wj] at hj;rw [p3 wi] at ri; rw [p3 wj] at rj;exact S.inj i j b c g hi hj hs ri rj
 ·by_cases wi:win i
  ·rw [q1J wi] at hi;rw [p2 hi] at ri;obtain ⟨⟨a1,a2⟩,a3⟩:=S'.own i b g hi ri;exact ⟨⟨fun hf=>a1 (hFB g hf),a2.1⟩,a3.mv rfl (Kp.refl _ _) (fun k _ hq=>e2 k hq) cB⟩
  ·rw [q1d wi] at hi;rw [p3 wi] at ri;obtain ⟨a1,a2⟩:=S.own i b g hi ri;refine ⟨a1,?_⟩;cases hb:b.st
   ·exact a2.mv (hk.block g a2.lt ⟨a2.lt,hno i b g hi wi hb ri⟩) kpd hd1 cA
   ·obtain ⟨cs,c1,c2,_⟩:=bold i b g hi ri;exact ⟨cs,c1,c2,fun hf=>by rw [hb] at hf; cases hf⟩
 ·by_cases wi:win i
  ·rw [q1J wi] at hi;rw [p2 hi] at ri;exact S'.vir i b hi ri
  ·rw [q1d wi] at hi;rw [p3 wi] at ri;exact S.vir i b hi ri
 ·obtain ⟨cs,c1,c2,c3⟩:=S.imp g T m hi;exact S'.imp g T m ⟨cs,c1,c2,c3⟩
 ·have h1:=S.pin i r hj
  show (if win i then (if hout i=none then ρ i else ρ' i) else ρ i)=r
  split
  ·split
   ·exact h1
   ·rename_i ho;have:=hn i (hJ i r hj) ho;obtain ⟨b,hb⟩:=Option.ne_none_iff_exists'.1 this;rw [p1 hb]; exact h1
  ·exact h1
theorem q29 {α:Type} {o:Option α} {A B:α→Prop} (hk:∀ a,A a→B a) (h:q2k o A):q2k o B:=by
 cases o with
 | none=>exact h.elim
 | some a=>exact hk a h
theorem qlC {o:Oper} {A B:Value→World→Prop} (hk:∀ v w,A v w→B v w) (h:wo P o e w A):wo P o e w B:=by
 obtain ⟨dst,op,ty,pos,af,gd⟩:=o;have hWO:WO P ⟨dst,op,ty,pos,af,gd⟩ e w A→WO P ⟨dst,op,ty,pos,af,gd⟩ e w B:=fun h=>qfi hk h;unfold wo at h ⊢;cases op <;> simp only at h ⊢ <;> (try (first | exact hk _ _ h | exact q29 (fun _ hq=>hk _ _ hq) h | exact hWO h))
 case pick c a b=>split at h <;> first | exact hk _ _ h | exact h
 case store t a x =>
  split at h
  ·exact ⟨h.1,h.2.1,hk _ _ h.2.2⟩
  ·exact h
 case fieldAddr t x f =>
  split at h
  ·exact q29 (fun _ hq=>hk _ _ hq) h
  ·exact h
 case slice t x lo hi mx=>cases mx <;> first | exact q29 (fun _ hq=>hk _ _ hq) h | exact hWO h
 case makeSlice t l c =>
  split at h
  ·exact q29 (fun _ hq=>⟨hq.1,hk _ _ hq.2⟩) h
  ·exact h
 case nilCheck x =>
  split at h
  ·exact hk _ _ h
  ·exact h
 case call c =>
  obtain ⟨callee,args,tys⟩:=c;cases callee
  case builtin b =>
   cases b <;> simp only at h ⊢ <;> (try (first | exact q29 (fun _ hq=>hk _ _ hq) h | exact hWO h))
   split at h
   ·exact q29 (fun _ hq=>hk _ _ hq) h
   ·exact h
  case value f =>
   cases f <;> simp only at h ⊢ <;> (try exact hWO h);exact ⟨h.1,h.2.mono fun x w' hq=>by cases x <;> first | exact hk _ _ hq | exact hq⟩
  case invoke r m=>exact hWO h
theorem qlG {ops:Array Oper} {o:Oper} {A B:Value→World→Prop} (hk:∀ v w,A v w→B v w) (h:wg P ops o e w A):wg P ops o e w B:=by
 unfold wg at h ⊢
 split
 ·rename_i hw; rw [if_pos hw] at h; exact qlC hk h
 ·rename_i hw; rw [if_neg hw] at h; exact hk _ _ h
def Sj (P:Program) (Tb:World→Prop) (J:Nat→Prop) (ops:List Oper) (o:Oper) (s:Nat→PV) (h:Hp) (K:(Nat→PV)→Hp→Prop):Prop :=
 (∃ x h' fp,q72 P Tb ops o s h x h' fp∧K (q3V s o.dst x) h') ∨
  (o.guard=none∧∃ f args ts hin x hout,o.op=.call ⟨.value (.func f),args,ts⟩∧ACm P Tb f (args.toList.map (pe s)) hin x hout∧(∀ i,win i→h i=hin i)∧(∀ i,J i→hout i≠none→hin i≠none)∧K (q3V s o.dst x) (q1v hout h))
def ALj (P:Program) (Tb:World→Prop) (J:Nat→Prop) (ops:List Oper) (K:(Nat→PV)→Hp→Prop):List Oper→(Nat→PV)→Hp→Prop
 | [],s,h=>K s h
 | o :: l,s,h=>Sj P Tb J ops o s h (ALj P Tb J ops K l)
def ASj (P:Program) (Tb:World→Prop) (J:Nat→Prop) (ops:List Oper) (K:(Nat→PV)→Hp→Prop):Sch→(Nat→PV)→Hp→Prop
 | .fin,s,h=>K s h
 | .one i t,s,h=>Sj P Tb J ops (qb7 ops i) s h (ASj P Tb J ops K t)
 | .alt t u,s,h=>ASj P Tb J ops K t s h∧ASj P Tb J ops K u s h
theorem qt3 {J:Nat→Prop} {ops:List Oper} (hT:∀ w,Kp w0.F w0.w w→Tb w) (hJ:∀ i r,w0.J i r→J i) (hF:Fr D0 w0.w) {o:Oper} {K:(Nat→PV)→Hp→Prop} {K':Env→World→Prop} (S:Sat D0 w0 s h ρ e w) (hs:Sj P Tb J ops o s h K) (hk:∀ s h ρ e w,Sat D0 w0 s h ρ e w→K s h→K' e w):wg P ops.toArray o e w fun v w'=>K' (E.put e o.dst v) w':=by
 rcases hs with ⟨x,h',fp,h1,h2⟩ | ⟨hg,f,args,ts,hin,x,hout,ho,hC,hh,hn,h2⟩
 ·exact qlG (fun v w' ⟨ρ',S'⟩=>hk _ _ ρ' _ _ S' h2) (q9K S (hT _ S.ext) hF h1)
 ·have:=S.callm (K:=fun v w'=>K' (E.put e o.dst v) w') hT hF hJ rfl hC hh hn fun v w' ρ' S' hr=>hk _ _ ρ' _ _ (S'.puto o.dst hr) h2;have he:args.map (ev e)=(args.toList.map (ev e)).toArray:=by cases args; simp
  rw [← he] at this;obtain ⟨dst,op,ty,pos,af,gd⟩:=o;simp only at ho hg;subst ho;subst hg;rw [q63];exact this
theorem qkr {J:Nat→Prop} {ops:List Oper} {K:(Nat→PV)→Hp→Prop} (hT:∀ w,Kp w0.F w0.w w→Tb w) (hJ:∀ i r,w0.J i r→J i) (hF:Fr D0 w0.w) {K':Env→World→Prop} (hk:∀ s h ρ e w,Sat D0 w0 s h ρ e w→K s h→K' e w):∀ (l:List Oper) (s:Nat→PV) (h:Hp) (ρ:Nat→Option Nat) (e:Env) (w:World),Sat D0 w0 s h ρ e w→ALj P Tb J ops K l s h→WL P ops.toArray K' l e w
 | [],s,h,ρ,e,w,S,hal=>hk s h ρ e w S hal
 | o :: l,s,h,ρ,e,w,S,hal=>q0w (qt3 hT hJ hF S hal fun s h ρ e w S' hq=>qkr hT hJ hF hk l s h ρ e w S' hq)
theorem qbJ {J:Nat→Prop} {ops:List Oper} {K:(Nat→PV)→Hp→Prop} (hT:∀ w,Kp w0.F w0.w w→Tb w) (hJ:∀ i r,w0.J i r→J i) (hF:Fr D0 w0.w) {K':Env→World→Prop} (hk:∀ s h ρ e w,Sat D0 w0 s h ρ e w→K s h→K' e w):∀ (t:Sch) (s:Nat→PV) (h:Hp) (ρ:Nat→Option Nat) (e:Env) (w:World),Sat D0 w0 s h ρ e w→ASj P Tb J ops K t s h→WS P ops K' t e w
 | .fin,s,h,ρ,e,w,S,hal=>hk s h ρ e w S hal
 | .one i t,s,h,ρ,e,w,S,hal=>qt3 hT hJ hF S hal fun s h ρ e w S' hq=>qbJ hT hJ hF hk t s h ρ e w S' hq
 | .alt t u,s,h,ρ,e,w,S,hal=>⟨qbJ hT hJ hF hk t s h ρ e w S hal.1,qbJ hT hJ hF hk u s h ρ e w S hal.2⟩
theorem qfp {J:Nat→Prop} {Q:SQ} {id:Nat} {l:List Oper} (hw:∀ K:(Nat→PV)→Hp→Prop,(∀ s h,Q .normal s h→K s h)→ALj P Tb J l K l s h):AW P Tb J n (.region id l.toArray false) Q s h:=fun D0 w0 ρ e w hT hF S=>by
 refine q7X ?_;exact qkr (K':=fun e' w'=>∃ s' h' ρ',Sat D0 w0 s' h' ρ' e' w'∧Q .normal s' h') hT.1 hT.2 hF (fun s h ρ e w S hq=>⟨s,h,ρ,S,hq⟩) l s h ρ e w S (hw _ fun _ _ h=>h)
theorem quK {J:Nat→Prop} {Q:SQ} {id:Nat} {l:List Oper} (hm:P.follows .mixedOrders=true) (t:Sch) (hok:(Region.noSelect l.toArray && q52 l t false l.length (Array.replicate l.length false))=true) (hw:∀ K:(Nat→PV)→Hp→Prop,(∀ s h,Q .normal s h→K s h)→ASj P Tb J l K t s h):AW P Tb J n (.region id l.toArray true) Q s h:=fun D0 w0 ρ e w hT hF S=>by
 refine W_dA hm t hok fun K w1 hK hx=>?_;exact qbJ (K':=K) hT.1 hT.2 hF (fun s h ρ e w S hq=>hK _ _ ⟨s,h,ρ,S,hq⟩) t s h ρ e w1 (S.extend hx) (hw (fun s h=>Q .normal s h) fun _ _ h=>h)
theorem A_dj {J:Nat→Prop} {Q:SQ} {id:Nat} {l:List Oper} {b:Code} (hm:P.follows .mixedOrders=true) (t:Sch) (hok:(Region.noSelect l.toArray && q52 l t false l.length (Array.replicate l.length false))=true) (hw:∀ K:(Nat→PV)→Hp→Prop,(∀ s h,AW P Tb J n b Q s h→K s h)→ASj P Tb J l K t s h):AW P Tb J n (.seq (.region id l.toArray true) b) Q s h :=
 q2t fun K hK=>quK hm t hok fun K1 hK1=>hw K1 fun s h hb=>hK1 s h (hK s h hb)
theorem qix {J:Nat→Prop} {Q:SQ} {id:Nat} {l:List Oper} {b:Code} (hw:∀ K:(Nat→PV)→Hp→Prop,(∀ s h,AW P Tb J n b Q s h→K s h)→ALj P Tb J l K l s h):AW P Tb J n (.seq (.region id l.toArray false) b) Q s h :=
 q2t fun K hK=>qfp fun K1 hK1=>hw K1 fun s h hb=>hK1 s h (hK s h hb)
end
def q9G (P:Program) (Tb:World→Prop) (J:Nat→Prop) (f:FuncId) (h:Hp) (xs:List PV) [K:Cn (PV→Hp→Prop)]:Prop :=
 @q5p P Tb f (q3e h xs) ⟨fun x _=>K.k x h⟩∨∃ hin x hout,ACm P Tb f xs hin x hout∧(∀ i,win i→h i=hin i)∧(∀ i,J i→hout i≠none→hin i≠none)∧K.k x (q1v hout h)
def aoj (P:Program) (Tb:World→Prop) (J:Nat→Prop) (d:Option Nat) (op:Op) (s:Nat→PV) (h:Hp) (K:PV→Hp→Prop):Prop :=
 match op with
 | .call ⟨.value (.func f),args,_⟩=>@q9G P Tb J f h (args.toList.map (pe s)) ⟨K⟩
 | op=>ao P Tb d op s h fun x h' _=>K x h'
section
variable {P:Program} {Tb:World→Prop} {J:Nat→Prop} {d:Option Nat} {ty t:TypeId} {pos:String} {af:Array Edge} {s:Nat→PV} {h:Hp} {K:PV→Hp→Prop} {ops r:List Oper} {KL:(Nat→PV)→Hp→Prop}
@[congr] theorem qss {op:Op}:aoj P Tb J d op s h K=aoj P Tb J d op s h K:=rfl
@[congr] theorem quM {l:List Oper}:ALj P Tb J ops KL l s h=ALj P Tb J ops KL l s h:=rfl
@[congr] theorem quL {t:Sch}:ASj P Tb J ops KL t s h=ASj P Tb J ops KL t s h:=rfl
@[congr] theorem Sj_congr {o o':Oper} (ho:o=o'):Sj P Tb J ops o s h KL=Sj P Tb J ops o' s h KL:=by rw [ho]
theorem qoh:ALj P Tb J ops KL [] s h=KL s h:=rfl
theorem qiy {o:Oper}:ALj P Tb J ops KL (o :: r) s h=Sj P Tb J ops o s h (ALj P Tb J ops KL r):=rfl
theorem qof:ASj P Tb J ops KL .fin s h=KL s h:=rfl
theorem qoe {i:Nat} {t:Sch}:ASj P Tb J ops KL (.one i t) s h=Sj P Tb J ops (qb7 ops i) s h (ASj P Tb J ops KL t):=rfl
theorem qog {t u:Sch}:ASj P Tb J ops KL (.alt t u) s h=(ASj P Tb J ops KL t s h∧ASj P Tb J ops KL u s h):=rfl
theorem qf8 {op : Op} {K : PV → Hp → FP → Prop} : ao P Tb d op s h K = ∃ x h' fp, Stp P Tb ⟨d, op, 0, "", #[], none⟩ s h x h' fp ∧ K x h' fp := by
 unfold ao; rfl
theorem qf2 {f:FuncId} {o:Option (List PV × List Nat)} {K:PV→List Nat→Prop}:@q5p P Tb f o ⟨K⟩=∃ al ids x,o=some (al,ids)∧AC P Tb f al x∧(ids=[]∨Nz x)∧K x ids:=by
 unfold q5p; rfl
def noC:Op→Bool
 | .call ⟨.value (.func _),_,_⟩=>false
 | _=>true
theorem q25 {op:Op} (ho:noC op=true):aoj P Tb J d op s h K=ao P Tb d op s h fun x h' _=>K x h':=by
 unfold aoj
 split
 ·cases ho
 ·rfl
theorem qia {f:FuncId} {xs:List Operand} {ts:Array TypeId}:aoj P Tb J d (.call ⟨.value (.func f),xs.toArray,ts⟩) s h K=@q9G P Tb J f h (xs.map (pe s)) ⟨K⟩:=rfl
theorem qoP {op : Op} : aoj P Tb J d op s h K ↔ (∃ x h' fp, Stp P Tb ⟨d, op, 0, "", #[], none⟩ s h x h' fp ∧ K x h') ∨ (∃ f args ts hin x hout, op = .call ⟨.value (.func f), args, ts⟩ ∧ ACm P Tb f (args.toList.map (pe s)) hin x hout ∧ (∀ i, win i → h i = hin i) ∧ (∀ i, J i → hout i ≠ none → hin i ≠ none) ∧ K x (q1v hout h)) := by
 unfold aoj
 split
 ·rename_i f args ts;unfold q9G;rw [qf2]
  constructor
  ·rintro (⟨al,ids,x,h1,h2,h3,h4⟩ | ⟨hin,x,hout,h1,h2,h3,h4⟩)
   ·exact .inl ⟨x,h,(ids,[]),⟨al,ids,h1,h2,h3,rfl,rfl⟩,h4⟩
   ·exact .inr ⟨_,_,_,hin,x,hout,rfl,h1,h2,h3,h4⟩
  ·rintro (⟨x,h',fp,⟨al,ids,h1,h2,h3,rfl,_⟩,h4⟩ | ⟨f,args,ts,hin,x,hout,he,h1,h2,h3,h4⟩)
   ·exact .inl ⟨al,ids,x,h1,h2,h3,h4⟩
   ·cases he;exact .inr ⟨hin,x,hout,h1,h2,h3,h4⟩
 ·rename_i hno;rw [qf8]
  constructor
  ·rintro ⟨x,h',fp,h1,h2⟩;exact .inl ⟨x,h',fp,h1,h2⟩
  ·rintro (⟨x,h',fp,h1,h2⟩ | ⟨f,args,ts,hin,x,hout,he,_⟩)
   ·exact ⟨x,h',fp,h1,h2⟩
   ·exact (hno _ _ _ he).elim
theorem Sj_n {op:Op}:Sj P Tb J ops ⟨d,op,ty,pos,af,none⟩ s h KL=aoj P Tb J d op s h fun x h'=>KL (q3V s d x) h':=by
 rw [qoP];refine propext ⟨?_,?_⟩
 ·rintro (⟨x,h',fp,h1,h2⟩ | ⟨_,f,args,ts,hin,x,hout,ho,h1,h2,h3,h4⟩)
  ·exact .inl ⟨x,h',fp,h1,h2⟩
  ·exact .inr ⟨f,args,ts,hin,x,hout,ho,h1,h2,h3,h4⟩
 ·rintro (⟨x,h',fp,h1,h2⟩ | ⟨f,args,ts,hin,x,hout,ho,h1,h2,h3,h4⟩)
  ·exact .inl ⟨x,h',fp,h1,h2⟩
  ·exact .inr ⟨rfl,f,args,ts,hin,x,hout,ho,h1,h2,h3,h4⟩
theorem Sj_g {op:Op} {j:Nat} {b:Bool}:Sj P Tb J ops ⟨d,op,ty,pos,af,some (j,b)⟩ s h KL=@pgA (q3H ops s j b) b ⟨ao P Tb d op s h fun x h' _=>KL (q3V s d x) h'⟩ ⟨KL (q3V s d (.vl undef)) h⟩:=by
 unfold pgA;refine propext ⟨?_,fun hp=>?_⟩
 ·rintro (⟨x,h',fp,hg,hk⟩ | ⟨hg,_⟩)
  ·unfold q72 at hg;simp only at hg;obtain ⟨c,hc,hg⟩:=hg;rw [hc];simp only
   split at hg
   ·rename_i hcb; rw [if_pos hcb,qf8]; exact ⟨x,h',fp,hg,hk⟩
   ·rename_i hcb; rw [if_neg hcb]; obtain ⟨rfl,rfl,rfl⟩:=hg; exact hk
  ·cases hg
 ·split at hp
  ·rename_i c hc
   split at hp
   ·rename_i hcb;rw [qf8] at hp;obtain ⟨x,h',fp,hg,hk⟩:=hp;exact .inl ⟨x,h',fp,by unfold q72; exact ⟨c,hc,by rw [if_pos hcb]; exact hg⟩,hk⟩
   ·rename_i hcb;exact .inl ⟨.vl undef,h,([],[]),by unfold q72; exact ⟨c,hc,by rw [if_neg hcb]; exact ⟨rfl,rfl,rfl⟩⟩,hp⟩
  ·exact hp.elim
section
variable {x a b:Operand} {i f:Nat}
theorem qoY:aoj P Tb J d (.move x) s h K=ao P Tb d (.move x) s h fun x h' _=>K x h':=q25 rfl
theorem qfb:aoj P Tb J d (.assign x) s h K=ao P Tb d (.assign x) s h fun x h' _=>K x h':=q25 rfl
theorem qoX {c}:aoj P Tb J d (.pick c a b) s h K=ao P Tb d (.pick c a b) s h fun x h' _=>K x h':=q25 rfl
theorem qtQ {op t'}:aoj P Tb J d (.binOp op t a b t') s h K=ao P Tb d (.binOp op t a b t') s h fun x h' _=>K x h':=q25 rfl
theorem aj_un {op}:aoj P Tb J d (.unOp op t x) s h K=ao P Tb d (.unOp op t x) s h fun x h' _=>K x h':=q25 rfl
theorem qo1 {u v}:aoj P Tb J d (.convert u v x) s h K=ao P Tb d (.convert u v x) s h fun x h' _=>K x h':=q25 rfl
theorem qtM:aoj P Tb J d (.fieldAddr t x f) s h K=ao P Tb d (.fieldAddr t x f) s h fun x h' _=>K x h':=q25 rfl
theorem qtN:aoj P Tb J d (.extract x i) s h K=ao P Tb d (.extract x i) s h fun x h' _=>K x h':=q25 rfl
theorem qtJ:aoj P Tb J d (.nilCheck x) s h K=ao P Tb d (.nilCheck x) s h fun x h' _=>K x h':=q25 rfl
theorem qtK:aoj P Tb J d (.indexAddr t a b) s h K=ao P Tb d (.indexAddr t a b) s h fun x h' _=>K x h':=q25 rfl
theorem qil {lo hi mx}:aoj P Tb J d (.slice t x lo hi mx) s h K=ao P Tb d (.slice t x lo hi mx) s h fun x h' _=>K x h':=q25 rfl
theorem qtL {fn first cap}:aoj P Tb J d (.makeFunc fn first cap) s h K=ao P Tb d (.makeFunc fn first cap) s h fun x h' _=>K x h':=q25 rfl
theorem qin {ps}:aoj P Tb J d (.build t ps) s h K=ao P Tb d (.build t ps) s h fun x h' _=>K x h':=q25 rfl
theorem qo0:aoj P Tb J d (.load t x) s h K=ao P Tb d (.load t x) s h fun x h' _=>K x h':=q25 rfl
theorem qio:aoj P Tb J d (.alloc t) s h K=ao P Tb d (.alloc t) s h fun x h' _=>K x h':=q25 rfl
theorem qtO:aoj P Tb J d (.box t x) s h K=ao P Tb d (.box t x) s h fun x h' _=>K x h':=q25 rfl
theorem aj_bs {n ps}:aoj P Tb J d (.buildSlice t n ps) s h K=ao P Tb d (.buildSlice t n ps) s h fun x h' _=>K x h':=q25 rfl
theorem qoZ:aoj P Tb J d (.makeSlice t a b) s h K=ao P Tb d (.makeSlice t a b) s h fun x h' _=>K x h':=q25 rfl
theorem qik:aoj P Tb J d (.store t a b) s h K=ao P Tb d (.store t a b) s h fun x h' _=>K x h':=q25 rfl
theorem qtP {u xs ts}:aoj P Tb J d (.call ⟨.builtin u,xs,ts⟩) s h K=ao P Tb d (.call ⟨.builtin u,xs,ts⟩) s h fun x h' _=>K x h':=q25 rfl
theorem qim {t:Nat} {xs:List Operand} {ts}:aoj P Tb J d (.call ⟨.value (.tmp t),xs.toArray,ts⟩) s h K=@qiD P Tb h (s t) (xs.map (pe s)) ⟨fun x ids=>K x h⟩:=(q25 rfl).trans qbA
end
theorem jc {f:FuncId} {xs:List PV} (hc:@q5p P Tb f (q3e h xs) ⟨fun x _=>K x h⟩):@q9G P Tb J f h xs ⟨K⟩:=.inl hc
theorem jm {f:FuncId} {xs:List PV} {hin hout:Hp} {x:PV} (hc:ACm P Tb f xs hin x hout) (hw:∀ i,win i→h i=hin i) (hj:∀ i,J i→hout i≠none→hin i≠none) (hk:K x (q1v hout h)):@q9G P Tb J f h xs ⟨K⟩:=.inr ⟨hin,x,hout,hc,hw,hj,hk⟩
def Wn (h hw:Hp):Prop:=∀ i,win i→h i=hw i
theorem Wn_lo {i:Nat} {b:Bk} {hw:Hp} (hi:¬ win i):Wn (q0c h i b) hw=Wn h hw:=by
 refine propext ⟨fun hq j hj=>?_,fun hq j hj=>?_⟩
 ·rw [← hq j hj,q0R fun e=>hi (by rw [← e]; exact hj)]
 ·rw [← hq j hj,q0R fun e=>hi (by rw [← e]; exact hj)]
theorem q0s {hw:Hp}:Wn (q1v hw h) hw:=fun _ hi=>q1J hi
theorem qfe {i:Nat} {b:Bk} {hw:Hp} (hq:Wn h hw):Wn (q0c h i b) (q0c hw i b):=fun j hj=>by
 unfold q0c
 split
 ·rfl
 ·exact hq j hj
theorem q9a {hw hw':Hp} (hq:Wn h hw) (he:hw=hw'):Wn h hw':=he ▸ hq
theorem qeJ {hw:Hp} {i:Nat} (hi:i < 5000):q1v hw h i=h i:=q1d fun hw=>by unfold win at hw; omega
theorem qmg {hw:Hp} {i:Nat} (h1:5000≤i) (h2:i < 1000000):q1v hw h i=hw i:=q1J ⟨h1,h2⟩
structure WfH (hw:Hp):Prop where
 wf:∀ i b,hw i=some b→b.st=false∧IdL (fun j=>win j∧hw j≠none) b.xs
section
variable {τ:Nat→Option Nat} {h':Hp} {p:Nat→Prop}
mutual
theorem qit (hp:∀ j,p j→τ j=some j∧∃ b,h' j=some b):∀ (x:PV),IdP p x→LeV τ h h' x x
 | .un,_=>.un
 | .vl _,_=>.cl trivial
 | .fm _,_=>.cl trivial
 | .sl _ _,_=>.cl trivial
 | .qt _ _,_=>.cl trivial
 | .ow id k a b,hi=>by
  unfold IdP at hi;obtain ⟨h1,c,h2⟩:=hp id hi;exact .ow h1 h2
 | .pt id a b,hi=>by
  unfold IdP at hi;obtain ⟨h1,c,h2⟩:=hp id hi;exact .pt h1 h2
 | .ag l,hi=>by
  unfold IdP at hi;obtain ⟨h1,h2⟩:=LeL_self hp l hi;exact .ag h1 h2
 | .tu l,hi=>by
  unfold IdP at hi;obtain ⟨h1,h2⟩:=LeL_self hp l hi;exact .tu h1 h2
theorem LeL_self (hp:∀ j,p j→τ j=some j∧∃ b,h' j=some b):∀ (l:List PV),IdL p l→LeL τ h h' l l
 | [],_=>⟨rfl,fun i a b ha hb=>by simp at ha⟩
 | x :: l,hi=>by
  unfold IdL at hi;obtain ⟨h1,h2⟩:=LeL_self hp l hi.2;refine ⟨rfl,fun i a b ha hb=>?_⟩;cases i with
  | zero=>simp at ha hb; subst ha; subst hb; exact qit hp x hi.1
  | succ i=>exact h2 i a b (by simpa using ha) (by simpa using hb)
end
def q3g (τ:Nat→Option Nat):List Nat→Prop
 | []=>True
 | i :: l=>(¬ win i∧∀ j,τ i=some j→¬ win j)∧q3g τ l
theorem q67:∀ {l:List Nat},q3g τ l→∀ i ∈ l,¬ win i∧∀ j,τ i=some j→¬ win j
 | i :: l,h,j,hj=>by
  rcases List.mem_cons.1 hj with rfl | hj
  ·exact h.1
  ·exact q67 h.2 j hj
theorem LeW (l:List (Nat × Option Nat)) (hl:qp3 l=true) (hlt:q2i l=τ) {hw:Hp} {xs kv:List (Nat × PV)} {bs:List (Nat × Bk)} {kb:List (Nat × Option Bk)} (hq:Wn h hw) (wf:WfH hw) (hx:q3g τ (bs.map (·.1) ++ kb.map (·.1)))
  (hh:q7Z τ h (q1v hw (hpM bs kb)) s xs∧q7Z τ h (q1v hw (hpM bs kb)) s kv∧qoc τ h (q1v hw (hpM bs kb)) bs∧qbz τ h (q1v hw (hpM bs kb)) kb∧q8h τ (bs.map (·.1) ++ kb.map (·.1))):Le J s h (stM xs kv) (q1v hw (hpM bs kb)):=by
 obtain ⟨h1,h2,h3,h4,h5⟩:=hh;have ht:∀ i,win i→τ i=some i:=fun i hi=>by rw [← hlt]; exact q8i hl i hi.1 hi.2
 have hm:∀ i b,q1v hw (hpM bs kb) i=some b→(win i∧hw i=some b)∨(¬ win i∧LeB τ h (q1v hw (hpM bs kb)) i b∧i ∈ bs.map (·.1) ++ kb.map (·.1)):=fun i b hb=>by
  by_cases hi:win i
  ·rw [q1J hi] at hb; exact .inl ⟨hi,hb⟩
  ·rw [q1d hi] at hb; exact .inr ⟨hi,q84 h4 h3 i b hb⟩
 refine q6C τ (fun i b hb=>?_) (fun i j k b c hi hj ti tj=>?_) (fun t=>q5u h2 h1 t) fun i _ q1 q2=>ht i ⟨q1,q2⟩
 ·rcases hm i b hb with ⟨hi,hb⟩ | ⟨_,hb,_⟩
  ·unfold LeB;rw [ht i hi];obtain ⟨q1,q2⟩:=wf.wf i b hb;refine ⟨b,(hq i hi).trans hb,rfl,rfl,⟨q1,q1⟩,LeL_self (fun j hj=>⟨ht j hj.1,?_⟩) _ q2⟩;obtain ⟨c,hc⟩:=Option.ne_none_iff_exists'.1 hj.2;exact ⟨c,by rw [q1J hj.1]; exact hc⟩
  ·exact hb
 ·rcases hm i b hi with ⟨wi,_⟩ | ⟨wi,_,mi⟩ <;> rcases hm j c hj with ⟨wj,_⟩ | ⟨wj,_,mj⟩
  ·rw [ht i wi] at ti; rw [ht j wj] at tj;cases ti; cases tj; rfl
  ·rw [ht i wi] at ti;cases ti;exact ((q67 hx j mj).2 _ tj wi).elim
  ·rw [ht j wj] at tj;cases tj;exact ((q67 hx i mi).2 _ ti wj).elim
  ·rcases q5V h5 i mi j mj with h | h | h
   ·exact h
   ·rw [ti] at h; cases h
   ·rw [ti,tj] at h; exact absurd rfl h
end
theorem q1D {n:Nat} {Q:SQ} {ι:Type} {c:Code} (I:ι→Prop) (ks kb:List Nat) {kv:List (Nat × PV)} {kbv:List (Nat × Option Bk)} (hk:(ks.map fun t=>(t,s t))=kv) (hb:(kb.map fun i=>(i,h i))=kbv) (xs:ι→List (Nat × PV)) (bs:ι→List (Nat × Bk)) (hw:ι→Hp) (μ:ι→Nat) (i0:ι) (hI:I i0) (hl:Le J s h (stM (xs i0) kv) (q1v (hw i0) (hpM (bs i0) kbv)))
  (round:∀ i,I i→AW P Tb J n c (thA (fun s' h'=>∃ j,I j∧μ j < μ i∧Le J s' h' (stM (xs j) kv) (q1v (hw j) (hpM (bs j) kbv))) Q) (stM (xs i) kv) (q1v (hw i) (hpM (bs i) kbv))):AW P Tb J n (.loop c) Q s h :=
 qfr (ι:={i:ι // I i}) (fun i=>stM (xs i.1) kv) (fun i=>q1v (hw i.1) (hpM (bs i.1) kbv)) (fun i=>μ i.1) ⟨i0,hI⟩ hl fun i=>by
  intro D0 w0 ρ e w hT hF S;refine q4c (fun x e' w' hx=>?_) (round i.1 i.2 D0 w0 ρ e w hT hF S);obtain ⟨s',h',ρ',S',q⟩:=hx;refine ⟨s',h',ρ',S',?_⟩;cases x
  case normal=>obtain ⟨j,h1,h2,h3⟩:=q; exact ⟨⟨j,h1⟩,h3,h2⟩
  all_goals exact q
end
attribute [irreducible] aoj q9G
attribute [go_sem ↓] qeJ qmg qoh qiy qof qoe qog Sj_n Sj_g qoY qfb qoX qtQ aj_un qo1 qtM qtN qtJ qtK qil qtL qin qo0 qio qtO aj_bs qoZ qik qtP qim qia q7t qaM
section
variable {P:Program} {J:Nat→Prop} {s:Nat→PV} {h hin hout hw:Hp} {τ:Nat→Option Nat}
theorem qqq {x:PV}:mkR [x]=x:=rfl
theorem mkR_0:mkR []=.tu []:=rfl
attribute [go_sem] qqq mkR_0
theorem rtM {fn:Func} {x:PV} {rs:List ResultVar} {l:List PV} (hr:fn.results.toList=rs) (hlen:(decide (rs.length≤4))=true) (hl:rsL P h s rs=some l) (hle:Le (fun i=>hin i≠none) (fun _=>mkR l) h (fun _=>x) hout) {e:Exit} (he:e=.ret∨e=.normal):retM P fn hin x hout e s h :=
 ⟨he,by rw [hr]; simpa using hlen,l,by rw [hr]; exact hl,hle⟩
theorem jmF {P:Program} {Tb:World→Prop} {K:PV→Hp→Prop} {f:FuncId} {xs:List PV} {x:PV} (hc:ACm P Tb f xs hin x hout) (hw:Wn h hin) (hk:K x (q1v hout h)):@q9G P Tb (fun _=>False) f h xs ⟨K⟩:=jm hc hw (fun _ hi=>hi.elim) hk
theorem LeF {x:PV} {l:List PV} (hq:Wn h hout) (ho:∀ i b,hout i=some b→win i) (wf:WfH hout) (hx:LeV some h hout (mkR l) x):Le J (fun _=>mkR l) h (fun _=>x) hout:=by
 refine q6C some (fun i b hb=>?_) (fun i j k b c _ _ ti tj=>by cases ti; cases tj; rfl) (fun _=>hx) fun _ _ _ _=>rfl;obtain ⟨q1,q2⟩:=wf.wf i b hb;refine ⟨b,(hq i (ho i b hb)).trans hb,rfl,rfl,⟨q1,q1⟩,LeL_self (fun j hj=>⟨rfl,Option.ne_none_iff_exists'.1 hj.2⟩) _ q2⟩
def nmW (o r:Nat):List Nat→Prop
 | []=>True
 | i :: l=>(i < 5000∧i≠o∧i≠r)∧nmW o r l
theorem q6t {o r:Nat}:∀ {l:List Nat},nmW o r l→∀ i ∈ l,i < 5000∧i≠o∧i≠r
 | i :: l,h,j,hj=>by
  rcases List.mem_cons.1 hj with rfl | hj
  ·exact h.1
  ·exact q6t h.2 j hj
def q4L (T1 T2:TypeId) (N R n m:Nat) (g:Nat→Nat→Bool):Hp:=fun i =>
 if i=N then some ⟨T1,none,(List.range n).map fun j=>.ow (j+R) none 0 m,false⟩
 else if R≤i∧i < R+n then some ⟨T2,none,(List.range m).map fun c=>.vl (.bool (g (i-R) c)),false⟩ else none
variable {T1 T2:TypeId} {N R n m:Nat} {g:Nat→Nat→Bool}
theorem qjD:q4L T1 T2 N R n m g N=some ⟨T1,none,(List.range n).map fun j=>.ow (j+R) none 0 m,false⟩:=if_pos rfl
theorem q6H {j:Nat} (hN:N < R) (hj:j < n):q4L T1 T2 N R n m g (j+R)=some ⟨T2,none,(List.range m).map fun c=>.vl (.bool (g j c)),false⟩:=by
 unfold q4L;rw [if_neg (by omega),if_pos (by omega),Nat.add_sub_cancel]
attribute [go_sem ↓] qjD q6H
theorem qp7 {i:Nat} (h1:i≠N) (h2:i < R∨R+n≤i):q4L T1 T2 N R n m g i=none:=by
 unfold q4L;rw [if_neg h1,if_neg (by omega)]
theorem q12 {i:Nat} {b:Bk} (hb:q4L T1 T2 N R n m g i=some b):(i=N∧b=⟨T1,none,(List.range n).map fun j=>.ow (j+R) none 0 m,false⟩)∨(R≤i∧i < R+n∧b=⟨T2,none,(List.range m).map fun c=>.vl (.bool (g (i-R) c)),false⟩):=by
 unfold q4L at hb
 split at hb
 ·cases hb; exact .inl ⟨‹_›,rfl⟩
 ·split at hb
  ·rename_i hi; cases hb; exact .inr ⟨hi.1,hi.2,rfl⟩
  ·cases hb
theorem q4u (hN:5000≤N) (hNR:N < R) (hR:R+n≤1000000) {i:Nat} {b:Bk} (hb:q4L T1 T2 N R n m g i=some b):win i:=by
 unfold win
 rcases q12 hb with ⟨rfl,_⟩ | ⟨h1,h2,_⟩ <;> omega
theorem qrD {α:Type} {p:Nat→Prop} {l:List α} {f:α→Bool}:IdL p (l.map fun z=>.vl (.bool (f z))):=IdL.of fun x hx=>by
 obtain ⟨z,_,rfl⟩:=List.mem_map.1 hx;unfold IdP; trivial
theorem q9l {p:Nat→Prop} (hp:∀ j,j < n→p (j+R)):IdL p ((List.range n).map fun j=>.ow (j+R) none 0 m):=IdL.of fun x hx=>by
 obtain ⟨z,hz,rfl⟩:=List.mem_map.1 hx;unfold IdP; exact hp z (List.mem_range.1 hz)
theorem q1s (hN:5000≤N) (hNR:N < R) (hR:R+n≤1000000):WfH (q4L T1 T2 N R n m g):=⟨fun i b hb=>by
 rcases q12 hb with ⟨_,rfl⟩ | ⟨h1,h2,rfl⟩
 ·refine ⟨rfl,q9l fun j hj=>⟨⟨by omega,by omega⟩,?_⟩⟩;rw [q6H hNR hj]; exact Option.some_ne_none _
 ·exact ⟨rfl,qrD⟩⟩
theorem q55 {x:PV}:List.replicate m x=(List.range m).map fun _=>x:=by simp [List.map_const']
theorem q4Z {i:Nat} {b:Bk} (hi:i < 5000) (hq:Wn h hw):Wn (q0c h i b) hw:=by
 rw [Wn_lo fun w=>by unfold win at w; omega]; exact hq
theorem q4Y:Wn h h:=fun _ _=>rfl
theorem q41:Wn h0 h0:=fun _ _=>rfl
theorem Wn_V:∀ {kb:List (Nat × Option Bk)},nmW 0 0 (kb.map fun p=>p.1+1)→Wn (hpV kb) h0
 | [],_=>q41
 | p :: l,hk=>fun i hi=>by
  unfold hpV;have:p.1+1 < 5000:=hk.1.1;rw [if_neg (by unfold win at hi; omega)];exact Wn_V hk.2 i hi
theorem q40:∀ {bs:List (Nat × Bk)} {kb:List (Nat × Option Bk)},nmW 0 0 (bs.map fun p=>p.1+1)→nmW 0 0 (kb.map fun p=>p.1+1)→Wn (hpM bs kb) h0
 | [],_,_,hk=>Wn_V hk
 | p :: l,_,hb,hk=>fun i hi=>by
  unfold hpM;have:p.1+1 < 5000:=hb.1.1;rw [if_neg (by unfold win at hi; omega)];exact q40 hb.2 hk i hi
theorem clT {f:Nat→Bool}:ClL ((List.range m).map fun c=>.vl (.bool (f c))):=fun x hx=>by
 obtain ⟨z,_,rfl⟩:=List.mem_map.1 hx
 trivial
theorem map_T {f f':Nat→Bool} (hf:∀ c,c < m→f c=f' c):((List.range m).map fun c=>PV.vl (.bool (f c)))=(List.range m).map fun c=>PV.vl (.bool (f' c)):=List.map_congr_left fun c hc=>by rw [hf c (List.mem_range.1 hc)]
theorem qob {h':Hp} {f f':Nat→Bool} (hf:∀ c,c < m→f c=f' c):LeL τ h h' ((List.range m).map fun c=>.vl (.bool (f c))) ((List.range m).map fun c=>.vl (.bool (f' c))):=q0q (map_T hf) clT
def qh2 (g:Nat→Nat→Bool) (r c:Nat) (b:Bool):Nat→Nat→Bool:=fun x y=>if x=r∧y=c then b else g x y
theorem q8r {f:Nat→Bool} {c:Nat} {b:Bool}:((List.range m).map fun y=>PV.vl (.bool (f y))).set c (.vl (.bool b))=(List.range m).map fun y=>PV.vl (.bool (if y=c then b else f y)):=by
 apply List.ext_getElem?
 intro i;rw [List.getElem?_set];simp only [List.length_map,List.length_range,List.getElem?_map]
 by_cases hi:i < m
 ·rw [List.getElem?_range hi]
  by_cases hc:c=i
  ·subst hc; simp [hi]
  ·simp [hc,Ne.symm hc]
 ·rw [List.getElem?_eq_none (by simpa using hi)]
  by_cases hc:c=i <;> simp [hc]
  omega
theorem q68 (hNR:N < R) {r c:Nat} {b:Bool} (hr:r < n):q0c (q4L T1 T2 N R n m g) (r+R) ⟨T2,none,((List.range m).map fun y=>.vl (.bool (g r y))).set c (.vl (.bool b)),false⟩=q4L T1 T2 N R n m (qh2 g r c b):=by
 funext i
 rw [q8r];unfold q0c
 split
 ·rename_i hi;subst hi;rw [q6H hNR hr];simp [qh2]
 ·rename_i hi;unfold q4L
  split
  ·rfl
  ·split
   ·congr 2
    refine List.map_congr_left fun y _=>?_;unfold qh2;rw [if_neg (by omega)]
   ·rfl
theorem q4v {g':Nat→Nat→Bool} (hg:∀ r c,r < n→c < m→g r c=g' r c):q4L T1 T2 N R n m g=q4L T1 T2 N R n m g':=by
 funext i
 unfold q4L
 split
 ·rfl
 ·split
  ·congr 2
   refine List.map_congr_left fun y hy=>?_;rw [hg _ _ (by omega) (List.mem_range.1 hy)]
  ·rfl
def tn (N:Nat):Nat→Option Nat:=fun i=>if i=N then none else some i
theorem qc0 (hJ:∀ i,¬ J i) (hN:5000≤N) (hNR:N < R) {xs kv:List (Nat × PV)} {kb:List (Nat × Option Bk)} (hn:nmW N N (kb.map (·.1)))
  (hh:q7Z (tn N) h (q1v (q4L T1 T2 N R 0 m g) (hpM [] kb)) s xs∧q7Z (tn N) h (q1v (q4L T1 T2 N R 0 m g) (hpM [] kb)) s kv∧qbz (tn N) h (q1v (q4L T1 T2 N R 0 m g) (hpM [] kb)) kb):Le J s h (stM xs kv) (q1v (q4L T1 T2 N R 0 m g) (hpM [] kb)):=by
 obtain ⟨h1,h2,h4⟩:=hh;refine q6C (tn N) (fun i b hb=>?_) (fun i j k b c _ _ ti tj=>?_) (fun t=>q5u h2 h1 t) fun i hi=>(hJ i hi).elim
 ·by_cases hi:win i
  ·rw [q1J hi] at hb
   rcases q12 hb with ⟨rfl,rfl⟩ | ⟨q1,q2,_⟩
   ·unfold LeB tn;rw [if_pos rfl]; rfl
   ·omega
  ·rw [q1d hi] at hb;exact (q4I h4 i b hb).1
 ·unfold tn at ti tj
  split at ti
  ·cases ti
  ·split at tj
   ·cases tj
   ·cases ti; cases tj; rfl
theorem tn_ap {i:Nat}:tn N i=if i=N then none else some i:=rfl
def tp (N K o r:Nat):Nat→Option Nat:=fun i=>if i=N then some o else if i=K then some r else some i
theorem tp_ap {K o r i:Nat}:tp N K o r i=if i=N then some o else if i=K then some r else some i:=rfl
attribute [go_sem ↓] tn_ap tp_ap
theorem q9j {k o r:Nat} (hJ:∀ i,¬ J i) (ho:h o=some ⟨T1,none,((List.range k).map fun j=>.ow (j+R) none 0 m) ++ [.ow r none 0 m],false⟩) (hr:h r=some ⟨T2,none,(List.range m).map fun c=>.vl (.bool (g k c)),false⟩)
  (hrow:∀ j,j < k→h (j+R)=some ⟨T2,none,(List.range m).map fun c=>.vl (.bool (g j c)),false⟩) (h5:o < 5000) (h6:r < 5000) (hor:o≠r) (hN:5000≤N) (hNR:N < R) (hR:R+k < 1000000) {xs kv:List (Nat × PV)} {kb:List (Nat × Option Bk)} (hn:nmW o r (kb.map (·.1)))
  (hh:q7Z (tp N (k+R) o r) h (q1v (q4L T1 T2 N R (k+1) m g) (hpM [] kb)) s xs∧q7Z (tp N (k+R) o r) h (q1v (q4L T1 T2 N R (k+1) m g) (hpM [] kb)) s kv∧qbz (tp N (k+R) o r) h (q1v (q4L T1 T2 N R (k+1) m g) (hpM [] kb)) kb):Le J s h (stM xs kv) (q1v (q4L T1 T2 N R (k+1) m g) (hpM [] kb)):=by
 obtain ⟨q1,q2,q4⟩:=hh;have tN:tp N (k+R) o r N=some o:=if_pos rfl;have tK:tp N (k+R) o r (k+R)=some r:=by unfold tp; rw [if_neg (by omega),if_pos rfl]
 have tI:∀ i,i≠N→i≠k+R→tp N (k+R) o r i=some i:=fun i a b=>by unfold tp; rw [if_neg a,if_neg b]
 have hm:∀ i b,q1v (q4L T1 T2 N R (k+1) m g) (hpM [] kb) i=some b→i=N∨i=k+R∨(∃ j,j < k∧i=j+R)∨(¬ win i∧i≠o∧i≠r):=fun i b hb=>by
  by_cases hi:win i
  ·rw [q1J hi] at hb
   rcases q12 hb with ⟨e,_⟩ | ⟨a1,a2,_⟩
   ·exact .inl e
   ·by_cases e:i=k+R
    ·exact .inr (.inl e)
    ·exact .inr (.inr (.inl ⟨i-R,by omega,by omega⟩))
  ·rw [q1d hi] at hb;have:=q6t hn i (q4I q4 i b hb).2;exact .inr (.inr (.inr ⟨hi,this.2⟩))
 refine q6C (tp N (k+R) o r) (fun i b hb=>?_) (fun i j k' b c hi hj ti tj=>?_) (fun t=>q5u q2 q1 t) fun i hi=>(hJ i hi).elim
 ·by_cases hi:win i
  ·rw [q1J hi] at hb
   rcases q12 hb with ⟨rfl,rfl⟩ | ⟨a1,a2,rfl⟩
   ·unfold LeB;rw [tN];refine ⟨_,ho,rfl,rfl,⟨rfl,rfl⟩,by simp,fun c x y hx hy=>?_⟩;have hc:c < k+1:=by have:=(List.getElem?_eq_some_iff.1 hy).1; simpa using this
    rw [List.getElem?_map,List.getElem?_range hc,Option.map_some] at hy;cases hy;have hex:∃ b,q1v (q4L T1 T2 i R (k+1) m g) (hpM [] kb) (c+R)=some b:=⟨_,by rw [q1J ⟨by omega,by omega⟩,q6H hNR hc]⟩;obtain ⟨bb,hbb⟩:=hex
    by_cases hck:c=k
    ·subst hck;rw [List.getElem?_append_right (by simp)] at hx;simp at hx;subst hx;exact .ow tK hbb
    ·rw [List.getElem?_append_left (by simp; omega),List.getElem?_map,List.getElem?_range (by omega),Option.map_some] at hx;cases hx;exact .ow (tI _ (by omega) (by omega)) hbb
   ·by_cases e:i=k+R
    ·subst e;unfold LeB;rw [tK,Nat.add_sub_cancel];exact ⟨_,hr,rfl,rfl,⟨rfl,rfl⟩,LeL_self (p:=fun _=>False) (fun _ h=>h.elim) _ qrD⟩
    ·unfold LeB;rw [tI i (by omega) e];have:=hrow (i-R) (by omega);rw [Nat.sub_add_cancel a1] at this;exact ⟨_,this,rfl,rfl,⟨rfl,rfl⟩,LeL_self (p:=fun _=>False) (fun _ h=>h.elim) _ qrD⟩
  ·rw [q1d hi] at hb;exact (q4I q4 i b hb).1
 ·have key:∀ i b,q1v (q4L T1 T2 N R (k+1) m g) (hpM [] kb) i=some b→∀ a,tp N (k+R) o r i=some a→(i=N∧a=o)∨(i=k+R∧a=r)∨(i=a∧a≠o∧a≠r):=fun i b hb a ha=>by
   rcases hm i b hb with rfl | rfl | ⟨j,hj,rfl⟩ | ⟨w1,w2,w3⟩
   ·rw [tN] at ha; cases ha; exact .inl ⟨rfl,rfl⟩
   ·rw [tK] at ha; cases ha; exact .inr (.inl ⟨rfl,rfl⟩)
   ·rw [tI _ (by omega) (by omega)] at ha; cases ha; exact .inr (.inr ⟨rfl,by omega,by omega⟩)
   ·rw [tI i (fun e=>w1 (by subst e; exact ⟨hN,by omega⟩)) (fun e=>w1 (by subst e; exact ⟨by omega,by omega⟩))] at ha; cases ha; exact .inr (.inr ⟨rfl,w2,w3⟩)
  rcases key i b hi k' ti with ⟨e1,e2⟩ | ⟨e1,e2⟩ | ⟨e1,e2,e3⟩ <;> rcases key j c hj k' tj with ⟨f1,f2⟩ | ⟨f1,f2⟩ | ⟨f1,f2,f3⟩ <;> first | omega | (exfalso; omega)
theorem qc1 {h':Hp} (hq:Wn h (q4L T1 T2 N R n m g)) (hN:5000≤N) (hNR:N < R) (hR:R+n≤1000000) (ht:∀ i,win i→h' i=none) (hτ:∀ i j,τ i=some j→win j→i=j):LeV τ h h' (.ow N none 0 n) (.sl none ((List.range n).map fun j=>.sl none ((List.range m).map fun c=>.vl (.bool (g j c))))):=by
 have e:∀ {α:Type} {l:List α} {k:Nat},l.length=k→(l.drop 0).take k=l:=fun {α l k} hl=>by rw [List.drop_zero]; exact List.take_of_length_le (by omega)
 have e1:=e (l:=(List.range n).map fun j=>PV.sl none ((List.range m).map fun c=>.vl (.bool (g j c)))) (k:=n) (by simp);rw [← e1];refine .fzg ((hq N ⟨hN,by omega⟩).trans qjD) rfl rfl (by simp) (fun c x y hx hy=>?_) (fun y hy=>?_) fun i hi=>?_
 ·have hc:c < n:=by have:=(List.getElem?_eq_some_iff.1 hy).1; simpa using this
  rw [List.getElem?_map,List.getElem?_range hc,Option.map_some] at hx hy;cases hx; cases hy;have hb2:=(hq (c+R) ⟨by omega,by omega⟩).trans (q6H (T1:=T1) (T2:=T2) (m:=m) (g:=g) hNR hc);rw [← e (l:=(List.range m).map fun c'=>PV.vl (.bool (g c c'))) (k:=m) (by simp)];exact .fz hb2 rfl rfl clT fun k hk=>by
   obtain rfl:=hτ k _ hk ⟨by omega,by omega⟩;exact ht _ ⟨by omega,by omega⟩
 ·obtain ⟨z,_,rfl⟩:=List.mem_map.1 hy; trivial
 ·obtain rfl:=hτ i _ hi ⟨hN,by omega⟩;exact ht _ ⟨hN,by omega⟩
theorem q9J:∀ {bs:List (Nat × Bk)} {kb:List (Nat × Option Bk)},nmW 0 0 (bs.map fun p=>p.1+1)→nmW 0 0 (kb.map fun p=>p.1+1)→∀ i,win i→hpM bs kb i=none:=fun hb hk i hi=>q40 hb hk i hi
end
end Go.E
namespace Go.Proofs.YtbcmhlhgljoolaaGreatDoor
open Go Go.E Go.Sp
abbrev qiz (f:FuncId) (al:List PV) (hin:Hp) (x:PV) (hout:Hp):Prop:=ACm Tryz.prog q1r f al hin x hout
theorem qo3 {f:FuncId} {fn:Func} {c:Code} {al:List PV} {x:PV} {hin hout:Hp} (hc:q0C Tryz.prog f=true) (hf:Tryz.prog.funcs[f]?=some fn) (hb:fn.body=some c) {n:Nat} (hn:fn.ntmps=n) (hd:(decide (al.length≤n) && q8b n c)=true)
  (hi:∀ i b,hin i=some b→win i∧b.st=false∧IdL win b.xs∧∃ b',hout i=some b'∧b'.k=b.k∧b.xs.length≤b'.xs.length) (ho:∀ i b,hout i=some b→win i) (hal:IdL win al)
  (hw:AW Tryz.prog q1r (fun i=>hin i≠none) n c (retM Tryz.prog fn hin x hout) (enP al) hin):qiz f al hin x hout:=quP hc hf hb hn hd hi ho hal hw
end Go.Proofs.YtbcmhlhgljoolaaGreatDoor
namespace Go.E
open Go Go.RowKit
section
variable {w:World} {D:Nat→Prop} {ρ:Nat→Option Nat} {h:Hp} {vs:List Value} {x y z t:PV}
theorem q7q (hr:RdL w D [x] ρ h vs):∃ a,vs=[a]∧Rd w D x ρ h a:=by
 unfold RdL at hr;obtain ⟨a,l,rfl,h1,h2⟩:=hr;unfold RdL at h2;subst h2;exact ⟨a,rfl,h1⟩
theorem q45 (hr:RdL w D [x,y] ρ h vs):∃ a b,vs=[a,b]∧Rd w D x ρ h a∧Rd w D y ρ h b:=by
 unfold RdL at hr;obtain ⟨a,l,rfl,h1,h2⟩:=hr;obtain ⟨b,rfl,h3⟩:=q7q h2;exact ⟨a,b,rfl,h1,h3⟩
theorem rd_3 (hr:RdL w D [x,y,z] ρ h vs):∃ a b c,vs=[a,b,c]∧Rd w D x ρ h a∧Rd w D y ρ h b∧Rd w D z ρ h c:=by
 unfold RdL at hr;obtain ⟨a,l,rfl,h1,h2⟩:=hr;obtain ⟨b,c,rfl,h3,h4⟩:=q45 h2;exact ⟨a,b,c,rfl,h1,h3,h4⟩
theorem rd_4 (hr:RdL w D [x,y,z,t] ρ h vs):∃ a b c d,vs=[a,b,c,d]∧Rd w D x ρ h a∧Rd w D y ρ h b∧Rd w D z ρ h c∧Rd w D t ρ h d:=by
 unfold RdL at hr;obtain ⟨a,l,rfl,h1,h2⟩:=hr;obtain ⟨b,c,d,rfl,h3,h4,h5⟩:=rd_3 h2;exact ⟨a,b,c,d,rfl,h1,h3,h4,h5⟩
theorem q3F {v a:Value} (hr:Rd w D (.vl v) ρ h a):a=v:=by unfold Rd at hr; exact hr
theorem q2p {G:Fam} {a:Value} (hr:Rd w D (.fm G) ρ h a):In G D a w:=by unfold Rd at hr; exact hr
theorem q8t {G:Fam} {a:Value} (hr:In G D a w):Rd w D (.fm G) ρ h a:=by unfold Rd; exact hr
theorem q3E {v:Value}:Rd w D (.vl v) ρ h v:=by unfold Rd; rfl
theorem q5x {α:Type} {f:α→Value} {l:List α} {a:Value} (hr:Rd w D (.sl none (l.map fun x=>.vl (f x))) ρ h a):∃ A n c,a=.slice A n c∧In (fSc f l) D (.slice A n c) w:=by
 unfold Rd at hr;obtain ⟨A,n,c,vs,rfl,h1,h2,h3,h4⟩:=hr;have:vs=l.map f:=by
  obtain ⟨q1,q2⟩:=RdL.iff.1 h3
  apply List.ext_getElem?
  intro i
  rcases Nat.lt_or_ge i l.length with hi | hi
  ·obtain ⟨u,hv⟩:∃ u,vs[i]?=some u:=⟨_,List.getElem?_eq_getElem (by simp at q1; omega)⟩;have:=q2 i (.vl (f l[i])) u (by simp [hi]) hv;rw [hv,q3F this]; simp [hi]
  ·rw [List.getElem?_eq_none (by simp at q1; omega),List.getElem?_eq_none (by simpa using hi)]
 subst this;refine ⟨A,n,c,rfl,A,n,c,rfl,?_⟩;have hf:q0e (l.map f)=l.map f:=by
  have:∀ v ∈ l.map f,v.cells=#[v]:=fun v hv=>(h4 v hv).1;clear h1 h2 h3 h4
  induction l with
  | nil=>rfl
  | cons x l ih =>
   have e:=ih fun v hv=>this v (List.mem_cons_of_mem _ hv);unfold q0e at e ⊢;rw [List.map_cons,List.flatMap_cons,e,this _ List.mem_cons_self]
   rfl
 rw [hf] at h1;exact h1
theorem q8p {α:Type} {f:α→Value} {l:List α} {a:Value} (hf:∀ x,qj2 (f x)) (hr:In (fSc f l) D a w):Rd w D (.sl none (l.map fun x=>.vl (f x))) ρ h a:=by
 obtain ⟨A,n,c,rfl,h1⟩:=hr;unfold Rd;have hfl:q0e (l.map f)=l.map f:=by
  clear h1
  induction l with
  | nil=>rfl
  | cons x l ih =>
   unfold q0e at ih ⊢;rw [List.map_cons,List.flatMap_cons,ih,q2I (hf x).1]
   rfl
 refine ⟨A,n,c,l.map f,rfl,by rw [hfl]; exact h1,by have:=h1.len; simpa [ksz] using this,?_,fun v hv=>?_⟩
 ·have:=q5S (w:=w) (D:=D) (ρ:=fun _=>none) (h:=h0) (l.map f);rw [List.map_map] at this;exact this
 ·obtain ⟨x,_,rfl⟩:=List.mem_map.1 hv;exact ⟨q2I (hf x).1,hf x⟩
end
end Go.E
namespace Go.Proofs.YtbcmhlhgljoolaaGreatDoor
open Go Go.E Go.Sp
theorem fitV {V:Int}:∀ D v w,In (fV V) D v w→q2w (some 4) v:=fun D v w h=>by
 obtain ⟨s,A,n,c,rfl,_⟩:=h;exact ⟨_,rfl,rfl,fun u hu=>by simp at hu; rcases hu with rfl | rfl | rfl | rfl <;> exact ⟨rfl,rfl⟩⟩
theorem fitKV {V:Int} {A:Prop}:q26 (some 4) (pV V) A=A:=qrW fitV
attribute [go_sem] fitKV
theorem qgA {f:FuncId} {al:List PV} {v:Value} (hc:q0C Tryz.prog f=true) (h:∀ (D:Nat→Prop) (w:World) (vs:List Value),q1r w→Fr D w→RdL w D al (fun _=>none) h0 vs→Calls Tryz.prog f vs.toArray w fun x w'=>x=.returned v∧Ext w w'):ACt f al (.vl v) :=
 ⟨hc,fun D w vs hT hF hR=>(h D w vs hT hF hR).mono fun x w' ⟨h1,h2⟩=>⟨v,h1,h2,q3E⟩⟩
theorem ac_x {f:FuncId} {al:List PV} {v:Value} (hc:q0C Tryz.prog f=true) (h:∀ (D:Nat→Prop) (w:World) (vs:List Value),q1r w→Fr D w→RdL w D al (fun _=>none) h0 vs→Calls Tryz.prog f vs.toArray w fun x w'=>x=.returned v∧w=w'):ACt f al (.vl v) :=
 qgA hc fun D w vs hT hF hR=>(h D w vs hT hF hR).mono fun x w' ⟨h1,h2⟩=>⟨h1,by subst h2; exact Kp.refl _ _⟩
theorem q5R {f:FuncId} {al:List PV} {G:Fam} (hc:q0C Tryz.prog f=true) (h:∀ (D:Nat→Prop) (w:World) (vs:List Value),q1r w→Fr D w→RdL w D al (fun _=>none) h0 vs→Calls Tryz.prog f vs.toArray w (Rt G D w)):ACt f al (.fm G) :=
 ⟨hc,fun D w vs hT hF hR=>(h D w vs hT hF hR).mono fun x w' ⟨v,h1,h2,h3⟩=>⟨v,h1,h2,q8t h3⟩⟩
end Go.Proofs.YtbcmhlhgljoolaaGreatDoor
namespace Go.E
open Go Go.RowKit
section
variable {P:Program} {Tb:World→Prop} {J:Nat→Prop} {n:Nat} {Q Q':SQ} {s:Nat→PV} {h:Hp}
theorem qfq {c:Code} (hq:∀ x s h,Q x s h→Q' x s h) (hw:AW P Tb J n c Q s h):AW P Tb J n c Q' s h:=fun D0 w0 ρ e w hT hF S=>q4c (fun x e' w' ⟨s',h',ρ',S',q⟩=>⟨s',h',ρ',S',hq _ _ _ q⟩) (hw D0 w0 ρ e w hT hF S)
theorem A_sq {a b:Code} (hw:AW P Tb J n a (thA (AW P Tb J n b Q) Q) s h):AW P Tb J n (.seq a b) Q s h:=q2t fun K hK=>qfq (fun x s h q=>by cases x <;> first | exact hK _ _ q | exact q) hw
theorem A_sqc {c:Operand} {x y b:Code} (hw:AW P Tb J n (.cond c x y) (thA (AW P Tb J n b Q) Q) s h):AW P Tb J n (.seq (.cond c x y) b) Q s h:=A_sq hw
theorem A_sqb {id:Nat} {a b:Code} (hw:AW P Tb J n (.block id a) (thA (AW P Tb J n b Q) Q) s h):AW P Tb J n (.seq (.block id a) b) Q s h:=A_sq hw
theorem A_sql {a b:Code} (hw:AW P Tb J n (.loop a) (thA (AW P Tb J n b Q) Q) s h):AW P Tb J n (.seq (.loop a) b) Q s h:=A_sq hw
theorem A_sqs {a b c:Code} (hw:AW P Tb J n (.seq a b) (thA (AW P Tb J n c Q) Q) s h):AW P Tb J n (.seq (.seq a b) c) Q s h:=A_sq hw
structure Hid (p:Prop):Prop where
 o:p
theorem A_jn {a b:Code} (hw:∀ K:(Nat→PV)→Hp→Prop,(∀ s h,AW P Tb J n b Q s h→K s h)→AW P Tb J n a (thA K Q) s h):AW P Tb J n a (thA (AW P Tb J n b Q) Q) s h:=hw _ fun _ _ h=>h
theorem x2 {A B:Prop} (a:A) (b:B):A∧B:=⟨a,b⟩
theorem x3 {A B C:Prop} (a:A) (b:B) (c:C):A∧B∧C:=⟨a,b,c⟩
theorem x4 {A B C D:Prop} (a:A) (b:B) (c:C) (d:D):A∧B∧C∧D:=⟨a,b,c,d⟩
theorem x5 {A B C D E:Prop} (a:A) (b:B) (c:C) (d:D) (e:E):A∧B∧C∧D∧E:=⟨a,b,c,d,e⟩
theorem x6 {A B C D E F:Prop} (a:A) (b:B) (c:C) (d:D) (e:E) (f:F):A∧B∧C∧D∧E∧F:=⟨a,b,c,d,e,f⟩
def qd7 (ops:List Oper):List (Nat × Nat) :=
 (List.range ops.length).flatMap fun i=>match ops[i]? with
  | none=>[]
  | some o=>(List.range i).filterMap fun j=>match ops[j]? with
   | none=>none
   | some p=>if ((qmU [] ops).getD i 0).testBit j || harm (cls p) (cls o) then none else some (j,i)
def djB (a b:FP):Bool:=(a.2.all fun x=>!(b.1.any fun y=>Nat.beq x y) && !(b.2.any fun y=>Nat.beq x y)) && b.2.all fun x=>!(a.1.any fun y=>Nat.beq x y)
def chkB (prs:List (Nat × Nat)) (fps:List FP):Bool:=prs.all fun p=>djB (fps.getD p.1 ([],[])) (fps.getD p.2 ([],[]))
theorem nbq {x:Nat} {l:List Nat} (hx:(!(l.any fun y=>Nat.beq x y))=true):x ∉ l:=fun hm=>by
 have:(l.any fun y=>Nat.beq x y)=true:=List.any_eq_true.2 ⟨x,hm,Nat.beq_refl x⟩;rw [this] at hx; cases hx
theorem qnc {prs:List (Nat × Nat)} {fps:List FP} (hc:chkB prs fps=true):chk prs fps:=fun p hp=>by
 have:=List.all_eq_true.1 hc p hp;unfold djB at this;rw [Bool.and_eq_true] at this;refine ⟨fun x hx=>?_,fun x hx=>nbq (List.all_eq_true.1 this.2 x hx)⟩;have q:=List.all_eq_true.1 this.1 x hx;rw [Bool.and_eq_true] at q;exact ⟨nbq q.1,nbq q.2⟩
def cB (l:List Oper) (acc:List FP):Prop:=chkB (qd7 l) acc.reverse=true
theorem qs4 {l:List Oper} {acc:List FP} (hc:chkB (qd7 l) acc.reverse=true):cB l acc:=hc
@[congr] theorem cB_congr {l:List Oper} {acc acc':List FP} (he:acc=acc'):cB l acc=cB l acc':=by rw [he]
theorem qfu {ops:List Oper} {K K':(Nat→PV)→Hp→List FP→Prop} (hk:∀ s h acc,K s h acc→K' s h acc):∀ {l:List Oper} {s:Nat→PV} {h:Hp} {acc:List FP},AL P Tb ops K l s h acc→AL P Tb ops K' l s h acc
 | [],_,_,_,hq=>hk _ _ _ hq
 | _ :: _,_,_,_,⟨x,h',fp,h1,h2⟩=>⟨x,h',fp,h1,qfu hk h2⟩
theorem qkq {id:Nat} {l:List Oper} (hm:P.follows .mixedOrders=true) (hok:qbm l (qmU [] l) (qd7 l)=true) (hw:∀ K:(Nat→PV)→Hp→Prop,(∀ s h,Q .normal s h→K s h)→AL P Tb l (fun s h acc=>cB l acc∧K s h) l s h []):AW P Tb J n (.region id l.toArray true) Q s h :=
 qkp (qd7 l) hm hok fun K hK=>qfu (fun _ _ _ q=>⟨qnc q.1,q.2⟩) (hw K hK)
theorem A_sdd {id:Nat} {l:List Oper} {b:Code} (hm:P.follows .mixedOrders=true) (hok:qbm l (qmU [] l) (qd7 l)=true) (hw:∀ K:(Nat→PV)→Hp→Prop,(∀ s h,AW P Tb J n b Q s h→K s h)→AL P Tb l (fun s h acc=>cB l acc∧K s h) l s h []):AW P Tb J n (.seq (.region id l.toArray true) b) Q s h :=
 q2t fun K hK=>qkq hm hok fun K1 hK1=>hw K1 fun s h hb=>hK1 s h (hK s h hb)
variable {K:(Nat→PV)→Hp→Prop} {i id:Nat}
theorem q_n (hq:K s h):thA K Q .normal s h:=hq
theorem q_r (hq:Q .ret s h):thA K Q .ret s h:=hq
theorem q_e (hq:Q (.exit i) s h):thA K Q (.exit i) s h:=hq
theorem i_n (hq:Q .normal s h):inA id Q .normal s h:=hq
theorem i_r (hq:Q .ret s h):inA id Q .ret s h:=hq
theorem i_e (hq:Q .normal s h):inA id Q (.exit id) s h:=by simpa [inA] using hq
theorem i_o (hi:i≠id) (hq:Q (.exit i) s h):inA id Q (.exit i) s h:=by simpa [inA,hi] using hq
def retQ (P:Program) (rs:List ResultVar) (r:PV):SQ:=fun x s h=>(x=.ret∨x=.normal)∧qlg ((rsL P h s rs).bind (q3e h)) r
theorem qrt {rs:List ResultVar} {r:PV} (hq:qlg ((rsL P h s rs).bind (q3e h)) r):retQ P rs r .ret s h:=⟨.inl rfl,hq⟩
theorem qrn {rs:List ResultVar} {r:PV} (hq:qlg ((rsL P h s rs).bind (q3e h)) r):retQ P rs r .normal s h:=⟨.inr rfl,hq⟩
section
variable {a b:Int}
theorem d_lt {i:Decidable (a < b)} (h:a < b):@decide _ i=true:=decide_eq_true h
theorem qrx {i:Decidable (a < b)} (h:¬ a < b):@decide _ i=false:=decide_eq_false h
theorem d_le {i:Decidable (a≤b)} (h:a≤b):@decide _ i=true:=decide_eq_true h
theorem qry {i:Decidable (a≤b)} (h:¬ a≤b):@decide _ i=false:=decide_eq_false h
theorem b_t (h:a=b):(a == b)=true:=by simpa using h
theorem b_f (h:a≠b):(a == b)=false:=by simpa using h
theorem n_t (h:a≠b):(a != b)=true:=by simpa using h
theorem n_f (h:a=b):(a != b)=false:=by simpa using h
variable {p:Prop} {i:Decidable p} {x y:PV}
theorem qcA (h:p):some (@decide p i)=some true:=by rw [decide_eq_true h]
theorem qcB (h:¬ p):some (@decide p i)=some false:=by rw [decide_eq_false h]
theorem qcF (h:a=b):some (a == b)=some true:=by rw [b_t h]
theorem qcG (h:a≠b):some (a == b)=some false:=by rw [b_f h]
theorem qcC (h:a≠b):some (a != b)=some true:=by rw [n_t h]
theorem qcD (h:a=b):some (a != b)=some false:=by rw [n_f h]
theorem q4j (h:p):pkP (.vl (.bool (@decide p i))) x y=some x:=by rw [decide_eq_true h]; rfl
theorem q4k (h:¬ p):pkP (.vl (.bool (@decide p i))) x y=some y:=by rw [decide_eq_false h]; rfl
theorem q4l (h:a=b):pkP (.vl (.bool (a == b))) x y=some x:=by rw [b_t h]; rfl
theorem q4m (h:a≠b):pkP (.vl (.bool (a == b))) x y=some y:=by rw [b_f h]; rfl
theorem q4h (h:a≠b):pkP (.vl (.bool (a != b))) x y=some x:=by rw [n_t h]; rfl
theorem q4i (h:a=b):pkP (.vl (.bool (a != b))) x y=some y:=by rw [n_f h]; rfl
end
end
end Go.E
namespace Go.Proofs.YtbcmhlhgljoolaaGreatDoor
open Go Go.E Go.Sp
theorem ac0 {f:FuncId} {fn:Func} {c:Code} {al:List PV} {r:PV} {n:Nat} (hf:Tryz.prog.funcs[f]?=some fn) (hn:fn.ntmps=n) (rs:List ResultVar) (hw:AW Tryz.prog q1r (fun _=>False) n c (retQ Tryz.prog rs r) (enP al) h0)
  (hb:fn.body=some c:=by rfl) (hr:fn.results.toList=rs:=by rfl) (hl:(decide (rs.length≤4))=true:=by rfl) (hd:(decide (al.length≤n) && q8b n c)=true:=by kernel_rfl) (hc:q0C Tryz.prog f=true:=by kernel_rfl):ACt f al r :=
 act hc hf hb hn hd (qfq (fun x s h q=>rt hr hl q.2 q.1) hw)
theorem wk1 {G p q:Prop} (g:G) (k:q) (e:G→Hid q→p:=by
 intro g k
 repeat (first
  | (refine qfn fun K hK=>?_; simp -implicitDefEqProofs (maxSteps:=50000) (disch:=omega) only [go_sem,Nat.reduceEqDiff,Nat.reduceAdd,↓reduceIte,i64_in,Bool.not_true,Bool.not_false,List.length_range,Nat.zero_add,Int.reduceLT,Int.reduceEq,Int.natAbs_natCast,Bool.true_and,Bool.false_and,Bool.and_true,Bool.and_false,qcA,qcB,qcF,qcG,qcC,qcD,q4j,q4k,q4l,q4m,q4h,q4i,g]; (repeat ((first | (apply q2C; focus (first | with_reducible assumption | (apply_assumption -exfalso -symm <;> first | assumption | omega | rfl | exact negN.symm | (simp only [Int.natAbs_natCast]; omega) | (apply_assumption -exfalso -symm <;> first | assumption | omega)))) | (apply q4B; (focus with_reducible assumption); (focus with_reducible assumption))); try simp -implicitDefEqProofs (maxSteps:=50000) (disch:=omega) only [go_sem,Nat.reduceEqDiff,Nat.reduceAdd,↓reduceIte,i64_in,Bool.not_true,Bool.not_false,List.length_range,Nat.zero_add,Int.reduceLT,Int.reduceEq,Int.natAbs_natCast,Bool.true_and,Bool.false_and,Bool.and_true,Bool.and_false,qcA,qcB,qcF,qcG,qcC,qcD,q4j,q4k,q4l,q4m,q4h,q4i,g])); refine hK _ _ ?_; clear hK K)
  | (refine A_sdd q0j (by kernel_rfl) fun K hK=>?_; simp -implicitDefEqProofs (maxSteps:=50000) (disch:=omega) only [go_sem,Nat.reduceEqDiff,Nat.reduceAdd,↓reduceIte,i64_in,Bool.not_true,Bool.not_false,List.length_range,Nat.zero_add,Int.reduceLT,Int.reduceEq,Int.natAbs_natCast,Bool.true_and,Bool.false_and,Bool.and_true,Bool.and_false,qcA,qcB,qcF,qcG,qcC,qcD,q4j,q4k,q4l,q4m,q4h,q4i,g]; (repeat ((first | (apply q2C; focus (first | with_reducible assumption | (apply_assumption -exfalso -symm <;> first | assumption | omega | rfl | exact negN.symm | (simp only [Int.natAbs_natCast]; omega) | (apply_assumption -exfalso -symm <;> first | assumption | omega)))) | (apply q4B; (focus with_reducible assumption); (focus with_reducible assumption))); try simp -implicitDefEqProofs (maxSteps:=50000) (disch:=omega) only [go_sem,Nat.reduceEqDiff,Nat.reduceAdd,↓reduceIte,i64_in,Bool.not_true,Bool.not_false,List.length_range,Nat.zero_add,Int.reduceLT,Int.reduceEq,Int.natAbs_natCast,Bool.true_and,Bool.false_and,Bool.and_true,Bool.and_false,qcA,qcB,qcF,qcG,qcC,qcD,q4j,q4k,q4l,q4m,q4h,q4i,g])); refine ⟨qs4 (by kernel_rfl),hK _ _ ?_⟩; clear hK K)
  | (refine q86 fun K hK=>?_; simp -implicitDefEqProofs (maxSteps:=50000) (disch:=omega) only [go_sem,Nat.reduceEqDiff,Nat.reduceAdd,↓reduceIte,i64_in,Bool.not_true,Bool.not_false,List.length_range,Nat.zero_add,Int.reduceLT,Int.reduceEq,Int.natAbs_natCast,Bool.true_and,Bool.false_and,Bool.and_true,Bool.and_false,qcA,qcB,qcF,qcG,qcC,qcD,q4j,q4k,q4l,q4m,q4h,q4i,g]; (repeat ((first | (apply q2C; focus (first | with_reducible assumption | (apply_assumption -exfalso -symm <;> first | assumption | omega | rfl | exact negN.symm | (simp only [Int.natAbs_natCast]; omega) | (apply_assumption -exfalso -symm <;> first | assumption | omega)))) | (apply q4B; (focus with_reducible assumption); (focus with_reducible assumption))); try simp -implicitDefEqProofs (maxSteps:=50000) (disch:=omega) only [go_sem,Nat.reduceEqDiff,Nat.reduceAdd,↓reduceIte,i64_in,Bool.not_true,Bool.not_false,List.length_range,Nat.zero_add,Int.reduceLT,Int.reduceEq,Int.natAbs_natCast,Bool.true_and,Bool.false_and,Bool.and_true,Bool.and_false,qcA,qcB,qcF,qcG,qcC,qcD,q4j,q4k,q4l,q4m,q4h,q4i,g])); refine hK _ _ ?_; clear hK K)
  | (refine qkq q0j (by kernel_rfl) fun K hK=>?_; simp -implicitDefEqProofs (maxSteps:=50000) (disch:=omega) only [go_sem,Nat.reduceEqDiff,Nat.reduceAdd,↓reduceIte,i64_in,Bool.not_true,Bool.not_false,List.length_range,Nat.zero_add,Int.reduceLT,Int.reduceEq,Int.natAbs_natCast,Bool.true_and,Bool.false_and,Bool.and_true,Bool.and_false,qcA,qcB,qcF,qcG,qcC,qcD,q4j,q4k,q4l,q4m,q4h,q4i,g]; (repeat ((first | (apply q2C; focus (first | with_reducible assumption | (apply_assumption -exfalso -symm <;> first | assumption | omega | rfl | exact negN.symm | (simp only [Int.natAbs_natCast]; omega) | (apply_assumption -exfalso -symm <;> first | assumption | omega)))) | (apply q4B; (focus with_reducible assumption); (focus with_reducible assumption))); try simp -implicitDefEqProofs (maxSteps:=50000) (disch:=omega) only [go_sem,Nat.reduceEqDiff,Nat.reduceAdd,↓reduceIte,i64_in,Bool.not_true,Bool.not_false,List.length_range,Nat.zero_add,Int.reduceLT,Int.reduceEq,Int.natAbs_natCast,Bool.true_and,Bool.false_and,Bool.and_true,Bool.and_false,qcA,qcB,qcF,qcG,qcC,qcD,q4j,q4k,q4l,q4m,q4h,q4i,g])); refine ⟨qs4 (by kernel_rfl),hK _ _ ?_⟩; clear hK K)
  | refine A_sqc ?_
  | refine A_sqb ?_
  | refine A_sql ?_
  | refine A_sqs ?_
  | refine q74 ?_
  | (refine A_t ?_ ?_; focus (simp -implicitDefEqProofs (disch:=omega) only [go_sem,Nat.reduceEqDiff,↓reduceIte,Bool.not_true,Bool.not_false,d_lt,qrx,d_le,qry,b_t,b_f,n_t,n_f,g]; done))
  | (refine A_f ?_ ?_; focus (simp -implicitDefEqProofs (disch:=omega) only [go_sem,Nat.reduceEqDiff,↓reduceIte,Bool.not_true,Bool.not_false,d_lt,qrx,d_le,qry,b_t,b_f,n_t,n_f,g]; done))
  | refine q73 ?_
  | refine qfs ?_
  | refine qfo ?_
  | refine q_n ?_
  | refine q_r ?_
  | refine q_e ?_
  | refine i_n ?_
  | refine i_r ?_
  | refine i_e ?_
  | refine i_o (by decide) ?_
  | (have t:True:=k.o; refine qrt ?_; simp -implicitDefEqProofs (maxSteps:=50000) (disch:=omega) only [go_sem,Nat.reduceEqDiff,Nat.reduceAdd,↓reduceIte,i64_in,Bool.not_true,Bool.not_false,List.length_range,Nat.zero_add,Int.reduceLT,Int.reduceEq,Int.natAbs_natCast,Bool.true_and,Bool.false_and,Bool.and_true,Bool.and_false,qcA,qcB,qcF,qcG,qcC,qcD,q4j,q4k,q4l,q4m,q4h,q4i,g]; done)
  | (refine qrt ?_; simp -implicitDefEqProofs (maxSteps:=50000) (disch:=omega) only [go_sem,Nat.reduceEqDiff,Nat.reduceAdd,↓reduceIte,i64_in,Bool.not_true,Bool.not_false,List.length_range,Nat.zero_add,Int.reduceLT,Int.reduceEq,Int.natAbs_natCast,Bool.true_and,Bool.false_and,Bool.and_true,Bool.and_false,qcA,qcB,qcF,qcG,qcC,qcD,q4j,q4k,q4l,q4m,q4h,q4i,g]; exact k.o)
  | (have t:True:=k.o; refine qrn ?_; simp -implicitDefEqProofs (maxSteps:=50000) (disch:=omega) only [go_sem,Nat.reduceEqDiff,Nat.reduceAdd,↓reduceIte,i64_in,Bool.not_true,Bool.not_false,List.length_range,Nat.zero_add,Int.reduceLT,Int.reduceEq,Int.natAbs_natCast,Bool.true_and,Bool.false_and,Bool.and_true,Bool.and_false,qcA,qcB,qcF,qcG,qcC,qcD,q4j,q4k,q4l,q4m,q4h,q4i,g]; done)
  | (refine qrn ?_; simp -implicitDefEqProofs (maxSteps:=50000) (disch:=omega) only [go_sem,Nat.reduceEqDiff,Nat.reduceAdd,↓reduceIte,i64_in,Bool.not_true,Bool.not_false,List.length_range,Nat.zero_add,Int.reduceLT,Int.reduceEq,Int.natAbs_natCast,Bool.true_and,Bool.false_and,Bool.and_true,Bool.and_false,qcA,qcB,qcF,qcG,qcC,qcD,q4j,q4k,q4l,q4m,q4h,q4i,g]; exact k.o))
 first | done | exact k.o):p:=e g ⟨k⟩
theorem wk {p q:Prop} (k:q) (e:Hid q→p:=by intro k; exact wk1 @Nat.zero_add k.o):p:=e ⟨k⟩
def fL (z:Int):Fam:=⟨fun D v w=>∃ A n c,v=.slice A n c∧U32 w D A n c (lim z.natAbs),fun k ⟨A,n,c,e,h⟩=>⟨A,n,c,e,h.kp k⟩,fun k ⟨A,n,c,e,h⟩=>⟨A,n,c,e,h.sub k⟩⟩
theorem fitLz {z:Int}:∀ D v w,In (fL z) D v w→q2w none v:=fun D v w h=>by
 obtain ⟨A,n,c,rfl,_⟩:=h;exact ⟨rfl,rfl,rfl⟩
theorem qrV {z:Int} {A:Prop}:q26 none (.fm (fL z)) A=A:=by simp only [q26,q7F,qeb]; exact propext ⟨fun h=>h.2,fun h=>⟨fitLz,h⟩⟩
abbrev bT (z:Int):PV:=.ag [bv (decide (z < 0)),.fm (fL z)]
abbrev dT (V:Int):PV:=.ag [bv false,bv (decide (od V < 0)),.fm (fL (od V)),iv (dyE V)]
section
variable {w:World} {D:Nat→Prop} {ρ:Nat→Option Nat} {h:Hp} {v:Value} {z V:Int}
theorem q0o:Rd w D (bT z) ρ h v ↔ In (fB z) D v w:=by
 unfold bT
 constructor
 ·intro hr;unfold Rd at hr;obtain ⟨vs,rfl,h1⟩:=hr;obtain ⟨a,b,rfl,h2,h3⟩:=q45 h1;rw [q3F h2];obtain ⟨A,n,c,rfl,h4⟩:=q2p h3;exact ⟨_,A,n,c,rfl,rfl,h4⟩
 ·rintro ⟨s,A,n,c,rfl,h1,h2⟩;subst h1;unfold Rd;refine ⟨_,rfl,?_⟩;unfold RdL;refine ⟨_,_,rfl,q3E,?_⟩;unfold RdL;exact ⟨_,_,rfl,q8t ⟨A,n,c,rfl,h2⟩,by unfold RdL; rfl⟩
theorem q3p:Rd w D (dT V) ρ h v∧q1K V ↔ In (fV V) D v w:=by
 unfold dT
 constructor
 ·rintro ⟨hr,ho⟩;unfold Rd at hr;obtain ⟨vs,rfl,h1⟩:=hr;obtain ⟨a,b,c,d,rfl,h2,h3,h4,h5⟩:=rd_4 h1;rw [q3F h2,q3F h3,q3F h5];obtain ⟨A,n,c,rfl,h6⟩:=q2p h4;exact ⟨_,A,n,c,rfl,⟨rfl,h6⟩,ho⟩
 ·rintro ⟨s,A,n,c,rfl,⟨h1,h2⟩,ho⟩;subst h1;refine ⟨?_,ho⟩;unfold Rd;refine ⟨_,rfl,?_⟩;unfold RdL;refine ⟨_,_,rfl,q3E,?_⟩;unfold RdL;refine ⟨_,_,rfl,q3E,?_⟩;unfold RdL;refine ⟨_,_,rfl,q8t ⟨A,n,c,rfl,h2⟩,?_⟩;unfold RdL;exact ⟨_,_,rfl,q3E,by unfold RdL; rfl⟩
end
theorem q82 {f:FuncId} {al al':List PV} {r:PV} {p:Prop} (hc:q0C Tryz.prog f=true) (h:∀ (D:Nat→Prop) (w:World) (vs:List Value),RdL w D al (fun _=>none) h0 vs→RdL w D al' (fun _=>none) h0 vs∧p) (ha:p→ACt f al' r):ACt f al r :=
 ⟨hc,fun D w vs hT hF hR=>(ha (h D w vs hR).2).2 D w vs hT hF (h D w vs hR).1⟩
theorem q1L {f:FuncId} {al:List PV} {r r':PV} (h:∀ (D:Nat→Prop) (w:World) (v:Value),Rd w D r (fun _=>none) h0 v→Rd w D r' (fun _=>none) h0 v) (ha:ACt f al r):ACt f al r' :=
 ⟨ha.1,fun D w vs hT hF hR=>(ha.2 D w vs hT hF hR).mono fun x w' ⟨v,h1,h2,h3⟩=>⟨v,h1,h2,h _ _ _ h3⟩⟩
theorem qtY {f:FuncId} {V:Int} {r:PV} (hc:q0C Tryz.prog f=true) (ha:q1K V→ACt f [dT V] r):ACt f [pV V] r:=q82 hc (fun D w vs hR=>by
 obtain ⟨a,rfl,h1⟩:=q7q hR;obtain ⟨h2,h3⟩:=q3p.2 (q2p h1);exact ⟨RdL.one h2,h3⟩) ha
theorem nfL {τ:Nat→Option Nat} {h h':Hp} {z:Int} (hz:z=0):LeV τ h h' q5y (.fm (fL z))=True:=eq_true (.nilfm fun D w=>by subst hz; exact ⟨none,0,0,rfl,U32.nil⟩)
theorem negN {n:Nat}:decide ((n:Int) < 0)=false:=decide_eq_false (by omega)
theorem ldU_5 {a b c d e:PV}:ldU (some 5) (some 2) 1 (.ag [a,b,c,d,e])=some (.ag [b,c]):=by simp [ldU]
attribute [go_sem] qrV nfL negN ldU_5
section
variable {f:FuncId} {a b z m:Int} {c:Value} {s t:Bool}
abbrev sT (s:Bool) (z:Int):PV:=.ag [bv s,.fm (fL z)]
theorem B0 (h:∀ (D:Nat→Prop) (w:World),Fr D w→Calls Tryz.prog f #[.int .i64 m] w (Rt (fB z) D w)) (hc:q0C Tryz.prog f=true:=by kernel_rfl):ACt f [iv m] (bT z):=q1L (r:=.fm (fB z)) (fun D w v h=>q0o.2 (q2p h)) (q5R hc fun D w vs hT hF hR=>by
 obtain ⟨_,rfl,h3⟩:=q7q hR;rw [q3F h3];exact h D w hF)
theorem B1 (hs:s=decide (a < 0)) (h:∀ (D:Nat→Prop) (w:World) (v:Value),In (fB a) D v w→Fr D w→Calls Tryz.prog f #[v] w (Rt (fB z) D w)) (hc:q0C Tryz.prog f=true:=by kernel_rfl):ACt f [sT s a] (bT z):=hs ▸ q1L (r:=.fm (fB z)) (fun D w v h=>q0o.2 (q2p h)) (q5R hc fun D w vs hT hF hR=>by
 obtain ⟨_,rfl,h3⟩:=q7q hR;exact h D w _ (q0o.1 h3) hF)
theorem B2 (hs:s=decide (a < 0)) (ht:t=decide (b < 0)) (h:∀ (D:Nat→Prop) (w:World) (v u:Value),In (fB a) D v w→In (fB b) D u w→Fr D w→Calls Tryz.prog f #[v,u] w (Rt (fB z) D w)) (hc:q0C Tryz.prog f=true:=by kernel_rfl):ACt f [sT s a,sT t b] (bT z):=hs ▸ ht ▸ q1L (r:=.fm (fB z)) (fun D w v h=>q0o.2 (q2p h)) (q5R hc fun D w vs hT hF hR=>by
 obtain ⟨_,_,rfl,h3,h4⟩:=q45 hR;exact h D w _ _ (q0o.1 h3) (q0o.1 h4) hF)
theorem B1c (hs:s=decide (a < 0)) (h:∀ (D:Nat→Prop) (w:World) (v:Value),q1r w→In (fB a) D v w→Fr D w→Calls Tryz.prog f #[v] w fun e w'=>e=.returned c∧Ext w w') (hc:q0C Tryz.prog f=true:=by kernel_rfl):ACt f [sT s a] (.vl c):=hs ▸ qgA hc fun D w vs hT hF hR=>by
 obtain ⟨_,rfl,h3⟩:=q7q hR;exact h D w _ hT (q0o.1 h3) hF
theorem B2c (hs:s=decide (a < 0)) (ht:t=decide (b < 0)) (h:∀ (D:Nat→Prop) (w:World) (v u:Value),In (fB a) D v w→In (fB b) D u w→Calls Tryz.prog f #[v,u] w fun e w'=>e=.returned c∧Ext w w') (hc:q0C Tryz.prog f=true:=by kernel_rfl):ACt f [sT s a,sT t b] (.vl c):=hs ▸ ht ▸ qgA hc fun D w vs hT hF hR=>by
 obtain ⟨_,_,rfl,h3,h4⟩:=q45 hR;exact h D w _ _ (q0o.1 h3) (q0o.1 h4)
theorem qhW (hs:s=decide (a < 0)) (ha:bl a.natAbs≤20000000):ACt 235 [sT s a] (bT a):=B1 hs fun _ _ _ h hf=>qmb h ha hf
theorem q9I (hs:s=decide (a < 0)) (ha:bl a.natAbs≤20000000):ACt 131 [sT s a] (bT (-a)):=B1 hs fun _ _ _ h hf=>qrF h ha hf
theorem qeI (hs:s=decide (a < 0)) (ha:bl a.natAbs≤20000000):ACt 187 [sT s a] (bT a.natAbs):=B1 hs fun _ _ _ h hf=>qrK h ha hf
theorem q3a (h1 : -9223372036854775808≤z) (h2:z≤9223372036854775807):ACt 129 [iv z] (bT z):=B0 fun _ _ hf=>qbc h1 h2 hf
theorem qeH (hs:s=decide (a < 0)) (ht:t=decide (b < 0)) (ha:bl a.natAbs≤19000000) (hb:bl b.natAbs≤19000000):ACt 195 [sT s a,sT t b] (bT (a+b)):=B2 hs ht fun _ _ _ _ h h' hf=>qrJ h h' ha hb hf
theorem qma (hs:s=decide (a < 0)) (ht:t=decide (b < 0)) (ha:bl a.natAbs≤19000000) (hb:bl b.natAbs≤19000000):ACt 259 [sT s a,sT t b] (bT (a-b)):=B2 hs ht fun _ _ _ _ h h' hf=>qrE h h' ha hb hf
theorem qmd (hs:s=decide (a < 0)) (ht:t=decide (b < 0)) (ha:bl a.natAbs≤9000000) (hb:bl b.natAbs≤9000000):ACt 199 [sT s a,sT t b] (bT (a*b)):=B2 hs ht fun _ _ _ _ h h' hf=>qrG h h' ha hb hf
theorem q3u (hs:s=decide (a < 0)) (ha:bl a.natAbs≤20000000):ACt 176 [sT s a] (iv a.sign):=B1c hs fun _ _ _ _ h _=>q9H h ha
theorem q3X (hs:s=decide (a < 0)) (ha:bl a.natAbs≤20000000):ACt 191 [sT s a] (iv (bl a.natAbs:Nat)):=B1c hs fun _ _ _ _ h _=>qeF h ha
theorem qjk (hs:s=decide (a < 0)) (ha:bl a.natAbs≤20000000):ACt 236 [sT s a] (iv (tz a.natAbs:Nat)):=B1c hs fun _ _ _ hT h _=>iTZ_v hT h ha
theorem qmf (hs:s=decide (a < 0)) (ht:t=decide (b < 0)) (ha:bl a.natAbs≤19000000) (hb:bl b.natAbs≤19000000):ACt 260 [sT s a,sT t b] (iv (a-b).sign):=B2c hs ht fun _ _ _ _ h h'=>qrI h h' ha hb
theorem q8F (hs:s=decide (a < 0)) (ha:bl a.natAbs≤10000000) (h1 : -1048576≤m) (h2:m≤1048576):ACt 245 [sT s a,iv m] (.tu [bT (shI a m),iv 0]):=hs ▸ q1L (r:=.fm (fP (fB (shI a m)) (fc (.int .i64 0)))) (fun D w v h=>by
 obtain ⟨p,q,rfl,h1,rfl⟩:=q2p h;unfold Rd;refine ⟨_,rfl,?_⟩;unfold RdL;exact ⟨_,_,rfl,q0o.2 h1,RdL.one q3E⟩) (q5R (by kernel_rfl) fun D w vs hT hF hR=>by
 obtain ⟨_,_,rfl,h3,h4⟩:=q45 hR;rw [q3F h4];exact qhV (q0o.1 h3) ha h1 h2 hF)
theorem qbd {x y:Nat} (hs:s=decide ((x:Int) < 0)) (ht:t=decide ((y:Int) < 0)) (hb:bl x≤20000000) (hd0:y≠0) (hby:bl y≤20000000):ACt 192 [sT s x,sT t y] (.tu [bT (x / y:Nat),bT (x % y:Nat),iv 0]):=by
 subst hs ht;exact q1L (r:=.fm (fP3 (fB (x / y:Nat)) (fB (x % y:Nat)) (fc (.int .i64 0)))) (fun D w v h=>by
  obtain ⟨p,q,r,rfl,h1,h2,rfl⟩:=q2p h;unfold Rd;refine ⟨_,rfl,?_⟩;unfold RdL;refine ⟨_,_,rfl,q0o.2 h1,?_⟩;unfold RdL;exact ⟨_,_,rfl,q0o.2 h2,RdL.one q3E⟩) (q5R (by kernel_rfl) fun D w vs hT hF hR=>by
  obtain ⟨_,_,rfl,h3,h4⟩:=q45 hR;exact qbe (q0o.1 h3) (q0o.1 h4) hb hd0 hby hF)
end
section
variable {a b z m:Int} {s t:Bool}
theorem qac (hs:s=decide (a < 0)) (ha:bl a.natAbs≤20000000):ACt 148 [sT s a] (iv a.sign):=B1c hs fun _ _ _ _ h hf=>q8u h ha hf
theorem qrr (hs:s=decide (a < 0)) (ha:bl a.natAbs≤20000000):ACt 158 [sT s a] (iv (tz a.natAbs:Nat)):=B1c hs fun _ _ _ hT h _=>qqT hT h ha
theorem qep (hs:s=decide (a < 0)) (ht:t=decide (b < 0)) (ha:bl a.natAbs≤20000000) (hb:bl b.natAbs≤20000000):ACt 153 [sT s a,sT t b] (bT (a+b)):=B2 hs ht fun _ _ _ _ h h' hf=>qjW h h' ha hb hf
theorem qen (h1 : -9223372036854775808≤z) (h2:z≤9223372036854775807):ACt 150 [iv z] (bT z):=B0 fun _ _ hf=>q4T h1 h2 hf
theorem qiK {n:Nat} (hs:s=decide (a < 0)) (ha:bl a.natAbs≤20000000) (hn:n≤1000000000):ACt 251 [sT s a,iv n] (bv (decide (a.natAbs % 2 ^ n≠0))):=hs ▸ qgA (by kernel_rfl) fun D w vs hT hF hR=>by
 obtain ⟨_,_,rfl,h3,h4⟩:=q45 hR;rw [q3F h4];exact qls (q0o.1 h3) ha (by omega) hF
theorem q8O (hs:s=decide (a < 0)) (ha:bl a.natAbs≤20000000) (h1 : -1000000000≤m) (h2:m≤1000000000):ACt 154 [sT s a,iv m] (bT (shI a m)):=hs ▸ q1L (r:=.fm (fB (shI a m))) (fun D w v h=>q0o.2 (q2p h)) (q5R (by kernel_rfl) fun D w vs hT hF hR=>by
 obtain ⟨_,_,rfl,h3,h4⟩:=q45 hR;rw [q3F h4];exact q5C (q0o.1 h3) ha h1 h2 hF)
theorem qiM {N:Nat} (hs:s=decide (a < 0)) (ha:bl a.natAbs≤20000000) (hn:N≤1048576):ACt 159 [sT s a,iv N] (bT (shI a (-(N:Int)))):=by
 have C1:=@q8O;refine ac0 Tryz.func159 Tryz.ntmps159 [.cell 4 72] ?_;refine wk ?_;refine q0K (fun _:Unit=>True) [1,2,4] [2,4] Lk Lk (fun _=>[]) (fun _=>[]) (fun _=>0) () trivial ?_ ?_
 ·refine LeM [] rfl rfl ?_;exact Zy
 ·intro _ _;exact wk1 @Int.zero_sub trivial
end
theorem qrq {neg odd:Bool} {half mode:Int}:ACt 252 [bv neg,iv half,bv odd,iv mode] (bv (upS mode neg half odd)):=by
 unfold upS;refine ac0 Tryz.func252 Tryz.ntmps252 [.tmp 8] ?_
 by_cases m1:mode=1
 ·rw [if_pos m1];exact wk trivial
 rw [if_neg m1]
 by_cases m2:mode=2
 ·rw [if_pos m2];exact wk trivial
 rw [if_neg m2]
 by_cases m3:mode=3
 ·rw [if_pos m3];exact wk trivial
 rw [if_neg m3]
 by_cases h1:0 < half
 ·rw [decide_eq_true h1,Bool.true_or];exact wk trivial
 rw [decide_eq_false h1,Bool.false_or]
 by_cases h2:half=0
 ·rw [decide_eq_true h2,Bool.true_and];exact wk trivial
 ·rw [decide_eq_false h2,Bool.false_and];exact wk trivial
theorem qnQ {N M k:Nat} {neg more s:Bool} {mode:Int} (hs:s=decide (((N / M:Nat):Int) < 0)) (hM:0 < M) (hm:more=decide (N % M≠0)) (hk:more=true→0 < k) (hb:bl (N / M)≤1000000) (hkb:k≤1000000) :
  ACt 210 [bv neg,sT s (N / M:Nat),iv k,bv more,iv mode] (bT (rq mode neg N (M*2 ^ k):Nat)):=by
 obtain rfl:s=false:=hs.trans negN;have hrq:=qqH (mode:=mode) (neg:=neg) (k:=k) hM (fun h=>hk (by rw [hm]; simpa using h));have C1:=@qiM;have C2:=@qiK;have C3:=@qrr;have C4:=@qac;have C5:=@qrq;have C6:=@qen;have C7:=@qep;have hb2:bl (1:Int).natAbs≤1:=by show bl 1≤_; rw [q5r]; omega
 rw [hrq];have hH:qbf N M k=if 0 < k∧N / M / 2 ^ (k-1) % 2=1 then (if N % M≠0∨N / M % 2 ^ (k-1)≠0 then 1 else 0) else -1:=rfl
 generalize N / M=m at *;have hbq:bl (m / 2 ^ k)≤1000000:=Nat.le_trans (q0b (Nat.div_le_self _ _)) hb;have hbb:bl (m / 2 ^ (k-1))≤1000000:=Nat.le_trans (q0b (Nat.div_le_self _ _)) hb;have f1:=qcq m k;have f2:=qcq m (k-1);generalize qbf N M k=H at *;generalize hz:m % 2 ^ k=r at *;generalize m / 2 ^ k=q at *;generalize hb1:m / 2 ^ (k-1)=b at *;refine ac0 Tryz.func210 Tryz.ntmps210 [.cell 10 72] ?_
 by_cases hex:r=0∧more=false
 ·obtain ⟨hr,hmo⟩:=hex;have hnm:N % M=0:=by rw [hmo] at hm; simpa using hm.symm
  have q1:decide (r≠0)=false:=by simp [hr]
  rw [if_neg (by rw [hr,hnm]; simp),Nat.add_zero];exact wk1 (x4 f1 hz q1 hmo) trivial
 ·have hnex:r≠0∨N % M≠0:=by
   by_cases h0:N % M=0
   ·left; intro h1; exact hex ⟨h1,by rw [hm,h0]; rfl⟩
   ·exact .inr h0
  refine wk1 (x2 f1 hz) ?_;refine A_jn fun K hK=>?_;have fin0:∀ (s:Nat→PV) (h:Hp),s 0=bv neg→s 2=iv k→s 3=bv more→s 4=iv mode→s 6=.pt 6 0 0→s 10=.pt 10 0 0→s 11=.pt 11 0 0→h 6=some ⟨72,some 2,[.ag [bv false,.fm (fL m)]],false⟩→h 10=some ⟨72,some 2,[.ag [bv false,q5y]],false⟩→h 11=some ⟨72,some 2,[bT q],false⟩→h 14=none→K s h:=by
   intro s h s0 s2 s3 s4 s6 s10 s11 h6 h10 h11 h14;refine hK _ _ ?_; clear hK K;refine wk1 s2 ?_;refine A_jn fun K hK=>?_;have fin1:∀ (s:Nat→PV) (h:Hp),s 0=bv neg→s 4=iv mode→s 10=.pt 10 0 0→s 11=.pt 11 0 0→s 13=iv H→h 10=some ⟨72,some 2,[.ag [bv false,q5y]],false⟩→h 11=some ⟨72,some 2,[bT q],false⟩→K s h:=by
    clear s0 s2 s3 s4 s6 s10 s11 h6 h10 h11 h14;intro s h s0 s4 s10 s11 s13 h10 h11;refine hK _ _ ?_; clear hK K;have e2:((q+1:Nat):Int)=(q:Int)+1:=rfl;have hbz:bl ((q:Int)+1).natAbs≤1000001:=q3O (k:=1000000) (a:=q) (b:=1) (by omega) (by rw [q5r]; omega);obtain ⟨o,ho⟩:∃ o,o=decide (q % 2=1):=⟨_,rfl⟩;rw [← ho];have hq:(q=0∧o=false)∨(q≠0∧(((tz q:Nat):Int) == 0)=o):=by
     by_cases hq0:q=0
     ·exact .inl ⟨hq0,by rw [ho,hq0]; rfl⟩
     ·refine .inr ⟨hq0,?_⟩;rw [q8W,ho];exact decide_eq_decide.2 ⟨fun h=>q38.1 ⟨h,hq0⟩,fun h=>(q38.2 h).1⟩
    by_cases hu:upS mode neg H o=true
    ·rw [if_pos ⟨hnex,hu⟩]
     rcases hq with ⟨h0,h1⟩ | ⟨h0,h1⟩
     ·have q1:(((q:Nat):Int).sign != 0)=false:=by rw [h0]; rfl
      subst h1;exact wk1 (x6 s0 s4 s10 s11 s13 (x5 h10 h11 q1 hu e2)) trivial
     ·have q1:(((q:Nat):Int).sign != 0)=true:=by rw [Int.sign_eq_one_of_pos (by omega)]; rfl
      exact wk1 (x6 s0 s4 s10 s11 s13 (x6 h10 h11 q1 h1 hu e2)) trivial
    ·rw [if_neg fun h=>hu h.2,Nat.add_zero];rw [Bool.not_eq_true] at hu
     rcases hq with ⟨h0,h1⟩ | ⟨h0,h1⟩
     ·have q1:(((q:Nat):Int).sign != 0)=false:=by rw [h0]; rfl
      subst h1;exact wk1 (x6 s0 s4 s10 s11 s13 (x4 h10 h11 q1 hu)) trivial
     ·have q1:(((q:Nat):Int).sign != 0)=true:=by rw [Int.sign_eq_one_of_pos (by omega)]; rfl
      exact wk1 (x6 s0 s4 s10 s11 s13 (x5 h10 h11 q1 h1 hu)) trivial
   by_cases hk0:0 < k
   ·have e1:(k:Int)-1=((k-1:Nat):Int):=by omega
    by_cases ho:b % 2=1
    ·have q2:(((tz b:Nat):Int) == 0)=true:=by rw [q9f ho]; rfl
     have q3:(((b:Nat):Int).sign != 0)=true:=by rw [Int.sign_eq_one_of_pos (by omega)]; rfl
     rw [if_pos ⟨hk0,ho⟩] at hH
     by_cases hmo:more=true
     ·rw [if_pos (.inl (by rw [hmo] at hm; simpa using hm.symm))] at hH;refine wk1 (x6 s0 s2 s3 s4 s6 (x6 s10 s11 h6 h10 h11 (x6 h14 e1 f2 q2 q3 hmo))) ?_;refine fin1 _ _ ?_ ?_ ?_ ?_ ?_ ?_ ?_ <;> simp -implicitDefEqProofs (disch:=omega) only [go_sem,Nat.reduceEqDiff,Nat.reduceAdd,↓reduceIte,s0,s2,s3,s4,s6,s10,s11,h6,h10,h11,hH]
     ·rw [Bool.not_eq_true] at hmo;have hnm:N % M=0:=by rw [hmo] at hm; simpa using hm.symm
      by_cases hl:m % 2 ^ (k-1)=0
      ·have q4:decide (m % 2 ^ (k-1)≠0)=false:=by simp [hl]
       rw [if_neg (by rw [hl,hnm]; simp)] at hH;refine wk1 (x6 s0 s2 s3 s4 s6 (x6 s10 s11 h6 h10 h11 (x6 h14 e1 f2 q2 q3 (x2 hmo q4)))) ?_;refine fin1 _ _ ?_ ?_ ?_ ?_ ?_ ?_ ?_ <;> simp -implicitDefEqProofs (disch:=omega) only [go_sem,Nat.reduceEqDiff,Nat.reduceAdd,↓reduceIte,s0,s2,s3,s4,s6,s10,s11,h6,h10,h11,hH]
      ·have q4:decide (m % 2 ^ (k-1)≠0)=true:=by simp [hl]
       rw [if_pos (.inr hl)] at hH;refine wk1 (x6 s0 s2 s3 s4 s6 (x6 s10 s11 h6 h10 h11 (x6 h14 e1 f2 q2 q3 (x2 hmo q4)))) ?_;refine fin1 _ _ ?_ ?_ ?_ ?_ ?_ ?_ ?_ <;> simp -implicitDefEqProofs (disch:=omega) only [go_sem,Nat.reduceEqDiff,Nat.reduceAdd,↓reduceIte,s0,s2,s3,s4,s6,s10,s11,h6,h10,h11,hH]
    ·rw [if_neg fun h=>ho h.2] at hH
     by_cases hb0:b=0
     ·have q2:(((tz b:Nat):Int) == 0)=true:=by rw [hb0]; rfl
      have q3:(((b:Nat):Int).sign != 0)=false:=by rw [hb0]; rfl
      refine wk1 (x6 s0 s2 s3 s4 s6 (x6 s10 s11 h6 h10 h11 (x5 h14 e1 f2 q2 q3))) ?_;refine fin1 _ _ ?_ ?_ ?_ ?_ ?_ ?_ ?_ <;> simp -implicitDefEqProofs (disch:=omega) only [go_sem,Nat.reduceEqDiff,Nat.reduceAdd,↓reduceIte,s0,s2,s3,s4,s6,s10,s11,h6,h10,h11,hH]
     ·have q2:(((tz b:Nat):Int) == 0)=false:=by
       rw [q8W]; refine decide_eq_false fun h=>ho (q38.1 ⟨h,hb0⟩)
      refine wk1 (x6 s0 s2 s3 s4 s6 (x6 s10 s11 h6 h10 h11 (x4 h14 e1 f2 q2))) ?_;refine fin1 _ _ ?_ ?_ ?_ ?_ ?_ ?_ ?_ <;> simp -implicitDefEqProofs (disch:=omega) only [go_sem,Nat.reduceEqDiff,Nat.reduceAdd,↓reduceIte,s0,s2,s3,s4,s6,s10,s11,h6,h10,h11,hH]
   ·rw [if_neg fun h=>hk0 h.1] at hH;refine wk1 (x6 s0 s2 s3 s4 s6 (x6 s10 s11 h6 h10 h11 h14)) ?_;refine fin1 _ _ ?_ ?_ ?_ ?_ ?_ ?_ ?_ <;> simp -implicitDefEqProofs (disch:=omega) only [go_sem,Nat.reduceEqDiff,Nat.reduceAdd,↓reduceIte,s0,s2,s3,s4,s6,s10,s11,h6,h10,h11,hH]
  by_cases hr:r=0
  ·have hmo:more=true:=by
    cases more
    ·exact (hex ⟨hr,rfl⟩).elim
    ·rfl
   have q1:decide (r≠0)=false:=by simp [hr]
   refine wk1 (x2 q1 hmo) ?_;refine fin0 _ _ ?_ ?_ ?_ ?_ ?_ ?_ ?_ ?_ ?_ ?_ ?_ <;> simp -implicitDefEqProofs (disch:=omega) only [go_sem,Nat.reduceEqDiff,Nat.reduceAdd,↓reduceIte,hmo]
  ·have q1:decide (r≠0)=true:=by simp [hr]
   refine wk1 q1 ?_;refine fin0 _ _ ?_ ?_ ?_ ?_ ?_ ?_ ?_ ?_ ?_ ?_ ?_ <;> simp -implicitDefEqProofs (disch:=omega) only [go_sem,Nat.reduceEqDiff,Nat.reduceAdd,↓reduceIte]
theorem qqZ {D:Nat→Prop} {v:Value} {N M k:Nat} {neg more:Bool} {mode:Int} {w:World} (hT:q1r w) (h:In (fB ((N / M:Nat):Int)) D v w) (hM:0 < M) (hm:more=decide (N % M≠0)) (hk:more=true→0 < k) (hb:bl (N / M)≤1000000) (hkb:k≤1000000) (hf:Fr D w) :
  Calls Tryz.prog 210 #[.bool neg,v,.int .i64 k,.bool more,.int .i64 mode] w (Rt (fB (rq mode neg N (M*2 ^ k):Nat)) D w):=by
 refine ((qnQ (mode:=mode) (neg:=neg) rfl hM hm hk hb hkb).2 D w [_,_,_,_,_] hT hf ?_).mono fun x w' ⟨v,h1,h2,h3⟩=>⟨v,h1,h2,q0o.1 h3⟩;unfold RdL;refine ⟨_,_,rfl,q3E,?_⟩;unfold RdL;refine ⟨_,_,rfl,q0o.2 h,?_⟩;unfold RdL;refine ⟨_,_,rfl,q3E,?_⟩;unfold RdL;exact ⟨_,_,rfl,q3E,RdL.one q3E⟩
theorem q1k {V:Int} (ho:q1K V):ACt 101 [dT V] (dT V):=q1L (r:=pV V) (fun D w v h=>(q3p.2 (q2p h)).1) (q5R (by kernel_rfl) fun D w vs hT hF hR=>by
 obtain ⟨_,rfl,h3⟩:=q7q hR;exact q5E hT (q3p.1 ⟨h3,ho⟩) hF)
theorem q7H {m e V:Int} {s:Bool} (hs:s=decide (m < 0)) (hb:bl m.natAbs≤1000000) (he1 : -1000000≤e) (he2:e≤1000000) (hv:mkV m e=some V):ACt 103 [sT s m,iv e] (pV V):=hs ▸ q5R (by kernel_rfl) fun D w vs hT hF hR=>by
 obtain ⟨_,_,rfl,h3,h4⟩:=q45 hR;rw [q3F h4];exact q6p hT (q0o.1 h3) hb he1 he2 hv hF
theorem qnP {l:List Int} (hn:l.length≤1000) (ho:∀ x ∈ l,q1K x) (hv:q1K (q1b l)):ACt 95 [.sl (some 4) (l.map fun V=>pV V)] (pV (q1b l)):=by
 have C2:=@qac;refine ac0 Tryz.func95 Tryz.ntmps95 [.cell 2 74] ?_;refine wk ?_;refine q0K (fun q:Nat × Int × Int=>q.1≤l.length ∧ -65536≤q.2.2∧q.2.2≤65536∧q.2.1*(2:Int) ^ (q.2.2+65536).toNat=q1b (l.take q.1)) [0,2,3,7] [2] Lk Lk (fun q=>[(5,iv q.1),(4,iv q.2.2)]) (fun q=>[(3,⟨72,some 2,[bT q.2.1],false⟩)]) (fun q=>l.length-q.1) (0,0,0) ⟨Nat.zero_le _,by decide,by decide,by rw [Int.zero_mul]; rfl⟩ ?_ ?_
 ·refine LeM [] rfl rfl ?_;refine Zz ?_;exact ⟨rfl,rfl⟩
 ·rintro ⟨i,tot,e⟩ ⟨hi,he1,he2,hs⟩;simp only at hi he1 he2 hs ⊢;have hbs:=qjK (i:=i) ho (by omega);have hbt:=q4C hs
  by_cases hlt:i < l.length
  ·obtain ⟨x,hxi⟩:∃ x,l[i]?=some x:=⟨_,List.getElem?_eq_getElem (by omega)⟩;have hox:=ho x (List.mem_of_getElem? hxi);obtain ⟨hd1,hd2,hd3⟩:=q19 hox;have hst:=q5Y l i x hxi;have hbx:bl x.natAbs≤131072:=hox;have C1:=qtY (by kernel_rfl) fun h=>q1k h (V:=x)
   by_cases hx0:x=0
   ·have q1:((od x).sign == 0)=true:=by rw [hx0]; rfl
    refine wk1 (x2 hxi q1) ?_;refine ⟨(i+1,tot,e),⟨by simp only; omega,he1,he2,by simp only; rw [hst,hx0,Int.add_zero]; exact hs⟩,by simp only; omega,?_⟩;simp only;refine LeM [] rfl rfl ?_;refine Zz ?_
    rfl
   ·have q1:((od x).sign == 0)=false:=by
     have hod:=q3q hx0
     rcases Int.lt_or_gt_of_ne hod with h | h
     ·rw [Int.sign_eq_neg_one_of_neg h]; rfl
     ·rw [Int.sign_eq_one_of_pos h]; rfl
    have hdx:dyE x=(tz x.natAbs:Int)-65536:=by unfold dyE; rw [if_neg hx0]
    have hodx:od x*(2:Int) ^ (dyE x+65536).toNat=x:=by
     rw [hdx,show ((tz x.natAbs:Int)-65536+65536).toNat=tz x.natAbs by omega,q2A]
    by_cases ht0:tot=0
    ·have q2:(Int.sign tot == 0)=true:=by rw [ht0]; rfl
     refine wk1 (x3 hxi q1 q2) ?_;refine ⟨(i+1,od x,dyE x),⟨by simp only; omega,hd1,hd2,by simp only; rw [hst,hodx,← hs,ht0]; simp⟩,by simp only; omega,?_⟩;simp only;refine LeM [] rfl rfl ?_;refine Zz ?_
     rfl
    ·have q2:(Int.sign tot == 0)=false:=by
      rcases Int.lt_or_gt_of_ne ht0 with h | h
      ·rw [Int.sign_eq_neg_one_of_neg h]; rfl
      ·rw [Int.sign_eq_one_of_pos h]; rfl
     have C3:=@q8O;have C4:=@qep
     by_cases hge:e≤dyE x
     ·have hsh:shI (od x) (dyE x-e)=od x*(2:Int) ^ (dyE x-e).toNat:=by unfold shI; rw [if_pos (by omega)]
      have hlf:od x*(2:Int) ^ (dyE x-e).toNat*(2:Int) ^ (e+65536).toNat=x:=by
       rw [Int.mul_assoc,← Int.pow_add,show (dyE x-e).toNat+(e+65536).toNat=(dyE x+65536).toNat by omega,hodx]
      have hb11:=q4C hlf;refine wk1 (x4 hxi q1 q2 hsh) ?_;refine ⟨(i+1,tot+od x*(2:Int) ^ (dyE x-e).toNat,e),⟨by simp only; omega,he1,he2,by simp only; rw [hst,Int.add_mul,hs,hlf]⟩,by simp only; omega,?_⟩;simp only;refine LeM [] rfl rfl ?_;refine Zz ?_
      rfl
     ·have hsh:shI tot (e-dyE x)=tot*(2:Int) ^ (e-dyE x).toNat:=by unfold shI; rw [if_pos (by omega)]
      have hlf:tot*(2:Int) ^ (e-dyE x).toNat*(2:Int) ^ (dyE x+65536).toNat=q1b (l.take i):=by
       rw [Int.mul_assoc,← Int.pow_add,show (e-dyE x).toNat+(dyE x+65536).toNat=(e+65536).toNat by omega,hs]
      have hb11:=q4C hlf;refine wk1 (x4 hxi q1 q2 hsh) ?_;refine ⟨(i+1,tot*(2:Int) ^ (e-dyE x).toNat+od x,dyE x),⟨by simp only; omega,hd1,hd2,by simp only; rw [hst,Int.add_mul,hlf,hodx]⟩,by simp only; omega,?_⟩;simp only;refine LeM [] rfl rfl ?_;refine Zz ?_
      rfl
  ·obtain rfl:i=l.length:=by omega
   rw [List.take_length] at hs hbs hbt;have C1:=@q7H;have hmk:mkV tot e=some (q1b l):=by rw [q6x (by omega) hs]; exact q3r hv
   exact wk trivial
theorem qqg (V:Int):(od V).sign=V.sign:=by
 conv=>rhs; rw [← q2A V,Int.sign_mul,Int.sign_eq_one_of_pos (q06 _),Int.mul_one]
section
variable {a b m e V:Int}
theorem q4s {s:Bool} (hs:s=decide (a < 0)) (ha:bl a.natAbs≤10000000) (h1 : -1048576≤m) (h2:m≤1048576):ACt 193 [sT s a,iv m] (bT (shI a m)):=by
 have C1:=@q8F;refine ac0 Tryz.func193 Tryz.ntmps193 [.cell 4 72] ?_;exact wk trivial
theorem q78 {s:Bool} {N:Nat} (hs:s=decide (a < 0)) (ha:bl a.natAbs≤10000000) (hn:N≤1048576):ACt 237 [sT s a,iv N] (bT (shI a (-(N:Int)))):=by
 have C1:=@q8F;refine ac0 Tryz.func237 Tryz.ntmps237 [.cell 4 72] ?_;refine wk ?_;refine q0K (fun _:Unit=>True) [1,2,4] [2,4] Lk Lk (fun _=>[]) (fun _=>[]) (fun _=>0) () trivial ?_ ?_
 ·refine LeM [] rfl rfl ?_;exact Zy
 ·intro _ _;exact wk1 @Int.zero_sub trivial
theorem qqn {D:Nat→Prop} {v:Value} {w:World} (h:Rd w D (.ag [bv false,bv false,q5y,iv 0]) (fun _=>none) h0 v):Rd w D (dT 0) (fun _=>none) h0 v:=by
 unfold Rd at h;obtain ⟨vs,rfl,h1⟩:=h;obtain ⟨_,_,_,_,rfl,h2,h3,h4,h5⟩:=rd_4 h1;rw [q3F h2,q3F h3,q3F h4,q3F h5];have h6:In (fV 0) D (.agg #[.bool false,.bool false,.slice none 0 0,.int .i64 0]) w:=⟨false,none,0,0,rfl,⟨rfl,U32.nil⟩,by simp [q1K,q1a]⟩;exact (q3p.2 h6).1
theorem qpI {s:Bool} (hs:s=decide (m < 0)) (hb:bl m.natAbs≤1000000) (he1 : -1000000≤e) (he2:e≤1000000) (hv:mkV m e=some V):ACt 175 [.ag [bv false,bv s,.fm (fL m),iv e]] (.tu [dT V,bv true]):=by
 have C1:=@qhW;have C2:=@q3u
 by_cases hz:m=0
 ·obtain rfl:V=0:=by rw [hz,q2R] at hv; exact (Option.some.inj hv).symm
  refine q1L (r:=.tu [.ag [bv false,bv false,q5y,iv 0],bv true]) (fun D w v h=>?_) ?_
  ·unfold Rd at h ⊢;obtain ⟨vs,rfl,h1⟩:=h;obtain ⟨_,_,rfl,h2,h3⟩:=q45 h1;refine ⟨_,rfl,?_⟩;unfold RdL;exact ⟨_,_,rfl,qqn h2,RdL.one h3⟩
  ·have e1:(m.sign == 0)=true:=by rw [hz]; rfl
   refine ac0 Tryz.func175 Tryz.ntmps175 [.cell 2 74,.tmp 3] ?_;exact wk1 e1 trivial
 ·have hz':(m.sign == 0)=false:=by
   rw [beq_eq_false_iff_ne]; intro h0; exact hz (Int.sign_eq_zero_iff_zero.1 h0)
  obtain ⟨hv1,hv2,hv3⟩:=q6w hz hv;obtain ⟨hv4,hv5,_,hv6⟩:=qaP hv;have htl:=qgR (n:=m.natAbs) (by omega);have hbo:=q91 hz;have C3:=@qjk;have C4:=@q3X;have C5:=@q78;have f1:=(ql4 m).trans hv4.symm;have f2:=(hv5 hz).2.symm;refine ac0 Tryz.func175 Tryz.ntmps175 [.cell 2 74,.tmp 3] ?_;exact wk1 (x3 hz' f1 f2) trivial
theorem qbL (hV:q1K V):ACt 175 [dT V] (.tu [dT V,bv true]):=by
 obtain ⟨h1,h2,h3⟩:=q19 hV;exact qpI rfl (by omega) (by omega) (by omega) (qaQ hV)
theorem q9d (hV:q1K V):ACt 124 [dT V] (dT V):=by
 have C1:=qbL hV;refine ac0 Tryz.func124 Tryz.ntmps124 [.cell 2 74] ?_;exact wk trivial
theorem q4r (hV:q1K V):ACt 117 [dT V] (iv V.sign):=by
 have C1:=qbL hV;have C2:=@q3u;have:=(q19 hV).2.2;refine ac0 Tryz.func117 Tryz.ntmps117 [.tmp 2] ?_;exact wk1 (qqg V) trivial
theorem qkw (hV:q1K V):ACt 133 [dT V] (dT (-V)):=by
 have C1:=qbL hV;have C2:=@q9I;have:=(q19 hV).2.2;have f1:=(qj4 V).symm;have f2:=qeq V;refine ac0 Tryz.func133 Tryz.ntmps133 [.cell 2 74] ?_;exact wk1 (x2 f1 f2) trivial
theorem q61 {s:Bool} (hs:s=decide (m < 0)) (hb:bl m.natAbs≤1000000) (he1 : -1000000≤e) (he2:e≤1000000) (hv:mkV m e=some V):ACt 132 [sT s m,iv e] (dT V):=by
 have C1:=qpI hs hb he1 he2 hv;refine ac0 Tryz.func132 Tryz.ntmps132 [.cell 4 74] ?_;exact wk trivial
theorem qku (ha:q1K a) (hb:q1K b):ACt 198 [dT a,dT b] (.tu [dT a,dT b,bv true]):=by
 have C1:=qbL ha;have C2:=qbL hb;refine ac0 Tryz.func198 Tryz.ntmps198 [.cell 4 74,.cell 5 74,.tmp 6] ?_;exact wk trivial
theorem qkx (ha:q1K a) (hb:q1K b) (hv:mkV (a*b) (-131072)=some V):ACt 134 [dT a,dT b] (dT V):=by
 obtain ⟨ha1,ha2,ha3⟩:=q19 ha;obtain ⟨hb1,hb22,hb33⟩:=q19 hb;have hmul:=q2J (od a).natAbs (od b).natAbs;rw [← Int.natAbs_mul] at hmul;have C1:=qku ha hb;have C2:=@qmd;have C3:=q61 (m:=od a*od b) (e:=dyE a+dyE b) rfl (by omega) (by omega) (by omega) ((qdm a b).trans hv);refine ac0 Tryz.func134 Tryz.ntmps134 [.cell 4 74] ?_;exact wk trivial
end
theorem q3G {f:Nat} {w:World} (hf:f < 18446744073709551616):Calls Tryz.prog 42 #[.int .u64 f] w fun e w'=>e=.returned (.bool (decide (q0f f)))∧w=w':=by
 refine q0H Tryz.func42 rfl Tryz.ntmps42 (by kernel_rfl) ?_;refine Wz ?_;have h1:=q5Q (a:=f / 4503599627370496) Oq;have h2:(((f / 4503599627370496 % 2048:Nat):Int) != 2047)=decide (q0f f):=bneN (b:=2047);refine Wz2 h1 h2 ?_;refine q0L ?_
 try simp only [q0D,q0N]
 refine q0k rfl ⟨rfl,rfl⟩
theorem qdX {f:Nat} {w:World} (hf:f < 18446744073709551616):Calls Tryz.prog 104 #[.int .u64 f] w fun e w'=>e=.returned (.bool (decide (9223372036854775808≤f)))∧w=w':=by
 refine q0H Tryz.func104 rfl Tryz.ntmps104 (by kernel_rfl) ?_;refine Wz ?_;have h2:=qde hf;refine Wz1 h2 ?_;refine q0L ?_
 try simp only [q0D,q0N]
 refine q0k rfl ⟨rfl,rfl⟩
theorem q1U {f:Nat} {neg:Bool} {w:World} (hf:f < 9223372036854775808):Calls Tryz.prog 212 #[.bool neg,.int .u64 f] w fun e w'=>e=.returned (.int .u64 (sb neg f:Nat))∧w=w':=by
 refine q0H Tryz.func212 rfl Tryz.ntmps212 (by kernel_rfl) ?_;refine Wz ?_;refine q0B fun K0 hK0=>?_;refine Wz ?_;cases neg
 ·refine Wf (q0G (hK0 _ _ ?_));clear hK0;refine Wz ?_;refine q0L ?_
  try simp only [q0D,q0N]
  refine q0k rfl ⟨by simp [sb,upd],rfl⟩
 ·refine Wt ?_;have h:=qda hf;refine Wz1 h ?_;refine q0L ?_
  try simp only [q0D,q0N]
  refine q0k rfl ⟨by simp [sb,upd],rfl⟩
theorem qaA {neg:Bool} {mode:Int} {w:World}:Calls Tryz.prog 209 #[.bool neg,.int .i64 mode] w fun e w'=>e=.returned (.int .u64 (qaK mode neg:Nat))∧w=w':=by
 refine q0H Tryz.func209 rfl Tryz.ntmps209 (by kernel_rfl) ?_;refine Wz ?_;refine q0B fun K0 hK0=>?_
 by_cases m3:mode=3
 ·have q:(mode == 3)=true:=by simpa using m3
  refine Wz1 q ?_;refine Wt ?_;refine q0A fun K hK=>?_;refine Zz ?_;refine q0E q4A (q1U (f:=9218868437227405311) Oq) ?_;rintro _ _ ⟨rfl,rfl⟩; refine ⟨_,rfl,?_⟩;refine hK _ _ ?_; clear hK;refine q0L ?_
  try simp only [q0D,q0N]
  refine q0k rfl ⟨by simp [qaK,m3,upd],rfl⟩
 have q3:(mode == 3)=false:=by simpa using m3
 by_cases m1:mode=1
 ·have q1:(mode == 1)=true:=by simpa using m1
  have q2:(mode == 2)=false:=by subst m1; rfl
  cases neg
  ·refine Wz3 q3 q1 q2 ?_;refine Wt ?_;refine q0A fun K hK=>?_;refine Zz ?_;refine q0E q4A (q1U (f:=9218868437227405311) Oq) ?_;rintro _ _ ⟨rfl,rfl⟩; refine ⟨_,rfl,?_⟩;refine hK _ _ ?_; clear hK;refine q0L ?_
   try simp only [q0D,q0N]
   refine q0k rfl ⟨by simp [qaK,m1,upd],rfl⟩
  ·refine Wz3 q3 q1 q2 ?_;refine Wf (q0G (hK0 _ _ ?_));clear hK0;refine q0A fun K hK=>?_;refine Zz ?_;refine q0E q4A (q1U (f:=9218868437227405312) Oq) ?_;rintro _ _ ⟨rfl,rfl⟩; refine ⟨_,rfl,?_⟩;refine hK _ _ ?_; clear hK;refine q0L ?_
   try simp only [q0D,q0N]
   refine q0k rfl ⟨by simp [qaK,m1,upd],rfl⟩
 have q1:(mode == 1)=false:=by simpa using m1
 by_cases m2:mode=2
 ·have q2:(mode == 2)=true:=by simpa using m2
  cases neg
  ·refine Wz3 q3 q1 q2 ?_;refine Wf (q0G (hK0 _ _ ?_));clear hK0;refine q0A fun K hK=>?_;refine Zz ?_;refine q0E q4A (q1U (f:=9218868437227405312) Oq) ?_;rintro _ _ ⟨rfl,rfl⟩; refine ⟨_,rfl,?_⟩;refine hK _ _ ?_; clear hK;refine q0L ?_
   try simp only [q0D,q0N]
   refine q0k rfl ⟨by simp [qaK,m2,upd],rfl⟩
  ·refine Wz3 q3 q1 q2 ?_;refine Wt ?_;refine q0A fun K hK=>?_;refine Zz ?_;refine q0E q4A (q1U (f:=9218868437227405311) Oq) ?_;rintro _ _ ⟨rfl,rfl⟩; refine ⟨_,rfl,?_⟩;refine hK _ _ ?_; clear hK;refine q0L ?_
   try simp only [q0D,q0N]
   refine q0k rfl ⟨by simp [qaK,m2,upd],rfl⟩
 have q2:(mode == 2)=false:=by simpa using m2
 refine Wz3 q3 q1 q2 ?_;refine Wf (q0G (hK0 _ _ ?_));clear hK0;refine q0A fun K hK=>?_;refine Zz ?_;refine q0E q4A (q1U (f:=9218868437227405312) Oq) ?_;rintro _ _ ⟨rfl,rfl⟩; refine ⟨_,rfl,?_⟩;refine hK _ _ ?_; clear hK;refine q0L ?_
 try simp only [q0D,q0N]
 refine q0k rfl ⟨by simp [qaK,m1,m2,m3,upd],rfl⟩
theorem rOf_v {D:Nat→Prop} {f:Nat} {V:Int} {w:World} (hT:q1r w) (hf:f < 18446744073709551616) (hv:ofF f=some V) (hfr:Fr D w):Calls Tryz.prog 38 #[.int .u64 f] w (Rt (fV V) D w):=by
 have hf0:Fr D w:=hfr;have hfin:q0f f:=fun h=>by unfold ofF at hv; rw [if_pos h] at hv; cases hv
 obtain ⟨V',hv',hmk⟩:=q8z hfin;rw [hv] at hv'; cases hv';have hf:=hfr;refine q0H Tryz.func38 rfl Tryz.ntmps38 (by kernel_rfl) ?_;refine q0A fun K hK=>?_;refine Zz ?_;refine q0i ?_;intro g2 w2 hg2 hx2 hb2 hs2;refine hK _ _ ?_; clear hK K;have hx:Ext w w2:=hx2;have hD:Fr (Dl D [g2]) w2:=hf.nL hx (by intro g hg; simp at hg; omega);clear hx2;refine q0B fun K0 hK0=>?_;refine q0A fun K hK=>?_;refine Zz ?_;refine q0E qiY (q3G (by assumption)) ?_;rintro _ _ ⟨rfl,rfl⟩; refine ⟨_,rfl,?_⟩;rw [decide_eq_true hfin];refine Zz ?_;refine hK _ _ ?_; clear hK;refine Wf (q0G (hK0 _ _ ?_));clear hK0;have h1:=q5Q (a:=f / 4503599627370496) Oq;have h2:=q7U (a:=f) (by assumption);have hxm:=Nat.mod_lt (f / 4503599627370496) (show 0 < 2048 by omega);have hm:=Nat.mod_lt f (show 0 < 4503599627370496 by omega);obtain ⟨x,hxe⟩:∃ x,x=f / 4503599627370496 % 2048:=⟨_,rfl⟩;obtain ⟨m,hme⟩:∃ m,m=f % 4503599627370496:=⟨_,rfl⟩;rw [← hxe] at hxm h1 hmk;rw [← hme] at hm h2 hmk;obtain ⟨sg,hsg⟩:∃ sg,sg=decide (9223372036854775808≤f):=⟨_,rfl⟩;rw [← hsg] at hmk;have h3:IntKind.i64.wrap ((x:Nat):Int)=x:=i64_in Oq Oq;refine Wz3 h1 h2 h3 ?_;refine Wz ?_;refine q0B fun K0 hK0=>?_;have fin:∀ (e1:Env) (M:Nat) (E:Int),e1 0=.int .u64 f→e1 2=.pointer (some ⟨g2,0,none⟩)→e1 4=.int .u64 M→e1 5=.int .i64 E→M < 9007199254740992 → -1074≤E→E≤2000→mkV (sgn sg M) E=some V→K0 e1 w2:=by
  intro e1 M E k0 k2 k4 k5 hM hE1 hE2 hmk;refine hK0 _ _ ?_; clear hK0;refine q0A fun K hK=>?_;refine Zz1 k0 ?_;refine q0E qka (qdX (by assumption)) ?_;rintro _ _ ⟨rfl,rfl⟩; refine ⟨_,rfl,?_⟩;rw [← hsg];refine Zz2 k4 k5 ?_;refine q1P fun w4 hx4 hb4 hs4=>?_;have hU:U32 w4 (Dl D [g2]) _ 2 2 _:=(own2 hb4 (Nat.mod_lt _ Oq) (Nat.mod_lt _ Oq)).u32 fun k hk=>hD k hk;replace hb2:=hb2.ext hx4;replace hD:=hD.kp hx4;replace hx:=hx.trans hx4;refine Zz1 k2 ?_;have hval:val [M % 4294967296,M / 4294967296 % 4294967296]=M:=by simp only [val,B]; omega
  have hbl:bl M≤53:=q0T (show M < 2 ^ 53 by omega);refine Cr q8S (qaE (hT.ext hx) hU.in (by rw [hval]; omega) Oq Oq Oq (by rw [hval]; exact hmk) hD) fun v5 w5 hx5 h5=>?_;replace hb2:=hb2.ext hx5;replace hD:=hD.kp hx5;replace hx:=hx.trans hx5;clear hx5;refine q1O hb2 q51 rfl (q8a h5) fun w90 hk90 hb90=>?_;refine hK _ _ ?_; clear hK;refine q0L ?_
  try simp only [q0D,q0N]
  exact q88 rfl Rf q80 hb90 (q8a h5) (Rt.fin hx h5 hk90 (by simp) Oq)
 by_cases hx0:x=0
 ·have q:¬ ((x:Int) > 0):=by omega
  refine Wz1 q ?_;refine Wf (q0G ?_);rw [if_pos hx0,if_pos hx0] at hmk;exact fin _ m (-1074) Ue Ue Ue Ue Oq Oq Oq hmk
 ·have q:((x:Int) > 0):=by omega
  refine Wz1 q ?_;refine Wt ?_;have h4:=qj0 hm;have h5:IntKind.i64.wrap ((x:Int)-1075)=(x:Int)-1075:=i64_in Oq Oq;refine Wz1 h4 ?_;refine q0P fun K9 hK9=>?_;refine Zz1 h5 ?_;refine hK9 _ _ ?_; clear hK9 K9;rw [if_neg hx0,if_neg hx0] at hmk;exact fin _ _ _ Ue Ue Ue Ue Oq Oq Oq hmk
theorem q6N {D:Nat→Prop} {v:Value} {N M:Nat} {neg more:Bool} {mode e:Int} {w:World} (hT:q1r w) (h:In (fB ((N / M:Nat):Int)) D v w) (hM:0 < M) (hN:M≤N) (hm:more=decide (N % M≠0)) (hmb:more=true→55≤bl (N / M)) (hb:bl (N / M)≤200000) (he1 : -200000≤e) (he2:e≤200000) (hf:Fr D w) :
  Calls Tryz.prog 152 #[.bool neg,v,.int .i64 e,.bool more,.int .i64 mode] w fun x w'=>x=.returned (.int .u64 (rE mode neg N M e:Nat))∧Ext w w':=by
 obtain ⟨s,A,n,c,rfl,_⟩:=id h;refine q0H Tryz.func152 rfl Tryz.ntmps152 (by kernel_rfl) ?_;refine q0A fun K hK=>?_;refine Zz ?_;refine q0X ?_;intro g6 w6 hg6 hx6 hb6 hs6;refine hK _ _ ?_; clear hK K;have hx:Ext w w6:=hx6;replace h:=(h.nL (L:=[g6]) (by intro g hg; simp at hg; omega)).ext hx;have hD:Fr (Dl D [g6]) w6:=hf.nL hx (by intro g hg; simp at hg; omega);clear hx6;have hp:=Nat.div_pos hN hM;have hL1:=q4D (n:=N / M) Oq;obtain ⟨L,hL⟩:∃ L,L=bl (N / M):=⟨_,rfl⟩;rw [← hL] at hmb hb hL1;refine q0A fun K hK=>?_;refine Zz1 hb6.l2 ?_;refine Ck qaq (q5a h Om) fun w7 hx7=>?_;replace h:=h.ext hx7;replace hb6:=hb6.ext hx7;replace hD:=hD.kp hx7;replace hx:=hx.trans hx7;clear hx7;rw [Int.natAbs_natCast,← hL];have e1:IntKind.i64.wrap (e+((L:Nat):Int))=e+L:=i64_in Oq Oq;have e2:IntKind.i64.wrap (e+(L:Int)-1)=e+L-1:=i64_in Oq Oq;refine Zz2 e1 e2 ?_;refine hK _ _ ?_; clear hK;refine q0B fun K0 hK0=>?_
 by_cases ht:e+(L:Int)-1 ≥ 1024
 ·refine Wz1 ht ?_;refine Wt ?_;refine q0A fun K hK=>?_;refine Zz ?_;refine q0E qfV (qaA) ?_;rintro _ _ ⟨rfl,rfl⟩; refine ⟨_,rfl,?_⟩;refine hK _ _ ?_; clear hK;have:=qlu (mode:=mode) (neg:=neg) hM hN (e:=e) Oq;refine q0L ?_
  try simp only [q0D,q0N]
  refine q0k rfl ⟨by simp only [q0F,Nat.reduceEqDiff,↓reduceIte]; rw [this],hx⟩
 ·refine Wz1 ht ?_;refine Wf (q0G (hK0 _ _ ?_));clear hK0;have hval:=qd0 (mode:=mode) (neg:=neg) (e:=e) hM hN;have hnle:=qlw (mode:=mode) (neg:=neg) (e:=e) (q:=max (e+(bl (N / M):Int)-53) (-1074)) hM hN Oq;rw [← hL] at hval hnle;have e3:IntKind.i64.wrap (e+(L:Int)-1-52)=e+L-53:=by rw [i64_in Oq (by omega)]; omega
  obtain ⟨q,hq⟩:∃ q,q=max (e+(L:Int)-53) (-1074):=⟨_,rfl⟩;have hq':=hq.symm;rw [hq'] at hval hnle;refine Wz2 e3 hq' ?_;refine q0A fun K hK=>?_;refine Zz ?_;refine q0i ?_;intro g13 w13 hg13 hx13 hb13 hs13;have hgl13:=hx.size;have hn13hb6:=hb6.lt;replace h:=(h.nw (g:=g13) Oq).ext hx13;replace hb6:=hb6.ext hx13;replace hD:=hD.nw (g:=g13) hx13 Oq;replace hx:=hx.trans hx13;clear hx13;refine hK _ _ ?_; clear hK;obtain ⟨r,hr⟩:∃ r,r=rq mode neg (N*2 ^ (e-q).toNat) (M*2 ^ (q-e).toNat):=⟨_,rfl⟩;rw [← hr] at hval hnle;have hbr:bl r≤54:=q0T (Nat.lt_of_le_of_lt hnle (by decide));refine q0B fun K0 hK0=>?_;have fin:∀ (e9:Env) (w9:World) (s9:Bool) (A9:Option Addr) (n9 c9:Nat),Ext w w9→In (fB (r:Int)) (Dl D [g13,g6]) (.agg #[.bool s9,.slice A9 n9 c9]) w9→Blk w9 g13 72 #[.bool s9,.slice A9 n9 c9]→Fr (Dl D [g13,g6]) w9→e9 0=.bool neg→e9 4=.int .i64 mode→e9 12=.int .i64 q→e9 13=.pointer (some ⟨g13,0,none⟩)→K0 e9 w9:=by
   intro e9 w9 s9 A9 n9 c9 hx h hb9 hD k0 k4 k12 k13;refine hK0 _ _ ?_; clear hK0;refine q0A fun K hK=>?_;refine Zz2 k13 hb9.l2 ?_;refine Ck qkV (qqX h Oq Oq hD) fun w10 hx10=>?_;replace h:=h.ext hx10;replace hb9:=hb9.ext hx10;replace hD:=hD.kp hx10;replace hx:=hx.trans hx10;clear hx10;refine Zz ?_;refine hK _ _ ?_; clear hK;refine q0B fun K0 hK0=>?_;have fin2:∀ (e9:Env) (n2:Nat) (q2:Int),e9 0=.bool neg→e9 4=.int .i64 mode→e9 12=.int .i64 q2→e9 14=.int .i64 n2→n2 < 9007199254740992 → -1074≤q2→q2≤600000→rE mode neg N M e=fin2 mode neg n2 q2→K0 e9 w10:=by
    intro e9 n2 q2 k0 k4 k12 k14 hn2 hq1 hq2 hres;refine hK0 _ _ ?_; clear hK0;refine q0O fun K hK=>?_;unfold Go.Sp.fin2 at hres;have e4:IntKind.i64.wrap (q2+53)=q2+53:=i64_in Oq Oq
    by_cases h52:(n2:Int) ≥ 4503599627370496
    ·rw [if_neg (by omega)] at hres
     by_cases hov:q2+53 > 1024
     ·rw [if_pos (by omega)] at hres;refine Wz5 k14 k12 h52 e4 hov ?_;refine Wt ?_;refine q0A fun K hK=>?_;refine Zz2 k0 k4 ?_;refine q0E qfV (qaA) ?_;rintro _ _ ⟨rfl,rfl⟩; refine ⟨_,rfl,?_⟩;refine hK _ _ ?_; clear hK;refine q0L ?_
      try simp only [q0D,q0N]
      refine q0k rfl ⟨by simp only [q0F,Nat.reduceEqDiff,↓reduceIte]; rw [hres],hx⟩
     ·rw [if_neg (by omega)] at hres;refine Wz5 k14 k12 h52 e4 hov ?_;refine Wf ?_;refine Wz2 k14 h52 ?_;refine Wt ?_;have e5:IntKind.i64.wrap (q2+1075)=q2+1075:=i64_in Oq Oq;have e6:IntKind.u64.wrap (q2+1075)=(((q2+1075).toNat:Nat):Int):=by rw [u64_in Oq (by omega)]; omega
      have e7:IntKind.i64.wrap ((n2:Int)-4503599627370496)=(n2:Int)-4503599627370496:=i64_in Oq Oq;have e8:IntKind.u64.wrap ((n2:Int)-4503599627370496)=((n2-4503599627370496:Nat):Int):=by rw [u64_in Oq (by omega)]; omega
      have e9:=qj1 (a:=(q2+1075).toNat) (b:=n2-4503599627370496) Oq Oq;have e10:=q9v (P:=Tryz.prog) (t:=30) (k':=.u64) (a:=(q2+1075).toNat) Oq;refine q0A fun K hK=>?_;refine Zz9 k0 k12 k14 e5 e6 e7 e8 e10 e9 ?_;refine q0E q4A (q1U Oq) ?_;rintro _ _ ⟨rfl,rfl⟩; refine ⟨_,rfl,?_⟩;refine hK _ _ ?_; clear hK;refine q0L ?_
      try simp only [q0D,q0N]
      refine q0k rfl ⟨by simp only [q0F,Nat.reduceEqDiff,↓reduceIte]; rw [hres],hx⟩
    ·rw [if_pos (by omega)] at hres;refine Wz2 k14 h52 ?_;refine Wf ?_;refine Wz2 k14 h52 ?_;refine Wf (q0G (hK _ _ ?_));have e8:IntKind.u64.wrap (n2:Int)=(n2:Int):=u64_in Oq Oq;refine q0A fun K hK=>?_;refine Zz3 k0 k14 e8 ?_;refine q0E q4A (q1U Oq) ?_;rintro _ _ ⟨rfl,rfl⟩; refine ⟨_,rfl,?_⟩;refine hK _ _ ?_; clear hK;refine q0L ?_
     try simp only [q0D,q0N]
     refine q0k rfl ⟨by simp only [q0F,Nat.reduceEqDiff,↓reduceIte]; rw [hres],hx⟩
   unfold Go.Sp.fin at hval
   by_cases h53:r=9007199254740992
   ·have q1:((r:Int) == 9007199254740992)=true:=by rw [h53]; rfl
    rw [if_pos h53] at hval;refine Wz1 q1 ?_;refine Wt ?_;have e4:IntKind.i64.wrap (q+1)=q+1:=i64_in Oq Oq;refine Wz ?_;refine q0P fun K9 hK9=>?_;refine Zz2 k12 e4 ?_;refine hK9 _ _ ?_; clear hK9 K9;exact fin2 _ 4503599627370496 (q+1) Ue Ue Ue Ue Oq Oq Oq hval
   ·have q1:((r:Int) == 9007199254740992)=false:=by
     have:=beqN (a:=r) (b:=9007199254740992);rw [decide_eq_false h53] at this; exact this
    rw [if_neg h53] at hval;refine Wz1 q1 ?_;refine Wf (q0G ?_);exact fin2 _ r q Ue Ue Ue Ue Oq Oq Oq hval
  by_cases hqe:q ≥ e
  ·refine Wz1 hqe ?_;refine Wt ?_;have e4:IntKind.i64.wrap (q-e)=(((q-e).toNat:Nat):Int):=by rw [i64_in Oq (by omega)]; omega
   have hr2:r=rq mode neg N (M*2 ^ (q-e).toNat):=by rw [hr,show (e-q).toNat=0 by omega,Nat.pow_zero,Nat.mul_one]
   refine q0P fun K9 hK9=>?_;refine Zz2 hb6.l2 e4 ?_;refine Cr qkW (qqZ (hT.ext hx) h hM hm (fun h=>by have:=hmb h; omega) Oq Oq hD) fun v14 w14 hx14 h14=>?_;replace h:=h.ext hx14;replace hb6:=hb6.ext hx14;replace hb13:=hb13.ext hx14;replace hD:=hD.kp hx14;replace hx:=hx.trans hx14;clear hx14;rw [← hr2] at h14;obtain ⟨s14,A14,n14,c14,rfl,_⟩:=id h14;refine q0V hb13 q0u rfl rfl fun w15 hk15 hz15=>?_;replace h:=h.ow hk15 (by simp);replace h14:=h14.ow hk15 (by simp);replace hb6:=hb6.kpne hk15 Oq;replace hD:=hD.ow hk15;replace hx:=hx.under hk15 (fun k hk=>by omega);clear hb13 hk15;have hb13:=hz15; clear hz15;refine hK9 _ _ ?_; clear hK9;exact fin _ _ _ _ _ _ hx h14 hb13 hD Ue Ue Ue Ue
  ·skip
   refine Wz1 hqe ?_;refine Wf ?_;have e4:IntKind.i64.wrap (e-q)=e-q:=i64_in Oq Oq;have hmo:N % M=0:=by
    cases more
    ·simpa using hm.symm
    ·have:=hmb rfl; omega
   have hr2:((r:Nat):Int)=shI ((N / M:Nat):Int) (e-q):=by
    rw [hr,show (q-e).toNat=0 by omega,Nat.pow_zero,Nat.mul_one];have hd:M*(N / M)=N:=by have:=Nat.div_add_mod N M; omega
    rw [q5B (by rw [← hd,Nat.mul_assoc]; exact Nat.mul_mod_right _ _)];unfold shI;rw [if_pos Oq,← q1B,← Int.natCast_mul]
    congr 1
    rw [← hd,Nat.mul_assoc,Nat.mul_div_cancel_left _ hM,Nat.mul_div_cancel_left _ hM]
   refine q0P fun K9 hK9=>?_;refine Zz2 hb6.l2 e4 ?_;refine Cr qar (q5C h Om Oq Oq hD) fun v14 w14 hx14 h14=>?_;replace h:=h.ext hx14;replace hb6:=hb6.ext hx14;replace hb13:=hb13.ext hx14;replace hD:=hD.kp hx14;replace hx:=hx.trans hx14;clear hx14;rw [← hr2] at h14;obtain ⟨s14,A14,n14,c14,rfl,_⟩:=id h14;refine q0V hb13 q0u rfl rfl fun w15 hk15 hz15=>?_;replace h:=h.ow hk15 (by simp);replace h14:=h14.ow hk15 (by simp);replace hb6:=hb6.kpne hk15 Oq;replace hD:=hD.ow hk15;replace hx:=hx.under hk15 (fun k hk=>by omega);clear hb13 hk15;have hb13:=hz15; clear hz15;refine hK9 _ _ ?_; clear hK9;exact fin _ _ _ _ _ _ hx h14 hb13 hD Ue Ue Ue Ue
end Go.Proofs.YtbcmhlhgljoolaaGreatDoor
namespace Go.Sp
open Go.E
end Go.Sp
namespace Go.Proofs.YtbcmhlhgljoolaaGreatDoor
open Go Go.E Go.Sp
theorem qaD {D:Nat→Prop} {v:Value} {V mode:Int} {w:World} (hT:q1r w) (h:In (fV V) D v w) (hf:Fr D w):Calls Tryz.prog 94 #[v,.int .i64 mode] w fun x w'=>x=.returned (.int .u64 (fR mode V:Nat))∧Ext w w':=by
 obtain ⟨s,A,n,c,rfl,_,_⟩:=id h;refine q0H Tryz.func94 rfl Tryz.ntmps94 (by kernel_rfl) ?_;refine q0A fun K hK=>?_;refine Zz ?_;refine q0X ?_;intro g2 w2 hg2 hx2 hb2 hs2;refine hK _ _ ?_; clear hK K;have hx:Ext w w2:=hx2;replace h:=(h.nL (L:=[g2]) (by intro g hg; simp at hg; omega)).ext hx;have hD:Fr (Dl D [g2]) w2:=hf.nL hx (by intro g hg; simp at hg; omega);clear hx2;obtain ⟨hd1,hd2,hd3⟩:=q19 h.ok;refine q0A fun K hK=>?_;refine Zz1 hb2.l4 ?_;refine Cr qau (q5E (hT.ext hx) h hD) fun v5 w5 hx5 h5=>?_;replace h:=h.ext hx5;replace hb2:=hb2.ext hx5;replace hD:=hD.kp hx5;replace hx:=hx.trans hx5;clear hx5;obtain ⟨s5,A5,n5,c5,rfl,_,_⟩:=id h5;refine q0V hb2 q51 rfl rfl fun w6 hk6 hz6=>?_;replace h:=h.ow hk6 (by simp);replace h5:=h5.ow hk6 (by simp);replace hD:=hD.ow hk6;replace hx:=hx.under hk6 (fun k hk=>by omega);clear hb2 hk6;have hb2:=hz6; clear hz6;refine hK _ _ ?_; clear hK;refine q0B fun K0 hK0=>?_;refine Wz1 hb2.c0 ?_;refine Wf (q0G (hK0 _ _ ?_));clear hK0;refine q0B fun K0 hK0=>?_;refine q0A fun K hK=>?_;refine Zz2 hb2.c1 hb2.c2 ?_;refine Ck qf0 (q8u h5.man Oq hD) fun w7 hx7=>?_;replace h:=h.ext hx7;replace h5:=h5.ext hx7;replace hb2:=hb2.ext hx7;replace hD:=hD.kp hx7;replace hx:=hx.trans hx7;clear hx7
 by_cases hz:V=0
 ·have q1:(Int.sign (od V) == 0)=true:=by rw [hz]; rfl
  refine Zz1 q1 ?_;refine hK _ _ ?_; clear hK;refine Wt ?_;refine Wz ?_;refine q0L ?_
  try simp only [q0D,q0N]
  refine q0k rfl ⟨by simp [fR,hz,upd],hx⟩
 ·have hod:=q3q hz;have q1:(Int.sign (od V) == 0)=false:=by
   rcases Int.lt_or_gt_of_ne hod with h | h
   ·rw [Int.sign_eq_neg_one_of_neg h]; rfl
   ·rw [Int.sign_eq_one_of_pos h]; rfl
  refine Zz1 q1 ?_;refine hK _ _ ?_; clear hK;refine Wf (q0G (hK0 _ _ ?_));clear hK0;have hsg:s5=decide (V < 0):=by rw [h5.man.sg,q2l]
  have hm:=h5.man;refine q0B fun K hK=>?_;refine q8c q0j (Kp (fun k=>k ∉ ([]:List Nat))) (fun _ _=>False) (Kp.pre _) [true,true,true,true,true,false,true,true,true,false,false] [false,false,false,false,false,false,false,false,false,false,false] [1,1,1,1,1,0,1,1,1,1,1] (by kernel_rfl) ?_
  apply Exists.intro
  refine ⟨fun wE hE KE hKE=>?_,fun wE hE KE hKE=>?_,fun wE hxE hr=>?_⟩
  ·skip
   replace hE:=Kp.all hE;replace hb2:=hb2.ext hE;replace h:=h.ext hE;replace h5:=h5.ext hE;replace hm:=hm.ext hE;refine Zz3 hb2.c1 hb2.c2 hb2.c3 ?_;exact hKE
  ·exact hE.elim
  simp only [q1x,q1z,q1y];replace h:=h.ext hxE;replace h5:=h5.ext hxE;replace hm:=hm.ext hxE;replace hb2:=hb2.ext hxE;replace hD:=hD.kp hxE;replace hx:=hx.trans hxE;simp -implicitDefEqProofs (disch:=omega) only [go_sem,Nat.reduceEqDiff,Nat.reduceAdd,↓reduceIte,List.toList_toArray,hb2.c1,hb2.c2,hb2.c3];refine Cr qas (qd3 hm Oq hD) fun v8 w8 hx8 h8=>?_;replace h:=h.ext hx8;replace h5:=h5.ext hx8;replace hm:=hm.ext hx8;replace hb2:=hb2.ext hx8;replace hD:=hD.kp hx8;replace hx:=hx.trans hx8;replace hr:=hr.trans (Kp.of_ext hx8);clear hx8;refine ⟨hr,?_⟩;have h8':In (fB (((od V).natAbs / 1:Nat):Int)) (Dl D [g2]) v8 w8:=by rw [Nat.div_one]; exact h8
  have hp:0 < (od V).natAbs:=by omega
  refine Ck qfZ (q6N (N:=(od V).natAbs) (M:=1) (hT.ext hx) h8' Nat.one_pos hp (by rw [Nat.mod_one]; rfl) (fun h=>by cases h) (by rw [Nat.div_one]; omega) Oq Oq hD) fun w9 hx9=>?_;replace h:=h.ext hx9;replace h5:=h5.ext hx9;replace hm:=hm.ext hx9;replace h8:=h8.ext hx9;replace hb2:=hb2.ext hx9;replace hD:=hD.kp hx9;replace hx:=hx.trans hx9;clear hx9;simp only [q0n];refine hK _ _ ?_; clear hK;refine q0L ?_
  try simp only [q0D,q0N]
  refine q0k rfl ⟨by simp only [q0F,Nat.reduceEqDiff,↓reduceIte]; rw [rE_V hz,hsg]; unfold fR; rw [if_neg hz],hx⟩
theorem q58 {D:Nat→Prop} {z V mode:Int} {w:World} (hT:q1r w) (h1 : -9223372036854775808≤z) (h2:z≤9223372036854775807) (hv:mkV z 0=some V) (hf:Fr D w):Calls Tryz.prog 34 #[.int .i64 z,.int .i64 mode] w fun x w'=>x=.returned (.int .u64 (fR mode V:Nat))∧Ext w w':=by
 refine q0H Tryz.func34 rfl Tryz.ntmps34 (by kernel_rfl) ?_;have hx:Ext w w:=Kp.refl _ _;have hD:=hf;refine Wz ?_;refine q0A fun K hK=>?_;refine Zz ?_;refine Cr qnf (q59 (hT.ext hx) h1 h2 hv hD) fun v5 w5 hx5 h5=>?_;replace hD:=hD.kp hx5;replace hx:=hx.trans hx5;clear hx5;refine Ck qne (qaD (hT.ext hx) h5 hD) fun w6 hx6=>?_;replace h5:=h5.ext hx6;replace hD:=hD.kp hx6;replace hx:=hx.trans hx6;clear hx6;refine hK _ _ ?_; clear hK;refine q0L ?_
 try simp only [q0D,q0N]
 refine q0k rfl ⟨rfl,hx⟩
end Go.Proofs.YtbcmhlhgljoolaaGreatDoor
namespace Go.Sp
open Go.E
def hf (q k:Nat) (inx:Bool):Int:=if (((q % 2 ^ k:Nat):Int)-2 ^ (k-1)).sign=0∧inx=true then 1 else (((q % 2 ^ k:Nat):Int)-2 ^ (k-1)).sign
def qmT (q:Nat) (e p:Int) (inx:Bool):Nat :=
 if p≤e then q*2 ^ (e-p).toNat
 else q / 2 ^ (p-e).toNat+(if ¬ (q % 2 ^ (p-e).toNat=0∧inx=false)∧(0 < hf q (p-e).toNat inx∨(hf q (p-e).toNat inx=0∧q / 2 ^ (p-e).toNat % 2=1)) then 1 else 0)
theorem qm3 {a b:Prop} [Decidable a] [Decidable b] (h:a ↔ b) (x y:Nat):(if a then x else y)=if b then x else y:=by
 by_cases ha:a
 ·rw [if_pos ha,if_pos (h.1 ha)]
 ·rw [if_neg ha,if_neg (fun hb=>ha (h.2 hb))]
theorem qmi {N M k:Nat} (hk:0 < k):hf (N / M) k (decide (N % M≠0))=qbf N M k:=by
 have hp:2 ^ k=2 ^ (k-1)*2:=by rw [← Nat.pow_succ]; congr 1; omega
 have hp0:=q0Q (k-1);have hs:=Nat.mod_mul (x:=N / M) (a:=2 ^ (k-1)) (b:=2);rw [← hp] at hs;have hs':=Nat.mod_lt (N / M) hp0;have hb2:N / M / 2 ^ (k-1) % 2 < 2:=Nat.mod_lt _ (by omega);unfold hf qbf;rw [← q1B];generalize N / M % 2 ^ k=s at *;generalize N / M % 2 ^ (k-1)=s' at *;generalize N / M / 2 ^ (k-1) % 2=b at *;generalize N % M=r at *;generalize 2 ^ (k-1)=h at *
 by_cases hb:b=1
 ·subst hb;have hss:((s:Nat):Int)-(h:Nat)=(s':Nat):=by omega
  rw [hss,if_pos (show 0 < k∧1=1 from ⟨hk,rfl⟩)]
  by_cases h0:s'=0
  ·subst h0
   by_cases hr:r=0
   ·subst hr; simp
   ·simp [hr]
  ·have h1:(((s':Nat):Int)).sign=1:=Int.sign_eq_one_of_pos (by omega);rw [h1,if_neg (by simp),if_pos (.inr h0)]
 ·have:b=0:=by omega
  subst this;have h1:(((s:Nat):Int)-(h:Nat)).sign = -1:=Int.sign_eq_neg_one_of_neg (by omega);rw [h1,if_neg (by omega)]; simp
theorem qmS {neg:Bool} {N M:Nat} {e p:Int} (hM:0 < M) (hk:N % M≠0→e < p):qmT (N / M) e p (decide (N % M≠0))=rq 0 neg (N*2 ^ (e-p).toNat) (M*2 ^ (p-e).toNat):=by
 unfold qmT
 by_cases hpe:p≤e
 ·rw [if_pos hpe,show (p-e).toNat=0 by omega,Nat.pow_zero,Nat.mul_one];have hr:N % M=0:=by
   rcases Nat.eq_zero_or_pos (N % M) with h | h
   ·exact h
   ·have:=hk (by omega); omega
  have hd:N=N / M*M:=by have:=Nat.div_add_mod N M; rw [Nat.mul_comm] at this; omega
  rw [q5B (by rw [hd,Nat.mul_right_comm]; exact Nat.mul_mod_left _ _)]
  conv=>rhs; rw [hd,Nat.mul_right_comm,Nat.mul_div_cancel _ hM]
 ·rw [if_neg hpe,show (e-p).toNat=0 by omega,Nat.pow_zero,Nat.mul_one];have hk0:0 < (p-e).toNat:=by omega
  rw [qqH hM (fun _=>hk0),qmi hk0]
  congr 1
  unfold upS;have z1:¬ (0:Int)=1:=by omega
  have z2:¬ (0:Int)=2:=by omega
  have z3:¬ (0:Int)=3:=by omega
  simp only [z1,z2,z3,if_false,Bool.or_eq_true,Bool.and_eq_true,decide_eq_true_eq,decide_eq_false_iff_not,Decidable.not_not];refine qm3 (and_congr ?_ Iff.rfl) _ _
  constructor
  ·intro h
   by_cases h0:N / M % 2 ^ (p-e).toNat=0
   ·exact .inr fun h1=>h ⟨h0,h1⟩
   ·exact .inl h0
  ·rintro (h | h) ⟨h1,h2⟩
   ·exact h h1
   ·exact h h2
theorem q8V {N M:Nat} (hM:M≠0) {k:Nat} (h:bl M+k < bl N):k < bl (N / M):=by
 rcases Nat.lt_or_ge k (bl (N / M)) with h1 | h1
 ·exact h1
 ·exfalso
  have h2:=q2K h1;have h3:=q2o M;have h4:N < 2 ^ k*2 ^ bl M:=by
   have h5:=Nat.div_add_mod N M;have h6:=Nat.mod_lt N (show 0 < M by omega);have h7:M*(N / M)+M≤M*2 ^ k:=by rw [← Nat.mul_succ]; exact Nat.mul_le_mul_left _ h2
   have h8:M*2 ^ k≤2 ^ bl M*2 ^ k:=Nat.mul_le_mul_right _ (Nat.le_of_lt h3);rw [Nat.mul_comm (2 ^ k)]; omega
  rw [← Nat.pow_add] at h4;have:=q0T h4;omega
theorem qjV {mode:Int} {neg:Bool} {a b:Int} {k:Nat} (ha:a≠0) (hb:b≠0):rE mode neg ((od a).natAbs*2 ^ k) (od b).natAbs (dyE a-k-dyE b)=rF mode neg a.natAbs b.natAbs:=by
 have ha1:=q6Q a;have hb1:=q6Q b;have ha2:=q3q ha;have hb2:=q3q hb;have hoa:0 < (od a).natAbs:=by omega
 have hob:0 < (od b).natAbs:=by omega
 have hda:dyE a=(tz a.natAbs:Int)-65536:=by unfold dyE; rw [if_neg ha]
 have hdb:dyE b=(tz b.natAbs:Int)-65536:=by unfold dyE; rw [if_neg hb]
 unfold rE;refine q5H (Nat.mul_pos (Nat.mul_pos hoa (q0Q _)) (q0Q _)) (Nat.mul_pos hob (q0Q _)) (by omega) (by omega) ?_;rw [hda,hdb];generalize tz a.natAbs=x at *;generalize tz b.natAbs=y at *;generalize (od a).natAbs=p at *;generalize (od b).natAbs=r at *;rw [← ha1,← hb1];have e1:p*2 ^ k*2 ^ (((x:Int)-65536-k-((y:Int)-65536)).toNat)*(r*2 ^ y)=p*r*2 ^ (k+((x:Int)-65536-k-((y:Int)-65536)).toNat+y):=by
  rw [Nat.pow_add,Nat.pow_add];simp only [Nat.mul_assoc,Nat.mul_left_comm,Nat.mul_comm]
 have e2:p*2 ^ x*(r*2 ^ (-((x:Int)-65536-k-((y:Int)-65536))).toNat)=p*r*2 ^ (x+(-((x:Int)-65536-k-((y:Int)-65536))).toNat):=by
  rw [Nat.pow_add];simp only [Nat.mul_assoc,Nat.mul_left_comm,Nat.mul_comm]
 rw [e1,e2]
 congr 2
 omega
end Go.Sp
namespace Go.Proofs.YtbcmhlhgljoolaaGreatDoor
open Go Go.E Go.Sp
abbrev reT (neg:Bool) (q:Nat) (e:Int) (inx:Bool):PV:=.ag [bv neg,bv false,.fm (fL q),iv e,bv inx]
section
variable {neg inx:Bool} {q k:Nat} {e p:Int}
theorem qgH (hb:bl q≤1000000) (he1 : -1000000≤e) (he2:e≤1000000):ACt 185 [reT neg q e inx] (iv (e+bl q-1)):=by
 have C1:=@q3X;refine ac0 Tryz.func185 Tryz.ntmps185 [.tmp 2] ?_;exact wk trivial
theorem qky (hq:q≠0) (hb:bl q≤1000000) (hk:0 < k) (hk2:k≤5000000):ACt 240 [reT neg q e inx,iv k] (.tu [bT (q / 2 ^ k:Nat),iv (Go.Sp.hf q k inx),bv (decide (q % 2 ^ k=0) && !inx)]):=by
 have C1:=@q3X
 by_cases hkb:bl q < k
 ·have hqp:=q2o q;have hp1:2 ^ bl q≤2 ^ (k-1):=Nat.pow_le_pow_right (by omega) (by omega);have hp2:2 ^ (k-1)≤2 ^ k:=Nat.pow_le_pow_right (by omega) (by omega);have hmod:q % 2 ^ k=q:=Nat.mod_eq_of_lt (by omega);have hdiv:q / 2 ^ k=0:=Nat.div_eq_of_lt (by omega);have hhf:Go.Sp.hf q k inx = -1:=by
   unfold Go.Sp.hf;have:(((q % 2 ^ k:Nat):Int)-2 ^ (k-1)).sign = -1:=by
    refine Int.sign_eq_neg_one_of_neg ?_;rw [hmod,← q1B]; omega
   rw [this]; simp
  have hex:(decide (q % 2 ^ k=0) && !inx)=false:=by rw [hmod,decide_eq_false hq]; rfl
  rw [hdiv,hhf,hex];refine ac0 Tryz.func240 Tryz.ntmps240 [.cell 4 72,.tmp 5,.tmp 6] ?_;exact wk trivial
 ·have C2:=@q78;have C3:=@q4s;have C4:=@qma;have C5:=@q3a;have C6:=@qmf;have C7:=@q3u;have hsh:shI ((q:Nat):Int) (-(k:Int))=((q / 2 ^ k:Nat):Int):=by
   unfold shI; rw [if_neg (by omega),show (- -(k:Int)).toNat=k by omega,← q1B]; rfl
  have hql:bl (q / 2 ^ k)≤1000000:=Nat.le_trans (q0b (Nat.div_le_self _ _)) hb;have hsl:shI ((q / 2 ^ k:Nat):Int) (k:Int)=((q / 2 ^ k*2 ^ k:Nat):Int):=by
   unfold shI; rw [if_pos (by omega),Int.toNat_natCast,← q1B]; simp
  have hbm:bl (q / 2 ^ k*2 ^ k)≤1000000:=Nat.le_trans (q0b (Nat.div_mul_le_self _ _)) hb;have hrs:((q:Nat):Int)-((q / 2 ^ k*2 ^ k:Nat):Int)=((q % 2 ^ k:Nat):Int):=by
   have:=Nat.div_add_mod q (2 ^ k);rw [Nat.mul_comm] at this; omega
  have hbr:bl (q % 2 ^ k)≤1000000:=Nat.le_trans (q0b (Nat.mod_le _ _)) hb;have hs1:shI 1 ((k:Int)-1)=(2:Int) ^ (k-1):=by
   unfold shI; rw [if_pos (by omega),show ((k:Int)-1).toNat=k-1 by omega,Int.one_mul]
  have hb1:bl ((2:Int) ^ (k-1)).natAbs≤k:=by
   rw [q6R]; exact q0T (Nat.pow_lt_pow_right (by omega) (by omega))
  have hb2:bl (1:Int).natAbs≤1:=by show bl 1≤_; rw [q5r]; omega
  have sE:(((q % 2 ^ k:Nat):Int).sign == 0)=decide (q % 2 ^ k=0):=by
   by_cases h0:q % 2 ^ k=0
   ·rw [h0]; rfl
   ·rw [decide_eq_false h0,beq_eq_false_iff_ne];intro h; exact h0 (by have:=Int.sign_eq_zero_iff_zero.1 h; omega)
  have hhf:Go.Sp.hf q k inx=if (((q % 2 ^ k:Nat):Int)-2 ^ (k-1)).sign=0∧inx=true then 1 else (((q % 2 ^ k:Nat):Int)-2 ^ (k-1)).sign:=rfl
  rw [hhf];generalize hr:q % 2 ^ k=r at *;generalize hz:q / 2 ^ k=z at *;generalize hw:z*2 ^ k=zw at *;generalize hP:(2:Int) ^ (k-1)=P at *;refine ac0 Tryz.func240 Tryz.ntmps240 [.cell 4 72,.tmp 5,.tmp 6] ?_;refine wk1 (x4 hsh hsl hrs hs1) ?_
  by_cases hS:((r:Int)-P).sign=0
  ·rw [hS];cases inx
   ·rw [if_neg fun h=>Bool.noConfusion h.2]
    by_cases h0:r=0
    ·exact wk1 (x2 sE (decide_eq_true h0)) trivial
    ·exact wk1 (x2 sE (decide_eq_false h0)) trivial
   ·rw [if_pos ⟨rfl,rfl⟩]
    by_cases h0:r=0
    ·exact wk1 (x2 sE (decide_eq_true h0)) trivial
    ·exact wk1 (x2 sE (decide_eq_false h0)) trivial
  ·rw [if_neg fun h=>hS h.1]
   by_cases h0:r=0
   ·exact wk1 (x2 sE (decide_eq_true h0)) trivial
   ·exact wk1 (x2 sE (decide_eq_false h0)) trivial
theorem qgG (hq:q≠0) (hb:bl q≤900000) (he1 : -900000≤e) (he2:e≤900000) (hp1 : -100000≤p) (hp2:p≤1000000):ACt 188 [reT neg q e inx,iv p,iv 0] (bT (sgn neg (qmT q e p inx))):=by
 have C1:=@q4s;have C2:=@q9I;have s0:∀ n:Nat,sgn false n=n:=fun n=>rfl;have s1:∀ n:Nat,sgn true n = -(n:Int):=fun n=>rfl
 by_cases hpe:p≤e
 ·have hsl:shI ((q:Nat):Int) (e-p)=((q*2 ^ (e-p).toNat:Nat):Int):=by
   unfold shI; rw [if_pos (by omega),← q1B]; simp
  have hbq:bl (q*2 ^ (e-p).toNat)≤2000000:=by rw [q1e hq]; omega
  rw [show qmT q e p inx=q*2 ^ (e-p).toNat from if_pos hpe];generalize q*2 ^ (e-p).toNat=z at *;refine ac0 Tryz.func188 Tryz.ntmps188 [.cell 6 72] ?_;cases neg
  ·exact wk1 (x2 hsl s0) trivial
  ·exact wk1 (x2 hsl s1) trivial
 ·obtain ⟨k,hk⟩:∃ k:Nat,p-e=k:=⟨(p-e).toNat,by omega⟩;have hbq:bl (q / 2 ^ k)≤2000000:=Nat.le_trans (q0b (Nat.div_le_self _ _)) (by omega);have C3:=qky (neg:=neg) (inx:=inx) (e:=e) (q:=q) (k:=k) hq (by omega) (by omega) (by omega);have C4:=@q3a;have C5:=@qeH;have C6:=@q3u;have C7:=@qjk;have hb2:bl (1:Int).natAbs≤1:=by show bl 1≤_; rw [q5r]; omega
  have hm:qmT q e p inx=q / 2 ^ k+(if ¬ (q % 2 ^ k=0∧inx=false)∧(0 < Go.Sp.hf q k inx∨(Go.Sp.hf q k inx=0∧q / 2 ^ k % 2=1)) then 1 else 0):=by
   unfold qmT; rw [if_neg hpe,show (p-e).toNat=k by omega]
  generalize qmT q e p inx=m at *;generalize Go.Sp.hf q k inx=H at *;generalize hr:q % 2 ^ k=r at *;generalize hz:q / 2 ^ k=z at *;have hbz:bl ((z:Int)+1).natAbs≤2000001:=by
   have:=q3O (k:=2000000) (a:=z) (b:=1) (by omega) (by rw [q5r]; omega);exact this
  have e2:((z+1:Nat):Int)=(z:Int)+1:=rfl;refine ac0 Tryz.func188 Tryz.ntmps188 [.cell 6 72] ?_
  by_cases hex:r=0∧inx=false
  ·have f:(decide (r=0) && !inx)=true:=by simp [hex]
   rw [if_neg fun h=>h.1 hex,Nat.add_zero] at hm;subst hm;cases neg
   ·exact wk1 (x3 hk f s0) trivial
   ·exact wk1 (x3 hk f s1) trivial
  ·have f:(decide (r=0) && !inx)=false:=by
    rw [Bool.and_eq_false_iff]
    by_cases h:r=0
    ·exact .inr (by cases inx <;> simp_all)
    ·exact .inl (decide_eq_false h)
   by_cases hh:0 < H
   ·rw [if_pos ⟨hex,.inl hh⟩] at hm;subst hm;cases neg
    ·exact wk1 (x4 hk f s0 e2) trivial
    ·exact wk1 (x4 hk f s1 e2) trivial
   ·by_cases h0:H=0
    ·by_cases hodd:z % 2=1
     ·rw [if_pos ⟨hex,.inr ⟨h0,hodd⟩⟩] at hm;subst hm;have q3:(((z:Nat):Int).sign != 0)=true:=by rw [Int.sign_eq_one_of_pos (by omega)]; rfl
      have q4:(((tz z:Nat):Int) == 0)=true:=by rw [q9f hodd]; rfl
      cases neg
      ·exact wk1 (x6 hk f q3 q4 s0 e2) trivial
      ·exact wk1 (x6 hk f q3 q4 s1 e2) trivial
     ·rw [if_neg fun h=>h.2.elim hh fun h=>hodd h.2,Nat.add_zero] at hm;subst hm
      by_cases hz0:m=0
      ·have q3:(((m:Nat):Int).sign != 0)=false:=by rw [hz0]; rfl
       cases neg
       ·exact wk1 (x4 hk f q3 s0) trivial
       ·exact wk1 (x4 hk f q3 s1) trivial
      ·have q3:(((m:Nat):Int).sign != 0)=true:=by rw [Int.sign_eq_one_of_pos (by omega)]; rfl
       have q4:(((tz m:Nat):Int) == 0)=false:=by
        rw [q8W];refine decide_eq_false fun h0=>hodd ?_;obtain ⟨r,hr,he⟩:=q2z hz0;rw [h0,Nat.pow_zero,Nat.mul_one] at he;omega
       cases neg
       ·exact wk1 (x5 hk f q3 q4 s0) trivial
       ·exact wk1 (x5 hk f q3 q4 s1) trivial
    ·rw [if_neg fun h=>h.2.elim hh fun h=>h0 h.1,Nat.add_zero] at hm;subst hm;cases neg
     ·exact wk1 (x3 hk f s0) trivial
     ·exact wk1 (x3 hk f s1) trivial
end
theorem qcM {a b:Int} (hA:q1K a) (hB:q1K b) (ha:a≠0) (hb:b≠0):∃ k:Nat,(bl (od b).natAbs+58 < bl ((od a).natAbs*2 ^ k)∧k≤140000∧bl ((od a).natAbs*2 ^ k)≤140000) ∧
  ACt 126 [dT a,dT b,iv 56] (reT (decide (a < 0) != decide (b < 0)) ((od a).natAbs*2 ^ k / (od b).natAbs) (dyE a-k-dyE b) (decide ((od a).natAbs*2 ^ k % (od b).natAbs≠0))):=by
 obtain ⟨ha1,ha2,ha3⟩:=q19 hA;obtain ⟨hb1,hb2,hb3⟩:=q19 hB;have hoa:=q3q ha;have hob:=q3q hb;rw [← q2l a,← q2l b];have C1:=@q3X;have C2:=@qeI;have C3:=@q4s;have C4:=@qbd;have C5:=@q3u;obtain ⟨p,hp⟩:∃ p,(od a).natAbs=p:=⟨_,rfl⟩;obtain ⟨r,hr⟩:∃ r,(od b).natAbs=r:=⟨_,rfl⟩;have hbp:=hp ▸ ha3;have hbr:=hr ▸ hb3;rw [hp,hr];have hp0:p≠0:=by omega
 have hr0:r≠0:=by omega
 obtain ⟨k,hk⟩:∃ k:Nat,max 0 (56+3+((bl r:Nat):Int)-((bl p:Nat):Int))=k:=⟨(max 0 (56+3+((bl r:Nat):Int)-((bl p:Nat):Int))).toNat,by omega⟩;have hbN:bl (p*2 ^ k)=bl p+k:=q1e hp0 k;refine ⟨k,⟨by omega,by omega,by omega⟩,?_⟩;have hsh:shI ((p:Nat):Int) (k:Int)=((p*2 ^ k:Nat):Int):=by
  unfold shI; rw [if_pos (by omega),Int.toNat_natCast,← q1B]; simp
 have hml:bl (p*2 ^ k % r)≤300000:=Nat.le_trans (q0b (Nat.mod_le _ _)) (by omega);have sE:(((p*2 ^ k % r:Nat):Int).sign != 0)=decide (p*2 ^ k % r≠0):=by
  by_cases h0:p*2 ^ k % r=0
  ·rw [h0]; rfl
  ·rw [decide_eq_true h0,bne_iff_ne];intro h; exact h0 (by have:=Int.sign_eq_zero_iff_zero.1 h; omega)
 refine ac0 Tryz.func126 Tryz.ntmps126 [.cell 6 155] ?_;exact wk1 (x6 hp hr @qja hk hsh sE) trivial
theorem clD {l:List Int}:ClL (l.map fun x=>dT x):=fun x hx=>by
 obtain ⟨z,_,rfl⟩:=List.mem_map.1 hx;intro y hy;simp at hy
 rcases hy with rfl | rfl | rfl | rfl <;> trivial
theorem qkv {l:List Int} (hn:l.length≤1000) (ho:∀ x ∈ l,q1K x) (hv:q1K (q1b l)):ACt 127 [.sl (some 4) (l.map fun V=>pV V)] (dT (q1b l)):=by
 refine ac0 Tryz.func127 Tryz.ntmps127 [.cell 2 74] ?_;refine wk ?_;refine q0K (fun q:Nat × Int=>q.1≤l.length ∧ -65536≤q.2∧q.2≤0∧∀ x ∈ l.take q.1,q.2≤dyE x) [0,2,12,13] [2] Lk Lk (fun q=>[(14,iv q.1),(4,iv q.2),(3,.ow 1001 (some 4) 0 q.1)]) (fun q=>[(1001,⟨74,some 4,(l.take q.1).map fun x=>dT x,false⟩)]) (fun q=>l.length-q.1) (0,0) ⟨Nat.zero_le _,by omega,by omega,fun x hx=>by simp at hx⟩ ?_ ?_
 ·refine LeM [(1001,none)] rfl rfl ?_;refine Zz ?_
  rfl
 ·rintro ⟨i,lo⟩ ⟨hi,hlo1,hlo2,hmin⟩;simp only at hi hlo1 hlo2 hmin ⊢
  by_cases hlt:i < l.length
  ·obtain ⟨x,hxi⟩:∃ x,l[i]?=some x:=⟨_,List.getElem?_eq_getElem (by omega)⟩;have hox:=ho x (List.mem_of_getElem? hxi);obtain ⟨hd1,hd2,hd3⟩:=q19 hox;have C1:=qtY (by kernel_rfl) fun h=>qbL h (V:=x);have htk:l.take (i+1)=l.take i ++ [x]:=by
    obtain ⟨hlt,he⟩:=List.getElem?_eq_some_iff.1 hxi;rw [List.take_succ_eq_append_getElem hlt,he]
   have ht:(l.take i).length=i:=by rw [List.length_take]; omega
   refine wk1 (x3 hxi @qj9 ht) ?_;refine ⟨(i+1,min lo (dyE x)),⟨by simp only; omega,by simp only; omega,by simp only; omega,fun y hy=>?_⟩,by simp only; omega,?_⟩
   ·simp only at hy ⊢;rw [htk] at hy
    rcases List.mem_append.1 hy with hy | hy
    ·have:=hmin y hy; omega
    ·simp at hy; subst hy; omega
   ·simp only;refine LeM [(1001,some 33)] rfl rfl ?_;refine Zz ?_;exact ⟨by omega,q0q (by rw [htk,List.map_append]; rfl) clD⟩
  ·obtain rfl:i=l.length:=by omega
   rw [List.take_length] at hmin;refine wk ?_;refine q0K (fun q:Nat × Int=>q.1≤l.length∧q.2*(2:Int) ^ (lo+65536).toNat=q1b (l.take q.1)) [2,4,9,35,36] [2,1001] Lk Lk (fun q=>[(37,iv q.1)]) (fun q=>[(9,⟨72,some 2,[bT q.2],false⟩)]) (fun q=>l.length-q.1) (0,0) ⟨Nat.zero_le _,by rw [Int.zero_mul]; rfl⟩ ?_ ?_
   ·refine LeM [] rfl rfl ?_;refine Zz ?_;exact ⟨rfl,rfl,q0q rfl clD⟩
   ·rintro ⟨j,tot⟩ ⟨hj,hs⟩;simp only at hj hs ⊢;have hbs:=qjK (i:=j) ho (by omega);have hbt:=q4C hs
    by_cases hlt:j < l.length
    ·obtain ⟨x,hxi⟩:∃ x,l[j]?=some x:=⟨_,List.getElem?_eq_getElem (by omega)⟩;have hox:=ho x (List.mem_of_getElem? hxi);obtain ⟨hd1,hd2,hd3⟩:=q19 hox;have hst:=q5Y l j x hxi;have hlo:=hmin x (List.mem_of_getElem? hxi);have hsh:shI (od x) (dyE x-lo)=od x*(2:Int) ^ (dyE x-lo).toNat:=by unfold shI; rw [if_pos (by omega)]
     have hlf:=qmN (V:=x) (E:=lo) (by omega) (by omega);have hb12:=q4C hlf;have hbx:bl x.natAbs≤131072:=hox;have C1:=@q4s;have C2:=@qeH;refine wk1 (x2 hxi hsh) ?_;refine ⟨(j+1,tot+od x*(2:Int) ^ (dyE x-lo).toNat),⟨by simp only; omega,by simp only; rw [hst,Int.add_mul,hs,hlf]⟩,by simp only; omega,?_⟩;simp only;refine LeM [] rfl rfl ?_;refine Zz ?_;exact ⟨by omega,q0q rfl clD⟩
    ·obtain rfl:j=l.length:=by omega
     rw [List.take_length] at hs hbs hbt;have C1:=@q61;have hmk:mkV tot lo=some (q1b l):=by rw [q6x (by omega) hs]; exact q3r hv
     exact wk trivial
theorem fOk {f:Nat} {V:Int} (hv:ofF f=some V):q1K V:=by
 have hfin:q0f f:=fun h=>by unfold ofF at hv; rw [if_pos h] at hv; cases hv
 obtain ⟨V',hv',hmk⟩:=q8z hfin;rw [hv] at hv'; cases hv';exact (qaP hmk).2.2.2
section
variable {f:Nat} {neg:Bool}
theorem q8L (hf:f < 18446744073709551616):ACt 128 [uv f] (.tu [iv (f / 4503599627370496 % 2048:Nat),uv (f % 4503599627370496:Nat)]):=by
 have h1:=q5Q (a:=f / 4503599627370496) (by omega);have h2:=q7U hf;refine ac0 Tryz.func128 Tryz.ntmps128 [.tmp 2,.tmp 3] ?_;exact wk1 (x2 h1 h2) trivial
theorem qnG (hf:f < 18446744073709551616):ACt 130 [uv f] (bv (decide (9223372036854775808≤f))):=by
 have h2:=qde hf;refine ac0 Tryz.func130 Tryz.ntmps130 [.tmp 2] ?_;exact wk1 h2 trivial
theorem q6V (hf:f < 9223372036854775808):ACt 189 [uv f,bv neg] (uv (sb neg f:Nat)):=by
 have h:=qda hf;refine ac0 Tryz.func189 Tryz.ntmps189 [.tmp 4] ?_;cases neg
 ·exact wk1 (show sb false f=f from rfl) trivial
 ·exact wk1 (x2 h (show sb true f=f+9223372036854775808 from rfl)) trivial
theorem q9V (hf:f < 18446744073709551616):ACt 63 [uv f] (bv (decide (q0f f))):=by
 have C1:=q8L hf;have h2:(((f / 4503599627370496 % 2048:Nat):Int) != 2047)=decide (q0f f):=bneN (b:=2047);refine ac0 Tryz.func63 Tryz.ntmps63 [.tmp 2] ?_;exact wk1 h2 trivial
theorem qiB:ACt 190 [bv neg,iv 0] (uv (qaK 0 neg:Nat)):=by
 have C1:=q6V (f:=9218868437227405312) (neg:=neg) (by omega);have e:qaK 0 neg=sb neg 9218868437227405312:=by simp [qaK]
 refine ac0 Tryz.func190 Tryz.ntmps190 [.tmp 4] ?_;exact wk1 e trivial
theorem qjt {V:Int} (hf:f < 18446744073709551616) (hv:ofF f=some V):ACt 62 [uv f] (dT V):=by
 have hfin:q0f f:=fun h=>by unfold ofF at hv; rw [if_pos h] at hv; cases hv
 obtain ⟨V',hv',hmk⟩:=q8z hfin;rw [hv] at hv'; cases hv';have C1:=q8L hf;have C2:=qnG hf;have C3:=@q3a;have C4:=@q9I;have C5:=@q61;have hxm:=Nat.mod_lt (f / 4503599627370496) (show 0 < 2048 by omega);have hm:=Nat.mod_lt f (show 0 < 4503599627370496 by omega);unfold q0f at hfin;generalize f / 4503599627370496 % 2048=x at *;generalize f % 4503599627370496=m at *;generalize decide (9223372036854775808≤f)=sg at *;have h4:=qj0 hm;obtain ⟨M,hM⟩:∃ M,M=if x=0 then m else 4503599627370496+m:=⟨_,rfl⟩
 have hMl:M < 9007199254740992:=by rw [hM]; split <;> omega
 have hbl:bl M≤53:=q0T (show M < 2 ^ 53 by omega);have hbn:bl (-(M:Int)).natAbs≤53:=by rw [Int.natAbs_neg]; exact hbl
 refine ac0 Tryz.func62 Tryz.ntmps62 [.cell 2 74] ?_
 by_cases hx0:x=0
 ·rw [if_pos hx0] at hM;subst hM;rw [if_pos hx0,if_pos hx0] at hmk;cases sg
  ·exact wk trivial
  ·exact wk trivial
 ·rw [if_neg hx0] at hM;rw [if_neg hx0,if_neg hx0,← hM] at hmk;rw [← hM] at h4;cases sg
  ·exact wk1 h4 trivial
  ·exact wk1 h4 trivial
end
theorem qme {a:Int} {s:Bool} (hs:s=decide (a < 0)) (h0:0≤a) (ha:a≤9223372036854775807):ACt 186 [sT s a] (.tu [iv a,bv true]):=q1L (r:=.vl (.tuple #[.int .i64 a,.bool true])) (fun D w v h=>by
 rw [q3F h];unfold Rd;refine ⟨_,rfl,?_⟩;unfold RdL;exact ⟨_,_,rfl,q3E,RdL.one q3E⟩) (B1c hs fun _ _ _ _ h _=>qrH h h0 ha)
theorem q9U {N M:Nat} {neg:Bool} {e:Int} (hM:0 < M) (hN:M≤N) (hmb:N % M≠0→55≤bl (N / M)) (hb:bl (N / M)≤200000) (he1 : -400000≤e) (he2:e≤400000):ACt 125 [reT neg (N / M) e (decide (N % M≠0)),iv 0] (uv (rE 0 neg N M e:Nat)):=by
 have hp:=Nat.div_pos hN hM;have hL1:=q4D (n:=N / M) (by omega);have hval:=qd0 (mode:=0) (neg:=neg) (e:=e) hM hN;have hnle:=qlw (mode:=0) (neg:=neg) (e:=e) (q:=max (e+(bl (N / M):Int)-53) (-1074)) hM hN (by omega);have hmul:=qmS (neg:=neg) (e:=e) (p:=max (e+(bl (N / M):Int)-53) (-1074)) hM (fun h=>by have:=hmb h; omega);have C1:=qgH (neg:=neg) (q:=N / M) (e:=e) (inx:=decide (N % M≠0)) (by omega) (by omega) (by omega);obtain ⟨L,hL⟩:∃ L,bl (N / M)=L:=⟨_,rfl⟩;rw [hL] at hmb hb hval hnle hmul hL1 C1;obtain ⟨q,hq⟩:∃ q,max (e+(L:Int)-53) (-1074)=q:=⟨_,rfl⟩;rw [hq] at hval hnle hmul;have hq':max (e+(L:Int)-1-52) (-1074)=q:=by omega
 have C2:=qgG (neg:=neg) (inx:=decide (N % M≠0)) (q:=N / M) (e:=e) (p:=q) (by omega) (by omega) (by omega) (by omega) (by omega) (by omega);rw [hmul] at C2;obtain ⟨r,hr⟩:∃ r,rq 0 neg (N*2 ^ (e-q).toNat) (M*2 ^ (q-e).toNat)=r:=⟨_,rfl⟩;rw [hr] at hval hnle C2;have hbr:bl r≤54:=q0T (Nat.lt_of_le_of_lt hnle (by decide));have hsn:=q1M neg r;have hbs:bl (sgn neg r).natAbs≤54:=by rw [hsn]; exact hbr
 have C3:=@qeI;have C4:=@qme;have C5:=@q6V;have C6:=@qiB;have e2:IntKind.u64.wrap ((r:Nat):Int)=r:=u64_in (by omega) (by omega);rw [hval];generalize N / M=d at *;generalize decide (N % M≠0)=ix at *;clear hmul hmb hp hval hr;unfold Go.Sp.fin Go.Sp.fin2;have comp:∀ (q2:Int) (n2:Nat),0≤q2+1075→¬ 2047≤q2+1075→4503599627370496≤n2→n2 < 9007199254740992→∃ x:Nat,q2+1075=x∧(q2+1075).toNat=x∧IntKind.u64.wrap (x:Int)=x∧(q0y Tryz.prog .shl 30 (.int .u64 (x:Int)) (.int .u64 52)=some (.int .u64 ((x*4503599627370496:Nat):Int)))∧IntKind.u64.wrap ((n2:Int)-4503599627370496)=((n2-4503599627370496:Nat):Int)∧q1I .or .u64 ((x*4503599627370496:Nat):Int) ((n2-4503599627370496:Nat):Int)=((x*4503599627370496+(n2-4503599627370496):Nat):Int)∧x*4503599627370496+(n2-4503599627370496) < 9223372036854775808:=fun q2 n2 h1 h2 h3 h4 =>
  ⟨(q2+1075).toNat,by omega,rfl,u64_in (by omega) (by omega),q9v (by omega),by rw [u64_in (by omega) (by omega)]; omega,qj1 (by omega) (by omega),by omega⟩
 refine ac0 Tryz.func125 Tryz.ntmps125 [.tmp 4] ?_
 by_cases h53:r=9007199254740992
 ·rw [if_pos h53,if_neg (by omega)]
  by_cases hov:2047≤q+1+1075
  ·rw [if_pos hov];exact wk1 (x3 hq' hsn e2) trivial
  ·rw [if_neg hov];obtain ⟨x,f1,f2,f3,f4,f5,f6,f7⟩:=comp (q+1) 4503599627370496 (by omega) hov (by omega) (by omega);rw [f2,Nat.sub_self,Nat.add_zero];rw [Nat.sub_self,Nat.add_zero] at f6 f7;replace f5:IntKind.u64.wrap (4503599627370496-4503599627370496)=0:=f5;replace f6:q1I .or .u64 ((x*4503599627370496:Nat):Int) 0=((x*4503599627370496:Nat):Int):=f6;exact wk1 (x6 hq' hsn e2 f1 f3 (x3 f4 f5 f6)) trivial
 ·rw [if_neg h53]
  by_cases h52:r < 4503599627370496
  ·rw [if_pos h52];exact wk1 (x3 hq' hsn e2) trivial
  ·rw [if_neg h52]
   by_cases hov:2047≤q+1075
   ·rw [if_pos hov];exact wk1 (x3 hq' hsn e2) trivial
   ·rw [if_neg hov];obtain ⟨x,f1,f2,f3,f4,f5,f6,f7⟩:=comp q r (by omega) hov (by omega) (by omega);rw [f2];exact wk1 (x6 hq' hsn e2 f1 f3 (x3 f4 f5 f6)) trivial
theorem qnF {a b:Int} (hA:q1K a) (hB:q1K b) (hb0:b≠0):ACt 60 [dT a,dT b,iv 0] (uv (fQ 0 a b:Nat)):=by
 have C1:=q9d hA;have C2:=q9d hB;have C3:=q4r hA;have C4:=q4r hB;have q1:(b.sign == 0)=false:=by
  rw [beq_eq_false_iff_ne]; intro h; exact hb0 (Int.sign_eq_zero_iff_zero.1 h)
 refine ac0 Tryz.func60 Tryz.ntmps60 [.tmp 6] ?_
 by_cases ha0:a=0
 ·have q2:(a.sign == 0)=true:=by rw [ha0]; rfl
  rw [show ((fQ 0 a b:Nat):Int)=0 by rw [show fQ 0 a b=0 from if_pos ha0]; rfl];exact wk1 (x2 q1 q2) trivial
 ·have q2:(a.sign == 0)=false:=by
   rw [beq_eq_false_iff_ne]; intro h; exact ha0 (Int.sign_eq_zero_iff_zero.1 h)
  obtain ⟨k,⟨c1,c2,c3⟩,C5⟩:=qcM hA hB ha0 hb0;have hob:=q3q hb0;have hd1:=q19 hA;have hd2:=q19 hB;have hge:=q8V (N:=(od a).natAbs*2 ^ k) (M:=(od b).natAbs) (by omega) (k:=57) (by omega);have hle:bl ((od a).natAbs*2 ^ k / (od b).natAbs)≤140000:=Nat.le_trans (q0b (Nat.div_le_self _ _)) c3;have hMN:(od b).natAbs≤(od a).natAbs*2 ^ k:=by
   rcases Nat.lt_or_ge ((od a).natAbs*2 ^ k) (od b).natAbs with h | h
   ·have:=q0b (Nat.le_of_lt h); omega
   ·exact h
  have C6:=q9U (neg:=decide (a < 0) != decide (b < 0)) (e:=dyE a-k-dyE b) (by omega) hMN (fun _=>by omega) (by omega) (by omega) (by omega);rw [qjV ha0 hb0,show rF 0 (decide (a < 0) != decide (b < 0)) a.natAbs b.natAbs=fQ 0 a b from (if_neg ha0).symm] at C6;exact wk1 (x2 q1 q2) trivial
end Go.Proofs.YtbcmhlhgljoolaaGreatDoor
namespace Go.E
open Go
section
variable {G:Fam} {D:Nat→Prop} {A:Option Addr} {v:Value} {w w':World} {L:List Nat} {α:Type} {H:α→Fam} {T sz B n c:Nat} {l:List α}
theorem q3f.blk_lt (h:q3f H T sz w D B A n c l):∀ a,A=some a→a.block < w.heap.size∧B≤a.block:=by
 obtain ⟨vs,h1,_⟩:=h;exact h1.blk_lt
theorem q3f.nb (h:q3f H T sz w D B A n c l) {k:Nat} (hk:k < B):nb A k:=fun a ha=>by have:=h.blk_lt a ha; omega
theorem q3f.under {w0:World} (h:q3f H T sz w D B A n c l) (hx:Ext w0 w) (k:Kp (Go.E.nb A) w w') (hB:w0.heap.size≤B):Ext w0 w':=hx.under k fun j hj=>h.nb (by omega)
end
end Go.E
namespace Go.Proofs.YtbcmhlhgljoolaaGreatDoor
open Go Go.E Go.Sp
theorem qs5 (a b c d:Value):bsV Tryz.prog 125 1 [(0,.agg #[a,b,c,d])]=some (74,#[a,b,c,d]):=by
 unfold bsV;simp only [qem];have hr:Array.range 4=#[0,1,2,3]:=rfl;simp [Instr.fill,Value.cells,hr]
section
variable {f:Nat} {w:World}
theorem qgv (hf:f < 18446744073709551616):Calls Tryz.prog 128 #[.int .u64 f] w fun e w'=>e=.returned (.tuple #[.int .i64 (f / 4503599627370496 % 2048:Nat),.int .u64 (f % 4503599627370496:Nat)])∧w=w':=by
 refine q0H Tryz.func128 rfl Tryz.ntmps128 (by kernel_rfl) ?_;refine Wz ?_;have h1:=q5Q (a:=f / 4503599627370496) (by omega);have h2:=q7U (a:=f) hf;have h3:IntKind.i64.wrap ((f / 4503599627370496 % 2048:Nat):Int)=((f / 4503599627370496 % 2048:Nat):Int):=i64_in (by omega) (by omega);refine Wz3 h1 h2 h3 ?_;refine q0L ?_
 try simp only [q0D,q0N]
 refine q8s rfl ⟨by simp only [q0F,Nat.reduceEqDiff,↓reduceIte],rfl⟩
theorem q8M (hf:f < 18446744073709551616):Calls Tryz.prog 63 #[.int .u64 f] w fun e w'=>e=.returned (.bool (decide (q0f f)))∧w=w':=by
 refine q0H Tryz.func63 rfl Tryz.ntmps63 (by kernel_rfl) ?_;refine Wz ?_;refine q0A fun K hK=>?_;refine Zz ?_;refine q0E qk7 (qgv hf) ?_;rintro _ _ ⟨rfl,rfl⟩; refine ⟨_,rfl,?_⟩;have h2:(((f / 4503599627370496 % 2048:Nat):Int) != 2047)=decide (q0f f):=bneN (b:=2047);refine Zz ?_;refine hK _ _ ?_; clear hK;refine Wz1 h2 ?_;refine q0L ?_
 try simp only [q0D,q0N]
 refine q0k rfl ⟨by simp only [q0F,Nat.reduceEqDiff,↓reduceIte],rfl⟩
end
section
variable {g:FuncId} {al:List PV} {vs:List Value} {V:Int} {c:Value} {D:Nat→Prop} {w:World} {v v':Value} {a b:Int}
theorem acV (h:ACt g al (dT V)) (ho:q1K V) (hT:q1r w) (hF:Fr D w) (hR:RdL w D al (fun _=>none) h0 vs):Calls Tryz.prog g vs.toArray w (Rt (fV V) D w):=(h.2 D w vs hT hF hR).mono fun x w' ⟨v,h1,h2,h3⟩=>⟨v,h1,h2,q3p.1 ⟨h3,ho⟩⟩
theorem acK (h:ACt g al (.vl c)) (hT:q1r w) (hF:Fr D w) (hR:RdL w D al (fun _=>none) h0 vs):Calls Tryz.prog g vs.toArray w fun e w'=>e=.returned c∧Ext w w':=(h.2 D w vs hT hF hR).mono fun x w' ⟨v,h1,h2,h3⟩=>⟨by rw [h1,q3F h3],h2⟩
theorem rdV (h:In (fV V) D v w):Rd w D (dT V) (fun _=>none) h0 v:=(q3p.2 h).1
theorem RdL.two {x y:PV} (h1:Rd w D x (fun _=>none) h0 v) (h2:Rd w D y (fun _=>none) h0 v'):RdL w D [x,y] (fun _=>none) h0 [v,v']:=by
 unfold RdL;exact ⟨_,_,rfl,h1,RdL.one h2⟩
theorem qiC {f:Nat} (hT:q1r w) (hf:f < 18446744073709551616) (hv:ofF f=some V) (hfr:Fr D w):Calls Tryz.prog 62 #[.int .u64 f] w (Rt (fV V) D w):=acV (qjt hf hv) (fOk hv) hT hfr (RdL.one q3E)
theorem qsB (hT:q1r w) (h:In (fV a) D v w) (h':In (fV b) D v' w) (hv:mkV (a*b) (-131072)=some V) (hf:Fr D w):Calls Tryz.prog 134 #[v,v'] w (Rt (fV V) D w):=acV (qkx h.ok h'.ok hv) (qaP hv).2.2.2 hT hf (RdL.two (rdV h) (rdV h'))
theorem qsA (hT:q1r w) (h:In (fV V) D v w) (hf:Fr D w):Calls Tryz.prog 133 #[v] w (Rt (fV (-V)) D w):=acV (qkw h.ok) (qad h.ok) hT hf (RdL.one (rdV h))
theorem qr1 (hT:q1r w) (h:In (fV a) D v w) (h':In (fV b) D v' w) (hb0:b≠0) (hf:Fr D w):Calls Tryz.prog 60 #[v,v',.int .i64 0] w fun x w'=>x=.returned (.int .u64 (fQ 0 a b:Nat))∧Ext w w':=acK (qnF h.ok h'.ok hb0) hT hf (by
 unfold RdL;exact ⟨_,_,rfl,rdV h,RdL.two (rdV h') q3E⟩)
theorem qrz {A:Option Addr} {n c:Nat} {l:List Int} (hT:q1r w) (h:In (fSl 4 fV l) D (.slice A n c) w) (hn:n≤1000) (ho:∀ x ∈ l,q1K x) (hv:q1K (q1b l)) (hf:Fr D w) :
  Calls Tryz.prog 127 #[.slice A n c] w (Rt (fV (q1b l)) D w):=by
 have hl:=h.sl_len;obtain ⟨_,_,_,vs,e,h1,⟨h2,h3⟩,h4⟩:=h;cases e;refine acV (qkv (by omega) ho hv) hv hT hf (RdL.one ?_);unfold Rd;refine ⟨A,n,c,vs,rfl,h1,by simpa using h4,RdL.iff.2 ⟨by simpa using h2.symm,fun i x v hx hv=>?_⟩,fun v hv=>?_⟩
 ·rw [List.getElem?_map] at hx;obtain ⟨V,hV,rfl⟩:=Option.map_eq_some_iff.1 hx;obtain ⟨u,hu,q1,_⟩:=h3 i V hV;rw [hv] at hu; cases hu;exact q8t q1
 ·obtain ⟨i,hi,rfl⟩:=List.getElem_of_mem hv;obtain ⟨u,hu,q1,_⟩:=h3 i l[i] (List.getElem?_eq_getElem (by omega));rw [List.getElem?_eq_getElem hi] at hu;cases hu;exact fitV _ _ _ q1
end
end Go.Proofs.YtbcmhlhgljoolaaGreatDoor
namespace Go.Sp
open Go Go.E
def q3S (x:Nat):Value:=.int .u64 (x:Int)
def q1N (z:Int):Value:=.int .i64 z
def q0r (a:Int) (n:Nat):Nat:=(a % 18446744073709551616).toNat % n
theorem q6v {a:Int} {n:Nat} (h:0 < n):q0r a n < n:=Nat.mod_lt _ h
def qcP (raw:List Nat) (k:Int):Int :=
 if raw.length=0 then IntKind.u64.wrap (IntKind.u64.wrap (IntKind.i64.wrap (k+1))*11400714819323198485)
 else q1I .xor .u64 (IntKind.u64.wrap (IntKind.u64.wrap (IntKind.i64.wrap (k+1))*11400714819323198485)) ((raw.getD (q0r k raw.length) 0:Nat):Int)
def qpJ (x:Int):Int:=IntKind.u64.wrap (q1I .xor .u64 x (x.fdiv (2 ^ 31))*13787848793156543929)
def qbM (raw:List Nat) (k:Int):Int:=q1I .xor .u64 (qpJ (qcP raw k)) ((qpJ (qcP raw k)).fdiv (2 ^ 29))
def q5T (raw:List Nat) (k:Int):Nat:=(qbM raw k).toNat
theorem q79 (raw:List Nat) (k:Int):((q5T raw k:Nat):Int)=qbM raw k:=by
 have:0≤qbM raw k:=by
  unfold qbM
  show 0≤IntKind.u64.wrap _
  rw [q1R]; omega
 unfold q5T; omega
theorem q4Q (raw:List Nat) (k:Int):q5T raw k < 18446744073709551616:=by
 have h:=q79 raw k;have:qbM raw k < 18446744073709551616:=by
  unfold qbM
  show IntKind.u64.wrap _ < _
  rw [q1R]; omega
 omega
def flz (z:Int):Nat:=fR 0 (z*(2:Int) ^ 65536)
def q6d (x:Nat):Int:=(x % 19:Nat)-9
theorem q6c (x:Nat) : -9≤q6d x∧q6d x≤9:=by unfold q6d; omega
theorem q9B {z:Int} (h:bl z.natAbs≤65536):mkV z 0=some (z*(2:Int) ^ 65536):=qaR Oq Oq
end Go.Sp
namespace Go.Proofs.YtbcmhlhgljoolaaGreatDoor
open Go Go.E Go.Sp
theorem qaO {a:Int} {n:Nat} {w:World} (h1 : -9223372036854775808≤a) (h2:a≤9223372036854775807) (hn:0 < n) (hn2:n≤9223372036854775807) :
  Calls Tryz.prog 25 #[.int .i64 a,.int .i64 n] w fun e w'=>e=.returned (.int .i64 (q0r a n:Nat))∧w=w':=by
 refine q0H Tryz.func25 rfl Tryz.ntmps25 (by kernel_rfl) ?_;refine Wz ?_;have e1:IntKind.u64.wrap a=a % 18446744073709551616:=q1R a;have e2:IntKind.u64.wrap (n:Int)=n:=u64_in Oq Oq;have e3:¬ ((n:Int)=0):=by omega
 have hlt:=q6v (a:=a) hn;have e4:(a % 18446744073709551616).tmod (n:Int)=((q0r a n:Nat):Int):=by
  unfold q0r;rw [Int.tmod_eq_emod_of_nonneg Oq,Int.natCast_emod]
  congr 1; omega
 have e5:IntKind.i64.wrap ((q0r a n:Nat):Int)=q0r a n:=i64_in Oq Oq;refine Wz5 e1 e2 e3 e4 e5 ?_;refine q0L ?_
 try simp only [q0D,q0N]
 refine q0k rfl ⟨rfl,rfl⟩
theorem qcN {D:Nat→Prop} {A:Option Addr} {n c:Nat} {raw:List Nat} {k:Int} {w:World} (h:In (fSc q3S raw) D (.slice A n c) w) (hn:n≤9223372036854775807) (h1 : -9223372036854775808≤k) (h2:k≤9223372036854775807) :
  Calls Tryz.prog 13 #[.slice A n c,.int .i64 k] w fun e w'=>e=.returned (.int .u64 (q5T raw k:Nat))∧w=w':=by
 have hl:=h.sc_len;have key:=q79 raw k;refine q0H Tryz.func13 rfl Tryz.ntmps13 (by kernel_rfl) ?_;refine Wz ?_;refine Wz ?_;refine q0B fun K0 hK0=>?_;have fin:∀ e1:Env,e1 5=.int .u64 (qcP raw k)→K0 e1 w:=by
  intro e1 k5;refine hK0 _ _ ?_; clear hK0;have q1:∀ x:Int,q0y Tryz.prog .shr 29 (.int .u64 x) (.int .u64 31)=some (.int .u64 (x.fdiv (2 ^ 31))):=fun x=>by rw [q2L,if_neg (by omega)]; rfl
  have q2:∀ x:Int,q0y Tryz.prog .shr 29 (.int .u64 x) (.int .u64 29)=some (.int .u64 (x.fdiv (2 ^ 29))):=fun x=>by rw [q2L,if_neg (by omega)]; rfl
  refine Wz2 k5 q1 ?_;refine Wz1 q2 ?_;refine q0L ?_
  try simp only [q0D,q0N]
  refine q0k rfl ⟨by rw [key]; rfl,rfl⟩
 by_cases h0:n=0
 ·have q:¬ ((n:Int) > 0):=by omega
  refine Wz1 q ?_;refine Wf (q0G ?_);refine fin _ ?_;simp only [q0F,Nat.reduceEqDiff,↓reduceIte];unfold qcP; rw [hl,if_pos h0]
 ·have q:((n:Int) > 0):=by omega
  refine Wz1 q ?_;refine Wt ?_;have hlt:=q6v (a:=k) (n:=n) Oq;obtain ⟨ad,rfl,hc⟩:=h.sc_get (i:=q0r k n) Oq;have e2:(0:Int)≤(q0r k n:Nat)∧((q0r k n:Nat):Int) < n:=by omega
  have hcell:w.cell? (ad.add (q0r k n))=some (.int .u64 ((raw.getD (q0r k n) 0:Nat):Int)):=by
   rw [hc,List.getD_eq_getElem?_getD,List.getElem?_eq_getElem (by omega)]; rfl
  refine q0P fun K9 hK9=>?_;refine Zz ?_;refine q0E qfN (qaO h1 h2 Oq hn) ?_;rintro _ _ ⟨rfl,rfl⟩; refine ⟨_,rfl,?_⟩;refine Zz2 e2 hcell ?_;refine hK9 _ _ ?_; clear hK9;refine fin _ ?_;simp only [q0F,Nat.reduceEqDiff,↓reduceIte];unfold qcP; rw [hl,if_neg h0]
theorem qg5 {D:Nat→Prop} {x:Nat} {w:World} (hT:q1r w) (hx:x < 18446744073709551616) (hf:Fr D w):Calls Tryz.prog 43 #[.int .u64 x] w fun e w'=>e=.returned (.int .u64 (flz (q6d x):Nat))∧Ext w w':=by
 refine q0H Tryz.func43 rfl Tryz.ntmps43 (by kernel_rfl) ?_;have hx1:Ext w w:=Kp.refl _ _;have hD:=hf;refine Wz ?_;have hs:=q6c x;have e1:((x:Nat):Int).tmod 19=((x % 19:Nat):Int):=rfl;have e2:IntKind.i64.wrap ((x % 19:Nat):Int)=(x % 19:Nat):=i64_in Oq Oq;have e3:IntKind.i64.wrap (((x % 19:Nat):Int)-9)=q6d x:=by rw [i64_in Oq (by omega)]; rfl
 have e0:¬ ((19:Int)=0):=by omega
 have hb:bl (q6d x).natAbs≤4:=q0T (show (q6d x).natAbs < 2 ^ 4 by omega);refine q0A fun K hK=>?_;refine Zz4 e0 e1 e2 e3 ?_;refine Ck qbq (q58 (hT.ext hx1) Oq Oq (q9B Oq) hD) fun w6 hx6=>?_;replace hD:=hD.kp hx6;replace hx1:=hx1.trans hx6;clear hx6;refine hK _ _ ?_; clear hK;refine q0L ?_
 try simp only [q0D,q0N]
 refine q0k rfl ⟨rfl,hx1⟩
end Go.Proofs.YtbcmhlhgljoolaaGreatDoor
namespace Go.Sp
open Go Go.E
theorem flzK {z:Int} {K:Nat} (hK:K=65536) (hz:z.natAbs < 9007199254740992):ofF (if z*(2:Int) ^ K=0 then 0 else rF 0 (decide (z*(2:Int) ^ K < 0)) (z*(2:Int) ^ K).natAbs (2 ^ K))=some (z*(2:Int) ^ K)∧(if z*(2:Int) ^ K=0 then 0 else rF 0 (decide (z*(2:Int) ^ K < 0)) (z*(2:Int) ^ K).natAbs (2 ^ K)) < 18446744073709551616:=by
 by_cases h0:z=0
 ·subst h0;rw [Int.zero_mul,if_pos rfl];refine ⟨?_,by omega⟩;unfold ofF;rw [if_neg (by decide),if_pos (by decide),show sgn (decide (9223372036854775808≤0)) (0 % 4503599627370496)=0 from rfl,Int.zero_mul]
 ·have hp:=q06 K;have hne:z*(2:Int) ^ K≠0:=Int.mul_ne_zero h0 (Int.ne_of_gt hp);have hsg:decide (z*(2:Int) ^ K < 0)=decide (z < 0):=by
   rw [decide_eq_decide]
   constructor
   ·intro h
    rcases Int.lt_or_le z 0 with h1 | h1
    ·exact h1
    ·have:=Int.mul_nonneg h1 (Int.le_of_lt hp); omega
   ·intro h; exact Int.mul_neg_of_neg_of_pos h hp
  rw [if_neg hne,hsg,q0U];have hb:bl z.natAbs≤53:=q0T hz;have:=qgq (mode:=0) (neg:=decide (z < 0)) (N:=z.natAbs*2 ^ K) (D:=2 ^ K) (M:=z.natAbs) (f:=0) (q0Q K) Oq hb Oq Oq (by simp [Nat.mul_comm]);rw [q4y] at this;refine ⟨?_,this.2⟩;rw [this.1,hK]; rfl
theorem q49 {z:Int} (hz:z.natAbs < 9007199254740992):ofF (flz z)=some (z*(2:Int) ^ 65536):=(flzK rfl hz).1
theorem qeY {z:Int} (hz:z.natAbs < 9007199254740992):flz z < 18446744073709551616:=(flzK rfl hz).2
theorem q7E {z:Int} (hz:z.natAbs < 9007199254740992):q0f (flz z):=fun h=>by
 have:=q49 hz;unfold ofF at this; rw [if_pos h] at this; cases this
theorem dyOkz {z:Int} {K:Nat} (hK:K=65536) (hz:bl z.natAbs≤65536):q1K (z*(2:Int) ^ K):=by
 by_cases h0:z=0
 ·subst h0; rw [Int.zero_mul]; simp [q1K,q1a]
 ·unfold q1K; rw [q0U,q1e (by omega)]; omega
theorem qhE {x y:Int} {K:Nat} (hK:K=65536) (h:bl (x*y).natAbs≤65536):mkV (x*(2:Int) ^ K*(y*(2:Int) ^ K)) (-131072)=some (x*y*(2:Int) ^ K):=by
 have e:x*(2:Int) ^ K*(y*(2:Int) ^ K)=x*y*(2:Int) ^ K*(2:Int) ^ K:=by
  simp only [Int.mul_assoc,Int.mul_left_comm,Int.mul_comm]
 rw [e,q3L,show (-131072:Int)+K = -65536 by omega];exact q3r (dyOkz hK h)
theorem qei {x y:Int} {K:Nat} (hK:K=65536) (hy:y≠0) (hx:x.natAbs < 9007199254740992):(if x*y*(2:Int) ^ K=0 then 0 else rF 0 (decide (x*y*(2:Int) ^ K < 0) != decide (y*(2:Int) ^ K < 0)) (x*y*(2:Int) ^ K).natAbs (y*(2:Int) ^ K).natAbs)=(if x*(2:Int) ^ K=0 then 0 else rF 0 (decide (x*(2:Int) ^ K < 0)) (x*(2:Int) ^ K).natAbs (2 ^ K)):=by
 have hp:=q06 K;have hsgn:∀ z:Int,decide (z*(2:Int) ^ K < 0)=decide (z < 0):=fun z=>by
  rw [decide_eq_decide]
  constructor
  ·intro h
   rcases Int.lt_or_le z 0 with h1 | h1
   ·exact h1
   ·have:=Int.mul_nonneg h1 (Int.le_of_lt hp); omega
  ·intro h; exact Int.mul_neg_of_neg_of_pos h hp
 by_cases h0:x=0
 ·subst h0; simp
 ·have hne:x*(2:Int) ^ K≠0:=Int.mul_ne_zero h0 (Int.ne_of_gt hp);have hxy:x*y≠0:=Int.mul_ne_zero h0 hy;have hne2:x*y*(2:Int) ^ K≠0:=Int.mul_ne_zero hxy (Int.ne_of_gt hp);rw [if_neg hne,if_neg hne2,hsgn,hsgn,hsgn,q0U,q0U,q0U];have hs:(decide (x*y < 0) != decide (y < 0))=decide (x < 0):=by
   rcases Int.lt_or_gt_of_ne h0 with h1 | h1 <;> rcases Int.lt_or_gt_of_ne hy with h2 | h2
   ·have:=Int.mul_pos_of_neg_of_neg h1 h2;rw [decide_eq_false Oq,decide_eq_true h2,decide_eq_true h1]; rfl
   ·have:=Int.mul_neg_of_neg_of_pos h1 h2;rw [decide_eq_true this,decide_eq_false Oq,decide_eq_true h1]; rfl
   ·have:=Int.mul_neg_of_pos_of_neg h1 h2;rw [decide_eq_true this,decide_eq_true h2,decide_eq_false (by omega)]; rfl
   ·have:=Int.mul_pos h1 h2;rw [decide_eq_false Oq,decide_eq_false Oq,decide_eq_false (by omega)]; rfl
  rw [hs];have hxp:0 < x.natAbs:=by omega
  have hyp:0 < y.natAbs:=by omega
  refine q5H (by rw [Int.natAbs_mul]; exact Nat.mul_pos (Nat.mul_pos hxp hyp) (q0Q _)) (Nat.mul_pos hyp (q0Q _)) (Nat.mul_pos hxp (q0Q _)) (q0Q _) ?_;rw [Int.natAbs_mul];simp only [Nat.mul_assoc,Nat.mul_left_comm,Nat.mul_comm]
theorem qa8 {x y:Int} (hy:y≠0) (hx:x.natAbs < 9007199254740992):fQ 0 (x*y*(2:Int) ^ 65536) (y*(2:Int) ^ 65536)=flz x:=qei rfl hy hx
end Go.Sp
namespace Go.Proofs.YtbcmhlhgljoolaaGreatDoor
open Go Go.E Go.Sp
section
variable {D:Nat→Prop} {w:World}
end
end Go.Proofs.YtbcmhlhgljoolaaGreatDoor
namespace Go.Sp
open Go.E
theorem qbB (x i:Nat):x &&& 2 ^ i=x / 2 ^ i % 2*2 ^ i:=by
 apply Nat.eq_of_testBit_eq
 intro j;rw [Nat.testBit_and,Nat.testBit_two_pow]
 rcases Nat.mod_two_eq_zero_or_one (x / 2 ^ i) with h | h
 ·rw [h,Nat.zero_mul,Nat.zero_testBit]
  by_cases hj:i=j
  ·subst hj;rw [Nat.testBit_eq_decide_div_mod_eq,h]; simp
  ·simp [hj]
 ·rw [h,Nat.one_mul,Nat.testBit_two_pow]
  by_cases hj:i=j
  ·subst hj;rw [Nat.testBit_eq_decide_div_mod_eq,h]; simp
  ·simp [hj]
theorem qcs {x:Nat} (h:x < 18446744073709551616):x &&& 9223372036854775808=x / 9223372036854775808*9223372036854775808:=by
 have h1:=qbB x 63;have e:(2:Nat) ^ 63=9223372036854775808:=rfl;rw [e,Nat.mod_eq_of_lt (show x / 9223372036854775808 < 2 by omega)] at h1;exact h1
theorem qhY {x:Nat}:x &&& 2251799813685248=x / 2251799813685248 % 2*2251799813685248:=by
 have h1:=qbB x 51;have e:(2:Nat) ^ 51=2251799813685248:=rfl;rw [e] at h1;exact h1
theorem qh3 {x:Nat}:x &&& 4503599627370495=x % 4503599627370496:=Nat.and_two_pow_sub_one_eq_mod x 52
theorem q9h {a e s:Nat} (ha:a < 4503599627370496) (he:e < 2048):s*9223372036854775808 ||| a ||| e*4503599627370496=s*9223372036854775808+e*4503599627370496+a:=by
 have h1:a ||| e*4503599627370496=a+e*4503599627370496:=q2G (k:=52) ha;have h2:(a+e*4503599627370496) ||| s*9223372036854775808=a+e*4503599627370496+s*9223372036854775808:=q2G (k:=63) Oq;rw [Nat.or_assoc,h1,Nat.or_comm,h2];omega
def q3K (k x:Nat):Nat :=
 if k=1 then x / 9223372036854775808*9223372036854775808+(1019+x / 4503599627370496 % 8)*4503599627370496+x % 4503599627370496
 else if k=2 then x / 9223372036854775808*9223372036854775808+(983+x / 256 % 81)*4503599627370496+x / 2251799813685248 % 2*2251799813685248
 else if k=3 then (if x / 4503599627370496 % 2048=2047 then 0 else x)
 else flz (q6d x)
theorem num_1 {x:Nat} (h:x < 18446744073709551616):(x &&& 9227875636482146303) ||| (1019+x / 4503599627370496 % 8)*4503599627370496=q3K 1 x:=by
 have e:9227875636482146303=9223372036854775808 ||| 4503599627370495:=by decide
 rw [e,Nat.and_or_distrib_left,qcs h,qh3,q9h (Nat.mod_lt _ Oq) (by omega)];unfold q3K; rw [if_pos rfl]
theorem num_2 {x:Nat} (h:x < 18446744073709551616):(x &&& 9225623836668461056) ||| (983+x / 256 % 81)*4503599627370496=q3K 2 x:=by
 have e:9225623836668461056=9223372036854775808 ||| 2251799813685248:=by decide
 rw [e,Nat.and_or_distrib_left,qcs h,qhY,q9h Oq (by omega)];unfold q3K; rw [if_neg Oq,if_pos rfl]
end Go.Sp
namespace Go.Proofs.YtbcmhlhgljoolaaGreatDoor
open Go Go.E Go.Sp
section
variable {D:Nat→Prop} {w:World}
theorem qqi {x:Nat} {st:Int} (hT:q1r w) (hx0:x < 18446744073709551616) (h1 : -9223372036854775808≤st) (h2:st≤9223372036854775807) (hf:Fr D w):Calls Tryz.prog 12 #[.int .u64 x,.int .i64 st] w fun e w'=>e=.returned (.int .u64 (q3K (q0r st 4) x:Nat))∧Ext w w':=by
 have hx:Ext w w:=Kp.refl _ _;have hD:=hf;obtain ⟨m,hm⟩:∃ m,m=q0r st 4:=⟨_,rfl⟩;have hm4:m < 4:=by rw [hm]; unfold q0r; omega
 have hmo:=fun {w:World}=>qaO (a:=st) (n:=4) (w:=w) Oq Oq Oq Oq;rw [← hm] at hmo ⊢;refine q0H Tryz.func12 rfl Tryz.ntmps12 (by kernel_rfl) ?_;refine Wz ?_;refine q0B fun K0 hK0=>?_;refine q0A fun K hK=>?_;refine Zz ?_;refine q0E qfN (hmo) ?_;rintro _ _ ⟨rfl,rfl⟩; refine ⟨_,rfl,?_⟩;refine hK _ _ ?_; clear hK;refine q0Y ?_;clear hm hmo
 rcases (by omega:m=1∨m=2∨m=3∨m=0) with h | h | h | h <;> subst h
 ·have q1:(((1:Nat):Int) == 1)=true:=rfl;refine Wz1 q1 ?_;refine Wt ?_;have a1:q1I .and .u64 (x:Int) 9227875636482146303=((x &&& 9227875636482146303:Nat):Int):=by
   have:=q4G hx0 (b:=9227875636482146303) Oq;exact this
  have a2:q1I .and .u64 ((x / 4503599627370496:Nat):Int) 7=((x / 4503599627370496 % 8:Nat):Int):=by
   have:=q4G (a:=x / 4503599627370496) (b:=7) Oq Oq;rw [show x / 4503599627370496 &&& 7=x / 4503599627370496 % 8 from Nat.and_two_pow_sub_one_eq_mod _ 3] at this;exact this
  obtain ⟨e,he⟩:∃ e,e=x / 4503599627370496 % 8:=⟨_,rfl⟩;have he8:e < 8:=by omega
  rw [← he] at a2;have a3:IntKind.u64.wrap (1019+(e:Int))=((1019+e:Nat):Int):=by rw [u64_in Oq (by omega)]; omega
  have a4:IntKind.u64.wrap (((1019+e:Nat):Int)*2 ^ min (Int.toNat 52) 64)=(((1019+e)*4503599627370496:Nat):Int):=by
   rw [show (2:Int) ^ min (Int.toNat 52) 64=4503599627370496 from rfl,u64_in Oq (by omega)]; omega
  have ha:x &&& 9227875636482146303 < 18446744073709551616:=Nat.lt_of_le_of_lt Nat.and_le_left hx0;have a5:q1I .or .u64 ((x &&& 9227875636482146303:Nat):Int) (((1019+e)*4503599627370496:Nat):Int)=((q3K 1 x:Nat):Int):=by
   rw [qb6 ha Oq,he,num_1 hx0]
  refine Wz5 a1 a2 a3 a4 a5 ?_;refine q0L ?_
  try simp only [q0D,q0N]
  refine q0k rfl ⟨by simp only [q0F,Nat.reduceEqDiff,↓reduceIte]; rw [a5],hx⟩
 ·have q1:(((2:Nat):Int) == 1)=false:=rfl;have q2:(((2:Nat):Int) == 2)=true:=rfl;refine Wz1 q1 ?_;refine Wf ?_;refine Wz1 q2 ?_;refine Wt ?_;have a1:q1I .and .u64 (x:Int) 9225623836668461056=((x &&& 9225623836668461056:Nat):Int):=by
   have:=q4G hx0 (b:=9225623836668461056) Oq;exact this
  obtain ⟨e,he⟩:∃ e,e=x / 256 % 81:=⟨_,rfl⟩;have a0:Int.fdiv (x:Int) (2 ^ min (Int.toNat 8) 64)=((x / 256:Nat):Int):=by
   rw [show (2:Int) ^ min (Int.toNat 8) 64=((256:Nat):Int) from rfl,Int.fdiv_eq_ediv_of_nonneg _ (by omega)]; rfl
  have a2:Int.tmod ((x / 256:Nat):Int) 81=(e:Int):=by rw [he]; rfl
  have he8:e < 81:=by omega
  have a3:IntKind.u64.wrap (983+(e:Int))=((983+e:Nat):Int):=by rw [u64_in Oq (by omega)]; omega
  have a4:IntKind.u64.wrap (((983+e:Nat):Int)*2 ^ min (Int.toNat 52) 64)=(((983+e)*4503599627370496:Nat):Int):=by
   rw [show (2:Int) ^ min (Int.toNat 52) 64=4503599627370496 from rfl,u64_in Oq (by omega)]; omega
  have ha:x &&& 9225623836668461056 < 18446744073709551616:=Nat.lt_of_le_of_lt Nat.and_le_left hx0;have a5:q1I .or .u64 ((x &&& 9225623836668461056:Nat):Int) (((983+e)*4503599627370496:Nat):Int)=((q3K 2 x:Nat):Int):=by
   rw [qb6 ha Oq,he,num_2 hx0]
  refine Wz6 a0 a1 a2 a3 a4 a5 ?_;refine q0L ?_
  try simp only [q0D,q0N]
  refine q0k rfl ⟨by simp only [q0F,Nat.reduceEqDiff,↓reduceIte]; rw [a2,a3,show IntKind.u64.bits=64 from rfl,a4,a5],hx⟩
 ·have q1:(((3:Nat):Int) == 1)=false:=rfl;have q2:(((3:Nat):Int) == 2)=false:=rfl;have q3:(((3:Nat):Int) == 3)=true:=rfl;refine Wz1 q1 ?_;refine Wf ?_;refine Wz1 q2 ?_;refine Wf ?_;refine Wz1 q3 ?_;refine Wt ?_;refine Wz ?_;refine q0B fun K1 hK1=>?_;refine q0A fun K hK=>?_;refine Zz ?_;refine q0E qiY (q3G hx0) ?_;rintro _ _ ⟨rfl,rfl⟩; refine ⟨_,rfl,?_⟩;refine Zz ?_;refine hK _ _ ?_; clear hK
  by_cases hfi:q0f x
  ·have q:(!decide (q0f x))=false:=by simp [hfi]
   refine q00 (t:=false) (by simp [ev,upd,hfi]) (fun hc=>by cases hc) (fun hc=>q0G (hK1 _ _ ?_));clear hK1;refine Wz ?_;have e:q3K 3 x=x:=by unfold q0f at hfi; simp [q3K,hfi]
   refine q0L ?_
   try simp only [q0D,q0N]
   refine q0k rfl ⟨by simp only [q0F,Nat.reduceEqDiff,↓reduceIte,e],hx⟩
  ·refine q00 (t:=true) (by simp [ev,upd,hfi]) (fun hc=>?_) (fun hc=>by cases hc);refine Wz ?_;have e:q3K 3 x=0:=by unfold q0f at hfi; simp [q3K]; omega
   refine q0L ?_
   try simp only [q0D,q0N]
   refine q0k rfl ⟨by simp only [q0F,Nat.reduceEqDiff,↓reduceIte,e]; rfl,hx⟩
 ·have q1:(((0:Nat):Int) == 1)=false:=rfl;have q2:(((0:Nat):Int) == 2)=false:=rfl;have q3:(((0:Nat):Int) == 3)=false:=rfl;refine Wz1 q1 ?_;refine Wf ?_;refine Wz1 q2 ?_;refine Wf ?_;refine Wz1 q3 ?_;refine Wf (q0G (hK0 _ _ ?_));clear hK0;refine q0A fun K hK=>?_;refine Zz ?_;refine Ck qsW (qg5 (hT.ext hx) hx0 hD) fun w1 hx1=>?_;replace hD:=hD.kp hx1;replace hx:=hx.trans hx1;clear hx1;refine hK _ _ ?_; clear hK;have e0:q3K 0 x=flz (q6d x):=by simp [q3K]
  refine q0L ?_
  try simp only [q0D,q0N]
  refine q0k rfl ⟨by simp only [q0F,Nat.reduceEqDiff,↓reduceIte]; rw [e0],hx⟩
end
def q77 (l:List Nat):Prop:=∀ f ∈ l,f < 18446744073709551616∧q0f f
section
variable {D:Nat→Prop} {A:Option Addr} {n c:Nat} {l:List Nat} {w:World}
theorem qmJ {w:World} {B E n c:Nat} {A:Option Addr} {α:Type} {f:α→Value} {l:List α} {D:Nat→Prop} (h:Own w B E 1 A n c (l.map f)) (hd:∀ k,B≤k→D k):In (fSc f l) D (.slice A n c) w:=⟨A,n,c,rfl,h.row.sub fun k _ hk=>hd k hk⟩
def q6F (n:Nat):List Int:=(List.range n).map fun k:Nat=>(k:Int)
theorem q7e (n:Nat):q6F (n+1)=q6F n ++ [(n:Int)]:=by unfold q6F; rw [List.range_succ,List.map_append]; rfl
theorem q9e (n:Nat):(q6F n).length=n:=by simp [q6F]
end
end Go.Proofs.YtbcmhlhgljoolaaGreatDoor
namespace Go.E
open Go
theorem qcj {P:Program} {w:World} {T E Bd g n c:Nat} {xs:List Value} {v:Value} (h:Own w Bd E 1 (some ⟨g,0,none⟩) n c xs) {j:Nat} (hj:j < n) (hs:q04 P T=some 1) (hv:v.cells=#[v]) (h1:v.oneCell'=true) {K:World→Prop}
  (hK:∀ w',Own w' Bd E 1 (some ⟨g,0,none⟩) n c (xs.set j v)→Kp (fun k=>k≠g) w w'→w'.heap.size=w.heap.size→K w'):q31 P T w (.pointer (some ⟨g,j,none⟩)) v K:=by
 have hl:xs.length=n:=by have:=h.len; simpa using this
 obtain ⟨g',hg,hb,hc,hfz⟩:=h.cell (j:=j) Oq;cases hg;rw [q4x,hv];refine ⟨hs,⟨?_,?_,h1,trivial⟩,?_⟩
 ·rw [q02,Nat.add_zero,hc]; rfl
 ·rw [q02,Nat.add_zero]; exact hfz
 ·refine hK _ ?_ ?_ ?_
  ·have:=h.set j v;simpa [stN,q02] using this
  ·simp only [stN,q02,Nat.add_zero];exact Kp.setCell w (fun _ h=>h rfl) v
  ·simp [stN,World.setCell]
end Go.E
namespace Go.Proofs.YtbcmhlhgljoolaaGreatDoor
open Go Go.E Go.Sp
def qjj (l:List Int):Prop:=(∀ x ∈ l,0≤x∧x < l.length)∧l.Nodup
section
variable {D:Nat→Prop} {A:Option Addr} {n c:Nat} {l:List Int} {w:World}
end
end Go.Proofs.YtbcmhlhgljoolaaGreatDoor
namespace Go.E
open Go Go.Sp
section
variable {D:Nat→Prop} {A:Option Addr} {n c:Nat} {w:World}
theorem In.ixI {l:List Int} (h:In (fSc q1N l) D (.slice A n c) w) {i:Nat} {x:Int} (hi:l[i]?=some x):∃ ad,A=some ad∧((0:Int)≤(i:Int)∧(i:Int) < n)∧w.cell? (ad.add i)=some (.int .i64 x):=by
 obtain ⟨hlt,he⟩:=List.getElem?_eq_some_iff.1 hi;obtain ⟨ad,hA,hc⟩:=h.sc_get hlt;have:=h.sc_len;exact ⟨ad,hA,by omega,by rw [hc,he]; rfl⟩
theorem In.ixU {l:List Nat} (h:In (fSc q3S l) D (.slice A n c) w) {i:Nat} {x:Nat} (hi:l[i]?=some x):∃ ad,A=some ad∧((0:Int)≤(i:Int)∧(i:Int) < n)∧w.cell? (ad.add i)=some (.int .u64 (x:Int)):=by
 obtain ⟨hlt,he⟩:=List.getElem?_eq_some_iff.1 hi;obtain ⟨ad,hA,hc⟩:=h.sc_get hlt;have:=h.sc_len;exact ⟨ad,hA,by omega,by rw [hc,he]; rfl⟩
end
end Go.E
namespace Go.Proofs.YtbcmhlhgljoolaaGreatDoor
open Go Go.E Go.Sp
structure Fac where
 pm:List Int
 cp:List Int
 ri:List Int
 vs:List Nat
structure Col (f:Fac) (j a b:Nat):Prop where
 ha:f.cp[j]?=some (a:Int)
 hb:f.cp[j+1]?=some (b:Int)
 lt:a < b
 le:b≤f.ri.length
 first:f.ri[a]?=some (j:Int)
 last:∃ z:Int,f.ri[b-1]?=some z∧z < f.pm.length
 inc:∀ i,a < i→i < b→∃ y z:Int,f.ri[i-1]?=some y∧f.ri[i]?=some z∧y < z
 diag:∃ (x:Nat) (V:Int),f.vs[a]?=some x∧ofF x=some V∧0 < V
structure FacOk (f:Fac):Prop where
 perm:qjj f.pm
 n:f.pm.length≤200
 cpl:f.cp.length=f.pm.length+1
 ril:f.ri.length=f.vs.length
 rib:f.ri.length≤1000000
 c0:f.cp[0]?=some 0
 cn:f.cp[f.pm.length]?=some (f.ri.length:Int)
 col:∀ j,j < f.pm.length→∃ a b,Col f j a b
 vals:q77 f.vs
def qr4 (f:Fac):Fam:=⟨fun D v w=>∃ a b c d,v=.agg #[a,b,c,d]∧(fSc q1N f.pm).p D a w∧(fSc q1N f.cp).p D b w∧(fSc q1N f.ri).p D c w∧(fSc q3S f.vs).p D d w,fun k ⟨a,b,c,d,e,h1,h2,h3,h4⟩=>⟨a,b,c,d,e,(fSc q1N f.pm).kp k h1,(fSc q1N f.cp).kp k h2,(fSc q1N f.ri).kp k h3,(fSc q3S f.vs).kp k h4⟩,fun k ⟨a,b,c,d,e,h1,h2,h3,h4⟩=>⟨a,b,c,d,e,(fSc q1N f.pm).sub k h1,(fSc q1N f.cp).sub k h2,(fSc q1N f.ri).sub k h3,(fSc q3S f.vs).sub k h4⟩⟩
theorem qeg {D:Nat→Prop} {f:Fac} {v:Value} {w:World} (h:In (qr4 f) D v w):∃ A1 n1 c1 A2 n2 c2 A3 n3 c3 A4 n4 c4,v=.agg #[.slice A1 n1 c1,.slice A2 n2 c2,.slice A3 n3 c3,.slice A4 n4 c4]∧In (fSc q1N f.pm) D (.slice A1 n1 c1) w∧In (fSc q1N f.cp) D (.slice A2 n2 c2) w∧In (fSc q1N f.ri) D (.slice A3 n3 c3) w∧In (fSc q3S f.vs) D (.slice A4 n4 c4) w:=by
 obtain ⟨a,b,c,d,rfl,h1,h2,h3,h4⟩:=h;obtain ⟨A1,n1,c1,rfl,r1⟩:=h1;obtain ⟨A2,n2,c2,rfl,r2⟩:=h2;obtain ⟨A3,n3,c3,rfl,r3⟩:=h3;obtain ⟨A4,n4,c4,rfl,r4⟩:=h4;exact ⟨_,_,_,_,_,_,_,_,_,_,_,_,rfl,⟨_,_,_,rfl,r1⟩,⟨_,_,_,rfl,r2⟩,⟨_,_,_,rfl,r3⟩,⟨_,_,_,rfl,r4⟩⟩

section
variable {D:Nat→Prop} {w:World}
end
def q87 (f:Fac) (x:Int):Nat→Nat→Nat
 | _,0=>0
 | a,k+1=>if f.ri[a]?=some x then f.vs.getD a 0 else q87 f x (a+1) k
def slv (s:Option Addr × Nat × Nat):Value:=.slice s.1 s.2.1 s.2.2
structure Sums (w:World) (D:Nat→Prop) (L:List Nat) (N0 g n:Nat) (rows:List (List Int)) (ss:List (Option Addr × Nat × Nat)):Prop where
 own:Own w N0 125 1 (some ⟨g,0,none⟩) n n (ss.map slv)
 len:ss.length=rows.length
 row:∀ (i:Nat) (s:Option Addr × Nat × Nat) (r:List Int),ss[i]?=some s→rows[i]?=some r→q3f fV 74 4 w (Dl D L) N0 s.1 s.2.1 s.2.2 r
 mem:∀ (i:Nat) (s:Option Addr × Nat × Nat) (a:Addr),ss[i]?=some s→s.1=some a→a.block ∈ L∧a.block≠g
 ne:∀ (i j:Nat) (s t:Option Addr × Nat × Nat) (a b:Addr),i≠j→ss[i]?=some s→ss[j]?=some t→s.1=some a→t.1=some b→a.block≠b.block
 gL:g ∈ L
 lo:∀ k ∈ L,N0≤k
 hi:∀ k ∈ L,k < w.heap.size
theorem qoa {α:Type} {G:α→Fam} {T sz B n c:Nat} {A:Option Addr} {w:World} {D D':Nat→Prop} {l:List α} (h:q3f G T sz w D' B A n c l) (h1:∀ k,D' k→D k) (h2:∀ k,B≤k→D k):In (fSl sz G l) D (.slice A n c) w:=by
 obtain ⟨vs,a1,a2,a3⟩:=h;exact ⟨A,n,c,vs,rfl,a1.row.sub fun k _ hk=>h2 k hk,a2.sub fun k _ hk=>h1 k hk.1,a3⟩
section
variable {D:Nat→Prop} {L:List Nat} {N0 g n:Nat} {rows:List (List Int)} {ss:List (Option Addr × Nat × Nat)} {w w':World}
theorem Sums.ext (h:Sums w D L N0 g n rows ss) (k:Ext w w'):Sums w' D L N0 g n rows ss :=
 ⟨h.own.ext k,h.len,fun i s r a b=>(h.row i s r a b).ext k,h.mem,h.ne,h.gL,h.lo,fun j hj=>Nat.lt_of_lt_of_le (h.hi j hj) k.size⟩
theorem Sums.sub {D':Nat→Prop} (h:Sums w D L N0 g n rows ss) (hd:∀ k,k < w.heap.size→D k→D' k):Sums w D' L N0 g n rows ss :=
 ⟨h.own,h.len,fun i s r a b=>by
  obtain ⟨vs,a1,a2,a3⟩:=h.row i s r a b;exact ⟨vs,a1,a2.sub fun k hk hq=>⟨⟨hd k hk hq.1.1,hq.1.2⟩,hq.2⟩,a3⟩,h.mem,h.ne,h.gL,h.lo,h.hi⟩
theorem Sums.get (h:Sums w D L N0 g n rows ss) {i:Nat} {r:List Int} (hr:rows[i]?=some r) (hD:∀ k,N0≤k→D k):∃ A m c,ss[i]?=some (A,m,c)∧i < n∧w.cell? ⟨g,i,none⟩=some (.slice A m c)∧In (fSl 4 fV r) D (.slice A m c) w:=by
 have hlt:=(List.getElem?_eq_some_iff.1 hr).1;have hlen:=h.len;have hn:ss.length=n:=by have:=h.own.len; simpa using this
 obtain ⟨⟨A,m,c⟩,hs⟩:∃ s,ss[i]?=some s:=⟨_,List.getElem?_eq_getElem Oq⟩;obtain ⟨g',hg,_,hc,_⟩:=h.own.cell (j:=i) (by simp; omega);cases hg;refine ⟨A,m,c,hs,by omega,?_,qoa (h.row i _ r hs hr) (fun k hk=>hk.1) hD⟩;rw [hc];obtain ⟨h1,h2⟩:=List.getElem?_eq_some_iff.1 hs;simp [h2,slv]
theorem qgS {i:Nat} {r:List Int} (hT:q1r w) (hS:Sums w D L N0 g n rows ss) (hr:rows[i]?=some r) (hl:r.length≤1000) (ho:∀ x ∈ r,q1K x) (hv:q1K (q1b r)) (hD0:∀ k,N0≤k→D k) (hf:Fr D w) :
  Calls Tryz.prog 61 #[.slice (some ⟨g,0,none⟩) n n,.int .i64 i] w (Rt (fV (q1b r)) D w):=by
 obtain ⟨A,m,c,_,hin,hcell,hrow⟩:=hS.get hr hD0;have hm:=hrow.sl_len;refine q0H Tryz.func61 rfl Tryz.ntmps61 (by kernel_rfl) ?_;refine q0A fun K hK=>?_;refine Zz ?_;refine q0i ?_;intro g4 w4 hg4 hx4 hb4 hs4;refine hK _ _ ?_; clear hK K;have hx:Ext w w4:=hx4;replace hrow:=(hrow.nL (L:=[g4]) (by intro g hg; simp at hg; omega)).ext hx;have hD:Fr (Dl D [g4]) w4:=hf.nL hx (by intro g hg; simp at hg; omega);clear hx4;have hcell':w4.cell? ⟨g,i,none⟩=some (.slice A m c):=hx.cell (D:=fun _=>True) trivial hcell;have e1:(0:Int)≤i∧(i:Int) < n:=by omega
 refine q0A fun K hK=>?_;refine Zz2 e1 hcell' ?_;refine Cr qk8 (qrz (hT.ext hx) hrow Oq ho hv hD) fun v5 w5 hx5 h5=>?_;replace hrow:=hrow.ext hx5;replace hb4:=hb4.ext hx5;replace hD:=hD.kp hx5;replace hx:=hx.trans hx5;clear hx5;refine q1O hb4 q51 rfl (q8a h5) fun w90 hk90 hb90=>?_;refine hK _ _ ?_; clear hK;refine q0L ?_
 try simp only [q0D,q0N]
 exact q88 rfl Rf q80 hb90 (q8a h5) (Rt.fin hx h5 hk90 (by simp) Oq)
end
theorem qbH {α:Type} {G:α→Fam} {T sz B n c:Nat} {A:Option Addr} {w:World} {D D':Nat→Prop} {l:List α} (h:q3f G T sz w D B A n c l) (h1:∀ k,k < w.heap.size→D k→nb A k→D' k):q3f G T sz w D' B A n c l:=by
 obtain ⟨vs,a1,a2,a3⟩:=h;exact ⟨vs,a1,a2.sub fun k hk hd=>⟨h1 k hk hd.1 hd.2,hd.2⟩,a3⟩
section
variable {D:Nat→Prop} {L:List Nat} {N0 g n i:Nat} {rows:List (List Int)} {ss:List (Option Addr × Nat × Nat)} {w w2 w3:World} {A A':Option Addr} {m c m' c':Nat} {r r':List Int}
theorem q1g {α:Type} {l:List α} {i j:Nat} {x y:α} (hj:(l.set i x)[j]?=some y):(i=j∧y=x∧i < l.length)∨(i≠j∧l[j]?=some y):=by
 by_cases h:i=j
 ·subst h
  rcases Nat.lt_or_ge i l.length with h1 | h1
  ·rw [List.getElem?_set_self h1] at hj;exact .inl ⟨rfl,(Option.some.inj hj).symm,h1⟩
  ·rw [List.getElem?_eq_none (by simpa using h1)] at hj; cases hj
 ·rw [List.getElem?_set_ne h] at hj;exact .inr ⟨h,hj⟩
theorem Sums.push (h:Sums w D L N0 g n rows ss) (hs:ss[i]?=some (A,m,c)) (hO:q3f fV 74 4 w2 (Dl D L) N0 A' m' c' r') (hk:Kp (nb A) w w2) (hat:A'=A∨∃ g',w.heap.size≤g'∧A'=some ⟨g',0,none⟩)
  (ho:Own w3 N0 125 1 (some ⟨g,0,none⟩) n n ((ss.set i (A',m',c')).map slv)) (hk3:Kp (fun k=>k≠g) w2 w3) (hs3:w3.heap.size=w2.heap.size) :
  ∃ L',(∀ k ∈ L,k ∈ L')∧(∀ k ∈ L',k ∈ L∨w.heap.size≤k)∧Sums w3 D L' N0 g n (rows.set i r') (ss.set i (A',m',c')):=by
 have hgs:=h.hi g h.gL;have hgl:=h.lo g h.gL;have hsz:=hk.size;have hnA:∀ k,k ∉ L→nb A k:=fun k hk a ha he=>hk (by have:=(h.mem i _ a hs ha).1; rw [he] at this; exact this);have hother:∀ (j:Nat) (s:Option Addr × Nat × Nat) (q:List Int),i≠j→ss[j]?=some s→rows[j]?=some q→q3f fV 74 4 w3 (Dl D L) N0 s.1 s.2.1 s.2.2 q:=fun j s q hij hsj hq=>by
  refine ((h.row j s q hsj hq).kp hk (fun k hd=>hnA k hd.2) fun a ha b hb=>?_).kp hk3 (fun k hd e=>hd.2 (e ▸ h.gL)) fun a ha=>(h.mem j s a hsj ha).2;exact h.ne i j _ s b a hij hs hsj hb ha
 rcases hat with rfl | ⟨g',hg',rfl⟩
 ·refine ⟨L,fun k hk=>hk,fun k hk=>.inl hk,ho,by simpa using h.len,fun j s q hsj hq=>?_,fun j s a hsj ha=>?_,fun j k s t a b hjk hsj htk ha hb=>?_,h.gL,h.lo,fun k hk=>by have:=h.hi k hk; omega⟩
  ·rcases q1g hsj with ⟨rfl,rfl,hlt⟩ | ⟨hne,hsj⟩
   ·rcases q1g hq with ⟨_,rfl,_⟩ | ⟨hne,_⟩
    ·exact hO.kp hk3 (fun k hd e=>hd.2 (e ▸ h.gL)) fun a ha=>(h.mem i _ a hs ha).2
    ·exact absurd rfl hne
   ·rcases q1g hq with ⟨rfl,_,_⟩ | ⟨_,hq⟩
    ·exact absurd rfl hne
    ·exact hother j s q hne hsj hq
  ·rcases q1g hsj with ⟨rfl,rfl,hlt⟩ | ⟨hne,hsj⟩
   ·exact h.mem i _ a hs ha
   ·exact h.mem j s a hsj ha
  ·rcases q1g hsj with ⟨rfl,rfl,hlt⟩ | ⟨hne,hsj⟩ <;> rcases q1g htk with ⟨rfl,rfl,hlt2⟩ | ⟨hne2,htk⟩
   ·exact absurd rfl hjk
   ·exact h.ne i k _ t a b hjk hs htk ha hb
   ·exact h.ne j i s _ a b hjk hsj hs ha hb
   ·exact h.ne j k s t a b hjk hsj htk ha hb
 ·have hlt':=hO.blk_lt _ rfl;simp only at hlt';refine ⟨g' :: L,fun k hk=>List.mem_cons_of_mem _ hk,fun k hk=>?_,ho,by simpa using h.len,fun j s q hsj hq=>?_,fun j s a hsj ha=>?_,fun j k s t a b hjk hsj htk ha hb=>?_,List.mem_cons_of_mem _ h.gL,fun k hk=>?_,fun k hk=>?_⟩
  ·rcases List.mem_cons.1 hk with rfl | hk
   ·exact .inr hg'
   ·exact .inl hk
  ·rcases q1g hsj with ⟨rfl,rfl,hlt⟩ | ⟨hne,hsj⟩
   ·rcases q1g hq with ⟨_,rfl,_⟩ | ⟨hne,_⟩
    ·have h1:q3f fV 74 4 w3 (Dl D L) N0 (some ⟨g',0,none⟩) m' c' q:=hO.kp hk3 (fun k hd e=>hd.2 (e ▸ h.gL)) fun a ha=>by cases ha; simp only; omega
     refine qbH h1 fun k _ hd hn=>⟨hd.1,fun hm=>?_⟩
     rcases List.mem_cons.1 hm with e | hm
     ·exact hn _ rfl e.symm
     ·exact hd.2 hm
    ·exact absurd rfl hne
   ·rcases q1g hq with ⟨rfl,_,_⟩ | ⟨_,hq⟩
    ·exact absurd rfl hne
    ·have h1:q3f fV 74 4 w (Dl D (g' :: L)) N0 s.1 s.2.1 s.2.2 q:=qbH (h.row j s q hsj hq) fun k hk hd _=>⟨hd.1,fun hm=>by
      rcases List.mem_cons.1 hm with e | hm
      ·omega
      ·exact hd.2 hm⟩
     refine (h1.kp hk (fun k hd=>hnA k fun hm=>hd.2 (List.mem_cons_of_mem _ hm)) fun a ha b hb=>?_).kp hk3 (fun k hd e=>hd.2 (List.mem_cons_of_mem _ (e ▸ h.gL))) fun a ha=>(h.mem j s a hsj ha).2;exact h.ne i j _ s b a hne hs hsj hb ha
  ·rcases q1g hsj with ⟨rfl,rfl,hlt⟩ | ⟨hne,hsj⟩
   ·cases ha;exact ⟨List.mem_cons_self,by simp only; omega⟩
   ·obtain ⟨h1,h2⟩:=h.mem j s a hsj ha;exact ⟨List.mem_cons_of_mem _ h1,h2⟩
  ·rcases q1g hsj with ⟨rfl,rfl,hlt⟩ | ⟨hne,hsj⟩ <;> rcases q1g htk with ⟨rfl,rfl,hlt2⟩ | ⟨hne2,htk⟩
   ·exact absurd rfl hjk
   ·cases ha;have:=h.hi _ (h.mem k t b htk hb).1;simp only; omega
   ·cases hb;have:=h.hi _ (h.mem j s a hsj ha).1;simp only; omega
   ·exact h.ne j k s t a b hjk hsj htk ha hb
  ·rcases List.mem_cons.1 hk with rfl | hk
   ·omega
   ·exact h.lo k hk
  ·rcases List.mem_cons.1 hk with rfl | hk
   ·omega
   ·have:=h.hi k hk; omega
end
theorem appV {w:World} {ty B n c g2:Nat} {A:Option Addr} {D:Nat→Prop} {l:List Int} {V:Int} {v:Value} (hO:q3f fV 74 4 w D B A n c l) (hv:In (fV V) (fun k=>D k∧nb A k) v w) (hb2:Blk w g2 74 v.cells) (hn:n≤1000000000) (hb:B≤w.heap.size) {K:Value→World→Prop}
  (hK:∀ A' c' w',q3f fV 74 4 w' D B A' (n+1) c' (l ++ [V])→Kp (nb A) w w'→(A'=A∨∃ g,w.heap.size≤g∧A'=some ⟨g,0,none⟩)→K (.slice A' (n+1) c') w') :
  qfy Tryz.prog #[125,125] ty [.slice A n c,.slice (some ⟨g2,0,none⟩) 1 1] w K:=by
 obtain ⟨vs,h1,h2,h3⟩:=hO;have hc:=(q8a hv).cel;have hr:Row w (fun _=>True) 4 (some ⟨g2,0,none⟩) 1 1 v.cells.toList:=⟨Nat.le_refl _,by rw [Array.length_toList,hc.1],fun _=>⟨⟨g2,0,none⟩,rfl,trivial,fun j u hu=>by rw [q02,Nat.zero_add,hb2.cell]; simpa using hu⟩⟩;refine q1i qem rfl Oq h1 hr (fun u hu=>List.all_eq_true.1 hc.2 u hu) Oq hb fun A' c' w' ho hk hat=>?_;have hat':A'=A∨∃ g,w.heap.size≤g∧A'=some ⟨g,0,none⟩:=hat.imp id fun h=>⟨_,Nat.le_refl _,h⟩;refine hK A' c' w' ⟨vs ++ [v],by rw [qea]; exact ho,?_,by simp [h3]⟩ hk hat';have hs:=h2.snoc hv hc;exact ⟨hs.len,fun i y hy=>by
  obtain ⟨u,a,b,c⟩:=hs.get i y hy;exact ⟨u,a,b.grew hk hat',c⟩⟩
section
variable {D:Nat→Prop} {L:List Nat} {N0 g n i:Nat} {rows:List (List Int)} {ss:List (Option Addr × Nat × Nat)} {w w2 w3:World} {r:List Int} {x y:Nat} {a b V:Int}
theorem q8m (hT:q1r w) (hS:Sums w D L N0 g n rows ss) (hr0:rows[i]?=some r) (hx0:x < 18446744073709551616) (hy0:y < 18446744073709551616) (hxa:ofF x=some a) (hyb:ofF y=some b) (hV:mkV (a*b) (-131072)=some V) (hl:r.length≤1000000) (hf:Fr D w) :
  Calls Tryz.prog 64 #[.slice (some ⟨g,0,none⟩) n n,.int .i64 i,.int .u64 x,.int .u64 y] w fun e w'=>e=.returned (.tuple #[])∧Kp (fun k=>k ∉ L) w w'∧∃ L' ss',(∀ k ∈ L,k ∈ L')∧(∀ k ∈ L',k ∈ L∨w.heap.size≤k)∧Sums w' D L' N0 g n (rows.set i (r ++ [-V])) ss':=by
 obtain ⟨A,m,c,hss,hin,hcell,hrow⟩:=(hS.sub (D':=fun _=>True) fun _ _ _=>trivial).get hr0 fun _ _=>trivial;have hm:=hrow.sl_len;have e1:(0:Int)≤i∧(i:Int) < n:=by omega
 have hOi:=hS.row i _ r hss hr0;have hD:Fr (Dl D L) w:=fun k hk=>⟨hf k hk,fun hm=>by have:=hS.hi k hm; omega⟩;obtain ⟨X,hX1,hX2,hX3⟩:∃ X:List Nat,(∀ k,k ∉ X→nb A k)∧(∀ k ∈ X,k ∈ L∧k≠g)∧(∀ k,nb A k→k ∉ X):=by
  cases A with
  | none=>exact ⟨[],fun k _ a ha=>(by cases ha),fun k hk=>(by simp at hk),fun k _=>(by simp)⟩
  | some ad =>
   refine ⟨[ad.block],fun k hk a ha=>(by cases ha; simp at hk; exact fun e=>hk e.symm),fun k hk=>?_,fun k hk=>?_⟩
   ·simp at hk; subst hk; exact hS.mem i _ ad hss rfl
   ·simp; exact fun e=>hk ad rfl e.symm
 have hg0:g ∉ X:=fun h=>(hX2 g h).2 rfl;refine q0H Tryz.func64 rfl Tryz.ntmps64 (by kernel_rfl) ?_;have hx:Ext w w:=Kp.refl _ _;refine q8c q0j (Kp (fun k=>k ∉ X)) (fun _ _=>False) (Kp.pre _) [true,true,true,true,true,true,true,false,true,false,false,false,false,false,false,false] [false,false,false,false,false,false,false,false,false,false,false,false,false,false,false,false] [1,1,1,1,1,1,1,0,1,0,0,0,0,0,1,1] (by kernel_rfl) ?_
 apply Exists.intro
 refine ⟨fun wE hE KE hKE=>?_,fun wE hE KE hKE=>?_,fun wE hxE hr=>?_⟩
 ·have hcellE:=hE.cell (D:=fun k=>k ∉ X) (w':=wE) (by exact hg0) hcell;refine Zz2 e1 hcellE ?_;exact hKE
 ·exact hE.elim
 simp only [q1x,q1z,q1y];have hcellE:=hxE.cell (D:=fun _=>True) trivial hcell;have hnA:∀ k,k ∉ L→nb A k:=fun k hk a ha he=>hk (by have:=(hS.mem i _ a hss ha).1; rw [he] at this; exact this);simp -implicitDefEqProofs (disch:=omega) only [go_sem,Nat.reduceEqDiff,Nat.reduceAdd,↓reduceIte,List.toList_toArray,e1,hcellE];refine q0E qfI (qiC (hT.ext hxE) hx0 hxa (hD.kp hxE)) ?_;rintro _ w7 ⟨v7,rfl,hx7,h7⟩; refine ⟨_,rfl,⟨hr.trans (Kp.of_ext hx7),?_⟩⟩;have hy7:=hxE.trans hx7;refine q0E qfI (qiC (hT.ext hy7) hy0 hyb (hD.kp hy7)) ?_;rintro _ w9 ⟨v9,rfl,hx9,h9⟩; refine ⟨_,rfl,⟨(hr.trans (Kp.of_ext hx7)).trans (Kp.of_ext hx9),?_⟩⟩;have hy9:=hy7.trans hx9;refine q0E qk5 (qsB (hT.ext hy9) (h7.ext hx9) h9 hV (hD.kp hy9)) ?_;rintro _ w10 ⟨v10,rfl,hx10,h10⟩; refine ⟨_,rfl,⟨((hr.trans (Kp.of_ext hx7)).trans (Kp.of_ext hx9)).trans (Kp.of_ext hx10),?_⟩⟩;have hy10:=hy9.trans hx10;refine q0E qk6 (qsA (hT.ext hy10) h10 (hD.kp hy10)) ?_;rintro _ w11 ⟨v11,rfl,hx11,h11⟩; refine ⟨_,rfl,⟨(((hr.trans (Kp.of_ext hx7)).trans (Kp.of_ext hx9)).trans (Kp.of_ext hx10)).trans (Kp.of_ext hx11),?_⟩⟩;have hy11:=hy10.trans hx11;obtain ⟨s0,A0,n0,c0,rfl,_⟩:=id h11;rw [qs5];refine q1P fun w12 hx12 hb12 hs12=>⟨((((hr.trans (Kp.of_ext hx7)).trans (Kp.of_ext hx9)).trans (Kp.of_ext hx10)).trans (Kp.of_ext hx11)).trans (Kp.of_ext hx12),?_⟩;have hy12:=hy11.trans hx12;have hr12:=((((hr.trans (Kp.of_ext hx7)).trans (Kp.of_ext hx9)).trans (Kp.of_ext hx10)).trans (Kp.of_ext hx11)).trans (Kp.of_ext hx12);have hS12:=hS.ext hy12;have hO12:q3f fV 74 4 w12 (Dl D L) N0 A m c r:=hS12.row i _ r hss hr0;have h12:=h11.ext hx12;refine appV hO12 (h12.sub fun k _ hd=>⟨hd,hnA k hd.2⟩) hb12 Oq (by have:=hS.lo g hS.gL; have:=hS.hi g hS.gL; have:=hy12.size; omega) fun A' c' w13 hO13 hk13 hat=>⟨hr12.trans (hk13.mono fun k _ hk=>hX1 k hk),?_⟩;have hown:Own w13 N0 125 1 (some ⟨g,0,none⟩) n n (ss.map slv):=hS12.own.kp hk13 fun a ha b hb=>by
  cases ha;exact (hS.mem i _ b hss hb).2
 refine qcj hown hin qcm rfl rfl fun w14 hO14 hk14 hs14=>?_;have hO14':Own w14 N0 125 1 (some ⟨g,0,none⟩) n n ((ss.set i (A',m+1,c')).map slv):=by rw [List.map_set]; exact hO14
 obtain ⟨L',g1,g2,g3⟩:=hS12.push hss hO13 hk13 hat hO14' hk14 hs14;refine ret0n rfl ⟨rfl,?_,L',_,g1,fun k hk=>?_,g3⟩
 ·exact ((hy12.mono fun _ _ _=>trivial).trans (hk13.mono fun k _ hk=>hnA k hk)).trans (hk14.mono fun k _ hk e=>hk (e ▸ hS.gL))
 ·rcases g2 k hk with h | h
  ·exact .inl h
  ·exact .inr (Nat.le_trans hy12.size h)
end
theorem newRow {w1 w2:World} {D:Nat→Prop} {N0:Nat} {V:Int} {v:Value} (hb:Blk w2 w1.heap.size 74 v.cells) (hv:In (fV V) (fun k=>D k∧nb (some ⟨w1.heap.size,0,none⟩) k) v w2) (hN:N0≤w1.heap.size):q3f fV 74 4 w2 D N0 (some ⟨w1.heap.size,0,none⟩) 1 1 [V]:=by
 have hc:=(q8a hv).cel;have h1:=Own.made (w:=w2) (w':=w1) (B:=N0) (sz:=4) (n:=1) (c:=1) hb (Nat.le_refl _) (by simp [maxLen]) (by rw [hc.1]) hN;refine ⟨[v],?_,by simpa using (Els.nil (G:=fV) (sz:=4)).snoc hv hc,rfl⟩;have:v.cells.toList.take (1*4)=q0e [v]:=by
  rw [List.take_of_length_le (by rw [Array.length_toList,hc.1]; omega)]; simp [q0e]
 rw [← this]; exact h1
def q6j (vals:List Int) (i n:Nat):List (List Int):=(vals.take i).map (fun V=>[V]) ++ List.replicate (n-i) []
theorem qdH {vals:List Int} {i n:Nat} {V:Int} (hV:vals[i]?=some V) (hn:vals.length=n):(q6j vals i n).set i [V]=q6j vals (i+1) n:=by
 obtain ⟨hlt,he⟩:=List.getElem?_eq_some_iff.1 hV;unfold q6j;rw [List.take_succ_eq_append_getElem hlt,he,List.map_append,show n-i=(n-(i+1))+1 by omega,List.replicate_succ,List.set_append_right _ _ (by simp; omega)];simp [Nat.min_eq_left (Nat.le_of_lt hlt)]
theorem qi7 {D:Nat→Prop} {A:Option Addr} {n c:Nat} {l:List Nat} {vals:List Int} {w:World} (hT:q1r w) (h:In (fSc q3S l) D (.slice A n c) w) (hl:vals.length=l.length) (hn:n≤1000000) (hv:∀ (i x:Nat),l[i]?=some x→x < 18446744073709551616∧∃ V,vals[i]?=some V∧ofF x=some V) (hf:Fr D w) :
  Calls Tryz.prog 59 #[.slice A n c] w fun e w'=>e=.returned (.slice (some ⟨w.heap.size,0,none⟩) n n)∧Ext w w'∧∃ L ss,Sums w' D L w.heap.size w.heap.size n (vals.map fun V=>[V]) ss:=by
 have hln:=h.sc_len;refine q0H Tryz.func59 rfl Tryz.ntmps59 (by kernel_rfl) ?_;refine Wz ?_;refine q0A fun K hK=>?_;refine Zz ?_;refine q7y (Nat.le_refl _) Oq (by unfold maxLen; omega) fun w0 hx0 hO0 hs0=>?_;generalize hg:w.heap.size=g at hO0;refine hK _ _ ?_; clear hK;refine q0B fun K0 hK0=>?_;refine Wz ?_;have hS0:Sums w0 D [g] g g n (q6j vals 0 n) (List.replicate n (none,0,0)):=by
  refine ⟨by simpa [slv] using hO0,by simp [q6j],?_,?_,?_,by simp,?_,?_⟩
  ·intro i s r hs hr;rw [List.getElem?_replicate] at hs;simp only [q6j,List.take_zero,List.map_nil,List.nil_append,List.getElem?_replicate] at hr
   split at hs
   ·split at hr
    ·cases hs;cases hr;exact q3f.nil
    ·cases hr
   ·cases hs
  ·intro i s a hs ha;rw [List.getElem?_replicate] at hs
   split at hs
   ·cases hs;cases ha
   ·cases hs
  ·intro i j s t a b _ hs _ ha _;rw [List.getElem?_replicate] at hs
   split at hs
   ·cases hs;cases ha
   ·cases hs
  ·intro k hk;simp at hk;omega
  ·intro k hk;simp at hk;omega
 refine q0Y ?_;refine q09 (fun e2 w'=>∃ (i:Nat) (L:List Nat) (ss:List (Option Addr × Nat × Nat)),e2 11=.int .i64 i∧i≤n∧Ext w w'∧Sums w' D L g g n (q6j vals i n) ss∧∀ j,i≤j→j < n→ss[j]?=some (none,0,0)) (fun e2 _=>n-(RowKit.intOf (e2 11)).toNat) ⟨0,_,_,rfl,Nat.zero_le _,hx0,hS0,fun j _ hj=>by rw [List.getElem?_replicate,if_pos hj]⟩ ?_;rintro e1 w1 ⟨i,L,ss,k11,hi,hx,hS,hss⟩ hkk;have k3:e1 3=.slice (some ⟨g,0,none⟩) n n:=(hkk 3 (by kernel_rfl)).trans Ue;have k9:e1 9=.slice A n c:=(hkk 9 (by kernel_rfl)).trans Ue;have k10:e1 10=.int .i64 n:=(hkk 10 (by kernel_rfl)).trans Ue;clear hkk
 by_cases hlt:i < n
 ·have hlt':(i:Int) < n:=by omega
  refine Wz3 k11 k10 hlt' ?_;refine q0B fun K1 hK1=>?_;refine Wt (q0G (hK1 _ _ ?_));clear hK1;refine q0O fun K hK=>?_;obtain ⟨x,hxi⟩:∃ x,l[i]?=some x:=⟨_,List.getElem?_eq_getElem Oq⟩;obtain ⟨hx1,V,hV1,hV2⟩:=hv i x hxi;obtain ⟨ad,rfl,i1,x1⟩:=(h.ext hx).ixU hxi;have hD:Fr (Dl D L) w1:=fun k hk=>⟨hf k (Nat.le_trans hx.size hk),fun hm=>by have:=hS.hi k hm; omega⟩;refine Wz4 k9 k11 i1 x1 ?_;refine q0P fun K9 hK9=>?_;refine Zz2 k3 i1 ?_;refine Cr qfI (qiC (hT.ext hx) hx1 hV2 hD) fun v5 w5 hx5 h5=>?_;obtain ⟨s0,A0,n0,c0,rfl,_⟩:=id h5;simp -implicitDefEqProofs (disch:=omega) only [go_sem,Nat.reduceEqDiff,Nat.reduceAdd,↓reduceIte,qs5];refine q1P fun w6 hx6 hb6 hs6=>?_;have hS5:=hS.ext hx5;have hg5:=hS5.hi g hS5.gL;have hOn:=newRow hb6 ((h5.sub (D':=fun k=>Dl D L k∧nb (some ⟨w5.heap.size,0,none⟩) k) fun k hk hd=>⟨hd,fun a ha e=>by cases ha; simp only at e; omega⟩).ext hx6) (Nat.le_of_lt hg5);have hsi:=hss i (Nat.le_refl _) hlt;refine qcj (hS5.ext hx6).own hlt qcm rfl rfl fun w7 hO7 hk7 hs7=>?_;refine hK9 _ _ ?_; clear hK9;have hO7':Own w7 g 125 1 (some ⟨g,0,none⟩) n n ((ss.set i (some ⟨w5.heap.size,0,none⟩,1,1)).map slv):=by rw [List.map_set]; exact hO7
  obtain ⟨L',g1,g2,g3⟩:=hS5.push hsi hOn (Kp.of_ext hx6) (.inr ⟨_,Nat.le_refl _,rfl⟩) hO7' hk7 hs7;rw [qdH hV1 (by omega)] at g3;refine hK _ _ ?_; clear hK;refine q0P fun K9 hK9=>?_;refine Zz2 k11 @i64_in ?_;refine hK9 _ _ ?_; clear hK9 K9;refine ⟨⟨i+1,L',_,rfl,by omega,((hx.trans hx5).trans hx6).under hk7 fun k hk=>by omega,g3,fun j hj1 hj2=>?_⟩,by simp only [q0F,↓reduceIte,RowKit.intOf,k11]; omega⟩;rw [List.getElem?_set_ne (by omega)]; exact hss j Oq hj2
 ·have hlt':¬ (i:Int) < n:=by omega
  refine Wz3 k11 k10 hlt' ?_;refine q0B fun K1 hK1=>?_;refine Wf (q03 (hK0 _ _ ?_));obtain rfl:i=n:=by omega
  have hr:q6j vals i i=vals.map fun V=>[V]:=by
   unfold q6j; rw [List.take_of_length_le Oq,Nat.sub_self]; simp
  rw [hr] at hS;refine Wz1 k3 ?_;refine q0L ?_
  try simp only [q0D,q0N]
  refine q0k rfl ⟨by simp only [q0F,Nat.reduceEqDiff,↓reduceIte,hg],hx,L,ss,by rw [hg]; exact hS⟩

end Go.Proofs.YtbcmhlhgljoolaaGreatDoor
namespace Go.Sp
open Go Go.E
def q2d (raw:List Nat):Nat→List Int
 | 0=>[]
 | i+1=>(q2d raw i).take (q0r ((q5T raw (700+i) / 2:Nat):Int) (i+1)) ++ [(i:Int)] ++ (q2d raw i).drop (q0r ((q5T raw (700+i) / 2:Nat):Int) (i+1))
theorem q5b (raw:List Nat):∀ n,(q2d raw n).length=n
 | 0=>rfl
 | n+1=>by
  have ih:=q5b raw n;have:=q6v (a:=((q5T raw (700+n) / 2:Nat):Int)) (n:=n+1) Oq;unfold q2d;simp only [List.length_append,List.length_take,List.length_drop,List.length_singleton,ih];omega
theorem q6s (raw:List Nat):∀ n (x:Int),x ∈ q2d raw n→0≤x∧x < n
 | 0,x,h=>by simp [q2d] at h
 | n+1,x,h=>by
  unfold q2d at h;rw [List.mem_append,List.mem_append] at h
  rcases h with (h | h) | h
  ·have:=q6s raw n x (List.mem_of_mem_take h); omega
  ·simp at h; omega
  ·have:=q6s raw n x (List.mem_of_mem_drop h); omega
theorem q7s (raw:List Nat):∀ n,(q2d raw n).Nodup
 | 0=>by simp [q2d]
 | n+1=>by
  have ih:=q7s raw n;unfold q2d;generalize q0r _ _=p;have hp:((q2d raw n).take p ++ [(n:Int)] ++ (q2d raw n).drop p).Perm ((n:Int) :: q2d raw n):=by
   rw [List.append_assoc];have h1:((q2d raw n).take p ++ (n:Int) :: (q2d raw n).drop p).Perm ((n:Int) :: ((q2d raw n).take p ++ (q2d raw n).drop p)):=List.perm_middle;rw [List.take_append_drop] at h1;exact h1
  rw [hp.nodup_iff,List.nodup_cons];exact ⟨fun h=>by have:=q6s raw n _ h; omega,ih⟩
end Go.Sp
namespace Go.Proofs.YtbcmhlhgljoolaaGreatDoor
open Go.Sp
theorem qgy (raw:List Nat) (n:Nat):qjj (q2d raw n):=⟨fun x hx=>by rw [q5b]; exact q6s raw n x hx,q7s raw n⟩
end Go.Proofs.YtbcmhlhgljoolaaGreatDoor
namespace Go.Sp
open Go Go.E
def ofZ (x:Nat):Int:=(ofF x).getD 0
def q76 (x y:Nat):Int:=(mkV (ofZ x*ofZ y) (-131072)).getD 0
theorem q5J {f:Nat} (hf:q0f f):∃ (m:Int) (k:Nat),ofF f=some (m*(2:Int) ^ k)∧bl m.natAbs≤53∧64462≤k∧k≤66507:=by
 unfold q0f at hf;have hx:=Nat.mod_lt (f / 4503599627370496) (show 0 < 2048 by omega);have hm:=Nat.mod_lt f (show 0 < 4503599627370496 by omega);unfold ofF;rw [if_neg hf];generalize f / 4503599627370496 % 2048=x at *;generalize f % 4503599627370496=m at *;have h53:∀ n:Nat,n < 9007199254740992→bl n≤53:=fun n h=>q0T (Nat.lt_of_lt_of_le h (Nat.le_refl _))
 split
 ·exact ⟨_,64462,rfl,by rw [q1M]; exact h53 _ Oq,by omega,by omega⟩
 ·exact ⟨_,64461+x,rfl,by rw [q1M]; exact h53 _ Oq,by omega,by omega⟩
theorem q0m {f:Nat} {V:Int} (h:ofF f=some V):ofZ f=V:=by unfold ofZ; rw [h]; rfl
theorem q1t {f:Nat} (hf:q0f f):ofF f=some (ofZ f):=by
 obtain ⟨m,k,h,_⟩:=q5J hf;rw [q0m h,h]
theorem qdb {f:Nat} (hf:q0f f):bl (ofZ f).natAbs≤67600:=by
 obtain ⟨m,k,h,h1,h2,h3⟩:=q5J hf;rw [q0m h]
 by_cases hm:m=0
 ·subst hm; rw [Int.zero_mul]; simp [q1a]
 ·rw [q0U,q1e (by omega)]; omega
theorem q5K {x y:Nat} (hx:q0f x) (hy:q0f y):mkV (ofZ x*ofZ y) (-131072)=some (q76 x y)∧bl (q76 x y).natAbs≤67600:=by
 obtain ⟨m,k,h,h1,h2,h3⟩:=q5J hx;obtain ⟨m',k',h',h1',h2',h3'⟩:=q5J hy;have e:ofZ x*ofZ y=m*m'*(2:Int) ^ (k+k'):=by
  rw [q0m h,q0m h',Int.pow_add];simp only [Int.mul_assoc,Int.mul_left_comm,Int.mul_comm]
 unfold q76;rw [e,q3L]
 by_cases hM:m*m'=0
 ·rw [hM,q2R]; exact ⟨rfl,by simp [q1a]⟩
 ·have hb:bl (m*m').natAbs≤106:=by
   rw [Int.natAbs_mul];exact Nat.le_trans (q2J _ _) Oq
  generalize m*m'=M at *;have ht:=qgR (n:=M.natAbs) Oq;unfold mkV;rw [if_neg hM,if_pos (by omega)];refine ⟨rfl,?_⟩;have ho:=q91 hM;have hne:=q3q hM;rw [Option.getD_some,q0U,q1e (by omega)];omega
end Go.Sp
namespace Go.Proofs.YtbcmhlhgljoolaaGreatDoor
open Go Go.E Go.Sp
def q6J (f:Fac) (q:Nat):Nat→Nat→List (List Int)→List (List Int)
 | _,0,rows=>rows
 | p,c+1,rows=>q6J f q (p+1) c (rows.set (f.ri.getD p 0).toNat (rows.getD (f.ri.getD p 0).toNat [] ++ [-(q76 (f.vs.getD p 0) q)]))
def q48 (f:Fac):List Int→List (List Int)→List Nat→Option (List Nat)
 | [],_,ys=>some ys
 | k :: ks,rows,ys =>
  if q0f (fQ 0 (q1b (rows.getD k.toNat [])) (ofZ (f.vs.getD (f.cp.getD k.toNat 0).toNat 0))) then
   q48 f ks (q6J f (fQ 0 (q1b (rows.getD k.toNat [])) (ofZ (f.vs.getD (f.cp.getD k.toNat 0).toNat 0))) ((f.cp.getD k.toNat 0).toNat+1) ((f.cp.getD (k.toNat+1) 0).toNat-((f.cp.getD k.toNat 0).toNat+1)) rows) (ys.set k.toNat (fQ 0 (q1b (rows.getD k.toNat [])) (ofZ (f.vs.getD (f.cp.getD k.toNat 0).toNat 0))))
  else none
theorem getD_some {α:Type} {l:List α} {i:Nat} {x d:α} (h:l[i]?=some x):l.getD i d=x:=by rw [List.getD_eq_getElem?_getD,h]; rfl
theorem q3y {f:Fac} {k a b x:Nat} {ks:List Int} {rows:List (List Int)} {ys:List Nat} {r:List Int} (ha:f.cp[k]?=some (a:Int)) (hb:f.cp[k+1]?=some (b:Int)) (hx:f.vs[a]?=some x) (hr:rows[k]?=some r) :
  q48 f ((k:Int) :: ks) rows ys=if q0f (fQ 0 (q1b r) (ofZ x)) then q48 f ks (q6J f (fQ 0 (q1b r) (ofZ x)) (a+1) (b-(a+1)) rows) (ys.set k (fQ 0 (q1b r) (ofZ x))) else none:=by
 rw [q48,show ((k:Int)).toNat=k by omega,getD_some ha,getD_some hb,getD_some hr,show ((a:Int)).toNat=a by omega,show ((b:Int)).toNat=b by omega,getD_some hx]
theorem q5Z {f:Fac} {q p c i x:Nat} {rows:List (List Int)} {r:List Int} (hi:f.ri[p]?=some (i:Int)) (hx:f.vs[p]?=some x) (hr:rows[i]?=some r) :
  q6J f q p (c+1) rows=q6J f q (p+1) c (rows.set i (r ++ [-(q76 x q)])):=by
 show q6J f q (p+1) c _=_
 rw [getD_some hi,show ((i:Int)).toNat=i by omega,getD_some hx,getD_some hr]
theorem q4w {f:Fac} {q:Nat}:∀ (c p:Nat) (rows:List (List Int)),(q6J f q p c rows).length=rows.length
 | 0,_,_=>rfl
 | c+1,p,rows=>by
  show (q6J f q (p+1) c _).length=_
  rw [q4w]; simp
theorem Col.mono {f:Fac} {j a b:Nat} (h:Col f j a b):∀ (d p:Nat) (y z:Int),a≤p→p+d < b→f.ri[p]?=some y→f.ri[p+d]?=some z→(if d=0 then y=z else y < z)
 | 0,p,y,z,_,_,h1,h2=>by
  rw [if_pos rfl];rw [Nat.add_zero,h1] at h2; exact Option.some.inj h2
 | d+1,p,y,z,ha,hb,h1,h2=>by
  rw [if_neg (by omega)];obtain ⟨u,v,hu,hv,huv⟩:=h.inc (p+(d+1)) Oq hb;rw [h2] at hv;obtain rfl:=Option.some.inj hv;have:=h.mono d p y u ha Oq h1 (by rw [show p+d=p+(d+1)-1 by omega]; exact hu)
  split at this <;> omega
theorem Col.row {f:Fac} {j a b p:Nat} (h:Col f j a b) (hn:f.pm.length≤200) (h1:a < p) (h2:p < b):∃ i:Nat,f.ri[p]?=some (i:Int)∧j < i∧i < f.pm.length:=by
 have hle:=h.le;obtain ⟨z,hz⟩:∃ z,f.ri[p]?=some z:=⟨_,List.getElem?_eq_getElem Oq⟩;have m1:=h.mono (p-a) a j z (Nat.le_refl _) Oq h.first (by rw [show a+(p-a)=p by omega]; exact hz)
 rw [if_neg (by omega)] at m1;obtain ⟨l,hl,hlt⟩:=h.last;have m2:=h.mono (b-1-p) p z l Oq Oq hz (by rw [show p+(b-1-p)=b-1 by omega]; exact hl);have:z≤l:=by split at m2 <;> omega
 refine ⟨z.toNat,?_,by omega,by omega⟩;rw [hz]; congr 1; omega
theorem qhC {u x:Int} (hu:u.natAbs≤9) (hx:x.natAbs≤9):q76 (flz u) (flz x)=u*x*(2:Int) ^ 65536:=by
 unfold q76;rw [q0m (q49 Oq),q0m (q49 Oq),qhE rfl]
 ·rfl
 ·have:(u*x).natAbs≤81:=by rw [Int.natAbs_mul]; exact Nat.mul_le_mul hu hx
  have h:=q0T (n:=(u*x).natAbs) (k:=7) (Nat.lt_of_le_of_lt this Oq);omega
theorem q9o (V:Int):q1b [V]=V:=by have:=q1o [] V; rw [List.nil_append,qg1] at this; omega
section
variable {f:Fac} {z:Nat→Int}
end
section
variable {D:Nat→Prop} {L:List Nat} {N0 g n gy:Nat} {rows:List (List Int)} {ss:List (Option Addr × Nat × Nat)} {w w':World}
theorem Sums.kpo (h:Sums w D L N0 g n rows ss) (k:Kp (fun k=>k≠gy) w w') (hD:∀ k,D k→k≠gy) (hg:gy ∉ L):Sums w' D L N0 g n rows ss :=
 ⟨h.own.kp k (fun a ha=>by cases ha; exact fun e=>hg (e ▸ h.gL)),h.len,fun i s r a b=>(h.row i s r a b).kp k (fun k hd=>hD k hd.1) (fun A hA e=>hg (e ▸ (h.mem i s A a hA).1)),h.mem,h.ne,h.gL,h.lo,fun j hj=>Nat.lt_of_lt_of_le (h.hi j hj) k.size⟩
theorem qqY {mode:Int} {neg:Bool} {N M:Nat} (hN:0 < N) (hM:0 < M):rF mode neg N M < 18446744073709551616:=by
 have h1:M≤N*2 ^ bl M:=Nat.le_trans (Nat.le_of_lt (q2o M)) (Nat.le_mul_of_pos_left _ hN);have:=qlv (mode:=mode) (neg:=neg) (e := -((bl M:Nat):Int)) hM h1;unfold rE at this;rw [show (-((bl M:Nat):Int)).toNat=0 by omega,show (- -((bl M:Nat):Int)).toNat=bl M by omega,Nat.pow_zero,Nat.mul_one,q5G hN hM (q0Q _)] at this;exact this
theorem qr2 {mode a b:Int} (hb:b≠0):fQ mode a b < 18446744073709551616:=by
 unfold fQ
 split
 ·omega
 ·exact qqY Oq Oq
def qr3:Option (List Nat)→Fam
 | some ys=>fP (fSc q3S ys) (fc (.int .i64 0))
 | none=>fP (fSc q3S []) (fc (.int .i64 233))
structure RowsOk (f:Fac) (k:Nat) (rows:List (List Int)):Prop where
 len:rows.length=f.pm.length
 row:∀ r ∈ rows,r.length≤1+k∧∀ x ∈ r,bl x.natAbs≤67600
structure RowsIn (f:Fac) (k p b:Nat) (rows:List (List Int)):Prop where
 len:rows.length=f.pm.length
 row:∀ (i:Nat) (r:List Int),rows[i]?=some r→r.length≤2+k∧((∃ p',p≤p'∧p' < b∧f.ri[p']?=some (i:Int))→r.length≤1+k)∧∀ x ∈ r,bl x.natAbs≤67600
theorem RowsOk.into {f:Fac} {k p b:Nat} (h:RowsOk f k rows):RowsIn f k p b rows :=
 ⟨h.len,fun i r hr=>by
  obtain ⟨h1,h2⟩:=h.row r (List.mem_of_getElem? hr);exact ⟨by omega,fun _=>h1,h2⟩⟩
theorem RowsIn.out {f:Fac} {k p b:Nat} (h:RowsIn f k p b rows):RowsOk f (k+1) rows :=
 ⟨h.len,fun r hr=>by
  obtain ⟨i,hi⟩:=List.mem_iff_getElem?.1 hr;obtain ⟨h1,_,h2⟩:=h.row i r hi;exact ⟨by omega,h2⟩⟩
theorem RowsIn.step {f:Fac} {j a k p b i:Nat} {r:List Int} {x q:Nat} (hc:Col f j a b) (h:RowsIn f k p b rows) (hp1:a < p) (hp2:p < b) (hi:f.ri[p]?=some (i:Int)) (hr:rows[i]?=some r) (hx:q0f x) (hq:q0f q):RowsIn f k (p+1) b (rows.set i (r ++ [-(q76 x q)])):=by
 have h2:=(q5K hx hq).2;obtain ⟨l1,l2,l3⟩:=h.row i r hr;refine ⟨by rw [List.length_set]; exact h.len,fun i' r' hr'=>?_⟩
 rcases q1g hr' with ⟨rfl,rfl,_⟩ | ⟨hne,hr'⟩
 ·have:=l2 ⟨p,Nat.le_refl _,hp2,hi⟩;refine ⟨by simp; omega,?_,fun y hy=>?_⟩
  ·rintro ⟨p',h1,h2,h3⟩;have:=hc.mono (p'-p) p i i Oq Oq hi (by rw [show p+(p'-p)=p' by omega]; exact h3);rw [if_neg (by omega)] at this; omega
  ·rcases List.mem_append.1 hy with hy | hy
   ·exact l3 y hy
   ·simp at hy; subst hy; rwa [Int.natAbs_neg]
 ·obtain ⟨m1,m2,m3⟩:=h.row i' r' hr';exact ⟨m1,fun ⟨p',h1,h2,h3⟩=>m2 ⟨p',by omega,h2,h3⟩,m3⟩
theorem qle {k:Nat} {f:Fac} {r:List Int} (h:RowsOk f k rows) (hr:r ∈ rows) (hk:k≤500):r.length≤501∧(∀ x ∈ r,q1K x)∧q1K (q1b r):=by
 obtain ⟨h1,h2⟩:=h.row r hr;refine ⟨by omega,fun x hx=>?_,?_⟩
 ·have:=h2 x hx; unfold q1K; omega
 ·have:=q69 (i:=r.length) h2 Oq;rw [List.take_length] at this;unfold q1K; omega
end
theorem inI {D:Nat→Prop} {a:Addr} {n c i:Nat} {l:List Int} {w:World} {z:Int} (h:In (fSc q1N l) D (.slice (some a) n c) w) (hi:l[i]?=some z):w.cell? (a.add i)=some (.int .i64 z):=by
 obtain ⟨_,hc,_,x⟩:=h.ixI hi; cases hc; exact x
theorem inU {D:Nat→Prop} {a:Addr} {n c i:Nat} {l:List Nat} {w:World} {z:Nat} (h:In (fSc q3S l) D (.slice (some a) n c) w) (hi:l[i]?=some z):w.cell? (a.add i)=some (.int .u64 (z:Int)):=by
 obtain ⟨_,hc,_,x⟩:=h.ixU hi; cases hc; exact x
theorem owG {B g n c j:Nat} {xs:List Value} {v:Value} {w:World} (h:Own w B 30 1 (some ⟨g,0,none⟩) n c xs) (hj:xs[j]?=some v):w.cell? ⟨g,j,none⟩=some v:=by
 obtain ⟨_,hg,_,hc,_⟩:=h.cell (List.getElem?_eq_some_iff.1 hj).1;cases hg;rw [hc]; exact (List.getElem?_eq_getElem _).symm.trans hj
theorem qbi {E:Nat→Prop} {f:Fac} {v:Value} {A A2:Option Addr} {n c n2 c2:Nat} {l:List Nat} {ps:List Int} {w:World} (hT:q1r w) (h:In (qr4 f) E v w) (ho:FacOk f) (hb:In (fSc q3S l) E (.slice A n c) w) (hl:q77 l) (hn:n=f.pm.length)
  (hp:In (fSc q1N ps) E (.slice A2 n2 c2) w) (hps:∀ x ∈ ps,0≤x∧x < n) (hpl:n2≤200) (hf:Fr E w) :
  Calls Tryz.prog 49 #[v,.slice A n c,.slice A2 n2 c2] w (Rt (qr3 (q48 f ps (l.map fun x=>[ofZ x]) (List.replicate n 0))) E w):=by
 obtain ⟨A3,n3,c3,A4,n4,c4,A5,n5,c5,A6,n6,c6,rfl,h1,h2,h3,h4⟩:=qeg h;have l1:=h1.sc_len;have l2:=h2.sc_len;have l3:=h3.sc_len;have l4:=h4.sc_len;have lb:=hb.sc_len;have lp:=hp.sc_len;have hnb:=ho.n;have hbeg:=fun {w':World} {D':Nat→Prop} (hx:Ext w w') (hd:∀ k,k < w.heap.size→D' k) (hf':Fr D' w')=>qi7 (D:=D') (vals:=l.map ofZ) (hT.ext hx) ((hb.sub fun k hk _=>hd k hk).ext hx) (by simp) Oq (fun i x hi=>⟨(hl x (List.mem_of_getElem? hi)).1,ofZ x,by simp [hi],q1t (hl x (List.mem_of_getElem? hi)).2⟩) hf';obtain ⟨N,hN⟩:∃ N,N=w.heap.size:=⟨_,rfl⟩;have b2:=h2.db (w':=w);have b3:=h3.db (w':=w);have b4:=h4.db (w':=w);have bp:=hp.db (w':=w);rw [← hN] at b2 b3 b4 bp;refine q0H Tryz.func49 rfl Tryz.ntmps49 (by kernel_rfl) ?_;refine q0A fun K hK=>?_;refine Zz ?_;refine q0X ?_;intro g3 w3 hg3 hx3 hb3 hs3;refine hK _ _ ?_; clear hK K;have hx:Ext w w3:=hx3;replace b2:=b2.ext hx;replace b3:=b3.ext hx;replace b4:=b4.ext hx;replace bp:=bp.ext hx;clear hx3;refine q9b (fun e' w'=>∃ (N0 g gy:Nat) (L:List Nat) (ss:List (Option Addr × Nat × Nat)),e' 3=.pointer (some ⟨g3,0,none⟩)∧e' 2=.slice A2 n2 c2∧e' 8=.slice (some ⟨g,0,none⟩) n n∧e' 9=.slice (some ⟨gy,0,none⟩) n n∧Ext w3 w'∧Sums w' (fun k=>k≠gy) L N0 g n (l.map fun x=>[ofZ x]) ss∧Own w' N 30 1 (some ⟨gy,0,none⟩) n n (List.replicate n (q3S 0))∧gy ∉ L∧g3 < N0∧N≤N0∧g3 < gy) ?_ ?_
 ·refine W_dA q0j (.one 0 (.one 2 (.one 3 (.alt (.one 1 (.one 5 (.one 4 (.one 6 .fin)))) (.one 4 (.one 1 (.one 5 (.one 6 .fin)))))))) (by kernel_rfl) fun KE wE hKE hxE=>?_;replace b2:=b2.ext hxE;replace b3:=b3.ext hxE;replace b4:=b4.ext hxE;replace bp:=bp.ext hxE;replace hb3:=hb3.ext hxE;replace hx:=hx.trans hxE;simp only [q0n] at hKE;have hlt3:=hb3.lt;have hmm:(l.map ofZ).map (fun V=>[V])=l.map fun x=>[ofZ x]:=by rw [List.map_map]; rfl
  rw [hmm] at hbeg;have hrp:List.replicate n (Value.int .u64 0)=List.replicate n (q3S 0):=rfl;have hNE:=hx.size;rw [← hN] at hNE;simp -implicitDefEqProofs (disch:=omega) only [go_sem,Nat.reduceEqDiff,Nat.reduceAdd,↓reduceIte,qbE,qbF,qfh,q7t,qaM,List.toList_toArray];refine ⟨?_,?_⟩
  ·refine q0E qng (hbeg (D':=fun _=>True) hx (fun _ _=>trivial) (Fr.triv _)) ?_;rintro _ w14 ⟨rfl,hx14,L,ss,hS⟩; refine ⟨_,rfl,?_⟩;refine q7y (Nat.le_refl _) Oq (by unfold maxLen; omega) fun w17 hx17 hO17 hs17=>?_;have hs14:=hx14.size;refine hKE _ _ ⟨_,_,w14.heap.size,L,ss,Ue,Ue,Ue,Ue,(hxE.trans hx14).trans hx17,(hS.sub (D':=fun k=>k≠w14.heap.size) fun k hk _=>by omega).ext hx17,hO17.mono Oq,fun hm=>?_,hlt3,hNE,by omega⟩;have:=hS.hi _ hm;omega
  ·refine q7y (Nat.le_refl _) Oq (by unfold maxLen; omega) fun w17 hx17 hO17 hs17=>?_;refine q0E qng (hbeg (D':=fun k=>k≠wE.heap.size) (hx.trans hx17) (fun k hk=>by omega) (fun k hk=>by omega)) ?_;rintro _ w14 ⟨rfl,hx14,L,ss,hS⟩; refine ⟨_,rfl,?_⟩;refine hKE _ _ ⟨_,_,wE.heap.size,L,ss,Ue,Ue,Ue,Ue,(hxE.trans hx17).trans hx14,hS,(hO17.mono Oq).ext hx14,fun hm=>?_,by omega,by omega,hlt3⟩;have:=hS.lo _ hm;omega
 ·rintro e0 w1 ⟨N0,g,gy,L,ss,k3,k2,k8,k9,hx1,hS,hO,hgL,hgN,hNN,hg3y⟩;replace b2:=b2.ext hx1;replace b3:=b3.ext hx1;replace b4:=b4.ext hx1;replace bp:=bp.ext hx1;replace hb3:=hb3.ext hx1;replace hx:=hx.trans hx1;refine q0B fun K0 hK0=>?_;refine Wz1 k2 ?_;refine q0Y ?_;refine q09 (fun e2 w2=>∃ (i:Nat) (L:List Nat) (rows:List (List Int)) (ys:List Nat) (ss:List (Option Addr × Nat × Nat)),e2 20=.int .i64 i∧i≤n2∧Ext w w2∧Blk w2 g3 27 #[.slice A3 n3 c3,.slice A4 n4 c4,.slice A5 n5 c5,.slice A6 n6 c6]∧In (fSc q1N f.cp) (Db E N) (.slice A4 n4 c4) w2∧In (fSc q1N f.ri) (Db E N) (.slice A5 n5 c5) w2∧In (fSc q3S f.vs) (Db E N) (.slice A6 n6 c6) w2∧In (fSc q1N ps) (Db E N) (.slice A2 n2 c2) w2∧Sums w2 (fun k=>k≠gy) L N0 g n rows ss∧Own w2 N 30 1 (some ⟨gy,0,none⟩) n n (ys.map q3S)∧gy ∉ L∧RowsOk f i rows∧ys.length=n∧q48 f (ps.drop i) rows ys=q48 f ps (l.map fun x=>[ofZ x]) (List.replicate n 0)) (fun e2 _=>n2-(RowKit.intOf (e2 20)).toNat) ⟨0,L,_,_,ss,rfl,Nat.zero_le _,hx,hb3,b2,b3,b4,bp,hS,by rw [List.map_replicate]; exact hO,hgL,⟨by simp; omega,fun r hr=>?_⟩,by simp,rfl⟩ ?_
  ·rw [List.mem_map] at hr;obtain ⟨y,hy,rfl⟩:=hr;exact ⟨by simp,fun x hx=>by simp at hx; subst hx; exact qdb (hl y hy).2⟩
  clear hx hb3 b2 b3 b4 bp hS hO hgL;rintro e1 w2 ⟨i,L,rows,ys,ss,k20,hi,hx,hb3,b2,b3,b4,bp,hS,hO,hgL,hR,hys,hfw⟩ hkk;have r3:e1 3=.pointer (some ⟨g3,0,none⟩):=(hkk 3 (by kernel_rfl)).trans Ue;have r8:e1 8=.slice (some ⟨g,0,none⟩) n n:=(hkk 8 (by kernel_rfl)).trans Ue;have r9:e1 9=.slice (some ⟨gy,0,none⟩) n n:=(hkk 9 (by kernel_rfl)).trans Ue;have r18:e1 18=.slice A2 n2 c2:=(hkk 18 (by kernel_rfl)).trans Ue;have r19:e1 19=.int .i64 n2:=(hkk 19 (by kernel_rfl)).trans Ue;clear hkk
  by_cases hlt:i < n2
  ·have hlt':(i:Int) < n2:=by omega
   refine Wz3 k20 r19 hlt' ?_;refine q0B fun K1 hK1=>?_;refine Wt (q0G (hK1 _ _ ?_));clear hK1;refine q0O fun K hK=>?_;obtain ⟨x,hxi⟩:∃ x,ps[i]?=some x:=⟨_,List.getElem?_eq_getElem Oq⟩;obtain ⟨hx0,hxn⟩:=hps x (List.mem_of_getElem? hxi);obtain ⟨k,rfl⟩:∃ k:Nat,x=(k:Int):=⟨x.toNat,by omega⟩;obtain ⟨adp,rfl,ip,xp⟩:=bp.ixI hxi;obtain ⟨a,b,hcol⟩:=ho.col k Oq;obtain ⟨dx,dV,d1,d2,d3⟩:=hcol.diag;obtain ⟨ad2,rfl,i2,x2⟩:=b2.ixI hcol.ha;obtain ⟨ad4,rfl,i4,x4⟩:=b4.ixU d1;have hrl:=hR.len;obtain ⟨r,hrk⟩:∃ r,rows[k]?=some r:=⟨_,List.getElem?_eq_getElem Oq⟩;obtain ⟨s1,s2,s3⟩:=qle hR (List.mem_of_getElem? hrk) Oq;obtain ⟨hdx,hdf⟩:=ho.vals dx (List.mem_of_getElem? d1);obtain ⟨q,hq⟩:∃ q,q=fQ 0 (q1b r) dV:=⟨_,rfl⟩;obtain ⟨D,hDq⟩:∃ D:Nat→Prop,D=fun _=>True:=⟨_,rfl⟩;have hDl:∀ k,Dl D [] k:=fun k=>⟨by rw [hDq]; trivial,by simp⟩;have hD:Fr (Dl D []) w2:=fun k _=>hDl k;have ik:(0:Int)≤(k:Int)∧(k:Int) < n:=by omega
   refine Wz4 r18 k20 ip xp ?_;refine q0B fun K2 hK2=>?_;have hqu:=fun {w:World} {v v':Value} (hT:q1r w) (h:In (fV (q1b r)) (Dl D []) v w) (h':In (fV dV) (Dl D []) v' w) (hf:Fr (Dl D []) w)=>qr1 hT h h' Oq hf;rw [← hq] at hqu;clear x2 x4 xp;refine q8c q0j (Kp (fun k=>k ∉ ([]:List Nat))) (fun _ _=>False) (Kp.pre _) [true,true,true,true,false,true,true,true,true,true,true,true,true,true,false,false,false,false] [false,false,false,false,false,false,false,false,false,false,false,false,false,false,false,false,false,false] [1,1,1,1,0,1,1,1,1,1,1,1,1,1,0,0,1,1] (by kernel_rfl) ?_
   apply Exists.intro
   refine ⟨fun wE hE KE hKE=>?_,fun wE hE KE hKE=>?_,fun wE hxE hr=>?_⟩
   ·skip
    replace hE:=Kp.all hE;replace hb3:=hb3.ext hE;replace b2:=b2.ext hE;replace b3:=b3.ext hE;replace b4:=b4.ext hE;replace bp:=bp.ext hE;replace hS:=hS.ext hE;replace hO:=hO.ext hE;refine Zz10 r3 r8 r9 hb3.c1 hb3.c3 i2 (inI b2 hcol.ha) i4 (inU b4 d1) ik ?_;exact hKE
   ·exact hE.elim
   simp only [q1x,q1z,q1y];replace b2:=b2.ext hxE;replace b3:=b3.ext hxE;replace b4:=b4.ext hxE;replace bp:=bp.ext hxE;replace hS:=hS.ext hxE;replace hO:=hO.ext hxE;replace hb3:=hb3.ext hxE;replace hD:=hD.kp hxE;replace hx:=hx.trans hxE;simp -implicitDefEqProofs (disch:=omega) only [go_sem,Nat.reduceEqDiff,Nat.reduceAdd,↓reduceIte,List.toList_toArray,r3,r8,r9,hb3.c1,hb3.c3,i2,(inI b2 hcol.ha),i4,(inU b4 d1),ik];refine Cr qsS (qgS (hT.ext hx) (hS.sub (D':=Dl D []) fun k _ _=>hDl k) hrk Oq s2 s3 (fun k _=>hDl k) hD) fun v28 w28 hx28 h28=>?_;replace b2:=b2.ext hx28;replace b3:=b3.ext hx28;replace b4:=b4.ext hx28;replace bp:=bp.ext hx28;replace hS:=hS.ext hx28;replace hO:=hO.ext hx28;replace hb3:=hb3.ext hx28;replace hD:=hD.kp hx28;replace hx:=hx.trans hx28;replace hr:=hr.trans (Kp.of_ext hx28);clear hx28;refine ⟨hr,?_⟩;refine Cr qfI (qiC (hT.ext hx) hdx d2 hD) fun v38 w38 hx38 h38=>?_;replace b2:=b2.ext hx38;replace b3:=b3.ext hx38;replace b4:=b4.ext hx38;replace bp:=bp.ext hx38;replace hS:=hS.ext hx38;replace hO:=hO.ext hx38;replace h28:=h28.ext hx38;replace hb3:=hb3.ext hx38;replace hD:=hD.kp hx38;replace hx:=hx.trans hx38;replace hr:=hr.trans (Kp.of_ext hx38);clear hx38;refine ⟨hr,?_⟩;refine Ck qsT (hqu (hT.ext hx) h28 h38 hD) fun w39 hx39=>?_;replace b2:=b2.ext hx39;replace b3:=b3.ext hx39;replace b4:=b4.ext hx39;replace bp:=bp.ext hx39;replace hS:=hS.ext hx39;replace hO:=hO.ext hx39;replace h28:=h28.ext hx39;replace h38:=h38.ext hx39;replace hb3:=hb3.ext hx39;replace hD:=hD.kp hx39;replace hx:=hx.trans hx39;replace hr:=hr.trans (Kp.of_ext hx39);clear hx39;refine ⟨hr,?_⟩;have hqlt:q < 18446744073709551616:=by rw [hq]; exact qr2 Oq
   have hyl:(ys.map q3S).length=n:=by rw [List.length_map]; exact hys
   refine qcj hO (by omega:k < n) qpm rfl rfl fun w5 hO5 hk5 hs5=>?_;replace hS:=hS.kpo hk5 (fun _ h=>h) hgL;replace b2:=b2.kpb hk5 fun k hk=>by omega
   replace b3:=b3.kpb hk5 fun k hk=>by omega
   replace b4:=b4.kpb hk5 fun k hk=>by omega
   replace bp:=bp.kpb hk5 fun k hk=>by omega
   replace hb3:=hb3.kpne hk5 Oq;replace hx:=hx.under hk5 fun k hk=>by omega
   have cy:=hO5.cell_set Oq;have hO6:Own w5 N 30 1 (some ⟨gy,0,none⟩) n n ((ys.set k q).map q3S):=by rw [List.map_set]; exact hO5
   clear hO hO5 hk5 hD;simp only [q0n];refine hK2 _ _ ?_; clear hK2;refine q0B fun K3 hK3=>?_;refine q0A fun K hK=>?_;refine Zz3 r9 ik cy ?_;refine q0E qsR (q8M hqlt) ?_;rintro _ _ ⟨rfl,rfl⟩; refine ⟨_,rfl,?_⟩;have hdr:ps.drop i=(k:Int) :: ps.drop (i+1):=by
    rw [List.drop_eq_getElem_cons (by omega)]
    congr 1
    exact Option.some.inj ((List.getElem?_eq_getElem Oq).symm.trans hxi)
   rw [hdr,q3y hcol.ha hcol.hb d1 hrk,q0m d2,← hq] at hfw
   by_cases hfin:q0f q
   ·rw [if_pos hfin] at hfw;rw [decide_eq_true hfin];refine Zz ?_;refine hK _ _ ?_; clear hK;refine Wf (q0G (hK3 _ _ ?_));clear hK3;obtain ⟨k1,hk1⟩:∃ k1,k1=k+1:=⟨_,rfl⟩;have hcb:=hcol.hb;rw [← hk1] at hcb;have hle:=hcol.le;have hlt:=hcol.lt;have hrib:=ho.rib;have hril:=ho.ril;obtain ⟨_,hcc,i2',x2'⟩:=b2.ixI hcol.ha;cases hcc;have e1':IntKind.i64.wrap ((a:Int)+1)=((a+1:Nat):Int):=by rw [i64_in Oq (by omega)]; omega
    have e2':IntKind.i64.wrap ((k:Int)+1)=(k1:Int):=by rw [i64_in Oq (by omega)]; omega
    clear cy i2;refine Wz5 r3 hb3.c1 i2' x2' e1' ?_;refine q0Y ?_;refine q09 (fun e2 w2=>∃ (p:Nat) (L:List Nat) (rows':List (List Int)) (ss:List (Option Addr × Nat × Nat)),e2 12=.int .i64 p∧a+1≤p∧p≤b∧Ext w w2∧Blk w2 g3 27 #[.slice A3 n3 c3,.slice (some ad2) n4 c4,.slice A5 n5 c5,.slice (some ad4) n6 c6]∧In (fSc q1N f.cp) (Db E N) (.slice (some ad2) n4 c4) w2∧In (fSc q1N f.ri) (Db E N) (.slice A5 n5 c5) w2∧In (fSc q3S f.vs) (Db E N) (.slice (some ad4) n6 c6) w2∧In (fSc q1N ps) (Db E N) (.slice (some adp) n2 c2) w2∧Sums w2 (fun k=>k≠gy) L N0 g n rows' ss∧Own w2 N 30 1 (some ⟨gy,0,none⟩) n n ((ys.set k q).map q3S)∧gy ∉ L∧RowsIn f i p b rows'∧q6J f q p (b-p) rows'=q6J f q (a+1) (b-(a+1)) rows) (fun e2 _=>b-(RowKit.intOf (e2 12)).toNat) ⟨a+1,L,rows,ss,rfl,Nat.le_refl _,hlt,hx,hb3,b2,b3,b4,bp,hS,hO6,hgL,hR.into,rfl⟩ ?_;clear hx hb3 b2 b3 b4 bp hS hO6 hgL x2' hrk hR hrl s1 s2 s3;rintro e3 w6 ⟨p,L,rows',ss,k12,hp1,hp2,hx,hb3,b2,b3,b4,bp,hS,hO,hgL,hR,hsub⟩ hkk;have q3:e3 3=.pointer (some ⟨g3,0,none⟩):=(hkk 3 (by kernel_rfl)).trans Ue;have q8:e3 8=.slice (some ⟨g,0,none⟩) n n:=(hkk 8 (by kernel_rfl)).trans Ue;have q9:e3 9=.slice (some ⟨gy,0,none⟩) n n:=(hkk 9 (by kernel_rfl)).trans Ue;have q11:e3 11=.int .i64 k:=(hkk 11 (by kernel_rfl)).trans Ue;have q20:e3 20=.int .i64 i:=(hkk 20 (by kernel_rfl)).trans Ue;clear hkk;obtain ⟨_,hcc,i2,x2⟩:=b2.ixI hcb;cases hcc
    by_cases hlt2:p < b
    ·have hlt2':(p:Int) < b:=by omega
     refine q0B fun K5 hK5=>?_;refine q0A fun K hK=>?_;simp -implicitDefEqProofs (disch:=omega) only [go_sem,Nat.reduceEqDiff,Nat.reduceAdd,↓reduceIte,k12,q3,hb3.c1,q11,e2',i2,x2,hlt2'];refine hK _ _ ?_; clear hK K;refine Wt (q0G (hK5 _ _ ?_));clear hK5;refine q0O fun K6 hK6=>?_;obtain ⟨j0,hj1,hj2,hj3⟩:=hcol.row ho.n Oq hlt2;obtain ⟨xv,hxv⟩:∃ xv,f.vs[p]?=some xv:=⟨_,List.getElem?_eq_getElem Oq⟩;obtain ⟨hv1,hv2⟩:=ho.vals xv (List.mem_of_getElem? hxv);obtain ⟨ad5,rfl,i5,x5⟩:=b3.ixI hj1;obtain ⟨_,hcc,i6,x6⟩:=b4.ixU hxv;cases hcc;have hyu:((ys.set k q).map q3S)[k]?=some (.int .u64 (q:Int)):=by rw [List.getElem?_map,List.getElem?_set_self (by omega)]; rfl
     have hrl:=hR.len;obtain ⟨r,hrk⟩:∃ r,rows'[j0]?=some r:=⟨_,List.getElem?_eq_getElem Oq⟩;have hrl2:=(hR.row j0 r hrk).1;have hgy:gy < w6.heap.size:=by
      rcases hO.form with ⟨h0,_⟩ | ⟨_,_,h0,_,hb,_⟩
      ·cases h0
      ·cases h0; exact hb.lt
     clear x2 x5 x6;obtain ⟨hmu,_⟩:=q5K hv2 hfin;refine q8c q0j (Kp (fun k=>k ∉ ([]:List Nat))) (fun _ _=>False) (Kp.pre _) [true,true,true,true,true,true,true,true,true,true,true,true,true,true,true,false] [false,false,false,false,false,false,false,false,false,false,false,false,false,false,false,false] [1,1,1,1,1,1,1,1,1,1,1,1,1,1,1,1] (by kernel_rfl) ?_
     apply Exists.intro
     refine ⟨fun wE hE KE hKE=>?_,fun wE hE KE hKE=>?_,fun wE hxE hr=>?_⟩
     ·skip
      replace hE:=Kp.all hE;replace hb3:=hb3.ext hE;replace b2:=b2.ext hE;replace b3:=b3.ext hE;replace b4:=b4.ext hE;replace bp:=bp.ext hE;replace hS:=hS.ext hE;replace hO:=hO.ext hE;refine Zz13 k12 q3 q8 q9 q11 hb3.c2 hb3.c3 i5 (inI b3 hj1) i6 (inU b4 hxv) ik (owG hO hyu) ?_;exact hKE
     ·exact hE.elim
     simp only [q1x,q1z,q1y];replace b2:=b2.ext hxE;replace b3:=b3.ext hxE;replace b4:=b4.ext hxE;replace bp:=bp.ext hxE;replace hS:=hS.ext hxE;replace hO:=hO.ext hxE;replace hb3:=hb3.ext hxE;replace hx:=hx.trans hxE;clear hr;simp -implicitDefEqProofs (disch:=omega) only [go_sem,Nat.reduceEqDiff,Nat.reduceAdd,↓reduceIte,List.toList_toArray,k12,q3,q8,q9,q11,hb3.c2,hb3.c3,i5,(inI b3 hj1),i6,(inU b4 hxv),ik,(owG hO hyu)];have hw':=hxE.size;refine q0E qsQ (q8m (hT.ext hx) hS hrk hv1 hqlt (q1t hv2) (q1t hfin) hmu Oq (fun k hk=>by omega)) ?_;rintro _ w7 ⟨rfl,hk7,L',ss',hL1,hL2,hS7⟩; refine ⟨_,rfl,?_⟩;have hlo:∀ j,j < N→j ∉ L:=fun j hj hm=>by have:=hS.lo j hm; omega
     replace b2:=b2.kpb hk7 hlo;replace b3:=b3.kpb hk7 hlo;replace b4:=b4.kpb hk7 hlo;replace bp:=bp.kpb hk7 hlo;replace hb3:=hb3.kp hk7 fun hm=>by have:=hS.lo _ hm; omega
     replace hx:=hx.under hk7 fun j hj=>hlo j Oq;replace hO:=hO.kp hk7 fun a ha=>by cases ha; exact hgL
     have hgL7:gy ∉ L':=fun hm=>by
      rcases hL2 _ hm with h | h
      ·exact hgL h
      ·omega
     simp only [q0n,qm4];refine hK6 _ _ ?_; clear hK6;refine q0P fun K9 hK9=>?_;refine Zz2 k12 @i64_in ?_;refine hK9 _ _ ?_; clear hK9 K9;refine ⟨⟨p+1,L',_,ss',rfl,by omega,by omega,hx,hb3,b2,b3,b4,bp,hS7,hO,hgL7,hR.step hcol Oq hlt2 hj1 hrk hv2 hfin,?_⟩,by simp only [q0F,↓reduceIte,RowKit.intOf,k12]; omega⟩;rw [← hsub,show b-p=(b-(p+1))+1 by omega,q5Z hj1 hxv hrk]
    ·have hlt2':¬ (p:Int) < b:=by omega
     refine q0B fun K5 hK5=>?_;refine q0A fun K hK=>?_;simp -implicitDefEqProofs (disch:=omega) only [go_sem,Nat.reduceEqDiff,Nat.reduceAdd,↓reduceIte,k12,q3,hb3.c1,q11,e2',i2,x2,hlt2'];refine hK _ _ ?_; clear hK K;refine Wf (q03 (hK _ _ ?_));obtain rfl:p=b:=by omega
     rw [Nat.sub_self] at hsub;rw [← hsub] at hfw;refine q0P fun K9 hK9=>?_;refine Zz2 q20 @i64_in ?_;refine hK9 _ _ ?_; clear hK9 K9;exact ⟨⟨i+1,L,rows',ys.set k q,ss,rfl,by omega,hx,hb3,b2,b3,b4,bp,hS,hO,hgL,hR.out,by rw [List.length_set]; exact hys,hfw⟩,by simp only [q0F,↓reduceIte,RowKit.intOf,k20]; omega⟩
   ·rw [if_neg hfin] at hfw;rw [decide_eq_false hfin];refine Zz ?_;refine hK _ _ ?_; clear hK;refine Wt ?_;refine Wz ?_;refine q0L ?_
    try simp only [q0D,q0N]
    refine q8s rfl ⟨_,rfl,hx,by rw [← hfw]; exact ⟨_,_,rfl,by simp only [q0F,Nat.reduceEqDiff,↓reduceIte]; exact In.sc_nil,by simp only [q0F,Nat.reduceEqDiff,↓reduceIte]; exact rfl⟩⟩
  ·have hlt':¬ (i:Int) < n2:=by omega
   refine Wz3 k20 r19 hlt' ?_;refine q0B fun K1 hK1=>?_;refine Wf (q03 (hK0 _ _ ?_));obtain rfl:i=n2:=by omega
   rw [List.drop_of_length_le (by omega)] at hfw;rw [← hfw];refine Wz1 r9 ?_;refine q0L ?_
   try simp only [q0D,q0N]
   refine q8s rfl ⟨_,rfl,hx,⟨_,_,rfl,by simp only [q0F,Nat.reduceEqDiff,↓reduceIte]; exact qmJ hO fun k hk=>hf k Oq,by simp only [q0F,Nat.reduceEqDiff,↓reduceIte]; exact rfl⟩⟩

theorem qj8 {a:Int} {n:Nat} (h1 : -9223372036854775808≤a) (h2:a≤9223372036854775807) (hn:0 < n) (hn2:n≤9223372036854775807):ACt 25 [iv a,iv n] (iv (q0r a n:Nat)):=ac_x qfN fun D w vs hT hF hR=>by
 obtain ⟨_,_,rfl,h3,h4⟩:=q45 hR;rw [q3F h3,q3F h4];exact (qaO h1 h2 hn hn2)
theorem qcO {raw:List Nat} {k:Int} (hr:raw.length≤9223372036854775807) (h1 : -9223372036854775808≤k) (h2:k≤9223372036854775807):ACt 13 [pF raw,iv k] (uv (q5T raw k:Nat)):=ac_x qnh fun D w vs hT hF hR=>by
 obtain ⟨_,_,rfl,h3,h4⟩:=q45 hR;obtain ⟨A,n,c,rfl,h5⟩:=q5x (f:=q3S) h3;rw [q3F h4];exact qcN h5 (by have:=h5.sc_len; omega) h1 h2
theorem qj6 {x:Nat} {st:Int} (hx:x < 18446744073709551616) (h1 : -9223372036854775808≤st) (h2:st≤9223372036854775807):ACt 12 [uv x,iv st] (uv (q3K (q0r st 4) x:Nat)):=qgA qs2 fun D w vs hT hF hR=>by
 obtain ⟨_,_,rfl,h3,h4⟩:=q45 hR;rw [q3F h3,q3F h4];exact qqi hT hx h1 h2 hF
theorem qdZ {x:Nat} (hx:x < 18446744073709551616):ACt 42 [uv x] (bv (decide (q0f x))):=ac_x qiY fun D w vs hT hF hR=>by
 obtain ⟨_,rfl,h3⟩:=q7q hR;rw [q3F h3];exact q3G hx
theorem q7r {x:Nat} {V:Int} (hx:x < 18446744073709551616) (hv:ofF x=some V):ACt 38 [uv x] (pV V):=q5R qsY fun D w vs hT hF hR=>by
 obtain ⟨_,rfl,h3⟩:=q7q hR;rw [q3F h3];exact rOf_v hT hx hv hF
theorem qlq {a b V:Int} (hv:mkV (a*b) (-131072)=some V):ACt 173 [pV a,pV b] (pV V):=q5R qkY fun D w vs hT hF hR=>by
 obtain ⟨_,_,rfl,h3,h4⟩:=q45 hR;exact qlr hT (q2p h3) (q2p h4) hv hF
theorem qdR {V mode:Int}:ACt 94 [pV V,iv mode] (uv (fR mode V:Nat)):=qgA qne fun D w vs hT hF hR=>by
 obtain ⟨_,_,rfl,h3,h4⟩:=q45 hR;rw [q3F h4];exact qaD hT (q2p h3) hF
theorem qdY {z V:Int} (h1 : -9223372036854775808≤z) (h2:z≤9223372036854775807) (hv:mkV z 0=some V):ACt 91 [iv z] (pV V):=q5R qnf fun D w vs hT hF hR=>by
 obtain ⟨_,rfl,h3⟩:=q7q hR;rw [q3F h3];exact q59 hT h1 h2 hv hF
theorem q8l {a:Int} (ha:bl a.natAbs≤20000000):ACt 151 [bT a] (bT a.natAbs):=q1L (r:=.fm (fB a.natAbs)) (fun D w v h=>q0o.2 (q2p h)) (q5R qas fun D w vs hT hF hR=>by
 obtain ⟨_,rfl,h3⟩:=q7q hR;exact qd3 (q0o.1 h3) ha hF)
theorem qlS {a:Int} (ha:bl a.natAbs≤20000000):ACt 172 [bT a] (bT (-a)):=q1L (r:=.fm (fB (-a))) (fun D w v h=>q0o.2 (q2p h)) (q5R qfX fun D w vs hT hF hR=>by
 obtain ⟨_,rfl,h3⟩:=q7q hR;exact qqW (q0o.1 h3) ha hF)
end Go.Proofs.YtbcmhlhgljoolaaGreatDoor
