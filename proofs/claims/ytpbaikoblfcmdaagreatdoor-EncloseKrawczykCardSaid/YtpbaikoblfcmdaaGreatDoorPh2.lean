/- EncloseKrawczyk: the program and the document agree 2/7. -/
import Derived.Carry
import Derived.LaidMore
import Derived.LoopN
import Derived.OpenShut
import Derived.ProofKit
import Derived.Stop.Joined
import Derived.Test.YtpbaikoblfcmdaaGreatDoorRows
import Derived.Test.YtpbaikoblfcmdaaGreatDoorPh1
open Array renaming length_toList->zE,getElem?_toList->zI,getD_eq_getD_getElem?->zZ,size_setIfInBounds->z9,getElem?_setIfInBounds->yE,getElem?_replicate->yN,mem_toList_iff->y0,replicate->y1,getElem?_eq_getElem->y7,toList_map->xD,toList_zipIdx->xR,foldl_toList->xT
open Bool renaming and_eq_true->zT,or_eq_true->z5,false_eq_true->xW
open Int renaming toNat_natCast->xC
open List renaming getElem?_eq_getElem->zC,getElem?_eq_some_iff->zD,mem_of_getElem?->zG,getElem?_take->zH,mem_cons_of_mem->zJ,length_cons->zL,mem_of_mem_drop->zM,mem_of_mem_take->zN,getElem?_drop->zO,mem_cons_self->zP,mem_append_right->zQ,mem_append_left->zR,eq_nil_of_length_eq_zero->zS,mem_append->zV,getElem?_eq_none->zW,getElem?_append->zY,map_congr_left->z0,length_append->z6,getD_eq_getElem?_getD->z7,getElem?_toArray->z8,getElem?_cons_succ->yA,take_of_length_le->yC,mem_replicate->yD,length_nil->yF,map_cons->yG,ext_getElem?->yH,length_take->yJ,all_eq_true->yK,mem_or_eq_of_mem_set->yL,mem_cons->yM,set_eq_take_append_cons_drop->yP,drop_of_length_le->yR,flatMap_cons->yS,mem_range->yV,mem_flatMap->yW,range_eq_range'->yY,take_succ_cons->y2,map_map->y3,mem_map->y4,map_replicate->y6,getElem?_map->y8,append_assoc->xA,size_toArray->xB,getElem?_replicate->xF,getElem?_cons_zero->xG,nil_append->xJ,append_nil->xK,length_replicate->xM,take_zero->xN,getElem?_of_mem->xO,range'->xP,drop_succ_cons->xQ,zip_cons_cons->xU,countP_append->xV,map_set->xX
open Nat renaming eq_of_beq_eq_true->zK,le_refl->zU,zero_add->zX,succ_mul->yB,add_mul->yI,lt_or_ge->yQ,add_zero->yT,beq->yU,mul_le_mul_right->yZ,eq_zero_or_pos->y5,mul_pos->y9,le_mul_of_pos_right->xE,le_trans->xH,zero_mul->xI,strongRecOn->xL,add_assoc->xS,one_pos->xY
open Option renaming map_eq_some_iff->zA,bind_eq_some_iff->zB,bind_some->zF,map_some->yO,some->yX
set_option linter.unusedSimpArgs false
set_option linter.unusedVariables false
set_option maxRecDepth 20000
set_option maxHeartbeats 2000000
set_option linter.defProp false
namespace Go.Proofs.YtpbaikoblfcmdaaGreatDoor
open Go Go.E Go.Sp Go.ChangeShapes Go.WideShapes Go.ChangeAt Go.WideMaps Go.WideElems Go.RowKit
section
variable {H:Type} {enc:TypeId × Value->H}
def q4W {P:Program} (hl:laidOutB P=true) {W W':World} (hb:Below W.heap.size W W') :
  ∀ {ts:List TypeId} {vs:List Value} {ds:List (DataW H)} {ps:List MemPlace},(ts.all λt=>P.readableRec t && decide (t < P.types.size))=true->DataW.TrodAll enc P W 0 (λ_=>true) true ts vs ds ps->(∀ x ∈ ps,x.block < W.heap.size)->DataW.TrodAll enc P W' 0 (λb=>decide (b < W.heap.size)) true ts vs ds ps
 | [],[],[],_,_,h,_=>h
 | [],_ :: _,_,_,_,h,_=>h.elim
 | [],[],_ :: _,_,_,h,_=>h.elim
 | _ :: _,[],_,_,_,h,_=>h.elim
 | _ :: _,_ :: _,[],_,_,h,_=>h.elim
 | t :: ts,v :: vs,d :: ds,ps,hr,⟨p,q,h1,h2,e⟩,hlt=>by
  subst e;rw [List.all_cons,zT,zT,decide_eq_true_eq] at hr;exact ⟨p,q,Below.trod hl hr.1.1 hr.1.2 h1 hb λx hx=>hlt x (zR _ hx),q4W hl hb hr.2 h2 λx hx=>hlt x (zQ _ hx),rfl⟩
def qp6:laidOutB Tryz.prog=true:=by kernel_rfl
def qj5 {fn:Func} {s:ChangeSpec} {W W':World} {args:Array Value} {ds:List (DataW H)} {before:List MemPlace} (hv:s.vars=[]) (hW:DataW.Whole enc Tryz.prog fn.params.toList s.vars false W args.toList ds [] before)
  (hp:(fn.params.toList.all λt=>Tryz.prog.readableRec t && decide (t < Tryz.prog.types.size))=true) (hr:fn.resultTypes=#[4]) (hs:s.fn H (ds ++ [])={ results:=[.lit (.bool true)],args:=ds }) (hx:Ext W W'):s.post enc Tryz.prog fn false true false false W args (.bool true) W':=by
 have hlt:∀ p ∈ before,p.block < W.heap.size:=λp hp=>by simpa using hW.lt p hp
 have hW2:=hW;obtain ⟨p,q,hA,hV,rfl,hz,hn⟩:=hW2;rw [hv] at hV;obtain ⟨_,rfl⟩:=trodVars_none hV;have hb:=Kp.below hx;refine ⟨ds,[],p ++ [],[],p,[],hW,?_,?_,?_,Below.frame hb _,λh=>by cases h⟩
 ·rw [hr,hs];exact trodAll_mk1 (shut_bool qtG _)
 ·rw [hs];exact q4W qp6 hb hp hA λx hx=>hlt x (zR _ hx)
 ·rw [hs,hv]; rfl
end
def gTab : Tryz.prog.globalNamed "math/bits.deBruijn32tab" = some 0 := by kernel_rfl
def tTab:(Tryz.prog.globals[0]?).map (·.type)=some 349:=by kernel_rfl
def qtE:Tryz.prog.underlying 349=some (.array 32 5):=by kernel_rfl
def cell5:Tryz.prog.cellsOf 5=1:=by kernel_rfl
def qp5:(Rows.laid_math_bits_deBruijn32tab:DataW Unit)=.agg (qed.map λn:Nat=>.lit (.int .u8 (n:Int))):=rfl
def qoP {W : World} (h : laidMetH Tryz.prog [("math/bits.deBruijn32tab", Rows.laid_math_bits_deBruijn32tab)] W) : q6h W := by
 rw [MakeChecks.laidMetH_plain _ _ _ (by kernel_rfl)] at h;obtain ⟨ps,⟨g0,t0,cs0,f0,p0,q0,hg0,ht0,hv0,hd0,_⟩,_⟩:=h;obtain rfl:=yX.inj (gTab.symm.trans hg0);obtain rfl:=yX.inj (tTab.symm.trans ht0);obtain ⟨xs,m,_,hx,hlen,hn,hel⟩:=DataW.trod_array qtE hd0;rw [qp5] at hx;simp only [Prod.mk.injEq,DataW.agg.injEq] at hx;intro k hk;have h1:=hel k hk;rw [cell5,Nat.mul_one] at h1;have hkx:k < xs.length:=by omega
 rw [zC hkx] at h1;obtain ⟨n,e1,e2,_⟩:=DataW.trod_int und5 h1;have h2:(qed.map λn:Nat=>(DataW.lit (.int .u8 (n:Int)):DataW Unit))[k]?=some (.lit (.int .u8 n)):=by
  rw [hx.1,y8,zC hkx,e2]; rfl
 rw [y8] at h2;obtain ⟨y,hy,hyn⟩:=zA.1 h2;have hyn':(y:Int)=n:=by injection hyn with h; injection h with h
 have h3:=World.var?_cell hg0 hv0 k;have h4:cs0.toList.drop k≠[]:=λh0=>by rw [h0] at e1; cases e1
 have hkc:k < cs0.toList.length:=by
  rcases yQ k cs0.toList.length with h | h
  ·exact h
  ·exact absurd (yR h) h4
 rw [List.drop_eq_getElem_cons hkc,y2,xN] at e1
 injection e1 with e1 _
 rw [h3,z7,hy];have h5:cs0[k]?=some cs0.toList[k]:=by rw [<- zI,zC hkc]
 rw [h5,e1,<- hyn']; rfl
end Go.Proofs.YtpbaikoblfcmdaaGreatDoor
namespace Go.E
open Go Go.RowKit
abbrev Kd:=Option Nat
def ksz (k:Kd):Nat:=k.getD 1
class NL where
 f:Value->Bool
 ok:∀ v,(∀ d:Int,v≠.int .u32 d)->f v=true
def q5S [NL] (v:Value):Bool:=NL.f v
def nlo [NL] {v:Value} (h:∀ d:Int,v≠.int .u32 d:=by intro d e; cases e):q5S v=true:=NL.ok v h
def q2i [NL] (k:Kd) (v:Value):Prop:=match k with
 | none=>v.cells=#[v]/\v.oneCell'=true/\q5S v=true
 | some n=>∃ cs:Array Value,v=.agg cs/\cs.size=n/\∀ u ∈ cs.toList,u.oneCell'=true/\q5S u=true
def q2i.size [NL] {k:Kd} {v:Value} (h:q2i k v):v.cells.size=ksz k:=by
 unfold q2i at h;cases k with
 | none=>rw [h.1]; rfl
 | some n=>obtain ⟨cs,rfl,h1,_⟩:=h; exact h1
def q2i.one [NL] {k:Kd} {v:Value} (h:q2i k v):∀ u ∈ v.cells.toList,u.oneCell'=true/\q5S u=true:=by
 unfold q2i at h;cases k with
 | none=>rw [h.1]; intro u hu; simp at hu; subst hu; exact h.2
 | some n=>obtain ⟨cs,rfl,_,h2⟩:=h; exact h2
inductive PV where
 | un
 | vl (x:Value)
 | fm (G:Fam)
 | sl (k:Kd) (l:List PV)
 | ow (id:Nat) (k:Kd) (off n:Nat)
 | pt (id i j:Nat)
 | qt (k:Kd) (x:PV)
 | ag (l:List PV)
 | tu (l:List PV)
structure Bk where
 T:TypeId
 k:Kd
 xs:List PV
 st:Bool
abbrev Hp:=Nat->Option Bk
def h0:Hp:=λ_=>none
def BSz (w:World) (g m:Nat):Prop:=∃ (cs:Array Value) (T:TypeId),Blk w g T cs/\cs.size=m
def AtO (w:World) (r:Option Nat) (A:Option Addr) (a m:Nat):Prop:=∃ g,r=some g/\A=some ⟨g,a,none⟩/\BSz w g m
mutual
def Rd [NL] (w:World) (D:Nat->Prop):PV->(Nat->Option Nat)->Hp->Value->Prop
 | .un,_,_,_=>True
 | .vl x,_,_,y=>y=x
 | .fm G,_,_,y=>In G D y w
 | .sl k l,_,_,y=>∃ A n c vs,y=.slice A n c/\Row w D (ksz k) A n c (q0d vs)/\l.length=n/\RdL w D l (λ_=>none) h0 vs/\∀ v ∈ vs,q2i k v
 | .ow id k off n,ρ,h,y=>∃ b A c,h id=some b/\b.k=k/\y=.slice A n c/\n<=c/\c<=maxLen/\off+n<=b.xs.length/\(c=0\/AtO w (ρ id) A (off*ksz k) ((off+c)*ksz k))/\(off=0->(A=none/\c=0)\/AtO w (ρ id) A (off*ksz k) ((off+c)*ksz k))
 | .pt id i j,ρ,h,y=>∃ b g,h id=some b/\ρ id=some g/\i < b.xs.length/\y=.pointer (some ⟨g,i*ksz b.k+j,none⟩)
 | .qt k x,_,_,y=>∃ ad z,y=.pointer (some ad)/\D ad.block/\Rd w D x (λ_=>none) h0 z/\(q2i k z/\0 < ksz k)/\∀ j u,z.cells.toList[j]?=some u->w.cell? (ad.add j)=some u
 | .ag l,ρ,h,y=>∃ vs,y=.agg ⟨vs⟩/\RdL w D l ρ h vs
 | .tu l,ρ,h,y=>∃ vs,y=.tuple ⟨vs⟩/\RdL w D l ρ h vs
def RdL [NL] (w:World) (D:Nat->Prop):List PV->(Nat->Option Nat)->Hp->List Value->Prop
 | [],_,_,vs=>vs=[]
 | x :: l,ρ,h,vs=>∃ y ys,vs=y :: ys/\Rd w D x ρ h y/\RdL w D l ρ h ys
end
def Cpt (w w':World) (ρ:Nat->Option Nat) (h:Hp) (ρ':Nat->Option Nat) (h':Hp):Prop :=
 ∀ i b,h i=some b->ρ' i=ρ i/\(∃ b',h' i=some b'/\b'.k=b.k/\b.xs.length<=b'.xs.length)/\∀ g m,ρ i=some g->BSz w g m->BSz w' g m
def Cpt.h0 {w w':World} {ρ ρ':Nat->Option Nat} {h':Hp}:Cpt w w' ρ h0 ρ' h':=λ_ _ h=>by cases h
section
variable {w w':World} {D D':Nat->Prop} {ρ ρ':Nat->Option Nat} {h h':Hp}
def BSz.ext {g m:Nat} (hb:BSz w g m) (hx:Ext w w'):BSz w' g m:=by
 obtain ⟨cs,T,h1,h2⟩:=hb; exact ⟨cs,T,h1.ext hx,h2⟩
def BSz.kp {g m:Nat} (hb:BSz w g m) (hx:Kp D w w') (hd:D g):BSz w' g m:=by
 obtain ⟨cs,T,h1,h2⟩:=hb; exact ⟨cs,T,h1.kp hx hd,h2⟩
mutual
def Rd.mv [NL] (hk:Kp D w w') (hd:∀ k,k < w.heap.size->D k->D' k):∀ (x:PV) (ρ:Nat->Option Nat) (h:Hp) (ρ':Nat->Option Nat) (h':Hp) (y:Value),Cpt w w' ρ h ρ' h'->Rd w D x ρ h y->Rd w' D' x ρ' h' y
 | .un,_,_,_,_,_,_,_=>by unfold Rd; trivial
 | .vl x,_,_,_,_,y,_,hr=>by unfold Rd at hr ⊢; exact hr
 | .fm G,_,_,_,_,y,_,hr=>by
  unfold Rd at hr ⊢;have h1:In G (λk=>D k/\k < w.heap.size) y w:=hr.sub λk hk hq=>⟨hq,hk⟩;exact (h1.kp (hk.mono λk _ hq=>hq.1)).sub λk _ hq=>hd k hq.2 hq.1
 | .sl k l,_,_,_,_,y,_,hr=>by
  unfold Rd at hr ⊢;obtain ⟨A,n,c,vs,h1,h2,h3,h4,h5⟩:=hr;have h6:Row w' D' (ksz k) A n c (q0d vs):=(h2.lt.kp (hk.mono λk _ hq=>hq.1)).sub λk _ hq=>hd k hq.2 hq.1;exact ⟨A,n,c,vs,h1,h6,h3,RdL.mv hk hd l _ _ _ _ vs Cpt.h0 h4,h5⟩
 | .ow id k off n,ρ,h,ρ',h',y,hc,hr=>by
  unfold Rd at hr ⊢;obtain ⟨b,A,c,h1,h2,h3,h4,h4b,h5,h6,h7⟩:=hr;obtain ⟨e1,⟨b',e2,e3,e4⟩,e5⟩:=hc id b h1;have mv:∀ {A:Option Addr} {a m:Nat},AtO w (ρ id) A a m->AtO w' (ρ' id) A a m:=λ⟨g,a1,a2,a3⟩=>⟨g,e1.trans a1,a2,e5 g _ a1 a3⟩;exact ⟨b',A,c,e2,by rw [e3,h2],h3,h4,h4b,by omega,h6.imp (λh=>h) mv,λh0=>(h7 h0).imp (λh=>h) mv⟩
 | .pt id i j,ρ,h,ρ',h',y,hc,hr=>by
  unfold Rd at hr ⊢;obtain ⟨b,g,h1,h2,h3,h4⟩:=hr;obtain ⟨e1,⟨b',e2,e3,e4⟩,e5⟩:=hc id b h1;exact ⟨b',g,e2,e1.trans h2,by omega,by rw [e3]; exact h4⟩
 | .qt k x,_,_,_,_,y,_,hr=>by
  unfold Rd at hr ⊢;obtain ⟨ad,z,h1,h2,h3,h4,h5⟩:=hr;refine ⟨ad,z,h1,?_,Rd.mv hk hd x _ _ _ _ z Cpt.h0 h3,h4,λj u hu=>hk.cell (by rw [q1Q]; exact h2) (h5 j u hu)⟩;cases hz:z.cells.toList[0]? with
  | none =>
   have:=q2i.size h4.1;simp at hz;rw [hz] at this;have:=h4.2;simp at *;omega
  | some u =>
   have:=World.block_lt_of_cell? w _ (h5 0 u hz);rw [q1Q] at this;exact hd _ this h2
 | .ag l,ρ,h,ρ',h',y,hc,hr=>by
  unfold Rd at hr ⊢;obtain ⟨vs,h1,h2⟩:=hr;exact ⟨vs,h1,RdL.mv hk hd l _ _ _ _ vs hc h2⟩
 | .tu l,ρ,h,ρ',h',y,hc,hr=>by
  unfold Rd at hr ⊢;obtain ⟨vs,h1,h2⟩:=hr;exact ⟨vs,h1,RdL.mv hk hd l _ _ _ _ vs hc h2⟩
def RdL.mv [NL] (hk:Kp D w w') (hd:∀ k,k < w.heap.size->D k->D' k):∀ (l:List PV) (ρ:Nat->Option Nat) (h:Hp) (ρ':Nat->Option Nat) (h':Hp) (vs:List Value),Cpt w w' ρ h ρ' h'->RdL w D l ρ h vs->RdL w' D' l ρ' h' vs
 | [],_,_,_,_,vs,_,hr=>by unfold RdL at hr ⊢; exact hr
 | x :: l,ρ,h,ρ',h',vs,hc,hr=>by
  unfold RdL at hr ⊢;obtain ⟨y,ys,h1,h2,h3⟩:=hr;exact ⟨y,ys,h1,Rd.mv hk hd x _ _ _ _ y hc h2,RdL.mv hk hd l _ _ _ _ ys hc h3⟩
end
end
section
variable {w w':World} {D D':Nat->Prop} {ρ ρ':Nat->Option Nat} {h h':Hp} {l m:List PV} {vs us:List Value}
def RdL.iff [NL]:∀ {l:List PV} {vs:List Value},RdL w D l ρ h vs ↔ l.length=vs.length/\∀ (i:Nat) (x:PV) (v:Value),l[i]?=some x->vs[i]?=some v->Rd w D x ρ h v
 | [],vs=>by
  unfold RdL
  constructor
  ·rintro rfl; exact ⟨rfl,λi x v hx=>by simp at hx⟩
  ·rintro ⟨h1,_⟩; exact zS h1.symm
 | x :: l,vs=>by
  unfold RdL
  constructor
  ·rintro ⟨y,ys,rfl,h1,h2⟩;obtain ⟨h3,h4⟩:=RdL.iff.1 h2;refine ⟨by simp [h3],λi z v hz hv=>?_⟩;cases i with
   | zero=>simp at hz hv; subst hz; subst hv; exact h1
   | succ i=>exact h4 i z v (by simpa using hz) (by simpa using hv)
  ·rintro ⟨h1,h2⟩;cases vs with
   | nil=>simp at h1
   | cons y ys=>exact ⟨y,ys,rfl,h2 0 x y rfl rfl,RdL.iff.2 ⟨by simpa using h1,λi z v hz hv=>h2 (i+1) z v (by simpa using hz) (by simpa using hv)⟩⟩
def RdL.len [NL] (hl:RdL w D l ρ h vs):vs.length=l.length:=(RdL.iff.1 hl).1.symm
def RdL.get [NL] (hl:RdL w D l ρ h vs) {i:Nat} {x:PV} (hx:l[i]?=some x):∃ v,vs[i]?=some v/\Rd w D x ρ h v:=by
 obtain ⟨h1,h2⟩:=RdL.iff.1 hl;have hlt:=(zD.1 hx).1;have hv:vs[i]?=some vs[i]:=zC Oq;exact ⟨_,hv,h2 i x _ hx hv⟩
def RdL.take [NL] (hl:RdL w D l ρ h vs) (n:Nat):RdL w D (l.take n) ρ h (vs.take n):=by
 obtain ⟨h1,h2⟩:=RdL.iff.1 hl;refine RdL.iff.2 ⟨by simp [h1],λi x v hx hv=>?_⟩;rw [zH] at hx hv
 split at hx
 ·rw [if_pos ‹_›] at hv; exact h2 i x v hx hv
 ·cases hx
def RdL.drop [NL] (hl:RdL w D l ρ h vs) (n:Nat):RdL w D (l.drop n) ρ h (vs.drop n):=by
 obtain ⟨h1,h2⟩:=RdL.iff.1 hl;refine RdL.iff.2 ⟨by simp [h1],λi x v hx hv=>?_⟩;rw [zO] at hx hv;exact h2 _ x v hx hv
def RdL.app [NL] (hl:RdL w D l ρ h vs) (hm:RdL w D m ρ h us):RdL w D (l ++ m) ρ h (vs ++ us):=by
 obtain ⟨h1,h2⟩:=RdL.iff.1 hl;obtain ⟨h3,h4⟩:=RdL.iff.1 hm;refine RdL.iff.2 ⟨by simp [h1,h3],λi x v hx hv=>?_⟩;rw [zY] at hx hv
 split at hx
 ·rw [if_pos (by omega)] at hv; exact h2 i x v hx hv
 ·rw [if_neg (by omega),<- h1] at hv; exact h4 _ x v hx hv
def RdL.set [NL] (hl:RdL w D l ρ h vs) {x:PV} {v:Value} (hx:Rd w D x ρ h v) (i:Nat):RdL w D (l.set i x) ρ h (vs.set i v):=by
 obtain ⟨h1,h2⟩:=RdL.iff.1 hl;refine RdL.iff.2 ⟨by simp [h1],λj y u hy hu=>?_⟩;rw [List.getElem?_set] at hy hu
 split at hy
 ·rename_i hij;rw [if_pos hij] at hu
  split at hy
  ·split at hu
   ·cases hy; cases hu; exact hx
   ·cases hu
  ·cases hy
 ·rename_i hij;rw [if_neg hij] at hu;exact h2 j y u hy hu
def RdL.one [NL] {x:PV} {v:Value} (hx:Rd w D x ρ h v):RdL w D [x] ρ h [v]:=by unfold RdL; exact ⟨v,[],rfl,hx,by unfold RdL; rfl⟩
def q4M {vs:List Value} {sz:Nat} (hv:∀ v ∈ vs,v.cells.size=sz) (n:Nat):q0d (vs.take n)=(q0d vs).take (n*sz):=by
 induction vs generalizing n with
 | nil=>simp [q0d]
 | cons u vs ih =>
  cases n with
  | zero=>simp [q0d]
  | succ n =>
   have h1:=hv u zP;have:=ih (λx hx=>hv x (zJ _ hx)) n;unfold q0d at *;have hu:u.cells.toList.length=sz:=by rw [zE,h1]
   have e1:(n+1)*sz=n*sz+sz:=yB _ _;rw [y2,yS,yS,this,List.take_append,hu,e1,Nat.add_sub_cancel,yC (l:=u.cells.toList) (by omega)]
def q4N {vs:List Value} {sz:Nat} (hv:∀ v ∈ vs,v.cells.size=sz) (n:Nat):q0d (vs.drop n)=(q0d vs).drop (n*sz):=by
 induction vs generalizing n with
 | nil=>simp [q0d]
 | cons u vs ih =>
  cases n with
  | zero=>simp [q0d]
  | succ n =>
   have h1:=hv u zP;have:=ih (λx hx=>hv x (zJ _ hx)) n;unfold q0d at *;have hu:u.cells.toList.length=sz:=by rw [zE,h1]
   have e1:(n+1)*sz=n*sz+sz:=yB _ _;rw [xQ,yS,this,List.drop_append,hu,e1,Nat.add_sub_cancel,yR (l:=u.cells.toList) (by omega),xJ]
def q0t {vs:List Value} {sz:Nat} (hv:∀ v ∈ vs,v.cells.size=sz):(q0d vs).length=vs.length*sz:=by
 induction vs with
 | nil=>simp [q0d]
 | cons v vs ih =>
  have:=ih λu hu=>hv u (zJ _ hu);have h1:=hv v zP;unfold q0d at *;rw [yS,z6,this,zL,yB,zE,h1]; omega
def q4O (vs us:List Value):q0d (vs ++ us)=q0d vs ++ q0d us:=by simp [q0d]
def qk7 {vs:List Value} {sz:Nat} (hv:∀ v ∈ vs,v.cells.size=sz) {i:Nat} {u:Value} (hu:u.cells.size=sz) (hi:i < vs.length):q0d (vs.set i u)=(q0d vs).take (i*sz) ++ u.cells.toList ++ (q0d vs).drop ((i+1)*sz):=by
 rw [yP,if_pos hi,<- q4M hv,<- q4N hv,q4O];simp [q0d]
end
def upo {α:Type} (f:Nat->α) (d:Nat) (x:α):Nat->α:=λi=>if i=d then x else f i
def q0R (h:Hp) (i:Nat) (b:Bk):Hp:=λj=>if j=i then some b else h j
def pu (s:Nat->PV) (i:Nat) (x:PV):Nat->PV:=λj=>if j=i then x else s j
def q3N (s:Nat->PV):Option Nat->PV->Nat->PV
 | some d,x=>pu s d x
 | none,_=>s
def dm (D0:Nat->Prop) (ρ:Nat->Option Nat) (h:Hp):Nat->Prop:=λk=>D0 k/\∀ i b,h i=some b->ρ i≠some k
def ql6 [NL] (w:World) (D:Nat->Prop) (ρ:Nat->Option Nat) (h:Hp) (g:Nat) (b:Bk):Prop :=
 ∃ cs,Blk w g b.T cs/\(∀ u ∈ cs.toList,q5S u=true)/\(b.st=false->∃ vs,cs.toList.take (b.xs.length*ksz b.k)=q0d vs/\RdL w D b.xs ρ h vs/\∀ v ∈ vs,q2i b.k v)
structure Base where
 w:World
 F:Nat->Prop
 I:Nat->TypeId->Nat->Prop
 J:Nat->Option Nat->Prop
 lt:∀ k,F k->k < w.heap.size
 lo:∀ i r,J i r->5000<=i/\i < 1000000
structure Sat [NL] (D0:Nat->Prop) (w0:Base) (s:Nat->PV) (h:Hp) (ρ:Nat->Option Nat) (e:Env) (w:World):Prop where
 inj:∀ i j b c g,h i=some b->h j=some c->c.st=false->ρ i=some g->ρ j=some g->i=j\/b.st=true
 own:∀ i b g,h i=some b->ρ i=some g->(¬ w0.F g/\D0 g)/\ql6 w (dm D0 ρ h) ρ h g b
 vir:∀ i b,h i=some b->ρ i=none->b.xs=[]
 rd:∀ t,Rd w (dm D0 ρ h) (s t) ρ h (e t)
 ext:Kp w0.F w0.w w
 fr:Fr D0 w0.w
 imp:∀ g T m,w0.I g T m->∃ cs,Blk w g T cs/\cs.size=m/\∀ u ∈ cs.toList,q5S u=true
 pin:∀ i r,w0.J i r->ρ i=r
section
variable {w w':World} {w0:Base} {D D' D0:Nat->Prop} {ρ ρ':Nat->Option Nat} {h h':Hp} {s:Nat->PV} {e:Env} {g:Nat} {b:Bk}
def q1Z {α:Type} {f:Nat->α} {d:Nat} {x:α}:upo f d x d=x:=by simp [upo]
def q1D {α:Type} {f:Nat->α} {d i:Nat} {x:α} (hi:i≠d):upo f d x i=f i:=by simp [upo,hi]
def q0K {i:Nat}:q0R h i b i=some b:=by simp [q0R]
def q0C {i j:Nat} (hj:j≠i):q0R h i b j=h j:=by simp [q0R,hj]
def ql6.mv [NL] (hb:ql6 w D ρ h g b) (hg:w'.heap[g]?=w.heap[g]?) (hk:Kp D w w') (hd:∀ k,k < w.heap.size->D k->D' k) (hc:Cpt w w' ρ h ρ' h'):ql6 w' D' ρ' h' g b:=by
 obtain ⟨cs,h1,h2,h3⟩:=hb;refine ⟨cs,hg.trans h1,h2,λhs=>?_⟩;obtain ⟨vs,h4,h5,h6⟩:=h3 hs;exact ⟨vs,h4,RdL.mv hk hd _ _ _ _ _ _ hc h5,h6⟩
def ql6.lt [NL] (hb:ql6 w D ρ h g b):g < w.heap.size:=by obtain ⟨cs,h1,_⟩:=hb; exact h1.lt
def Sat.put [NL] (S:Sat D0 w0 s h ρ e w) {x:PV} {y:Value} (d:Nat) (hx:Rd w (dm D0 ρ h) x ρ h y):Sat D0 w0 (pu s d x) h ρ (upd e d y) w :=
 ⟨S.inj,S.own,S.vir,λt=>by
  unfold pu upd
  split
  ·exact hx
  ·exact S.rd t,S.ext,S.fr,S.imp,S.pin⟩
def Sat.puto [NL] (S:Sat D0 w0 s h ρ e w) {x:PV} {y:Value} (d:Option Nat) (hx:Rd w (dm D0 ρ h) x ρ h y):Sat D0 w0 (q3N s d x) h ρ (E.put e d y) w:=by
 cases d with
 | none=>exact S
 | some d=>exact S.put d hx
def Sat.impx [NL] (S:Sat D0 w0 s h ρ e w) (hx:Ext w w'):∀ g T m,w0.I g T m->∃ cs,Blk w' g T cs/\cs.size=m/\∀ u ∈ cs.toList,q5S u=true:=λg T m hi=>by
 obtain ⟨cs,h1,h2⟩:=S.imp g T m hi;exact ⟨cs,h1.ext hx,h2⟩
def Sat.pino [NL] (S:Sat D0 w0 s h ρ e w) {d:Nat} (hd:d < 5000) {r:Option Nat}:∀ i r',w0.J i r'->upo ρ d r i=r':=λi g hj=>by
 rw [q1D (by have:=w0.lo i g hj; omega)]; exact S.pin i g hj
def Cpt.ext (hx:Ext w w'):Cpt w w' ρ h ρ h:=λi b hi=>⟨rfl,⟨b,hi,rfl,zU _⟩,λg m _ hb=>hb.ext hx⟩
def Sat.extend [NL] (S:Sat D0 w0 s h ρ e w) (hx:Ext w w'):Sat D0 w0 s h ρ e w' :=
 ⟨S.inj,λi b g h1 h2=>by
  obtain ⟨a1,a2⟩:=S.own i b g h1 h2;exact ⟨a1,a2.mv (hx.block g a2.lt trivial) (Kp.of_ext hx) (λ_ _ h=>h) (Cpt.ext hx)⟩,S.vir,λt=>Rd.mv (Kp.of_ext hx) (λ_ _ h=>h) _ _ _ _ _ _ (Cpt.ext hx) (S.rd t),S.ext.trans (Kp.of_ext hx),S.fr,S.impx hx,S.pin⟩
def Sat.alloc [NL] (S:Sat D0 w0 s h ρ e w) {d:Nat} (hd:h d=none) (hd5:d < 5000) (hx:Ext w w') (hg:w.heap.size<=g) {cs:Array Value} (hb:Blk w' g b.T cs) (hn:∀ u ∈ cs.toList,q5S u=true) (hst:b.st=false)
  {vs:List Value} (h1:cs.toList.take (b.xs.length*ksz b.k)=q0d vs) (h2:RdL w (dm D0 ρ h) b.xs ρ h vs) (h3:∀ v ∈ vs,q2i b.k v) :
  Sat D0 w0 s (q0R h d b) (upo ρ d (some g)) e w'/\(∀ k,k < w.heap.size->dm D0 ρ h k->dm D0 (upo ρ d (some g)) (q0R h d b) k)/\Cpt w w' ρ h (upo ρ d (some g)) (q0R h d b):=by
 have hne:∀ i c,h i=some c->i≠d:=λi c hi e=>by subst e; rw [hd] at hi; cases hi
 have hc:Cpt w w' ρ h (upo ρ d (some g)) (q0R h d b):=λi c hi=>⟨q1D (hne i c hi),⟨c,by rw [q0C (hne i c hi)]; exact hi,rfl,zU _⟩,λ_ _ _ hb=>hb.ext hx⟩;have hdd:∀ k,k < w.heap.size->dm D0 ρ h k->dm D0 (upo ρ d (some g)) (q0R h d b) k:=λk hk hq=>⟨hq.1,λi c hi=>by
  by_cases hi':i=d
  ·subst hi'; rw [q1Z]; intro e; cases e; omega
  ·rw [q0C hi'] at hi; rw [q1D hi']; exact hq.2 i c hi⟩
 have hk:Kp (dm D0 ρ h) w w':=Kp.of_ext hx;refine ⟨⟨λi j c c' g' hi hj hs ri rj=>?_,λi c g' hi ri=>?_,λi c hi ri=>?_,λt=>Rd.mv hk hdd _ _ _ _ _ _ hc (S.rd t),S.ext.trans (Kp.of_ext hx),S.fr,S.impx hx,S.pino hd5⟩,hdd,hc⟩
 ·have hold:∀ i c,h i=some c->ρ i=some g->False:=λi c hi ri=>by
   have:=(S.own i c g hi ri).2.lt; omega
  by_cases hi':i=d <;> by_cases hj':j=d
  ·exact .inl (hi'.trans hj'.symm)
  ·subst hi';rw [q1Z] at ri; cases ri;rw [q0C hj'] at hj; rw [q1D hj'] at rj;exact (hold j _ hj rj).elim
  ·subst hj';rw [q1Z] at rj; cases rj;rw [q0C hi'] at hi; rw [q1D hi'] at ri;exact (hold i _ hi ri).elim
  ·rw [q0C hi'] at hi; rw [q1D hi'] at ri;rw [q0C hj'] at hj; rw [q1D hj'] at rj;exact S.inj i j c c' g' hi hj hs ri rj
 ·by_cases hi':i=d
  ·subst hi';rw [q1Z] at ri; cases ri;rw [q0K] at hi; cases hi;exact ⟨⟨λhF=>by have:=w0.lt g hF; have:=S.ext.size; omega,S.fr g (xH S.ext.size hg)⟩,cs,hb,hn,λ_=>⟨vs,h1,RdL.mv hk hdd _ _ _ _ _ _ hc h2,h3⟩⟩
  ·rw [q0C hi'] at hi; rw [q1D hi'] at ri;obtain ⟨a1,a2⟩:=S.own i c g' hi ri;exact ⟨a1,a2.mv (hx.block g' a2.lt trivial) hk hdd hc⟩
 ·by_cases hi':i=d
  ·subst hi'; rw [q1Z] at ri; cases ri
  ·rw [q0C hi'] at hi; rw [q1D hi'] at ri; exact S.vir i c hi ri
def Sat.virt [NL] (S:Sat D0 w0 s h ρ e w) {d:Nat} (hd:h d=none) (hd5:d < 5000) (hxs:b.xs=[]) :
  Sat D0 w0 s (q0R h d b) (upo ρ d none) e w/\(∀ k,dm D0 ρ h k->dm D0 (upo ρ d none) (q0R h d b) k)/\Cpt w w ρ h (upo ρ d none) (q0R h d b):=by
 have hne:∀ i c,h i=some c->i≠d:=λi c hi e=>by subst e; rw [hd] at hi; cases hi
 have hc:Cpt w w ρ h (upo ρ d none) (q0R h d b):=λi c hi=>⟨q1D (hne i c hi),⟨c,by rw [q0C (hne i c hi)]; exact hi,rfl,zU _⟩,λ_ _ _ hb=>hb⟩;have hdd:∀ k,dm D0 ρ h k->dm D0 (upo ρ d none) (q0R h d b) k:=λk hq=>⟨hq.1,λi c hi=>by
  by_cases hi':i=d
  ·subst hi'; rw [q1Z]; intro e; cases e
  ·rw [q0C hi'] at hi; rw [q1D hi']; exact hq.2 i c hi⟩
 have hk:Kp (dm D0 ρ h) w w:=Kp.refl _ _;refine ⟨⟨λi j c c' g' hi hj hs ri rj=>?_,λi c g' hi ri=>?_,λi c hi ri=>?_,λt=>Rd.mv hk (λk _=>hdd k) _ _ _ _ _ _ hc (S.rd t),S.ext,S.fr,S.imp,S.pino hd5⟩,hdd,hc⟩
 ·have hi':i≠d:=λe=>by subst e; rw [q1Z] at ri; cases ri
  have hj':j≠d:=λe=>by subst e; rw [q1Z] at rj; cases rj
  rw [q0C hi'] at hi; rw [q1D hi'] at ri;rw [q0C hj'] at hj; rw [q1D hj'] at rj;exact S.inj i j c c' g' hi hj hs ri rj
 ·have hi':i≠d:=λe=>by subst e; rw [q1Z] at ri; cases ri
  rw [q0C hi'] at hi; rw [q1D hi'] at ri;obtain ⟨a1,a2⟩:=S.own i c g' hi ri;exact ⟨a1,a2.mv rfl hk (λk _=>hdd k) hc⟩
 ·by_cases hi':i=d
  ·subst hi'; rw [q0K] at hi; cases hi; exact hxs
  ·rw [q0C hi'] at hi; rw [q1D hi'] at ri; exact S.vir i c hi ri
def Sat.write [NL] (S:Sat D0 w0 s h ρ e w) {id:Nat} {b':Bk} (hi:h id=some b) (hr:ρ id=some g) (hst:b.st=false) (hk:Kp (λk=>k≠g) w w') {cs cs':Array Value} (hb0:Blk w g b.T cs) (hsz:cs'.size=cs.size) (hb:Blk w' g b.T cs')
  (hn:∀ u ∈ cs'.toList,q5S u=true) (hT:b'.T=b.T) (hkk:b'.k=b.k) (hs':b'.st=false) (hl:b.xs.length<=b'.xs.length)
  {vs:List Value} (h1:cs'.toList.take (b'.xs.length*ksz b.k)=q0d vs) (h2:RdL w (dm D0 ρ h) b'.xs ρ h vs) (h3:∀ v ∈ vs,q2i b.k v) :
  Sat D0 w0 s (q0R h id b') ρ e w'/\(∀ k,dm D0 ρ h k->dm D0 ρ (q0R h id b') k)/\Cpt w w' ρ h ρ (q0R h id b'):=by
 have hbs:∀ g' m,BSz w g' m->BSz w' g' m:=λg' m hq=>by
  by_cases hg:g'=g
  ·subst hg;obtain ⟨c,T,q1,q2⟩:=hq;have:c=cs:=by unfold Blk at q1 hb0; rw [hb0] at q1; cases q1; rfl
   subst this;exact ⟨cs',_,hb,by omega⟩
  ·exact hq.kp hk hg
 have hc:Cpt w w' ρ h ρ (q0R h id b'):=λi c hc=>⟨rfl,by
  by_cases he:i=id
  ·subst he; rw [hi] at hc; cases hc;exact ⟨b',q0K,hkk,hl⟩
  ·exact ⟨c,by rw [q0C he]; exact hc,rfl,zU _⟩,λg m _ hb=>hbs g m hb⟩
 have hdd:∀ k,dm D0 ρ h k->dm D0 ρ (q0R h id b') k:=λk hq=>⟨hq.1,λi c hc=>by
  by_cases he:i=id
  ·subst he; exact hq.2 i b hi
  ·rw [q0C he] at hc; exact hq.2 i c hc⟩
 have hkd:Kp (dm D0 ρ h) w w':=hk.mono λk _ hq e=>hq.2 id b hi (by rw [hr,e]);have hge:=(S.own id b g hi hr).1;refine ⟨⟨λi j c c' g' ci cj hs ri rj=>?_,λi c g' ci ri=>?_,λi c ci ri=>?_,λt=>Rd.mv hkd (λk _=>hdd k) _ _ _ _ _ _ hc (S.rd t),S.ext.trans (hk.mono λk _ hF e=>hge.1 (e ▸ hF)),S.fr,λg' T m hi=>by
  obtain ⟨c,q1,q2,q3⟩:=S.imp g' T m hi
  by_cases hg:g'=g
  ·subst hg;have h5:=q1.symm.trans hb0
   injection h5 with h5
   injection h5 with h5 h6
   subst h5;subst h6;exact ⟨cs',hb,by omega,hn⟩
  ·exact ⟨c,q1.kp hk hg,q2,q3⟩,S.pin⟩,hdd,hc⟩
 ·by_cases ei:i=id <;> by_cases ej:j=id
  ·exact .inl (ei.trans ej.symm)
  ·subst ei;rw [q0C ej] at cj;have:=S.inj j i c' b g' cj hi hst rj ri
   rcases this with h | h
   ·exact .inl h.symm
   ·rw [hs] at h; cases h
  ·subst ej;rw [q0C ei] at ci;exact S.inj i j c b g' ci hi hst ri rj
  ·rw [q0C ei] at ci; rw [q0C ej] at cj;exact S.inj i j c c' g' ci cj hs ri rj
 ·by_cases ei:i=id
  ·subst ei;rw [q0K] at ci; cases ci;rw [hr] at ri; cases ri;refine ⟨hge,cs',by rw [hT]; exact hb,hn,λ_=>⟨vs,by rw [hkk]; exact h1,RdL.mv hkd (λk _=>hdd k) _ _ _ _ _ _ hc h2,by rw [hkk]; exact h3⟩⟩
  ·rw [q0C ei] at ci;obtain ⟨a1,a2⟩:=S.own i c g' ci ri
   by_cases eg:g'=g
   ·subst eg;have hs:=S.inj i id c b g' ci hi hst ri hr
    rcases hs with h | h
    ·exact absurd h ei
    ·obtain ⟨c1,c2,c3,_⟩:=a2;have:c.T=b.T:=by
      have h5:=hb0.symm.trans c2
      injection h5 with h5
      injection h5 with h5 h6
      exact h6.symm
     exact ⟨a1,cs',by rw [this]; exact hb,hn,λhf=>by rw [h] at hf; cases hf⟩
   ·exact ⟨a1,a2.mv (hk.block g' a2.lt eg) hkd (λk _=>hdd k) hc⟩
 ·by_cases ei:i=id
  ·subst ei; rw [hr] at ri; cases ri
  ·rw [q0C ei] at ci; exact S.vir i c ci ri
end
def pe (s:Nat->PV):Operand->PV
 | .tmp t=>s t
 | .const v=>.vl v
 | .global g=>.vl (.pointer (some ⟨g,0,none⟩))
 | .func f=>.vl (.func (.func f) #[] #[])
def qpO [NL] (v:Value):Prop:=v.oneCell'=true/\q5S v=true
def qgn [NL]:PV->Prop
 | .vl x=>qpO x
 | .fm G=>∀ D v w,In G D v w->q2i none v
 | .sl _ _ | .ow _ _ _ _ | .pt _ _ _ | .qt _ _=>True
 | _=>False
def q8D [NL]:Kd->PV->Prop
 | none,x=>qgn x
 | some n,.ag l=>l.length=n/\∀ x ∈ l,qgn x
 | some n,.fm G=>∀ D v w,In G D v w->q2i (some n) v
 | some _,_=>False
def q2H (P:Program) (t:TypeId) (f:Nat):Option (Nat × Kd) :=
 match P.underlying t with
 | some (.struct fs)=>match fs[f]? with
  | some d=>match q0W P t f,q0c P d.type with | some off,some k=>some (off,k) | _,_=>none
  | none=>none
 | _=>none
def ldU (bk k:Kd) (j:Nat) (u:PV):Option PV :=
 if bk=k/\j=0 then some u else
  match bk,k,u with
  | some _,none,.ag l=>l[j]?
  | some _,some m,.ag l=>if j+m<=l.length then some (.ag ((l.drop j).take m)) else none
  | _,_,_=>none
def qs4 (P:Program) (t:TypeId) (f:Nat):PV->Option PV
 | .pt id i j=>(q2H P t f).map λr=>.pt id i (j+r.1)
 | .qt (some _) (.ag l)=>(q2H P t f).bind λr=>match r.2 with
  | none=>(l[r.1]?).map (.qt none)
  | some m=>if r.1+m<=l.length/\0 < m then some (.qt (some m) (.ag ((l.drop r.1).take m))) else none
 | _=>none
def q59 (sz:Option Nat):PV->PV->Option PV
 | .sl k l,.vl (.int _ z)=>if sz=some (ksz k)/\0 < ksz k/\0<=z then (l[z.toNat]?).map (.qt k) else none
 | .ow id k off n,.vl (.int _ z)=>if sz=some (ksz k)/\0<=z/\z < n then some (.pt id (off+z.toNat) 0) else none
 | _,_=>none
def q9v (d:Nat):Option PV->Option Nat
 | none=>some d
 | some (.vl (.int _ z))=>if 0<=z then some z.toNat else none
 | _=>none
def slP (sz:Option Nat) (lo hi:Option PV):PV->Option PV
 | .sl k l=>(q9v l.length hi).bind λb=>(q9v 0 lo).bind λa=>if sz=some (ksz k)/\a<=b/\b<=l.length then some (.sl k ((l.take b).drop a)) else none
 | .ow id k off n=>(q9v n hi).bind λb=>(q9v 0 lo).bind λa=>if sz=some (ksz k)/\a<=b/\b<=n then some (.ow id k (off+a) (b-a)) else none
 | _=>none
def qs1 (sz:Option Nat):PV->Option PV
 | .sl _ l=>sz.map λ_=>.vl (.int .i64 l.length)
 | .ow _ _ _ n=>sz.map λ_=>.vl (.int .i64 n)
 | .vl x=>(qvW sz x).map .vl
 | _=>none
def val?:PV->Option Value | .vl x=>some x | _=>none
def q72:List PV->Option (List Value)
 | []=>some []
 | x :: l=>match x,q72 l with | .vl a,some r=>some (a :: r) | _,_=>none
def pkP (c a b:PV):Option PV:=match c with | .vl (.bool true)=>some a | .vl (.bool false)=>some b | _=>none
def fNil (n:Nat):Fam:=⟨λ_ v _=>∃ b,v=.bool b/\(b=true->n=0),λ_ h=>h,λ_ h=>h⟩
def bnP (P:Program) (op:BinOp) (t:TypeId):PV->PV->Option PV
 | .vl a,.vl b=>(q1A P op t a b).map .vl
 | .sl k l,.vl (.slice none _ _)=>match op,P.underlying t with | .eql,some (.slice _)=>if 0 < ksz k then some (.fm (fNil l.length)) else none | _,_=>none
 | .ag l,.ag m=>match q72 l,q72 m with | some xs,some ys=>(q1A P op t (.agg ⟨xs⟩) (.agg ⟨ys⟩)).map .vl | _,_=>none
 | _,_=>none
def unP (op:UnOp):PV->Option PV | .vl a=>(unV op a).map .vl | _=>none
def cvP (s d:Option TypeDesc):PV->Option PV | .vl a=>(qdj s d a).map .vl | _=>none
def exP (i:Nat):PV->Option PV | .tu l=>l[i]? | _=>none
def nlP:PV->Option PV | .pt id i j=>some (.pt id i j) | .qt k x=>some (.qt k x) | _=>none
def mmP (b:Bool) (l:List PV):Option PV:=(q72 l).bind λr=>(mmV b r).map .vl
def fFun (f:FuncId) (z:Int):Fam:=⟨λD v w=>∃ ad,v=.func (.func f) #[] #[.pointer (some ad)]/\D ad.block/\w.cell? ad=some (.int .i64 z),λk ⟨ad,h1,h2,h3⟩=>⟨ad,h1,h2,k.cell h2 h3⟩,λ{_ _ w _} k ⟨ad,h1,h2,h3⟩=>⟨ad,h1,k _ (World.block_lt_of_cell? w _ h3) h2,h3⟩⟩
def fnP (fn:Fn) (first:Array Operand):List PV->Option PV
 | [.qt none (.vl (.int .i64 z))]=>match fn with | .func f=>if first.isEmpty then some (.fm (fFun f z)) else none | _=>none
 | _=>none
def flP (pl:List (Nat × Nat)):List PV->List (Nat × PV)->Option (List PV)
 | cs,[]=>some cs
 | cs,(i,x) :: r=>match pl[i]? with
  | some (off,1)=>match x with
   | .vl y=>if y.oneCell'=true/\off < cs.length then flP pl (cs.set off (.vl y)) r else none
   | .sl k l=>if off < cs.length then flP pl (cs.set off (.sl k l)) r else none
   | .ow id k a n=>if off < cs.length then flP pl (cs.set off (.ow id k a n)) r else none
   | .pt id a n=>if off < cs.length then flP pl (cs.set off (.pt id a n)) r else none
   | _=>none
  | some (off,m)=>match x with
   | .ag l=>if l.length=m/\off+m<=cs.length then flP pl (cs.take off ++ l ++ cs.drop (off+m)) r else none
   | _=>none
  | none=>none
def plc (P:Program) (t:TypeId):Option (List (Nat × Nat) × List Value) :=
 match P.info? t,P.underlying t with
 | some it,some (.struct fields) =>
  match it.zero,fields.toList.mapM (λf=>(P.info? f.type).map λi=>(f.offset,i.size)) with
  | some z,some places=>some (places,z.cells.toList)
  | _,_=>none
 | _,_=>none
def blP (P:Program) (t:TypeId) (ps:List (Nat × PV)):Option PV:=(plc P t).bind λr=>(flP r.1 (r.2.map .vl) ps).map .ag
def q5L (P:Program) (o:Op) (e:Operand->PV):Option PV :=
 match o with
 | .move x=>some (e x)
 | .assign x=>some (e x)
 | .pick c a b=>pkP (e c) (e a) (e b)
 | .binOp op t x y _=>bnP P op t (e x) (e y)
 | .unOp op _ x=>unP op (e x)
 | .convert s d x=>cvP (P.underlying s) (P.underlying d) (e x)
 | .fieldAddr t x f=>qs4 P t f (e x)
 | .extract x i=>exP i (e x)
 | .nilCheck x=>nlP (e x)
 | .indexAddr t x i=>q59 (q0e P t) (e x) (e i)
 | .slice t x lo hi mx=>match mx with | none=>slP (q0e P t) (lo.map e) (hi.map e) (e x) | some _=>none
 | .build t ps=>blP P t (ps.toList.map λp=>(p.1,e p.2))
 | .makeFunc fn first cap=>fnP fn first (cap.toList.map e)
 | .call c=>match c.callee with
  | .builtin .len=>match c.args.toList,c.argTypes.toList with
   | [x],[t]=>qs1 (q0e P t) (e x)
   | _,_=>none
  | .builtin .max=>mmP true (c.args.toList.map e)
  | .builtin .min=>mmP false (c.args.toList.map e)
  | _=>none
 | _=>none
section
variable {w:World} {w0:Base} {D D0:Nat->Prop} {ρ:Nat->Option Nat} {h:Hp} {s:Nat->PV} {e:Env} {P:Program}
def Sat.pex [NL] (S:Sat D0 w0 s h ρ e w) (x:Operand):Rd w (dm D0 ρ h) (pe s x) ρ h (ev e x):=by
 cases x <;> simp only [E.pe,ev]
 case tmp t=>exact S.rd t
 all_goals (unfold Rd; rfl)
def q2i.cell [NL] {n:Nat} {cs:List Value} (hf:q2i (some n) (.agg ⟨cs⟩)) {j:Nat} {u:Value} (hu:cs[j]?=some u):q2i none u:=by
 obtain ⟨c,h1,h2,h3⟩:=hf;cases h1;have:=h3 u (by simpa using zG hu);refine ⟨?_,this.1,this.2⟩;obtain ⟨h4,_⟩:=this;cases u <;> first | rfl | cases h4
def q2D {u:Value} (h:u.oneCell'=true):u.cells=#[u]:=by cases u <;> first | rfl | cases h
def q2i.part [NL] {n j m:Nat} {cs:List Value} (hf:q2i (some n) (.agg ⟨cs⟩)) (hj:j+m<=cs.length):q2i (some m) (.agg ⟨(cs.drop j).take m⟩):=by
 obtain ⟨c,h1,h2,h3⟩:=hf;cases h1;refine ⟨_,rfl,by simp; omega,λu hu=>h3 u ?_⟩;simp only at hu;exact zM (zN hu)
def qmg [NL] {bk k:Kd} {j:Nat} {u x:PV} {y:Value} (hl:ldU bk k j u=some x) (hr:Rd w D u ρ h y) (hf:q2i bk y) (hk:0 < ksz k):∃ z,Rd w D x ρ h z/\q2i k z/\∀ i v,z.cells.toList[i]?=some v->y.cells.toList[j+i]?=some v:=by
 unfold ldU at hl
 split at hl
 ·rename_i hh;obtain ⟨rfl,rfl⟩:=hh;cases hl;exact ⟨y,hr,hf,λi v hv=>by rw [zX]; exact hv⟩
 ·split at hl
  ·rename_i n l _;unfold Rd at hr;obtain ⟨vs,rfl,h1⟩:=hr;obtain ⟨z,h2,h3⟩:=h1.get hl;have h4:=hf.cell h2;refine ⟨z,h3,h4,λi v hv=>?_⟩;rw [h4.1] at hv;cases i with
   | zero=>simp at hv; subst hv; simpa [Value.cells] using h2
   | succ i=>simp at hv
  ·rename_i n m l _
   split at hl
   ·rename_i hjm;cases hl;unfold Rd at hr;obtain ⟨vs,rfl,h1⟩:=hr;have:=h1.len;refine ⟨.agg ⟨(vs.drop j).take m⟩,by unfold Rd; exact ⟨_,rfl,(h1.drop j).take m⟩,hf.part Oq,λi v hv=>?_⟩;simp only [Value.cells,zH] at hv ⊢
    split at hv
    ·rw [zO] at hv; exact hv
    ·cases hv
   ·cases hl
  ·cases hl
def qcQ {t f:Nat} {r:Nat × Kd} (hh:q2H P t f=some r):q0W P t f=some r.1:=by
 unfold q2H at hh
 split at hh
 ·split at hh
  ·split at hh
   ·rename_i h1 _; cases hh; exact h1
   ·cases hh
  ·cases hh
 ·cases hh
def q5r [NL]:∀ {l:List PV} {r:List Value} {ys:List Value},q72 l=some r->RdL w D l ρ h ys->ys=r
 | [],r,ys,hv,hr=>by unfold RdL at hr; unfold q72 at hv; cases hv; exact hr
 | x :: l,r,ys,hv,hr=>by
  unfold RdL at hr;obtain ⟨y,zs,rfl,h1,h2⟩:=hr;unfold q72 at hv
  split at hv
  ·rename_i a r' hx;cases hv;unfold Rd at h1;rw [h1,q5r hx h2]
  ·cases hv
def q4w [NL] {f:Operand->PV} {g:Operand->Value} (hfg:∀ x,Rd w D (f x) ρ h (g x)):∀ (l:List Operand),RdL w D (l.map f) ρ h (l.map g)
 | []=>by unfold RdL; rfl
 | x :: l=>by unfold RdL; exact ⟨_,_,rfl,hfg x,q4w hfg l⟩
def q5k [NL] (l:List Value):RdL w D (l.map .vl) ρ h l:=by
 induction l with
 | nil=>unfold RdL; rfl
 | cons x l ih=>rw [yG]; unfold RdL; exact ⟨_,_,rfl,by unfold Rd; rfl,ih⟩
def q3f (off:Nat):∀ (l:List Value) (k:Nat) (cs:Array Value),off+k+l.length<=cs.size->∃ r,(l.zipIdx k).foldl (λcs p=>cs.setIfInBounds (off+p.2) p.1) cs=r/\r.size=cs.size/\∀ i:Nat,r[i]?=if off+k<=i/\i < off+k+l.length then l[i-(off+k)]? else cs[i]?
 | [],k,cs,_=>⟨cs,rfl,rfl,λi=>by rw [if_neg (by simp)]⟩
 | v :: l,k,cs,hl=>by
  rw [zL] at hl;obtain ⟨r,h1,h2,h3⟩:=q3f off l (k+1) (cs.setIfInBounds (off+k) v) (by rw [z9]; omega);refine ⟨r,by rw [List.zipIdx_cons,List.foldl_cons]; exact h1,by rw [h2,z9],λi=>?_⟩;rw [h3 i,yE,zL]
  by_cases c1:off+(k+1)<=i/\i < off+(k+1)+l.length
  ·rw [if_pos c1,if_pos (by omega),show i-(off+k)=(i-(off+(k+1)))+1 by omega,yA]
  ·rw [if_neg c1]
   by_cases c2:off+k=i
   ·subst c2;rw [if_pos rfl,if_pos (by omega),if_pos (by omega),Nat.sub_self]
    rfl
   ·rw [if_neg c2,if_neg (by omega)]
def qad [NL] {pl:List (Nat × Nat)}:∀ (ps:List (Nat × Operand)) {f:Operand->PV} {g:Operand->Value} (hfg:∀ x,Rd w D (f x) ρ h (g x)) (cs:List PV) (vs:Array Value) (r:List PV),flP pl cs (ps.map λp=>(p.1,f p.2))=some r->RdL w D cs ρ h vs.toList ->
  ∃ us,Instr.fill (pl.toArray[·]?) vs (ps.map λp=>(p.1,g p.2))=some us/\RdL w D r ρ h us.toList
 | [],f,g,hfg,cs,vs,r,hf,hr=>by
  rw [List.map_nil] at hf;unfold flP at hf;cases hf;exact ⟨vs,rfl,hr⟩
 | (i,x) :: ps,f,g,hfg,cs,vs,r,hf,hr=>by
  have hlen:=hr.len;rw [yG] at hf ⊢;unfold flP at hf;simp only at hf;have key:∀ off,pl[i]?=some (off,1)->(g x).oneCell'=true->off < cs.length->flP pl (cs.set off (f x)) (ps.map λp=>(p.1,f p.2))=some r->∃ us,Instr.fill (pl.toArray[·]?) vs ((i,g x) :: ps.map λp=>(p.1,g p.2))=some us/\RdL w D r ρ h us.toList:=λoff ho h1 h2 h3=>by
   obtain ⟨us,e1,e2⟩:=qad ps hfg (cs.set off (f x)) (vs.setIfInBounds off (g x)) r h3 (by rw [Array.toList_setIfInBounds]; exact hr.set (hfg x) off);refine ⟨us,?_,e2⟩;unfold Instr.fill;rw [z8,ho];simp only [q2D h1];rw [if_neg (by simp at hlen ⊢; omega)];simpa using e1
  split at hf
  ·rename_i off ho;have hx:=hfg x
   split at hf <;> rename_i hfx
   ·split at hf
    ·rename_i hc;have hx':=hx;rw [hfx] at hx';unfold Rd at hx';exact key off ho (by rw [hx']; exact hc.1) hc.2 (by rw [hfx]; exact hf)
    ·cases hf
   ·split at hf
    ·rename_i hc;have hx':=hx;rw [hfx] at hx';unfold Rd at hx';obtain ⟨_,_,_,_,e,_⟩:=hx';exact key off ho (by rw [e]; rfl) hc (by rw [hfx]; exact hf)
    ·cases hf
   ·split at hf
    ·rename_i hc;have hx':=hx;rw [hfx] at hx';unfold Rd at hx';obtain ⟨_,_,_,_,_,e,_⟩:=hx';exact key off ho (by rw [e]; rfl) hc (by rw [hfx]; exact hf)
    ·cases hf
   ·split at hf
    ·rename_i hc;have hx':=hx;rw [hfx] at hx';unfold Rd at hx';obtain ⟨_,_,_,_,_,e⟩:=hx';exact key off ho (by rw [e]; rfl) hc (by rw [hfx]; exact hf)
    ·cases hf
   ·cases hf
  ·rename_i off m _ ho
   split at hf
   ·rename_i l hfx
    split at hf
    ·rename_i hc;have hx:=hfg x;rw [hfx] at hx;unfold Rd at hx;obtain ⟨rs,e,hr2⟩:=hx;have hrl:=hr2.len;have hvs:vs.toList.length=cs.length:=hlen;obtain ⟨q,q1,q2,q3⟩:=q3f off rs 0 vs (by rw [zE] at hvs; omega);have hq:q.toList=vs.toList.take off ++ rs ++ vs.toList.drop (off+m):=by
      apply yH
      intro n;rw [zI,q3 n,zY,zY,zH,zO];have ht:(List.take off vs.toList).length=off:=by rw [yJ]; omega
      rw [z6,ht]
      by_cases c1:n < off
      ·rw [if_neg (by omega),if_pos (by omega),if_pos c1,if_pos c1,zI]
      ·by_cases c2:n < off+rs.length
       ·rw [if_pos (by omega),if_pos c2,if_neg c1,yT]
       ·rw [if_neg (by omega),if_neg c2,zI,show off+m+(n-(off+rs.length))=n by omega]
     obtain ⟨us,e1,e2⟩:=qad ps hfg _ q r hf (by rw [hq]; exact ((hr.take off).app hr2).app (hr.drop (off+m)));refine ⟨us,?_,e2⟩;unfold Instr.fill;rw [z8,ho];simp only [e,Value.cells];rw [if_neg (by rw [zE] at hvs; simp; omega)];rw [<- xT,xR];rw [q1];exact e1
    ·cases hf
   ·cases hf
  ·cases hf
def qcf [NL] {d y:Nat} {o:Option PV} {b:Nat} {ov:Option Value} (hb:q9v d o=some b) (ho:(o=none/\ov=none)\/∃ x v,o=some x/\ov=some v/\Rd w D x ρ h v) (hy:b<=y):q31 y ov d=some b:=by
 rcases ho with ⟨rfl,rfl⟩ | ⟨x,v,rfl,rfl,hr⟩
 ·exact hb
 ·unfold q9v at hb
  split at hb
  ·rename_i hx; cases hx
  ·rename_i hx;cases hx;unfold Rd at hr;subst hr
   split at hb
   ·cases hb;simp only [q31];rw [if_pos (by omega)]
   ·cases hb
  ·cases hb
def sl_ok [NL] {sz:Option Nat} {lo hi:Option Operand} {x:Operand} {r:PV} {f:Operand->PV} {g:Operand->Value} (hfg:∀ x,Rd w D (f x) ρ h (g x)) (hp:slP sz (lo.map f) (hi.map f) (f x)=some r):∃ v,q2K sz (lo.map g) (hi.map g) (g x)=some v/\Rd w D r ρ h v:=by
 have hlo:∀ o:Option Operand,(o.map f=none/\o.map g=none)\/∃ x v,o.map f=some x/\o.map g=some v/\Rd w D x ρ h v:=λo=>by
  cases o with
  | none=>exact .inl ⟨rfl,rfl⟩
  | some o=>exact .inr ⟨_,_,rfl,rfl,hfg o⟩
 have hx:=hfg x;unfold slP at hp
 split at hp
 ·rename_i k l hfx;rw [hfx] at hx;unfold Rd at hx;obtain ⟨A,n,c,vs,e,h1,h2,h3,h4⟩:=hx;obtain ⟨b,hb,hp1⟩:=zB.1 hp;obtain ⟨a,ha,hp2⟩:=zB.1 hp1;clear hp hp1
  split at hp2
  ·rename_i hc;obtain ⟨hsz,hab,hbn⟩:=hc;subst hsz;obtain rfl:=yX.inj hp2;have hvl:=h3.len;have hcap:=h1.cap;rw [h2] at hb;have q1:=qcf (y:=c) hb (hlo hi) Oq;have q2:=qcf (y:=b) ha (hlo lo) Oq;rw [e];refine ⟨_,by unfold q2K; simp only [q1,q2]; rfl,?_⟩;unfold Rd;have hcs:∀ v ∈ vs,v.cells.size=ksz k:=λv hv=>(h4 v hv).size;have r1:=(h1.take (m:=b) Oq).drop (m:=a) Oq;rw [<- q4M hcs,<- q4N (λv hv=>hcs v (zN hv))] at r1;exact ⟨_,_,_,(vs.take b).drop a,rfl,r1,by simp; omega,(h3.take b).drop a,λv hv=>h4 v (zN (zM hv))⟩
  ·cases hp2
 ·rename_i id k off n hfx;rw [hfx] at hx;unfold Rd at hx;obtain ⟨bk,A,c,e1,e2,e,hn,hm,hl,h6,h7⟩:=hx;obtain ⟨b,hb,hp1⟩:=zB.1 hp;obtain ⟨a,ha,hp2⟩:=zB.1 hp1;clear hp hp1
  split at hp2
  ·rename_i hc;obtain ⟨hsz,hab,hbn⟩:=hc;subst hsz;obtain rfl:=yX.inj hp2;have q1:=qcf (y:=c) hb (hlo hi) Oq;have q2:=qcf (y:=b) ha (hlo lo) Oq;rw [e];refine ⟨_,by unfold q2K; simp only [q1,q2]; rfl,?_⟩;unfold Rd;have mv:∀ {A:Option Addr},AtO w (ρ id) A (off*ksz k) ((off+c)*ksz k)->¬ c=a->AtO w (ρ id) (if c=a then A else A.map (·.add (a*ksz k))) ((off+a)*ksz k) ((off+a+(c-a))*ksz k):=λ⟨g,g1,g2,g3⟩ hca=>by
    refine ⟨g,g1,?_,by rw [show off+a+(c-a)=off+c by omega]; exact g3⟩;rw [if_neg hca,g2];simp only [yO,q1M,yI]
   refine ⟨bk,_,c-a,e1,e2,rfl,by omega,by omega,by omega,?_,λh0=>?_⟩
   ·by_cases hca:c=a
    ·exact .inl Oq
    ·rcases h6 with h6 | h6
     ·omega
     ·exact .inr (mv h6 hca)
   ·have h0a:a=0:=by omega
    have h00:off=0:=by omega
    subst h0a;subst h00;simp only [xI,Nat.sub_zero,yT,zX] at h7 ⊢;have hA:(if c=0 then A else A.map (·.add 0))=A:=by
     split
     ·rfl
     ·cases A <;> simp [Addr.add]
    rw [hA];exact h7 trivial
  ·cases hp2
 ·cases hp
def qvb [NL] {sz:Option Nat} {ar:Option (Nat × Nat)} {x i r:PV} {a b:Value} (ha:Rd w D x ρ h a) (hb:Rd w D i ρ h b) (hp:q59 sz x i=some r):∃ v,qjc sz ar a b=some v/\Rd w D r ρ h v:=by
 unfold q59 at hp
 split at hp
 ·rename_i k l kk z
  split at hp
  ·rename_i hc;obtain ⟨rfl,hk,hz⟩:=hc;obtain ⟨y,hy,hp⟩:=zA.1 hp;subst hp;unfold Rd at ha hb;subst hb;obtain ⟨A,n,c,vs,rfl,h1,h2,h3,h4⟩:=ha;obtain ⟨u,hu,hur⟩:=h3.get hy;have hlt:=(zD.1 hy).1;have hcs:∀ v ∈ vs,v.cells.size=ksz k:=λv hv=>(h4 v hv).size;have hfl:=q0t hcs;have hvl:=h3.len;have hpos:0 < (q0d vs).length:=by rw [hfl]; exact y9 (by omega) hk
   obtain ⟨ad,rfl,hd,hcell⟩:=h1.at_ hpos;have hcl:∀ (ρ':Nat->Option Nat) (h':Hp),Rd w D y ρ' h' u:=λρ' h'=>Rd.mv (Kp.refl _ _) (λ_ _ h=>h) _ _ _ _ _ _ Cpt.h0 hur;refine ⟨.pointer (some (ad.add (z.toNat*ksz k))),?_,?_⟩
   ·simp only [qjc];rw [if_pos (by omega)]
   ·unfold Rd;refine ⟨_,u,rfl,by rw [q1Q]; exact hd,hcl _ _,⟨h4 u (zG hu),hk⟩,λj t ht=>?_⟩;rw [q8X];refine hcell _ t ?_;have hj:j < ksz k:=by
     have:=(zD.1 ht).1;rw [zE,hcs u (zG hu)] at this;exact this
    rw [q5a hcs hu hj];simpa using ht
  ·cases hp
 ·rename_i id k off n kk z
  split at hp
  ·rename_i hc;obtain ⟨rfl,hz,hzn⟩:=hc;cases hp;unfold Rd at ha hb;subst hb;obtain ⟨bk,A,c,e1,e2,rfl,hn,hm,hl,h6,h7⟩:=ha;have hc0:c≠0:=by omega
   rcases h6 with h6 | ⟨g,g1,g2,g3⟩
   ·exact absurd h6 hc0
   ·subst g2;refine ⟨.pointer (some ⟨g,off*ksz k+z.toNat*ksz k,none⟩),?_,?_⟩
    ·simp only [qjc,q1M];rw [if_pos (by omega)]
    ·unfold Rd;exact ⟨bk,g,e1,g1,by omega,by rw [e2,yI,yT]⟩
  ·cases hp
 ·cases hp
def qpC [NL] (S:Sat D0 w0 s h ρ e w) {o:Oper} {x:PV} (hp:q5L P o.op (pe s)=some x) {K:Value->World->Prop} (hK:∀ v,Rd w (dm D0 ρ h) x ρ h v->K v w):wo P o e w K:=by
 obtain ⟨dst,op,ty,pos,af,gd⟩:=o;have hS:=S.pex;unfold q5L at hp;unfold wo;cases op <;> (try (cases hp; done)) <;> simp only at hp ⊢
 case move=>cases hp; exact hK _ (hS _)
 case assign=>cases hp; exact hK _ (hS _)
 case pick c a b =>
  unfold pkP at hp;have hc:=hS c
  split at hp
  ·rename_i hx; rw [hx] at hc; unfold Rd at hc; cases hp; rw [hc]; exact hK _ (hS _)
  ·rename_i hx; rw [hx] at hc; unfold Rd at hc; cases hp; rw [hc]; exact hK _ (hS _)
  ·cases hp
 case binOp op t a b _ =>
  unfold bnP at hp;have ha:=hS a;have hb:=hS b
  split at hp
  ·rename_i h1 h2;rw [h1] at ha; rw [h2] at hb;unfold Rd at ha hb;obtain ⟨v,hv,rfl⟩:=zA.1 hp;rw [ha,hb,hv];exact hK _ (by unfold Rd; rfl)
  ·rename_i k l _ _ h1 h2;rw [h1] at ha; rw [h2] at hb;unfold Rd at ha hb;obtain ⟨A,n,c,vs,q1,q2,q3,q4,q5⟩:=ha
   split at hp
   ·rename_i hu
    split at hp
    ·rename_i hk;cases hp;rw [hb,q1,qho hu];refine hK _ ?_;unfold Rd;refine ⟨_,rfl,λh=>?_⟩
     rcases y5 n with h0 | h0
     ·omega
     ·obtain ⟨ad,e,_⟩:=q2.at_ (by rw [q2.len]; exact y9 h0 hk);rw [e] at h; cases h
    ·cases hp
   ·cases hp
  ·rename_i l m h1 h2;rw [h1] at ha; rw [h2] at hb;unfold Rd at ha hb
   split at hp
   ·rename_i xs ys hx hy;obtain ⟨vs,q1,q2⟩:=ha;obtain ⟨us,q3,q4⟩:=hb;have e1:=q5r hx q2;have e2:=q5r hy q4;subst e1; subst e2;obtain ⟨v,hv,rfl⟩:=zA.1 hp;rw [q1,q3,hv];exact hK _ (by unfold Rd; rfl)
   ·cases hp
  ·cases hp
 case unOp op t a =>
  unfold unP at hp;have ha:=hS a
  split at hp
  ·rename_i h1;rw [h1] at ha;unfold Rd at ha;obtain ⟨v,hv,rfl⟩:=zA.1 hp;rw [ha,hv];exact hK _ (by unfold Rd; rfl)
  ·cases hp
 case convert a b c =>
  unfold cvP at hp;have ha:=hS c
  split at hp
  ·rename_i h1;rw [h1] at ha;unfold Rd at ha;obtain ⟨v,hv,rfl⟩:=zA.1 hp;rw [ha,hv];exact hK _ (by unfold Rd; rfl)
  ·cases hp
 case fieldAddr t a f =>
  unfold qs4 at hp;have ha:=hS a
  split at hp
  ·rename_i id i j h1;rw [h1] at ha;unfold Rd at ha;obtain ⟨b,g,g1,g2,g3,g4⟩:=ha;obtain ⟨r,hr,rfl⟩:=zA.1 hp;rw [g4];simp only [qcQ hr,q2w,q1M];exact hK _ (by unfold Rd; exact ⟨b,g,g1,g2,g3,by rw [xS]⟩)
  ·rename_i n l h1;rw [h1] at ha;unfold Rd at ha;obtain ⟨ad,z,q1,q2,q3,q4,q5⟩:=ha;obtain ⟨r,hr,hp⟩:=zB.1 hp;rw [q1];simp only [qcQ hr,q2w];unfold Rd at q3;obtain ⟨vs,rfl,q6⟩:=q3
   split at hp
   ·obtain ⟨y,hy,rfl⟩:=zA.1 hp;obtain ⟨u,hu,hur⟩:=q6.get hy;have hfu:=q4.1.cell hu;refine hK _ ?_;unfold Rd;refine ⟨_,u,rfl,by rw [q1Q]; exact q2,hur,⟨hfu,xY⟩,λj t ht=>?_⟩;rw [hfu.1] at ht;rw [q8X];cases j with
    | zero=>simp at ht; subst ht; exact q5 _ _ (by simpa [Value.cells] using hu)
    | succ j=>simp at ht
   ·rename_i m _
    split at hp
    ·rename_i hrm;cases hp;have:=q6.len;refine hK _ ?_;unfold Rd;refine ⟨_,.agg ⟨(vs.drop r.1).take m⟩,rfl,by rw [q1Q]; exact q2,by unfold Rd; exact ⟨_,rfl,(q6.drop _).take _⟩,⟨q4.1.part (by omega),hrm.2⟩,λj t ht=>?_⟩;rw [q8X];refine q5 _ t ?_;simp only [Value.cells,zH] at ht ⊢
     split at ht
     ·rw [zO] at ht; exact ht
     ·cases ht
    ·cases hp
  ·cases hp
 case extract a i =>
  unfold exP at hp;have ha:=hS a
  split at hp
  ·rename_i l h1;rw [h1] at ha;unfold Rd at ha;obtain ⟨vs,q1,q2⟩:=ha;obtain ⟨v,hv,hr⟩:=q2.get hp;rw [q1];simp only [qmv];rw [z8,hv];exact hK _ hr
  ·cases hp
 case nilCheck a =>
  unfold nlP at hp;have ha:=hS a
  split at hp
  ·rename_i h1;cases hp;rw [h1] at ha;have ha':=ha;unfold Rd at ha';obtain ⟨b,g,g1,g2,g3,g4⟩:=ha';rw [g4] at ha ⊢;exact hK _ ha
  ·rename_i h1;cases hp;rw [h1] at ha;have ha':=ha;unfold Rd at ha';obtain ⟨ad,z,q1,_⟩:=ha';rw [q1] at ha ⊢;exact hK _ ha
  ·cases hp
 case indexAddr t a i =>
  obtain ⟨v,h1,h2⟩:=qvb (ar:=qdr P t) (hS a) (hS i) hp;rw [h1];exact hK _ h2
 case slice t a lo hi mx =>
  cases mx with
  | some _=>cases hp
  | none =>
   obtain ⟨v,h1,h2⟩:=sl_ok hS hp;simp only;rw [h1];exact hK _ h2
 case build t ps =>
  unfold blP at hp;obtain ⟨r,hr,hp⟩:=zB.1 hp;obtain ⟨cs,hcs,rfl⟩:=zA.1 hp;unfold plc at hr;unfold Program.built
  split at hr
  ·rename_i it fs h1 h2
   split at hr
   ·rename_i z pl h3 h4;cases hr;rw [h1,h2];simp only [h3,h4];rw [xD];obtain ⟨us,e1,e2⟩:=qad (w:=w) (D:=dm D0 ρ h) (ρ:=ρ) (h:=h) (g:=ev e) ps.toList hS (z.cells.toList.map .vl) z.cells cs hcs (q5k _);rw [e1];exact hK _ (by unfold Rd; exact ⟨us.toList,rfl,e2⟩)
   ·cases hr
  ·cases hr
 case makeFunc fn first cap =>
  unfold fnP at hp
  split at hp
  ·rename_i z hz
   split at hp
   ·rename_i f
    split at hp
    ·rename_i hf;cases hp;have hf:first=#[]:=by cases first with | mk fl=>cases fl with | nil=>rfl | cons a b=>cases hf
     obtain ⟨c,hc,hcz⟩:∃ c,cap.toList=[c]/\pe s c=.qt none (.vl (.int .i64 z)):=by
      obtain ⟨cl⟩:=cap
      match cl,hz with
      | [],hz=>cases hz
      | [a],hz=>exact ⟨a,rfl,(List.cons.inj hz).1⟩
      | a :: a' :: b',hz=>cases (List.cons.inj hz).2
     have hr:=hS c;rw [hcz] at hr;unfold Rd at hr;obtain ⟨ad,z',q1,q2,q3,q4,q5⟩:=hr;unfold Rd at q3;subst q3;have hcv:cap.map (ev e)=#[.pointer (some ad)]:=by
      cases cap;simp only at hc;subst hc;simp [q1]
     unfold WO;subst hf;simp only [execOp,Instr.makeFunc,hcv];refine hK _ ?_;unfold Rd;refine ⟨ad,by simp,q2,?_⟩;have:=q5 0 (.int .i64 z) rfl
     rwa [add_zero] at this
    ·cases hp
   ·cases hp
  ·cases hp
 case call c =>
  obtain ⟨callee,args,tys⟩:=c;simp only at hp ⊢
  split at hp
  ·split at hp
   ·rename_i a t hat htt;simp only [hat,htt];have ha:=hS a;unfold qs1 at hp
    split at hp
    ·rename_i h1;rw [h1] at ha;unfold Rd at ha;obtain ⟨A,n,c,vs,e1,_,e2,_⟩:=ha;obtain ⟨q,hq,rfl⟩:=zA.1 hp;rw [e1,hq];refine hK _ ?_;unfold Rd;rw [e2]
    ·rename_i h1;rw [h1] at ha;unfold Rd at ha;obtain ⟨b,A,c,_,_,e1,_⟩:=ha;obtain ⟨q,hq,rfl⟩:=zA.1 hp;rw [e1,hq];exact hK _ (by unfold Rd; rfl)
    ·rename_i h1;rw [h1] at ha;unfold Rd at ha;obtain ⟨v,hv,rfl⟩:=zA.1 hp;rw [ha,hv];exact hK _ (by unfold Rd; rfl)
    ·cases hp
   ·cases hp
  ·unfold mmP at hp;obtain ⟨r,hr,hp⟩:=zB.1 hp;obtain ⟨v,hv,rfl⟩:=zA.1 hp;have:=q5r hr (q4w (g:=ev e) hS args.toList);simp only [this,hv];exact hK _ (by unfold Rd; rfl)
  ·unfold mmP at hp;obtain ⟨r,hr,hp⟩:=zB.1 hp;obtain ⟨v,hv,rfl⟩:=zA.1 hp;have:=q5r hr (q4w (g:=ev e) hS args.toList);simp only [this,hv];exact hK _ (by unfold Rd; rfl)
  ·cases hp
end
instance  [NL]{v:Value}:Decidable (qpO v):=inferInstanceAs (Decidable (_/\_))
def qmf [NL] {w:World} {k:Kd} {z:Value} {p:Addr} (hf:q2i k z) (hc:∀ (i:Nat) (v:Value),z.cells.toList[i]?=some v->w.cell? (p.add i)=some v):ldV w (some k) (.pointer (some p))=some z:=by
 cases k with
 | none =>
  have:=hc 0 z (by rw [hf.1]; rfl);rw [add_zero] at this;exact this
 | some n =>
  obtain ⟨cs,rfl,h1,_⟩:=hf;have:=qmV (w:=w) (p:=p) cs.toList 0 λj u hu=>by rw [zX]; exact hc j u hu
  rw [zE,h1] at this;simp only [ldV,this];simp
def qab [NL] {k:Kd} {x:PV} {w:World} {D:Nat->Prop} {ρ:Nat->Option Nat} {h:Hp} {y:Value} (hf:q8D k x) (hr:Rd w D x ρ h y):q2i k y:=by
 have one:∀ {x:PV} {y:Value},qgn x->Rd w D x ρ h y->q2i none y:=λ{x y} hf hr=>by
  cases x <;> simp only [qgn] at hf <;> unfold Rd at hr
  case vl v=>subst hr; exact ⟨q2D hf.1,hf⟩
  case fm G=>exact hf _ _ _ hr
  case sl k l=>obtain ⟨_,_,_,_,rfl,_⟩:=hr; exact ⟨rfl,rfl,nlo⟩
  case ow=>obtain ⟨_,_,_,_,_,rfl,_⟩:=hr; exact ⟨rfl,rfl,nlo⟩
  case pt=>obtain ⟨_,_,_,_,_,rfl⟩:=hr; exact ⟨rfl,rfl,nlo⟩
  case qt=>obtain ⟨_,_,rfl,_⟩:=hr; exact ⟨rfl,rfl,nlo⟩
 cases k with
 | none=>exact one hf hr
 | some n =>
  cases x <;> simp only [q8D] at hf
  case fm G=>unfold Rd at hr; exact hf _ _ _ hr
  case ag l =>
   unfold Rd at hr;obtain ⟨vs,rfl,h1⟩:=hr;refine ⟨⟨vs⟩,rfl,by simp [h1.len,hf.1],λu hu=>?_⟩;simp only at hu;obtain ⟨i,hi⟩:=xO hu;obtain ⟨h2,h3⟩:=RdL.iff.1 h1;have hlt:=(zD.1 hi).1;have hx:l[i]?=some l[i]:=zC Oq;exact (one (hf.2 _ (zG hx)) (h3 i _ _ hx hi)).2
def ldP (h:Hp) (k:Option Kd):PV->Option (PV × List Nat)
 | .pt id i j=>match k,h id with
  | some k,some b=>if b.st=true\/ksz k=0 then none else ((b.xs[i]?).bind (ldU b.k k j)).map λx=>(x,[id])
  | _,_=>none
 | .qt bk x=>match k with
  | some k=>if ksz k=0 then none else (ldU bk k 0 x).map λy=>(y,[])
  | none=>none
 | _=>none
def alB [NL] (P:Program) (t:TypeId):Option Bk :=
 match q1Y P t,q0c P t with
 | some z,some none=>match z.toList with
  | [v]=>if qpO v then some ⟨t,none,[.vl v],false⟩ else none
  | _=>none
 | some z,some (some n)=>if z.size=n/\(z.toList.all λv=>v.oneCell' && q5S v)=true then some ⟨t,some n,[.ag (z.toList.map .vl)],false⟩ else none
 | _,_=>none
def elK [NL] (P:Program) (t:TypeId):Option (TypeId × Kd × Nat) :=
 match q06 P t with
 | some (E,sz,bytes,z)=>match q0c P E with
  | some k=>if ksz k=sz/\0 < sz/\z.size=sz/\(z.toList.all λv=>v.oneCell' && q5S v)=true then some (E,k,bytes) else none
  | none=>none
 | none=>none
def elZ [NL] (P:Program) (t:TypeId):Option (TypeId × Kd × Nat × PV) :=
 match q06 P t,elK P t with
 | some (_,_,_,z),some (E,none,b)=>match z.toList with | [v]=>some (E,none,b,.vl v) | _=>none
 | some (_,_,_,z),some (E,some n,b)=>some (E,some n,b,.ag (z.toList.map .vl))
 | _,_=>none
section
variable {w w':World} {w0:Base} {D D0:Nat->Prop} {ρ:Nat->Option Nat} {h:Hp} {s:Nat->PV} {e:Env} {P:Program}
def ql6.unit [NL] {g:Nat} {b:Bk} (hb:ql6 w D ρ h g b) (hst:b.st=false) {i:Nat} {x:PV} (hx:b.xs[i]?=some x) :
  ∃ v,Rd w D x ρ h v/\q2i b.k v/\∀ (j:Nat) (u:Value),v.cells.toList[j]?=some u->w.cell? ⟨g,i*ksz b.k+j,none⟩=some u:=by
 obtain ⟨cs,h1,h2,h3⟩:=hb;obtain ⟨vs,h4,h5,h6⟩:=h3 hst;obtain ⟨v,hv,hr⟩:=h5.get hx;have hf:=h6 v (zG hv);refine ⟨v,hr,hf,λj t ht=>?_⟩;have hcs:∀ v ∈ vs,v.cells.size=ksz b.k:=λv hv=>(h6 v hv).size;have hj:j < ksz b.k:=by
  have:=(zD.1 ht).1;rw [zE,hf.size] at this;exact this
 have q:=q5a hcs hv hj;rw [<- h4,zH] at q;rw [h1.cell]
 split at q
 ·rw [zI] at q ht; rw [q]; exact ht
 ·rw [zI] at ht; rw [ht] at q; cases q
def qfy [NL] (S:Sat D0 w0 s h ρ e w) {t:TypeId} {a:Operand} {r:PV × List Nat} (hp:ldP h (q0c P t) (pe s a)=some r):∃ v,ldV w (q0c P t) (ev e a)=some v/\Rd w (dm D0 ρ h) r.1 ρ h v:=by
 have ha:=S.pex a;unfold ldP at hp
 split at hp
 ·rename_i id i j hx;rw [hx] at ha;unfold Rd at ha;obtain ⟨b,g,g1,g2,g3,g4⟩:=ha
  split at hp
  ·rename_i k b' hk hb;rw [g1] at hb;cases hb
   split at hp
   ·cases hp
   ·rename_i hc;obtain ⟨x,hx1,rfl⟩:=zA.1 hp;obtain ⟨y,hy,hl⟩:=zB.1 hx1;have hst:b.st=false:=by
     cases hq:b.st
     ·rfl
     ·exact absurd (Or.inl hq) hc
    obtain ⟨v,q1,q2,q3⟩:=(S.own id b g g1 g2).2.unit hst hy;obtain ⟨z,z1,z2,z3⟩:=qmg hl q1 q2 Oq;rw [hk,g4];refine ⟨z,qmf z2 λi' u hu=>?_,z1⟩;rw [q1M,xS];exact q3 _ u (z3 i' u hu)
  ·cases hp
 ·rename_i bk x hx;rw [hx] at ha;unfold Rd at ha;obtain ⟨ad,z,q1,q2,q3,q4,q5⟩:=ha
  split at hp
  ·rename_i k hk
   split at hp
   ·cases hp
   ·obtain ⟨y,hy,rfl⟩:=zA.1 hp;obtain ⟨z',z1,z2,z3⟩:=qmg hy q3 q4.1 Oq;rw [q1,hk];refine ⟨z',qmf z2 λi' u hu=>?_,Rd.mv (Kp.refl _ _) (λ_ _ h=>h) _ _ _ _ _ _ Cpt.h0 z1⟩;have:=z3 i' u hu;rw [zX] at this;exact q5 _ u this
  ·cases hp
 ·cases hp
def Sat.newP [NL] (S:Sat D0 w0 s h ρ e w) {d:Nat} (hd:h d=none) (hd5:d < 5000) {b:Bk} {z:Value} {x:PV} (hb:b=⟨b.T,b.k,[x],false⟩) (hz:Rd w (dm D0 ρ h) x ρ h z) (hf:q2i b.k z) :
  ∃ ρ',Sat D0 w0 (pu s d (.pt d 0 0)) (q0R h d b) ρ' (upd e d (.pointer (some ⟨w.heap.size,0,none⟩))) (w.alloc (.cells z.cells b.T)):=by
 have hsz:=hf.size;obtain ⟨S1,_,_⟩:=S.alloc (w':=w.alloc (.cells z.cells b.T)) (b:=b) (g:=w.heap.size) hd hd5 (Kp.alloc w _) (zU _) (cs:=z.cells) (Blk.new w b.T z.cells) (λu hu=>(hf.one u hu).2) (by rw [hb]) (vs:=[z]) (by
  rw [hb];simp only [zL,yF,zX,Nat.one_mul];rw [yC (by rw [zE,hsz]; exact zU _)];simp [q0d]) (by rw [hb]; exact RdL.one hz) (by intro v hv; simp at hv; subst hv; exact hf)
 refine ⟨_,S1.put d ?_⟩;unfold Rd;exact ⟨b,w.heap.size,q0K,q1Z,by rw [hb]; simp,by simp⟩
def Sat.newS [NL] (S:Sat D0 w0 s h ρ e w) {d n:Nat} (hd:h d=none) (hd5:d < 5000) {b:Bk} {cs:Array Value} {vs:List Value} (hx:Ext w w') (hb:Blk w' w.heap.size b.T cs) (hn:∀ u ∈ cs.toList,q5S u=true) (hst:b.st=false) (hln:b.xs.length=n) {c:Nat} (hc:n<=c) (hcm:c<=maxLen) (hcs:cs.size=c*ksz b.k)
  (h1:cs.toList.take (n*ksz b.k)=q0d vs) (h2:RdL w (dm D0 ρ h) b.xs ρ h vs) (h3:∀ v ∈ vs,q2i b.k v) :
  ∃ ρ',Sat D0 w0 (pu s d (.ow d b.k 0 n)) (q0R h d b) ρ' (upd e d (.slice (some ⟨w.heap.size,0,none⟩) n c)) w':=by
 obtain ⟨S1,_,_⟩:=S.alloc (w':=w') (b:=b) (g:=w.heap.size) hd hd5 hx (zU _) (cs:=cs) hb hn hst (vs:=vs) (by rw [hln]; exact h1) h2 h3;refine ⟨_,S1.put d ?_⟩;have hat:AtO w' (upo ρ d (some w.heap.size) d) (some ⟨w.heap.size,0,none⟩) (0*ksz b.k) ((0+c)*ksz b.k):=⟨_,q1Z,by rw [xI],cs,b.T,hb,by rw [zX]; exact hcs⟩;unfold Rd;exact ⟨b,_,c,q0K,rfl,rfl,hc,hcm,by omega,.inr hat,λ_=>.inr hat⟩
def allB [NL] {z:Array Value} (ha:(z.toList.all λv=>v.oneCell' && q5S v)=true):∀ u ∈ z.toList,u.oneCell'=true/\q5S u=true:=λu hu=>by
 have:=yK.1 ha u hu;simpa using this
def qlU [NL] (S:Sat D0 w0 s h ρ e w) {d t:Nat} {b:Bk} (hd:h d=none) (hd5:d < 5000) (hb:alB P t=some b):∃ z,q1Y P t=some z/\∃ ρ',Sat D0 w0 (pu s d (.pt d 0 0)) (q0R h d b) ρ' (upd e d (.pointer (some ⟨w.heap.size,0,none⟩))) (w.alloc (.cells z t)):=by
 unfold alB at hb
 split at hb
 ·rename_i z hz hk;refine ⟨z,hz,?_⟩
  split at hb
  ·rename_i v hv
   split at hb
   ·rename_i ho;cases hb;have hzz:z=#[v]:=by cases z; simp at hv; rw [hv]
    have hcc:=q2D ho.1;have:=S.newP (b:=⟨t,none,[.vl v],false⟩) (z:=v) (x:=.vl v) hd hd5 rfl (by unfold Rd; rfl) ⟨hcc,ho⟩;rw [hcc,<- hzz] at this;exact this
   ·cases hb
  ·cases hb
 ·rename_i z n hz hk;refine ⟨z,hz,?_⟩
  split at hb
  ·rename_i hc;cases hb;exact S.newP (b:=⟨t,some n,[.ag (z.toList.map .vl)],false⟩) (z:=.agg z) (x:=.ag (z.toList.map .vl)) hd hd5 rfl (by unfold Rd; exact ⟨z.toList,rfl,q5k _⟩) ⟨z,rfl,hc.1,allB hc.2⟩
  ·cases hb
 ·cases hb
def qcY [NL] {t:TypeId} {E:TypeId} {k:Kd} {bytes:Nat} (hk:elK P t=some (E,k,bytes)):∃ z:Array Value,q06 P t=some (E,ksz k,bytes,z)/\0 < ksz k/\z.size=ksz k/\q0c P E=some k/\∀ u ∈ z.toList,u.oneCell'=true/\q5S u=true:=by
 unfold elK at hk
 split at hk
 ·rename_i E' sz by' z he
  split at hk
  ·rename_i k' hk'
   split at hk
   ·rename_i hc;cases hk;obtain ⟨rfl,h1,h2,h3⟩:=hc;exact ⟨z,he,h1,h2,hk',allB h3⟩
   ·cases hk
  ·cases hk
 ·cases hk
def qcU {sz:Nat}:∀ (vs:List Value) (a:Nat) (cs:Array Value),(∀ v ∈ vs,v.cells.size=sz)->(a+vs.length)*sz<=cs.size->∃ r,Instr.fill (λi=>some (i*sz,sz)) cs ((xP a vs.length).zip vs)=some r/\r.size=cs.size/\∀ i:Nat,r[i]?=if a*sz<=i/\i < (a+vs.length)*sz then (q0d vs)[i-a*sz]? else cs[i]?
 | [],a,cs,_,_=>⟨cs,rfl,rfl,λi=>by rw [if_neg (by simp)]⟩
 | v :: vs,a,cs,hv,hl=>by
  rw [zL] at hl;have h1:=hv v zP;have e0:(a+(vs.length+1))*sz=a*sz+sz+vs.length*sz:=by rw [yI,yB]; omega
  have e1:(a+1+vs.length)*sz=a*sz+sz+vs.length*sz:=by rw [yI,yB]
  have e2:(a+1)*sz=a*sz+sz:=yB _ _;have hl':a*sz+sz+vs.length*sz<=cs.size:=by rw [<- e0]; exact hl
  clear hl;have hvl:v.cells.toList.length=sz:=by rw [zE,h1]
  obtain ⟨r1,q1,q2,q3⟩:=q3f (a*sz) v.cells.toList 0 cs (by rw [hvl]; clear e0 e1 e2; omega);obtain ⟨r,p1,p2,p3⟩:=qcU vs (a+1) r1 (λx hx=>hv x (zJ _ hx)) (by rw [q2,e1]; exact hl');refine ⟨r,?_,by rw [p2,q2],λi=>?_⟩
  ·rw [zL,List.range'_succ,xU];unfold Instr.fill;simp only;rw [if_neg (by rw [h1]; clear e0 e1 e2; simp only [z5,decide_eq_true_eq]; omega)];rw [<- xT,xR];rw [q1];exact p1
  ·rw [p3 i,q3 i,hvl,zL];have hfl:q0d (v :: vs)=v.cells.toList ++ q0d vs:=by simp [q0d]
   rw [hfl,e0,e1,e2]
   by_cases c1:a*sz+sz<=i/\i < a*sz+sz+vs.length*sz
   ·rw [if_pos c1,if_pos (by omega),List.getElem?_append_right (by omega),hvl,show i-a*sz-sz=i-(a*sz+sz) by omega]
   ·rw [if_neg c1]
    by_cases c2:a*sz+0<=i/\i < a*sz+0+sz
    ·rw [if_pos c2,if_pos (by omega),List.getElem?_append_left (by omega)]
     rfl
    ·rw [if_neg c2,if_neg (by omega)]
def bs_ok [NL] (S:Sat D0 w0 s h ρ e w) {d t len E bytes:Nat} {k:Kd} {ps:List (Nat × Operand)} (hd:h d=none) (hd5:d < 5000) (hk:elK P t=some (E,k,bytes)) (hps:ps.map (·.1)=List.range len) (hl:len*ksz k<=16777216) (hf:∀ p ∈ ps,q8D k (pe s p.2)) :
  ∃ cs,bsV P t len (ps.map λp=>(p.1,ev e p.2))=some (E,cs)/\∃ ρ',Sat D0 w0 (pu s d (.ow d k 0 len)) (q0R h d ⟨E,k,ps.map λp=>pe s p.2,false⟩) ρ' (upd e d (.slice (some ⟨w.heap.size,0,none⟩) len len)) (w.alloc (.cells cs E)):=by
 obtain ⟨z,he,hsz,hzs,_,_⟩:=qcY hk;have hlen:ps.length=len:=by have:=congrArg List.length hps; simpa using this
 have hvs:RdL w (dm D0 ρ h) (ps.map λp=>pe s p.2) ρ h (ps.map λp=>ev e p.2):=by
  have:=q4w (w:=w) (D:=dm D0 ρ h) (ρ:=ρ) (h:=h) (f:=pe s) (g:=ev e) S.pex (ps.map (·.2));rw [y3,y3] at this;exact this
 have hfit:∀ v ∈ ps.map (λp=>ev e p.2),q2i k v:=λv hv=>by
  obtain ⟨p,hp,rfl⟩:=y4.1 hv;exact qab (hf p hp) (S.pex p.2)
 have key:∃ cs,bsV P t len (ps.map λp=>(p.1,ev e p.2))=some (E,cs)/\cs.toList=q0d (ps.map λp=>ev e p.2):=by
  unfold bsV;rw [he];simp only
  by_cases h0:len=0
  ·subst h0;have:ps=[]:=zS hlen;subst this;rw [if_pos (by simp)];exact ⟨#[],by simp,by simp [q0d]⟩
  ·have hpos:0 < len*ksz k:=y9 Oq hsz;rw [if_neg (by omega),if_neg (by omega)];have hz:(ps.map λp=>(p.1,ev e p.2))=(xP 0 (ps.map λp=>ev e p.2).length).zip (ps.map λp=>ev e p.2):=by
    rw [List.length_map,hlen,<- yY,<- hps];clear hf hps hlen hvs hfit
    induction ps with
    | nil=>rfl
    | cons p ps ih=>simp only [yG,xU,ih]
   rw [hz];obtain ⟨r,r1,r2,r3⟩:=qcU (sz:=ksz k) (ps.map λp=>ev e p.2) 0 ((Array.range (len*ksz k)).map (z[· % z.size]!)) (λv hv=>(hfit v hv).size) (by simp [hlen]);rw [r1];refine ⟨r,rfl,?_⟩;have hfl:(q0d (ps.map λp=>ev e p.2)).length=len*ksz k:=by rw [q0t λv hv=>(hfit v hv).size]; simp [hlen]
   apply yH
   intro i;rw [zI,r3 i]
   split
   ·simp
   ·rename_i hc;simp [hlen] at hc;rw [zW (by omega),Array.getElem?_eq_none (by simp; omega)]
 obtain ⟨cs,h1,h2⟩:=key;refine ⟨cs,h1,?_⟩;have hfl:(q0d (ps.map λp=>ev e p.2)).length=len*ksz k:=by rw [q0t λv hv=>(hfit v hv).size]; simp [hlen]
 have hcs:cs.size=len*ksz k:=by rw [<- zE,h2,hfl]
 have hml:len<=maxLen:=by
  have:len<=len*ksz k:=xE _ hsz;simp only [maxLen]; omega
 exact S.newS (b:=⟨E,k,ps.map λp=>pe s p.2,false⟩) hd hd5 (Kp.alloc w _) (Blk.new w E cs) (λu hu=>by
  rw [h2] at hu;unfold q0d at hu;obtain ⟨v,hv,hu⟩:=yW.1 hu;exact ((hfit v hv).one u hu).2) rfl (by simp [hlen]) (zU _) hml hcs (by rw [<- hcs,<- zE,List.take_length]; exact h2) hvs hfit
def qfw {z:Array Value} {zv:Value} (hz:zv.cells=z) (hp:0 < z.size) (n:Nat):(madeCells z (n*z.size)).toList=q0d (List.replicate n zv):=by
 have hcs:∀ v ∈ List.replicate n zv,v.cells.size=z.size:=λv hv=>by rw [(yD.1 hv).2,hz]
 have hfl:=q0t hcs;rw [xM] at hfl
 apply yH
 intro i
 rcases yQ i (n*z.size) with hi | hi
 ·have hq:i / z.size < n:=by rw [Nat.div_lt_iff_lt_mul hp]; exact hi
  have hm:=Nat.mod_lt i hp;have:=q5a hcs (i:=i / z.size) (j:=i % z.size) (v:=zv) (by rw [xF,if_pos hq]) hm;rw [Nat.mul_comm,Nat.div_add_mod] at this;rw [this,hz];simp [madeCells,hi,hm]
 ·rw [zW (by rw [zE,size_madeCells]; exact hi),zW (by omega)]
def mk_ok [NL] (S:Sat D0 w0 s h ρ e w) {d t E bytes n m:Nat} {k:Kd} {x:PV} (hd:h d=none) (hd5:d < 5000) (hk:elZ P t=some (E,k,bytes,x)) (hnm:n<=m) (hn:m<=maxLen) :
  ∃ z,q06 P t=some (E,ksz k,bytes,z)/\∃ ρ',Sat D0 w0 (pu s d (.ow d k 0 n)) (q0R h d ⟨E,k,List.replicate n x,false⟩) ρ' (upd e d (.slice (some ⟨w.heap.size,0,none⟩) n m)) (w.alloc (.cells (madeCells z (m*ksz k)) E)):=by
 have key:∃ (z:Array Value) (zv:Value),elK P t=some (E,k,bytes)/\q06 P t=some (E,ksz k,bytes,z)/\0 < ksz k/\z.size=ksz k/\zv.cells=z/\q2i k zv/\Rd w (dm D0 ρ h) x ρ h zv:=by
  unfold elZ at hk
  split at hk
  ·rename_i E1 s1 b1 z' E2 b2 he hkk
   split at hk
   ·rename_i v hv;cases hk;obtain ⟨z2,q1,q2,q3,_,q4⟩:=qcY hkk;have hz2:z2=z':=by rw [q1] at he; cases he; rfl
    subst hz2;have ho:=q4 v (by rw [hv]; simp);have hzz:z2=#[v]:=by cases z2; simp at hv; rw [hv]
    exact ⟨z2,v,hkk,q1,q2,q3,by rw [hzz]; exact q2D ho.1,⟨q2D ho.1,ho⟩,by unfold Rd; rfl⟩
   ·cases hk
  ·rename_i E1 s1 b1 z' E2 n2 b2 he hkk;cases hk;obtain ⟨z2,q1,q2,q3,_,q4⟩:=qcY hkk;have hz2:z2=z':=by rw [q1] at he; cases he; rfl
   subst hz2;exact ⟨z2,.agg z2,hkk,q1,q2,q3,rfl,⟨z2,rfl,q3,q4⟩,by unfold Rd; exact ⟨z2.toList,rfl,q5k _⟩⟩
  ·cases hk
 obtain ⟨z,zv,_,he,hp,hzs,hzc,hfit,hr⟩:=key;refine ⟨z,he,?_⟩;have hfl:=qfw hzc Oq m;rw [hzs] at hfl;exact S.newS (b:=⟨E,k,List.replicate n x,false⟩) (n:=n) hd hd5 (Kp.alloc w _) (Blk.new w E _) (λu hu=>by
  rw [hfl] at hu;unfold q0d at hu;obtain ⟨v,hv,hu⟩:=yW.1 hu;rw [(yD.1 hv).2] at hu;exact (hfit.one u hu).2) rfl (by simp) hnm hn (size_madeCells _ _) (by
   rw [hfl,<- q4M λv hv=>by rw [(yD.1 hv).2,hzc,hzs],List.take_replicate,Nat.min_eq_left hnm]) (vs:=List.replicate n zv) (RdL.iff.2 ⟨by simp,λi y v hy hv=>by
   rw [xF] at hy hv
   split at hy
   ·rw [if_pos ‹_›] at hv; cases hy; cases hv; exact hr
   ·cases hy⟩) (λv hv=>by rw [(yD.1 hv).2]; exact hfit)
end
def stU (bk k:Kd) (j:Nat) (old x:PV):Option PV :=
 if bk=k/\j=0 then some x else
  match bk,k,old,x with
  | some _,none,.ag l,x=>if j < l.length then some (.ag (l.set j x)) else none
  | some _,some m,.ag l,.ag r=>if r.length=m/\j+m<=l.length then some (.ag (l.take j ++ r ++ l.drop (j+m))) else none
  | _,_,_,_=>none
def qtl {bk k:Kd} {j:Nat} {old x u':PV} (h:stU bk k j old x=some u'):(bk=k/\j=0/\u'=x)\/(∃ n l,bk=some n/\k=none/\old=.ag l/\j < l.length/\u'=.ag (l.set j x))\/∃ n m l r,bk=some n/\k=some m/\old=.ag l/\x=.ag r/\r.length=m/\j+m<=l.length/\u'=.ag (l.take j ++ r ++ l.drop (j+m)):=by
 unfold stU at h
 split at h
 ·rename_i hh; cases h; exact .inl ⟨hh.1,hh.2,rfl⟩
 ·split at h
  ·split at h
   ·cases h; exact .inr (.inl ⟨_,_,rfl,rfl,rfl,‹_›,rfl⟩)
   ·cases h
  ·split at h
   ·rename_i hc; cases h; exact .inr (.inr ⟨_,_,_,_,rfl,rfl,rfl,rfl,hc.1,hc.2,rfl⟩)
   ·cases h
  ·cases h
def stl (h:Hp):Option Nat->Hp
 | none=>h
 | some i=>match h i with | some b=>q0R h i { b with st:=true } | none=>h
def apS (h:Hp) (E:TypeId) (k:Kd):PV->Option (List PV × Option Nat)
 | .vl (.slice none 0 0)=>some ([],none)
 | .ow id k' off n=>(h id).bind λb=>if b.st=false/\b.T=E/\b.k=k/\k'=k/\off=0/\n=b.xs.length then some (b.xs,some id) else none
 | _=>none
def apX (h:Hp) (k:Kd):PV->Option (List PV × List Nat)
 | .vl (.slice none 0 0)=>some ([],[])
 | .sl k' l=>if k'=k then some (l,[]) else none
 | .ow id k' off n=>(h id).bind λb=>if b.st=false/\b.k=k/\k'=k then some ((b.xs.drop off).take n,[id]) else none
 | _=>none
def q3T:PV->Prop
 | .ow _ _ _ _ | .pt _ _ _ | .ag _ | .tu _=>False
 | _=>True
def Cld:PV->Prop
 | .ag l=>∀ x ∈ l,q3T x
 | x=>q3T x
open Classical in
noncomputable def qdl (h:Hp):PV->Option (PV × List Nat)
 | .ow id k off n=>(h id).bind λb=>if b.st=false/\b.k=k/\∀ x ∈ b.xs,Cld x then some (.sl k ((b.xs.drop off).take n),[id]) else none
 | x=>if q3T x then some (x,[]) else none
noncomputable def q1b (h:Hp):List PV->Option (List PV × List Nat)
 | []=>some ([],[])
 | x :: l=>(qdl h x).bind λa=>(q1b h l).map λb=>(a.1 :: b.1,a.2 ++ b.2)
open Classical in
noncomputable def q3S (h:Hp):PV->Option (PV × List Nat)
 | .ow id k off n=>(h id).bind λb=>if b.st=false/\b.k=k/\∀ x ∈ b.xs,Cld x then some (.sl k ((b.xs.drop off).take n),[id]) else if b.st=false/\b.k=k then (q1b h b.xs).map λr=>(.sl k ((r.1.drop off).take n),id :: r.2) else none
 | x=>if q3T x then some (x,[]) else none
noncomputable def q3i (h:Hp):List PV->Option (List PV × List Nat)
 | []=>some ([],[])
 | x :: l=>(q3S h x).bind λa=>(q3i h l).map λb=>(a.1 :: b.1,a.2 ++ b.2)
noncomputable def clo (h:Hp):PV->Option (PV × List Nat)
 | .ag l=>(q3i h l).map λr=>(.ag r.1,r.2)
 | x=>q3S h x
noncomputable def q21 (h:Hp):List PV->Option (List PV × List Nat)
 | []=>some ([],[])
 | x :: l=>(clo h x).bind λa=>(q21 h l).map λb=>(a.1 :: b.1,a.2 ++ b.2)
def Nz [NL] (r:PV):Prop:=∀ (w:World) (D B:Nat->Prop) (v:Value),(∀ g,B g->∃ cs T,Blk w g T cs/\∀ u ∈ cs.toList,q5S u=true)->Rd w D r (λ_=>none) h0 v->Rd w (λk=>D k/\¬ B k) r (λ_=>none) h0 v
def AC [NL] (P:Program) (Tb:World->Prop) (f:FuncId) (al:List PV) (r:PV):Prop :=
 q0I P f=true/\∀ (D:Nat->Prop) (w:World) (vs:List Value),Tb w->Fr D w->RdL w D al (λ_=>none) h0 vs->Calls P f vs.toArray w λx w'=>∃ v,x=.returned v/\Ext w w'/\Rd w' D r (λ_=>none) h0 v
section
variable {w w':World} {w0:Base} {D D0:Nat->Prop} {ρ:Nat->Option Nat} {h:Hp} {s:Nat->PV} {e:Env} {P:Program}
def Rd.cl [NL] {x:PV} {y:Value} (hx:Rd w D x (λ_=>none) h0 y):Rd w D x ρ h y:=Rd.mv (Kp.refl _ _) (λ_ _ h=>h) _ _ _ _ _ _ Cpt.h0 hx
def RdL.cl [NL] {l:List PV} {vs:List Value} (hx:RdL w D l (λ_=>none) h0 vs):RdL w D l ρ h vs:=RdL.mv (Kp.refl _ _) (λ_ _ h=>h) _ _ _ _ _ _ Cpt.h0 hx
def Rd.sub [NL] {D':Nat->Prop} {x:PV} {y:Value} (hx:Rd w D x ρ h y) (hd:∀ k,k < w.heap.size->D k->D' k):Rd w D' x ρ h y:=Rd.mv (Kp.refl _ _) hd _ _ _ _ _ _ (Cpt.ext (Kp.refl _ _)) hx
def RdL.sub [NL] {D':Nat->Prop} {x:List PV} {y:List Value} (hx:RdL w D x ρ h y) (hd:∀ k,k < w.heap.size->D k->D' k):RdL w D' x ρ h y:=RdL.mv (Kp.refl _ _) hd _ _ _ _ _ _ (Cpt.ext (Kp.refl _ _)) hx
def q2c [NL] {x:PV} {y:Value} (hc:q3T x) (hx:Rd w D x ρ h y):Rd w D x (λ_=>none) h0 y:=by
 cases x <;> simp only [q3T] at hc <;> unfold Rd at hx ⊢ <;> exact hx
def q7M [NL] {x:PV} {y:Value} (hc:Cld x) (hx:Rd w D x ρ h y):Rd w D x (λ_=>none) h0 y:=by
 cases x
 case ag l =>
  simp only [Cld] at hc;unfold Rd at hx ⊢;obtain ⟨vs,h1,h2⟩:=hx;obtain ⟨h3,h4⟩:=RdL.iff.1 h2;exact ⟨vs,h1,RdL.iff.2 ⟨h3,λi z v hz hv=>q2c (hc z (zG hz)) (h4 i z v hz hv)⟩⟩
 all_goals exact q2c hc hx
def Sat.row [NL] (S:Sat D0 w0 s h ρ e w) {id off n:Nat} {b:Bk} {y:Value} (hi:h id=some b) (hst:b.st=false) (hr:Rd w (dm D0 ρ h) (.ow id b.k off n) ρ h y) :
  ∃ A c vs,y=.slice A n c/\Row w (λk=>ρ id=some k) (ksz b.k) A n c (q0d vs)/\RdL w (dm D0 ρ h) ((b.xs.drop off).take n) ρ h vs/\∀ v ∈ vs,q2i b.k v:=by
 unfold Rd at hr;obtain ⟨b',A,c,h1,_,rfl,h3,h4,h5,h6,h7⟩:=hr;rw [hi] at h1;cases h1
 by_cases hn:n=0
 ·subst hn;refine ⟨A,c,[],rfl,⟨h3,by simp [q0d],λhx=>by simp [q0d] at hx⟩,by rw [xN]; unfold RdL; rfl,λv hv=>by cases hv⟩
 ·rcases h6 with h6 | ⟨g,g1,g2,g3⟩
  ·omega
  ·obtain ⟨cs,c1,c2,c3⟩:=(S.own id b g hi g1).2;obtain ⟨vs,v1,v2,v3⟩:=c3 hst;have hcs:∀ v ∈ vs,v.cells.size=ksz b.k:=λv hv=>(v3 v hv).size;have hlen:=v2.len;refine ⟨A,c,(vs.drop off).take n,rfl,⟨h3,?_,λ_=>⟨_,g2,g1,λj u hu=>?_⟩⟩,(v2.drop off).take n,λv hv=>v3 v (zM (zN hv))⟩
   ·rw [q0t λv hv=>hcs v (zM (zN hv))]
    congr 1
    simp; omega
   ·rw [q4M λv hv=>hcs v (zM hv),q4N hcs,<- v1,zH] at hu
    split at hu
    ·rw [zO,zH] at hu
     split at hu
     ·rw [q1M,c1.cell,<- zI]; exact hu
     ·cases hu
    ·cases hu
def qqk [NL] (S:Sat D0 w0 s h ρ e w) {x:PV} {r:PV × List Nat} {y:Value} (hc:qdl h x=some r) (hx:Rd w (dm D0 ρ h) x ρ h y):Rd w (λk=>dm D0 ρ h k\/∃ i ∈ r.2,ρ i=some k) r.1 (λ_=>none) h0 y:=by
 unfold qdl at hc
 split at hc
 ·rename_i id k off n;obtain ⟨b,hb,hc⟩:=zB.1 hc
  split at hc
  ·rename_i hh;obtain ⟨hst,rfl,hcl⟩:=hh;cases hc;obtain ⟨A,c,vs,rfl,q1,q2,q3⟩:=S.row hb hst hx;have hb0:off+n<=b.xs.length:=by
    unfold Rd at hx;obtain ⟨b',_,_,h1,_,_,_,_,h5,_⟩:=hx;rw [hb] at h1; cases h1; exact h5
   unfold Rd;refine ⟨A,n,c,vs,rfl,q1.sub λk _ hk=>.inr ⟨id,by simp,hk⟩,by simp; omega,?_,q3⟩;obtain ⟨q4,q5⟩:=RdL.iff.1 q2;exact RdL.iff.2 ⟨q4,λi z v hz hv=>(q7M (hcl z (zM (zN (zG hz)))) (q5 i z v hz hv)).sub λk _ hk=>.inl hk⟩
  ·cases hc
 ·split at hc
  ·rename_i hcl;cases hc;exact (q2c hcl hx).sub λk _ hk=>.inl hk
  ·cases hc
def qc8 [NL] (S:Sat D0 w0 s h ρ e w):∀ {l:List PV} {r:List PV × List Nat},q1b h l=some r->r.1.length=l.length/\∀ (i:Nat) (x:PV),l[i]?=some x->∃ z,r.1[i]?=some z/\∀ y,Rd w (dm D0 ρ h) x ρ h y->Rd w (λk=>dm D0 ρ h k\/∃ i ∈ r.2,ρ i=some k) z (λ_=>none) h0 y
 | [],r,hc=>by unfold q1b at hc; cases hc; exact ⟨rfl,λi x hx=>by simp at hx⟩
 | x :: l,r,hc=>by
  unfold q1b at hc;obtain ⟨a,ha,hc⟩:=zB.1 hc;obtain ⟨b,hb,rfl⟩:=zA.1 hc;obtain ⟨h1,h2⟩:=qc8 S hb;refine ⟨by simp [h1],λi x' hx=>?_⟩;cases i with
  | zero=>cases hx; exact ⟨_,rfl,λy hy=>(qqk S ha hy).sub λk _ hk=>hk.imp (λh=>h) λ⟨i,hi,h⟩=>⟨i,zR _ hi,h⟩⟩
  | succ i =>
   obtain ⟨z,q1,q2⟩:=h2 i x' hx;exact ⟨z,q1,λy hy=>(q2 y hy).sub λk _ hk=>hk.imp (λh=>h) λ⟨i,hi,h⟩=>⟨i,zQ _ hi,h⟩⟩
def qap [NL] (S:Sat D0 w0 s h ρ e w) {x:PV} {r:PV × List Nat} {y:Value} (hc:q3S h x=some r) (hx:Rd w (dm D0 ρ h) x ρ h y):Rd w (λk=>dm D0 ρ h k\/∃ i ∈ r.2,ρ i=some k) r.1 (λ_=>none) h0 y:=by
 unfold q3S at hc
 split at hc
 ·rename_i id k off n;obtain ⟨b,hb,hc⟩:=zB.1 hc
  split at hc
  ·rename_i hh;obtain ⟨hst,rfl,hcl⟩:=hh;cases hc;obtain ⟨A,c,vs,rfl,q1,q2,q3⟩:=S.row hb hst hx;have hb0:off+n<=b.xs.length:=by
    unfold Rd at hx;obtain ⟨b',_,_,h1,_,_,_,_,h5,_⟩:=hx;rw [hb] at h1; cases h1; exact h5
   unfold Rd;refine ⟨A,n,c,vs,rfl,q1.sub λk _ hk=>.inr ⟨id,by simp,hk⟩,by simp; omega,?_,q3⟩;obtain ⟨q4,q5⟩:=RdL.iff.1 q2;exact RdL.iff.2 ⟨q4,λi z v hz hv=>(q7M (hcl z (zM (zN (zG hz)))) (q5 i z v hz hv)).sub λk _ hk=>.inl hk⟩
  ·split at hc
   ·rename_i hh;obtain ⟨hst,rfl⟩:=hh;obtain ⟨r0,hr0,rfl⟩:=zA.1 hc;obtain ⟨A,c,vs,rfl,q1,q2,q3⟩:=S.row hb hst hx;obtain ⟨g1,g2⟩:=qc8 S hr0;have hb0:off+n<=b.xs.length:=by
     unfold Rd at hx;obtain ⟨b',_,_,h1,_,_,_,_,h5,_⟩:=hx;rw [hb] at h1; cases h1; exact h5
    unfold Rd;refine ⟨A,n,c,vs,rfl,q1.sub λk _ hk=>.inr ⟨id,by simp,hk⟩,by simp; omega,?_,q3⟩;obtain ⟨q4,q5⟩:=RdL.iff.1 q2;refine RdL.iff.2 ⟨by rw [<- q4]; simp [g1],λi z v hz hv=>?_⟩;rw [zH] at hz
    split at hz
    ·rename_i hin;rw [zO] at hz;obtain ⟨x,hx'⟩:∃ x,b.xs[off+i]?=some x:=⟨_,zC Oq⟩;obtain ⟨z',e1,e2⟩:=g2 _ _ hx';rw [e1] at hz; cases hz;refine (e2 v (q5 i x v ?_ hv)).sub λk _ hk=>hk.imp (λh=>h) λ⟨i,hi,h⟩=>⟨i,zJ _ hi,h⟩;rw [zH,if_pos hin,zO]; exact hx'
    ·cases hz
   ·cases hc
 ·split at hc
  ·rename_i hcl;cases hc;exact (q2c hcl hx).sub λk _ hk=>.inl hk
  ·cases hc
def qc7 [NL] (S:Sat D0 w0 s h ρ e w):∀ {l:List PV} {r:List PV × List Nat} {ys:List Value},q3i h l=some r->RdL w (dm D0 ρ h) l ρ h ys->RdL w (λk=>dm D0 ρ h k\/∃ i ∈ r.2,ρ i=some k) r.1 (λ_=>none) h0 ys
 | [],r,ys,hc,hx=>by unfold q3i at hc; cases hc; unfold RdL at hx ⊢; exact hx
 | x :: l,r,ys,hc,hx=>by
  unfold q3i at hc;obtain ⟨a,ha,hc⟩:=zB.1 hc;obtain ⟨b,hb,rfl⟩:=zA.1 hc;unfold RdL at hx ⊢;obtain ⟨y,zs,rfl,h1,h2⟩:=hx;exact ⟨y,zs,rfl,(qap S ha h1).sub λk _ hk=>hk.imp (λh=>h) λ⟨i,hi,h⟩=>⟨i,zR _ hi,h⟩,(qc7 S hb h2).sub λk _ hk=>hk.imp (λh=>h) λ⟨i,hi,h⟩=>⟨i,zQ _ hi,h⟩⟩
def qxA [NL] (S:Sat D0 w0 s h ρ e w) {x:PV} {r:PV × List Nat} {y:Value} (hc:clo h x=some r) (hx:Rd w (dm D0 ρ h) x ρ h y):Rd w (λk=>dm D0 ρ h k\/∃ i ∈ r.2,ρ i=some k) r.1 (λ_=>none) h0 y:=by
 unfold clo at hc
 split at hc
 ·obtain ⟨b,hb,rfl⟩:=zA.1 hc;unfold Rd at hx ⊢;obtain ⟨vs,h1,h2⟩:=hx;exact ⟨vs,h1,qc7 S hb h2⟩
 ·exact qap S hc hx
def q63 [NL] (S:Sat D0 w0 s h ρ e w):∀ {l:List PV} {r:List PV × List Nat} {ys:List Value},q21 h l=some r->RdL w (dm D0 ρ h) l ρ h ys->RdL w (λk=>dm D0 ρ h k\/∃ i ∈ r.2,ρ i=some k) r.1 (λ_=>none) h0 ys
 | [],r,ys,hc,hx=>by unfold q21 at hc; cases hc; unfold RdL at hx ⊢; exact hx
 | x :: l,r,ys,hc,hx=>by
  unfold q21 at hc;obtain ⟨a,ha,hc⟩:=zB.1 hc;obtain ⟨b,hb,rfl⟩:=zA.1 hc;unfold RdL at hx ⊢;obtain ⟨y,zs,rfl,h1,h2⟩:=hx;exact ⟨y,zs,rfl,(qxA S ha h1).sub λk _ hk=>hk.imp (λh=>h) λ⟨i,hi,h⟩=>⟨i,zR _ hi,h⟩,(q63 S hb h2).sub λk _ hk=>hk.imp (λh=>h) λ⟨i,hi,h⟩=>⟨i,zQ _ hi,h⟩⟩
def q5h:∀ {l:List PV} {r:List PV × List Nat},q21 h l=some r->∀ i ∈ r.2,∃ b,h i=some b:=by
 have k0:∀ {x:PV} {r:PV × List Nat},qdl h x=some r->∀ i ∈ r.2,∃ b,h i=some b:=λ{x r} hc i hi=>by
  unfold qdl at hc
  split at hc
  ·obtain ⟨b,hb,hc⟩:=zB.1 hc
   split at hc
   ·cases hc; simp at hi; subst hi; exact ⟨b,hb⟩
   ·cases hc
  ·split at hc
   ·cases hc; cases hi
   ·cases hc
 have k3:∀ {l:List PV} {r:List PV × List Nat},q1b h l=some r->∀ i ∈ r.2,∃ b,h i=some b:=λ{l}=>by
  induction l with
  | nil=>intro r hc i hi; unfold q1b at hc; cases hc; cases hi
  | cons x l ih =>
   intro r hc i hi;unfold q1b at hc;obtain ⟨a,ha,hc⟩:=zB.1 hc;obtain ⟨b,hb,rfl⟩:=zA.1 hc
   rcases zV.1 hi with hi | hi
   ·exact k0 ha i hi
   ·exact ih hb i hi
 have k1:∀ {x:PV} {r:PV × List Nat},q3S h x=some r->∀ i ∈ r.2,∃ b,h i=some b:=λ{x r} hc i hi=>by
  unfold q3S at hc
  split at hc
  ·obtain ⟨b,hb,hc⟩:=zB.1 hc
   split at hc
   ·cases hc; simp at hi; subst hi; exact ⟨b,hb⟩
   ·split at hc
    ·obtain ⟨r0,hr0,rfl⟩:=zA.1 hc
     rcases yM.1 hi with rfl | hi
     ·exact ⟨b,hb⟩
     ·exact k3 hr0 i hi
    ·cases hc
  ·split at hc
   ·cases hc; cases hi
   ·cases hc
 have k2:∀ {l:List PV} {r:List PV × List Nat},q3i h l=some r->∀ i ∈ r.2,∃ b,h i=some b:=λ{l}=>by
  induction l with
  | nil=>intro r hc i hi; unfold q3i at hc; cases hc; cases hi
  | cons x l ih =>
   intro r hc i hi;unfold q3i at hc;obtain ⟨a,ha,hc⟩:=zB.1 hc;obtain ⟨b,hb,rfl⟩:=zA.1 hc
   rcases zV.1 hi with hi | hi
   ·exact k1 ha i hi
   ·exact ih hb i hi
 intro l
 induction l with
 | nil=>intro r hc i hi; unfold q21 at hc; cases hc; cases hi
 | cons x l ih =>
  intro r hc i hi;unfold q21 at hc;obtain ⟨a,ha,hc⟩:=zB.1 hc;obtain ⟨b,hb,rfl⟩:=zA.1 hc
  rcases zV.1 hi with hi | hi
  ·unfold clo at ha
   split at ha
   ·obtain ⟨b',hb',rfl⟩:=zA.1 ha;exact k2 hb' i hi
   ·exact k1 ha i hi
  ·exact ih hb i hi
def Sat.callv [NL] {Tb:World->Prop} (S:Sat D0 w0 s h ρ e w) (hT:Tb w) (hF:Fr D0 w0.w) {f:FuncId} {xs:List PV} {vs:List Value} {al:List PV} {ids:List Nat} {r:PV} (hx:RdL w (dm D0 ρ h) xs ρ h vs) (hc:q21 h xs=some (al,ids)) (hC:AC P Tb f al r) (hz:ids=[]\/Nz r) {K:Value->World->Prop}
  (hK:∀ v w',Sat D0 w0 s h ρ e w'->Rd w' (dm D0 ρ h) r ρ h v->K v w'):q0I P f=true/\Calls P f vs.toArray w λx w'=>match x with | .returned v=>K v w' | _=>False:=by
 refine ⟨hC.1,?_⟩;have ha:=q63 S hc hx;have hFr:Fr (dm D0 ρ h) w:=λk hk=>⟨hF k (xH S.ext.size hk),λi b hi hr=>by have:=(S.own i b k hi hr).2.lt; omega⟩
 rcases hz with rfl | hz
 ·have ha':=ha.sub (D':=dm D0 ρ h) λk _ hk=>hk.elim (λh=>h) λ⟨i,hi,_⟩=>by cases hi
  refine (hC.2 _ w _ hT hFr ha').mono λx w' hx=>?_;obtain ⟨v,rfl,hx1,hr⟩:=hx;exact hK v w' (S.extend hx1) hr.cl
 ·have hD0:∀ k,w.heap.size<=k->D0 k:=λk hk=>hF k (xH S.ext.size hk);have ha':=ha.sub (D':=λk=>dm D0 ρ h k\/∃ i b,h i=some b/\ρ i=some k) λk hk hq=>by
   rcases hq with hq | ⟨i,hi,hr⟩
   ·exact .inl hq
   ·by_cases hh:∃ i b,h i=some b/\ρ i=some k
    ·exact .inr hh
    ·cases hb:h i with
     | none =>
      exfalso
      obtain ⟨b,hb'⟩:=q5h hc i hi;rw [hb] at hb'; cases hb'
     | some b=>exact .inr ⟨i,b,hb,hr⟩
  have hFr':Fr (λk=>dm D0 ρ h k\/∃ i b,h i=some b/\ρ i=some k) w:=λk hk=>.inl (hFr k hk);refine (hC.2 _ w _ hT hFr' ha').mono λx w' hx=>?_;obtain ⟨v,rfl,hx1,hr⟩:=hx;refine hK v w' (S.extend hx1) ?_;have:=hz w' _ (λk=>∃ i b,h i=some b/\ρ i=some k) v (λg ⟨i,b,hi,hr⟩=>by
   obtain ⟨cs,c1,c2,_⟩:=(S.own i b g hi hr).2;exact ⟨cs,b.T,c1.ext hx1,c2⟩) hr
  exact (this.sub λk _ hk=>hk.1.elim (λh=>h) λh=>absurd h hk.2).cl
def Sat.call [NL] {Tb:World->Prop} (S:Sat D0 w0 s h ρ e w) (hT:Tb w) (hF:Fr D0 w0.w) {f:FuncId} {args:List Operand} {al:List PV} {ids:List Nat} {r:PV} (hc:q21 h (args.map (pe s))=some (al,ids)) (hC:AC P Tb f al r) (hz:ids=[]\/Nz r) {K:Value->World->Prop}
  (hK:∀ v w',Sat D0 w0 s h ρ e w'->Rd w' (dm D0 ρ h) r ρ h v->K v w'):q0I P f=true/\Calls P f (args.map (ev e)).toArray w λx w'=>match x with | .returned v=>K v w' | _=>False :=
 S.callv hT hF (q4w (f:=pe s) (g:=ev e) S.pex args) hc hC hz hK
def Sat.store [NL] (S:Sat D0 w0 s h ρ e w) {t id i j:Nat} {a v:Operand} {b:Bk} {k:Kd} {u u':PV} (ha:pe s a=.pt id i j) (hi:h id=some b) (hst:b.st=false) (hk:q0c P t=some k) (hs:q00 P t=some (ksz k)) (hf:q8D k (pe s v)) (hu:b.xs[i]?=some u) (hsu:stU b.k k j u (pe s v)=some u')
  {K:World->Prop} (hK:∀ w',Sat D0 w0 s (q0R h id { b with xs:=b.xs.set i u' }) ρ e w'->K w'):∃ p,ev e a=.pointer (some p)/\q00 P t=some (ev e v).cells.size/\stOk w p 0 (ev e v).cells.toList/\K (stN w p 0 (ev e v).cells.toList):=by
 have hra:=S.pex a;rw [ha] at hra;unfold Rd at hra;obtain ⟨b',g,g1,g2,g3,g4⟩:=hra;rw [hi] at g1;cases g1;have hy:=S.pex v;have hfy:=qab hf hy;obtain ⟨_,cs,c1,c2,c3⟩:=S.own id b g hi g2;obtain ⟨vs,v1,v2,v3⟩:=c3 hst;have hcs:∀ v ∈ vs,v.cells.size=ksz b.k:=λv hv=>(v3 v hv).size;have hvl:=v2.len;obtain ⟨o,ho,hor⟩:=v2.get hu;have hfo:=v3 o (zG ho);have hil:i < vs.length:=by omega
 have key:∃ z,Rd w (dm D0 ρ h) u' ρ h z/\q2i b.k z/\j+(ev e v).cells.toList.length<=ksz b.k/\z.cells.toList=o.cells.toList.take j ++ (ev e v).cells.toList ++ o.cells.toList.drop (j+(ev e v).cells.toList.length):=by
  rcases qtl hsu with ⟨rfl,rfl,rfl⟩ | ⟨n,l,hbk,rfl,rfl,hjl,rfl⟩ | ⟨n,m,l,r,hbk,rfl,rfl,hx,hrm,hjl,rfl⟩
  ·refine ⟨ev e v,hy,hfy,by rw [zE,hfy.size]; omega,?_⟩;rw [yR (by rw [zE,hfo.size,zE,hfy.size]; omega)];simp
  ·unfold Rd at hor;obtain ⟨us,rfl,r1⟩:=hor;rw [hbk] at hfo;have hul:=r1.len;have hn:us.length=n:=by have:=hfo.size; simpa [Value.cells,ksz] using this
   refine ⟨.agg ⟨us.set j (ev e v)⟩,by unfold Rd; exact ⟨_,rfl,r1.set hy j⟩,?_,?_,?_⟩
   ·rw [hbk];refine ⟨_,rfl,by simp [hn],λx hx=>?_⟩;simp only at hx
    rcases yL hx with hx | hx
    ·exact hfo.one x (by simpa [Value.cells] using hx)
    ·rw [hx]; exact hfy.2
   ·rw [hfy.1,hbk]; simp [ksz]; omega
   ·rw [hfy.1];simp only [Value.cells];rw [yP,if_pos (by omega)];simp
  ·unfold Rd at hor;obtain ⟨us,rfl,r1⟩:=hor;rw [hx] at hy;unfold Rd at hy;obtain ⟨rs,hv,r2⟩:=hy;rw [hbk] at hfo;have hul:=r1.len;have hrl:=r2.len;have hn:us.length=n:=by have:=hfo.size; simpa [Value.cells,ksz] using this
   rw [hv] at hfy ⊢;refine ⟨.agg ⟨us.take j ++ rs ++ us.drop (j+m)⟩,by unfold Rd; exact ⟨_,rfl,((r1.take j).app r2).app (r1.drop (j+m))⟩,?_,?_,?_⟩
   ·rw [hbk];refine ⟨_,rfl,by simp; omega,λx hx=>?_⟩;simp only [zV] at hx
    rcases hx with (hx | hx) | hx
    ·exact hfo.one x (by simpa [Value.cells] using zN hx)
    ·exact hfy.one x (by simpa [Value.cells] using hx)
    ·exact hfo.one x (by simpa [Value.cells] using zM hx)
   ·rw [hbk]; simp [Value.cells,ksz]; omega
   ·simp only [Value.cells];rw [hrl,hrm]
 obtain ⟨z,z1,z2,z3,z4⟩:=key;have hsz:(ev e v).cells.size=ksz k:=hfy.size;have hfl:=q0t hcs;have hlt:i*ksz b.k+ksz b.k<=vs.length*ksz b.k:=by
  have:=yZ (ksz b.k) (show i+1<=vs.length by omega);rw [yB] at this; exact this
 have hle:vs.length*ksz b.k<=cs.size:=by
  have:=congrArg List.length v1;rw [yJ,hfl,zE,<- hvl] at this;omega
 refine ⟨_,g4,by rw [hsz]; exact hs,?_,?_⟩
 ·have hgen:∀ (l:List Value) (m:Nat),i*ksz b.k+j+m+l.length<=cs.size->(∀ u ∈ l,u.oneCell'=true)->stOk w ⟨g,i*ksz b.k+j,none⟩ m l:=by
   intro l
   induction l with
   | nil=>intro _ _ _; trivial
   | cons x l ih =>
    intro m hm h1;rw [zL] at hm;refine ⟨?_,?_,h1 x zP,ih (m+1) Oq λu hu=>h1 u (zJ _ hu)⟩
    ·rw [q1M,c1.cell,y7 (by omega)]; rfl
    ·rw [q1M]; exact c1.frozen _
  exact hgen _ 0 Oq λu hu=>(hfy.one u hu).1
 ·refine hK _ ?_;have hgen:∀ (l:List Value) (m:Nat) (w:World) (cs:Array Value),Blk w g b.T cs->i*ksz b.k+j+m+l.length<=cs.size->∃ cs',Blk (stN w ⟨g,i*ksz b.k+j,none⟩ m l) g b.T cs'/\cs'.size=cs.size/\∀ n:Nat,cs'[n]?=if i*ksz b.k+j+m<=n/\n < i*ksz b.k+j+m+l.length then l[n-(i*ksz b.k+j+m)]? else cs[n]?:=by
   intro l;generalize i*ksz b.k+j=q
   induction l with
   | nil=>intro m w cs hb _; exact ⟨cs,hb,rfl,λn=>by rw [if_neg (by simp)]⟩
   | cons x l ih =>
    intro m w cs hb hm;rw [zL] at hm;have h5:=hb.set (q+m) x;obtain ⟨cs',q1,q2,q3⟩:=ih (m+1) _ _ h5 (by rw [z9]; omega);refine ⟨cs',by rw [stN,q1M]; exact q1,by rw [q2,z9],λn=>?_⟩;rw [q3 n,yE,zL]
    by_cases c1:q+(m+1)<=n/\n < q+(m+1)+l.length
    ·rw [if_pos c1,if_pos (by omega),show n-(q+m)=(n-(q+(m+1)))+1 by omega,yA]
    ·rw [if_neg c1]
     by_cases c2:q+m=n
     ·subst c2;rw [if_pos rfl,if_pos (by omega),if_pos (by omega),Nat.sub_self]
      rfl
     ·rw [if_neg c2,if_neg (by omega)]
  obtain ⟨cs',q1,q2,q3⟩:=hgen (ev e v).cells.toList 0 w cs c1 (by rw [zE,hsz]; rw [zE,hsz] at z3; omega);simp only [yT] at q3;have hkp:Kp (λk=>k≠g) w (stN w ⟨g,i*ksz b.k+j,none⟩ 0 (ev e v).cells.toList):=qmI _ _ _ λ_ h=>h rfl;have hoc:∀ m,m < ksz b.k->o.cells.toList[m]?=(q0d vs)[i*ksz b.k+m]?:=λm hm=>by rw [q5a hcs ho hm,zI]
  have hol:o.cells.toList.length=ksz b.k:=by rw [zE,hfo.size]
  have hzl:z.cells.toList.length=ksz b.k:=by rw [zE,z2.size]
  have hzc:∀ m,m < ksz b.k->z.cells.toList[m]?=if j<=m/\m < j+(ev e v).cells.toList.length then (ev e v).cells.toList[m-j]? else (q0d vs)[i*ksz b.k+m]?:=λm hm=>by
   rw [z4,xA,zY];have e1:(o.cells.toList.take j).length=j:=by rw [yJ]; omega
   rw [e1]
   by_cases m1:m < j
   ·rw [if_pos m1,if_neg (by omega),zH,if_pos m1,hoc m hm]
   ·rw [if_neg m1,zY]
    by_cases m2:m-j < (ev e v).cells.toList.length
    ·rw [if_pos m2,if_pos (by omega)]
    ·rw [if_neg m2,if_neg (by omega),zO,<- hoc m hm]
     congr 1
     omega
  have hflat:cs'.toList.take (vs.length*ksz b.k)=q0d (vs.set i z):=by
   rw [qk7 hcs z2.size hil];have hfv:∀ m,m < vs.length*ksz b.k->(q0d vs)[m]?=cs[m]?:=λm hm=>by
    rw [<- v1,hvl.symm,zH,if_pos hm,zI]
   apply yH
   intro m;have e2:(i+1)*ksz b.k=i*ksz b.k+ksz b.k:=yB _ _;have e3:((q0d vs).take (i*ksz b.k)).length=i*ksz b.k:=by rw [yJ,hfl]; omega
   rw [zH,zI,q3 m,xA,zY,e3,e2]
   by_cases m0:m < i*ksz b.k
   ·rw [if_pos (by omega),if_neg (by omega),if_pos m0,zH,if_pos m0,hfv m (by omega)]
   ·rw [if_neg m0,zY,hzl]
    by_cases m1:m-i*ksz b.k < ksz b.k
    ·rw [if_pos m1,hzc _ m1,if_pos (by omega)]
     by_cases m2:i*ksz b.k+j<=m/\m < i*ksz b.k+j+(ev e v).cells.toList.length
     ·rw [if_pos m2,if_pos (by omega)]
      congr 1
      omega
     ·rw [if_neg m2,if_neg (by omega),show i*ksz b.k+(m-i*ksz b.k)=m by omega,hfv m (by omega)]
    ·rw [if_neg m1,zO,show i*ksz b.k+ksz b.k+(m-i*ksz b.k-ksz b.k)=m by omega]
     by_cases m2:m < vs.length*ksz b.k
     ·rw [if_pos m2,if_neg (by omega),hfv m m2]
     ·rw [if_neg m2,zW (by omega)]
  have hnl:∀ x ∈ cs'.toList,q5S x=true:=λx hx=>by
   obtain ⟨m,hm⟩:=xO hx;rw [zI,q3 m] at hm
   split at hm
   ·exact (hfy.one x (zG hm)).2
   ·exact c2 x (y0.2 (Array.mem_of_getElem? hm))
  obtain ⟨S1,_,_⟩:=S.write (b':={ b with xs:=b.xs.set i u' }) hi g2 hst hkp c1 q2 q1 hnl rfl rfl hst (by simp) (vs:=vs.set i z) (by simp only [List.length_set]; rw [<- hvl]; exact hflat) (v2.set z1 i) (λx hx=>by
   rcases yL hx with hx | hx
   ·exact v3 x hx
   ·rw [hx]; exact z2)
  exact S1
end
section
variable {w w':World} {w0:Base} {D D0:Nat->Prop} {ρ:Nat->Option Nat} {h:Hp} {s:Nat->PV} {e:Env} {P:Program}
def Sat.stale [NL] (S:Sat D0 w0 s h ρ e w) {id:Nat} {b:Bk} (hi:h id=some b):Sat D0 w0 s (q0R h id { b with st:=true }) ρ e w:=by
 have hc:Cpt w w ρ h ρ (q0R h id { b with st:=true }):=λi c hc=>⟨rfl,by
  by_cases he:i=id
  ·subst he; rw [hi] at hc; cases hc;exact ⟨_,q0K,rfl,zU _⟩
  ·exact ⟨c,by rw [q0C he]; exact hc,rfl,zU _⟩,λg m _ hb=>hb⟩
 have hdd:∀ k,dm D0 ρ h k->dm D0 ρ (q0R h id { b with st:=true }) k:=λk hq=>⟨hq.1,λi c hc=>by
  by_cases he:i=id
  ·subst he; exact hq.2 i b hi
  ·rw [q0C he] at hc; exact hq.2 i c hc⟩
 have hk:Kp (dm D0 ρ h) w w:=Kp.refl _ _;refine ⟨λi j c c' g' ci cj hs ri rj=>?_,λi c g' ci ri=>?_,λi c ci ri=>?_,λt=>Rd.mv hk (λk _=>hdd k) _ _ _ _ _ _ hc (S.rd t),S.ext,S.fr,S.imp,S.pin⟩
 ·by_cases ej:j=id
  ·subst ej; rw [q0K] at cj; cases cj; cases hs
  ·rw [q0C ej] at cj
   by_cases ei:i=id
   ·subst ei; rw [q0K] at ci; cases ci; exact .inr rfl
   ·rw [q0C ei] at ci;exact S.inj i j c c' g' ci cj hs ri rj
 ·by_cases ei:i=id
  ·subst ei;rw [q0K] at ci; cases ci;obtain ⟨a1,c1,c2,c3,_⟩:=S.own i b g' hi ri;exact ⟨a1,c1,c2,c3,λhf=>by cases hf⟩
  ·rw [q0C ei] at ci;obtain ⟨a1,a2⟩:=S.own i c g' ci ri;exact ⟨a1,a2.mv rfl hk (λk _=>hdd k) hc⟩
 ·by_cases ei:i=id
  ·subst ei; rw [q0K] at ci; cases ci; exact S.vir i b hi ri
  ·rw [q0C ei] at ci; exact S.vir i c ci ri
def Sat.dup [NL] (S:Sat D0 w0 s h ρ e w) {id d:Nat} {b:Bk} (hi:h id=some b) (hst:b.st=false) (hd:h d=none) (hd5:d < 5000) :
  Sat D0 w0 s (q0R (q0R h id { b with st:=true }) d b) (upo ρ d (ρ id)) e w/\(∀ k,dm D0 ρ h k->dm D0 (upo ρ d (ρ id)) (q0R (q0R h id { b with st:=true }) d b) k)/\Cpt w w ρ h (upo ρ d (ρ id)) (q0R (q0R h id { b with st:=true }) d b):=by
 have hne:id≠d:=λe=>by subst e; rw [hd] at hi; cases hi
 have S1:=S.stale hi;have hold:∀ i c,q0R h id { b with st:=true } i=some c->i≠d:=λi c hc e=>by
  subst e;rw [q0C (λe=>hne e.symm),hd] at hc; cases hc
 have hget:∀ i c,q0R (q0R h id { b with st:=true }) d b i=some c->(i=d/\c=b)\/(i≠d/\q0R h id { b with st:=true } i=some c):=λi c hc=>by
  by_cases he:i=d
  ·subst he; rw [q0K] at hc; cases hc; exact .inl ⟨rfl,rfl⟩
  ·rw [q0C he] at hc; exact .inr ⟨he,hc⟩
 have hc:Cpt w w ρ h (upo ρ d (ρ id)) (q0R (q0R h id { b with st:=true }) d b):=λi c hc=>by
  have hid:i≠d:=λe=>by subst e; rw [hd] at hc; cases hc
  refine ⟨q1D hid,?_,λg m _ hb=>hb⟩;rw [q0C hid]
  by_cases he:i=id
  ·subst he; rw [hi] at hc; cases hc;exact ⟨_,q0K,rfl,zU _⟩
  ·exact ⟨c,by rw [q0C he]; exact hc,rfl,zU _⟩
 have hdd:∀ k,dm D0 ρ h k->dm D0 (upo ρ d (ρ id)) (q0R (q0R h id { b with st:=true }) d b) k:=λk hq=>⟨hq.1,λi c hc=>by
  rcases hget i c hc with ⟨rfl,rfl⟩ | ⟨h1,h2⟩
  ·rw [q1Z]; exact hq.2 id c hi
  ·rw [q1D h1]
   by_cases he:i=id
   ·subst he; exact hq.2 i b hi
   ·rw [q0C he] at h2; exact hq.2 i c h2⟩
 have hk:Kp (dm D0 ρ h) w w:=Kp.refl _ _;refine ⟨⟨λi j c c' g' ci cj hs ri rj=>?_,λi c g' ci ri=>?_,λi c ci ri=>?_,λt=>Rd.mv hk (λk _=>hdd k) _ _ _ _ _ _ hc (S.rd t),S.ext,S.fr,S.imp,S.pino hd5⟩,hdd,hc⟩
 ·rcases hget i c ci with ⟨rfl,rfl⟩ | ⟨i1,i2⟩ <;> rcases hget j c' cj with ⟨rfl,rfl⟩ | ⟨j1,j2⟩
  ·exact .inl rfl
  ·rw [q1Z] at ri; rw [q1D j1] at rj
   by_cases ej:j=id
   ·subst ej; rw [q0K] at j2; cases j2; cases hs
   ·rw [q0C ej] at j2
    rcases S.inj j id c' c g' j2 hi hst rj ri with h | h
    ·exact absurd h ej
    ·rw [hs] at h; cases h
  ·rw [q1Z] at rj; rw [q1D i1] at ri
   by_cases ei:i=id
   ·subst ei; rw [q0K] at i2; cases i2; exact .inr rfl
   ·rw [q0C ei] at i2
    rcases S.inj i id c c' g' i2 hi hst ri rj with h | h
    ·exact absurd h ei
    ·exact .inr h
  ·rw [q1D i1] at ri; rw [q1D j1] at rj;exact S1.inj i j c c' g' i2 j2 hs ri rj
 ·rcases hget i c ci with ⟨rfl,rfl⟩ | ⟨i1,i2⟩
  ·rw [q1Z] at ri;obtain ⟨a1,a2⟩:=S.own id c g' hi ri;exact ⟨a1,a2.mv rfl hk (λk _=>hdd k) hc⟩
  ·rw [q1D i1] at ri
   by_cases ei:i=id
   ·subst ei;rw [q0K] at i2; cases i2;obtain ⟨a1,c1,c2,c3,_⟩:=S.own i b g' hi ri;exact ⟨a1,c1,c2,c3,λhf=>by cases hf⟩
   ·rw [q0C ei] at i2;obtain ⟨a1,a2⟩:=S.own i c g' i2 ri;exact ⟨a1,a2.mv rfl hk (λk _=>hdd k) hc⟩
 ·rcases hget i c ci with ⟨rfl,rfl⟩ | ⟨i1,i2⟩
  ·rw [q1Z] at ri; exact S.vir id c hi ri
  ·rw [q1D i1] at ri
   by_cases ei:i=id
   ·subst ei; rw [q0K] at i2; cases i2; exact S.vir i b hi ri
   ·rw [q0C ei] at i2; exact S.vir i c i2 ri
def q6W {i d:Nat} {b c:Bk} (hne:i≠d):q0R (q0R h d b) i c=q0R (q0R h i c) d b:=by
 funext j
 unfold q0R
 by_cases h1:j=i
 ·subst h1; rw [if_pos rfl,if_neg hne,if_pos rfl]
 ·by_cases h2:j=d
  ·subst h2; simp [h1]
  ·simp [h1,h2]
def qgS {d:Nat} {b c:Bk}:q0R (q0R h d b) d c=q0R h d c:=by
 funext j
 unfold q0R
 by_cases h1:j=d <;> simp [h1]
def q6a {T ty E:Nat} {i:TypeInfo} (hu:P.underlying T=some (.slice E)) (hi:P.info? E=some i) {A A2:Option Addr} {n c c2:Nat} (hcap:n<=c):(Builtin.append_ #[T,T] ty #[.slice A n c,.slice A2 0 c2]).run P w=.ok (.slice A n c) w:=by
 cases A2 with
 | none=>cases A <;> simp [Builtin.append_,run_underlying hu,Go.sizeOf,typeInfo,hi,Builtin.lenOf,Builtin.firstCells,hcap,storeCells]
 | some ad=>cases A <;> simp [Builtin.append_,run_underlying hu,Go.sizeOf,typeInfo,hi,Builtin.lenOf,Builtin.firstCells,loadCells,loadCellsFrom,hcap,storeCells]
def qdc {T E sz bytes:Nat} {z:Array Value} (he:q06 P T=some (E,sz,bytes,z)):∃ (i:TypeInfo) (zv:Value),P.underlying T=some (.slice E)/\P.info? E=some i/\i.zero=some zv/\i.size=sz/\i.bytes=bytes/\zv.cells=z:=by
 unfold q06 at he
 split at he
 case h_2=>cases he
 rename_i e hu;obtain ⟨i,hi,hx⟩:=zB.1 he;obtain ⟨zv,hz,hx⟩:=zA.1 hx;simp only [Prod.mk.injEq] at hx;obtain ⟨rfl,rfl,rfl,rfl⟩:=hx;exact ⟨i,zv,hu,hi,hz,rfl,rfl,rfl⟩
def qnl [NL] {z:Array Value} {n:Nat} (hz:∀ u ∈ z.toList,u.oneCell'=true/\q5S u=true):∀ u ∈ (Builtin.zeroCells z n).toList,q5S u=true:=λu hu=>by
 unfold Builtin.zeroCells at hu;rw [xD] at hu;obtain ⟨i,hi,rfl⟩:=y4.1 hu;simp at hi;have hp:0 < z.size:=by
  rcases y5 z.size with h | h
  ·rw [h] at hi; omega
  ·exact h
 have hm:=Nat.mod_lt i hp;have:z[i % z.size]! = z[i % z.size]:=by simp [hm]
 rw [this];exact (hz _ (by simp)).2
def Sat.append [NL] (S:Sat D0 w0 s h ρ e w) {d T ty E bytes:Nat} {k:Kd} {sx xx:Operand} {xs ys:List PV} {i0:Option Nat} {ids:List Nat} (hd:h d=none) (hd5:d < 5000) (hk:elK P T=some (E,k,bytes)) (hs:apS h E k (pe s sx)=some (xs,i0)) (hx:apX h k (pe s xx)=some (ys,ids)) (hlen:(xs.length+ys.length)*(bytes+1)<=140737488355328) :
  ∃ v w',(Builtin.append_ #[T,T] ty #[ev e sx,ev e xx]).run P w=.ok v w'/\∃ ρ',Sat D0 w0 (pu s d (.ow d k 0 (xs.length+ys.length))) (q0R (stl h i0) d ⟨E,k,xs ++ ys,false⟩) ρ' (upd e d v) w':=by
 obtain ⟨z,he,hsz,hzs,_,hz1⟩:=qcY hk;obtain ⟨i,zv,hu,hi,hz,hsi,hby,hzc⟩:=qdc he;have hmb:xs.length+ys.length<=maxLen:=by
  have:xs.length+ys.length<=(xs.length+ys.length)*(bytes+1):=xE _ Oq;simp only [maxLen]; omega
 have hbb:(xs.length+ys.length)*bytes<=140737488355328:=xH (Nat.mul_le_mul_left _ Oq) hlen;have hmb':xs.length+ys.length<=9223372036854775807:=by simp only [maxLen] at hmb; omega
 have hD1:=Kp.refl (λ_=>True) w;have hX:∃ A2 c2 us,ev e xx=.slice A2 ys.length c2/\Row w (λ_=>True) (ksz k) A2 ys.length c2 (q0d us)/\RdL w (dm D0 ρ h) ys ρ h us/\∀ v ∈ us,q2i k v:=by
  have hr:=S.pex xx;unfold apX at hx
  split at hx
  ·rename_i hxx;cases hx;rw [hxx] at hr;unfold Rd at hr;exact ⟨none,0,[],hr,Row.nil _ _ _,by unfold RdL; rfl,λv hv=>by cases hv⟩
  ·rename_i k' l hxx
   split at hx
   ·rename_i hkk;cases hx;rw [hxx,hkk] at hr;unfold Rd at hr;obtain ⟨A,n,c,vs,q1,q2,q3,q4,q5⟩:=hr;rw [<- q3] at q1 q2;exact ⟨A,c,vs,q1,q2.sub λ_ _ _=>trivial,q4.cl,q5⟩
   ·cases hx
  ·rename_i id k' off n hxx;obtain ⟨b,hb,hx⟩:=zB.1 hx
   split at hx
   ·rename_i hc;obtain ⟨c1,c2,c3⟩:=hc;cases hx;subst c3;subst c2;rw [hxx] at hr;obtain ⟨A,c,vs,q1,q2,q3,q4⟩:=S.row hb c1 hr;have hn:((b.xs.drop off).take n).length=n:=by
     unfold Rd at hr;obtain ⟨b',_,_,r1,_,_,_,_,r5,_⟩:=hr;rw [hb] at r1; cases r1;simp; omega
    rw [hn];exact ⟨A,c,vs,q1,q2.sub λ_ _ _=>trivial,q3,q4⟩
   ·cases hx
  ·cases hx
 obtain ⟨A2,c2,us,hxv,hrow,hus,hfu⟩:=hX;have hul:(q0d us).length=ys.length*ksz k:=hrow.len;have huone:∀ u ∈ q0d us,u.oneCell'=true/\q5S u=true:=λu hu=>by
  unfold q0d at hu;obtain ⟨v,hv,hu⟩:=yW.1 hu;exact (hfu v hv).one u hu
 rw [hxv];have fresh:∀ {xv:List Value} {c:Nat},RdL w (dm D0 ρ h) xs ρ h xv->(∀ v ∈ xv,q2i k v)->xs.length+ys.length<=c->c<=maxLen->∀ w',Ext w w'->Blk w' w.heap.size E ((q0d xv).toArray ++ (q0d us).toArray ++ Builtin.zeroCells z (c-(xs.length+ys.length))) ->
   ∃ ρ',Sat D0 w0 (pu s d (.ow d k 0 (xs.length+ys.length))) (q0R h d ⟨E,k,xs ++ ys,false⟩) ρ' (upd e d (.slice (some ⟨w.heap.size,0,none⟩) (xs.length+ys.length) c)) w':=λ{xv c} hxv hfx h1 h2 w' hx hb=>by
  have hcs:∀ v ∈ xv,v.cells.size=ksz k:=λv hv=>(hfx v hv).size;have hxl:(q0d xv).length=xs.length*ksz k:=by rw [q0t hcs,hxv.len]
  refine S.newS (b:=⟨E,k,xs ++ ys,false⟩) (n:=xs.length+ys.length) hd hd5 hx hb (λu hu=>?_) rfl (by simp) h1 h2 ?_ (vs:=xv ++ us) ?_ (hxv.app hus) (λv hv=>by
   rcases zV.1 hv with hv | hv
   ·exact hfx v hv
   ·exact hfu v hv)
  ·simp only [Array.toList_append,zV] at hu
   rcases hu with (hu | hu) | hu
   ·have hu:u ∈ q0d xv:=hu;unfold q0d at hu;obtain ⟨v,hv,hu⟩:=yW.1 hu;exact ((hfx v hv).one u hu).2
   ·exact (huone u (by simpa using hu)).2
   ·exact qnl hz1 u hu
  ·simp only [Array.size_append,xB,hxl,hul,size_zeroCells,hzs,<- yI]
   congr 1
   omega
  ·have:((q0d xv).toArray ++ (q0d us).toArray ++ Builtin.zeroCells z (c-(xs.length+ys.length))).toList=q0d (xv ++ us) ++ (Builtin.zeroCells z (c-(xs.length+ys.length))).toList:=by simp [q4O]
   rw [this];have hl:(xs.length+ys.length)*ksz k=(q0d (xv ++ us)).length:=by rw [q4O,z6,hxl,hul,yI]
   rw [hl];exact List.take_left
 have hgc:∀ old,old < xs.length+ys.length->xs.length+ys.length<=grownCap w (xs.length+ys.length) old E/\grownCap w (xs.length+ys.length) old E<=maxLen:=λold ho=>⟨grownCap_ge w _ old E,grownCap_le_maxLen w _ old E hmb⟩;have hdrew:∀ (cs:Array Value),Ext w (w.drew.alloc (.cells cs E)):=λcs=>(Kp.drew w _).trans (Kp.alloc _ _);have nilc:xs=[]->∃ v w',(Builtin.append_ #[T,T] ty #[.slice none 0 0,.slice A2 ys.length c2]).run P w=.ok v w'/\∃ ρ',Sat D0 w0 (pu s d (.ow d k 0 (xs.length+ys.length))) (q0R h d ⟨E,k,xs ++ ys,false⟩) ρ' (upd e d v) w':=λh0=>by
  subst h0;simp only [yF,zX,xJ] at fresh hgc ⊢
  by_cases hm:ys.length=0
  ·rw [hm];refine ⟨_,_,q6a hu hi (zU _),?_⟩;have hy:ys=[]:=zS hm;subst hy;obtain ⟨S1,_,_⟩:=S.virt (b:=⟨E,k,[],false⟩) hd hd5 rfl;exact ⟨_,S1.put d (by unfold Rd; exact ⟨_,none,0,q0K,rfl,rfl,zU _,by simp [maxLen],zU _,.inl rfl,λ_=>.inl ⟨rfl,rfl⟩⟩)⟩
  ·obtain ⟨ad,rfl,_,hc⟩:=hrow.at_ (by rw [hul]; exact y9 (by omega) hsz);have hr:=run_append_nil (P:=P) w T ty E i zv hu hi hz ad ys.length c2 (q0d us) (by rw [hsi]; exact hul) hc (by omega) (by simp only [yF,zX] at hmb'; omega) (by rw [hby]; simp only [yF,zX] at hbb; omega);refine ⟨_,_,hr,?_⟩;have hg:=hgc 0 Oq;have:=fresh (xv:=[]) (c:=grownCap w ys.length 0 E) (by unfold RdL; rfl) (λv hv=>by cases hv) hg.1 hg.2 (w.drew.alloc (.cells ((q0d us).toArray ++ Builtin.zeroCells z (grownCap w ys.length 0 E-ys.length)) E)) (hdrew _) (by
    have:=Blk.new w.drew E ((q0d us).toArray ++ Builtin.zeroCells z (grownCap w ys.length 0 E-ys.length));simpa [q0d] using this)
   rw [hzc];exact this
 have hr:=S.pex sx;unfold apS at hs
 split at hs
 ·rename_i hsx;cases hs;rw [hsx] at hr;unfold Rd at hr;rw [hr];exact nilc rfl
 ·rename_i id k' off n hsx;obtain ⟨b,hb,hs⟩:=zB.1 hs
  split at hs
  ·rename_i hc;obtain ⟨c1,c2',c3,c4,c5,c6⟩:=hc;cases hs;subst c5;subst c6;rw [hsx,c4] at hr;unfold Rd at hr;obtain ⟨b',A,c,r1,_,r3,r4,r5,_,_,r7⟩:=hr;rw [hb] at r1;cases r1;have hne:id≠d:=λe=>by subst e; rw [hd] at hb; cases hb
   have hbe:b=⟨E,k,b.xs,false⟩:=by cases b; simp_all
   have hstl:stl h (some id)=q0R h id { b with st:=true }:=by simp only [stl,hb]
   rw [r3,hstl]
   rcases r7 rfl with ⟨rfl,rfl⟩ | ⟨g,g1,rfl,hbz⟩
   ·have h0:b.xs.length=0:=by omega
    obtain ⟨v,w',q1,ρ',q2⟩:=nilc (zS h0);rw [h0];refine ⟨v,w',q1,ρ',?_⟩;have:=q2.stale (id:=id) (b:=b) (by rw [q0C hne]; exact hb);rw [q6W hne] at this;rw [h0] at this;exact this
   ·obtain ⟨_,cs,k1,k2,k3⟩:=S.own id b g hb g1;obtain ⟨xv,x1,x2,x3⟩:=k3 c1;rw [c3] at x1 x3;rw [c2'] at k1;have hcs:∀ v ∈ xv,v.cells.size=ksz k:=λv hv=>(x3 v hv).size;have hxl:(q0d xv).length=b.xs.length*ksz k:=by rw [q0t hcs,x2.len]
    have hcsz:cs.size=c*ksz k:=by
     obtain ⟨cs',T',q1,q2⟩:=hbz;have h5:=k1.symm.trans q1
     injection h5 with h5
     injection h5 with h5 h6
     subst h5;rw [zX] at q2;exact q2
    by_cases hm:ys.length=0
    ·have hy:ys=[]:=zS hm;subst hy;refine ⟨_,_,q6a hu hi r4,?_⟩;obtain ⟨S1,_,_⟩:=S.dup hb c1 hd hd5;rw [xK,yF,yT];rw [<- hbe];refine ⟨_,S1.put d ?_⟩;unfold Rd;have hat:AtO w (upo ρ d (ρ id) d) (some ⟨g,0*ksz k,none⟩) (0*ksz k) ((0+c)*ksz k):=⟨g,by rw [q1Z]; exact g1,rfl,hbz⟩;exact ⟨b,_,c,q0K,c3,rfl,r4,r5,by omega,.inr hat,λ_=>.inr hat⟩
    ·obtain ⟨ad,rfl,_,hc⟩:=hrow.at_ (by rw [hul]; exact y9 (by omega) hsz);rw [xI]
     by_cases hroom:b.xs.length+ys.length<=c
     ·have hfit:b.xs.length*i.size+(q0d us).length<=cs.size:=by rw [hul,hcsz,hsi,<- yI]; exact yZ _ hroom
      have hrun:=run_append_room (P:=P) w T ty E i hu hi g b.xs.length c cs k1 ad ys.length c2 (q0d us) (by rw [hsi]; exact hul) hc (λu hu=>(huone u hu).1) hroom hfit;refine ⟨_,_,hrun,?_⟩;rw [hsi];obtain ⟨S1,hd1,hc1⟩:=S.dup hb c1 hd hd5;have hx1:cs.toList.take (b.xs.length*ksz k)=q0d xv:=x1;have hrow2:Blk (w.setRow g (cs.toList.take (b.xs.length*ksz k) ++ q0d us ++ cs.toList.drop (b.xs.length*ksz k+(q0d us).length)).toArray) g E (cs.toList.take (b.xs.length*ksz k) ++ q0d us ++ cs.toList.drop (b.xs.length*ksz k+(q0d us).length)).toArray:=setRow_heap w g cs _ E _ k1;have hkp:Kp (λk=>k≠g) w (w.setRow g (cs.toList.take (b.xs.length*ksz k) ++ q0d us ++ cs.toList.drop (b.xs.length*ksz k+(q0d us).length)).toArray):=⟨rfl,rfl,rfl,by simp,λk _ hk=>setRow_other w g k _ hk⟩;have hle:b.xs.length*ksz k<=cs.size:=by rw [hcsz]; exact yZ _ (by omega)
      have hsz2:(cs.toList.take (b.xs.length*ksz k) ++ q0d us ++ cs.toList.drop (b.xs.length*ksz k+(q0d us).length)).toArray.size=cs.size:=by
       rw [hsi] at hfit;simp only [xB,z6,yJ,List.length_drop,zE];omega
      obtain ⟨S2,_,_⟩:=S1.write (id:=d) (b:=b) (b':=⟨E,k,b.xs ++ ys,false⟩) q0K (by rw [q1Z]; exact g1) c1 hkp (by rw [c2']; exact k1) hsz2 (by rw [c2']; exact hrow2) (λu hu=>by
        simp only [zV] at hu
        rcases hu with (hu | hu) | hu
        ·exact k2 u (zN hu)
        ·exact (huone u hu).2
        ·exact k2 u (zM hu)) c2'.symm c3.symm rfl (by simp) (vs:=xv ++ us) (by
        rw [c3,hx1,q4O];have hl:(b.xs ++ ys).length*ksz k=(q0d xv ++ q0d us).length:=by rw [z6,z6,hxl,hul,yI]
        rw [hl];exact List.take_left) ((RdL.mv (Kp.refl _ _) (λk _=>hd1 k) _ _ _ _ _ _ hc1 x2).app (RdL.mv (Kp.refl _ _) (λk _=>hd1 k) _ _ _ _ _ _ hc1 hus)) (λv hv=>by
        rw [c3]
        rcases zV.1 hv with hv | hv
        ·exact x3 v hv
        ·exact hfu v hv)
      rw [qgS] at S2;refine ⟨_,S2.put d ?_⟩;unfold Rd;have hat:AtO (w.setRow g (cs.toList.take (b.xs.length*ksz k) ++ q0d us ++ cs.toList.drop (b.xs.length*ksz k+(q0d us).length)).toArray) (upo ρ d (ρ id) d) (some ⟨g,0,none⟩) (0*ksz k) ((0+c)*ksz k):=⟨g,by rw [q1Z]; exact g1,by rw [xI],_,E,hrow2,by rw [hsz2,zX]; exact hcsz⟩;exact ⟨_,_,c,q0K,rfl,rfl,hroom,r5,by simp,.inr hat,λ_=>.inr hat⟩
     ·have holds:∀ j u,(q0d xv)[j]?=some u->w.cell? ((⟨g,0,none⟩:Addr).add j)=some u:=λj u hu=>by
       rw [q1M,zX,k1.cell];rw [<- x1,zH] at hu
       split at hu
       ·rw [<- zI]; exact hu
       ·cases hu
      have hrun:=run_append_grow (P:=P) w T ty E i zv hu hi hz ⟨g,0,none⟩ b.xs.length c (q0d xv) (by rw [hsi]; exact hxl) holds ad ys.length c2 (q0d us) (by rw [hsi]; exact hul) hc (by omega) (by omega) (growslice_fits (by omega) (by rw [hby]; exact hbb));refine ⟨_,_,hrun,?_⟩;have hg:=hgc c Oq;rw [hzc];obtain ⟨ρ',q⟩:=fresh (xv:=xv) (c:=grownCap w (b.xs.length+ys.length) c E) x2 x3 hg.1 hg.2 (w.drew.alloc (.cells ((q0d xv).toArray ++ (q0d us).toArray ++ Builtin.zeroCells z (grownCap w (b.xs.length+ys.length) c E-(b.xs.length+ys.length))) E)) (hdrew _) (Blk.new w.drew E _);refine ⟨ρ',?_⟩;have:=q.stale (id:=id) (b:=b) (by rw [q0C hne]; exact hb);rw [q6W hne] at this;exact this
  ·cases hs
 ·cases hs
end
abbrev FP:=List Nat × List Nat
def FnP [NL] (x:PV) (f:FuncId) (ys:List PV):Prop:=∀ w D ρ h v,Rd w D x ρ h v->∃ cap,v=.func (.func f) #[] ⟨cap⟩/\RdL w D ys ρ h cap
def Stp [NL] (P:Program) (Tb:World->Prop) (o:Oper) (s:Nat->PV) (h:Hp) (x:PV) (h':Hp) (fp:FP):Prop :=
 match o.op with
 | .load t a=>∃ r,ldP h (q0c P t) (pe s a)=some r/\x=r.1/\fp=(r.2,[])/\h'=h
 | .alloc t=>∃ d b,o.dst=some d/\(h d=none/\d < 5000)/\alB P t=some b/\x=.pt d 0 0/\h'=q0R h d b/\fp=([],[d])
 | .box t v=>∃ d k,o.dst=some d/\(h d=none/\d < 5000)/\q0c P t=some k/\q8D k (pe s v)/\x=.pt d 0 0/\h'=q0R h d ⟨t,k,[pe s v],false⟩/\fp=([],[d])
 | .buildSlice t len ps=>∃ d E k bytes,o.dst=some d/\(h d=none/\d < 5000)/\elK P t=some (E,k,bytes)/\ps.toList.map (·.1)=List.range len/\len*ksz k<=16777216/\(∀ p ∈ ps.toList,q8D k (pe s p.2))/\x=.ow d k 0 len/\h'=q0R h d ⟨E,k,ps.toList.map λp=>pe s p.2,false⟩/\fp=([],[d])
 | .makeSlice t l c=>∃ d E k bytes z kl kc,∃ n m:Nat,o.dst=some d/\(h d=none/\d < 5000)/\elZ P t=some (E,k,bytes,z)/\pe s l=.vl (.int kl n)/\pe s c=.vl (.int kc m)/\n<=m/\bytes*m<=281474976710656/\m<=maxLen/\x=.ow d k 0 n/\h'=q0R h d ⟨E,k,List.replicate n z,false⟩/\fp=([],[d])
 | .store t a v=>∃ id i j b k u u',pe s a=.pt id i j/\h id=some b/\b.st=false/\q0c P t=some k/\q00 P t=some (ksz k)/\q8D k (pe s v)/\b.xs[i]?=some u/\stU b.k k j u (pe s v)=some u'/\x=.vl undef/\h'=q0R h id { b with xs:=b.xs.set i u' }/\fp=([id],[id])
 | .call c=>match c.callee with
  | .builtin .append=>∃ sx xx T d E k bytes xs ys i0 ids,c.args=#[sx,xx]/\c.argTypes=#[T,T]/\o.dst=some d/\(h d=none/\d < 5000)/\elK P T=some (E,k,bytes)/\apS h E k (pe s sx)=some (xs,i0)/\apX h k (pe s xx)=some (ys,ids)/\(xs.length+ys.length)*(bytes+1)<=140737488355328/\x=.ow d k 0 (xs.length+ys.length)/\h'=q0R (stl h i0) d ⟨E,k,xs ++ ys,false⟩/\fp=(ids,d :: i0.toList)
  | .value (.func f)=>∃ al ids,q21 h (c.args.toList.map (pe s))=some (al,ids)/\AC P Tb f al x/\(ids=[]\/Nz x)/\h'=h/\fp=(ids,[])
  | .value (.tmp t)=>∃ f ys al ids,FnP (s t) f ys/\q21 h (c.args.toList.map (pe s) ++ ys)=some (al,ids)/\AC P Tb f al x/\(ids=[]\/Nz x)/\h'=h/\fp=(ids,[])
  | _=>q5L P o.op (pe s)=some x/\h'=h/\fp=([],[])
 | op=>q5L P op (pe s)=some x/\h'=h/\fp=([],[])
def q2v (ops:List Oper) (s:Nat->PV) (j:Nat) (b:Bool):Option Bool:=match (ops[j]?).bind (·.dst) with | some d=>(match s d with | .vl (.bool c)=>some c | .vl (.tuple _)=>some (!b) | _=>none) | none=>none
def q84 [NL] (P:Program) (Tb:World->Prop) (ops:List Oper) (o:Oper) (s:Nat->PV) (h:Hp) (x:PV) (h':Hp) (fp:FP):Prop :=
 match o.guard with
 | none=>Stp P Tb o s h x h' fp
 | some (j,b)=>∃ c,q2v ops s j b=some c/\if c=b then Stp P Tb o s h x h' fp else x=.vl undef/\h'=h/\fp=([],[])
section
variable {w w':World} {w0:Base} {D D0:Nat->Prop} {ρ:Nat->Option Nat} {h h':Hp} {s:Nat->PV} {e:Env} {P:Program} {Tb:World->Prop} {x:PV} {fp:FP}
def qi7 {dst:Option Nat} {f t:Nat} {cap:List Value} {args:Array Operand} {tys:Array TypeId} {ty:TypeId} {pos:String} {af:Array Edge} {gd:Option (Nat × Bool)} {K:Value->World->Prop} (hv:e t=.func (.func f) #[] ⟨cap⟩)
  (h:q0I P f=true/\Calls P f (args.toList.map (ev e) ++ cap).toArray w λx w'=>match x with | .returned v=>K v w' | _=>False):wo P ⟨dst,.call ⟨.value (.tmp t),args,tys⟩,ty,pos,af,gd⟩ e w K:=by
 obtain ⟨hf,h⟩:=h;have ha:(args.toList.map (ev e) ++ cap).toArray=args.map (ev e) ++ (⟨cap⟩:Array Value):=by
  cases args;simp
 rw [ha] at h;have key:(callFunc f (args.map (ev e) ++ (⟨cap⟩:Array Value))).run P w=.ok (.enter f (args.map (ev e) ++ (⟨cap⟩:Array Value))) w:=by
  unfold q0I at hf;cases hfn:P.funcs[f]? with
  | none=>simp [hfn] at hf
  | some fn =>
   simp only [hfn,zT] at hf;obtain ⟨h1,h2⟩:=hf;obtain ⟨b,hb⟩:=Option.isSome_iff_exists.1 h1;simp only [Bool.not_eq_true',beq_eq_false_iff_ne,ne_eq] at h2;simp [callFunc,hfn,hb,h2]
 have key2:(execOp (ev e) ⟨dst,.call ⟨.value (.tmp t),args,tys⟩,ty,pos,af,gd⟩).run P w=.ok (.enter f (args.map (ev e) ++ (⟨cap⟩:Array Value))) w:=by
  have hv':ev e (.tmp t)=.func (.func f) #[] ⟨cap⟩:=hv;simp only [execOp,resolve,Deferred.ofValue,hv',pure_bind,invoke];simp [key]
 show RO P K _
 rw [key2];exact h
def qlu [NL] (S:Sat D0 w0 s h ρ e w) (hT:Tb w) (hF:Fr D0 w0.w) {o:Oper} (hs:Stp P Tb o s h x h' fp):wo P o e w λv w'=>∃ ρ',Sat D0 w0 (q3N s o.dst x) h' ρ' (E.put e o.dst v) w':=by
 obtain ⟨dst,op,ty,pos,af,gd⟩:=o;have pure:q5L P op (pe s)=some x/\h'=h/\fp=([],[])->wo P ⟨dst,op,ty,pos,af,gd⟩ e w λv w'=>∃ ρ',Sat D0 w0 (q3N s dst x) h' ρ' (E.put e dst v) w':=λ⟨h1,h2,_⟩=>by
  subst h2;exact qpC S (o:=⟨dst,op,ty,pos,af,gd⟩) h1 λv hv=>⟨ρ,S.puto dst hv⟩
 unfold Stp at hs;cases op <;> simp only at hs <;> try (exact pure hs)
 case load t a =>
  obtain ⟨r,h1,rfl,_,rfl⟩:=hs;obtain ⟨v,hv,hr⟩:=qfy S h1;simp only [wo];rw [hv];exact ⟨ρ,S.puto dst hr⟩
 case alloc t =>
  obtain ⟨d,b,rfl,h1,h2,rfl,rfl,_⟩:=hs;obtain ⟨z,hz,ρ',S'⟩:=qlU S h1.1 h1.2 h2;simp only [wo];rw [hz];exact ⟨ρ',S'⟩
 case box t v =>
  obtain ⟨d,k,rfl,h1,_,h2,rfl,rfl,_⟩:=hs;simp only [wo];exact S.newP (b:=⟨t,k,[pe s v],false⟩) h1.1 h1.2 rfl (S.pex v) (qab h2 (S.pex v))
 case buildSlice t len ps =>
  obtain ⟨d,E,k,bytes,rfl,h1,h2,h3,h4,h5,rfl,rfl,_⟩:=hs;obtain ⟨cs,hcs,ρ',S'⟩:=bs_ok S h1.1 h1.2 h2 h3 h4 h5;simp only [wo,xD];rw [hcs];exact ⟨ρ',S'⟩
 case makeSlice t l c =>
  obtain ⟨d,E,k,bytes,z,kl,kc,n,m,rfl,h1,h2,h3,h4,h7,h5,h6,rfl,rfl,_⟩:=hs;obtain ⟨z',hz,ρ',S'⟩:=mk_ok S h1.1 h1.2 h2 h7 h6;have hl:=S.pex l;have hc:=S.pex c;rw [h3] at hl;rw [h4] at hc;unfold Rd at hl hc;simp only [wo,hl,hc,hz,q2w];refine ⟨⟨by omega,by omega,?_,by simp only [maxLen] at h6; omega⟩,ρ',by simp only [xC]; exact S'⟩;have:((bytes*m:Nat):Int)<=281474976710656:=by omega
  rwa [Int.natCast_mul] at this
 case store t a v =>
  obtain ⟨id,i,j,b,k,u,u',h1,h2,h3,h4,h5,h6,h7,h8,rfl,rfl,_⟩:=hs;obtain ⟨p,hp,q1,q2,q3⟩:=S.store (K:=λw'=>∃ ρ',Sat D0 w0 (q3N s dst (.vl undef)) (q0R h id { b with xs:=b.xs.set i u' }) ρ' (E.put e dst undef) w') h1 h2 h3 h4 h5 h6 h7 h8 λw' S'=>⟨ρ,S'.puto dst (by unfold Rd; rfl)⟩;simp only [wo,hp];exact ⟨q1,q2,q3⟩
 case call c =>
  obtain ⟨callee,args,tys⟩:=c;simp only at hs
  split at hs
  ·obtain ⟨sx,xx,T,d,E,k,bytes,xs,ys,i0,ids,rfl,rfl,rfl,h1,h2,h3,h4,h5,rfl,rfl,_⟩:=hs;obtain ⟨v,w',hrun,ρ',S'⟩:=S.append (ty:=ty) h1.1 h1.2 h2 h3 h4 h5;rw [q5q];exact qr4 hrun ⟨ρ',S'⟩
  ·rename_i f;obtain ⟨al,ids,h1,h2,h3,rfl,_⟩:=hs;have:=S.call (K:=λv w'=>∃ ρ',Sat D0 w0 (q3N s dst x) h' ρ' (E.put e dst v) w') hT hF h1 h2 h3 λv w' S' hr=>⟨ρ,S'.puto dst hr⟩;have he:args.map (ev e)=(args.toList.map (ev e)).toArray:=by cases args; simp
   rw [<- he] at this;exact this
  ·rename_i t;obtain ⟨f,ys,al,ids,g0,h1,h2,h3,rfl,_⟩:=hs;obtain ⟨cap,hv,hr⟩:=g0 _ _ _ _ _ (S.rd t);exact qi7 hv (S.callv (K:=λv w'=>∃ ρ',Sat D0 w0 (q3N s dst x) h' ρ' (E.put e dst v) w') hT hF (RdL.app (q4w (f:=pe s) (g:=ev e) S.pex args.toList) hr) h1 h2 h3 λv w' S' hr=>⟨ρ,S'.puto dst hr⟩)
  ·exact pure hs
def qf3 [NL] (S:Sat D0 w0 s h ρ e w) {ops:List Oper} {j:Nat} {b c:Bool} (hy:q2v ops s j b=some c):(q3n ops.toArray e j == some b)=(c == b):=by
 unfold q2v at hy;unfold q3n;rw [z8]
 split at hy
 ·rename_i d hd;rw [hd];have:=S.rd d
  split at hy
  ·rename_i b hb;rw [hb] at this;unfold Rd at this;simp only [this];cases hy
   rfl
  ·rename_i tv hb;rw [hb] at this;unfold Rd at this;simp only [this];cases hy
   revert b
   intro b;cases b <;> rfl
  ·cases hy
 ·cases hy
def qa9 [NL] (S:Sat D0 w0 s h ρ e w) (hT:Tb w) (hF:Fr D0 w0.w) {ops:List Oper} {o:Oper} (hs:q84 P Tb ops o s h x h' fp):wg P ops.toArray o e w λv w'=>∃ ρ',Sat D0 w0 (q3N s o.dst x) h' ρ' (E.put e o.dst v) w':=by
 unfold q84 at hs;unfold wg q6i
 split at hs
 ·rename_i hg;rw [hg];exact qlu S hT hF hs
 ·rename_i j b hg;obtain ⟨c,hc,hs⟩:=hs;rw [hg];simp only [qf3 S hc]
  split at hs
  ·rename_i hcb;rw [if_pos (by simpa using hcb)];exact qlu S hT hF hs
  ·rename_i hcb;rw [if_neg (by simpa using hcb)];obtain ⟨rfl,rfl,_⟩:=hs;exact ⟨ρ,S.puto o.dst (by unfold Rd; rfl)⟩
def qf5 {o:Op} {f g:Operand->PV} (h:∀ x ∈ o.operands,f x=g x):q5L P o f=q5L P o g:=by
 cases o <;> simp only [q5L] <;> (try rfl) <;> simp only [Op.operands] at h
 case move x=>rw [h x (by simp)]
 case assign x=>rw [h x (by simp)]
 case pick c a b=>rw [h c (by simp),h a (by simp),h b (by simp)]
 case binOp op t x y _=>rw [h x (by simp),h y (by simp)]
 case unOp op t x=>rw [h x (by simp)]
 case convert a b x=>rw [h x (by simp)]
 case fieldAddr t x f=>rw [h x (by simp)]
 case extract x i=>rw [h x (by simp)]
 case nilCheck x=>rw [h x (by simp)]
 case indexAddr t x i=>rw [h x (by simp),h i (by simp)]
 case slice t x lo hi mx =>
  cases mx with
  | some _=>rfl
  | none =>
   simp only;have h1:lo.map f=lo.map g:=by cases lo with | none=>rfl | some l=>simp only [yO]; rw [h l (by simp)]
   have h2:hi.map f=hi.map g:=by cases hi with | none=>rfl | some l=>simp only [yO]; rw [h l (by simp)]
   rw [h1,h2,h x (by simp)]
 case build t ps =>
  have:(ps.toList.map λp=>(p.1,f p.2))=ps.toList.map λp=>(p.1,g p.2):=z0 λp hp=>by rw [h p.2 (by simp; exact ⟨p.1,by simpa using hp⟩)]
  rw [this]
 case makeFunc fn first cap =>
  rw [z0 λy hy=>h y (by simp; right; simpa using hy)]
 case call c =>
  obtain ⟨callee,args,tys⟩:=c;have ha:∀ y ∈ args.toList,f y=g y:=λy hy=>h y (by simp [Call.operands]; right; simpa using hy);simp only
  split
  ·split
   ·rename_i x t hx ht;rw [ha x (by rw [hx]; simp)]
   ·rfl
  ·rw [z0 ha]
  ·rw [z0 ha]
  ·rfl
def agr (h h2:Hp) (l:List Nat):Prop:=∀ i ∈ l,h2 i=h i
def qp4 {h2:Hp} {k:Option Kd} {p:PV} {r:PV × List Nat} (hl:ldP h k p=some r) (ha:agr h h2 r.2):ldP h2 k p=some r:=by
 unfold ldP at hl ⊢
 split at hl
 ·rename_i id i j;have:r.2=[id]:=by
   split at hl
   ·split at hl
    ·cases hl
    ·obtain ⟨y,_,rfl⟩:=zA.1 hl; rfl
   ·cases hl
  simp only [ha id (by rw [this]; simp)];exact hl
 ·exact hl
 ·cases hl
def qlB {h2:Hp} {y:PV} {r:PV × List Nat} (hl:qdl h y=some r) (ha:agr h h2 r.2):qdl h2 y=some r:=by
 unfold qdl at hl ⊢
 split at hl
 ·rename_i id k off n;have:r.2=[id]:=by
   obtain ⟨b,hb,hc⟩:=zB.1 hl
   split at hc
   ·cases hc; rfl
   ·cases hc
  simp only [ha id (by rw [this]; simp)];exact hl
 ·exact hl
def q9d {h2:Hp}:∀ {l:List PV} {r:List PV × List Nat},q1b h l=some r->agr h h2 r.2->q1b h2 l=some r
 | [],r,hl,_=>hl
 | y :: l,r,hl,ha=>by
  unfold q1b at hl ⊢;obtain ⟨a,h1,hc⟩:=zB.1 hl;obtain ⟨b,hb,rfl⟩:=zA.1 hc;rw [qlB h1 λi hi=>ha i (zR _ hi),zF,q9d hb λi hi=>ha i (zQ _ hi)]
  rfl
def qc9 {h2:Hp} {y:PV} {r:PV × List Nat} (hl:q3S h y=some r) (ha:agr h h2 r.2):q3S h2 y=some r:=by
 unfold q3S at hl ⊢
 split at hl
 ·rename_i id k off n;have hm:id ∈ r.2:=by
   obtain ⟨b,hb,hc⟩:=zB.1 hl
   split at hc
   ·cases hc; simp
   ·split at hc
    ·obtain ⟨r0,_,rfl⟩:=zA.1 hc; simp
    ·cases hc
  simp only [ha id hm];obtain ⟨b,hb,hc⟩:=zB.1 hl;rw [hb,zF]
  split at hc
  ·rename_i hh; rw [if_pos hh]; exact hc
  ·rename_i hh;rw [if_neg hh]
   split at hc
   ·rename_i hh2;obtain ⟨r0,hr0,rfl⟩:=zA.1 hc;rw [if_pos hh2,q9d hr0 λi hi=>ha i (zJ _ hi)]; rfl
   ·cases hc
 ·exact hl
def q9c {h2:Hp}:∀ {l:List PV} {r:List PV × List Nat},q3i h l=some r->agr h h2 r.2->q3i h2 l=some r
 | [],r,hl,_=>hl
 | y :: l,r,hl,ha=>by
  unfold q3i at hl ⊢;obtain ⟨a,h1,hc⟩:=zB.1 hl;obtain ⟨b,hb,rfl⟩:=zA.1 hc;rw [qc9 h1 λi hi=>ha i (zR _ hi),zF,q9c hb λi hi=>ha i (zQ _ hi)]
  rfl
def qqj {h2:Hp} {y:PV} {r:PV × List Nat} (hl:clo h y=some r) (ha:agr h h2 r.2):clo h2 y=some r:=by
 unfold clo at hl ⊢
 split at hl
 ·obtain ⟨b,hb,rfl⟩:=zA.1 hl;simp only [q9c hb ha,yO]
 ·exact qc9 hl ha
def q8O {h2:Hp}:∀ {l:List PV} {r:List PV × List Nat},q21 h l=some r->agr h h2 r.2->q21 h2 l=some r
 | [],r,hl,_=>hl
 | y :: l,r,hl,ha=>by
  unfold q21 at hl ⊢;obtain ⟨a,h1,hc⟩:=zB.1 hl;obtain ⟨b,hb,rfl⟩:=zA.1 hc;rw [qqj h1 λi hi=>ha i (zR _ hi),zF,q8O hb λi hi=>ha i (zQ _ hi)]
  rfl
def qr7 {h2:Hp} {E:TypeId} {k:Kd} {p:PV} {xs:List PV} {i0:Option Nat} (hl:apS h E k p=some (xs,i0)) (ha:agr h h2 i0.toList):apS h2 E k p=some (xs,i0):=by
 unfold apS at hl ⊢
 split at hl
 ·exact hl
 ·rename_i id k' off n;have:i0=some id:=by
   obtain ⟨b,hb,hc⟩:=zB.1 hl
   split at hc
   ·cases hc; rfl
   ·cases hc
  simp only [ha id (by rw [this]; simp)];exact hl
 ·cases hl
def qr6 {h2:Hp} {k:Kd} {p:PV} {r:List PV × List Nat} (hl:apX h k p=some r) (ha:agr h h2 r.2):apX h2 k p=some r:=by
 unfold apX at hl ⊢
 split at hl
 ·exact hl
 ·exact hl
 ·rename_i id k' off n;have:r.2=[id]:=by
   obtain ⟨b,hb,hc⟩:=zB.1 hl
   split at hc
   ·cases hc; rfl
   ·cases hc
  simp only [ha id (by rw [this]; simp)];exact hl
 ·cases hl
def Loc (h2 h' h3:Hp) (fp:FP):Prop:=(∀ i ∈ fp.2,h3 i=h' i)/\∀ i,i ∉ fp.2->h3 i=h2 i
def Loc.upd {h2:Hp} {d:Nat} {b:Bk} {l:List Nat}:Loc h2 (q0R h d b) (q0R h2 d b) (l,[d]):=⟨λi hi=>by
  have hi:i ∈ [d]:=hi;simp at hi; subst hi; rw [q0K,q0K],λi hi=>by
  have hi:i ∉ [d]:=hi;simp at hi; rw [q0C hi]⟩
def qen [NL] {o:Oper} {s2:Nat->PV} {h2:Hp} (hs:Stp P Tb o s h x h' fp) (he:∀ y ∈ o.op.operands,pe s2 y=pe s y) (ha:agr h h2 (fp.1 ++ fp.2)):∃ h3,Stp P Tb o s2 h2 x h3 fp/\Loc h2 h' h3 fp:=by
 obtain ⟨dst,op,ty,pos,af,gd⟩:=o;have ha1:agr h h2 fp.1:=λi hi=>ha i (zR _ hi);have ha2:agr h h2 fp.2:=λi hi=>ha i (zQ _ hi);simp only at he;have pure:q5L P op (pe s)=some x/\h'=h/\fp=([],[])->q5L P op (pe s2)=some x/\Loc h2 h' h2 fp:=λ⟨h1,h2,h3⟩=>by
  subst h3;exact ⟨by rw [qf5 he]; exact h1,λi hi=>(by cases hi),λi _=>rfl⟩
 unfold Stp at hs ⊢;cases op <;> simp only at hs ⊢ <;> (try (exact ⟨h2,⟨(pure hs).1,rfl,hs.2.2⟩,(pure hs).2⟩)) <;> simp only [Op.operands] at he
 case load t a =>
  obtain ⟨r,h1,rfl,rfl,rfl⟩:=hs;exact ⟨h2,⟨r,by rw [he a (by simp)]; exact qp4 h1 ha1,rfl,rfl,rfl⟩,λi hi=>(by cases hi),λi _=>rfl⟩
 case alloc t =>
  obtain ⟨d,b,rfl,h1,h3,rfl,rfl,rfl⟩:=hs;exact ⟨_,⟨d,b,rfl,⟨by rw [ha2 d (by simp)]; exact h1.1,h1.2⟩,h3,rfl,rfl,rfl⟩,Loc.upd⟩
 case box t v =>
  obtain ⟨d,k,rfl,h1,h3,h4,rfl,rfl,rfl⟩:=hs;rw [<- he v (by simp)] at h4 ⊢;exact ⟨_,⟨d,k,rfl,⟨by rw [ha2 d (by simp)]; exact h1.1,h1.2⟩,h3,h4,rfl,rfl,rfl⟩,Loc.upd⟩
 case buildSlice t len ps =>
  obtain ⟨d,E,k,bytes,rfl,h1,h3,h4,h5,h6,rfl,rfl,rfl⟩:=hs;have hp:∀ p ∈ ps.toList,pe s2 p.2=pe s p.2:=λp hp=>he p.2 (by simp; exact ⟨p.1,by simpa using hp⟩);rw [<- z0 hp];exact ⟨_,⟨d,E,k,bytes,rfl,⟨by rw [ha2 d (by simp)]; exact h1.1,h1.2⟩,h3,h4,h5,λp hpp=>by rw [hp p hpp]; exact h6 p hpp,rfl,rfl,rfl⟩,Loc.upd⟩
 case makeSlice t l c =>
  obtain ⟨d,E,k,bytes,z,kl,kc,n,m,rfl,h1,h3,h4,h5,h8,h6,h7,rfl,rfl,rfl⟩:=hs;exact ⟨_,⟨d,E,k,bytes,z,kl,kc,n,m,rfl,⟨by rw [ha2 d (by simp)]; exact h1.1,h1.2⟩,h3,by rw [he l (by simp)]; exact h4,by rw [he c (by simp)]; exact h5,h8,h6,h7,rfl,rfl,rfl⟩,Loc.upd⟩
 case store t a v =>
  obtain ⟨id,i,j,b,k,u,u',h1,h3,h4,h5,h6,h7,h8,h9,rfl,rfl,rfl⟩:=hs;exact ⟨_,⟨id,i,j,b,k,u,u',by rw [he a (by simp)]; exact h1,by rw [ha1 id (by simp)]; exact h3,h4,h5,h6,by rw [he v (by simp)]; exact h7,h8,by rw [he v (by simp)]; exact h9,rfl,rfl,rfl⟩,Loc.upd⟩
 case call c =>
  obtain ⟨callee,args,tys⟩:=c;have hg:∀ y ∈ args.toList,pe s2 y=pe s y:=λy hy=>he y (by simp [Call.operands]; right; simpa using hy);simp only at hs ⊢
  split at hs
  ·obtain ⟨sx,xx,T,d,E,k,bytes,xs,ys,i0,ids,rfl,rfl,rfl,h1,h3,h4,h5,h6,rfl,rfl,rfl⟩:=hs;refine ⟨q0R (stl h2 i0) d ⟨E,k,xs ++ ys,false⟩,⟨sx,xx,T,d,E,k,bytes,xs,ys,i0,ids,rfl,rfl,rfl,⟨by rw [ha2 d (by simp)]; exact h1.1,h1.2⟩,h3,by rw [hg sx (by simp)]; exact qr7 h4 λi hi=>ha2 i (zJ _ hi),by rw [hg xx (by simp)]; exact qr6 h5 ha1,h6,rfl,rfl,rfl⟩,λi hi=>?_,λi hi=>?_⟩
   ·simp only [yM] at hi
    by_cases hd:i=d
    ·subst hd; rw [q0K,q0K]
    ·rw [q0C hd,q0C hd]
     rcases hi with hi | hi
     ·exact absurd hi hd
     ·cases i0 with
      | none=>cases hi
      | some j =>
       simp at hi;subst hi;have:=ha2 i (by simp);simp only [stl,this];cases h i <;> simp [q0K, *]
   ·simp only [yM,not_or] at hi;rw [q0C hi.1];cases i0 with
    | none=>rfl
    | some j =>
     have hij:i≠j:=by simpa using hi.2
     unfold stl;simp only;cases h2 j <;> simp [q0C hij]
  ·obtain ⟨al,ids,h1,h3,h4,rfl,rfl⟩:=hs;exact ⟨h2,⟨al,ids,by rw [z0 hg]; exact q8O h1 ha1,h3,h4,rfl,rfl⟩,λi hi=>(by cases hi),λi _=>rfl⟩
  ·rename_i t;obtain ⟨f,ys,al,ids,g0,h1,h3,h4,rfl,rfl⟩:=hs;have ht:s2 t=s t:=he (.tmp t) (by simp [Call.operands]);exact ⟨h2,⟨f,ys,al,ids,by rw [ht]; exact g0,by rw [z0 hg]; exact q8O h1 ha1,h3,h4,rfl,rfl⟩,λi hi=>(by cases hi),λi _=>rfl⟩
  ·exact ⟨h2,⟨(pure hs).1,rfl,hs.2.2⟩,(pure hs).2⟩
def q4J {d:Nat} {b:Bk} {l:List Nat}:∀ i,i ∉ (l,[d]).2->q0R h d b i=h i:=λi hi=>by
 have hi:i ∉ [d]:=hi;simp at hi; rw [q0C hi]
def qem [NL] {o:Oper} (hs:Stp P Tb o s h x h' fp):∀ i,i ∉ fp.2->h' i=h i:=by
 obtain ⟨dst,op,ty,pos,af,gd⟩:=o;unfold Stp at hs;cases op <;> simp only at hs <;> (try (exact λi _=>by rw [hs.2.1]))
 case load t a=>obtain ⟨r,h1,rfl,rfl,rfl⟩:=hs; exact λ_ _=>rfl
 case alloc t=>obtain ⟨d,b,rfl,h1,h3,rfl,rfl,rfl⟩:=hs; exact q4J
 case box t v=>obtain ⟨d,k,rfl,h1,h3,h4,rfl,rfl,rfl⟩:=hs; exact q4J
 case buildSlice t len ps=>obtain ⟨d,E,k,bytes,rfl,h1,h3,h4,h5,h6,rfl,rfl,rfl⟩:=hs; exact q4J
 case makeSlice t l c=>obtain ⟨d,E,k,bytes,z,kl,kc,n,m,rfl,h1,h3,h4,h5,h8,h6,h7,rfl,rfl,rfl⟩:=hs; exact q4J
 case store t a v=>obtain ⟨id,i,j,b,k,u,u',h1,h3,h4,h5,h6,h7,h8,h9,rfl,rfl,rfl⟩:=hs; exact q4J
 case call c =>
  split at hs
  ·obtain ⟨sx,xx,T,d,E,k,bytes,xs,ys,i0,ids,_,_,rfl,h1,h3,h4,h5,h6,rfl,rfl,rfl⟩:=hs;intro i hi;simp only [yM,not_or] at hi;rw [q0C hi.1];cases i0 with
   | none=>rfl
   | some j =>
    have hij:i≠j:=by simpa using hi.2
    unfold stl;simp only;cases h j <;> simp [q0C hij]
  ·obtain ⟨al,ids,h1,h3,h4,rfl,rfl⟩:=hs;exact λ_ _=>rfl
  ·obtain ⟨f,ys,al,ids,g0,h1,h3,h4,rfl,rfl⟩:=hs;exact λ_ _=>rfl
  ·exact λi _=>by rw [hs.2.1]
end
def AL [NL] (P:Program) (Tb:World->Prop) (ops:List Oper) (K:(Nat->PV)->Hp->List FP->Prop):List Oper->(Nat->PV)->Hp->List FP->Prop
 | [],s,h,acc=>K s h acc
 | o :: r,s,h,acc=>∃ x h' fp,q84 P Tb ops o s h x h' fp/\AL P Tb ops K r (q3N s o.dst x) h' (fp :: acc)
def sS (ops:List Oper) (X:Nat->PV) (L:Nat->Bool) (s:Nat->PV):Nat->Nat->PV
 | 0=>s
 | k+1=>if L k then (match ops[k]? with | some o=>q3N (sS ops X L s k) o.dst (X k) | none=>sS ops X L s k) else sS ops X L s k
def hS (W:Nat->FP) (H:Nat->Hp) (L:Nat->Bool) (h:Hp):Nat->Hp
 | 0=>h
 | k+1=>if L k then (λi=>if i ∈ (W k).2 then H k i else hS W H L h k i) else hS W H L h k
def tt:Nat->Bool:=λ_=>true
def mkM (M:List Nat) (o:Oper):Nat:=o.after.toList.foldl (λm e=>if Region.binds .any e then m ||| 2 ^ e.on ||| M.getD e.on 0 else m) 0
def qm9:List Nat->List Oper->List Nat
 | M,[]=>M
 | M,o :: r=>qm9 (M ++ [mkM M o]) r
def cls (o:Oper):Nat :=
 match o.op with
 | .load _ _=>1
 | .alloc _ | .box _ _ | .buildSlice _ _ _ | .makeSlice _ _ _=>2
 | .store _ _ _=>3
 | .call c=>match c.callee with | .builtin .append=>3 | .value (.func _) | .value (.tmp _)=>1 | _=>0
 | _=>0
def harm (a b:Nat):Bool:=yU a 0 || yU b 0 || (yU a 1 && yU b 1) || (yU a 2 && yU b 2)
def qum:List (Nat × Nat)->Nat->Nat->Bool
 | [],_,_=>false
 | p :: l,a,b=>(yU p.1 a && yU p.2 b) || qum l a b
def dOk1 (o p:Oper):Bool:=match o.dst,p.dst with | some d,some d'=>!yU d d' | _,_=>true
def dOk2 (ops:List Oper) (M:List Nat) (i j:Nat) (o p:Oper):Bool:=match p.dst with | some d=>!looks ops.toArray o d || (M.getD i 0).testBit j || (M.getD j 0).testBit i | none=>true
def dOk3 (M:List Nat) (prs:List (Nat × Nat)) (i j:Nat) (o p:Oper):Bool:=decide (i<=j) || (M.getD i 0).testBit j || harm (cls p) (cls o) || qum prs j i
def dOk4 (M:List Nat) (i:Nat) (o:Oper):Bool:=(o.after.toList.all λe=>!Region.binds .any e || decide (e.on < i)) && yU (M.getD i 0) (mkM M o)
def qal (ops:List Oper) (M:List Nat) (prs:List (Nat × Nat)):Bool :=
 (List.range ops.length).all λi=>match ops[i]? with
  | none=>true
  | some o=>dOk4 M i o &&
   (List.range ops.length).all λj=>match ops[j]? with
    | none=>true
    | some p=>yU i j || (dOk1 o p && dOk2 ops M i j o p && dOk3 M prs i j o p)
def dj (a b:FP):Prop:=(∀ x ∈ a.2,x ∉ b.1/\x ∉ b.2)/\∀ x ∈ b.2,x ∉ a.1
def chk (prs:List (Nat × Nat)) (fps:List FP):Prop:=∀ p ∈ prs,dj (fps.getD p.1 ([],[])) (fps.getD p.2 ([],[]))
section
variable {P:Program} {Tb:World->Prop} {n:Nat} {ops:List Oper} {X:Nat->PV} {L L':Nat->Bool} {s:Nat->PV} {h:Hp} {W:Nat->FP} {H:Nat->Hp}
def qom {o:Oper} {l:List Oper} (k:Nat):sS (o :: l) X tt s (k+1)=sS l (λi=>X (i+1)) tt (q3N s o.dst (X 0)) k:=by
 induction k with
 | zero=>rfl
 | succ k ih =>
  show (if tt (k+1) then (match (o :: l)[k+1]? with | some o'=>q3N (sS (o :: l) X tt s (k+1)) o'.dst (X (k+1)) | none=>sS (o :: l) X tt s (k+1)) else sS (o :: l) X tt s (k+1))=_
  rw [ih,yA]
  rfl
def qpp (k:Nat):hS W H tt h (k+1)=hS (λi=>W (i+1)) (λi=>H (i+1)) tt (λi=>if i ∈ (W 0).2 then H 0 i else h i) k:=by
 induction k with
 | zero=>rfl
 | succ k ih =>
  show (if tt (k+1) then (λi=>if i ∈ (W (k+1)).2 then H (k+1) i else hS W H tt h (k+1) i) else hS W H tt h (k+1))=_
  rw [ih]
  rfl
def qjo [NL] {o:Oper} {x:PV} {h':Hp} {fp:FP} (hs:q84 P Tb ops o s h x h' fp):∀ i,i ∉ fp.2->h' i=h i:=by
 unfold q84 at hs
 split at hs
 ·exact qem hs
 ·obtain ⟨c,_,hs⟩:=hs
  split at hs
  ·exact qem hs
  ·exact λi _=>by rw [hs.2.1]
def qtL [NL] {K:(Nat->PV)->Hp->List FP->Prop}:∀ (l:List Oper) (s:Nat->PV) (h:Hp) (acc:List FP),AL P Tb ops K l s h acc ->
  ∃ (X:Nat->PV) (H:Nat->Hp) (W:Nat->FP),(∀ k o,l[k]?=some o->q84 P Tb ops o (sS l X tt s k) (hS W H tt h k) (X k) (hS W H tt h (k+1)) (W k))/\K (sS l X tt s l.length) (hS W H tt h l.length) (((List.range l.length).map W).reverse ++ acc)
 | [],s,h,acc,hal=>⟨λ_=>.un,λ_=>h0,λ_=>([],[]),λk o ho=>by simp at ho,hal⟩
 | o :: l,s,h,acc,hal=>by
  obtain ⟨x,h',fp,h1,h2⟩:=hal;obtain ⟨X,H,W,h3,h4⟩:=qtL l _ _ _ h2;have ho:=qjo h1;have he:(λi=>if i ∈ fp.2 then h' i else h i)=h':=by
   funext i
   split
   ·rfl
   ·rename_i hi; exact (ho i hi).symm
  let X':Nat->PV:=λk=>match k with | 0=>x | k+1=>X k
  let H':Nat->Hp:=λk=>match k with | 0=>h' | k+1=>H k
  let W':Nat->FP:=λk=>match k with | 0=>fp | k+1=>W k
  have es:∀ k,sS (o :: l) X' tt s (k+1)=sS l X tt (q3N s o.dst x) k:=λk=>qom k;have eh:∀ k,hS W' H' tt h (k+1)=hS W H tt h' k:=λk=>by
   have:=qpp (W:=W') (H:=H') (h:=h) k;rw [this]
   show hS W H tt (λi=>if i ∈ fp.2 then h' i else h i) k=_
   rw [he]
  refine ⟨X',H',W',λk p hp=>?_,?_⟩
  ·cases k with
   | zero =>
    simp only [xG,yX.injEq] at hp;subst hp;rw [eh 0];exact h1
   | succ k =>
    rw [es,eh,eh];exact h3 k p (by simpa using hp)
  ·rw [zL,es,eh];have:((List.range (l.length+1)).map W').reverse ++ acc=((List.range l.length).map W).reverse ++ (fp :: acc):=by
    rw [List.range_succ_eq_map,yG,y3,List.reverse_cons,xA]
    rfl
   rw [this];exact h4
structure Drw (ops:List Oper) (M:List Nat) (prs:List (Nat × Nat)):Prop where
 down:∀ (i:Nat) (o:Oper) (x:Edge),ops[i]?=some o->x ∈ o.after->Region.binds .any x=true->x.on < i
 anc:∀ (i j:Nat) (o:Oper),ops[i]?=some o->(M.getD i 0).testBit j=true->∃ x ∈ o.after,Region.binds .any x=true/\(x.on=j\/(M.getD x.on 0).testBit j=true)
 dst:∀ (i j:Nat) (o p:Oper) (d:Nat),ops[i]?=some o->ops[j]?=some p->o.dst=some d->p.dst=some d->i=j
 look:∀ (i j:Nat) (o p:Oper) (d:Nat),ops[i]?=some o->ops[j]?=some p->i≠j->p.dst=some d->looks ops.toArray o d=true->(M.getD i 0).testBit j=true\/(M.getD j 0).testBit i=true
 par:∀ (i j:Nat) (o p:Oper),ops[i]?=some o->ops[j]?=some p->j < i->(M.getD i 0).testBit j=true\/harm (cls p) (cls o)=true\/qum prs j i=true
def qfu {M:List Nat} {j:Nat}:∀ (l:List Edge) (m:Nat),(l.foldl (λm e=>if Region.binds .any e then m ||| 2 ^ e.on ||| M.getD e.on 0 else m) m).testBit j=true->m.testBit j=true\/∃ x ∈ l,Region.binds .any x=true/\(x.on=j\/(M.getD x.on 0).testBit j=true)
 | [],m,h=>.inl h
 | e :: l,m,h=>by
  rw [List.foldl_cons] at h
  rcases qfu l _ h with h | ⟨x,hx,h⟩
  ·split at h
   ·rename_i hb;rw [Nat.testBit_or,Nat.testBit_or,z5,z5,Nat.testBit_two_pow] at h
    rcases h with (h | h) | h
    ·exact .inl h
    ·exact .inr ⟨e,zP,hb,.inl (by simpa using h)⟩
    ·exact .inr ⟨e,zP,hb,.inr h⟩
   ·exact .inl h
  ·exact .inr ⟨x,zJ _ hx,h⟩
def Drw.of {M:List Nat} {prs:List (Nat × Nat)} (hk:qal ops M prs=true):Drw ops M prs:=by
 unfold qal at hk;rw [yK] at hk;have hi:∀ (i:Nat) (o:Oper),ops[i]?=some o->i ∈ List.range ops.length:=λi o ho=>yV.2 (zD.1 ho).1;have h1:∀ (i:Nat) (o:Oper),ops[i]?=some o->dOk4 M i o=true/\((List.range ops.length).all λj=>match ops[j]? with | none=>true | some p=>yU i j || (dOk1 o p && dOk2 ops M i j o p && dOk3 M prs i j o p))=true:=λi o ho=>by
  have:=hk i (hi i o ho);rw [ho] at this;simp only [zT] at this;exact this
 have h2:∀ (i j:Nat) (o p:Oper),ops[i]?=some o->ops[j]?=some p->i≠j->(dOk1 o p=true/\dOk2 ops M i j o p=true)/\dOk3 M prs i j o p=true:=λi j o p ho hp hij=>by
  have:=(yK.1 (h1 i o ho).2) j (hi j p hp);rw [hp] at this;simp only [z5] at this
  rcases this with h | h
  ·exact absurd (zK h) hij
  ·rw [zT,zT] at h;exact h
 refine ⟨λi o x ho hx hb=>?_,λi j o ho hb=>?_,λi j o p d ho hp hod hpd=>?_,λi j o p d ho hp hij hd hl=>?_,λi j o p ho hp hji=>?_⟩
 ·have h4:=(h1 i o ho).1;unfold dOk4 at h4;rw [zT] at h4;have:=yK.1 h4.1 x (y0.2 hx);rw [hb] at this;simpa using this
 ·have h4:=(h1 i o ho).1;unfold dOk4 at h4;rw [zT] at h4;have he:=zK h4.2;rw [he] at hb;unfold mkM at hb
  rcases qfu _ _ hb with h | ⟨x,hx,h⟩
  ·simp at h
  ·exact ⟨x,y0.1 hx,h⟩
 ·by_cases hij:i=j
  ·exact hij
  ·have:=(h2 i j o p ho hp hij).1.1;unfold dOk1 at this;rw [hod,hpd] at this;simp at this
 ·have:=(h2 i j o p ho hp hij).1.2;unfold dOk2 at this;rw [hd] at this;simp only [hl,Bool.not_true,Bool.false_or,z5] at this;exact this
 ·have:=(h2 i j o p ho hp Oq).2;unfold dOk3 at this;simp only [z5,decide_eq_true_eq] at this
  rcases this with ((h | h) | h) | h
  ·omega
  ·exact .inl h
  ·exact .inr (.inl h)
  ·exact .inr (.inr h)
def qd9 (i:Nat):∀ (m:Nat),(∀ k,k < m->i ∈ (W k).2->L k=L' k)->hS W H L h m i=hS W H L' h m i
 | 0,_=>rfl
 | m+1,hl=>by
  have ih:=qd9 i m λk hk=>hl k Oq;unfold hS
  by_cases hi:i ∈ (W m).2
  ·rw [hl m (by omega) hi]
   split
   ·simp [hi]
   ·exact ih
  ·split <;> split <;> simp [hi,ih]
def sS_s {k:Nat}:sS ops X L s (k+1)=if L k then (match ops[k]? with | some o=>q3N (sS ops X L s k) o.dst (X k) | none=>sS ops X L s k) else sS ops X L s k:=rfl
def q11 {t:Nat}:∀ (m:Nat),(∀ k o,k < m->ops[k]?=some o->L k=true->o.dst≠some t)->sS ops X L s m t=s t
 | 0,_=>rfl
 | m+1,hl=>by
  have ih:=q11 m λk o hk=>hl k o Oq;rw [sS_s]
  by_cases hL:L m=true
  ·rw [if_pos hL];cases ho:ops[m]? with
   | none=>exact ih
   | some o =>
    have:=hl m o Oq ho hL;cases hd:o.dst with
    | none=>simp only [hd,q3N]; exact ih
    | some d=>rw [hd] at this; simp only [hd,q3N,pu]; rw [if_neg (λe=>this (by rw [e]))]; exact ih
  ·rw [if_neg hL]; exact ih
def q2q {t:Nat} (hdd:∀ (i j:Nat) (o p:Oper) (d:Nat),ops[i]?=some o->ops[j]?=some p->o.dst=some d->p.dst=some d->i=j) {k:Nat} {o:Oper} (ho:ops[k]?=some o) (hd:o.dst=some t) (hL:L k=true):∀ (m:Nat),k < m->sS ops X L s m t=X k
 | 0,hm=>by omega
 | m+1,hm=>by
  rw [sS_s]
  by_cases hk:k=m
  ·subst hk;rw [if_pos hL,ho];simp only [hd,q3N,pu,if_true]
  ·have ih:=q2q hdd ho hd hL m Oq
   by_cases hLm:L m=true
   ·rw [if_pos hLm];cases hp:ops[m]? with
    | none=>exact ih
    | some p =>
     cases hpd:p.dst with
     | none=>simp only [hpd,q3N]; exact ih
     | some d =>
      simp only [hpd,q3N,pu];rw [if_neg λe=>hk (hdd k m o p t ho hp hd (by rw [hpd,e]))];exact ih
   ·rw [if_neg hLm]; exact ih
end
section
variable {P:Program} {Tb:World->Prop} {n:Nat} {ops:List Oper} {X:Nat->PV} {s:Nat->PV} {h:Hp} {W:Nat->FP} {H:Nat->Hp} {M:List Nat} {prs:List (Nat × Nat)} {D0:Nat->Prop} {w0:Base} {ρ:Nat->Option Nat} {e:Env} {w:World}
def hS_s {L:Nat->Bool} {k:Nat}:hS W H L h (k+1)=if L k then (λi=>if i ∈ (W k).2 then H k i else hS W H L h k i) else hS W H L h k:=rfl
def Lo (listed:Array Bool):Nat->Bool:=λk=>listed.getD k false
def q7Q {listed:Array Bool} {i k:Nat} (hi:i < listed.size):Lo (listed.setIfInBounds i true) k=if i=k then true else Lo listed k:=by
 simp only [Lo,zZ,yE]
 split
 ·rename_i hk; subst hk; simp [hi]
 ·rfl
def qnT (hD:Drw ops M prs):∀ (i:Nat) (o:Oper) (j:Nat),ops[i]?=some o->(M.getD i 0).testBit j=true->j < i:=by
 intro i
 induction i using xL with
 | _ i ih =>
  intro o j ho hb;obtain ⟨x,hx,hbx,hj⟩:=hD.anc i j o ho hb;have hlt:=hD.down i o x ho hx hbx
  rcases hj with rfl | hj
  ·exact hlt
  ·have hl:x.on < ops.length:=by have:=(zD.1 ho).1; omega
   have:=ih x.on hlt _ j (zC hl) hj;omega
def qnU (hD:Drw ops M prs) {L:Nat->Bool} (hc:∀ (k:Nat) (o:Oper) (x:Edge),ops[k]?=some o->L k=true->x ∈ o.after->Region.binds .any x=true->L x.on=true):∀ (i:Nat) (o:Oper) (j:Nat),ops[i]?=some o->(∀ x ∈ o.after,Region.binds .any x=true->L x.on=true)->(M.getD i 0).testBit j=true->L j=true:=by
 intro i
 induction i using xL with
 | _ i ih =>
  intro o j ho hL hb;obtain ⟨x,hx,hbx,hj⟩:=hD.anc i j o ho hb;have hlt:=hD.down i o x ho hx hbx;have hLx:=hL x hx hbx
  rcases hj with rfl | hj
  ·exact hLx
  ·have hl:x.on < ops.length:=by have:=(zD.1 ho).1; omega
   have ho':=zC hl;exact ih x.on hlt _ j ho' (λy hy hby=>hc x.on _ y ho' hLx hy hby) hj
def q9O {o:Oper} {t:Nat}:looks ops.toArray o t=true ↔ t ∈ o.looksAt ops.toArray:=by
 unfold looks;rw [List.any_eq_true]
 constructor
 ·rintro ⟨x,hx,h⟩;rw [zK h]; exact hx
 ·exact λhx=>⟨t,hx,by simp⟩
def qjp [NL] {o:Oper} {s2:Nat->PV} {h2 h':Hp} {x:PV} {fp:FP} (hs:q84 P Tb ops o s h x h' fp) (he:∀ t,looks ops.toArray o t=true->s2 t=s t) (ha:agr h h2 (fp.1 ++ fp.2)):∃ h3,q84 P Tb ops o s2 h2 x h3 fp/\Loc h2 h' h3 fp:=by
 have hop:∀ y ∈ o.op.operands,pe s2 y=pe s y:=λy hy=>by
  cases y <;> simp only [pe]
  case tmp t=>exact he t (q9O.2 (by unfold Oper.looksAt; simp; exact .inl ⟨.tmp t,by simpa using hy,rfl⟩))
 unfold q84 at hs ⊢
 split at hs
 ·exact qen hs hop ha
 ·rename_i j b hg;obtain ⟨c,hc,hs⟩:=hs;have hy:q2v ops s2 j b=q2v ops s j b:=by
   unfold q2v;cases hd:(ops[j]?).bind (·.dst) with
   | none=>rfl
   | some d =>
    simp only;rw [he d (q9O.2 (by unfold Oper.looksAt; rw [hg]; simp only [z8,hd]; simp))]
  simp only [hy,hc]
  split at hs
  ·rename_i hcb;obtain ⟨h3,h4,h5⟩:=qen hs hop ha;exact ⟨h3,⟨c,rfl,by rw [if_pos hcb]; exact h4⟩,h5⟩
  ·rename_i hcb;obtain ⟨rfl,rfl,rfl⟩:=hs;exact ⟨h2,⟨c,rfl,by rw [if_neg hcb]; exact ⟨rfl,rfl,rfl⟩⟩,λi hi=>(by cases hi),λi _=>rfl⟩
def qq7 [NL] {Q : Exit -> Act -> World -> Prop} {e0 : Env} (hD : Drw ops M prs) (hd : ops.all (q98 n) = true) (hT : ∀ w, Kp w0.F w0.w w -> Tb w) (hF : Fr D0 w0.w)
    (hG : ∀ k o, ops[k]? = some o -> q84 P Tb ops o (sS ops X tt s k) (hS W H tt h k) (X k) (hS W H tt h (k + 1)) (W k))
    (hdyn : ∀ (i j : Nat) (o p : Oper), ops[i]? = some o -> ops[j]? = some p -> j < i -> (M.getD i 0).testBit j = true \/ dj (W j) (W i))
    (hQ : ∀ a e' w' ρ', Rel n a e' -> Sat D0 w0 (sS ops X tt s ops.length) (hS W H tt h ops.length) ρ' e' w' -> (∀ t, q6T ops.toArray t = false -> e' t = e0 t) -> Q .normal a w') :
    ∀ (fuel : Nat) (listed : Array Bool) (a : Act) (e' : Env) (w' : World) (ρ : Nat -> Option Nat), ops.length <= fuel + (List.range ops.length).countP (λi => listed.getD i true) -> listed.size = ops.length -> (∀ (k : Nat) (o : Oper) (x : Edge), ops[k]? = some o -> Lo listed k = true -> x ∈ o.after -> Region.binds .any x = true -> Lo listed x.on = true) ->
      Rel n a e' -> (∀ t, q6T ops.toArray t = false -> e' t = e0 t) -> Sat D0 w0 (sS ops X (Lo listed) s ops.length) (hS W H (Lo listed) h ops.length) ρ e' w' -> wpAny P .any ops.toArray Q fuel listed a w' := by
  have hft : ∀ {listed : Array Bool} {j : Nat}, listed.size = ops.length -> j < ops.length -> listed.getD j true = Lo listed j := λ{listed j} hsz hj => by
    simp [Lo, zZ, y7 (show j < listed.size by omega)]
  have hdone : ∀ (listed : Array Bool) (a : Act) (e' : Env) (w' : World) (ρ : Nat -> Option Nat), listed.size = ops.length -> (∀ i, i < ops.length -> Lo listed i = true) -> Rel n a e' -> (∀ t, q6T ops.toArray t = false -> e' t = e0 t) -> Sat D0 w0 (sS ops X (Lo listed) s ops.length) (hS W H (Lo listed) h ops.length) ρ e' w' -> Q .normal a w' := λlisted a e' w' ρ hsz hall hr ho S => by
    refine hQ a e' w' ρ hr ?_ ho
    have e1 : sS ops X (Lo listed) s ops.length = sS ops X tt s ops.length := by
      have : ∀ m, m <= ops.length -> sS ops X (Lo listed) s m = sS ops X tt s m := λm => by
        induction m with
        | zero => intro _; rfl
        | succ m ih => intro hm; rw [sS_s, sS_s, ih (by omega), hall m (by omega)]; rfl
      exact this _ (zU _)
    have e2 : hS W H (Lo listed) h ops.length = hS W H tt h ops.length := by
      funext i
      exact qd9 i _ λk hk _ => by rw [hall k hk]; rfl
    rw [<- e1, <- e2]
    exact S
  have hend : ∀ (listed : Array Bool) (a : Act) (e' : Env) (w' : World) (ρ : Nat -> Option Nat), listed.size = ops.length -> Region.ready .any ops.toArray listed = [] -> Rel n a e' -> (∀ t, q6T ops.toArray t = false -> e' t = e0 t) -> Sat D0 w0 (sS ops X (Lo listed) s ops.length) (hS W H (Lo listed) h ops.length) ρ e' w' -> Q .normal a w' := λlisted a e' w' ρ hsz hnil hr ho S => by
    refine hdone listed a e' w' ρ hsz (λi => ?_) hr ho S
    induction i using xL with
    | _ i ih =>
      intro hi
      cases hb : Lo listed i with
      | true => rfl
      | false =>
        have : i ∈ Region.ready .any ops.toArray listed := by
          unfold Region.ready
          rw [List.mem_filter]
          refine ⟨yV.2 (by simpa using hi), ?_⟩
          have hio : ops.toArray[i]? = some ops[i] := by simp [hi]
          simp only [hft hsz hi, hb, Bool.not_false, Bool.true_and, hio, yO, Option.getD_some]
          rw [Array.all_eq_true']
          intro x hx
          cases hbx : Region.binds .any x with
          | false => rfl
          | true =>
            have hlt := hD.down i ops[i] x (zC hi) hx hbx
            have := ih x.on hlt Oq
            simp only [Lo] at this
            simp [this]
        rw [hnil] at this; cases this
  intro fuel
  induction fuel with
  | zero =>
    intro listed a e' w' ρ hf hsz hcl hr ho S
    have hall : ∀ i, i < ops.length -> listed.getD i true = true := by
      have hle : (List.range ops.length).countP (λi => listed.getD i true) = (List.range ops.length).length := by
        have := List.countP_le_length (p := λi => listed.getD i true) (l := List.range ops.length)
        simp only [List.length_range] at this ⊢; omega
      rw [List.countP_eq_length] at hle
      exact λi hi => hle i (yV.2 hi)
    have hnil : Region.ready .any ops.toArray listed = [] := by
      unfold Region.ready
      rw [List.filter_eq_nil_iff]
      intro i hi
      simp [hall i (by simpa using yV.1 hi)]
    exact ⟨hnil, hend _ _ _ _ _ hsz hnil hr ho S⟩
  | succ fuel ih =>
    intro listed a e' w' ρ hf hsz hcl hr ho S
    refine ⟨λhn => hend _ _ _ _ _ hsz hn hr ho S, λi hi => ?_⟩
    obtain ⟨hlt', hnl, hdeps⟩ := q9G hi
    have hlt : i < ops.length := by simpa using hlt'
    have hli : i < listed.size := by omega
    have hio : ops[i]? = some ops[i] := zC hlt
    have hLi : Lo listed i = false := by rw [<- hft hsz hlt]; exact hnl
    generalize hoi : ops[i] = o at hio
    have hdeps' : ∀ x ∈ o.after, Region.binds .any x = true -> Lo listed x.on = true := λx hx hb => hdeps x (by simpa [hoi] using hx) hb
    -- what is ordered
    have hord : ∀ (k : Nat) (p : Oper), ops[k]? = some p -> k ≠ i -> ((M.getD i 0).testBit k = true \/ (M.getD k 0).testBit i = true) -> Lo listed k = decide (k < i) := λk p hp hki hb => by
      rcases hb with hb | hb
      · have h1 := qnT hD i o k hio hb
        rw [qnU hD hcl i o k hio hdeps' hb, decide_eq_true h1]
      · have h1 := qnT hD k p i hp hb
        rw [decide_eq_false (by omega)]
        cases hL : Lo listed k with
        | false => rfl
        | true =>
          have := qnU hD hcl k p i hp (λx hx hbx => hcl k p x hp hL hx hbx) hb
          rw [hLi] at this; cases this
    have hwr : ∀ (k : Nat) (p : Oper), ops[k]? = some p -> k ≠ i -> ∀ id, id ∈ (W k).2 -> id ∈ (W i).1 ++ (W i).2 -> Lo listed k = decide (k < i) := λk p hp hki id h1 h2 => by
      refine hord k p hp hki ?_
      rcases yQ k i with hk | hk
      · rcases hdyn i k o p hio hp hk with h | h
        · exact .inl h
        · exfalso
          rcases zV.1 h2 with h2 | h2
          · exact (h.1 id h1).1 h2
          · exact (h.1 id h1).2 h2
      · rcases hdyn k i p o hp hio Oq with h | h
        · exact .inr h
        · exfalso
          rcases zV.1 h2 with h2 | h2
          · exact h.2 id h1 h2
          · exact (h.1 id h2).2 h1
    have canS : ∀ k t, k <= ops.length -> sS ops X tt s k t = sS ops X (λj => decide (j < k)) s ops.length t := λk t hk => by
      by_cases hex : ∃ (j : Nat) (p : Oper), ops[j]? = some p /\ p.dst = some t
      · obtain ⟨j, p, hp, hpd⟩ := hex
        have hj := (zD.1 hp).1
        by_cases hjk : j < k
        · rw [q2q hD.dst hp hpd rfl k hjk, q2q hD.dst hp hpd (by simp [hjk]) _ hj]
        · rw [q11 k λm q hm hq _ he => hjk (by have := hD.dst m j q p t hq hp he hpd; omega), q11 _ λm q hm hq hL he => hjk (by have := hD.dst m j q p t hq hp he hpd; subst this; simpa using hL)]
      · rw [q11 k λm q _ hq _ he => hex ⟨m, q, hq, he⟩, q11 _ λm q _ hq _ he => hex ⟨m, q, hq, he⟩]
    have canH : ∀ k id, k <= ops.length -> hS W H tt h k id = hS W H (λj => decide (j < k)) h ops.length id := λk id hk => by
      have h1 : ∀ m, k <= m -> hS W H (λj => decide (j < k)) h m id = hS W H (λj => decide (j < k)) h k id := λm hm => by
        induction m with
        | zero => have : k = 0 := by omega
                  subst this; rfl
        | succ m ihm =>
          by_cases hkm : k = m + 1
          · subst hkm; rfl
          · have := ihm Oq
            rw [hS_s, if_neg (by simp; omega)]
            exact this
      rw [h1 _ hk]
      exact qd9 id k λm hm _ => by simp [tt, hm]
    have hg := hG i o hio
    obtain ⟨h3, g1, g2⟩ := qjp (s2 := sS ops X (Lo listed) s ops.length) (h2 := hS W H (Lo listed) h ops.length) hg (λt ht => by
      rw [canS i t (by omega)]
      by_cases hex : ∃ (j : Nat) (p : Oper), ops[j]? = some p /\ p.dst = some t
      · obtain ⟨j, p, hp, hpd⟩ := hex
        have hj := (zD.1 hp).1
        have hLj : Lo listed j = decide (j < i) := by
          by_cases hji : j = i
          · subst hji; rw [hLi]; simp
          · exact hord j p hp hji (hD.look i j o p t hio hp (λe => hji e.symm) hpd ht)
        by_cases hji : j < i
        · rw [q2q hD.dst hp hpd (by rw [hLj]; simp [hji]) _ hj, q2q hD.dst hp hpd (by simp [hji]) _ hj]
        · rw [q11 _ λm q hm hq hL he => by have := hD.dst m j q p t hq hp he hpd; subst this; rw [hLj] at hL; exact hji (by simpa using hL), q11 _ λm q hm hq hL he => by have := hD.dst m j q p t hq hp he hpd; subst this; exact hji (by simpa using hL)]
      · rw [q11 _ λm q _ hq _ he => hex ⟨m, q, hq, he⟩, q11 _ λm q _ hq _ he => hex ⟨m, q, hq, he⟩]) (λid hid => by
      rw [canH i id (by omega)]
      refine qd9 id _ λk hk hw => ?_
      by_cases hki : k = i
      · subst hki; rw [hLi]; simp
      · exact hwr k _ (zC hk) hki id hw hid)
    have e1 : q3N (sS ops X (Lo listed) s ops.length) o.dst (X i) = sS ops X (Lo (listed.setIfInBounds i true)) s ops.length := by
      funext t
      by_cases hex : ∃ (j : Nat) (p : Oper), ops[j]? = some p /\ p.dst = some t
      · obtain ⟨j, p, hp, hpd⟩ := hex
        have hj := (zD.1 hp).1
        by_cases hji : i = j
        · subst hji
          rw [hio] at hp; cases hp
          rw [q2q hD.dst hio hpd (by rw [q7Q hli]; simp) _ hj, hpd]
          simp [q3N, pu]
        · have hne : o.dst ≠ some t := λhe => hji (hD.dst i j o p t hio hp he hpd)
          have : q3N (sS ops X (Lo listed) s ops.length) o.dst (X i) t = sS ops X (Lo listed) s ops.length t := by
            cases hod : o.dst with
            | none => rfl
            | some d => simp only [q3N, pu]; rw [if_neg λe => hne (by rw [hod, e])]
          rw [this]
          cases hL : Lo listed j with
          | true => rw [q2q hD.dst hp hpd hL _ hj, q2q hD.dst hp hpd (by rw [q7Q hli, if_neg hji]; exact hL) _ hj]
          | false => rw [q11 _ λm q hm hq hL' he => (by have := hD.dst m j q p t hq hp he hpd; subst this; rw [hL] at hL'; cases hL'), q11 _ λm q hm hq hL' he => (by have := hD.dst m j q p t hq hp he hpd; subst this; rw [q7Q hli, if_neg hji, hL] at hL'; cases hL')]
      · have hne : o.dst ≠ some t := λhe => hex ⟨i, o, hio, he⟩
        have : q3N (sS ops X (Lo listed) s ops.length) o.dst (X i) t = sS ops X (Lo listed) s ops.length t := by
          cases hod : o.dst with
          | none => rfl
          | some d => simp only [q3N, pu]; rw [if_neg λe => hne (by rw [hod, e])]
        rw [this, q11 _ λm q _ hq _ he => hex ⟨m, q, hq, he⟩, q11 _ λm q _ hq _ he => hex ⟨m, q, hq, he⟩]
    have e2 : h3 = hS W H (Lo (listed.setIfInBounds i true)) h ops.length := by
      funext id
      by_cases hid : id ∈ (W i).2
      · rw [g2.1 id hid, canH (i + 1) id (by omega)]
        refine (qd9 id _ λk hk hw => ?_).symm
        rw [q7Q hli]
        by_cases hki : i = k
        · subst hki; simp
        · rw [if_neg hki, hwr k _ (zC hk) (λe => hki e.symm) id hw (zQ _ hid)]
          congr 1
          exact propext ⟨λh => by omega, λh => by omega⟩
      · rw [g2.2 id hid]
        refine (qd9 id _ λk hk hw => ?_).symm
        rw [q7Q hli, if_neg λe => by subst e; exact hid hw]
    rw [e2] at g1
    have hcount : ops.length <= fuel + (List.range ops.length).countP (λj => (listed.setIfInBounds i true).getD j true) := by
      have : (List.range ops.length).countP (λj => listed.getD j true) + 1 <= (List.range ops.length).countP (λj => (listed.setIfInBounds i true).getD j true) := by
        have hsplit : List.range ops.length = List.range i ++ i :: (xP (i + 1) (ops.length - i - 1)) := by
          rw [yY, yY, show ops.length = i + (1 + (ops.length - i - 1)) by omega, <- List.range'_append_1, zX]
          congr 1
          rw [show i + (1 + (ops.length - i - 1)) - i - 1 = ops.length - i - 1 by omega, Nat.add_comm 1, List.range'_succ]
        rw [hsplit, xV, xV, List.countP_cons, List.countP_cons]
        have hmono : ∀ (L : List Nat), L.countP (λj => listed.getD j true) <= L.countP (λj => (listed.setIfInBounds i true).getD j true) := by
          intro L
          refine List.countP_mono_left (λj _ hj => ?_)
          rw [q4L hli]
          split
          · rfl
          · exact hj
        have h1 := hmono (List.range i)
        have h2 := hmono (xP (i + 1) (ops.length - i - 1))
        simp only [hnl, q4L hli, if_true, if_false, xW] at h1 h2 ⊢
        omega
      omega
    have hdo : q98 n o = true := by rw [yK] at hd; exact hd _ (zG hio)
    have hput : ∀ v, Rel n (a.put o.dst v) (E.put e' o.dst v) := λv => hr.put o.dst v (by unfold q98 at hdo; cases hx : o.dst <;> simp_all)
    have hstep := q2f (qa9 S (hT _ S.ext) hF g1)
    rw [e1] at hstep
    have hnext : ∀ v w'', (∃ ρ', Sat D0 w0 (sS ops X (Lo (listed.setIfInBounds i true)) s ops.length) (hS W H (Lo (listed.setIfInBounds i true)) h ops.length) ρ' (E.put e' o.dst v) w'') -> wpAny P .any ops.toArray Q fuel (listed.setIfInBounds i true) (a.put o.dst v) w'' := λv w'' ⟨ρ', S'⟩ => by
      refine ih _ _ _ _ ρ' hcount (by simpa using hsz) (λk p x hp hL hx hb => ?_) (hput v) (λt ht => ?_) S'
      · rw [q7Q hli] at hL ⊢
        split
        · rfl
        · by_cases hki : i = k
          · subst hki
            rw [hio] at hp; cases hp
            exact hdeps' x hx hb
          · rw [if_neg hki] at hL
            exact hcl k p x hp hL hx hb
      · rw [qmY (q6S ht i o (by simpa using hio))]
        exact ho t ht
    unfold wpOp
    have hio2 : ops.toArray[i]? = some o := by simpa using hio
    simp only [hio2]
    rw [q71 hr (by simpa using hd)]
    unfold WG at hstep
    split
    · rename_i hw
      rw [if_pos hw] at hstep
      exact .inl (q7Z hr hstep λv w'' hv => hnext v w'' hv)
    · rename_i hw
      rw [if_neg hw] at hstep
      exact hnext _ _ hstep
end
abbrev SQ:=Exit->(Nat->PV)->Hp->Prop
def AW [NL] (P:Program) (Tb:World->Prop) (J:Nat->Prop) (n:Nat) (c:Code) (Q:SQ) (s:Nat->PV) (h:Hp):Prop :=
 ∀ D0 (w0:Base) ρ e w,((∀ w,Kp w0.F w0.w w->Tb w)/\∀ i r,w0.J i r->J i)->Fr D0 w0.w->Sat D0 w0 s h ρ e w->W P n c (λx e' w'=>∃ s' h' ρ',Sat D0 w0 s' h' ρ' e' w'/\Q x s' h') e w
def thA (K:(Nat->PV)->Hp->Prop) (Q:SQ):SQ
 | .normal,s,h=>K s h
 | x,s,h=>Q x s h
def inA (id:Nat) (Q:SQ):SQ
 | .exit id',s,h=>if id'=id then Q .normal s h else Q (.exit id') s h
 | x,s,h=>Q x s h
def Le [NL] (J:Nat->Prop) (s:Nat->PV) (h:Hp) (s':Nat->PV) (h':Hp):Prop:=∀ D0 (w0:Base) ρ e w,(∀ i r,w0.J i r->J i)->Sat D0 w0 s h ρ e w->∃ ρ',Sat D0 w0 s' h' ρ' e w
section
variable {P:Program} {Tb:World->Prop} {J:Nat->Prop} {n:Nat} {Q:SQ} {s s':Nat->PV} {h h':Hp}
def q0u [NL] {c:Code} (hl:Le J s h s' h') (hw:AW P Tb J n c Q s' h'):AW P Tb J n c Q s h:=λD0 w0 ρ e w hT hF S=>by
 obtain ⟨ρ',S'⟩:=hl D0 w0 ρ e w hT.2 S;exact hw D0 w0 ρ' e w hT hF S'
def q34 [NL] {a b:Code} (hw:∀ K:(Nat->PV)->Hp->Prop,(∀ s h,AW P Tb J n b Q s h->K s h)->AW P Tb J n a (thA K Q) s h):AW P Tb J n (.seq a b) Q s h:=λD0 w0 ρ e w hT hF S=>by
 refine qrp (q6d (λx e' w' hx=>?_) (hw _ (λ_ _ h=>h) D0 w0 ρ e w hT hF S));obtain ⟨s',h',ρ',S',q⟩:=hx;cases x
 case normal=>exact q D0 w0 ρ' e' w' hT hF S'
 all_goals exact ⟨s',h',ρ',S',q⟩
def qiK [NL] {c:Operand} {a b:Code} {t:Bool} (hc:pe s c=.vl (.bool t)) (ha:t=true->AW P Tb J n a Q s h) (hb:t=false->AW P Tb J n b Q s h):AW P Tb J n (.cond c a b) Q s h:=λD0 w0 ρ e w hT hF S=>by
 have:=S.pex c;rw [hc] at this;unfold Rd at this;exact q9l this (λht=>ha ht D0 w0 ρ e w hT hF S) (λht=>hb ht D0 w0 ρ e w hT hF S)
def A_u [NL] {c:Operand} {a b:Code} {k:Nat} (hc:pe s c=.fm (fNil k)) (ha:k=0->AW P Tb J n a Q s h) (hb:AW P Tb J n b Q s h):AW P Tb J n (.cond c a b) Q s h:=λD0 w0 ρ e w hT hF S=>by
 have:=S.pex c;rw [hc] at this;unfold Rd at this;obtain ⟨t,h1,h2⟩:=this;exact q9l h1 (λht=>ha (h2 ht) D0 w0 ρ e w hT hF S) (λ_=>hb D0 w0 ρ e w hT hF S)
def ql9 [NL] {id:Nat} {c:Code} (hw:AW P Tb J n c (inA id Q) s h):AW P Tb J n (.block id c) Q s h:=λD0 w0 ρ e w hT hF S=>by
 refine qrq (q6d (λx e' w' hx=>?_) (hw D0 w0 ρ e w hT hF S));obtain ⟨s',h',ρ',S',q⟩:=hx;cases x
 case exit id' =>
  simp only [inA] at q;simp only [inB]
  split
  ·rename_i hid; rw [if_pos hid] at q; exact ⟨s',h',ρ',S',q⟩
  ·rename_i hid; rw [if_neg hid] at q; exact ⟨s',h',ρ',S',q⟩
 all_goals exact ⟨s',h',ρ',S',q⟩
def qsK [NL] (hq:Q .normal s h):AW P Tb J n .skip Q s h:=λ_ _ ρ _ _ _ _ S=>qcn ⟨s,h,ρ,S,hq⟩
def qsL [NL] {id:Nat} (hq:Q (.exit id) s h):AW P Tb J n (.exit id) Q s h:=λ_ _ ρ _ _ _ _ S=>qy5 ⟨s,h,ρ,S,hq⟩
def qza [NL] (hq:Q .ret s h):AW P Tb J n .ret Q s h:=λ_ _ ρ _ _ _ _ S=>ql0 ⟨s,h,ρ,S,hq⟩
def qiL [NL] {ops:List Oper} {K:(Nat->PV)->Hp->List FP->Prop} {D0:Nat->Prop} {w0:Base} (hT:∀ w,Kp w0.F w0.w w->Tb w) (hF:Fr D0 w0.w) {K':Env->World->Prop}:∀ (l:List Oper) (s:Nat->PV) (h:Hp) (acc:List FP) (ρ:Nat->Option Nat) (e:Env) (w:World),(∀ s h acc ρ e w,Sat D0 w0 s h ρ e w->K s h acc->K' e w)->AL P Tb ops K l s h acc->Sat D0 w0 s h ρ e w->WL P ops.toArray K' l e w
 | [],s,h,acc,ρ,e,w,hk,hal,S=>hk s h acc ρ e w S hal
 | o :: l,s,h,acc,ρ,e,w,hk,hal,S=>by
  obtain ⟨x,h',fp,h1,h2⟩:=hal;have:=q2f (qa9 S (hT _ S.ext) hF h1);exact qbD (λv w' ⟨ρ',S'⟩=>qiL hT hF l _ _ _ ρ' _ _ hk h2 S') this
def qnh [NL] {id:Nat} {l:List Oper} (hw:∀ K:(Nat->PV)->Hp->Prop,(∀ s h,Q .normal s h->K s h)->AL P Tb l (λs h _=>K s h) l s h []):AW P Tb J n (.region id l.toArray false) Q s h:=λD0 w0 ρ e w hT hF S=>by
 have h1:=hw _ λ_ _ h=>h;refine q42 ?_;exact qiL (K':=λe' w'=>∃ s' h' ρ',Sat D0 w0 s' h' ρ' e' w'/\Q .normal s' h') hT.1 hF l s h [] ρ e w (λs h _ ρ e w S hq=>⟨s,h,ρ,S,hq⟩) h1 S
def Sat.drew [NL] {D0:Nat->Prop} {w0:Base} {ρ:Nat->Option Nat} {e:Env} {w:World} (S:Sat D0 w0 s h ρ e w) (k:Nat):Sat D0 w0 s h ρ e { w with drawn:=k }:=S.extend (Kp.drew w k)
def qeo [NL] {o:Oper} {x:PV} {fp:FP} (hs:Stp P Tb o s h x h' fp):(cls o=0->fp=([],[]))/\(cls o=1->fp.2=[])/\(cls o=2->fp.1=[]/\(fp.2=[]\/∃ d,o.dst=some d/\fp.2=[d])):=by
 obtain ⟨dst,op,ty,pos,af,gd⟩:=o;unfold Stp at hs;unfold cls;cases op <;> simp only at hs ⊢ <;> (try (exact ⟨λ_=>hs.2.2,λh=>(by cases h),λh=>(by cases h)⟩))
 case load t a=>obtain ⟨r,h1,rfl,rfl,rfl⟩:=hs; exact ⟨λh=>(by cases h),λ_=>rfl,λh=>(by cases h)⟩
 case alloc t=>obtain ⟨d,b,rfl,h1,h3,rfl,rfl,rfl⟩:=hs; exact ⟨λh=>(by cases h),λh=>(by cases h),λ_=>⟨rfl,.inr ⟨d,rfl,rfl⟩⟩⟩
 case box t v=>obtain ⟨d,k,rfl,h1,h3,h4,rfl,rfl,rfl⟩:=hs; exact ⟨λh=>(by cases h),λh=>(by cases h),λ_=>⟨rfl,.inr ⟨d,rfl,rfl⟩⟩⟩
 case buildSlice t len ps=>obtain ⟨d,E,k,bytes,rfl,h1,h3,h4,h5,h6,rfl,rfl,rfl⟩:=hs; exact ⟨λh=>(by cases h),λh=>(by cases h),λ_=>⟨rfl,.inr ⟨d,rfl,rfl⟩⟩⟩
 case makeSlice t l c=>obtain ⟨d,E,k,bytes,z,kl,kc,n,m,rfl,h1,h3,h4,h5,h8,h6,h7,rfl,rfl,rfl⟩:=hs; exact ⟨λh=>(by cases h),λh=>(by cases h),λ_=>⟨rfl,.inr ⟨d,rfl,rfl⟩⟩⟩
 case store t a v=>exact ⟨λh=>(by cases h),λh=>(by cases h),λh=>(by cases h)⟩
 case call c =>
  obtain ⟨callee,args,tys⟩:=c;simp only at hs ⊢;cases callee
  case builtin b=>cases b <;> simp only at hs ⊢ <;> first | exact ⟨λ_=>hs.2.2,λh=>(by cases h),λh=>(by cases h)⟩ | exact ⟨λh=>(by cases h),λh=>(by cases h),λh=>(by cases h)⟩
  case value f =>
   cases f <;> simp only at hs ⊢
   case func f=>obtain ⟨al,ids,h1,h3,h4,rfl,rfl⟩:=hs; exact ⟨λh=>(by cases h),λ_=>rfl,λh=>(by cases h)⟩
   case tmp t=>obtain ⟨f,ys,al,ids,g0,h1,h3,h4,rfl,rfl⟩:=hs; exact ⟨λh=>(by cases h),λ_=>rfl,λh=>(by cases h)⟩
   all_goals exact ⟨λ_=>hs.2.2,λh=>(by cases h),λh=>(by cases h)⟩
  case invoke r m=>exact ⟨λ_=>hs.2.2,λh=>(by cases h),λh=>(by cases h)⟩
def qnB [NL] {o:Oper} {x:PV} {fp:FP} {ops:List Oper} (hs:q84 P Tb ops o s h x h' fp):(cls o=0->fp=([],[]))/\(cls o=1->fp.2=[])/\(cls o=2->fp.1=[]/\(fp.2=[]\/∃ d,o.dst=some d/\fp.2=[d])):=by
 unfold q84 at hs
 split at hs
 ·exact qeo hs
 ·obtain ⟨c,_,hs⟩:=hs
  split at hs
  ·exact qeo hs
  ·obtain ⟨_,_,rfl⟩:=hs;exact ⟨λ_=>rfl,λ_=>rfl,λ_=>⟨rfl,.inl rfl⟩⟩
def qbs:∀ {l:List (Nat × Nat)} {a b:Nat},qum l a b=true->(a,b) ∈ l
 | p :: l,a,b,hp=>by
  simp only [qum,z5,zT] at hp
  rcases hp with ⟨h1,h2⟩ | h
  ·rw [<- zK h1,<- zK h2]; exact zP
  ·exact zJ _ (qbs h)
 | [],_,_,hp=>by cases hp
def qiJ [NL] {id:Nat} {l:List Oper} (prs:List (Nat × Nat)) (hm:P.follows .mixedOrders=true) (hok:qal l (qm9 [] l) prs=true) (hw:∀ K:(Nat->PV)->Hp->Prop,(∀ s h,Q .normal s h->K s h)->AL P Tb l (λs h acc=>chk prs acc.reverse/\K s h) l s h []):AW P Tb J n (.region id l.toArray true) Q s h:=λD0 w0 ρ e w hT hF S=>by
 have h1:=hw _ λ_ _ h=>h;obtain ⟨X,H,W,hG,hck,hq⟩:=qtL l s h [] h1;have hD:=Drw.of hok;rw [xK,List.reverse_reverse] at hck;intro hd a hr;have hd':l.all (q98 n)=true:=hd;refine wp_mono (Q:=λx a' w'=>x=.normal/\ql2 n (.region id l.toArray true) e (λx e' w'=>∃ s' h' ρ',Sat D0 w0 s' h' ρ' e' w'/\Q x s' h') .normal a' w') (wp_region_any hm ?_) λx a' w' hq=>by rw [hq.1]; exact hq.2
 have hdyn:∀ (i j:Nat) (o p:Oper),l[i]?=some o->l[j]?=some p->j < i->((qm9 [] l).getD i 0).testBit j=true\/dj (W j) (W i):=λi j o p ho hp hji=>by
  rcases hD.par i j o p ho hp hji with h | h | h
  ·exact .inl h
  ·refine .inr ?_;have c1:=qnB (hG j p hp);have c2:=qnB (hG i o ho);unfold harm at h;simp only [z5,zT] at h
   rcases h with ((h | h) | h) | h
   ·rw [c1.1 (zK h)]; exact ⟨λx hx=>(by cases hx),λx _ hx=>(by cases hx)⟩
   ·rw [c2.1 (zK h)]; exact ⟨λx _=>⟨λhx=>(by cases hx),λhx=>(by cases hx)⟩,λx hx=>(by cases hx)⟩
   ·have e1:=c1.2.1 (zK h.1);have e2:=c2.2.1 (zK h.2);exact ⟨λx hx=>(by rw [e1] at hx; cases hx),λx hx=>(by rw [e2] at hx; cases hx)⟩
   ·obtain ⟨e1,e2⟩:=c1.2.2 (zK h.1);obtain ⟨e3,e4⟩:=c2.2.2 (zK h.2);refine ⟨λx hx=>⟨by rw [e3]; simp,λhx2=>?_⟩,λx _=>by rw [e1]; simp⟩
    rcases e2 with e2 | ⟨d,hd1,e2⟩
    ·rw [e2] at hx; cases hx
    ·rcases e4 with e4 | ⟨d',hd2,e4⟩
     ·rw [e4] at hx2; cases hx2
     ·rw [e2] at hx; rw [e4] at hx2;simp at hx hx2;subst hx;subst hx2;have:=hD.dst i j o p x ho hp hd2 hd1;omega
  ·have:=hck (j,i) (qbs h);have g:∀ k,k < l.length->((List.range l.length).map W).getD k ([],[])=W k:=λk hk=>by simp [z7,hk]
   simp only [g j (zD.1 hp).1,g i (zD.1 ho).1] at this;exact .inr this
 have:=qq7 (P:=P) (Tb:=Tb) (n:=n) (e0:=e) (Q:=λx a' w'=>x=.normal/\ql2 n (.region id l.toArray true) e (λx e' w'=>∃ s' h' ρ',Sat D0 w0 s' h' ρ' e' w'/\Q x s' h') .normal a' w') hD hd' hT.1 hF hG hdyn (λa' e' w' ρ' r' S' ho=>⟨rfl,e',r',ho,⟨_,_,ρ',S',hq⟩⟩) l.length (y1 l.length false) a e { w with drawn:=w.drawn+1 } ρ (by omega) (by simp) (λk o x ho hl=>by
  simp only [Lo,zZ,yN] at hl
  split at hl <;> cases hl) hr (λ_ _=>rfl) (by
  have e1:sS l X (Lo (y1 l.length false)) s l.length=s:=by
   funext t
   exact q11 _ λk o _ _ hl=>by
    simp only [Lo,zZ,yN] at hl
    split at hl <;> cases hl
  have e2:hS W H (Lo (y1 l.length false)) h l.length=h:=by
   have:∀ m,hS W H (Lo (y1 l.length false)) h m=h:=λm=>by
    induction m with
    | zero=>rfl
    | succ m ih =>
     rw [hS_s,if_neg,ih];simp only [Lo,zZ,yN]
     split <;> simp
   exact this _
  rw [e1,e2];exact S.drew _)
 simpa using this
def qiI [NL] {ι:Type} {c:Code} (Ss:ι->Nat->PV) (Hs:ι->Hp) (μ:ι->Nat) (i0:ι) (hl:Le J s h (Ss i0) (Hs i0))
  (round:∀ i,AW P Tb J n c (thA (λs' h'=>∃ j,Le J s' h' (Ss j) (Hs j)/\μ j < μ i) Q) (Ss i) (Hs i)):AW P Tb J n (.loop c) Q s h:=λD0 w0 ρ e w hT hF S=>by
 intro hd a hr;obtain ⟨ρ0,S0⟩:=hl _ _ _ _ _ hT.2 S;have main:∀ (m:Nat) (i:ι) (ρ:Nat->Option Nat) (e':Env) (w':World) (a':Act),μ i < m->Sat D0 w0 (Ss i) (Hs i) ρ e' w'->Rel n a' e'->(∀ t,wr t c=false->e' t=e t)->Code.rounds P c (ql2 n (.loop c) e (λx e' w'=>∃ s' h' ρ',Sat D0 w0 s' h' ρ' e' w'/\Q x s' h')) m a' w':=by
  intro m
  induction m with
  | zero=>intro i _ _ _ _ hm; omega
  | succ m ih =>
   intro i ρ e' w' a' hm S' r' f';refine wp_mono (round i D0 w0 ρ e' w' hT hF S' hd a' r') ?_;rintro x a2 w2 ⟨e2,r2,f2,q2⟩;obtain ⟨s2,h2,ρ2,S2,q⟩:=q2;cases x
   case normal =>
    obtain ⟨j,hlj,hmj⟩:=q;obtain ⟨ρ3,S3⟩:=hlj _ _ _ _ _ hT.2 S2;exact ih j ρ3 e2 w2 a2 Oq S3 r2 λt ht=>(f2 t ht).trans (f' t ht)
   all_goals exact ⟨e2,r2,λt ht=>(f2 t ht).trans (f' t ht),s2,h2,ρ2,S2,q⟩
 exact wp_loop_rounds (μ i0+1) (main _ i0 ρ0 e w a Oq S0 hr λ_ _=>rfl)
end
def qiA [NL] {w:World} {D:Nat->Prop} {ρ:Nat->Option Nat} {h:Hp}:∀ {l vs:List Value},RdL w D (l.map .vl) ρ h vs->vs=l
 | [],vs,hr=>by unfold RdL at hr; exact hr
 | x :: l,vs,hr=>by
  rw [yG] at hr;unfold RdL at hr;obtain ⟨y,ys,rfl,h1,h2⟩:=hr;unfold Rd at h1;rw [h1,qiA h2]
inductive LeV (τ:Nat->Option Nat) (h h':Hp):PV->PV->Prop
 | un {x:PV}:LeV τ h h' x .un
 | cl {x:PV}:Cld x->LeV τ h h' x x
 | ow {i j:Nat} {k:Kd} {off n:Nat} {b:Bk}:τ i=some j->h' i=some b->LeV τ h h' (.ow j k off n) (.ow i k off n)
 | pt {i j a c:Nat} {b:Bk}:τ i=some j->h' i=some b->LeV τ h h' (.pt j a c) (.pt i a c)
 | nilow {i:Nat} {k:Kd} {b:Bk}:τ i=none->h' i=some b->b.k=k->LeV τ h h' (.vl (.slice none 0 0)) (.ow i k 0 0)
 | nilsl {k:Kd}:LeV τ h h' (.vl (.slice none 0 0)) (.sl k [])
 | nilfm {G:Fam}:(∀ D w,In G D (.slice none 0 0) w)->LeV τ h h' (.vl (.slice none 0 0)) (.fm G)
 | agv {l:List Value} {G:Fam}:(∀ D w,In G D (.agg ⟨l⟩) w)->LeV τ h h' (.ag (l.map .vl)) (.fm G)
 | fz {j:Nat} {k:Kd} {off n:Nat} {b:Bk}:h j=some b->b.st=false->b.k=k->(∀ x ∈ b.xs,Cld x)->(∀ i,τ i=some j->h' i=none)->LeV τ h h' (.ow j k off n) (.sl k ((b.xs.drop off).take n))
 | fzg {j:Nat} {k:Kd} {off n:Nat} {b:Bk} {ys:List PV}:h j=some b->b.st=false->b.k=k->b.xs.length=ys.length->(∀ (i:Nat) (x y:PV),b.xs[i]?=some x->ys[i]?=some y->LeV τ h h' x y)->(∀ y ∈ ys,Cld y)->(∀ i,τ i=some j->h' i=none)->LeV τ h h' (.ow j k off n) (.sl k ((ys.drop off).take n))
 | pq {j i:Nat} {b:Bk} {u:Value}:h j=some b->b.st=false->b.k=none->b.xs[i]?=some (.vl u)->(∀ i,τ i=some j->h' i=none)->LeV τ h h' (.pt j i 0) (.qt none (.vl u))
 | ag {l m:List PV}:l.length=m.length->(∀ (i:Nat) (x y:PV),l[i]?=some x->m[i]?=some y->LeV τ h h' x y)->LeV τ h h' (.ag l) (.ag m)
 | tu {l m:List PV}:l.length=m.length->(∀ (i:Nat) (x y:PV),l[i]?=some x->m[i]?=some y->LeV τ h h' x y)->LeV τ h h' (.tu l) (.tu m)
def LeL (τ:Nat->Option Nat) (h h':Hp) (l m:List PV):Prop:=l.length=m.length/\∀ (i:Nat) (x y:PV),l[i]?=some x->m[i]?=some y->LeV τ h h' x y
def LeB (τ:Nat->Option Nat) (h h':Hp) (i:Nat) (b':Bk):Prop :=
 match τ i with
 | some j=>∃ b,h j=some b/\b'.T=b.T/\b'.k=b.k/\(b'.st=false/\b.st=false)/\LeL τ h h' b.xs b'.xs
 | none=>b'.xs=[]
section
variable {P:Program} {Tb:World->Prop} {J:Nat->Prop} {n:Nat} {Q:SQ} {s s':Nat->PV} {h h':Hp} {τ:Nat->Option Nat}
def q4x [NL] (τ:Nat->Option Nat) (hb:∀ i b',h' i=some b'->LeB τ h h' i b') (hi:∀ i j k b c,h' i=some b->h' j=some c->τ i=some k->τ j=some k->i=j) (hs:∀ t,LeV τ h h' (s t) (s' t)) (hτ:∀ i,J i->5000<=i->i < 1000000->τ i=some i):Le J s h s' h':=λD0 w0 ρ e w hJ S=>by
 let ρ':Nat->Option Nat:=λi=>(τ i).bind ρ
 have hdd:∀ k,dm D0 ρ h k->dm D0 ρ' h' k:=λk hk=>⟨hk.1,λi b' hb' hr=>by
  have:=hb i b' hb';unfold LeB at this;cases ht:τ i with
  | none=>simp only [ρ',ht] at hr; cases hr
  | some j =>
   rw [ht] at this;obtain ⟨b,h1,_⟩:=this;simp only [ρ',ht,zF] at hr;exact hk.2 j b h1 hr⟩
 have key:∀ {x y:PV},LeV τ h h' x y->∀ {v:Value},Rd w (dm D0 ρ h) x ρ h v->Rd w (dm D0 ρ' h') y ρ' h' v:=λ{x y} hl=>by
  induction hl with
  | un=>intro v _; unfold Rd; trivial
  | cl hc=>intro v hr; exact ((q7M hc hr).sub λk _ hk=>hdd k hk).cl
  | @ow i j k off n b' ht hb' =>
   intro v hr;have:=hb i b' hb';unfold LeB at this;rw [ht] at this;obtain ⟨b,h1,_,h2,_,h3,_⟩:=this;unfold Rd at hr ⊢;obtain ⟨b2,A,c,r1,r2,r3,r4,r5,r6,r7,r8⟩:=hr;rw [h1] at r1; cases r1;have mv:∀ {A:Option Addr} {a m:Nat},AtO w (ρ j) A a m->AtO w (ρ' i) A a m:=λ⟨g,a1,a2,a3⟩=>⟨g,by simp only [ρ',ht,zF]; exact a1,a2,a3⟩;exact ⟨b',A,c,hb',by rw [h2,r2],r3,r4,r5,by omega,r7.imp (λh=>h) mv,λh0=>(r8 h0).imp (λh=>h) mv⟩
  | @pt i j a c b' ht hb' =>
   intro v hr;have:=hb i b' hb';unfold LeB at this;rw [ht] at this;obtain ⟨b,h1,_,h2,_,h3,_⟩:=this;unfold Rd at hr ⊢;obtain ⟨b2,g,r1,r2,r3,r4⟩:=hr;rw [h1] at r1; cases r1;exact ⟨b',g,hb',by simp only [ρ',ht,zF]; exact r2,by omega,by rw [h2]; exact r4⟩
  | @nilow i k b' ht hb' hk =>
   intro v hr;unfold Rd at hr ⊢;exact ⟨b',none,0,hb',hk,hr,zU _,by simp [maxLen],by omega,.inl rfl,λ_=>.inl ⟨rfl,rfl⟩⟩
  | nilsl =>
   intro v hr;unfold Rd at hr ⊢;exact ⟨none,0,0,[],hr,Row.nil _ _ _,rfl,by unfold RdL; rfl,λv hv=>by cases hv⟩
  | nilfm hG =>
   intro v hr;unfold Rd at hr ⊢;rw [hr];exact hG _ _
  | @agv l G hG =>
   intro v hr;unfold Rd at hr ⊢;obtain ⟨vs,rfl,hr⟩:=hr;rw [qiA hr];exact hG _ _
  | @pq j i b u hj hst hk hu hno =>
   intro v hr;unfold Rd at hr;obtain ⟨b2,g,r1,r2,r3,r4⟩:=hr;rw [hj] at r1; cases r1;obtain ⟨v',q1,q2,q3⟩:=(S.own j b g hj r2).2.unit hst hu;unfold Rd at q1;subst q1;rw [hk] at q2 q3 r4;unfold Rd;refine ⟨_,v',r4,⟨(S.own j b g hj r2).1.2,λi b' hb' hr'=>?_⟩,by unfold Rd; rfl,⟨q2,xY⟩,λj t ht=>by rw [q1M]; exact q3 j t ht⟩;have h7:=hb i b' hb';unfold LeB at h7;cases ht:τ i with
   | none=>simp only [ρ',ht] at hr'; cases hr'
   | some j' =>
    rw [ht] at h7;obtain ⟨b2,e1,_,_,⟨_,e2⟩,_⟩:=h7;simp only [ρ',ht,zF] at hr'
    rcases S.inj j' j b2 b g e1 hj hst hr' r2 with e | e
    ·subst e;have:=hno i ht;rw [hb'] at this; cases this
    ·rw [e2] at e; cases e
  | @fz j k off n b hj hst hk hcl hno =>
   intro v hr;subst hk;obtain ⟨A,c,vs,rfl,q1,q2,q3⟩:=S.row hj hst hr;have hb0:off+n<=b.xs.length:=by
    unfold Rd at hr;obtain ⟨b',_,_,h1,_,_,_,_,h5,_⟩:=hr;rw [hj] at h1; cases h1; exact h5
   unfold Rd;refine ⟨A,n,c,vs,rfl,q1.sub λk _ hk=>⟨(S.own j b k hj hk).1.2,λi b' hb' hr'=>?_⟩,by simp; omega,?_,q3⟩
   ·have h7:=hb i b' hb';unfold LeB at h7;cases ht:τ i with
    | none=>simp only [ρ',ht] at hr'; cases hr'
    | some j' =>
     rw [ht] at h7;obtain ⟨b2,e1,_,_,⟨_,e2⟩,_⟩:=h7;simp only [ρ',ht,zF] at hr'
     rcases S.inj j' j b2 b k e1 hj hst hr' hk with e | e
     ·subst e;have:=hno i ht;rw [hb'] at this; cases this
     ·rw [e2] at e; cases e
   ·obtain ⟨q4,q5⟩:=RdL.iff.1 q2;exact RdL.iff.2 ⟨q4,λi z v hz hv=>(q7M (hcl z (zM (zN (zG hz)))) (q5 i z v hz hv)).sub λk _ hk=>hdd k hk⟩
  | @fzg j k off n b ys hj hst hk hly _ hcl hno ih =>
   intro v hr;subst hk;obtain ⟨A,c,vs,rfl,q1,q2,q3⟩:=S.row hj hst hr;have hb0:off+n<=b.xs.length:=by
    unfold Rd at hr;obtain ⟨b',_,_,h1,_,_,_,_,h5,_⟩:=hr;rw [hj] at h1; cases h1; exact h5
   unfold Rd;refine ⟨A,n,c,vs,rfl,q1.sub λk _ hk=>⟨(S.own j b k hj hk).1.2,λi b' hb' hr'=>?_⟩,by simp; omega,?_,q3⟩
   ·have h7:=hb i b' hb';unfold LeB at h7;cases ht:τ i with
    | none=>simp only [ρ',ht] at hr'; cases hr'
    | some j' =>
     rw [ht] at h7;obtain ⟨b2,e1,_,_,⟨_,e2⟩,_⟩:=h7;simp only [ρ',ht,zF] at hr'
     rcases S.inj j' j b2 b k e1 hj hst hr' hk with e | e
     ·subst e;have:=hno i ht;rw [hb'] at this; cases this
     ·rw [e2] at e; cases e
   ·obtain ⟨q4,q5⟩:=RdL.iff.1 q2;refine RdL.iff.2 ⟨by rw [<- q4]; simp [hly],λi z v hz hv=>?_⟩;have hin:i < n:=by
     rcases yQ i n with h | h
     ·exact h
     ·rw [zW (by simp; omega)] at hz; cases hz
    have hz2:ys[off+i]?=some z:=by rw [zH,if_pos hin,zO] at hz; exact hz
    obtain ⟨x,hx⟩:∃ x,b.xs[off+i]?=some x:=⟨_,zC Oq⟩;have hx2:((b.xs.drop off).take n)[i]?=some x:=by rw [zH,if_pos hin,zO]; exact hx
    exact q7M (hcl z (zG hz2)) (ih (off+i) x z hx hz2 (q5 i x v hx2 hv))
  | ag hlen _ ih =>
   intro v hr;unfold Rd at hr ⊢;obtain ⟨vs,r1,r2⟩:=hr;obtain ⟨r3,r4⟩:=RdL.iff.1 r2;refine ⟨vs,r1,RdL.iff.2 ⟨by omega,λi y v hy hv=>?_⟩⟩;have hlt:=(zD.1 hy).1;have hx:=zC (show i < _ by rw [hlen]; exact hlt);exact ih i _ y hx hy (r4 i _ v hx hv)
  | tu hlen _ ih =>
   intro v hr;unfold Rd at hr ⊢;obtain ⟨vs,r1,r2⟩:=hr;obtain ⟨r3,r4⟩:=RdL.iff.1 r2;refine ⟨vs,r1,RdL.iff.2 ⟨by omega,λi y v hy hv=>?_⟩⟩;have hlt:=(zD.1 hy).1;have hx:=zC (show i < _ by rw [hlen]; exact hlt);exact ih i _ y hx hy (r4 i _ v hx hv)
 refine ⟨ρ',λi j b c g bi bj hst ri rj=>?_,λi b' g bi ri=>?_,λi b' bi ri=>?_,λt=>key (hs t) (S.rd t),S.ext,S.fr,S.imp,λi g hj=>by simp only [ρ',hτ i (hJ i g hj) (w0.lo i g hj).1 (w0.lo i g hj).2,zF]; exact S.pin i g hj⟩
 ·have h1:=hb i b bi;have h2:=hb j c bj;unfold LeB at h1 h2;cases t1:τ i with
  | none=>simp only [ρ',t1] at ri; cases ri
  | some i' =>
   cases t2:τ j with
   | none=>simp only [ρ',t2] at rj; cases rj
   | some j' =>
    rw [t1] at h1;rw [t2] at h2;obtain ⟨b1,q1,_,_,⟨q2,q2'⟩,_⟩:=h1;obtain ⟨b2,q3,_,_,⟨q4,q4'⟩,_⟩:=h2;simp only [ρ',t1,t2,zF] at ri rj
    rcases S.inj i' j' b1 b2 g q1 q3 q4' ri rj with h | h
    ·subst h; exact .inl (hi i j i' b c bi bj t1 t2)
    ·rw [q2'] at h; cases h
 ·have h1:=hb i b' bi;unfold LeB at h1;cases t1:τ i with
  | none=>simp only [ρ',t1] at ri; cases ri
  | some j =>
   rw [t1] at h1;obtain ⟨b,q1,q2,q3,q4,q5,q6⟩:=h1;simp only [ρ',t1,zF] at ri;obtain ⟨a1,cs,c1,c2,c3⟩:=S.own j b g q1 ri;refine ⟨a1,cs,by rw [q2]; exact c1,c2,λhst=>?_⟩;obtain ⟨vs,v1,v2,v3⟩:=c3 q4.2;obtain ⟨r3,r4⟩:=RdL.iff.1 v2;refine ⟨vs,by rw [<- q5,q3]; exact v1,RdL.iff.2 ⟨by omega,λm y v hy hv=>?_⟩,by rw [q3]; exact v3⟩;have hlt:=(zD.1 hy).1;have hx:=zC (show m < b.xs.length by omega);exact key (q6 m _ y hx hy) (r4 m _ v hx hv)
 ·have h1:=hb i b' bi;unfold LeB at h1;cases t1:τ i with
  | none=>rw [t1] at h1; exact h1
  | some j =>
   rw [t1] at h1;obtain ⟨b,q1,q2,q3,q4,q5,q6⟩:=h1;simp only [ρ',t1,zF] at ri;have:=S.vir j b q1 ri;rw [this] at q5;exact zS q5.symm
end
def lkP:List (Nat × PV)->Nat->Option PV
 | [],_=>none
 | p :: l,t=>if t=p.1 then some p.2 else lkP l t
def lkB:List (Nat × Bk)->Nat->Option Bk
 | [],_=>none
 | p :: l,t=>if t=p.1 then some p.2 else lkB l t
def kin:List Nat->Nat->Bool
 | [],_=>false
 | a :: l,t=>if t=a then true else kin l t
def stK (xs:List (Nat × PV)) (ks:List Nat) (s:Nat->PV) (t:Nat):PV:=match lkP xs t with | some x=>x | none=>if kin ks t then s t else .un
def hpK (bs:List (Nat × Bk)) (kb:List Nat) (h:Hp) (i:Nat):Option Bk:=match lkB bs i with | some b=>some b | none=>if kin kb i then h i else none
def q0h:List (Nat × Option Nat)->Nat->Option Nat
 | [],i=>some i
 | p :: l,i=>if i=p.1 then p.2 else q0h l i
def qtW:List (Nat × Option Nat)->Bool
 | []=>true
 | p :: l=>(Nat.blt p.1 5000 || Nat.ble 1000000 p.1) && qtW l
def qaK:∀ {l:List (Nat × Option Nat)},qtW l=true->∀ i,5000<=i->i < 1000000->q0h l i=some i
 | [],_,_,_,_=>rfl
 | p :: l,ht,i,hi,hi2=>by
  simp only [qtW,zT,z5] at ht;have h1:p.1 < 5000\/1000000<=p.1:=ht.1.imp (λh=>by simp [Nat.blt] at h; omega) (λh=>Nat.le_of_ble_eq_true h);unfold q0h;rw [if_neg (by omega)];exact qaK ht.2 i hi hi2
def q5X (τ:Nat->Option Nat) (h h':Hp) (s:Nat->PV):List (Nat × PV)->Prop
 | []=>True
 | p :: l=>LeV τ h h' (s p.1) p.2/\q5X τ h h' s l
def LeSk (τ:Nat->Option Nat) (h h':Hp) (s s0:Nat->PV):List Nat->Prop
 | []=>True
 | t :: l=>LeV τ h h' (s t) (s0 t)/\LeSk τ h h' s s0 l
def qdv (τ:Nat->Option Nat) (h h':Hp):List (Nat × Bk)->Prop
 | []=>True
 | p :: l=>LeB τ h h' p.1 p.2/\qdv τ h h' l
def LeBk (τ:Nat->Option Nat) (h h' h0:Hp):List Nat->Prop
 | []=>True
 | i :: l=>(∀ b,h0 i=some b->LeB τ h h' i b)/\LeBk τ h h' h0 l
def dom1 (bs:List (Nat × Bk)) (kb:List Nat):List Nat:=bs.map (·.1) ++ kb
def q8p (τ:Nat->Option Nat):List Nat->Prop
 | []=>True
 | i :: l=>(∀ j ∈ l,i=j\/τ i=none\/τ i≠τ j)/\q8p τ l
section
variable {P:Program} {Tb:World->Prop} {J:Nat->Prop} {n:Nat} {Q:SQ} {s s' s0:Nat->PV} {h h' hb0:Hp} {τ:Nat->Option Nat} {xs:List (Nat × PV)} {ks kb:List Nat} {bs:List (Nat × Bk)}
def q3t:∀ {l:List Nat},q8p τ l->∀ i ∈ l,∀ j ∈ l,i=j\/τ i=none\/τ i≠τ j
 | a :: l,ht,i,hi,j,hj=>by
  rcases yM.1 hi with h1 | h1 <;> rcases yM.1 hj with h2 | h2
  ·exact .inl (h1.trans h2.symm)
  ·rw [h1]; exact ht.1 j h2
  ·rw [h2]
   rcases ht.1 i h1 with h | h | h
   ·exact .inl h.symm
   ·by_cases h2:τ i=none
    ·exact .inr (.inl h2)
    ·exact .inr (.inr (by rw [h]; exact h2))
   ·exact .inr (.inr (λe=>h e.symm))
  ·exact q3t ht.2 i h1 j h2
def stV:List (Nat × PV)->Nat->PV
 | [],_=>.un
 | p :: l,t=>if t=p.1 then p.2 else stV l t
def stM:List (Nat × PV)->List (Nat × PV)->Nat->PV
 | [],kv,t=>stV kv t
 | p :: l,kv,t=>if t=p.1 then p.2 else stM l kv t
def hpV:List (Nat × Option Bk)->Hp
 | [],_=>none
 | p :: l,i=>if i=p.1 then p.2 else hpV l i
def hpM:List (Nat × Bk)->List (Nat × Option Bk)->Hp
 | [],kb,i=>hpV kb i
 | p :: l,kb,i=>if i=p.1 then some p.2 else hpM l kb i
def q9w (τ:Nat->Option Nat) (h h':Hp):List (Nat × Option Bk)->Prop
 | []=>True
 | p :: l=>(∀ b,p.2=some b->LeB τ h h' p.1 b)/\q9w τ h h' l
def qn9:∀ {kv:List (Nat × PV)},q5X τ h h' s kv->∀ t,LeV τ h h' (s t) (stV kv t)
 | [],_,_=>.un
 | p :: l,hl,t=>by
  unfold stV
  split
  ·rename_i ht; subst ht; exact hl.1
  ·exact qn9 hl.2 t
def q7S {kv:List (Nat × PV)} (h2:q5X τ h h' s kv):∀ {xs:List (Nat × PV)},q5X τ h h' s xs->∀ t,LeV τ h h' (s t) (stM xs kv t)
 | [],_,t=>qn9 h2 t
 | p :: l,hl,t=>by
  unfold stM
  split
  ·rename_i ht; subst ht; exact hl.1
  ·exact q7S h2 hl.2 t
def qcq {h2:Hp}:∀ {kb:List (Nat × Option Bk)},q9w τ h h2 kb->∀ i b,hpV kb i=some b->LeB τ h h2 i b/\i ∈ kb.map (·.1)
 | [],_,_,_,hb=>by cases hb
 | p :: l,hl,i,b,hb=>by
  unfold hpV at hb
  split at hb
  ·rename_i hi; subst hi; exact ⟨hl.1 b hb,zP⟩
  ·have:=qcq hl.2 i b hb; exact ⟨this.1,zJ _ this.2⟩
def q44 {h2:Hp} {kb:List (Nat × Option Bk)} (hk:q9w τ h h2 kb):∀ {bs:List (Nat × Bk)},qdv τ h h2 bs->∀ i b,hpM bs kb i=some b->LeB τ h h2 i b/\i ∈ bs.map (·.1) ++ kb.map (·.1)
 | [],_,i,b,hb=>qcq hk i b hb
 | p :: l,hl,i,b,hb=>by
  unfold hpM at hb
  split at hb
  ·rename_i hi; subst hi; cases hb; exact ⟨hl.1,zP⟩
  ·have:=q44 hk hl.2 i b hb; exact ⟨this.1,zJ _ this.2⟩
def LeM [NL] (l:List (Nat × Option Nat)) (hl:qtW l=true) {τ:Nat->Option Nat} (hlt:q0h l=τ) {kv:List (Nat × PV)} {kb:List (Nat × Option Bk)} (hh:q5X τ h (hpM bs kb) s xs/\q5X τ h (hpM bs kb) s kv/\qdv τ h (hpM bs kb) bs/\q9w τ h (hpM bs kb) kb/\q8p τ (bs.map (·.1) ++ kb.map (·.1))):Le J s h (stM xs kv) (hpM bs kb):=by
 obtain ⟨h1,h2,h3,h4,h5⟩:=hh;refine q4x τ (λi b hb=>(q44 h4 h3 i b hb).1) (λi j k b c hi hj ti tj=>?_) (λt=>q7S h2 h1 t) (by rw [<- hlt]; exact λi _=>qaK hl i)
 rcases q3t h5 i (q44 h4 h3 i b hi).2 j (q44 h4 h3 j c hj).2 with h | h | h
 ·exact h
 ·rw [ti] at h; cases h
 ·rw [ti,tj] at h; exact absurd rfl h
def q0A [NL] {ι:Type} {c:Code} (I:ι->Prop) (ks kb:List Nat) {kv:List (Nat × PV)} {kbv:List (Nat × Option Bk)} (hk:(ks.map λt=>(t,s t))=kv) (hb:(kb.map λi=>(i,h i))=kbv) (xs:ι->List (Nat × PV)) (bs:ι->List (Nat × Bk)) (μ:ι->Nat) (i0:ι) (hI:I i0) (hl:Le J s h (stM (xs i0) kv) (hpM (bs i0) kbv))
  (round:∀ i,I i->AW P Tb J n c (thA (λs' h'=>∃ j,I j/\μ j < μ i/\Le J s' h' (stM (xs j) kv) (hpM (bs j) kbv)) Q) (stM (xs i) kv) (hpM (bs i) kbv)):AW P Tb J n (.loop c) Q s h :=
 qiI (ι:={i:ι // I i}) (λi=>stM (xs i.1) kv) (λi=>hpM (bs i.1) kbv) (λi=>μ i.1) ⟨i0,hI⟩ hl λi=>by
  intro D0 w0 ρ e w hT hF S;refine q6d (λx e' w' hx=>?_) (round i.1 i.2 D0 w0 ρ e w hT hF S);obtain ⟨s',h',ρ',S',q⟩:=hx;refine ⟨s',h',ρ',S',?_⟩;cases x
  case normal=>obtain ⟨j,h1,h2,h3⟩:=q; exact ⟨⟨j,h1⟩,h3,h2⟩
  all_goals exact q
def enP (l:List PV) (i:Nat):PV:=l.getD i .un
def rsP (P:Program) (h:Hp) (s:Nat->PV):ResultVar->Option PV
 | .tmp t=>some (s t)
 | .cell a t=>(ldP h (q0c P t) (s a)).map (·.1)
def rsL (P:Program) (h:Hp) (s:Nat->PV):List ResultVar->Option (List PV)
 | []=>some []
 | r :: l=>(rsP P h s r).bind λx=>(rsL P h s l).map λy=>x :: y
def mkV:List Value->Value
 | [x]=>x
 | l=>.tuple ⟨l⟩
def mkR:List PV->PV
 | [x]=>x
 | l=>.tu l
def retA (P:Program) (fn:Func) (r:PV):SQ:=λx s h=>(x=.ret\/x=.normal)/\fn.results.toList.length<=4/\∃ l al ids,rsL P h s fn.results.toList=some l/\q21 h l=some (al,ids)/\LeV (λ_=>none) h0 h0 (mkR al) r
end
section
variable {P:Program} {Tb:World->Prop} {J:Nat->Prop} {n:Nat} {s:Nat->PV} {h:Hp} {D0:Nat->Prop} {w0:Base} {w:World} {ρ:Nat->Option Nat} {e:Env}
def qu9 {fn:Func} {R:Ending->World->Prop} {r s q t:ResultVar} {v u x y:Value} (h:fn.results=#[r,s,q,t]) (a0:q9t P w e r=some v) (a1:q9t P w e s=some u) (a2:q9t P w e q=some x) (a3:q9t P w e t=some y) (hR:R (.returned (.tuple #[v,u,x,y])) w):qiN P fn R .ret e w:=by
 have b0:=q1d a0;have b1:=q1d a1;have b2:=q1d a2;have b3:=q1d a3;exact ⟨.tuple #[v,u,x,y],by simp [qjC,h,b0,b1,b2,b3],hR⟩
def qou [NL] (S:Sat D0 w0 s h ρ e w) {r:ResultVar} {x:PV} (hr:rsP P h s r=some x):∃ v,q9t P w e r=some v/\Rd w (dm D0 ρ h) x ρ h v:=by
 cases r with
 | tmp t=>unfold rsP at hr; cases hr; exact ⟨e t,rfl,S.rd t⟩
 | cell a t =>
  unfold rsP at hr;obtain ⟨y,hy,rfl⟩:=zA.1 hr;obtain ⟨v,hv,hr⟩:=qfy S (a:=.tmp a) hy;refine ⟨v,?_,hr⟩;simp only [ev] at hv;unfold q9t;unfold ldV at hv
  split at hv
  ·rename_i p hp;simp only [hp];cases hk:q0c P t with
   | none=>rw [hk] at hv; cases hv
   | some o=>cases o <;> (rw [hk] at hv; exact hv)
  ·cases hv
def qyl [NL] {x y:PV} (hl:LeV (λ_=>none) h0 h0 x y) {D:Nat->Prop}:∀ {v:Value},Rd w D x (λ_=>none) h0 v->Rd w D y (λ_=>none) h0 v:=by
 induction hl with
 | un=>intro v _; unfold Rd; trivial
 | cl hc=>intro v hr; exact hr
 | ow ht _=>cases ht
 | pt ht _=>cases ht
 | nilow _ hb _=>cases hb
 | nilfm hG =>
  intro v hr;unfold Rd at hr ⊢;rw [hr];exact hG _ _
 | agv hG =>
  intro v hr;unfold Rd at hr ⊢;obtain ⟨vs,rfl,hr⟩:=hr;rw [qiA hr];exact hG _ _
 | fz hj _ _ _ _=>cases hj
 | pq hj _ _ _ _=>cases hj
 | fzg hj _ _ _ _ _ _=>cases hj
 | nilsl =>
  intro v hr;unfold Rd at hr ⊢;exact ⟨none,0,0,[],hr,Row.nil _ _ _,rfl,by unfold RdL; rfl,λv hv=>by cases hv⟩
 | ag hlen _ ih =>
  intro v hr;unfold Rd at hr ⊢;obtain ⟨vs,r1,r2⟩:=hr;obtain ⟨r3,r4⟩:=RdL.iff.1 r2;refine ⟨vs,r1,RdL.iff.2 ⟨by omega,λi y v hy hv=>?_⟩⟩;have hlt:=(zD.1 hy).1;have hx:=zC (show i < _ by rw [hlen]; exact hlt);exact ih i _ y hx hy (r4 i _ v hx hv)
 | tu hlen _ ih =>
  intro v hr;unfold Rd at hr ⊢;obtain ⟨vs,r1,r2⟩:=hr;obtain ⟨r3,r4⟩:=RdL.iff.1 r2;refine ⟨vs,r1,RdL.iff.2 ⟨by omega,λi y v hy hv=>?_⟩⟩;have hlt:=(zD.1 hy).1;have hx:=zC (show i < _ by rw [hlen]; exact hlt);exact ih i _ y hx hy (r4 i _ v hx hv)
def qfL [NL] (S:Sat D0 w0 s h ρ e w):∀ {rs:List ResultVar} {l:List PV},rsL P h s rs=some l->∃ vs,rs.map (q9t P w e)=vs.map some/\RdL w (dm D0 ρ h) l ρ h vs
 | [],l,hl=>by unfold rsL at hl; cases hl; exact ⟨[],rfl,by unfold RdL; rfl⟩
 | r :: rs,l,hl=>by
  unfold rsL at hl;obtain ⟨x,hx,hl⟩:=zB.1 hl;obtain ⟨y,hy,rfl⟩:=zA.1 hl;obtain ⟨v,h1,h2⟩:=qou S hx;obtain ⟨vs,h3,h4⟩:=qfL S hy;exact ⟨v :: vs,by rw [yG,yG,h1,h3],by unfold RdL; exact ⟨v,vs,rfl,h2,h4⟩⟩
def AC_of [NL] {f:FuncId} {fn:Func} {c:Code} {al:List PV} {r:PV} (hc:q0I P f=true) (hf:P.funcs[f]?=some fn) (hb:fn.body=some c) (hn:fn.ntmps=n) (hd:(decide (al.length<=n) && q8K n c)=true) (hTE:∀ w w',Ext w w'->Tb w->Tb w')
  (hw:AW P Tb (λ_=>False) n c (retA P fn r) (enP al) h0):AC P Tb f al r:=by
 refine ⟨hc,λD w vs hT hF hR=>?_⟩;have hlen:=hR.len;refine q65 hf hb hn (by rw [xB,hlen]; exact hd) ?_;have hdm:dm D (λ_=>none) h0=D:=by
  funext k
  exact propext ⟨λh=>h.1,λh=>⟨h,λi b hi=>by cases hi⟩⟩
 have S:Sat D ⟨w,λk=>k < w.heap.size,λ_ _ _=>False,λ_ _=>False,λ_ h=>h,λ_ _ h=>h.elim⟩ (enP al) h0 (λ_=>none) (q4r vs) w:=by
  refine ⟨λi j b c g hi=>(by cases hi),λi b g hi=>(by cases hi),λi b hi=>(by cases hi),λt=>?_,Kp.refl _ _,hF,λ_ _ _ h=>h.elim,λ_ _ h=>h.elim⟩;rw [hdm];obtain ⟨h1,h2⟩:=RdL.iff.1 hR;unfold enP q4r;rw [z7,z7];cases ht:al[t]? with
  | none=>simp only [Option.getD_none]; unfold Rd; trivial
  | some x =>
   have hlt:=(zD.1 ht).1;have hv:=zC (l:=vs) (show t < vs.length by omega);rw [hv];exact h2 t x _ ht hv
 refine q6d (λx e' w' hx=>?_) (hw D ⟨w,λk=>k < w.heap.size,λ_ _ _=>False,λ_ _=>False,λ_ h=>h,λ_ _ h=>h.elim⟩ _ _ w ⟨λw' hx=>hTE _ _ (hx.mono λk hk _=>hk) hT,λ_ _ h=>h⟩ hF S);obtain ⟨s',h',ρ',S',hx,h4,l,cl,ids,h1,h2,h3⟩:=hx;have hxt:Ext w w':=S'.ext.mono λk hk _=>hk;obtain ⟨us,u1,u2⟩:=qfL S' h1;have u3:=q63 S' h2 u2;have u4:RdL w' D cl (λ_=>none) h0 us:=u3.sub λk hk hq=>by
  rcases hq with hq | ⟨i,hi,hr⟩
  ·exact hq.1
  ·by_cases hs:∃ b,h' i=some b
   ·obtain ⟨b,hb⟩:=hs;exact (S'.own i b k hb hr).1.2
   ·rcases yQ k w.heap.size with hlt | hge
    ·exfalso
     have:∀ {l:List PV} {r:List PV × List Nat},q21 h' l=some r->∀ i ∈ r.2,∃ b,h' i=some b:=λ{l r} hc i hi=>q5h hc i hi;exact hs (this h2 i hi)
    ·exact hF k hge
 have hcl:cl.length=us.length:=(RdL.iff.1 u4).1;have hres:Rd w' D r (λ_=>none) h0 (mkV us):=by
  refine qyl h3 ?_;clear u1 u2 u3 h2 h3 h1 hcl;cases cl with
  | nil=>unfold RdL at u4; subst u4; unfold mkR mkV Rd; exact ⟨[],rfl,by unfold RdL; rfl⟩
  | cons c cl =>
   cases cl with
   | nil =>
    unfold RdL at u4;obtain ⟨y,ys,rfl,e1,e2⟩:=u4;unfold RdL at e2;subst e2;exact e1
   | cons d cl =>
    have u5:=u4;unfold RdL at u5;obtain ⟨y,ys,rfl,e1,e2⟩:=u5;unfold RdL at e2;obtain ⟨z,zs,rfl,e3,e4⟩:=e2
    show Rd w' D (.tu (c :: d :: cl)) _ _ (.tuple ⟨y :: z :: zs⟩)
    unfold Rd;exact ⟨_,rfl,u4⟩
 have key:qiN P fn (λx w'=>∃ v,x=.returned v/\Ext w w'/\Rd w' D r (λ_=>none) h0 v) .ret e' w':=by
  cases hrs:fn.results with
  | mk rs =>
  rw [hrs] at u1 h4;simp only at u1 h4;clear u2 u3 u4 h1 h2 h3 hcl
  rcases rs with _ | ⟨a,_ | ⟨b,_ | ⟨c,_ | ⟨d,_ | ⟨f,rs⟩⟩⟩⟩⟩ <;> rcases us with _ | ⟨x,_ | ⟨y,_ | ⟨z,_ | ⟨t,_ | ⟨t',us⟩⟩⟩⟩⟩ <;> simp at u1 h4
  ·exact ret0 hrs ⟨_,rfl,hxt,hres⟩
  ·exact quc hrs u1 ⟨_,rfl,hxt,hres⟩
  ·exact qub hrs u1.1 u1.2 ⟨_,rfl,hxt,hres⟩
  ·exact qua hrs u1.1 u1.2.1 u1.2.2 ⟨_,rfl,hxt,hres⟩
  ·exact qu9 hrs u1.1 u1.2.1 u1.2.2.1 u1.2.2.2 ⟨_,rfl,hxt,hres⟩
 rcases hx with rfl | rfl
 ·exact key
 ·exact key
end
class Cn (α:Type) where
 k:α
def cK (p:Prop) [A:Cn Prop]:Prop:=p/\A.k
def oK {α:Type} (o:Option α) [K:Cn (α->Prop)]:Prop:=q2b o K.k
def nnK (o:Option Bk) (d:Nat) (A:Prop):Prop:=(o=none/\d < 5000)/\A
def q1q [NL] (k:Kd) (x:PV) (A:Prop):Prop:=q8D k x/\A
def vK (x:PV) (K:PV->Prop):Prop:=K x
def ldK (o:Option (PV × List Nat)) [K:Cn (PV->List Nat->Prop)]:Prop:=match o with | some (x,l)=>K.k x l | none=>False
def pgA (o:Option Bool) (b:Bool) [A:Cn Prop] [B:Cn Prop]:Prop:=match o with | some c=>if c=b then A.k else B.k | none=>False
def mkA (bytes:Nat) (l c:PV) (K:Nat->Prop):Prop:=match l,c with | .vl (.int _ a),.vl (.int _ b)=>0<=a/\a<=b/\bytes*b.toNat<=281474976710656/\b.toNat<=maxLen/\K a.toNat | _,_=>False
def qdb [NL] (k:Kd) (l:List PV) (A:Prop):Prop:=(∀ x ∈ l,q8D k x)/\A
def q9q [NL] (o:Option Bk) (k:Option Kd) (m:Option Nat) (i j:Nat) (x:PV) (K:Bk->Prop):Prop :=
 ∃ b k' u u',o=some b/\k=some k'/\m=some (ksz k')/\b.st=false/\q8D k' x/\b.xs[i]?=some u/\stU b.k k' j u x=some u'/\K { b with xs:=b.xs.set i u' }
def qsV [NL] (h:Hp) (k:Option Kd) (m:Option Nat) (p x:PV) (K:Nat->Bk->Prop):Prop:=match p with | .pt id i j=>q9q (h id) k m i j x (K id) | _=>False
def qnY (o:Option Bk) (E:TypeId) (k k':Kd) (off n id:Nat) (K:List PV->Option Nat->Prop):Prop:=∃ b,o=some b/\(b.st=false/\b.T=E/\b.k=k/\k'=k/\off=0/\n=b.xs.length)/\K b.xs (some id)
def qnZ (h:Hp) (E:TypeId) (k:Kd) (p:PV) (K:List PV->Option Nat->Prop):Prop:=match p with
 | .vl (.slice none 0 0)=>K [] none
 | .ow id k' off n=>qnY (h id) E k k' off n id K
 | _=>False
def qtj (h:Hp) (i0:Option Nat) (b:Bk):Hp:=match i0 with | none=>h | some i=>q0R h i b
def qnX (o:Option Bk) (k k':Kd) (off n id:Nat) (K:List PV->List Nat->Prop):Prop:=∃ b,o=some b/\(b.st=false/\b.k=k/\k'=k)/\K ((b.xs.drop off).take n) [id]
def qiP (h:Hp) (k:Kd) (p:PV) (K:List PV->List Nat->Prop):Prop:=match p with
 | .vl (.slice none 0 0)=>K [] []
 | .sl k' l=>k'=k/\K l []
 | .ow id k' off n=>qnX (h id) k k' off n id K
 | _=>False
noncomputable def cO {α:Type} (p:Prop) (o:Option α):Option α:=open Classical in if p then o else none
def ClL (l:List PV):Prop:=∀ x ∈ l,Cld x
noncomputable def clB [h:Cn Hp] (o:Option Bk) (id:Nat) (k:Kd) (off n:Nat):Option (PV × List Nat):=open Classical in o.bind λb=>if b.st=false/\b.k=k/\∀ x ∈ b.xs,Cld x then some (.sl k ((b.xs.drop off).take n),[id]) else if b.st=false/\b.k=k then (q1b h.k b.xs).map λr=>(.sl k ((r.1.drop off).take n),id :: r.2) else none
noncomputable def cO2 {α:Type} (p:Prop) (o:Option α) [q:Cn (Option α)]:Option α:=open Classical in if p then o else q.k
def qhY (a:Option (PV × List Nat)) (b:Option (List PV × List Nat)):Option (List PV × List Nat):=a.bind λa=>b.map λb=>(a.1 :: b.1,a.2 ++ b.2)
def q5W [NL] (P:Program) (Tb:World->Prop) (f:FuncId) (o:Option (List PV × List Nat)) [K:Cn (PV->List Nat->Prop)]:Prop:=∃ al ids x,o=some (al,ids)/\AC P Tb f al x/\(ids=[]\/Nz x)/\K.k x ids
def ao [NL] (P : Program) (Tb : World -> Prop) (d : Option Nat) (op : Op) (s : Nat -> PV) (h : Hp) (K : PV -> Hp -> FP -> Prop) : Prop := ∃ x h' fp, Stp P Tb ⟨d, op, 0, "", #[], none⟩ s h x h' fp /\ K x h' fp
def qqp (prs:List (Nat × Nat)) (acc:List FP):Prop:=chk prs acc.reverse
section
variable {P:Program} {Tb:World->Prop}
@[congr] theorem qvD {o o':Option Bk} {d:Nat} {A:Prop} (h:o=o'):nnK o d A=nnK o' d A:=by rw [h]
@[congr] theorem qs6 [NL] {k:Kd} {x x':PV} {A:Prop} (h:x=x'):q1q k x A=q1q k x' A:=by rw [h]
@[congr] theorem qs5 [NL] {k:Kd} {x x':List PV} {A:Prop} (h:x=x'):qdb k x A=qdb k x' A:=by rw [h]
@[congr] theorem vK_congr {x x':PV} {K:PV->Prop} (h:x=x'):vK x K=vK x' K:=by rw [h]
@[congr] theorem qvM {y:Nat} {l l' c c':PV} {K:Nat->Prop} (h:l=l') (h':c=c'):mkA y l c K=mkA y l' c' K:=by rw [h,h']
@[congr] theorem qsW [NL] {o o':Option Bk} {k k':Option Kd} {m m':Option Nat} {i j:Nat} {x:PV} {K:Bk->Prop} (h1:o=o') (h2:k=k') (h3:m=m'):q9q o k m i j x K=q9q o' k' m' i j x K:=by rw [h1,h2,h3]
@[congr] theorem qsU [NL] {h:Hp} {k k':Option Kd} {m m':Option Nat} {p p' x x':PV} {K:Nat->Bk->Prop} (h1:p=p') (h2:x=x'):qsV h k m p x K=qsV h k m p' x' K:=by rw [h1,h2]
@[congr] theorem qse {o o':Option Bk} {E:TypeId} {k k':Kd} {off n id:Nat} {K:List PV->Option Nat->Prop} (h:o=o'):qnY o E k k' off n id K=qnY o' E k k' off n id K:=by rw [h]
@[congr] theorem qsf {h:Hp} {E:TypeId} {k:Kd} {p p':PV} {K:List PV->Option Nat->Prop} (h1:p=p'):qnZ h E k p K=qnZ h E k p' K:=by rw [h1]
@[congr] theorem qsc {o o':Option Bk} {k k':Kd} {off n id:Nat} {K:List PV->List Nat->Prop} (h:o=o'):qnX o k k' off n id K=qnX o' k k' off n id K:=by rw [h]
@[congr] theorem qsd {h:Hp} {k:Kd} {p p':PV} {K:List PV->List Nat->Prop} (h1:p=p'):qiP h k p K=qiP h k p' K:=by rw [h1]
@[congr] theorem ao_congr [NL] {d:Option Nat} {op:Op} {s:Nat->PV} {h:Hp} {K:PV->Hp->FP->Prop}:ao P Tb d op s h K=ao P Tb d op s h K:=rfl
@[congr] theorem AL_congr [NL] {ops l:List Oper} {K:(Nat->PV)->Hp->List FP->Prop} {s:Nat->PV} {h:Hp} {acc:List FP}:AL P Tb ops K l s h acc=AL P Tb ops K l s h acc:=rfl
@[congr] theorem AW_congr [NL] {J:Nat->Prop} {n:Nat} {c:Code} {Q:SQ} {s:Nat->PV} {h:Hp}:AW P Tb J n c Q s h=AW P Tb J n c Q s h:=rfl
def cK_t {A:Prop}:@cK True ⟨A⟩=A:=by simp [cK]
def qxS {p A:Prop} (h:p):@cK p ⟨A⟩=A:=by simp [cK,h]
def nnK_n {A:Prop} {d:Nat}:nnK none d A=@cK (d < 5000) ⟨A⟩:=by simp [nnK,cK]
def oK_s {α:Type} {x:α} {K:α->Prop}:@oK _ (some x) ⟨K⟩=K x:=rfl
def vK_v {x:PV} {K:PV->Prop}:vK x K=K x:=rfl
def ldK_s {x:PV} {l:List Nat} {K:PV->List Nat->Prop}:@ldK (some (x,l)) ⟨K⟩=K x l:=rfl
def quu {A B:Prop}:@pgA (some true) true ⟨A⟩ ⟨B⟩=A:=by simp [pgA]
def quv {A B:Prop}:@pgA (some true) false ⟨A⟩ ⟨B⟩=B:=by simp [pgA]
def quw {A B:Prop}:@pgA (some false) true ⟨A⟩ ⟨B⟩=B:=by simp [pgA]
def qux {A B:Prop}:@pgA (some false) false ⟨A⟩ ⟨B⟩=A:=by simp [pgA]
def mkA_n {y n:Nat} {k k':IntKind} {K:Nat->Prop}:mkA y (.vl (.int k (n:Int))) (.vl (.int k' (n:Int))) K=@cK (y*n<=281474976710656/\n<=9223372036854775807) ⟨K n⟩:=by
 simp only [mkA,cK,xC,maxLen];exact propext ⟨λh=>⟨⟨h.2.2.1,h.2.2.2.1⟩,h.2.2.2.2⟩,λh=>⟨by omega,Int.le_refl _,h.1.1,h.1.2,h.2⟩⟩
def mkA_z {y n:Nat} {k k':IntKind} {K:Nat->Prop}:mkA y (.vl (.int k 0)) (.vl (.int k' (n:Int))) K=@cK (y*n<=281474976710656/\n<=9223372036854775807) ⟨K 0⟩:=by
 simp only [mkA,cK,xC,maxLen];exact propext ⟨λh=>⟨⟨h.2.2.1,h.2.2.2.1⟩,h.2.2.2.2⟩,λh=>⟨by omega,by omega,h.1.1,h.1.2,h.2⟩⟩
def qgm [NL] {k:IntKind} {z:Int} {A:Prop}:q1q none (.vl (.int k z)) A=@cK (q5S (.int k z)=true) ⟨A⟩:=by simp [q1q,q8D,qgn,qpO,cK,Value.oneCell']
def qvs [NL] {b:Bool} {A:Prop}:q1q none (.vl (.bool b)) A=A:=by simp [q1q,q8D,qgn,qpO,Value.oneCell',nlo]
def qqS [NL] {a:Option Addr} {m c:Nat} {A:Prop}:q1q none (.vl (.slice a m c)) A=A:=by simp [q1q,q8D,qgn,qpO,Value.oneCell',nlo]
def qvn [NL] {k:Kd} {l:List PV} {A:Prop}:q1q none (.sl k l) A=A:=by simp [q1q,q8D,qgn]
def qvp [NL] {id off m:Nat} {k:Kd} {A:Prop}:q1q none (.ow id k off m) A=A:=by simp [q1q,q8D,qgn]
def qvo [NL] {id i j:Nat} {A:Prop}:q1q none (.pt id i j) A=A:=by simp [q1q,q8D,qgn]
def qvt [NL] {m:Nat} {l:List PV} {A:Prop}:q1q (some m) (.ag l) A=@cK (l.length=m) ⟨qdb none l A⟩:=by
 simp only [q1q,q8D,cK,qdb,and_assoc]
def q9Z [NL] {k:Kd} {A:Prop}:qdb k [] A=A:=by simp [qdb]
def q90 [NL] {k:Kd} {x:PV} {l:List PV} {A:Prop}:qdb k (x :: l) A=q1q k x (qdb k l A):=by simp [qdb,q1q,and_assoc]
def qvr [NL] {m:Nat} {G:Fam} {A:Prop} (hf:∀ D v w,In G D v w->q2i (some m) v):q1q (some m) (.fm G) A=A:=by simp only [q1q,q8D]; exact propext ⟨λh=>h.2,λh=>⟨hf,h⟩⟩
def qte [NL] {h:Hp} {k:Option Kd} {m:Option Nat} {id i j:Nat} {x:PV} {K:Nat->Bk->Prop}:qsV h k m (.pt id i j) x K=q9q (h id) k m i j x (K id):=rfl
def qlw [NL] {T:TypeId} {k:Kd} {xs:List PV} {i:Nat} {x:PV} {K:Bk->Prop}:q9q (some ⟨T,k,xs,false⟩) (some k) (some (ksz k)) i 0 x K=@cK (i < xs.length) ⟨q1q k x (K ⟨T,k,xs.set i x,false⟩)⟩:=by
 simp only [q9q,cK,q1q];refine propext ⟨?_,?_⟩
 ·rintro ⟨b,k',u,u',h1,h2,_,_,h5,h6,h7,h8⟩;cases h1; cases h2;have hlt:=(zD.1 h6).1;simp only [stU,and_self,if_true] at h7;cases h7;exact ⟨hlt,h5,h8⟩
 ·rintro ⟨h1,h2,h3⟩;exact ⟨_,k,_,x,rfl,rfl,rfl,rfl,h2,zC h1,by simp [stU],h3⟩
def qoY [NL] {T:TypeId} {xs:List PV} {i:Nat} {x:PV} {K:Bk->Prop}:q9q (some ⟨T,none,xs,false⟩) (some none) (some 1) i 0 x K=@cK (i < xs.length) ⟨q1q none x (K ⟨T,none,xs.set i x,false⟩)⟩:=qlw
def qoX [NL] {T:TypeId} {m:Nat} {xs:List PV} {i:Nat} {x:PV} {K:Bk->Prop}:q9q (some ⟨T,some m,xs,false⟩) (some (some m)) (some m) i 0 x K=@cK (i < xs.length) ⟨q1q (some m) x (K ⟨T,some m,xs.set i x,false⟩)⟩:=qlw
def qtg [NL] {T:TypeId} {m j:Nat} {l:List PV} {x:PV} {K:Bk->Prop}:q9q (some ⟨T,some m,[.ag l],false⟩) (some none) (some 1) 0 j x K=@cK (j < l.length) ⟨q1q none x (K ⟨T,some m,[.ag (l.set j x)],false⟩)⟩:=by
 simp only [q9q,cK,q1q];refine propext ⟨?_,?_⟩
 ·rintro ⟨b,k',u,u',h1,h2,_,_,h5,h6,h7,h8⟩;cases h1; cases h2;simp at h6;subst h6;unfold stU at h7;rw [if_neg (by simp)] at h7;simp only at h7
  split at h7
  ·cases h7; exact ⟨by assumption,h5,h8⟩
  ·cases h7
 ·rintro ⟨h1,h2,h3⟩;exact ⟨_,none,.ag l,.ag (l.set j x),rfl,rfl,rfl,rfl,h2,rfl,by unfold stU; rw [if_neg (by simp)]; simp [h1],h3⟩
def qtf [NL] {T:TypeId} {n m j:Nat} {l r:List PV} {K:Bk->Prop} (hn:n≠m):q9q (some ⟨T,some n,[.ag l],false⟩) (some (some m)) (some m) 0 j (.ag r) K=@cK (r.length=m/\j+m<=l.length) ⟨q1q (some m) (.ag r) (K ⟨T,some n,[.ag (l.take j ++ r ++ l.drop (j+m))],false⟩)⟩:=by
 have e:stU (some n) (some m) j (.ag l) (.ag r)=if r.length=m/\j+m<=l.length then some (.ag (l.take j ++ r ++ l.drop (j+m))) else none:=by
  unfold stU; rw [if_neg (by simp [hn])]
 simp only [q9q,cK,q1q];refine propext ⟨?_,?_⟩
 ·rintro ⟨b,k',u,u',h1,h2,_,_,h5,h6,h7,h8⟩;cases h1; cases h2;simp at h6;subst h6;rw [e] at h7
  split at h7
  ·cases h7; exact ⟨by assumption,h5,h8⟩
  ·cases h7
 ·rintro ⟨h1,h2,h3⟩;exact ⟨_,some m,.ag l,_,rfl,rfl,rfl,rfl,h2,rfl,by rw [e,if_pos h1],h3⟩
def ldU_b {a b c d:PV}:ldU (some 4) (some 2) 1 (.ag [a,b,c,d])=some (.ag [b,c]):=by simp [ldU]
def qxr {h:Hp} {E:TypeId} {k:Kd} {K:List PV->Option Nat->Prop}:qnZ h E k (.vl (.slice none 0 0)) K=K [] none:=rfl
def qxq {h:Hp} {E:TypeId} {k k':Kd} {id off m:Nat} {K:List PV->Option Nat->Prop}:qnZ h E k (.ow id k' off m) K=qnY (h id) E k k' off m id K:=rfl
def qxp {E:TypeId} {k:Kd} {xs:List PV} {id m:Nat} {K:List PV->Option Nat->Prop}:qnY (some ⟨E,k,xs,false⟩) E k k 0 m id K=@cK (m=xs.length) ⟨K xs (some id)⟩:=by
 simp [qnY,cK]
def qxo {h:Hp} {k:Kd} {K:List PV->List Nat->Prop}:qiP h k (.vl (.slice none 0 0)) K=K [] []:=rfl
def qxm {h:Hp} {k:Kd} {l:List PV} {K:List PV->List Nat->Prop}:qiP h k (.sl k l) K=K l []:=by simp [qiP]
def qxn {h:Hp} {k k':Kd} {id off m:Nat} {K:List PV->List Nat->Prop}:qiP h k (.ow id k' off m) K=qnX (h id) k k' off m id K:=rfl
def qxl {T:TypeId} {k:Kd} {xs:List PV} {off m id:Nat} {K:List PV->List Nat->Prop}:qnX (some ⟨T,k,xs,false⟩) k k off m id K=K ((xs.drop off).take m) [id]:=by
 simp [qnX]
variable {d:Option Nat} {ty t:TypeId} {pos:String} {af:Array Edge} {g:Option (Nat × Bool)} {s:Nat->PV} {h:Hp} {K:PV->Hp->FP->Prop} {ops r:List Oper} {KL:(Nat->PV)->Hp->List FP->Prop} {acc:List FP} {dd:Nat}
def qzd [NL]:AL P Tb ops KL [] s h acc=KL s h acc:=rfl
def AL_n [NL] {op:Op}:AL P Tb ops KL (⟨d,op,ty,pos,af,none⟩ :: r) s h acc=ao P Tb d op s h λx h' fp=>AL P Tb ops KL r (q3N s d x) h' (fp :: acc):=rfl
def AL_g [NL] {op:Op} {j:Nat} {b:Bool}:AL P Tb ops KL (⟨d,op,ty,pos,af,some (j,b)⟩ :: r) s h acc=@pgA (q2v ops s j b) b ⟨ao P Tb d op s h λx h' fp=>AL P Tb ops KL r (q3N s d x) h' (fp :: acc)⟩ ⟨AL P Tb ops KL r (q3N s d (.vl undef)) h (([],[]) :: acc)⟩:=by
 refine propext ⟨?_,λhp=>?_⟩
 ·rintro ⟨x,h',fp,hg,hk⟩;unfold q84 at hg;simp only at hg;obtain ⟨c,hc,hg⟩:=hg;unfold pgA;rw [hc];simp only
  split at hg
  ·rename_i hcb; rw [if_pos hcb]; exact ⟨x,h',fp,hg,hk⟩
  ·rename_i hcb; rw [if_neg hcb]; obtain ⟨rfl,rfl,rfl⟩:=hg; exact hk
 ·unfold pgA at hp
  split at hp
  ·rename_i c hc
   split at hp
   ·rename_i hcb;obtain ⟨x,h',fp,hg,hk⟩:=hp;exact ⟨x,h',fp,by unfold q84; exact ⟨c,hc,by rw [if_pos hcb]; exact hg⟩,hk⟩
   ·rename_i hcb;exact ⟨.vl undef,h,([],[]),by unfold q84; exact ⟨c,hc,by rw [if_neg hcb]; exact ⟨rfl,rfl,rfl⟩⟩,hp⟩
  ·exact hp.elim
def q4l {α:Type} {o:Option α} {K:α->Prop}:@oK _ o ⟨K⟩=∃ a,o=some a/\K a:=by
 cases o <;> simp [oK,q2b]
def q3V [NL] {op : Op} (hs : ∀ x h' fp, Stp P Tb ⟨d, op, 0, "", #[], none⟩ s h x h' fp = (q5L P op (pe s) = some x /\ h' = h /\ fp = ([], []))) : ao P Tb d op s h K = @oK _ (q5L P op (pe s)) ⟨λx => K x h ([], [])⟩ := by
 rw [q4l];unfold ao;refine propext ⟨?_,?_⟩
 ·rintro ⟨x,h',fp,h1,h2⟩;rw [hs] at h1;obtain ⟨h1,rfl,rfl⟩:=h1;exact ⟨x,h1,h2⟩
 ·rintro ⟨x,h1,h2⟩;exact ⟨x,h,([],[]),by rw [hs]; exact ⟨h1,rfl,rfl⟩,h2⟩
def qrb [NL] {x}:ao P Tb d (.move x) s h K=vK (pe s x) λx=>K x h ([],[]):=q3V λ_ _ _=>rfl
def qhs [NL] {x}:ao P Tb d (.assign x) s h K=vK (pe s x) λx=>K x h ([],[]):=q3V λ_ _ _=>rfl
def qra [NL] {c a b}:ao P Tb d (.pick c a b) s h K=@oK _ (pkP (pe s c) (pe s a) (pe s b)) ⟨λx=>K x h ([],[])⟩:=q3V λ_ _ _=>rfl
def qlQ [NL] {op x y t'}:ao P Tb d (.binOp op t x y t') s h K=@oK _ (bnP P op t (pe s x) (pe s y)) ⟨λx=>K x h ([],[])⟩:=q3V λ_ _ _=>rfl
def qr9 [NL] {op x}:ao P Tb d (.unOp op t x) s h K=@oK _ (unP op (pe s x)) ⟨λx=>K x h ([],[])⟩:=q3V λ_ _ _=>rfl
def qdt [NL] {a b x}:ao P Tb d (.convert a b x) s h K=@oK _ (cvP (P.underlying a) (P.underlying b) (pe s x)) ⟨λx=>K x h ([],[])⟩:=q3V λ_ _ _=>rfl
def q9k [NL] {x f}:ao P Tb d (.fieldAddr t x f) s h K=@oK _ (qs4 P t f (pe s x)) ⟨λx=>K x h ([],[])⟩:=q3V λ_ _ _=>rfl
def qds [NL] {x i}:ao P Tb d (.extract x i) s h K=@oK _ (exP i (pe s x)) ⟨λx=>K x h ([],[])⟩:=q3V λ_ _ _=>rfl
def qay [NL] {x}:ao P Tb d (.nilCheck x) s h K=@oK _ (nlP (pe s x)) ⟨λx=>K x h ([],[])⟩:=q3V λ_ _ _=>rfl
def q9j [NL] {x i}:ao P Tb d (.indexAddr t x i) s h K=@oK _ (q59 (q0e P t) (pe s x) (pe s i)) ⟨λx=>K x h ([],[])⟩:=q3V λ_ _ _=>rfl
def qlO [NL] {x lo hi}:ao P Tb d (.slice t x lo hi none) s h K=@oK _ (slP (q0e P t) (lo.map (pe s)) (hi.map (pe s)) (pe s x)) ⟨λx=>K x h ([],[])⟩:=q3V λ_ _ _=>rfl
def fnP_q {f:FuncId} {z:Int}:fnP (.func f) #[] [.qt none (.vl (.int .i64 z))]=some (.fm (fFun f z)):=rfl
def qxw [NL] {fn:Fn} {cap:List Operand} {first:Array Operand}:ao P Tb d (.makeFunc fn first cap.toArray) s h K=@oK _ (fnP fn first (cap.map (pe s))) ⟨λx=>K x h ([],[])⟩:=q3V λ_ _ _=>rfl
def qlP [NL] {ps:List (Nat × Operand)}:ao P Tb d (.build t ps.toArray) s h K=@oK _ (blP P t (ps.map λp=>(p.1,pe s p.2))) ⟨λx=>K x h ([],[])⟩:=q3V λ_ _ _=>rfl
def qxv [NL] {x}:ao P Tb d (.call ⟨.builtin .len,#[x],#[t]⟩) s h K=@oK _ (qs1 (q0e P t) (pe s x)) ⟨λx=>K x h ([],[])⟩:=q3V λ_ _ _=>rfl
def qxu [NL] {x y ts}:ao P Tb d (.call ⟨.builtin .max,#[x,y],ts⟩) s h K=@oK _ (mmP true [pe s x,pe s y]) ⟨λx=>K x h ([],[])⟩:=q3V λ_ _ _=>rfl
def qxt [NL] {x y ts}:ao P Tb d (.call ⟨.builtin .min,#[x,y],ts⟩) s h K=@oK _ (mmP false [pe s x,pe s y]) ⟨λx=>K x h ([],[])⟩:=q3V λ_ _ _=>rfl
def qrd [NL] {a}:ao P Tb d (.load t a) s h K=@ldK (ldP h (q0c P t) (pe s a)) ⟨λx l=>K x h (l,[])⟩:=by
 unfold ao ldK;refine propext ⟨?_,λhk=>?_⟩
 ·rintro ⟨x,h',fp,⟨r,h1,rfl,rfl,rfl⟩,hk⟩;rw [h1];exact hk
 ·split at hk
  ·rename_i x l hl;exact ⟨x,h,(l,[]),⟨(x,l),hl,rfl,rfl,rfl⟩,hk⟩
  ·exact hk.elim
def qlR [NL]:ao P Tb (some dd) (.alloc t) s h K=nnK (h dd) dd (@oK _ (alB P t) ⟨λb=>K (.pt dd 0 0) (q0R h dd b) ([],[dd])⟩):=by
 unfold ao nnK;rw [q4l];refine propext ⟨?_,?_⟩
 ·rintro ⟨x,h',fp,⟨d,b,h1,h2,h3,rfl,rfl,rfl⟩,hk⟩;cases h1;exact ⟨h2,b,h3,hk⟩
 ·rintro ⟨h2,b,h3,hk⟩;exact ⟨_,_,_,⟨dd,b,rfl,h2,h3,rfl,rfl,rfl⟩,hk⟩
def qyC [NL] {v}:ao P Tb (some dd) (.box t v) s h K=nnK (h dd) dd (@oK _ (q0c P t) ⟨λk=>vK (pe s v) λx=>q1q k x (K (.pt dd 0 0) (q0R h dd ⟨t,k,[x],false⟩) ([],[dd]))⟩):=by
 unfold ao nnK q1q vK;rw [q4l];refine propext ⟨?_,?_⟩
 ·rintro ⟨x,h',fp,⟨d,k,h1,h2,h3,h4,rfl,rfl,rfl⟩,hk⟩;cases h1;exact ⟨h2,k,h3,h4,hk⟩
 ·rintro ⟨h2,k,h3,h4,hk⟩;exact ⟨_,_,_,⟨dd,k,rfl,h2,h3,h4,rfl,rfl,rfl⟩,hk⟩
def qhr [NL] {len:Nat} {ps:List (Nat × Operand)} (hp:ps.map (·.1)=List.range len):ao P Tb (some dd) (.buildSlice t len ps.toArray) s h K=nnK (h dd) dd (@oK _ (elK P t) ⟨λe=>@cK (len*ksz e.2.1<=16777216) ⟨qdb e.2.1 (ps.map λp=>pe s p.2) (K (.ow dd e.2.1 0 len) (q0R h dd ⟨e.1,e.2.1,ps.map λp=>pe s p.2,false⟩) ([],[dd]))⟩⟩):=by
 unfold ao nnK qdb cK;rw [q4l];refine propext ⟨?_,?_⟩
 ·rintro ⟨x,h',fp,⟨d,E,k,bytes,h1,h2,h3,h4,h5,h6,rfl,rfl,rfl⟩,hk⟩;cases h1;exact ⟨h2,(E,k,bytes),h3,h5,λx hx=>by obtain ⟨p,hp,rfl⟩:=y4.1 hx; exact h6 p hp,hk⟩
 ·rintro ⟨h2,⟨E,k,bytes⟩,h3,h5,h6,hk⟩;exact ⟨_,_,_,⟨dd,E,k,bytes,rfl,h2,h3,hp,h5,λp hp=>h6 _ (y4.2 ⟨p,hp,rfl⟩),rfl,rfl,rfl⟩,hk⟩
def qyB [NL]:ao P Tb (some dd) (.buildSlice t 0 #[]) s h K=nnK (h dd) dd (@oK _ (elK P t) ⟨λe=>K (.ow dd e.2.1 0 0) (q0R h dd ⟨e.1,e.2.1,[],false⟩) ([],[dd])⟩):=by
 have:=qhr (P:=P) (Tb:=Tb) (s:=s) (h:=h) (K:=K) (t:=t) (dd:=dd) (len:=0) (ps:=[]) rfl;simpa [oK,cK,qdb] using this
def qyA [NL] {a}:ao P Tb (some dd) (.buildSlice t 1 #[(0,a)]) s h K=nnK (h dd) dd (@oK _ (elK P t) ⟨λe=>@cK (ksz e.2.1<=16777216) ⟨vK (pe s a) λx=>q1q e.2.1 x (K (.ow dd e.2.1 0 1) (q0R h dd ⟨e.1,e.2.1,[x],false⟩) ([],[dd]))⟩⟩):=by
 have:=qhr (P:=P) (Tb:=Tb) (s:=s) (h:=h) (K:=K) (t:=t) (dd:=dd) (len:=1) (ps:=[(0,a)]) rfl;simpa [oK,cK,q90,q9Z,vK] using this
def qxz [NL] {a b}:ao P Tb (some dd) (.buildSlice t 2 #[(0,a),(1,b)]) s h K=nnK (h dd) dd (@oK _ (elK P t) ⟨λe=>@cK (2*ksz e.2.1<=16777216) ⟨vK (pe s a) λx=>vK (pe s b) λy=>q1q e.2.1 x (q1q e.2.1 y (K (.ow dd e.2.1 0 2) (q0R h dd ⟨e.1,e.2.1,[x,y],false⟩) ([],[dd])))⟩⟩):=by
 have:=qhr (P:=P) (Tb:=Tb) (s:=s) (h:=h) (K:=K) (t:=t) (dd:=dd) (len:=2) (ps:=[(0,a),(1,b)]) rfl;simpa [oK,cK,q90,q9Z,vK] using this
def qxy [NL] {a b c}:ao P Tb (some dd) (.buildSlice t 3 #[(0,a),(1,b),(2,c)]) s h K=nnK (h dd) dd (@oK _ (elK P t) ⟨λe=>@cK (3*ksz e.2.1<=16777216) ⟨vK (pe s a) λx=>vK (pe s b) λy=>vK (pe s c) λz=>q1q e.2.1 x (q1q e.2.1 y (q1q e.2.1 z (K (.ow dd e.2.1 0 3) (q0R h dd ⟨e.1,e.2.1,[x,y,z],false⟩) ([],[dd]))))⟩⟩):=by
 have:=qhr (P:=P) (Tb:=Tb) (s:=s) (h:=h) (K:=K) (t:=t) (dd:=dd) (len:=3) (ps:=[(0,a),(1,b),(2,c)]) rfl;simpa [oK,cK,q90,q9Z,vK] using this
def qrc [NL] {l c}:ao P Tb (some dd) (.makeSlice t l c) s h K=nnK (h dd) dd (@oK _ (elZ P t) ⟨λe=>mkA e.2.2.1 (pe s l) (pe s c) λn=>K (.ow dd e.2.1 0 n) (q0R h dd ⟨e.1,e.2.1,List.replicate n e.2.2.2,false⟩) ([],[dd])⟩):=by
 unfold ao nnK;rw [q4l];refine propext ⟨?_,?_⟩
 ·rintro ⟨x,h',fp,⟨d,E,k,bytes,z,kl,kc,n,m,h1,h2,h3,h4,h5,h8,h6,h7,rfl,rfl,rfl⟩,hk⟩;cases h1;refine ⟨h2,_,h3,?_⟩;unfold mkA;rw [h4,h5];exact ⟨by omega,by omega,by simpa using h6,by simpa using h7,by simpa using hk⟩
 ·rintro ⟨h2,⟨E,k,bytes,z⟩,h3,hk⟩;unfold mkA at hk
  split at hk
  ·rename_i kl a kc b ha hb;obtain ⟨k0,k1,k2,k3,hk⟩:=hk;have e1:((a.toNat:Nat):Int)=a:=by omega
   have e2:((b.toNat:Nat):Int)=b:=by omega
   exact ⟨_,_,_,⟨dd,E,k,bytes,z,kl,kc,a.toNat,b.toNat,rfl,h2,h3,by rw [e1]; exact ha,by rw [e2]; exact hb,by omega,k2,k3,rfl,rfl,rfl⟩,hk⟩
  ·exact hk.elim
def qlN [NL] {a v}:ao P Tb d (.store t a v) s h K=qsV h (q0c P t) (q00 P t) (pe s a) (pe s v) λid b=>K (.vl undef) (q0R h id b) ([id],[id]):=by
 unfold ao qsV q9q;refine propext ⟨?_,λhk=>?_⟩
 ·rintro ⟨x,h',fp,⟨id,i,j,b,k,u,u',h1,h2,h3,h4,h5,h6,h7,h8,rfl,rfl,rfl⟩,hk⟩;rw [h1];exact ⟨b,k,u,u',h2,h4,h5,h3,h6,h7,h8,hk⟩
 ·split at hk
  ·rename_i id i j h1;obtain ⟨b,k,u,u',h2,h4,h5,h3,h6,h7,h8,hk⟩:=hk;exact ⟨_,_,_,⟨id,i,j,b,k,u,u',h1,h2,h3,h4,h5,h6,h7,h8,rfl,rfl,rfl⟩,hk⟩
  ·exact hk.elim
def qht [NL] {sx xx}:ao P Tb (some dd) (.call ⟨.builtin .append,#[sx,xx],#[t,t]⟩) s h K=nnK (h dd) dd (@oK _ (elK P t) ⟨λe=>qnZ h e.1 e.2.1 (pe s sx) λxs i0=>qiP h e.2.1 (pe s xx) λys ids=>@cK ((xs.length+ys.length)*(e.2.2+1)<=140737488355328) ⟨K (.ow dd e.2.1 0 (xs.length+ys.length)) (q0R (qtj h i0 ⟨e.1,e.2.1,xs,true⟩) dd ⟨e.1,e.2.1,xs ++ ys,false⟩) (ids,dd :: i0.toList)⟩⟩):=by
 have hL:∀ {E:TypeId} {k:Kd} {p:PV} {xs:List PV} {i0:Option Nat},apS h E k p=some (xs,i0)->qtj h i0 ⟨E,k,xs,true⟩=stl h i0:=λ{E k p xs i0} ha=>by
  unfold apS at ha
  split at ha
  ·cases ha; rfl
  ·obtain ⟨b,hb,hc⟩:=zB.1 ha
   split at hc
   ·rename_i hcc;cases hc;obtain ⟨_,rfl,rfl,_⟩:=hcc;simp only [qtj,stl,hb]
   ·cases hc
  ·cases ha
 have hS:∀ {E:TypeId} {k:Kd} {p:PV} {K:List PV->Option Nat->Prop},qnZ h E k p K=∃ xs i0,apS h E k p=some (xs,i0)/\K xs i0:=λ{E k p K}=>by
  refine propext ⟨λhk=>?_,?_⟩
  ·unfold qnZ at hk
   split at hk
   ·exact ⟨[],none,rfl,hk⟩
   ·unfold qnY at hk;obtain ⟨b,hb,hc,hk⟩:=hk;exact ⟨b.xs,some _,by unfold apS; simp only [hb,zF]; rw [if_pos hc],hk⟩
   ·exact hk.elim
  ·rintro ⟨xs,i0,ha,hk⟩;unfold apS at ha
   split at ha
   ·cases ha; exact hk
   ·obtain ⟨b,hb,hc⟩:=zB.1 ha
    split at hc
    ·rename_i hcc; cases hc; exact ⟨b,hb,hcc,hk⟩
    ·cases hc
   ·cases ha
 have hX:∀ {k:Kd} {p:PV} {K:List PV->List Nat->Prop},qiP h k p K=∃ xs ids,apX h k p=some (xs,ids)/\K xs ids:=λ{k p K}=>by
  refine propext ⟨λhk=>?_,?_⟩
  ·unfold qiP at hk
   split at hk
   ·exact ⟨[],[],rfl,hk⟩
   ·obtain ⟨rfl,hk⟩:=hk;exact ⟨_,[],by unfold apX; simp,hk⟩
   ·unfold qnX at hk;obtain ⟨b,hb,hc,hk⟩:=hk;exact ⟨_,_,by unfold apX; simp only [hb,zF]; rw [if_pos hc],hk⟩
   ·exact hk.elim
  ·rintro ⟨xs,ids,ha,hk⟩;unfold apX at ha
   split at ha
   ·cases ha; exact hk
   ·split at ha
    ·rename_i hkk; cases ha; exact ⟨hkk,hk⟩
    ·cases ha
   ·obtain ⟨b,hb,hc⟩:=zB.1 ha
    split at hc
    ·rename_i hcc; cases hc; exact ⟨b,hb,hcc,hk⟩
    ·cases hc
   ·cases ha
 unfold ao nnK cK;rw [q4l];refine propext ⟨?_,?_⟩
 ·rintro ⟨x,h',fp,⟨sx',xx',T,d,E,k,bytes,xs,ys,i0,ids,h1,h2,h3,h4,h5,h6,h7,h8,rfl,rfl,rfl⟩,hk⟩;cases h1; cases h2; cases h3;refine ⟨h4,_,h5,?_⟩;rw [hS];refine ⟨xs,i0,h6,?_⟩;rw [hX];exact ⟨ys,ids,h7,h8,by rw [hL h6]; exact hk⟩
 ·rintro ⟨h4,⟨E,k,bytes⟩,h5,hk⟩;rw [hS] at hk;obtain ⟨xs,i0,h6,hk⟩:=hk;rw [hX] at hk;obtain ⟨ys,ids,h7,h8,hk⟩:=hk;simp only at hk;rw [hL h6] at hk;exact ⟨_,_,_,⟨sx,xx,t,dd,E,k,bytes,xs,ys,i0,ids,rfl,rfl,rfl,h4,h5,h6,h7,h8,rfl,rfl,rfl⟩,hk⟩
def qre [NL] {f} {xs:List Operand} {ts}:ao P Tb d (.call ⟨.value (.func f),xs.toArray,ts⟩) s h K=@q5W _ P Tb f (q21 h (xs.map (pe s))) ⟨λx ids=>K x h (ids,[])⟩:=by
 unfold ao q5W;refine propext ⟨?_,?_⟩
 ·rintro ⟨x,h',fp,⟨al,ids,h1,h2,h3,rfl,rfl⟩,hk⟩;exact ⟨al,ids,x,by simpa using h1,h2,h3,hk⟩
 ·rintro ⟨al,ids,x,h1,h2,h3,hk⟩;exact ⟨x,h,(ids,[]),⟨al,ids,by simpa using h1,h2,h3,rfl,rfl⟩,hk⟩
def qgy [NL] (P:Program) (Tb:World->Prop) (h:Hp) (v:PV) (xs:List PV) [K:Cn (PV->List Nat->Prop)]:Prop:=∃ f ys,FnP v f ys/\@q5W _ P Tb f (q21 h (xs ++ ys)) K
def q8H [NL] {v:PV} {xs:List PV} {f:FuncId} {ys:List PV} {K:Cn (PV->List Nat->Prop)} (hv:FnP v f ys) (hc:@q5W _ P Tb f (q21 h (xs ++ ys)) K):@qgy _ P Tb h v xs K:=⟨f,ys,hv,hc⟩
def qsF [NL] {f:FuncId}:FnP (.vl (.func (.func f) #[] #[])) f []:=λw D ρ h v hv=>by
 unfold Rd at hv;exact ⟨[],hv,by unfold RdL; rfl⟩
def FnP_f [NL] {f:FuncId} {z:Int}:FnP (.fm (fFun f z)) f [.qt none (.vl (.int .i64 z))]:=λw D ρ h v hv=>by
 unfold Rd at hv;obtain ⟨ad,rfl,h1,h2⟩:=hv;refine ⟨[.pointer (some ad)],rfl,RdL.one ?_⟩;unfold Rd;refine ⟨ad,_,rfl,h1,by unfold Rd; rfl,⟨⟨rfl,rfl,nlo⟩,xY⟩,λj u hu=>?_⟩;cases j with
 | zero=>rw [add_zero,h2]; simpa [Value.cells] using hu
 | succ j=>simp [Value.cells] at hu
def qcj [NL] {t:Nat} {xs:List Operand} {ts}:ao P Tb d (.call ⟨.value (.tmp t),xs.toArray,ts⟩) s h K=@qgy _ P Tb h (s t) (xs.map (pe s)) ⟨λx ids=>K x h (ids,[])⟩:=by
 unfold ao qgy q5W;refine propext ⟨?_,?_⟩
 ·rintro ⟨x,h',fp,⟨f,ys,al,ids,h0,h1,h2,h3,rfl,rfl⟩,hk⟩;exact ⟨f,ys,h0,al,ids,x,by simpa using h1,h2,h3,hk⟩
 ·rintro ⟨f,ys,h0,al,ids,x,h1,h2,h3,hk⟩;exact ⟨x,h,(ids,[]),⟨f,ys,al,ids,h0,by simpa using h1,h2,h3,rfl,rfl⟩,hk⟩
def q0S [NL] {f:FuncId} {al:List PV} {x:PV} {K:PV->List Nat->Prop} (hc:AC P Tb f al x) (hk:K x []):@q5W _ P Tb f (some (al,[])) ⟨K⟩:=⟨al,[],x,rfl,hc,.inl rfl,hk⟩
def q4T [NL] {f:FuncId} {al:List PV} {x:PV} {ids:List Nat} {K:PV->List Nat->Prop} (hc:AC P Tb f al x) (hz:Nz x) (hk:K x ids):@q5W _ P Tb f (some (al,ids)) ⟨K⟩:=⟨al,ids,x,rfl,hc,.inr hz,hk⟩
end
attribute [irreducible] cK oK nnK q1q qdb vK ldK pgA mkA q9q qsV qnY qnZ qnX qiP q5W qgy ao
section
variable {P:Program} {s:Nat->PV} {h:Hp} {i j:Nat} {k k':Kd} {x y:PV} {l m:List PV} {b:Bk}
def pe_t {t:Nat}:pe s (.tmp t)=s t:=rfl
def pe_c {v:Value}:pe s (.const v)=.vl v:=rfl
def qun {d:Nat}:q3N s (some d) x=pu s d x:=rfl
def qup:q3N s none x=s:=rfl
def pu_ap {d t:Nat}:pu s d x t=if t=d then x else s t:=rfl
def qpl:q0R h i b j=if j=i then some b else h j:=rfl
def h0_ap:h0 i=none:=rfl
def enP_z:enP (x :: l) 0=x:=rfl
def enP_s:enP (x :: l) (i+1)=enP l i:=rfl
def stK_c {xs:List (Nat × PV)} {ks:List Nat} {t a:Nat}:stK ((a,x) :: xs) ks s t=if t=a then x else stK xs ks s t:=by
 show (match (if t=a then some x else lkP xs t) with | some x=>x | none=>if kin ks t then s t else .un)=_
 by_cases ht:t=a
 ·simp only [ht,if_true]
 ·simp only [ht,if_false]; rfl
def stK_n {ks:List Nat} {t:Nat}:stK [] ks s t=if kin ks t then s t else .un:=rfl
def kin_c {ks:List Nat} {t a:Nat}:kin (a :: ks) t=if t=a then true else kin ks t:=rfl
def kin_n {t:Nat}:kin [] t=false:=rfl
def hpK_c {bs:List (Nat × Bk)} {kb:List Nat} {t a:Nat}:hpK ((a,b) :: bs) kb h t=if t=a then some b else hpK bs kb h t:=by
 show (match (if t=a then some b else lkB bs t) with | some b=>some b | none=>if kin kb t then h t else none)=_
 by_cases ht:t=a
 ·simp only [ht,if_true]
 ·simp only [ht,if_false]; rfl
def hpK_n {kb:List Nat} {t:Nat}:hpK [] kb h t=if kin kb t then h t else none:=rfl
def ksz_n:ksz none=1:=rfl
def ksz_s {n:Nat}:ksz (some n)=n:=rfl
def qti:qtj h none b=h:=rfl
def qth {id:Nat}:qtj h (some id) b=q0R h id b:=rfl
def bn_v {op:BinOp} {t:TypeId} {a c:Value}:bnP P op t (.vl a) (.vl c)=(q1A P op t a c).map .vl:=rfl
def qx9 {t:TypeId} {k m:IntKind} {a b c d:Int} (h:q94 P t=true):bnP P .eql t (.ag [.vl (.int k a),.vl (.int m b)]) (.ag [.vl (.int k c),.vl (.int m d)])=some (.vl (.bool (a == c && b == d))):=by
 simp [bnP,q72,q1A,h,prV]
def qx8 {t:TypeId} {k m:IntKind} {a b c d:Int} (h:q94 P t=true):bnP P .neq t (.ag [.vl (.int k a),.vl (.int m b)]) (.ag [.vl (.int k c),.vl (.int m d)])=some (.vl (.bool !(a == c && b == d))):=by
 simp [bnP,q72,q1A,h,prV]
def bn_n {t E:TypeId} {c d:Nat} (hu:P.underlying t=some (.slice E)) (hk:0 < ksz k):bnP P .eql t (.sl k l) (.vl (.slice none c d))=some (.fm (fNil l.length)):=by simp only [bnP,hu]; rw [if_pos hk]
def un_v {op:UnOp} {a:Value}:unP op (.vl a)=(unV op a).map .vl:=rfl
def cv_v {s d:Option TypeDesc} {a:Value}:cvP s d (.vl a)=(qdj s d a).map .vl:=rfl
def pk_t:pkP (.vl (.bool true)) x y=some x:=rfl
def pk_f:pkP (.vl (.bool false)) x y=some y:=rfl
def fld_p {t:TypeId} {f:Nat} {a:Nat}:qs4 P t f (.pt a i j)=(q2H P t f).map λr=>.pt a i (j+r.1):=rfl
def ex_t:exP i (.tu l)=l[i]?:=rfl
def nl_p {a:Nat}:nlP (.pt a i j)=some (.pt a i j):=rfl
def nl_q:nlP (.qt k x)=some (.qt k x):=rfl
def mm_v {b:Bool} {a c:Value}:mmP b [.vl a,.vl c]=(mmV b [a,c]).map .vl:=rfl
def qvU {n:Nat}:qs1 (some n) (.sl k l)=some (.vl (.int .i64 l.length)):=rfl
def qvV {n a c d:Nat}:qs1 (some n) (.ow a k c d)=some (.vl (.int .i64 d)):=rfl
def qvT {n a c:Nat} {A:Option Addr}:qs1 (some n) (.vl (.slice A a c))=some (.vl (.int .i64 a)):=rfl
def qgN {kk:IntKind} {n:Nat}:q59 (some 1) (.sl none l) (.vl (.int kk (n:Int)))=(l[n]?).map (.qt none):=by
 simp [q59,ksz]
def qpa {kk:IntKind} {n c:Nat} (hc:0 < c):q59 (some c) (.sl (some c) l) (.vl (.int kk (n:Int)))=(l[n]?).map (.qt (some c)):=by
 simp [q59,ksz,hc]
def qgO {kk:IntKind} {a off c n:Nat} (hn:n < c):q59 (some 1) (.ow a none off c) (.vl (.int kk (n:Int)))=some (.pt a (off+n) 0):=by
 simp [q59,ksz,hn]
def qpc {kk:IntKind} {a off c n e:Nat} (hn:n < c):q59 (some e) (.ow a (some e) off c) (.vl (.int kk (n:Int)))=some (.pt a (off+n) 0):=by
 simp [q59,ksz,hn]
def ld_p {a:Nat} {K:PV->List Nat->Prop}:@ldK (ldP h (some k) (.pt a i j)) ⟨K⟩=@ldK ((h a).bind λb=>if b.st=true\/ksz k=0 then none else ((b.xs[i]?).bind (ldU b.k k j)).map λx=>(x,[a])) ⟨K⟩:=by
 congr 1
 cases hh:h a <;> simp [ldP,hh]
def ld_q {K:PV->List Nat->Prop}:@ldK (ldP h (some k) (.qt k' x)) ⟨K⟩=@ldK (if ksz k=0 then none else (ldU k' k 0 x).map λy=>(y,[])) ⟨K⟩:=rfl
def ldU_s:ldU k k 0 x=some x:=by simp [ldU]
def ldU_c {n:Nat}:ldU (some n) none j (.ag l)=l[j]?:=by simp [ldU]
def py_s {o:Oper} {os:List Oper} {b:Bool}:q2v (o :: os) s (j+1) b=q2v os s j b:=rfl
def qjM (b:Bool):PV->Option Bool | .vl (.bool c)=>some c | .vl (.tuple _)=>some (!b) | _=>none
def py_z {d:Nat} {op:Op} {ty:TypeId} {pos:String} {af:Array Edge} {g:Option (Nat × Bool)} {os:List Oper} {b:Bool}:q2v (⟨some d,op,ty,pos,af,g⟩ :: os) s 0 b=qjM b (s d):=rfl
def qpM {b c:Bool}:qjM c (.vl (.bool b))=some b:=rfl
def qpK:qjM true (.vl undef)=some false:=rfl
def qpL:qjM false (.vl undef)=some true:=rfl
def qwu:q21 h []=some ([],[]):=rfl
def qwv:q21 h (x :: l)=qhY (clo h x) (q21 h l):=rfl
def qky {a b:List Nat}:qhY (some (x,a)) (some (l,b))=some (x :: l,a ++ b):=rfl
def qww {v:Value}:clo h (.vl v)=some (.vl v,[]):=by simp [clo,q3S,q3T]
def qxB {G:Fam}:clo h (.fm G)=some (.fm G,[]):=by simp [clo,q3S,q3T]
def qwx:clo h (.sl k l)=some (.sl k l,[]):=by simp [clo,q3S,q3T]
def qwy:clo h (.qt k x)=some (.qt k x,[]):=by simp [clo,q3S,q3T]
def qnC:clo h .un=some (.un,[]):=by simp [clo,q3S,q3T]
def qwz {a off c:Nat}:clo h (.ow a k off c)=@clB ⟨h⟩ (h a) a k off c:=by simp only [clo,q3S,clB]
def clB_s {a off c:Nat} {T:TypeId}:@clB ⟨h⟩ (some ⟨T,k,l,false⟩) a k off c=@cO2 _ (ClL l) (some (.sl k ((l.drop off).take c),[a])) ⟨(q1b h l).map λr=>(.sl k ((r.1.drop off).take c),a :: r.2)⟩:=by
 unfold clB cO2 ClL;simp only [zF]
 by_cases hc:∀ x ∈ l,Cld x
 ·rw [if_pos ⟨rfl,rfl,hc⟩,if_pos hc]
 ·rw [if_neg λh=>hc h.2.2,if_neg hc,if_pos (by simp)]
noncomputable def q6n (h:Hp) (n R:Nat) (K:Kd) (f:Nat->Nat):Option (List PV × List Nat):=q1b h ((List.range n).map λj=>.ow (j+R) K 0 (f j))
def clB_T {a off c n R:Nat} {T:TypeId} {K:Kd} {f:Nat->Nat}:@clB ⟨h⟩ (some ⟨T,none,(List.range n).map λj=>.ow (j+R) K 0 (f j),false⟩) a none off c=(q6n h n R K f).map λr=>(.sl none ((r.1.drop off).take c),a :: r.2):=by
 unfold clB q6n;simp only [zF]
 split
 ·rename_i hc;have:n=0:=by
   rcases y5 n with h | h
   ·exact h
   ·have:=hc.2.2 _ (List.mem_map_of_mem (yV.2 h));simp [Cld,q3T] at this
  subst this;simp [q1b]
 ·rw [if_pos (by simp)]
def cO_t {α:Type} {o:Option α}:cO True o=o:=by simp [cO]
def cO2_t {α:Type} {o:Option α} [Cn (Option α)]:cO2 True o=o:=by simp [cO2]
def qxC:clo h (.ag l)=(q3i h l).map λr=>(.ag r.1,r.2):=rfl
def qqh:q3i h []=some ([],[]):=rfl
def qqi:q3i h (x :: l)=qhY (q3S h x) (q3i h l):=rfl
def qql {v:Value}:q3S h (.vl v)=some (.vl v,[]):=by simp [q3S,q3T]
def qqo {G:Fam}:q3S h (.fm G)=some (.fm G,[]):=by simp [q3S,q3T]
def qqm:q3S h (.sl k l)=some (.sl k l,[]):=by simp [q3S,q3T]
def qqn {a off c:Nat}:q3S h (.ow a k off c)=@clB ⟨h⟩ (h a) a k off c:=by simp only [q3S,clB]
def qnd {v:Value}:Cld (.vl v)=True:=by simp [Cld,q3T]
def qnf {G:Fam}:Cld (.fm G)=True:=by simp [Cld,q3T]
def qne:Cld (.sl k l)=True:=by simp [Cld,q3T]
def qz5:ClL []=True:=by simp [ClL]
def qz6:ClL (x :: l)=(Cld x/\ClL l):=by simp [ClL]
def qz7:ClL (l ++ m)=(ClL l/\ClL m):=by
 simp only [ClL,zV];exact propext ⟨λh=>⟨λx hx=>h x (.inl hx),λx hx=>h x (.inr hx)⟩,λh x hx=>hx.elim (h.1 x) (h.2 x)⟩
def qsI {α:Type} {f:α->PV} {q:List α}:ClL (q.map f)=∀ a ∈ q,Cld (f a):=by simp [ClL]
def qct {α:Type} {f:α->Value} {q:List α}:ClL (q.map λa=>.vl (f a))=True:=by simp [ClL,Cld,q3T]
def qsG {n:Nat}:ClL (List.replicate n x)=(n=0\/Cld x):=by
 simp only [ClL,yD];refine propext ⟨λh=>?_,λh y hy=>?_⟩
 ·by_cases hn:n=0
  ·exact .inl hn
  ·exact .inr (h x ⟨hn,rfl⟩)
 ·rw [hy.2]; exact h.resolve_left hy.1
def q2h (hl:ClL l) (hx:Cld x):ClL (l.set i x):=λy hy=>by
 rcases yL hy with h | h
 ·exact hl y h
 ·rw [h]; exact hx
def rsP_t {t:Nat}:rsP P h s (.tmp t)=some (s t):=rfl
def qhl {t:TypeId} {ps:List (Nat × PV)} {pl:List (Nat × Nat)} {z:List Value} (hp:plc P t=some (pl,z)):blP P t ps=(flP pl (z.map .vl) ps).map .ag:=by unfold blP; rw [hp]; rfl
def qxG {acc:List FP}:qqp [] acc=True:=by simp [qqp,chk]
end
instance nNL:NL:=⟨λv=>match v with | .int .u32 _=>false | _=>true,λv h=>by split <;> first | exact absurd rfl (h _) | rfl⟩
end Go.E
namespace Go.Proofs.YtpbaikoblfcmdaaGreatDoor
open Go Go.E
set_option maxRecDepth 100000
def elK22:elK Tryz.prog 22=some (23,none,8):=by kernel_rfl
def elZ22:elZ Tryz.prog 22=some (23,none,8,.vl (.int .u64 0)):=by kernel_rfl
def elK24:elK Tryz.prog 24=some (3,none,8):=by kernel_rfl
def elZ24:elZ Tryz.prog 24=some (3,none,8,.vl (.int .i64 0)):=by kernel_rfl
def elK25:elK Tryz.prog 25=some (33,none,8):=by kernel_rfl
def elZ25:elZ Tryz.prog 25=some (33,none,8,.vl (.int .u64 0)):=by kernel_rfl
def elK39:elK Tryz.prog 39=some (48,some 4,48):=by kernel_rfl
def elZ39:elZ Tryz.prog 39=some (48,some 4,48,.ag [.vl (.bool false),.vl (.bool false),.vl (.slice none 0 0),.vl (.int .i64 0)]):=by kernel_rfl
def elK51:elK Tryz.prog 51=some (52,none,24):=by kernel_rfl
def elZ51:elZ Tryz.prog 51=some (52,none,24,.vl (.slice none 0 0)):=by kernel_rfl
def elK52:elK Tryz.prog 52=some (58,some 2,16):=by kernel_rfl
def elZ52:elZ Tryz.prog 52=some (58,some 2,16,.ag [.vl (.int .u64 0),.vl (.int .u64 0)]):=by kernel_rfl
def elK69:elK Tryz.prog 69=some (4,none,1):=by kernel_rfl
def elZ69:elZ Tryz.prog 69=some (4,none,1,.vl (.bool false)):=by kernel_rfl
def qwX:elK Tryz.prog 130=some (132,some 8,96):=by kernel_rfl
def qwR:elZ Tryz.prog 130=some (132,some 8,96,.ag [.vl (.bool false),.vl (.bool false),.vl (.slice none 0 0),.vl (.int .i64 0),.vl (.bool false),.vl (.bool false),.vl (.slice none 0 0),.vl (.int .i64 0)]):=by kernel_rfl
def qwW:elK Tryz.prog 140=some (142,some 8,96):=by kernel_rfl
def qwQ:elZ Tryz.prog 140=some (142,some 8,96,.ag [.vl (.bool false),.vl (.bool false),.vl (.slice none 0 0),.vl (.int .i64 0),.vl (.bool false),.vl (.bool false),.vl (.slice none 0 0),.vl (.int .i64 0)]):=by kernel_rfl
def qwV:elK Tryz.prog 150=some (39,none,24):=by kernel_rfl
def qwP:elZ Tryz.prog 150=some (39,none,24,.vl (.slice none 0 0)):=by kernel_rfl
def qwU:elK Tryz.prog 168=some (25,none,24):=by kernel_rfl
def qwO:elZ Tryz.prog 168=some (25,none,24,.vl (.slice none 0 0)):=by kernel_rfl
def qwT:elK Tryz.prog 191=some (69,none,24):=by kernel_rfl
def qwN:elZ Tryz.prog 191=some (69,none,24,.vl (.slice none 0 0)):=by kernel_rfl
def qwS:elK Tryz.prog 268=some (272,some 2,16):=by kernel_rfl
def qwM:elZ Tryz.prog 268=some (272,some 2,16,.ag [.vl (.int .u64 0),.vl (.int .u64 0)]):=by kernel_rfl
def alB3:alB Tryz.prog 3=some ⟨3,none,[.vl (.int .i64 0)],false⟩:=by kernel_rfl
def alB27:alB Tryz.prog 27=some ⟨27,some 5,[.ag [.vl (.int .i64 0),.vl (.int .i64 0),.vl (.slice none 0 0),.vl (.slice none 0 0),.vl (.slice none 0 0)]],false⟩:=by kernel_rfl
def alB31:alB Tryz.prog 31=some ⟨31,some 3,[.ag [.vl (.int .i64 0),.vl (.int .i64 0),.vl (.slice none 0 0)]],false⟩:=by kernel_rfl
def alB37:alB Tryz.prog 37=some ⟨37,some 4,[.ag [.vl (.int .i64 0),.vl (.int .i64 0),.vl (.slice none 0 0),.vl (.slice none 0 0)]],false⟩:=by kernel_rfl
def alB46:alB Tryz.prog 46=some ⟨46,some 2,[.ag [.vl (.bool false),.vl (.slice none 0 0)]],false⟩:=by kernel_rfl
def alB48:alB Tryz.prog 48=some ⟨48,some 4,[.ag [.vl (.bool false),.vl (.bool false),.vl (.slice none 0 0),.vl (.int .i64 0)]],false⟩:=by kernel_rfl
def alB58:alB Tryz.prog 58=some ⟨58,some 2,[.ag [.vl (.int .u64 0),.vl (.int .u64 0)]],false⟩:=by kernel_rfl
def alB99:alB Tryz.prog 99=some ⟨99,some 8,[.ag [.vl (.slice none 0 0),.vl (.slice none 0 0),.vl (.slice none 0 0),.vl (.slice none 0 0),.vl (.slice none 0 0),.vl (.slice none 0 0),.vl (.slice none 0 0),.vl (.slice none 0 0)]],false⟩:=by kernel_rfl
def qyJ:alB Tryz.prog 132=some ⟨132,some 8,[.ag [.vl (.bool false),.vl (.bool false),.vl (.slice none 0 0),.vl (.int .i64 0),.vl (.bool false),.vl (.bool false),.vl (.slice none 0 0),.vl (.int .i64 0)]],false⟩:=by kernel_rfl
def qyI:alB Tryz.prog 142=some ⟨142,some 8,[.ag [.vl (.bool false),.vl (.bool false),.vl (.slice none 0 0),.vl (.int .i64 0),.vl (.bool false),.vl (.bool false),.vl (.slice none 0 0),.vl (.int .i64 0)]],false⟩:=by kernel_rfl
def qyH:alB Tryz.prog 193=some ⟨193,some 5,[.ag [.vl (.slice none 0 0),.vl (.slice none 0 0),.vl (.slice none 0 0),.vl (.slice none 0 0),.vl (.slice none 0 0)]],false⟩:=by kernel_rfl
def qyG:alB Tryz.prog 213=some ⟨213,some 5,[.ag [.vl (.bool false),.vl (.bool false),.vl (.slice none 0 0),.vl (.int .i64 0),.vl (.bool false)]],false⟩:=by kernel_rfl
def qyF:alB Tryz.prog 272=some ⟨272,some 2,[.ag [.vl (.int .u64 0),.vl (.int .u64 0)]],false⟩:=by kernel_rfl
def qyE:alB Tryz.prog 349=some ⟨349,some 32,[.ag [.vl (.int .u8 0),.vl (.int .u8 0),.vl (.int .u8 0),.vl (.int .u8 0),.vl (.int .u8 0),.vl (.int .u8 0),.vl (.int .u8 0),.vl (.int .u8 0),.vl (.int .u8 0),.vl (.int .u8 0),.vl (.int .u8 0),.vl (.int .u8 0),.vl (.int .u8 0),.vl (.int .u8 0),.vl (.int .u8 0),.vl (.int .u8 0),.vl (.int .u8 0),.vl (.int .u8 0),.vl (.int .u8 0),.vl (.int .u8 0),.vl (.int .u8 0),.vl (.int .u8 0),.vl (.int .u8 0),.vl (.int .u8 0),.vl (.int .u8 0),.vl (.int .u8 0),.vl (.int .u8 0),.vl (.int .u8 0),.vl (.int .u8 0),.vl (.int .u8 0),.vl (.int .u8 0),.vl (.int .u8 0)]],false⟩:=by kernel_rfl
def qkR:q2H Tryz.prog 27 0=some (0,none):=by kernel_rfl
def qkQ:q2H Tryz.prog 27 1=some (1,none):=by kernel_rfl
def qkP:q2H Tryz.prog 27 2=some (2,none):=by kernel_rfl
def qkO:q2H Tryz.prog 27 3=some (3,none):=by kernel_rfl
def qkN:q2H Tryz.prog 27 4=some (4,none):=by kernel_rfl
def qkM:q2H Tryz.prog 31 0=some (0,none):=by kernel_rfl
def qkL:q2H Tryz.prog 31 1=some (1,none):=by kernel_rfl
def qkK:q2H Tryz.prog 31 2=some (2,none):=by kernel_rfl
def qkJ:q2H Tryz.prog 37 0=some (0,some 3):=by kernel_rfl
def qkI:q2H Tryz.prog 37 1=some (3,none):=by kernel_rfl
def qkH:q2H Tryz.prog 46 0=some (0,none):=by kernel_rfl
def qkG:q2H Tryz.prog 46 1=some (1,none):=by kernel_rfl
def qkF:q2H Tryz.prog 48 0=some (0,none):=by kernel_rfl
def qkE:q2H Tryz.prog 48 1=some (1,some 2):=by kernel_rfl
def qkD:q2H Tryz.prog 48 2=some (3,none):=by kernel_rfl
def qkC:q2H Tryz.prog 58 0=some (0,none):=by kernel_rfl
def qkB:q2H Tryz.prog 58 1=some (1,none):=by kernel_rfl
def qkA:q2H Tryz.prog 99 0=some (0,none):=by kernel_rfl
def qjz:q2H Tryz.prog 99 1=some (1,none):=by kernel_rfl
def qjy:q2H Tryz.prog 99 2=some (2,none):=by kernel_rfl
def qjx:q2H Tryz.prog 99 3=some (3,none):=by kernel_rfl
def qjw:q2H Tryz.prog 99 4=some (4,none):=by kernel_rfl
def qjv:q2H Tryz.prog 99 5=some (5,none):=by kernel_rfl
def qju:q2H Tryz.prog 99 6=some (6,none):=by kernel_rfl
def qjt:q2H Tryz.prog 99 7=some (7,none):=by kernel_rfl
def qgl:q2H Tryz.prog 132 0=some (0,some 4):=by kernel_rfl
def qgk:q2H Tryz.prog 132 1=some (4,some 4):=by kernel_rfl
def qgj:q2H Tryz.prog 142 0=some (0,some 4):=by kernel_rfl
def qgi:q2H Tryz.prog 142 1=some (4,some 4):=by kernel_rfl
def qgh:q2H Tryz.prog 193 0=some (0,none):=by kernel_rfl
def qgg:q2H Tryz.prog 193 1=some (1,none):=by kernel_rfl
def qgf:q2H Tryz.prog 193 2=some (2,none):=by kernel_rfl
def qge:q2H Tryz.prog 193 3=some (3,none):=by kernel_rfl
def qgd:q2H Tryz.prog 193 4=some (4,none):=by kernel_rfl
def qgc:q2H Tryz.prog 213 0=some (0,none):=by kernel_rfl
def qgb:q2H Tryz.prog 213 1=some (1,some 2):=by kernel_rfl
def qga:q2H Tryz.prog 213 2=some (3,none):=by kernel_rfl
def qg9:q2H Tryz.prog 213 3=some (4,none):=by kernel_rfl
def qg8:q2H Tryz.prog 272 0=some (0,none):=by kernel_rfl
def qg7:q2H Tryz.prog 272 1=some (1,none):=by kernel_rfl
def plc27:plc Tryz.prog 27=some ([(0,1),(1,1),(2,1),(3,1),(4,1)],[.int .i64 0,.int .i64 0,.slice none 0 0,.slice none 0 0,.slice none 0 0]):=by kernel_rfl
def plc31:plc Tryz.prog 31=some ([(0,1),(1,1),(2,1)],[.int .i64 0,.int .i64 0,.slice none 0 0]):=by kernel_rfl
def plc37:plc Tryz.prog 37=some ([(0,3),(3,1)],[.int .i64 0,.int .i64 0,.slice none 0 0,.slice none 0 0]):=by kernel_rfl
def plc46:plc Tryz.prog 46=some ([(0,1),(1,1)],[.bool false,.slice none 0 0]):=by kernel_rfl
def plc48:plc Tryz.prog 48=some ([(0,1),(1,2),(3,1)],[.bool false,.bool false,.slice none 0 0,.int .i64 0]):=by kernel_rfl
def plc58:plc Tryz.prog 58=some ([(0,1),(1,1)],[.int .u64 0,.int .u64 0]):=by kernel_rfl
def plc99:plc Tryz.prog 99=some ([(0,1),(1,1),(2,1),(3,1),(4,1),(5,1),(6,1),(7,1)],[.slice none 0 0,.slice none 0 0,.slice none 0 0,.slice none 0 0,.slice none 0 0,.slice none 0 0,.slice none 0 0,.slice none 0 0]):=by kernel_rfl
def qut:plc Tryz.prog 132=some ([(0,4),(4,4)],[.bool false,.bool false,.slice none 0 0,.int .i64 0,.bool false,.bool false,.slice none 0 0,.int .i64 0]):=by kernel_rfl
def qus:plc Tryz.prog 142=some ([(0,4),(4,4)],[.bool false,.bool false,.slice none 0 0,.int .i64 0,.bool false,.bool false,.slice none 0 0,.int .i64 0]):=by kernel_rfl
def qur:plc Tryz.prog 213=some ([(0,1),(1,2),(3,1),(4,1)],[.bool false,.bool false,.slice none 0 0,.int .i64 0,.bool false]):=by kernel_rfl
def quq:plc Tryz.prog 272=some ([(0,1),(1,1)],[.int .u64 0,.int .u64 0]):=by kernel_rfl
attribute [go_sem] elK22 elZ22 elK24 elZ24 elK25 elZ25 elK39 elZ39 elK51 elZ51 elK52 elZ52 elK69 elZ69 qwX qwR qwW qwQ qwV qwP qwU qwO
attribute [go_sem] qwT qwN qwS qwM alB3 alB27 alB31 alB37 alB46 alB48 alB58 alB99 qyJ qyI qyH qyG
attribute [go_sem] qyF qyE qkR qkQ qkP qkO qkN qkM qkL qkK qkJ qkI qkH qkG qkF qkE qkD qkC qkB
attribute [go_sem] qkA qjz qjy qjx qjw qjv qju qjt qgl qgk qgj qgi qgh qgg qgf qge qgd qgc qgb qga qg9
attribute [go_sem] qg8 qg7
def qx7 {ps:List (Nat × PV)}:blP Tryz.prog 27 ps=(flP [(0,1),(1,1),(2,1),(3,1),(4,1)] ([.int .i64 0,.int .i64 0,.slice none 0 0,.slice none 0 0,.slice none 0 0].map .vl) ps).map .ag:=qhl plc27
def qx6 {ps:List (Nat × PV)}:blP Tryz.prog 31 ps=(flP [(0,1),(1,1),(2,1)] ([.int .i64 0,.int .i64 0,.slice none 0 0].map .vl) ps).map .ag:=qhl plc31
def qx5 {ps:List (Nat × PV)}:blP Tryz.prog 37 ps=(flP [(0,3),(3,1)] ([.int .i64 0,.int .i64 0,.slice none 0 0,.slice none 0 0].map .vl) ps).map .ag:=qhl plc37
def qx4 {ps:List (Nat × PV)}:blP Tryz.prog 46 ps=(flP [(0,1),(1,1)] ([.bool false,.slice none 0 0].map .vl) ps).map .ag:=qhl plc46
def qx3 {ps:List (Nat × PV)}:blP Tryz.prog 48 ps=(flP [(0,1),(1,2),(3,1)] ([.bool false,.bool false,.slice none 0 0,.int .i64 0].map .vl) ps).map .ag:=qhl plc48
def qx2 {ps:List (Nat × PV)}:blP Tryz.prog 58 ps=(flP [(0,1),(1,1)] ([.int .u64 0,.int .u64 0].map .vl) ps).map .ag:=qhl plc58
def qx1 {ps:List (Nat × PV)}:blP Tryz.prog 99 ps=(flP [(0,1),(1,1),(2,1),(3,1),(4,1),(5,1),(6,1),(7,1)] ([.slice none 0 0,.slice none 0 0,.slice none 0 0,.slice none 0 0,.slice none 0 0,.slice none 0 0,.slice none 0 0,.slice none 0 0].map .vl) ps).map .ag:=qhl plc99
def qrQ {ps:List (Nat × PV)}:blP Tryz.prog 132 ps=(flP [(0,4),(4,4)] ([.bool false,.bool false,.slice none 0 0,.int .i64 0,.bool false,.bool false,.slice none 0 0,.int .i64 0].map .vl) ps).map .ag:=qhl qut
def qrP {ps:List (Nat × PV)}:blP Tryz.prog 142 ps=(flP [(0,4),(4,4)] ([.bool false,.bool false,.slice none 0 0,.int .i64 0,.bool false,.bool false,.slice none 0 0,.int .i64 0].map .vl) ps).map .ag:=qhl qus
def qrO {ps:List (Nat × PV)}:blP Tryz.prog 213 ps=(flP [(0,1),(1,2),(3,1),(4,1)] ([.bool false,.bool false,.slice none 0 0,.int .i64 0,.bool false].map .vl) ps).map .ag:=qhl qur
def qrN {ps:List (Nat × PV)}:blP Tryz.prog 272 ps=(flP [(0,1),(1,1)] ([.int .u64 0,.int .u64 0].map .vl) ps).map .ag:=qhl quq
attribute [go_sem] qx7 qx6 qx5 qx4 qx3 qx2 qx1 qrQ qrP qrO qrN
end Go.Proofs.YtpbaikoblfcmdaaGreatDoor
namespace Go.E
open Go Go.RowKit
attribute [go_sem ↓] pu_ap qpl qzd AL_n AL_g qrb qhs qra qlQ qr9 qdt q9k qds qay q9j qlO qxw fnP_q qlP qxv qxu qxt qrd qlR qyC qyB qyA qxz qxy qrc qlN qht qre qcj
attribute [go_sem 2000] clB_T
attribute [go_sem] cK_t oK_s nnK_n vK_v ldK_s quu quv quw qux mkA_n mkA_z qvs qqS qvn qvp qvo qvt q9Z q90 qte qoY qoX qtg qtf ldU_b qxr qxq qxp qxo qxm qxn qxl pe_t pe_c qun qup h0_ap enP_z enP_s stK_c stK_n kin_c kin_n hpK_c hpK_n ksz_n ksz_s qti qth bn_v un_v cv_v pk_t pk_f fld_p ex_t nl_p nl_q mm_v qvU qvV qvT qgN qpa qgO qpc ld_p ld_q ldU_s ldU_c py_s py_z qpM qpK qpL qwu qwv qky qww qxB qwx qwy qnC qwz clB_s cO_t cO2_t qxC qqh qqi qql qqo qqm qqn qnd qnf qne qz5 qz6 qz7 qsI qct qxG
attribute [go_sem] zF Option.bind_none xG yA y8 List.length_map xM zL yF z6 List.length_set List.drop_zero xJ yT and_true true_and implies_true or_false xW List.set_cons_zero List.set_cons_succ y2 xN List.take_nil xQ
def q9A:List PV->Nat->PV->Option (List PV)
 | [],_,_=>none
 | _ :: l,0,x=>some (x :: l)
 | y :: l,n+1,x=>(q9A l n x).map λr=>y :: r
def qfC:∀ {l:List PV} {n:Nat} {x:PV},q9A l n x=if n < l.length then some (l.set n x) else none
 | [],n,x=>by simp [q9A]
 | y :: l,0,x=>by simp [q9A]
 | y :: l,n+1,x=>by
  simp only [q9A,qfC (l:=l)]
  by_cases h:n < l.length <;> simp [h]
def quQ {y x:PV} {l:List PV}:q9A (y :: l) 0 x=some (x :: l):=rfl
def quR {y x:PV} {l:List PV} {n:Nat}:q9A (y :: l) (n+1) x=(q9A l n x).map λr=>y :: r:=rfl
def q9r:List PV->Nat->List PV->Option (List PV)
 | cs,0,[]=>some cs
 | _ :: cs,0,y :: l=>(q9r cs 0 l).map λr=>y :: r
 | x :: cs,n+1,l=>(q9r cs n l).map λr=>x :: r
 | [],_,_=>none
def q4e:∀ {cs:List PV} {n:Nat} {l:List PV},0 < l.length->q9r cs n l=if n+l.length<=cs.length then some (cs.take n ++ l ++ cs.drop (n+l.length)) else none
 | [],n,y :: l,_=>by
  cases n <;> simp [q9r]
 | x :: cs,0,[y],_=>by simp [q9r]
 | x :: cs,0,y :: z :: l,_=>by
  rw [q9r,q4e (cs:=cs) (n:=0) (l:=z :: l) (by simp)];simp only [zL]
  by_cases h:l.length+1<=cs.length
  ·rw [if_pos (by omega),if_pos (by omega)]; simp [xS]
  ·rw [if_neg (by omega),if_neg (by omega)]; rfl
 | x :: cs,n+1,y :: l,hl=>by
  rw [q9r,q4e (cs:=cs) (n:=n) hl];simp only [zL]
  by_cases h:n+(l.length+1)<=cs.length
  ·rw [if_pos h,if_pos (by omega)];rw [show n+1+(l.length+1)=n+(l.length+1)+1 by omega];simp
  ·rw [if_neg h,if_neg (by omega)]; rfl
def quS {cs:List PV}:q9r cs 0 []=some cs:=by cases cs <;> rfl
def quU {x y:PV} {cs l:List PV}:q9r (x :: cs) 0 (y :: l)=(q9r cs 0 l).map λr=>y :: r:=rfl
def quT {x:PV} {cs l:List PV} {n:Nat}:q9r (x :: cs) (n+1) l=(q9r cs n l).map λr=>x :: r:=by cases l <;> rfl
def flS (o:Option (Nat × Nat)) (x:PV) (cs:List PV):Option (List PV):=match o with
 | some (off,1)=>match x with
  | .vl y=>if y.oneCell'=true then q9A cs off (.vl y) else none
  | .sl k l=>q9A cs off (.sl k l)
  | .ow id k a n=>q9A cs off (.ow id k a n)
  | .pt id a n=>q9A cs off (.pt id a n)
  | _=>none
 | some (off,m)=>match x with
  | .ag l=>if l.length=m/\off+m<=cs.length then some (cs.take off ++ l ++ cs.drop (off+m)) else none
  | _=>none
 | none=>none
def flP_n {pl:List (Nat × Nat)} {cs:List PV}:flP pl cs []=some cs:=rfl
def flP_c {pl:List (Nat × Nat)} {cs:List PV} {i:Nat} {x:PV} {r:List (Nat × PV)}:flP pl cs ((i,x) :: r)=(flS (pl[i]?) x cs).bind λc=>flP pl c r:=by
 rw [flP];unfold flS;cases pl[i]? with
 | none=>rfl
 | some p =>
  obtain ⟨off,m⟩:=p
  match m with
  | 0=>cases x <;> (try rfl); simp only; split <;> rfl
  | 1 =>
   cases x <;> simp only [qfC] <;> (try rfl)
   case vl y=>by_cases h1:y.oneCell'=true <;> by_cases h2:off < cs.length <;> simp [h1,h2]
   all_goals (by_cases h2:off < cs.length <;> simp [h2])
  | m+2=>cases x <;> (try rfl); simp only; split <;> rfl
def flS_2 {off:Nat} {a b:PV} {cs:List PV}:flS (some (off,2)) (.ag [a,b]) cs=q9r cs off [a,b]:=by
 rw [q4e (by simp)];simp [flS]
def flS_4 {off:Nat} {a b c d:PV} {cs:List PV}:flS (some (off,4)) (.ag [a,b,c,d]) cs=q9r cs off [a,b,c,d]:=by
 rw [q4e (by simp)];simp [flS]
def flS_i {off:Nat} {k:IntKind} {z:Int} {cs:List PV}:flS (some (off,1)) (.vl (.int k z)) cs=q9A cs off (.vl (.int k z)):=rfl
def flS_b {off:Nat} {z:Bool} {cs:List PV}:flS (some (off,1)) (.vl (.bool z)) cs=q9A cs off (.vl (.bool z)):=rfl
def flS_l {off n c:Nat} {A:Option Addr} {cs:List PV}:flS (some (off,1)) (.vl (.slice A n c)) cs=q9A cs off (.vl (.slice A n c)):=rfl
def flS_s {off:Nat} {k:Kd} {l cs:List PV}:flS (some (off,1)) (.sl k l) cs=q9A cs off (.sl k l):=rfl
def flS_o {off id a n:Nat} {k:Kd} {cs:List PV}:flS (some (off,1)) (.ow id k a n) cs=q9A cs off (.ow id k a n):=rfl
attribute [go_sem] quQ quR quS quU quT flS_2 flS_4 flP_n flP_c flS_i flS_b flS_l flS_s flS_o
def tkm {α β:Type} {f:α->β} {l:List α}:(l.map f).take l.length=l.map f:=yC (by simp)
def qid {α β:Type} {f:α->β} {l:List α} {n:Nat} (hn:l.length<=n):(l.map f).take n=l.map f:=yC (by simpa using hn)
def tkl {α:Type} {l:List α}:l.take l.length=l:=List.take_length
attribute [go_sem] tkm qid tkl
def nin (x:Nat):List Nat->Prop
 | []=>True
 | y :: r=>x≠y/\nin x r
def dis (l:List Nat):List Nat->Prop
 | []=>True
 | x :: r=>nin x l/\dis l r
def q7D {x:Nat}:∀ {l:List Nat},nin x l=(x ∉ l)
 | []=>by simp [nin]
 | y :: r=>by simp [nin,q7D (l:=r)]
def qnA {l:List Nat}:∀ {r:List Nat},dis l r=∀ x ∈ r,x ∉ l
 | []=>by simp [dis]
 | y :: r=>by simp [dis,q7D,qnA (r:=r)]
def nin_n {x:Nat}:nin x []=True:=rfl
def nin_c {x y:Nat} {r:List Nat}:nin x (y :: r)=(x≠y/\nin x r):=rfl
def dis_n {l:List Nat}:dis l []=True:=rfl
def dis_c {l r:List Nat} {x:Nat}:dis l (x :: r)=(nin x l/\dis l r):=rfl
def dj_eq {a b c d:List Nat}:dj (a,b) (c,d)=(dis c b/\dis d b/\dis a d):=by
 simp only [dj,qnA];exact propext ⟨λh=>⟨λx hx=>(h.1 x hx).1,λx hx=>(h.1 x hx).2,h.2⟩,λh=>⟨λx hx=>⟨h.1 x hx,h.2.1 x hx⟩,h.2.2⟩⟩
def qxH {a b:Nat} {r:List (Nat × Nat)} {acc:List FP}:qqp ((a,b) :: r) acc=(dj (acc.reverse.getD a ([],[])) (acc.reverse.getD b ([],[]))/\qqp r acc):=by
 simp [qqp,chk]
attribute [go_sem] nin_n nin_c dis_n dis_c dj_eq qxH List.reverse_cons List.reverse_nil List.cons_append List.getD_cons_zero List.getD_cons_succ Option.toList_some Option.toList_none xK
def qk9 [NL] {z:Int} {A:Prop}:q1q none (.vl (.int .i64 z)) A=A:=by rw [qgm]; simp [cK,nlo]
def qk8 [NL] {z:Int} {A:Prop}:q1q none (.vl (.int .u64 z)) A=A:=by rw [qgm]; simp [cK,nlo]
attribute [go_sem] qk9 qk8 qxS
section
variable {τ:Nat->Option Nat} {h h':Hp} {x y:PV} {l m:List PV} {k k':Kd}
def qyh:LeV τ h h' x .un=True:=by simp [LeV.un]
def qn6 {a b:Value}:LeV τ h h' (.vl a) (.vl b)=(a=b):=by
 refine propext ⟨λh=>by cases h; rfl,λh=>by subst h; exact .cl (by simp [Cld,q3T])⟩
def qyo {G H:Fam}:LeV τ h h' (.fm G) (.fm H)=(G=H):=by
 refine propext ⟨λh=>by cases h; rfl,λh=>by subst h; exact .cl (by simp [Cld,q3T])⟩
def qyk:LeV τ h h' (.sl k l) (.sl k' m)=(k=k'/\l=m):=by
 refine propext ⟨λh=>by cases h; exact ⟨rfl,rfl⟩,λh=>by obtain ⟨rfl,rfl⟩:=h; exact .cl (by simp [Cld,q3T])⟩
def q32 {i j a b c d:Nat}:LeV τ h h' (.ow j k a b) (.ow i k' c d)=(τ i=some j/\(∃ b,h' i=some b)/\k=k'/\a=c/\b=d):=by
 refine propext ⟨λh=>?_,λ⟨h1,⟨b,h2⟩,h3,h4,h5⟩=>by subst h3; subst h4; subst h5; exact .ow h1 h2⟩;cases h with
 | cl hc=>simp [Cld,q3T] at hc
 | ow h1 h2=>exact ⟨h1,⟨_,h2⟩,rfl,rfl,rfl⟩
def qym {i j a b c d:Nat}:LeV τ h h' (.pt j a b) (.pt i c d)=(τ i=some j/\(∃ b,h' i=some b)/\a=c/\b=d):=by
 refine propext ⟨λh=>?_,λ⟨h1,⟨b,h2⟩,h4,h5⟩=>by subst h4; subst h5; exact .pt h1 h2⟩;cases h with
 | cl hc=>simp [Cld,q3T] at hc
 | pt h1 h2=>exact ⟨h1,⟨_,h2⟩,rfl,rfl⟩
def q33 {j a b:Nat} {T:TypeId} (hj:h j=some ⟨T,k,l,false⟩) (hc:ClL l) (hn:∀ i,τ i=some j->h' i=none) (he:(l.drop a).take b=m):LeV τ h h' (.ow j k a b) (.sl k m):=by
 subst he;exact .fz hj rfl rfl hc hn
def qn7 {i a b:Nat}:LeV τ h h' (.vl (.slice none 0 0)) (.ow i k a b)=(τ i=none/\(∃ b,h' i=some b/\b.k=k)/\a=0/\b=0):=by
 refine propext ⟨λh=>?_,λ⟨h1,⟨b,h2,h3⟩,h4,h5⟩=>by subst h4; subst h5; exact .nilow h1 h2 h3⟩;cases h with
 | nilow h1 h2 h3=>exact ⟨h1,⟨_,h2,h3⟩,rfl,rfl⟩
def qyn:LeV τ h h' (.vl (.slice none 0 0)) (.sl k l)=(l=[]):=by
 refine propext ⟨λh=>by cases h; rfl,λh=>by subst h; exact .nilsl⟩
def qeK (τ:Nat->Option Nat) (h h':Hp):List PV->List PV->Prop
 | [],[]=>True
 | x :: l,y :: m=>LeV τ h h' x y/\qeK τ h h' l m
 | _,_=>False
def q80:∀ {l m:List PV},qeK τ h h' l m=LeL τ h h' l m
 | [],[]=>by simp [qeK,LeL]
 | x :: l,[]=>by simp [qeK,LeL]
 | [],y :: m=>by simp [qeK,LeL]
 | x :: l,y :: m=>by
  simp only [qeK];rw [q80 (l:=l) (m:=m)];refine propext ⟨λ⟨h1,h2,h3⟩=>⟨by simp [h2],λi a b ha hb=>?_⟩,λ⟨h1,h2⟩=>⟨h2 0 x y rfl rfl,by simpa using h1,λi a b ha hb=>h2 (i+1) a b (by simpa using ha) (by simpa using hb)⟩⟩;cases i with
  | zero=>simp at ha hb; subst ha; subst hb; exact h1
  | succ i=>exact h3 i a b (by simpa using ha) (by simpa using hb)
def qiC:LeV τ h h' (.ag l) (.ag m)=qeK τ h h' l m:=by
 rw [q80];refine propext ⟨λh=>?_,λ⟨h1,h2⟩=>.ag h1 h2⟩;cases h with
 | cl hc=>exact ⟨rfl,λi a b ha hb=>by rw [ha] at hb; cases hb; have:=hc a (zG ha); exact .cl (by cases a <;> simp_all [Cld,q3T])⟩
 | ag h1 h2=>exact ⟨h1,h2⟩
def qyi:LeV τ h h' (.tu l) (.tu m)=qeK τ h h' l m:=by
 rw [q80];refine propext ⟨λh=>?_,λ⟨h1,h2⟩=>.tu h1 h2⟩;cases h with
 | cl hc=>simp [Cld,q3T] at hc
 | tu h1 h2=>exact ⟨h1,h2⟩
def qyp:qeK τ h h' [] []=True:=rfl
def q3E:qeK τ h h' (x :: l) (y :: m)=(LeV τ h h' x y/\qeK τ h h' l m):=rfl
def qyq {s:Nat->PV}:q5X τ h h' s []=True:=rfl
def qyr {s:Nat->PV} {t:Nat} {r:List (Nat × PV)}:q5X τ h h' s ((t,x) :: r)=(LeV τ h h' (s t) x/\q5X τ h h' s r):=rfl
def qys {s s0:Nat->PV}:LeSk τ h h' s s0 []=True:=rfl
def qyt {s s0:Nat->PV} {t:Nat} {r:List Nat}:LeSk τ h h' s s0 (t :: r)=(LeV τ h h' (s t) (s0 t)/\LeSk τ h h' s s0 r):=rfl
def qzL:qdv τ h h' []=True:=rfl
def qzM {t:Nat} {b:Bk} {r:List (Nat × Bk)}:qdv τ h h' ((t,b) :: r)=(LeB τ h h' t b/\qdv τ h h' r):=rfl
def qzP {hb:Hp}:LeBk τ h h' hb []=True:=rfl
def qzQ {hb:Hp} {t:Nat} {r:List Nat}:LeBk τ h h' hb (t :: r)=((∀ b,hb t=some b->LeB τ h h' t b)/\LeBk τ h h' hb r):=rfl
def qtV {i a:Nat} {o:Option Nat} {r:List (Nat × Option Nat)}:q0h ((a,o) :: r) i=if i=a then o else q0h r i:=rfl
def qtU {i:Nat}:q0h [] i=some i:=rfl
def LeB' (o:Option Nat) (τ:Nat->Option Nat) (h h':Hp) (b':Bk):Prop :=
 match o with
 | some j=>∃ b,h j=some b/\b'.T=b.T/\b'.k=b.k/\(b'.st=false/\b.st=false)/\LeL τ h h' b.xs b'.xs
 | none=>b'.xs=[]
def qzS {i:Nat} {b':Bk}:LeB τ h h' i b'=LeB' (τ i) τ h h' b':=rfl
def LeBb (o:Option Bk) (τ:Nat->Option Nat) (h h':Hp) (b':Bk):Prop:=∃ b,o=some b/\b'.T=b.T/\b'.k=b.k/\(b'.st=false/\b.st=false)/\LeL τ h h' b.xs b'.xs
def qzT {j:Nat} {b':Bk}:LeB' (some j) τ h h' b'=LeBb (h j) τ h h' b':=rfl
def qzU {T:TypeId} {st:Bool}:LeB' none τ h h' ⟨T,k,l,st⟩=(l=[]):=rfl
def qzR {T T':TypeId} {st st':Bool}:LeBb (some ⟨T,k,l,st⟩) τ h h' ⟨T',k',m,st'⟩=(T'=T/\k'=k/\(st'=false/\st=false)/\LeL τ h h' l m):=by simp [LeBb]
def q0B (he:l=m) (hc:ClL m):LeL τ h h' l m:=by
 subst he;exact ⟨rfl,λi a b ha hb=>by rw [ha] at hb; cases hb; exact .cl (hc a (zG ha))⟩
def qbF:LeL τ h h' [x] [y]=LeV τ h h' x y:=by rw [<- q80]; simp [qeK]
def qoM:q8p τ []=True:=rfl
def qlm (τ:Nat->Option Nat) (i:Nat):List Nat->Prop
 | []=>True
 | j :: r=>(i=j\/τ i=none\/τ i≠τ j)/\qlm τ i r
def qe9 {i:Nat}:∀ {r:List Nat},qlm τ i r=∀ j ∈ r,i=j\/τ i=none\/τ i≠τ j
 | []=>by simp [qlm]
 | j :: r=>by simp only [qlm,qe9 (r:=r),List.forall_mem_cons]
def qtX {i:Nat}:qlm τ i []=True:=rfl
def qtY {i j:Nat} {r:List Nat}:qlm τ i (j :: r)=((i=j\/τ i=none\/τ i≠τ j)/\qlm τ i r):=rfl
def qoN {i:Nat} {r:List Nat}:q8p τ (i :: r)=(qlm τ i r/\q8p τ r):=by rw [qe9]; rfl
def qwc {i:Nat} {b:Bk} {bs:List (Nat × Bk)} {kb:List Nat}:dom1 ((i,b) :: bs) kb=i :: dom1 bs kb:=rfl
def qwb {kb:List Nat}:dom1 [] kb=kb:=rfl
end
section
variable {P:Program} {Tb:World->Prop} {J:Nat->Prop} {n:Nat} {Q:SQ} {s:Nat->PV} {h:Hp}
def qiG [NL] {id:Nat} {l:List Oper} {b:Code} (hw:∀ K:(Nat->PV)->Hp->Prop,(∀ s h,AW P Tb J n b Q s h->K s h)->AL P Tb l (λs h _=>K s h) l s h []):AW P Tb J n (.seq (.region id l.toArray false) b) Q s h :=
 q34 λK hK=>qnh λK1 hK1=>hw K1 λs h hb=>hK1 s h (hK s h hb)
def Az {id:Nat} {l:List Oper} {b:Code} {s1:Nat->PV} {h1:Hp}  (k:AW P Tb J n b Q s1 h1) (ee:∀ K:(Nat->PV)->Hp->Prop,AL P Tb l (λs h _=>K s h) l s h []=K s1 h1:=by intro K; simp -implicitDefEqProofs (disch:=omega) only [go_sem,Nat.reduceEqDiff,Nat.reduceAdd,↓reduceIte]; exact rfl):AW P Tb J n (.seq (.region id l.toArray false) b) Q s h:=qiG λK hK=>(ee K).mpr (hK _ _ k)
def Az1 {id:Nat} {l:List Oper} {b:Code} {s1:Nat->PV} {h1:Hp} {F1:Prop} (f1:F1) (k:AW P Tb J n b Q s1 h1) (ee:F1->∀ K:(Nat->PV)->Hp->Prop,AL P Tb l (λs h _=>K s h) l s h []=K s1 h1:=by intro g1 K; simp -implicitDefEqProofs (disch:=omega) only [go_sem,Nat.reduceEqDiff,Nat.reduceAdd,↓reduceIte,g1]; exact rfl):AW P Tb J n (.seq (.region id l.toArray false) b) Q s h:=qiG λK hK=>(ee f1 K).mpr (hK _ _ k)
def Az2 {id:Nat} {l:List Oper} {b:Code} {s1:Nat->PV} {h1:Hp} {F1 F2:Prop} (f1:F1) (f2:F2) (k:AW P Tb J n b Q s1 h1) (ee:F1->F2->∀ K:(Nat->PV)->Hp->Prop,AL P Tb l (λs h _=>K s h) l s h []=K s1 h1:=by intro g1 g2 K; simp -implicitDefEqProofs (disch:=omega) only [go_sem,Nat.reduceEqDiff,Nat.reduceAdd,↓reduceIte,g1,g2]; exact rfl):AW P Tb J n (.seq (.region id l.toArray false) b) Q s h:=qiG λK hK=>(ee f1 f2 K).mpr (hK _ _ k)
def Az3 {id:Nat} {l:List Oper} {b:Code} {s1:Nat->PV} {h1:Hp} {F1 F2 F3:Prop} (f1:F1) (f2:F2) (f3:F3) (k:AW P Tb J n b Q s1 h1) (ee:F1->F2->F3->∀ K:(Nat->PV)->Hp->Prop,AL P Tb l (λs h _=>K s h) l s h []=K s1 h1:=by intro g1 g2 g3 K; simp -implicitDefEqProofs (disch:=omega) only [go_sem,Nat.reduceEqDiff,Nat.reduceAdd,↓reduceIte,g1,g2,g3]; exact rfl):AW P Tb J n (.seq (.region id l.toArray false) b) Q s h:=qiG λK hK=>(ee f1 f2 f3 K).mpr (hK _ _ k)
def Az4 {id:Nat} {l:List Oper} {b:Code} {s1:Nat->PV} {h1:Hp} {F1 F2 F3 F4:Prop} (f1:F1) (f2:F2) (f3:F3) (f4:F4) (k:AW P Tb J n b Q s1 h1) (ee:F1->F2->F3->F4->∀ K:(Nat->PV)->Hp->Prop,AL P Tb l (λs h _=>K s h) l s h []=K s1 h1:=by intro g1 g2 g3 g4 K; simp -implicitDefEqProofs (disch:=omega) only [go_sem,Nat.reduceEqDiff,Nat.reduceAdd,↓reduceIte,g1,g2,g3,g4]; exact rfl):AW P Tb J n (.seq (.region id l.toArray false) b) Q s h:=qiG λK hK=>(ee f1 f2 f3 f4 K).mpr (hK _ _ k)
def Az5 {id:Nat} {l:List Oper} {b:Code} {s1:Nat->PV} {h1:Hp} {F1 F2 F3 F4 F5:Prop} (f1:F1) (f2:F2) (f3:F3) (f4:F4) (f5:F5) (k:AW P Tb J n b Q s1 h1) (ee:F1->F2->F3->F4->F5->∀ K:(Nat->PV)->Hp->Prop,AL P Tb l (λs h _=>K s h) l s h []=K s1 h1:=by intro g1 g2 g3 g4 g5 K; simp -implicitDefEqProofs (disch:=omega) only [go_sem,Nat.reduceEqDiff,Nat.reduceAdd,↓reduceIte,g1,g2,g3,g4,g5]; exact rfl):AW P Tb J n (.seq (.region id l.toArray false) b) Q s h:=qiG λK hK=>(ee f1 f2 f3 f4 f5 K).mpr (hK _ _ k)
def Az6 {id:Nat} {l:List Oper} {b:Code} {s1:Nat->PV} {h1:Hp} {F1 F2 F3 F4 F5 F6:Prop} (f1:F1) (f2:F2) (f3:F3) (f4:F4) (f5:F5) (f6:F6) (k:AW P Tb J n b Q s1 h1) (ee:F1->F2->F3->F4->F5->F6->∀ K:(Nat->PV)->Hp->Prop,AL P Tb l (λs h _=>K s h) l s h []=K s1 h1:=by intro g1 g2 g3 g4 g5 g6 K; simp -implicitDefEqProofs (disch:=omega) only [go_sem,Nat.reduceEqDiff,Nat.reduceAdd,↓reduceIte,g1,g2,g3,g4,g5,g6]; exact rfl):AW P Tb J n (.seq (.region id l.toArray false) b) Q s h:=qiG λK hK=>(ee f1 f2 f3 f4 f5 f6 K).mpr (hK _ _ k)
def A_sd [NL] {id:Nat} {l:List Oper} {b:Code} (prs:List (Nat × Nat)) (hm:P.follows .mixedOrders=true) (hok:qal l (qm9 [] l) prs=true) (hw:∀ K:(Nat->PV)->Hp->Prop,(∀ s h,AW P Tb J n b Q s h->K s h)->AL P Tb l (λs h acc=>qqp prs acc/\K s h) l s h []):AW P Tb J n (.seq (.region id l.toArray true) b) Q s h :=
 q34 λK hK=>qiJ prs hm hok λK1 hK1=>hw K1 λs h hb=>hK1 s h (hK s h hb)
def A_ld [NL] {id:Nat} {l:List Oper} (prs:List (Nat × Nat)) (hm:P.follows .mixedOrders=true) (hok:qal l (qm9 [] l) prs=true) (hw:∀ K:(Nat->PV)->Hp->Prop,(∀ s h,Q .normal s h->K s h)->AL P Tb l (λs h acc=>qqp prs acc/\K s h) l s h []):AW P Tb J n (.region id l.toArray true) Q s h:=qiJ prs hm hok hw
def stM_c {xs kv:List (Nat × PV)} {t a:Nat} {x:PV}:stM ((a,x) :: xs) kv t=if t=a then x else stM xs kv t:=rfl
def stM_n {kv:List (Nat × PV)} {t:Nat}:stM [] kv t=stV kv t:=rfl
def stV_c {kv:List (Nat × PV)} {t a:Nat} {x:PV}:stV ((a,x) :: kv) t=if t=a then x else stV kv t:=rfl
def stV_n {t:Nat}:stV [] t=.un:=rfl
def hpM_c {bs:List (Nat × Bk)} {kb:List (Nat × Option Bk)} {i a:Nat} {b:Bk}:hpM ((a,b) :: bs) kb i=if i=a then some b else hpM bs kb i:=rfl
def hpM_n {kb:List (Nat × Option Bk)} {i:Nat}:hpM [] kb i=hpV kb i:=rfl
def hpV_c {kb:List (Nat × Option Bk)} {i a:Nat} {b:Option Bk}:hpV ((a,b) :: kb) i=if i=a then b else hpV kb i:=rfl
def hpV_n {i:Nat}:hpV [] i=none:=rfl
def qzN {τ:Nat->Option Nat} {h h':Hp}:q9w τ h h' []=True:=rfl
def qzO {τ:Nat->Option Nat} {h h':Hp} {i:Nat} {T:TypeId} {k:Kd} {l:List PV} {st:Bool} {r:List (Nat × Option Bk)}:q9w τ h h' ((i,some ⟨T,k,l,st⟩) :: r)=(LeB τ h h' i ⟨T,k,l,st⟩/\q9w τ h h' r):=by simp [q9w]
attribute [go_sem ↓] stM_c stM_n stV_c stV_n hpM_c hpM_n hpV_c hpV_n
attribute [go_sem] qzN qzO
def qot (o:Option (List PV × List Nat)) (r:PV):Prop:=match o with | some (al,_)=>LeV (λ_=>none) h0 h0 (mkR al) r | none=>False
def qu7 {x r:PV} {l:List Nat}:qot (some ([x],l)) r=LeV (λ_=>none) h0 h0 x r:=rfl
def qu8 {r:PV} {l:List Nat}:qot (some ([],l)) r=LeV (λ_=>none) h0 h0 (.tu []) r:=rfl
def qu6 {x y r:PV} {m:List PV} {l:List Nat}:qot (some (x :: y :: m,l)) r=LeV (λ_=>none) h0 h0 (.tu (x :: y :: m)) r:=rfl
def rsL_n:rsL P h s []=some []:=rfl
def rsC (h:Hp) (k:Option Kd) (p:PV):Option PV:=(ldP h k p).map (·.1)
def rsP_l {a t:Nat}:rsP P h s (.cell a t)=rsC h (q0c P t) (s a):=rfl
def rsC_p {k:Kd} {a i j:Nat}:rsC h (some k) (.pt a i j)=(h a).bind λb=>if b.st=true\/ksz k=0 then none else (b.xs[i]?).bind (ldU b.k k j):=by
 have e:ldP h (some k) (.pt a i j)=(h a).bind λb=>if b.st=true\/ksz k=0 then none else ((b.xs[i]?).bind (ldU b.k k j)).map λx=>(x,[a]):=by
  cases hh:h a <;> simp [ldP,hh]
 unfold rsC;rw [e];cases h a with
 | none=>rfl
 | some b =>
  simp only [zF]
  by_cases hc:b.st=true\/ksz k=0
  ·rw [if_pos hc,if_pos hc]; rfl
  ·rw [if_neg hc,if_neg hc];cases (b.xs[i]?).bind (ldU b.k k j) <;> rfl
def rsB (a:Option PV) (b:Option (List PV)):Option (List PV):=a.bind λx=>b.map λy=>x :: y
def rsL_c {r:ResultVar} {l:List ResultVar}:rsL P h s (r :: l)=rsB (rsP P h s r) (rsL P h s l):=rfl
def rsB_s {x:PV} {l:List PV}:rsB (some x) (some l)=some (x :: l):=rfl
def rt {fn:Func} {r:PV} {rs:List ResultVar} (hr:fn.results.toList=rs) (hlen:(decide (rs.length<=4))=true) (hk:qot ((rsL P h s rs).bind (q21 h)) r) {x:Exit} (hx:x=.ret\/x=.normal):retA P fn r x s h:=by
 refine ⟨hx,by rw [hr]; simpa using hlen,?_⟩;rw [hr];cases h1:rsL P h s rs with
 | none=>rw [h1] at hk; exact hk.elim
 | some l =>
  rw [h1,zF] at hk;cases h2:q21 h l with
  | none=>rw [h2] at hk; exact hk.elim
  | some p=>rw [h2] at hk; exact ⟨l,p.1,p.2,rfl,h2,hk⟩
def A_t [NL] {c:Operand} {a b:Code} (hc:pe s c=.vl (.bool true)) (ha:AW P Tb J n a Q s h):AW P Tb J n (.cond c a b) Q s h:=qiK hc (λ_=>ha) (λh=>by cases h)
def A_f [NL] {c:Operand} {a b:Code} (hc:pe s c=.vl (.bool false)) (hb:AW P Tb J n b Q s h):AW P Tb J n (.cond c a b) Q s h:=qiK hc (λh=>by cases h) (λ_=>hb)
end
attribute [go_sem] qu7 qu8 qu6 rsL_n rsL_c rsB_s rsP_t rsP_l rsC_p qyh qn6 qyo qyk q32 qym qn7 qyn qiC qyi qyp q3E qyq qyr qys qyt qzL qzM qzP qzQ qtV qtU qzS qzT qzU qzR qbF qoM qoN qwc qwb qtX qtY ne_eq not_false_eq_true or_true true_or yX.injEq Value.int.injEq Value.bool.injEq Option.map_none exists_eq' false_or and_self reduceCtorEq
end Go.E
namespace Go.Proofs.YtpbaikoblfcmdaaGreatDoor
open Go Go.E Go.Sp
abbrev iv (z:Int):PV:=.vl (.int .i64 z)
abbrev uv (z:Int):PV:=.vl (.int .u64 z)
abbrev bv (b:Bool):PV:=.vl (.bool b)
abbrev q01:PV:=.vl (.slice none 0 0)
abbrev pI (l:List Int):PV:=.sl none (l.map λz=>iv z)
abbrev pF (l:List Nat):PV:=.sl none (l.map λz:Nat=>uv z)
abbrev pB (l:List Bool):PV:=.sl none (l.map bv)
abbrev pV (V:Int):PV:=.fm (fV V)
abbrev ACt [NL] (f:FuncId) (al:List PV) (r:PV):Prop:=AC Tryz.prog q6h f al r
section
variable {τ:Nat->Option Nat} {h h':Hp}
def ql4 {l m:List Value}:LeL τ h h' (l.map .vl) (m.map .vl)=(l=m):=by
 refine propext ⟨λ⟨h1,h2⟩=>?_,λh=>by subst h; exact q0B rfl (by simp [ClL,Cld,q3T])⟩
 apply yH
 intro i
 rcases yQ i l.length with hi | hi
 ·have hm:i < m.length:=by simp at h1; omega
  have:=h2 i (.vl l[i]) (.vl m[i]) (by simp [hi]) (by simp [hm]);rw [qn6] at this;rw [zC hi,zC hm,this]
 ·rw [zW hi,zW (by simp at h1; omega)]
def q83 {α:Type} {f:α->Value} (hf:∀ a b,f a=f b->a=b) {l m:List α}:LeL τ h h' (l.map λz=>.vl (f z)) (m.map λz=>.vl (f z))=(l=m):=by
 have h1:=ql4 (τ:=τ) (h:=h) (h':=h') (l:=l.map f) (m:=m.map f);rw [y3,y3] at h1;refine Eq.trans h1 (propext ⟨λh=>?_,λh=>by rw [h]⟩);exact List.map_inj_right hf |>.1 h
def inj_i:∀ a b:Int,Value.int .i64 a=Value.int .i64 b->a=b:=λa b h=>by injection h
def inj_u:∀ a b:Nat,Value.int .u64 a=Value.int .u64 b->a=b:=λa b h=>by injection h with _ h; omega
def inj_b:∀ a b:Bool,Value.bool a=Value.bool b->a=b:=λa b h=>by injection h
def qdu {l m:List Int}:LeL τ h h' (l.map λz=>iv z) (m.map λz=>iv z)=(l=m):=q83 inj_i
def qiD {l m:List Nat}:LeL τ h h' (l.map λz:Nat=>uv z) (m.map λz:Nat=>uv z)=(l=m):=q83 (f:=λz:Nat=>Value.int .u64 z) inj_u
def ql5 {l m:List Bool}:LeL τ h h' (l.map λz=>bv z) (m.map λz=>bv z)=(l=m):=q83 inj_b
def qzF {m:List Int}:LeL τ h h' [] (m.map λz=>iv z)=([]=m):=qdu (l:=[])
def qzA {m:List Nat}:LeL τ h h' [] (m.map λz:Nat=>uv z)=([]=m):=qiD (l:=[])
def qzK {m:List Bool}:LeL τ h h' [] (m.map λz=>bv z)=([]=m):=ql5 (l:=[])
def qzH {x:Int} {m:List Int}:LeL τ h h' [iv x] (m.map λz=>iv z)=([x]=m):=qdu (l:=[x])
def qzG {x:Int} {l m:List Int}:LeL τ h h' ((l.map λz=>iv z) ++ [iv x]) (m.map λz=>iv z)=(l ++ [x]=m):=by
 have:=qdu (τ:=τ) (h:=h) (h':=h') (l:=l ++ [x]) (m:=m)
 rwa [List.map_append] at this
def qzB {x:Nat} {l m:List Nat}:LeL τ h h' ((l.map λz:Nat=>uv z) ++ [uv x]) (m.map λz:Nat=>uv z)=(l ++ [x]=m):=by
 have:=qiD (τ:=τ) (h:=h) (h':=h') (l:=l ++ [x]) (m:=m)
 rwa [List.map_append] at this
def qzD {x:Int} {k:Nat} {l m:List Int}:LeL τ h h' ((l.map λz=>iv z).set k (iv x)) (m.map λz=>iv z)=(l.set k x=m):=by
 have:=qdu (τ:=τ) (h:=h) (h':=h') (l:=l.set k x) (m:=m)
 rwa [xX] at this
def qyy {x:Nat} {k:Nat} {l m:List Nat}:LeL τ h h' ((l.map λz:Nat=>uv z).set k (uv x)) (m.map λz:Nat=>uv z)=(l.set k x=m):=by
 have:=qiD (τ:=τ) (h:=h) (h':=h') (l:=l.set k x) (m:=m)
 rwa [xX] at this
def qzI {x:Bool} {k:Nat} {l m:List Bool}:LeL τ h h' ((l.map λz=>bv z).set k (bv x)) (m.map λz=>bv z)=(l.set k x=m):=by
 have:=ql5 (τ:=τ) (h:=h) (h':=h') (l:=l.set k x) (m:=m)
 rwa [xX] at this
def qyz {n:Nat} {m:List Nat}:LeL τ h h' (List.replicate n (uv 0)) (m.map λz:Nat=>uv z)=(List.replicate n 0=m):=by
 have:=qiD (τ:=τ) (h:=h) (h':=h') (l:=List.replicate n 0) (m:=m)
 rwa [y6] at this
def qzE {n:Nat} {x:Int} {m:List Int}:LeL τ h h' (List.replicate n (iv x)) (m.map λz=>iv z)=(List.replicate n x=m):=by
 have:=qdu (τ:=τ) (h:=h) (h':=h') (l:=List.replicate n x) (m:=m)
 rwa [y6] at this
def qzJ {n:Nat} {x:Bool} {m:List Bool}:LeL τ h h' (List.replicate n (bv x)) (m.map λz=>bv z)=(List.replicate n x=m):=by
 have:=ql5 (τ:=τ) (h:=h) (h':=h') (l:=List.replicate n x) (m:=m)
 rwa [y6] at this
attribute [go_sem] qdu qiD ql5 qzF qzA qzK qzH qzG qzB qzD qyy qzI qyz qzE qzJ exists_eq_left' forall_eq'
end
def qbX (w w':World) (hx:Ext w w') (hT:q6h w):q6h w':=hT.ext hx
def act [NL] {f:FuncId} {fn:Func} {c:Code} {al:List PV} {r:PV} (hc:q0I Tryz.prog f=true) (hf:Tryz.prog.funcs[f]?=some fn) (hb:fn.body=some c) {n:Nat} (hn:fn.ntmps=n) (hd:(decide (al.length<=n) && q8K n c)=true)
  (hw:AW Tryz.prog q6h (λ_=>False) n c (retA Tryz.prog fn r) (enP al) h0):ACt f al r:=AC_of hc hf hb hn hd qbX hw
end Go.Proofs.YtpbaikoblfcmdaaGreatDoor
namespace Go.E
open Go Go.RowKit
section
variable {P:Program} {Tb:World->Prop} {J:Nat->Prop} {n:Nat} {Q:SQ} {s:Nat->PV} {h:Hp}
def qlx:∀ {kv:List (Nat × PV)},(∀ p ∈ kv,p.2=s p.1)->∀ t,stV kv t=s t\/stV kv t=.un
 | [],_,_=>.inr rfl
 | p :: l,hk,t=>by
  unfold stV
  split
  ·rename_i ht; subst ht; exact .inl (hk p zP)
  ·exact qlx (λq hq=>hk q (zJ _ hq)) t
def q3k [NL] {c:Code} (ks:List Nat) {kv:List (Nat × PV)} (hk:(ks.map λt=>(t,s t))=kv) (hw:AW P Tb J n c Q (stV kv) h):AW P Tb J n c Q s h:=q0u (s':=stV kv) (h':=h) (λD0 w0 ρ e w _ S=>⟨ρ,S.inj,S.own,S.vir,λt=>by
  rcases qlx (s:=s) (kv:=kv) (λp hp=>by
   rw [<- hk] at hp;obtain ⟨t,_,rfl⟩:=y4.1 hp
   rfl) t with h | h
  ·rw [h]; exact S.rd t
  ·rw [h]; unfold Rd; trivial,S.ext,S.fr,S.imp,S.pin⟩) hw
def qpb {kk:IntKind} {l:List PV}:q59 (some 1) (.sl none l) (.vl (.int kk 0))=(l[0]?).map (.qt none):=qgN (n:=0)
def qpd {kk:IntKind} {a off c:Nat} (hn:0 < c):q59 (some 1) (.ow a none off c) (.vl (.int kk 0))=some (.pt a off 0):=qgO (n:=0) hn
def fldQ (r:Nat × Kd) (l:List PV):Option PV:=match r.2 with
 | none=>(l[r.1]?).map (.qt none)
 | some m=>if r.1+m<=l.length/\0 < m then some (.qt (some m) (.ag ((l.drop r.1).take m))) else none
def qvj {t:TypeId} {f n:Nat} {l:List PV}:qs4 P t f (.qt (some n) (.ag l))=(q2H P t f).bind λr=>fldQ r l:=by unfold qs4 fldQ; rfl
def qvm {o:Nat} {l:List PV}:fldQ (o,none) l=(l[o]?).map (.qt none):=rfl
attribute [go_sem] qpb qpd qvj qvm zF
end
end Go.E
