/- CondSound. 2/7. -/
import Derived.LoopN
import Derived.Test.YtbjoghfmhgadkaaGreatDoorPs1
open Array renaming length_toList->zE,getElem?_toList->zI,getD_eq_getD_getElem?->zY,size_setIfInBounds->z8,getElem?_setIfInBounds->yB,getElem?_replicate->yL,mem_toList_iff->yU,replicate->yV,getElem?_eq_getElem->vO,toList_map->y7,toList_zipIdx->xJ,foldl_toList->xL
open Bool renaming and_eq_true->zX,or_eq_true->vP,false_eq_true->xO
open Int renaming toNat_natCast->y6
open List renaming getElem?_eq_some_iff->zC,getElem?_eq_getElem->zD,mem_of_getElem?->zG,getElem?_take->zH,length_cons->zK,mem_of_mem_drop->zL,mem_of_mem_take->zM,mem_cons_of_mem->zN,getElem?_drop->zO,mem_append_right->zQ,mem_append->zR,eq_nil_of_length_eq_zero->zS,getElem?_eq_none->vQ,mem_cons_self->zV,mem_append_left->zW,map_congr_left->zZ,getElem?_append->vR,length_append->z6,getElem?_toArray->z7,getElem?_cons_succ->z9,mem_replicate->yA,length_nil->yC,map_cons->vS,ext_getElem?->yE,getD_eq_getElem?_getD->yG,length_take->yH,all_eq_true->yI,mem_or_eq_of_mem_set->yJ,mem_cons->yK,take_of_length_le->yO,mem_range->yQ,mem_flatMap->yR,range_eq_range'->yS,map_map->yX,mem_map->yY,map_replicate->vT,append_assoc->vV,size_toArray->vW,getElem?_replicate->y9,getElem?_cons_zero->xA,append_nil->xD,length_replicate->xF,getElem?_of_mem->xH,range'->xI,zip_cons_cons->xM,countP_append->xN,map_set->xP
open Nat renaming eq_of_beq_eq_true->zJ,le_refl->zP,zero_add->zU,add_mul->yF,add_zero->yN,beq->yP,mul_le_mul_right->vX,succ_mul->yW,lt_or_ge->yZ,eq_zero_or_pos->vY,mul_pos->vZ,le_mul_of_pos_right->y8,le_trans->xB,zero_mul->xC,strongRecOn->xE,add_assoc->xK
open Option renaming bind_eq_some_iff->zA,map_eq_some_iff->zB,bind_some->zF,map_some->yM,some->xG
set_option linter.unusedSimpArgs false
set_option linter.unusedVariables false
set_option maxRecDepth 20000
set_option maxHeartbeats 2000000
set_option linter.defProp false
namespace Go.E
open Go Go.RowKit
def upo {α:Type} (f:Nat->α) (d:Nat) (x:α):Nat->α:=λi=>if i=d then x else f i
def q0Q (h:Hp) (i:Nat) (b:Bk):Hp:=λj=>if j=i then some b else h j
def pu (s:Nat->PV) (i:Nat) (x:PV):Nat->PV:=λj=>if j=i then x else s j
def q2w (s:Nat->PV):Option Nat->PV->Nat->PV
 | some d,x=>pu s d x
 | none,_=>s
def dm (D0:Nat->Prop) (ρ:Nat->Option Nat) (h:Hp):Nat->Prop:=λk=>D0 k/\∀ i b,h i=some b->ρ i≠some k
def qkI [NL] (w:World) (D:Nat->Prop) (ρ:Nat->Option Nat) (h:Hp) (g:Nat) (b:Bk):Prop :=
 ∃ cs,Blk w g b.T cs/\(∀ u ∈ cs.toList,q4c u=true)/\(b.st=false->∃ vs,cs.toList.take (b.xs.length*ksz b.k)=q09 vs/\RdL w D b.xs ρ h vs/\∀ v ∈ vs,q28 b.k v)
structure Base where
 w:World
 F:Nat->Prop
 I:Nat->TypeId->Nat->Prop
 J:Nat->Option Nat->Prop
 lt:∀ k,F k->k < w.heap.size
 lo:∀ i r,J i r->5000<=i/\i < 1000000
structure Sat [NL] (D0:Nat->Prop) (w0:Base) (s:Nat->PV) (h:Hp) (ρ:Nat->Option Nat) (e:Env) (w:World):Prop where
 inj:∀ i j b c g,h i=some b->h j=some c->c.st=false->ρ i=some g->ρ j=some g->i=j\/b.st=true
 own:∀ i b g,h i=some b->ρ i=some g->(¬ w0.F g/\D0 g)/\qkI w (dm D0 ρ h) ρ h g b
 vir:∀ i b,h i=some b->ρ i=none->b.xs=[]
 rd:∀ t,Rd w (dm D0 ρ h) (s t) ρ h (e t)
 ext:Kp w0.F w0.w w
 fr:Fr D0 w0.w
 imp:∀ g T m,w0.I g T m->∃ cs,Blk w g T cs/\cs.size=m/\∀ u ∈ cs.toList,q4c u=true
 pin:∀ i r,w0.J i r->ρ i=r
section
variable {w w':World} {w0:Base} {D D' D0:Nat->Prop} {ρ ρ':Nat->Option Nat} {h h':Hp} {s:Nat->PV} {e:Env} {g:Nat} {b:Bk}
def q1O {α:Type} {f:Nat->α} {d:Nat} {x:α}:upo f d x d=x:=by simp [upo]
def q0w {α:Type} {f:Nat->α} {d i:Nat} {x:α} (hi:i≠d):upo f d x i=f i:=by simp [upo,hi]
def q0I {i:Nat}:q0Q h i b i=some b:=by simp [q0Q]
def q0A {i j:Nat} (hj:j≠i):q0Q h i b j=h j:=by simp [q0Q,hj]
def qkI.mv [NL] (hb:qkI w D ρ h g b) (hg:w'.heap[g]?=w.heap[g]?) (hk:Kp D w w') (hd:∀ k,k < w.heap.size->D k->D' k) (hc:Cpt w w' ρ h ρ' h'):qkI w' D' ρ' h' g b:=by
 obtain ⟨cs,h1,h2,h3⟩:=hb;refine ⟨cs,hg.trans h1,h2,λhs=>?_⟩;obtain ⟨vs,h4,h5,h6⟩:=h3 hs;exact ⟨vs,h4,RdL.mv hk hd _ _ _ _ _ _ hc h5,h6⟩
def qkI.lt [NL] (hb:qkI w D ρ h g b):g < w.heap.size:=by obtain ⟨cs,h1,_⟩:=hb; exact h1.lt
def Sat.put [NL] (S:Sat D0 w0 s h ρ e w) {x:PV} {y:Value} (d:Nat) (hx:Rd w (dm D0 ρ h) x ρ h y):Sat D0 w0 (pu s d x) h ρ (upd e d y) w :=
 ⟨S.inj,S.own,S.vir,λt=>by
  unfold pu upd
  split
  .exact hx
  .exact S.rd t,S.ext,S.fr,S.imp,S.pin⟩
def Sat.puto [NL] (S:Sat D0 w0 s h ρ e w) {x:PV} {y:Value} (d:Option Nat) (hx:Rd w (dm D0 ρ h) x ρ h y):Sat D0 w0 (q2w s d x) h ρ (E.put e d y) w:=by
 cases d with
 | none=>exact S
 | some d=>exact S.put d hx
def Sat.impx [NL] (S:Sat D0 w0 s h ρ e w) (hx:Ext w w'):∀ g T m,w0.I g T m->∃ cs,Blk w' g T cs/\cs.size=m/\∀ u ∈ cs.toList,q4c u=true:=λg T m hi=>by
 obtain ⟨cs,h1,h2⟩:=S.imp g T m hi;exact ⟨cs,h1.ext hx,h2⟩
def Sat.pino [NL] (S:Sat D0 w0 s h ρ e w) {d:Nat} (hd:d < 5000) {r:Option Nat}:∀ i r',w0.J i r'->upo ρ d r i=r':=λi g hj=>by
 rw [q0w (by have:=w0.lo i g hj; omega)]; exact S.pin i g hj
def Cpt.ext (hx:Ext w w'):Cpt w w' ρ h ρ h:=λi b hi=>⟨rfl,⟨b,hi,rfl,zP _⟩,λg m _ hb=>hb.ext hx⟩
def Sat.extend [NL] (S:Sat D0 w0 s h ρ e w) (hx:Ext w w'):Sat D0 w0 s h ρ e w' :=
 ⟨S.inj,λi b g h1 h2=>by
  obtain ⟨a1,a2⟩:=S.own i b g h1 h2;exact ⟨a1,a2.mv (hx.block g a2.lt trivial) (Kp.of_ext hx) (λ_ _ h=>h) (Cpt.ext hx)⟩,S.vir,λt=>Rd.mv (Kp.of_ext hx) (λ_ _ h=>h) _ _ _ _ _ _ (Cpt.ext hx) (S.rd t),S.ext.trans (Kp.of_ext hx),S.fr,S.impx hx,S.pin⟩
def Sat.alloc [NL] (S:Sat D0 w0 s h ρ e w) {d:Nat} (hd:h d=none) (hd5:d < 5000) (hx:Ext w w') (hg:w.heap.size<=g) {cs:Array Value} (hb:Blk w' g b.T cs) (hn:∀ u ∈ cs.toList,q4c u=true) (hst:b.st=false)
  {vs:List Value} (h1:cs.toList.take (b.xs.length*ksz b.k)=q09 vs) (h2:RdL w (dm D0 ρ h) b.xs ρ h vs) (h3:∀ v ∈ vs,q28 b.k v) :
  Sat D0 w0 s (q0Q h d b) (upo ρ d (some g)) e w'/\(∀ k,k < w.heap.size->dm D0 ρ h k->dm D0 (upo ρ d (some g)) (q0Q h d b) k)/\Cpt w w' ρ h (upo ρ d (some g)) (q0Q h d b):=by
 have hne:∀ i c,h i=some c->i≠d:=λi c hi e=>by subst e; rw [hd] at hi; cases hi
 have hc:Cpt w w' ρ h (upo ρ d (some g)) (q0Q h d b):=λi c hi=>⟨q0w (hne i c hi),⟨c,by rw [q0A (hne i c hi)]; exact hi,rfl,zP _⟩,λ_ _ _ hb=>hb.ext hx⟩;have hdd:∀ k,k < w.heap.size->dm D0 ρ h k->dm D0 (upo ρ d (some g)) (q0Q h d b) k:=λk hk hq=>⟨hq.1,λi c hi=>by
  by_cases hi':i=d
  .subst hi'; rw [q1O]; intro e; cases e; omega
  .rw [q0A hi'] at hi; rw [q0w hi']; exact hq.2 i c hi⟩
 have hk:Kp (dm D0 ρ h) w w':=Kp.of_ext hx;refine ⟨⟨λi j c c' g' hi hj hs ri rj=>?_,λi c g' hi ri=>?_,λi c hi ri=>?_,λt=>Rd.mv hk hdd _ _ _ _ _ _ hc (S.rd t),S.ext.trans (Kp.of_ext hx),S.fr,S.impx hx,S.pino hd5⟩,hdd,hc⟩
 .have hold:∀ i c,h i=some c->ρ i=some g->False:=λi c hi ri=>by
   have:=(S.own i c g hi ri).2.lt; omega
  by_cases hi':i=d <;> by_cases hj':j=d
  .exact .inl (hi'.trans hj'.symm)
  .subst hi';rw [q1O] at ri; cases ri;rw [q0A hj'] at hj; rw [q0w hj'] at rj;exact (hold j _ hj rj).elim
  .subst hj';rw [q1O] at rj; cases rj;rw [q0A hi'] at hi; rw [q0w hi'] at ri;exact (hold i _ hi ri).elim
  .rw [q0A hi'] at hi; rw [q0w hi'] at ri;rw [q0A hj'] at hj; rw [q0w hj'] at rj;exact S.inj i j c c' g' hi hj hs ri rj
 .by_cases hi':i=d
  .subst hi';rw [q1O] at ri; cases ri;rw [q0I] at hi; cases hi;exact ⟨⟨λhF=>by have:=w0.lt g hF; have:=S.ext.size; omega,S.fr g (xB S.ext.size hg)⟩,cs,hb,hn,λ_=>⟨vs,h1,RdL.mv hk hdd _ _ _ _ _ _ hc h2,h3⟩⟩
  .rw [q0A hi'] at hi; rw [q0w hi'] at ri;obtain ⟨a1,a2⟩:=S.own i c g' hi ri;exact ⟨a1,a2.mv (hx.block g' a2.lt trivial) hk hdd hc⟩
 .by_cases hi':i=d
  .subst hi'; rw [q1O] at ri; cases ri
  .rw [q0A hi'] at hi; rw [q0w hi'] at ri; exact S.vir i c hi ri
def Sat.virt [NL] (S:Sat D0 w0 s h ρ e w) {d:Nat} (hd:h d=none) (hd5:d < 5000) (hxs:b.xs=[]) :
  Sat D0 w0 s (q0Q h d b) (upo ρ d none) e w/\(∀ k,dm D0 ρ h k->dm D0 (upo ρ d none) (q0Q h d b) k)/\Cpt w w ρ h (upo ρ d none) (q0Q h d b):=by
 have hne:∀ i c,h i=some c->i≠d:=λi c hi e=>by subst e; rw [hd] at hi; cases hi
 have hc:Cpt w w ρ h (upo ρ d none) (q0Q h d b):=λi c hi=>⟨q0w (hne i c hi),⟨c,by rw [q0A (hne i c hi)]; exact hi,rfl,zP _⟩,λ_ _ _ hb=>hb⟩;have hdd:∀ k,dm D0 ρ h k->dm D0 (upo ρ d none) (q0Q h d b) k:=λk hq=>⟨hq.1,λi c hi=>by
  by_cases hi':i=d
  .subst hi'; rw [q1O]; intro e; cases e
  .rw [q0A hi'] at hi; rw [q0w hi']; exact hq.2 i c hi⟩
 have hk:Kp (dm D0 ρ h) w w:=Kp.refl _ _;refine ⟨⟨λi j c c' g' hi hj hs ri rj=>?_,λi c g' hi ri=>?_,λi c hi ri=>?_,λt=>Rd.mv hk (λk _=>hdd k) _ _ _ _ _ _ hc (S.rd t),S.ext,S.fr,S.imp,S.pino hd5⟩,hdd,hc⟩
 .have hi':i≠d:=λe=>by subst e; rw [q1O] at ri; cases ri
  have hj':j≠d:=λe=>by subst e; rw [q1O] at rj; cases rj
  rw [q0A hi'] at hi; rw [q0w hi'] at ri;rw [q0A hj'] at hj; rw [q0w hj'] at rj;exact S.inj i j c c' g' hi hj hs ri rj
 .have hi':i≠d:=λe=>by subst e; rw [q1O] at ri; cases ri
  rw [q0A hi'] at hi; rw [q0w hi'] at ri;obtain ⟨a1,a2⟩:=S.own i c g' hi ri;exact ⟨a1,a2.mv rfl hk (λk _=>hdd k) hc⟩
 .by_cases hi':i=d
  .subst hi'; rw [q0I] at hi; cases hi; exact hxs
  .rw [q0A hi'] at hi; rw [q0w hi'] at ri; exact S.vir i c hi ri
def Sat.write [NL] (S:Sat D0 w0 s h ρ e w) {id:Nat} {b':Bk} (hi:h id=some b) (hr:ρ id=some g) (hst:b.st=false) (hk:Kp (λk=>k≠g) w w') {cs cs':Array Value} (hb0:Blk w g b.T cs) (hsz:cs'.size=cs.size) (hb:Blk w' g b.T cs')
  (hn:∀ u ∈ cs'.toList,q4c u=true) (hT:b'.T=b.T) (hkk:b'.k=b.k) (hs':b'.st=false) (hl:b.xs.length<=b'.xs.length)
  {vs:List Value} (h1:cs'.toList.take (b'.xs.length*ksz b.k)=q09 vs) (h2:RdL w (dm D0 ρ h) b'.xs ρ h vs) (h3:∀ v ∈ vs,q28 b.k v) :
  Sat D0 w0 s (q0Q h id b') ρ e w'/\(∀ k,dm D0 ρ h k->dm D0 ρ (q0Q h id b') k)/\Cpt w w' ρ h ρ (q0Q h id b'):=by
 have hbs:∀ g' m,BSz w g' m->BSz w' g' m:=λg' m hq=>by
  by_cases hg:g'=g
  .subst hg;obtain ⟨c,T,q1,q2⟩:=hq;have:c=cs:=by unfold Blk at q1 hb0; rw [hb0] at q1; cases q1; rfl
   subst this;exact ⟨cs',_,hb,ω⟩
  .exact hq.kp hk hg
 have hc:Cpt w w' ρ h ρ (q0Q h id b'):=λi c hc=>⟨rfl,by
  by_cases he:i=id
  .subst he; rw [hi] at hc; cases hc;exact ⟨b',q0I,hkk,hl⟩
  .exact ⟨c,by rw [q0A he]; exact hc,rfl,zP _⟩,λg m _ hb=>hbs g m hb⟩
 have hdd:∀ k,dm D0 ρ h k->dm D0 ρ (q0Q h id b') k:=λk hq=>⟨hq.1,λi c hc=>by
  by_cases he:i=id
  .subst he; exact hq.2 i b hi
  .rw [q0A he] at hc; exact hq.2 i c hc⟩
 have hkd:Kp (dm D0 ρ h) w w':=hk.mono λk _ hq e=>hq.2 id b hi (by rw [hr,e]);have hge:=(S.own id b g hi hr).1;refine ⟨⟨λi j c c' g' ci cj hs ri rj=>?_,λi c g' ci ri=>?_,λi c ci ri=>?_,λt=>Rd.mv hkd (λk _=>hdd k) _ _ _ _ _ _ hc (S.rd t),S.ext.trans (hk.mono λk _ hF e=>hge.1 (e ▸ hF)),S.fr,λg' T m hi=>by
  obtain ⟨c,q1,q2,q3⟩:=S.imp g' T m hi
  by_cases hg:g'=g
  .subst hg;have h5:=q1.symm.trans hb0
   injection h5 with h5
   injection h5 with h5 h6
   subst h5;subst h6;exact ⟨cs',hb,ω,hn⟩
  .exact ⟨c,q1.kp hk hg,q2,q3⟩,S.pin⟩,hdd,hc⟩
 .by_cases ei:i=id <;> by_cases ej:j=id
  .exact .inl (ei.trans ej.symm)
  .subst ei;rw [q0A ej] at cj;have:=S.inj j i c' b g' cj hi hst rj ri
   rcases this with h | h
   .exact .inl h.symm
   .rw [hs] at h; cases h
  .subst ej;rw [q0A ei] at ci;exact S.inj i j c b g' ci hi hst ri rj
  .rw [q0A ei] at ci; rw [q0A ej] at cj;exact S.inj i j c c' g' ci cj hs ri rj
 .by_cases ei:i=id
  .subst ei;rw [q0I] at ci; cases ci;rw [hr] at ri; cases ri;refine ⟨hge,cs',by rw [hT]; exact hb,hn,λ_=>⟨vs,by rw [hkk]; exact h1,RdL.mv hkd (λk _=>hdd k) _ _ _ _ _ _ hc h2,by rw [hkk]; exact h3⟩⟩
  .rw [q0A ei] at ci;obtain ⟨a1,a2⟩:=S.own i c g' ci ri
   by_cases eg:g'=g
   .subst eg;have hs:=S.inj i id c b g' ci hi hst ri hr
    rcases hs with h | h
    .exact absurd h ei
    .obtain ⟨c1,c2,c3,_⟩:=a2;have:c.T=b.T:=by
      have h5:=hb0.symm.trans c2
      injection h5 with h5
      injection h5 with h5 h6
      exact h6.symm
     exact ⟨a1,cs',by rw [this]; exact hb,hn,λhf=>by rw [h] at hf; cases hf⟩
   .exact ⟨a1,a2.mv (hk.block g' a2.lt eg) hkd (λk _=>hdd k) hc⟩
 .by_cases ei:i=id
  .subst ei; rw [hr] at ri; cases ri
  .rw [q0A ei] at ci; exact S.vir i c ci ri
end
def pe (s:Nat->PV):Operand->PV
 | .tmp t=>s t
 | .const v=>.vl v
 | .global g=>.vl (.pointer (some ⟨g,0,none⟩))
 | .func f=>.vl (.func (.func f) #[] #[])
def qnt [NL] (v:Value):Prop:=v.oneCell'=true/\q4c v=true
def qf6 [NL]:PV->Prop
 | .vl x=>qnt x
 | .fm G=>∀ D v w,In G D v w->q28 none v
 | .sl _ _ | .ow _ _ _ _ | .pt _ _ _ | .qt _ _=>True
 | _=>False
def q7T [NL]:Kd->PV->Prop
 | none,x=>qf6 x
 | some n,.ag l=>l.length=n/\∀ x ∈ l,qf6 x
 | some n,.fm G=>∀ D v w,In G D v w->q28 (some n) v
 | some _,_=>False
def q2P (P:Program) (t:TypeId) (f:Nat):Option (Nat × Kd) :=
 match P.underlying t with
 | some (.struct fs)=>match fs[f]? with
  | some d=>match q0Z P t f,q0c P d.type with | some off,some k=>some (off,k) | _,_=>none
  | none=>none
 | _=>none
def ldU (bk k:Kd) (j:Nat) (u:PV):Option PV :=
 if bk=k/\j=0 then some u else
  match bk,k,u with
  | some _,none,.ag l=>l[j]?
  | some _,some m,.ag l=>if j+m<=l.length then some (.ag ((l.drop j).take m)) else none
  | _,_,_=>none
def qrM (P:Program) (t:TypeId) (f:Nat):PV->Option PV
 | .pt id i j=>(q2P P t f).map λr=>.pt id i (j+r.1)
 | .qt (some _) (.ag l)=>(q2P P t f).bind λr=>match r.2 with
  | none=>(l[r.1]?).map (.qt none)
  | some m=>if r.1+m<=l.length/\0 < m then some (.qt (some m) (.ag ((l.drop r.1).take m))) else none
 | _=>none
def qbC (sz:Option Nat):PV->PV->Option PV
 | .sl k l,.vl (.int _ z)=>if sz=some (ksz k)/\0 < ksz k/\0<=z then (l[z.toNat]?).map (.qt k) else none
 | .ow id k off n,.vl (.int _ z)=>if sz=some (ksz k)/\0<=z/\z < n then some (.pt id (off+z.toNat) 0) else none
 | _,_=>none
def qbe (d:Nat):Option PV->Option Nat
 | none=>some d
 | some (.vl (.int _ z))=>if 0<=z then some z.toNat else none
 | _=>none
def slP (sz:Option Nat) (lo hi:Option PV):PV->Option PV
 | .sl k l=>(qbe l.length hi).bind λb=>(qbe 0 lo).bind λa=>if sz=some (ksz k)/\a<=b/\b<=l.length then some (.sl k ((l.take b).drop a)) else none
 | .ow id k off n=>(qbe n hi).bind λb=>(qbe 0 lo).bind λa=>if sz=some (ksz k)/\a<=b/\b<=n then some (.ow id k (off+a) (b-a)) else none
 | _=>none
def qrJ (sz:Option Nat):PV->Option PV
 | .sl _ l=>sz.map λ_=>.vl (.int .i64 l.length)
 | .ow _ _ _ n=>sz.map λ_=>.vl (.int .i64 n)
 | .vl x=>(quH sz x).map .vl
 | _=>none
def val?:PV->Option Value | .vl x=>some x | _=>none
def q7u:List PV->Option (List Value)
 | []=>some []
 | x :: l=>match x,q7u l with | .vl a,some r=>some (a :: r) | _,_=>none
def pkP (c a b:PV):Option PV:=match c with | .vl (.bool true)=>some a | .vl (.bool false)=>some b | _=>none
def fNil (n:Nat):Fam:=⟨λ_ v _=>∃ b,v=.bool b/\(b=true->n=0),λ_ h=>h,λ_ h=>h⟩
def bnP (P:Program) (op:BinOp) (t:TypeId):PV->PV->Option PV
 | .vl a,.vl b=>(q0t P op t a b).map .vl
 | .sl k l,.vl (.slice none _ _)=>match op,P.underlying t with | .eql,some (.slice _)=>if 0 < ksz k then some (.fm (fNil l.length)) else none | _,_=>none
 | .ag l,.ag m=>match q7u l,q7u m with | some xs,some ys=>(q0t P op t (.agg ⟨xs⟩) (.agg ⟨ys⟩)).map .vl | _,_=>none
 | _,_=>none
def unP (op:UnOp):PV->Option PV | .vl a=>(unV op a).map .vl | _=>none
def cvP (s d:Option TypeDesc):PV->Option PV | .vl a=>(qc6 s d a).map .vl | _=>none
def fdP (P:Program) (t:TypeId) (f:Nat):PV->Option PV
 | .ag l=>match P.underlying t with
  | some (.struct fs)=>match fs[f]? with
   | some d=>match P.underlying d.type with
    | some (.int _)=>l[d.offset]?
    | _=>none
   | none=>none
  | _=>none
 | _=>none
def exP (i:Nat):PV->Option PV | .tu l=>l[i]? | _=>none
def nlP:PV->Option PV | .pt id i j=>some (.pt id i j) | .qt k x=>some (.qt k x) | _=>none
def mmP (b:Bool) (l:List PV):Option PV:=(q7u l).bind λr=>(mmV b r).map .vl
def fFun (f:FuncId) (z:Int):Fam:=⟨λD v w=>∃ ad,v=.func (.func f) #[] #[.pointer (some ad)]/\D ad.block/\w.cell? ad=some (.int .i64 z),λk ⟨ad,h1,h2,h3⟩=>⟨ad,h1,h2,k.cell h2 h3⟩,λ{_ _ w _} k ⟨ad,h1,h2,h3⟩=>⟨ad,h1,k _ (World.block_lt_of_cell? w _ h3) h2,h3⟩⟩
def fnP (fn:Fn) (first:Array Operand):List PV->Option PV
 | [.qt none (.vl (.int .i64 z))]=>match fn with | .func f=>if first.isEmpty then some (.fm (fFun f z)) else none | _=>none
 | _=>none
def flP (pl:List (Nat × Nat)):List PV->List (Nat × PV)->Option (List PV)
 | cs,[]=>some cs
 | cs,(i,x) :: r=>match pl[i]? with
  | some (off,1)=>match x with
   | .vl y=>if y.oneCell'=true/\off < cs.length then flP pl (cs.set off (.vl y)) r else none
   | .sl k l=>if off < cs.length then flP pl (cs.set off (.sl k l)) r else none
   | .ow id k a n=>if off < cs.length then flP pl (cs.set off (.ow id k a n)) r else none
   | .pt id a n=>if off < cs.length then flP pl (cs.set off (.pt id a n)) r else none
   | _=>none
  | some (off,m)=>match x with
   | .ag l=>if l.length=m/\off+m<=cs.length then flP pl (cs.take off ++ l ++ cs.drop (off+m)) r else none
   | _=>none
  | none=>none
def plc (P:Program) (t:TypeId):Option (List (Nat × Nat) × List Value) :=
 match P.info? t,P.underlying t with
 | some it,some (.struct fields) =>
  match it.zero,fields.toList.mapM (λf=>(P.info? f.type).map λi=>(f.offset,i.size)) with
  | some z,some places=>some (places,z.cells.toList)
  | _,_=>none
 | _,_=>none
def blP (P:Program) (t:TypeId) (ps:List (Nat × PV)):Option PV:=(plc P t).bind λr=>(flP r.1 (r.2.map .vl) ps).map .ag
def q45 (P:Program) (o:Op) (e:Operand->PV):Option PV :=
 match o with
 | .move x=>some (e x)
 | .assign x=>some (e x)
 | .pick c a b=>pkP (e c) (e a) (e b)
 | .binOp op t x y _=>bnP P op t (e x) (e y)
 | .unOp op _ x=>unP op (e x)
 | .convert s d x=>cvP (P.underlying s) (P.underlying d) (e x)
 | .fieldAddr t x f=>qrM P t f (e x)
 | .extract x i=>exP i (e x)
 | .field t x f=>fdP P t f (e x)
 | .nilCheck x=>nlP (e x)
 | .indexAddr t x i=>qbC (q0d P t) (e x) (e i)
 | .slice t x lo hi mx=>match mx with | none=>slP (q0d P t) (lo.map e) (hi.map e) (e x) | some _=>none
 | .build t ps=>blP P t (ps.toList.map λp=>(p.1,e p.2))
 | .makeFunc fn first cap=>fnP fn first (cap.toList.map e)
 | .call c=>match c.callee with
  | .builtin .len=>match c.args.toList,c.argTypes.toList with
   | [x],[t]=>qrJ (q0d P t) (e x)
   | _,_=>none
  | .builtin .max=>mmP true (c.args.toList.map e)
  | .builtin .min=>mmP false (c.args.toList.map e)
  | _=>none
 | _=>none
section
variable {w:World} {w0:Base} {D D0:Nat->Prop} {ρ:Nat->Option Nat} {h:Hp} {s:Nat->PV} {e:Env} {P:Program}
def Sat.pex [NL] (S:Sat D0 w0 s h ρ e w) (x:Operand):Rd w (dm D0 ρ h) (pe s x) ρ h (ev e x):=by
 cases x <;> simp only [E.pe,ev]
 case tmp t=>exact S.rd t
 all_goals (unfold Rd; rfl)
def q28.cell [NL] {n:Nat} {cs:List Value} (hf:q28 (some n) (.agg ⟨cs⟩)) {j:Nat} {u:Value} (hu:cs[j]?=some u):q28 none u:=by
 obtain ⟨c,h1,h2,h3⟩:=hf;cases h1;have:=h3 u (by simpa using zG hu);refine ⟨?_,this.1,this.2⟩;obtain ⟨h4,_⟩:=this;cases u <;> first | rfl | cases h4
def q1t {u:Value} (h:u.oneCell'=true):u.cells=#[u]:=by cases u <;> first | rfl | cases h
def q28.part [NL] {n j m:Nat} {cs:List Value} (hf:q28 (some n) (.agg ⟨cs⟩)) (hj:j+m<=cs.length):q28 (some m) (.agg ⟨(cs.drop j).take m⟩):=by
 obtain ⟨c,h1,h2,h3⟩:=hf;cases h1;refine ⟨_,rfl,by simp; omega,λu hu=>h3 u ?_⟩;simp only at hu;exact zL (zM hu)
def qlY [NL] {bk k:Kd} {j:Nat} {u x:PV} {y:Value} (hl:ldU bk k j u=some x) (hr:Rd w D u ρ h y) (hf:q28 bk y) (hk:0 < ksz k):∃ z,Rd w D x ρ h z/\q28 k z/\∀ i v,z.cells.toList[i]?=some v->y.cells.toList[j+i]?=some v:=by
 unfold ldU at hl
 split at hl
 .rename_i hh;obtain ⟨rfl,rfl⟩:=hh;cases hl;exact ⟨y,hr,hf,λi v hv=>by rw [zU]; exact hv⟩
 .split at hl
  .rename_i n l _;unfold Rd at hr;obtain ⟨vs,rfl,h1⟩:=hr;obtain ⟨z,h2,h3⟩:=h1.get hl;have h4:=hf.cell h2;refine ⟨z,h3,h4,λi v hv=>?_⟩;rw [h4.1] at hv;cases i with
   | zero=>simp at hv; subst hv; simpa [Value.cells] using h2
   | succ i=>simp at hv
  .rename_i n m l _
   split at hl
   .rename_i hjm;cases hl;unfold Rd at hr;obtain ⟨vs,rfl,h1⟩:=hr;have:=h1.len;refine ⟨.agg ⟨(vs.drop j).take m⟩,by unfold Rd; exact ⟨_,rfl,(h1.drop j).take m⟩,hf.part Oq,λi v hv=>?_⟩;simp only [Value.cells,zH] at hv ⊢
    split at hv
    .rw [zO] at hv; exact hv
    .cases hv
   .cases hl
  .cases hl
def qbJ {t f:Nat} {r:Nat × Kd} (hh:q2P P t f=some r):q0Z P t f=some r.1:=by
 unfold q2P at hh
 split at hh
 .split at hh
  .split at hh
   .rename_i h1 _; cases hh; exact h1
   .cases hh
  .cases hh
 .cases hh
def q5E [NL]:∀ {l:List PV} {r:List Value} {ys:List Value},q7u l=some r->RdL w D l ρ h ys->ys=r
 | [],r,ys,hv,hr=>by unfold RdL at hr; unfold q7u at hv; cases hv; exact hr
 | x :: l,r,ys,hv,hr=>by
  unfold RdL at hr;obtain ⟨y,zs,rfl,h1,h2⟩:=hr;unfold q7u at hv
  split at hv
  .rename_i a r' hx;cases hv;unfold Rd at h1;rw [h1,q5E hx h2]
  .cases hv
def q4V [NL] {f:Operand->PV} {g:Operand->Value} (hfg:∀ x,Rd w D (f x) ρ h (g x)):∀ (l:List Operand),RdL w D (l.map f) ρ h (l.map g)
 | []=>by unfold RdL; rfl
 | x :: l=>by unfold RdL; exact ⟨_,_,rfl,hfg x,q4V hfg l⟩
def q4z [NL] (l:List Value):RdL w D (l.map .vl) ρ h l:=by
 induction l with
 | nil=>unfold RdL; rfl
 | cons x l ih=>rw [vS]; unfold RdL; exact ⟨_,_,rfl,by unfold Rd; rfl,ih⟩
def q3X (off:Nat):∀ (l:List Value) (k:Nat) (cs:Array Value),off+k+l.length<=cs.size->∃ r,(l.zipIdx k).foldl (λcs p=>cs.setIfInBounds (off+p.2) p.1) cs=r/\r.size=cs.size/\∀ i:Nat,r[i]?=if off+k<=i/\i < off+k+l.length then l[i-(off+k)]? else cs[i]?
 | [],k,cs,_=>⟨cs,rfl,rfl,λi=>by rw [if_neg σ]⟩
 | v :: l,k,cs,hl=>by
  rw [zK] at hl;obtain ⟨r,h1,h2,h3⟩:=q3X off l (k+1) (cs.setIfInBounds (off+k) v) (by rw [z8]; omega);refine ⟨r,by rw [List.zipIdx_cons,List.foldl_cons]; exact h1,by rw [h2,z8],λi=>?_⟩;rw [h3 i,yB,zK]
  by_cases c1:off+(k+1)<=i/\i < off+(k+1)+l.length
  .rw [if_pos c1,if_pos ω,show i-(off+k)=(i-(off+(k+1)))+1 by omega,z9]
  .rw [if_neg c1]
   by_cases c2:off+k=i
   .subst c2;rw [if_pos rfl,if_pos ω,if_pos ω,Nat.sub_self]
    rfl
   .rw [if_neg c2,if_neg ω]
def q9i [NL] {pl:List (Nat × Nat)}:∀ (ps:List (Nat × Operand)) {f:Operand->PV} {g:Operand->Value} (hfg:∀ x,Rd w D (f x) ρ h (g x)) (cs:List PV) (vs:Array Value) (r:List PV),flP pl cs (ps.map λp=>(p.1,f p.2))=some r->RdL w D cs ρ h vs.toList ->
  ∃ us,Instr.fill (pl.toArray[·]?) vs (ps.map λp=>(p.1,g p.2))=some us/\RdL w D r ρ h us.toList
 | [],f,g,hfg,cs,vs,r,hf,hr=>by
  rw [List.map_nil] at hf;unfold flP at hf;cases hf;exact ⟨vs,rfl,hr⟩
 | (i,x) :: ps,f,g,hfg,cs,vs,r,hf,hr=>by
  have hlen:=hr.len;rw [vS] at hf ⊢;unfold flP at hf;simp only at hf;have key:∀ off,pl[i]?=some (off,1)->(g x).oneCell'=true->off < cs.length->flP pl (cs.set off (f x)) (ps.map λp=>(p.1,f p.2))=some r->∃ us,Instr.fill (pl.toArray[·]?) vs ((i,g x) :: ps.map λp=>(p.1,g p.2))=some us/\RdL w D r ρ h us.toList:=λoff ho h1 h2 h3=>by
   obtain ⟨us,e1,e2⟩:=q9i ps hfg (cs.set off (f x)) (vs.setIfInBounds off (g x)) r h3 (by rw [Array.toList_setIfInBounds]; exact hr.set (hfg x) off);refine ⟨us,?_,e2⟩;unfold Instr.fill;rw [z7,ho];simp only [q1t h1];rw [if_neg (by simp at hlen ⊢; omega)];simpa using e1
  split at hf
  .rename_i off ho;have hx:=hfg x
   split at hf <;> rename_i hfx
   .split at hf
    .rename_i hc;have hx':=hx;rw [hfx] at hx';unfold Rd at hx';exact key off ho (by rw [hx']; exact hc.1) hc.2 (by rw [hfx]; exact hf)
    .cases hf
   .split at hf
    .rename_i hc;have hx':=hx;rw [hfx] at hx';unfold Rd at hx';obtain ⟨_,_,_,_,e,_⟩:=hx';exact key off ho (by rw [e]; rfl) hc (by rw [hfx]; exact hf)
    .cases hf
   .split at hf
    .rename_i hc;have hx':=hx;rw [hfx] at hx';unfold Rd at hx';obtain ⟨_,_,_,_,_,e,_⟩:=hx';exact key off ho (by rw [e]; rfl) hc (by rw [hfx]; exact hf)
    .cases hf
   .split at hf
    .rename_i hc;have hx':=hx;rw [hfx] at hx';unfold Rd at hx';obtain ⟨_,_,_,_,_,e⟩:=hx';exact key off ho (by rw [e]; rfl) hc (by rw [hfx]; exact hf)
    .cases hf
   .cases hf
  .rename_i off m _ ho
   split at hf
   .rename_i l hfx
    split at hf
    .rename_i hc;have hx:=hfg x;rw [hfx] at hx;unfold Rd at hx;obtain ⟨rs,e,hr2⟩:=hx;have hrl:=hr2.len;have hvs:vs.toList.length=cs.length:=hlen;obtain ⟨q,q1,q2,q3⟩:=q3X off rs 0 vs (by rw [zE] at hvs; omega);have hq:q.toList=vs.toList.take off ++ rs ++ vs.toList.drop (off+m):=by
      apply yE
      intro n;rw [zI,q3 n,vR,vR,zH,zO];have ht:(List.take off vs.toList).length=off:=by rw [yH]; omega
      rw [z6,ht]
      by_cases c1:n < off
      .rw [if_neg ω,if_pos ω,if_pos c1,if_pos c1,zI]
      .by_cases c2:n < off+rs.length
       .rw [if_pos ω,if_pos c2,if_neg c1,yN]
       .rw [if_neg ω,if_neg c2,zI,show off+m+(n-(off+rs.length))=n by omega]
     obtain ⟨us,e1,e2⟩:=q9i ps hfg _ q r hf (by rw [hq]; exact ((hr.take off).app hr2).app (hr.drop (off+m)));refine ⟨us,?_,e2⟩;unfold Instr.fill;rw [z7,ho];simp only [e,Value.cells];rw [if_neg (by rw [zE] at hvs; simp; omega)];rw [<- xL,xJ];rw [q1];exact e1
    .cases hf
   .cases hf
  .cases hf
def qbd [NL] {d y:Nat} {o:Option PV} {b:Nat} {ov:Option Value} (hb:qbe d o=some b) (ho:(o=none/\ov=none)\/∃ x v,o=some x/\ov=some v/\Rd w D x ρ h v) (hy:b<=y):q3H y ov d=some b:=by
 rcases ho with ⟨rfl,rfl⟩ | ⟨x,v,rfl,rfl,hr⟩
 .exact hb
 .unfold qbe at hb
  split at hb
  .rename_i hx; cases hx
  .rename_i hx;cases hx;unfold Rd at hr;subst hr
   split at hb
   .cases hb;simp only [q3H];rw [if_pos ω]
   .cases hb
  .cases hb
def sl_ok [NL] {sz:Option Nat} {lo hi:Option Operand} {x:Operand} {r:PV} {f:Operand->PV} {g:Operand->Value} (hfg:∀ x,Rd w D (f x) ρ h (g x)) (hp:slP sz (lo.map f) (hi.map f) (f x)=some r):∃ v,q1y sz (lo.map g) (hi.map g) (g x)=some v/\Rd w D r ρ h v:=by
 have hlo:∀ o:Option Operand,(o.map f=none/\o.map g=none)\/∃ x v,o.map f=some x/\o.map g=some v/\Rd w D x ρ h v:=λo=>by
  cases o with
  | none=>exact .inl ⟨rfl,rfl⟩
  | some o=>exact .inr ⟨_,_,rfl,rfl,hfg o⟩
 have hx:=hfg x;unfold slP at hp
 split at hp
 .rename_i k l hfx;rw [hfx] at hx;unfold Rd at hx;obtain ⟨A,n,c,vs,e,h1,h2,h3,h4⟩:=hx;obtain ⟨b,hb,hp1⟩:=zA.1 hp;obtain ⟨a,ha,hp2⟩:=zA.1 hp1;clear hp hp1
  split at hp2
  .rename_i hc;obtain ⟨hsz,hab,hbn⟩:=hc;subst hsz;obtain rfl:=xG.inj hp2;have hvl:=h3.len;have hcap:=h1.cap;rw [h2] at hb;have q1:=qbd (y:=c) hb (hlo hi) Oq;have q2:=qbd (y:=b) ha (hlo lo) Oq;rw [e];refine ⟨_,by unfold q1y; simp only [q1,q2]; rfl,?_⟩;unfold Rd;have hcs:∀ v ∈ vs,v.cells.size=ksz k:=λv hv=>(h4 v hv).size;have r1:=(h1.take (m:=b) Oq).drop (m:=a) Oq;rw [<- q3l hcs,<- q3m (λv hv=>hcs v (zM hv))] at r1;exact ⟨_,_,_,(vs.take b).drop a,rfl,r1,by simp; omega,(h3.take b).drop a,λv hv=>h4 v (zM (zL hv))⟩
  .cases hp2
 .rename_i id k off n hfx;rw [hfx] at hx;unfold Rd at hx;obtain ⟨bk,A,c,e1,e2,e,hn,hm,hl,h6,h7⟩:=hx;obtain ⟨b,hb,hp1⟩:=zA.1 hp;obtain ⟨a,ha,hp2⟩:=zA.1 hp1;clear hp hp1
  split at hp2
  .rename_i hc;obtain ⟨hsz,hab,hbn⟩:=hc;subst hsz;obtain rfl:=xG.inj hp2;have q1:=qbd (y:=c) hb (hlo hi) Oq;have q2:=qbd (y:=b) ha (hlo lo) Oq;rw [e];refine ⟨_,by unfold q1y; simp only [q1,q2]; rfl,?_⟩;unfold Rd;have mv:∀ {A:Option Addr},AtO w (ρ id) A (off*ksz k) ((off+c)*ksz k)->¬ c=a->AtO w (ρ id) (if c=a then A else A.map (·.add (a*ksz k))) ((off+a)*ksz k) ((off+a+(c-a))*ksz k):=λ⟨g,g1,g2,g3⟩ hca=>by
    refine ⟨g,g1,?_,by rw [show off+a+(c-a)=off+c by omega]; exact g3⟩;rw [if_neg hca,g2];simp only [yM,q1v,yF]
   refine ⟨bk,_,c-a,e1,e2,rfl,ω,ω,ω,?_,λh0=>?_⟩
   .by_cases hca:c=a
    .exact .inl Oq
    .rcases h6 with h6 | h6
     .omega
     .exact .inr (mv h6 hca)
   .have h0a:a=0:=ω
    have h00:off=0:=ω
    subst h0a;subst h00;simp only [xC,Nat.sub_zero,yN,zU] at h7 ⊢;have hA:(if c=0 then A else A.map (·.add 0))=A:=by
     split
     .rfl
     .cases A <;> simp [Addr.add]
    rw [hA];exact h7 trivial
  .cases hp2
 .cases hp
def quV [NL] {sz:Option Nat} {ar:Option (Nat × Nat)} {x i r:PV} {a b:Value} (ha:Rd w D x ρ h a) (hb:Rd w D i ρ h b) (hp:qbC sz x i=some r):∃ v,qiS sz ar a b=some v/\Rd w D r ρ h v:=by
 unfold qbC at hp
 split at hp
 .rename_i k l kk z
  split at hp
  .rename_i hc;obtain ⟨rfl,hk,hz⟩:=hc;obtain ⟨y,hy,hp⟩:=zB.1 hp;subst hp;unfold Rd at ha hb;subst hb;obtain ⟨A,n,c,vs,rfl,h1,h2,h3,h4⟩:=ha;obtain ⟨u,hu,hur⟩:=h3.get hy;have hlt:=(zC.1 hy).1;have hcs:∀ v ∈ vs,v.cells.size=ksz k:=λv hv=>(h4 v hv).size;have hfl:=q0q hcs;have hvl:=h3.len;have hpos:0 < (q09 vs).length:=by rw [hfl]; exact vZ ω hk
   obtain ⟨ad,rfl,hd,hcell⟩:=h1.at_ hpos;have hcl:∀ (ρ':Nat->Option Nat) (h':Hp),Rd w D y ρ' h' u:=λρ' h'=>Rd.mv (Kp.refl _ _) (λ_ _ h=>h) _ _ _ _ _ _ Cpt.h0 hur;refine ⟨.pointer (some (ad.add (z.toNat*ksz k))),?_,?_⟩
   .simp only [qiS];rw [if_pos ω]
   .unfold Rd;refine ⟨_,u,rfl,by rw [q1E]; exact hd,hcl _ _,⟨h4 u (zG hu),hk⟩,λj t ht=>?_⟩;rw [q79];refine hcell _ t ?_;have hj:j < ksz k:=by
     have:=(zC.1 ht).1;rw [zE,hcs u (zG hu)] at this;exact this
    rw [q4q hcs hu hj];simpa using ht
  .cases hp
 .rename_i id k off n kk z
  split at hp
  .rename_i hc;obtain ⟨rfl,hz,hzn⟩:=hc;cases hp;unfold Rd at ha hb;subst hb;obtain ⟨bk,A,c,e1,e2,rfl,hn,hm,hl,h6,h7⟩:=ha;have hc0:c≠0:=ω
   rcases h6 with h6 | ⟨g,g1,g2,g3⟩
   .exact absurd h6 hc0
   .subst g2;refine ⟨.pointer (some ⟨g,off*ksz k+z.toNat*ksz k,none⟩),?_,?_⟩
    .simp only [qiS,q1v];rw [if_pos ω]
    .unfold Rd;exact ⟨bk,g,e1,g1,ω,by rw [e2,yF,yN]⟩
  .cases hp
 .cases hp
def qng [NL] (S:Sat D0 w0 s h ρ e w) {o:Oper} {x:PV} (hp:q45 P o.op (pe s)=some x) {K:Value->World->Prop} (hK:∀ v,Rd w (dm D0 ρ h) x ρ h v->K v w):wo P o e w K:=by
 obtain ⟨dst,op,ty,pos,af,gd⟩:=o;have hS:=S.pex;unfold q45 at hp;unfold wo;cases op <;> (try (cases hp; done)) <;> simp only at hp ⊢
 case move=>cases hp; exact hK _ (hS _)
 case assign=>cases hp; exact hK _ (hS _)
 case pick c a b =>
  unfold pkP at hp;have hc:=hS c
  split at hp
  .rename_i hx; rw [hx] at hc; unfold Rd at hc; cases hp; rw [hc]; exact hK _ (hS _)
  .rename_i hx; rw [hx] at hc; unfold Rd at hc; cases hp; rw [hc]; exact hK _ (hS _)
  .cases hp
 case binOp op t a b _ =>
  unfold bnP at hp;have ha:=hS a;have hb:=hS b
  split at hp
  .rename_i h1 h2;rw [h1] at ha; rw [h2] at hb;unfold Rd at ha hb;obtain ⟨v,hv,rfl⟩:=zB.1 hp;rw [ha,hb,hv];exact hK _ (by unfold Rd; rfl)
  .rename_i k l _ _ h1 h2;rw [h1] at ha; rw [h2] at hb;unfold Rd at ha hb;obtain ⟨A,n,c,vs,q1,q2,q3,q4,q5⟩:=ha
   split at hp
   .rename_i hu
    split at hp
    .rename_i hk;cases hp;rw [hb,q1,qaG hu];refine hK _ ?_;unfold Rd;refine ⟨_,rfl,λh=>?_⟩
     rcases vY n with h0 | h0
     .omega
     .obtain ⟨ad,e,_⟩:=q2.at_ (by rw [q2.len]; exact vZ h0 hk);rw [e] at h; cases h
    .cases hp
   .cases hp
  .rename_i l m h1 h2;rw [h1] at ha; rw [h2] at hb;unfold Rd at ha hb
   split at hp
   .rename_i xs ys hx hy;obtain ⟨vs,q1,q2⟩:=ha;obtain ⟨us,q3,q4⟩:=hb;have e1:=q5E hx q2;have e2:=q5E hy q4;subst e1; subst e2;obtain ⟨v,hv,rfl⟩:=zB.1 hp;rw [q1,q3,hv];exact hK _ (by unfold Rd; rfl)
   .cases hp
  .cases hp
 case unOp op t a =>
  unfold unP at hp;have ha:=hS a
  split at hp
  .rename_i h1;rw [h1] at ha;unfold Rd at ha;obtain ⟨v,hv,rfl⟩:=zB.1 hp;rw [ha,hv];exact hK _ (by unfold Rd; rfl)
  .cases hp
 case convert a b c =>
  unfold cvP at hp;have ha:=hS c
  split at hp
  .rename_i h1;rw [h1] at ha;unfold Rd at ha;obtain ⟨v,hv,rfl⟩:=zB.1 hp;rw [ha,hv];exact hK _ (by unfold Rd; rfl)
  .cases hp
 case fieldAddr t a f =>
  unfold qrM at hp;have ha:=hS a
  split at hp
  .rename_i id i j h1;rw [h1] at ha;unfold Rd at ha;obtain ⟨b,g,g1,g2,g3,g4⟩:=ha;obtain ⟨r,hr,rfl⟩:=zB.1 hp;rw [g4];simp only [qbJ hr,q2k,q1v];exact hK _ (by unfold Rd; exact ⟨b,g,g1,g2,g3,by rw [xK]⟩)
  .rename_i n l h1;rw [h1] at ha;unfold Rd at ha;obtain ⟨ad,z,q1,q2,q3,q4,q5⟩:=ha;obtain ⟨r,hr,hp⟩:=zA.1 hp;rw [q1];simp only [qbJ hr,q2k];unfold Rd at q3;obtain ⟨vs,rfl,q6⟩:=q3
   split at hp
   .obtain ⟨y,hy,rfl⟩:=zB.1 hp;obtain ⟨u,hu,hur⟩:=q6.get hy;have hfu:=q4.1.cell hu;refine hK _ ?_;unfold Rd;refine ⟨_,u,rfl,by rw [q1E]; exact q2,hur,⟨hfu,Nat.one_pos⟩,λj t ht=>?_⟩;rw [hfu.1] at ht;rw [q79];cases j with
    | zero=>simp at ht; subst ht; exact q5 _ _ (by simpa [Value.cells] using hu)
    | succ j=>simp at ht
   .rename_i m _
    split at hp
    .rename_i hrm;cases hp;have:=q6.len;refine hK _ ?_;unfold Rd;refine ⟨_,.agg ⟨(vs.drop r.1).take m⟩,rfl,by rw [q1E]; exact q2,by unfold Rd; exact ⟨_,rfl,(q6.drop _).take _⟩,⟨q4.1.part ω,hrm.2⟩,λj t ht=>?_⟩;rw [q79];refine q5 _ t ?_;simp only [Value.cells,zH] at ht ⊢
     split at ht
     .rw [zO] at ht; exact ht
     .cases ht
    .cases hp
  .cases hp
 case field t a f =>
  unfold fdP at hp;have ha:=hS a
  split at hp
  .rename_i l h1
   split at hp
   .rename_i fs hu
    split at hp
    .rename_i d hd
     split at hp
     .rename_i k hk;rw [h1] at ha;unfold Rd at ha;obtain ⟨vs,q1,q2⟩:=ha;obtain ⟨v,hv,hr⟩:=q2.get hp;have key:(Instr.field t (ev e a) f).run P w=.ok v w:=by
       rw [q1];simp [Instr.field,run_underlying hu,hd,asAgg,part,isAgg,run_underlying hk,hv]
      unfold WO;simp only [execOp,Sem.run_bind,key];exact hK _ hr
     .cases hp
    .cases hp
   .cases hp
  .cases hp
 case extract a i =>
  unfold exP at hp;have ha:=hS a
  split at hp
  .rename_i l h1;rw [h1] at ha;unfold Rd at ha;obtain ⟨vs,q1,q2⟩:=ha;obtain ⟨v,hv,hr⟩:=q2.get hp;rw [q1];simp only [qlc];rw [z7,hv];exact hK _ hr
  .cases hp
 case nilCheck a =>
  unfold nlP at hp;have ha:=hS a
  split at hp
  .rename_i h1;cases hp;rw [h1] at ha;have ha':=ha;unfold Rd at ha';obtain ⟨b,g,g1,g2,g3,g4⟩:=ha';rw [g4] at ha ⊢;exact hK _ ha
  .rename_i h1;cases hp;rw [h1] at ha;have ha':=ha;unfold Rd at ha';obtain ⟨ad,z,q1,_⟩:=ha';rw [q1] at ha ⊢;exact hK _ ha
  .cases hp
 case indexAddr t a i =>
  obtain ⟨v,h1,h2⟩:=quV (ar:=qcc P t) (hS a) (hS i) hp;rw [h1];exact hK _ h2
 case slice t a lo hi mx =>
  cases mx with
  | some _=>cases hp
  | none =>
   obtain ⟨v,h1,h2⟩:=sl_ok hS hp;simp only;rw [h1];exact hK _ h2
 case build t ps =>
  unfold blP at hp;obtain ⟨r,hr,hp⟩:=zA.1 hp;obtain ⟨cs,hcs,rfl⟩:=zB.1 hp;unfold plc at hr;unfold Program.built
  split at hr
  .rename_i it fs h1 h2
   split at hr
   .rename_i z pl h3 h4;cases hr;rw [h1,h2];simp only [h3,h4];rw [y7];obtain ⟨us,e1,e2⟩:=q9i (w:=w) (D:=dm D0 ρ h) (ρ:=ρ) (h:=h) (g:=ev e) ps.toList hS (z.cells.toList.map .vl) z.cells cs hcs (q4z _);rw [e1];exact hK _ (by unfold Rd; exact ⟨us.toList,rfl,e2⟩)
   .cases hr
  .cases hr
 case makeFunc fn first cap =>
  unfold fnP at hp
  split at hp
  .rename_i z hz
   split at hp
   .rename_i f
    split at hp
    .rename_i hf;cases hp;have hf:first=#[]:=by cases first with | mk fl=>cases fl with | nil=>rfl | cons a b=>cases hf
     obtain ⟨c,hc,hcz⟩:∃ c,cap.toList=[c]/\pe s c=.qt none (.vl (.int .i64 z)):=by
      obtain ⟨cl⟩:=cap
      match cl,hz with
      | [],hz=>cases hz
      | [a],hz=>exact ⟨a,rfl,(List.cons.inj hz).1⟩
      | a :: a' :: b',hz=>cases (List.cons.inj hz).2
     have hr:=hS c;rw [hcz] at hr;unfold Rd at hr;obtain ⟨ad,z',q1,q2,q3,q4,q5⟩:=hr;unfold Rd at q3;subst q3;have hcv:cap.map (ev e)=#[.pointer (some ad)]:=by
      cases cap;simp only at hc;subst hc;simp [q1]
     unfold WO;subst hf;simp only [execOp,Instr.makeFunc,hcv];refine hK _ ?_;unfold Rd;refine ⟨ad,σ,q2,?_⟩;have:=q5 0 (.int .i64 z) rfl
     rwa [add_zero] at this
    .cases hp
   .cases hp
  .cases hp
 case call c =>
  obtain ⟨callee,args,tys⟩:=c;simp only at hp ⊢
  split at hp
  .split at hp
   .rename_i a t hat htt;simp only [hat,htt];have ha:=hS a;unfold qrJ at hp
    split at hp
    .rename_i h1;rw [h1] at ha;unfold Rd at ha;obtain ⟨A,n,c,vs,e1,_,e2,_⟩:=ha;obtain ⟨q,hq,rfl⟩:=zB.1 hp;rw [e1,hq];refine hK _ ?_;unfold Rd;rw [e2]
    .rename_i h1;rw [h1] at ha;unfold Rd at ha;obtain ⟨b,A,c,_,_,e1,_⟩:=ha;obtain ⟨q,hq,rfl⟩:=zB.1 hp;rw [e1,hq];exact hK _ (by unfold Rd; rfl)
    .rename_i h1;rw [h1] at ha;unfold Rd at ha;obtain ⟨v,hv,rfl⟩:=zB.1 hp;rw [ha,hv];exact hK _ (by unfold Rd; rfl)
    .cases hp
   .cases hp
  .unfold mmP at hp;obtain ⟨r,hr,hp⟩:=zA.1 hp;obtain ⟨v,hv,rfl⟩:=zB.1 hp;have:=q5E hr (q4V (g:=ev e) hS args.toList);simp only [this,hv];exact hK _ (by unfold Rd; rfl)
  .unfold mmP at hp;obtain ⟨r,hr,hp⟩:=zA.1 hp;obtain ⟨v,hv,rfl⟩:=zB.1 hp;have:=q5E hr (q4V (g:=ev e) hS args.toList);simp only [this,hv];exact hK _ (by unfold Rd; rfl)
  .cases hp
end
instance  [NL]{v:Value}:Decidable (qnt v):=inferInstanceAs (Decidable (_/\_))
def qlX [NL] {w:World} {k:Kd} {z:Value} {p:Addr} (hf:q28 k z) (hc:∀ (i:Nat) (v:Value),z.cells.toList[i]?=some v->w.cell? (p.add i)=some v):ldV w (some k) (.pointer (some p))=some z:=by
 cases k with
 | none =>
  have:=hc 0 z (by rw [hf.1]; rfl);rw [add_zero] at this;exact this
 | some n =>
  obtain ⟨cs,rfl,h1,_⟩:=hf;have:=qkv (w:=w) (p:=p) cs.toList 0 λj u hu=>by rw [zU]; exact hc j u hu
  rw [zE,h1] at this;simp only [ldV,this];simp
def q9g [NL] {k:Kd} {x:PV} {w:World} {D:Nat->Prop} {ρ:Nat->Option Nat} {h:Hp} {y:Value} (hf:q7T k x) (hr:Rd w D x ρ h y):q28 k y:=by
 have one:∀ {x:PV} {y:Value},qf6 x->Rd w D x ρ h y->q28 none y:=λ{x y} hf hr=>by
  cases x <;> simp only [qf6] at hf <;> unfold Rd at hr
  case vl v=>subst hr; exact ⟨q1t hf.1,hf⟩
  case fm G=>exact hf _ _ _ hr
  case sl k l=>obtain ⟨_,_,_,_,rfl,_⟩:=hr; exact ⟨rfl,rfl,nlo⟩
  case ow=>obtain ⟨_,_,_,_,_,rfl,_⟩:=hr; exact ⟨rfl,rfl,nlo⟩
  case pt=>obtain ⟨_,_,_,_,_,rfl⟩:=hr; exact ⟨rfl,rfl,nlo⟩
  case qt=>obtain ⟨_,_,rfl,_⟩:=hr; exact ⟨rfl,rfl,nlo⟩
 cases k with
 | none=>exact one hf hr
 | some n =>
  cases x <;> simp only [q7T] at hf
  case fm G=>unfold Rd at hr; exact hf _ _ _ hr
  case ag l =>
   unfold Rd at hr;obtain ⟨vs,rfl,h1⟩:=hr;refine ⟨⟨vs⟩,rfl,by simp [h1.len,hf.1],λu hu=>?_⟩;simp only at hu;obtain ⟨i,hi⟩:=xH hu;obtain ⟨h2,h3⟩:=RdL.iff.1 h1;have hlt:=(zC.1 hi).1;have hx:l[i]?=some l[i]:=zD Oq;exact (one (hf.2 _ (zG hx)) (h3 i _ _ hx hi)).2
def ldP (h:Hp) (k:Option Kd):PV->Option (PV × List Nat)
 | .pt id i j=>match k,h id with
  | some k,some b=>if b.st=true\/ksz k=0 then none else ((b.xs[i]?).bind (ldU b.k k j)).map λx=>(x,[id])
  | _,_=>none
 | .qt bk x=>match k with
  | some k=>if ksz k=0 then none else (ldU bk k 0 x).map λy=>(y,[])
  | none=>none
 | _=>none
def alB [NL] (P:Program) (t:TypeId):Option Bk :=
 match q18 P t,q0c P t with
 | some z,some none=>match z.toList with
  | [v]=>if qnt v then some ⟨t,none,[.vl v],false⟩ else none
  | _=>none
 | some z,some (some n)=>if z.size=n/\(z.toList.all λv=>v.oneCell' && q4c v)=true then some ⟨t,some n,[.ag (z.toList.map .vl)],false⟩ else none
 | _,_=>none
def elK [NL] (P:Program) (t:TypeId):Option (TypeId × Kd × Nat) :=
 match q05 P t with
 | some (E,sz,bytes,z)=>match q0c P E with
  | some k=>if ksz k=sz/\0 < sz/\z.size=sz/\(z.toList.all λv=>v.oneCell' && q4c v)=true then some (E,k,bytes) else none
  | none=>none
 | none=>none
def elZ [NL] (P:Program) (t:TypeId):Option (TypeId × Kd × Nat × PV) :=
 match q05 P t,elK P t with
 | some (_,_,_,z),some (E,none,b)=>match z.toList with | [v]=>some (E,none,b,.vl v) | _=>none
 | some (_,_,_,z),some (E,some n,b)=>some (E,some n,b,.ag (z.toList.map .vl))
 | _,_=>none
section
variable {w w':World} {w0:Base} {D D0:Nat->Prop} {ρ:Nat->Option Nat} {h:Hp} {s:Nat->PV} {e:Env} {P:Program}
def qkI.unit [NL] {g:Nat} {b:Bk} (hb:qkI w D ρ h g b) (hst:b.st=false) {i:Nat} {x:PV} (hx:b.xs[i]?=some x) :
  ∃ v,Rd w D x ρ h v/\q28 b.k v/\∀ (j:Nat) (u:Value),v.cells.toList[j]?=some u->w.cell? ⟨g,i*ksz b.k+j,none⟩=some u:=by
 obtain ⟨cs,h1,h2,h3⟩:=hb;obtain ⟨vs,h4,h5,h6⟩:=h3 hst;obtain ⟨v,hv,hr⟩:=h5.get hx;have hf:=h6 v (zG hv);refine ⟨v,hr,hf,λj t ht=>?_⟩;have hcs:∀ v ∈ vs,v.cells.size=ksz b.k:=λv hv=>(h6 v hv).size;have hj:j < ksz b.k:=by
  have:=(zC.1 ht).1;rw [zE,hf.size] at this;exact this
 have q:=q4q hcs hv hj;rw [<- h4,zH] at q;rw [h1.cell]
 split at q
 .rw [zI] at q ht; rw [q]; exact ht
 .rw [zI] at ht; rw [ht] at q; cases q
def qek [NL] (S:Sat D0 w0 s h ρ e w) {t:TypeId} {a:Operand} {r:PV × List Nat} (hp:ldP h (q0c P t) (pe s a)=some r):∃ v,ldV w (q0c P t) (ev e a)=some v/\Rd w (dm D0 ρ h) r.1 ρ h v:=by
 have ha:=S.pex a;unfold ldP at hp
 split at hp
 .rename_i id i j hx;rw [hx] at ha;unfold Rd at ha;obtain ⟨b,g,g1,g2,g3,g4⟩:=ha
  split at hp
  .rename_i k b' hk hb;rw [g1] at hb;cases hb
   split at hp
   .cases hp
   .rename_i hc;obtain ⟨x,hx1,rfl⟩:=zB.1 hp;obtain ⟨y,hy,hl⟩:=zA.1 hx1;have hst:b.st=false:=by
     cases hq:b.st
     .rfl
     .exact absurd (Or.inl hq) hc
    obtain ⟨v,q1,q2,q3⟩:=(S.own id b g g1 g2).2.unit hst hy;obtain ⟨z,z1,z2,z3⟩:=qlY hl q1 q2 Oq;rw [hk,g4];refine ⟨z,qlX z2 λi' u hu=>?_,z1⟩;rw [q1v,xK];exact q3 _ u (z3 i' u hu)
  .cases hp
 .rename_i bk x hx;rw [hx] at ha;unfold Rd at ha;obtain ⟨ad,z,q1,q2,q3,q4,q5⟩:=ha
  split at hp
  .rename_i k hk
   split at hp
   .cases hp
   .obtain ⟨y,hy,rfl⟩:=zB.1 hp;obtain ⟨z',z1,z2,z3⟩:=qlY hy q3 q4.1 Oq;rw [q1,hk];refine ⟨z',qlX z2 λi' u hu=>?_,Rd.mv (Kp.refl _ _) (λ_ _ h=>h) _ _ _ _ _ _ Cpt.h0 z1⟩;have:=z3 i' u hu;rw [zU] at this;exact q5 _ u this
  .cases hp
 .cases hp
def Sat.newP [NL] (S:Sat D0 w0 s h ρ e w) {d:Nat} (hd:h d=none) (hd5:d < 5000) {b:Bk} {z:Value} {x:PV} (hb:b=⟨b.T,b.k,[x],false⟩) (hz:Rd w (dm D0 ρ h) x ρ h z) (hf:q28 b.k z) :
  ∃ ρ',Sat D0 w0 (pu s d (.pt d 0 0)) (q0Q h d b) ρ' (upd e d (.pointer (some ⟨w.heap.size,0,none⟩))) (w.alloc (.cells z.cells b.T)):=by
 have hsz:=hf.size;obtain ⟨S1,_,_⟩:=S.alloc (w':=w.alloc (.cells z.cells b.T)) (b:=b) (g:=w.heap.size) hd hd5 (Kp.alloc w _) (zP _) (cs:=z.cells) (Blk.new w b.T z.cells) (λu hu=>(hf.one u hu).2) (by rw [hb]) (vs:=[z]) (by
  rw [hb];simp only [zK,yC,zU,Nat.one_mul];rw [yO (by rw [zE,hsz]; exact zP _)];simp [q09]) (by rw [hb]; exact RdL.one hz) (by intro v hv; simp at hv; subst hv; exact hf)
 refine ⟨_,S1.put d ?_⟩;unfold Rd;exact ⟨b,w.heap.size,q0I,q1O,by rw [hb]; simp,σ⟩
def Sat.newS [NL] (S:Sat D0 w0 s h ρ e w) {d n:Nat} (hd:h d=none) (hd5:d < 5000) {b:Bk} {cs:Array Value} {vs:List Value} (hx:Ext w w') (hb:Blk w' w.heap.size b.T cs) (hn:∀ u ∈ cs.toList,q4c u=true) (hst:b.st=false) (hln:b.xs.length=n) {c:Nat} (hc:n<=c) (hcm:c<=maxLen) (hcs:cs.size=c*ksz b.k)
  (h1:cs.toList.take (n*ksz b.k)=q09 vs) (h2:RdL w (dm D0 ρ h) b.xs ρ h vs) (h3:∀ v ∈ vs,q28 b.k v) :
  ∃ ρ',Sat D0 w0 (pu s d (.ow d b.k 0 n)) (q0Q h d b) ρ' (upd e d (.slice (some ⟨w.heap.size,0,none⟩) n c)) w':=by
 obtain ⟨S1,_,_⟩:=S.alloc (w':=w') (b:=b) (g:=w.heap.size) hd hd5 hx (zP _) (cs:=cs) hb hn hst (vs:=vs) (by rw [hln]; exact h1) h2 h3;refine ⟨_,S1.put d ?_⟩;have hat:AtO w' (upo ρ d (some w.heap.size) d) (some ⟨w.heap.size,0,none⟩) (0*ksz b.k) ((0+c)*ksz b.k):=⟨_,q1O,by rw [xC],cs,b.T,hb,by rw [zU]; exact hcs⟩;unfold Rd;exact ⟨b,_,c,q0I,rfl,rfl,hc,hcm,ω,.inr hat,λ_=>.inr hat⟩
def allB [NL] {z:Array Value} (ha:(z.toList.all λv=>v.oneCell' && q4c v)=true):∀ u ∈ z.toList,u.oneCell'=true/\q4c u=true:=λu hu=>by
 have:=yI.1 ha u hu;simpa using this
def qjq [NL] (S:Sat D0 w0 s h ρ e w) {d t:Nat} {b:Bk} (hd:h d=none) (hd5:d < 5000) (hb:alB P t=some b):∃ z,q18 P t=some z/\∃ ρ',Sat D0 w0 (pu s d (.pt d 0 0)) (q0Q h d b) ρ' (upd e d (.pointer (some ⟨w.heap.size,0,none⟩))) (w.alloc (.cells z t)):=by
 unfold alB at hb
 split at hb
 .rename_i z hz hk;refine ⟨z,hz,?_⟩
  split at hb
  .rename_i v hv
   split at hb
   .rename_i ho;cases hb;have hzz:z=#[v]:=by cases z; simp at hv; rw [hv]
    have hcc:=q1t ho.1;have:=S.newP (b:=⟨t,none,[.vl v],false⟩) (z:=v) (x:=.vl v) hd hd5 rfl (by unfold Rd; rfl) ⟨hcc,ho⟩;rw [hcc,<- hzz] at this;exact this
   .cases hb
  .cases hb
 .rename_i z n hz hk;refine ⟨z,hz,?_⟩
  split at hb
  .rename_i hc;cases hb;exact S.newP (b:=⟨t,some n,[.ag (z.toList.map .vl)],false⟩) (z:=.agg z) (x:=.ag (z.toList.map .vl)) hd hd5 rfl (by unfold Rd; exact ⟨z.toList,rfl,q4z _⟩) ⟨z,rfl,hc.1,allB hc.2⟩
  .cases hb
 .cases hb
def qbR [NL] {t:TypeId} {E:TypeId} {k:Kd} {bytes:Nat} (hk:elK P t=some (E,k,bytes)):∃ z:Array Value,q05 P t=some (E,ksz k,bytes,z)/\0 < ksz k/\z.size=ksz k/\q0c P E=some k/\∀ u ∈ z.toList,u.oneCell'=true/\q4c u=true:=by
 unfold elK at hk
 split at hk
 .rename_i E' sz by' z he
  split at hk
  .rename_i k' hk'
   split at hk
   .rename_i hc;cases hk;obtain ⟨rfl,h1,h2,h3⟩:=hc;exact ⟨z,he,h1,h2,hk',allB h3⟩
   .cases hk
  .cases hk
 .cases hk
def qbN {sz:Nat}:∀ (vs:List Value) (a:Nat) (cs:Array Value),(∀ v ∈ vs,v.cells.size=sz)->(a+vs.length)*sz<=cs.size->∃ r,Instr.fill (λi=>some (i*sz,sz)) cs ((xI a vs.length).zip vs)=some r/\r.size=cs.size/\∀ i:Nat,r[i]?=if a*sz<=i/\i < (a+vs.length)*sz then (q09 vs)[i-a*sz]? else cs[i]?
 | [],a,cs,_,_=>⟨cs,rfl,rfl,λi=>by rw [if_neg σ]⟩
 | v :: vs,a,cs,hv,hl=>by
  rw [zK] at hl;have h1:=hv v zV;have e0:(a+(vs.length+1))*sz=a*sz+sz+vs.length*sz:=by rw [yF,yW]; omega
  have e1:(a+1+vs.length)*sz=a*sz+sz+vs.length*sz:=by rw [yF,yW]
  have e2:(a+1)*sz=a*sz+sz:=yW _ _;have hl':a*sz+sz+vs.length*sz<=cs.size:=by rw [<- e0]; exact hl
  clear hl;have hvl:v.cells.toList.length=sz:=by rw [zE,h1]
  obtain ⟨r1,q1,q2,q3⟩:=q3X (a*sz) v.cells.toList 0 cs (by rw [hvl]; clear e0 e1 e2; omega);obtain ⟨r,p1,p2,p3⟩:=qbN vs (a+1) r1 (λx hx=>hv x (zN _ hx)) (by rw [q2,e1]; exact hl');refine ⟨r,?_,by rw [p2,q2],λi=>?_⟩
  .rw [zK,List.range'_succ,xM];unfold Instr.fill;simp only;rw [if_neg (by rw [h1]; clear e0 e1 e2; simp only [vP,decide_eq_true_eq]; omega)];rw [<- xL,xJ];rw [q1];exact p1
  .rw [p3 i,q3 i,hvl,zK];have hfl:q09 (v :: vs)=v.cells.toList ++ q09 vs:=by simp [q09]
   rw [hfl,e0,e1,e2]
   by_cases c1:a*sz+sz<=i/\i < a*sz+sz+vs.length*sz
   .rw [if_pos c1,if_pos ω,List.getElem?_append_right ω,hvl,show i-a*sz-sz=i-(a*sz+sz) by omega]
   .rw [if_neg c1]
    by_cases c2:a*sz+0<=i/\i < a*sz+0+sz
    .rw [if_pos c2,if_pos ω,List.getElem?_append_left ω]
     rfl
    .rw [if_neg c2,if_neg ω]
def bs_ok [NL] (S:Sat D0 w0 s h ρ e w) {d t len E bytes:Nat} {k:Kd} {ps:List (Nat × Operand)} (hd:h d=none) (hd5:d < 5000) (hk:elK P t=some (E,k,bytes)) (hps:ps.map (·.1)=List.range len) (hl:len*ksz k<=16777216) (hf:∀ p ∈ ps,q7T k (pe s p.2)) :
  ∃ cs,bsV P t len (ps.map λp=>(p.1,ev e p.2))=some (E,cs)/\∃ ρ',Sat D0 w0 (pu s d (.ow d k 0 len)) (q0Q h d ⟨E,k,ps.map λp=>pe s p.2,false⟩) ρ' (upd e d (.slice (some ⟨w.heap.size,0,none⟩) len len)) (w.alloc (.cells cs E)):=by
 obtain ⟨z,he,hsz,hzs,_,_⟩:=qbR hk;have hlen:ps.length=len:=by have:=congrArg List.length hps; simpa using this
 have hvs:RdL w (dm D0 ρ h) (ps.map λp=>pe s p.2) ρ h (ps.map λp=>ev e p.2):=by
  have:=q4V (w:=w) (D:=dm D0 ρ h) (ρ:=ρ) (h:=h) (f:=pe s) (g:=ev e) S.pex (ps.map (·.2));rw [yX,yX] at this;exact this
 have hfit:∀ v ∈ ps.map (λp=>ev e p.2),q28 k v:=λv hv=>by
  obtain ⟨p,hp,rfl⟩:=yY.1 hv;exact q9g (hf p hp) (S.pex p.2)
 have key:∃ cs,bsV P t len (ps.map λp=>(p.1,ev e p.2))=some (E,cs)/\cs.toList=q09 (ps.map λp=>ev e p.2):=by
  unfold bsV;rw [he];simp only
  by_cases h0:len=0
  .subst h0;have:ps=[]:=zS hlen;subst this;rw [if_pos σ];exact ⟨#[],σ,by simp [q09]⟩
  .have hpos:0 < len*ksz k:=vZ Oq hsz;rw [if_neg ω,if_neg ω];have hz:(ps.map λp=>(p.1,ev e p.2))=(xI 0 (ps.map λp=>ev e p.2).length).zip (ps.map λp=>ev e p.2):=by
    rw [List.length_map,hlen,<- yS,<- hps];clear hf hps hlen hvs hfit
    induction ps with
    | nil=>rfl
    | cons p ps ih=>simp only [vS,xM,ih]
   rw [hz];obtain ⟨r,r1,r2,r3⟩:=qbN (sz:=ksz k) (ps.map λp=>ev e p.2) 0 ((Array.range (len*ksz k)).map (z[· % z.size]!)) (λv hv=>(hfit v hv).size) (by simp [hlen]);rw [r1];refine ⟨r,rfl,?_⟩;have hfl:(q09 (ps.map λp=>ev e p.2)).length=len*ksz k:=by rw [q0q λv hv=>(hfit v hv).size]; simp [hlen]
   apply yE
   intro i;rw [zI,r3 i]
   split
   .simp
   .rename_i hc;simp [hlen] at hc;rw [vQ ω,Array.getElem?_eq_none (by simp; omega)]
 obtain ⟨cs,h1,h2⟩:=key;refine ⟨cs,h1,?_⟩;have hfl:(q09 (ps.map λp=>ev e p.2)).length=len*ksz k:=by rw [q0q λv hv=>(hfit v hv).size]; simp [hlen]
 have hcs:cs.size=len*ksz k:=by rw [<- zE,h2,hfl]
 have hml:len<=maxLen:=by
  have:len<=len*ksz k:=y8 _ hsz;simp only [maxLen]; omega
 exact S.newS (b:=⟨E,k,ps.map λp=>pe s p.2,false⟩) hd hd5 (Kp.alloc w _) (Blk.new w E cs) (λu hu=>by
  rw [h2] at hu;unfold q09 at hu;obtain ⟨v,hv,hu⟩:=yR.1 hu;exact ((hfit v hv).one u hu).2) rfl (by simp [hlen]) (zP _) hml hcs (by rw [<- hcs,<- zE,List.take_length]; exact h2) hvs hfit
def qei {z:Array Value} {zv:Value} (hz:zv.cells=z) (hp:0 < z.size) (n:Nat):(madeCells z (n*z.size)).toList=q09 (List.replicate n zv):=by
 have hcs:∀ v ∈ List.replicate n zv,v.cells.size=z.size:=λv hv=>by rw [(yA.1 hv).2,hz]
 have hfl:=q0q hcs;rw [xF] at hfl
 apply yE
 intro i
 rcases yZ i (n*z.size) with hi | hi
 .have hq:i / z.size < n:=by rw [Nat.div_lt_iff_lt_mul hp]; exact hi
  have hm:=Nat.mod_lt i hp;have:=q4q hcs (i:=i / z.size) (j:=i % z.size) (v:=zv) (by rw [y9,if_pos hq]) hm;rw [Nat.mul_comm,Nat.div_add_mod] at this;rw [this,hz];simp [madeCells,hi,hm]
 .rw [vQ (by rw [zE,size_madeCells]; exact hi),vQ ω]
def mk_ok [NL] (S:Sat D0 w0 s h ρ e w) {d t E bytes n m:Nat} {k:Kd} {x:PV} (hd:h d=none) (hd5:d < 5000) (hk:elZ P t=some (E,k,bytes,x)) (hnm:n<=m) (hn:m<=maxLen) :
  ∃ z,q05 P t=some (E,ksz k,bytes,z)/\∃ ρ',Sat D0 w0 (pu s d (.ow d k 0 n)) (q0Q h d ⟨E,k,List.replicate n x,false⟩) ρ' (upd e d (.slice (some ⟨w.heap.size,0,none⟩) n m)) (w.alloc (.cells (madeCells z (m*ksz k)) E)):=by
 have key:∃ (z:Array Value) (zv:Value),elK P t=some (E,k,bytes)/\q05 P t=some (E,ksz k,bytes,z)/\0 < ksz k/\z.size=ksz k/\zv.cells=z/\q28 k zv/\Rd w (dm D0 ρ h) x ρ h zv:=by
  unfold elZ at hk
  split at hk
  .rename_i E1 s1 b1 z' E2 b2 he hkk
   split at hk
   .rename_i v hv;cases hk;obtain ⟨z2,q1,q2,q3,_,q4⟩:=qbR hkk;have hz2:z2=z':=by rw [q1] at he; cases he; rfl
    subst hz2;have ho:=q4 v (by rw [hv]; simp);have hzz:z2=#[v]:=by cases z2; simp at hv; rw [hv]
    exact ⟨z2,v,hkk,q1,q2,q3,by rw [hzz]; exact q1t ho.1,⟨q1t ho.1,ho⟩,by unfold Rd; rfl⟩
   .cases hk
  .rename_i E1 s1 b1 z' E2 n2 b2 he hkk;cases hk;obtain ⟨z2,q1,q2,q3,_,q4⟩:=qbR hkk;have hz2:z2=z':=by rw [q1] at he; cases he; rfl
   subst hz2;exact ⟨z2,.agg z2,hkk,q1,q2,q3,rfl,⟨z2,rfl,q3,q4⟩,by unfold Rd; exact ⟨z2.toList,rfl,q4z _⟩⟩
  .cases hk
 obtain ⟨z,zv,_,he,hp,hzs,hzc,hfit,hr⟩:=key;refine ⟨z,he,?_⟩;have hfl:=qei hzc Oq m;rw [hzs] at hfl;exact S.newS (b:=⟨E,k,List.replicate n x,false⟩) (n:=n) hd hd5 (Kp.alloc w _) (Blk.new w E _) (λu hu=>by
  rw [hfl] at hu;unfold q09 at hu;obtain ⟨v,hv,hu⟩:=yR.1 hu;rw [(yA.1 hv).2] at hu;exact (hfit.one u hu).2) rfl σ hnm hn (size_madeCells _ _) (by
   rw [hfl,<- q3l λv hv=>by rw [(yA.1 hv).2,hzc,hzs],List.take_replicate,Nat.min_eq_left hnm]) (vs:=List.replicate n zv) (RdL.iff.2 ⟨σ,λi y v hy hv=>by
   rw [y9] at hy hv
   split at hy
   .rw [if_pos ‹_›] at hv; cases hy; cases hv; exact hr
   .cases hy⟩) (λv hv=>by rw [(yA.1 hv).2]; exact hfit)
end
def stU (bk k:Kd) (j:Nat) (old x:PV):Option PV :=
 if bk=k/\j=0 then some x else
  match bk,k,old,x with
  | some _,none,.ag l,x=>if j < l.length then some (.ag (l.set j x)) else none
  | some _,some m,.ag l,.ag r=>if r.length=m/\j+m<=l.length then some (.ag (l.take j ++ r ++ l.drop (j+m))) else none
  | _,_,_,_=>none
def qsS {bk k:Kd} {j:Nat} {old x u':PV} (h:stU bk k j old x=some u'):(bk=k/\j=0/\u'=x)\/(∃ n l,bk=some n/\k=none/\old=.ag l/\j < l.length/\u'=.ag (l.set j x))\/∃ n m l r,bk=some n/\k=some m/\old=.ag l/\x=.ag r/\r.length=m/\j+m<=l.length/\u'=.ag (l.take j ++ r ++ l.drop (j+m)):=by
 unfold stU at h
 split at h
 .rename_i hh; cases h; exact .inl ⟨hh.1,hh.2,rfl⟩
 .split at h
  .split at h
   .cases h; exact .inr (.inl ⟨_,_,rfl,rfl,rfl,‹_›,rfl⟩)
   .cases h
  .split at h
   .rename_i hc; cases h; exact .inr (.inr ⟨_,_,_,_,rfl,rfl,rfl,rfl,hc.1,hc.2,rfl⟩)
   .cases h
  .cases h
def stl (h:Hp):Option Nat->Hp
 | none=>h
 | some i=>match h i with | some b=>q0Q h i { b with st:=true } | none=>h
def apS (h:Hp) (E:TypeId) (k:Kd):PV->Option (List PV × Option Nat)
 | .vl (.slice none 0 0)=>some ([],none)
 | .ow id k' off n=>(h id).bind λb=>if b.st=false/\b.T=E/\b.k=k/\k'=k/\off=0/\n=b.xs.length then some (b.xs,some id) else none
 | _=>none
def apX (h:Hp) (k:Kd):PV->Option (List PV × List Nat)
 | .vl (.slice none 0 0)=>some ([],[])
 | .sl k' l=>if k'=k then some (l,[]) else none
 | .ow id k' off n=>(h id).bind λb=>if b.st=false/\b.k=k/\k'=k then some ((b.xs.drop off).take n,[id]) else none
 | _=>none
def q3A:PV->Prop
 | .ow _ _ _ _ | .pt _ _ _ | .ag _ | .tu _=>False
 | _=>True
def Cld:PV->Prop
 | .ag l=>∀ x ∈ l,q3A x
 | x=>q3A x
open Classical in
noncomputable def qc8 (h:Hp):PV->Option (PV × List Nat)
 | .ow id k off n=>(h id).bind λb=>if b.st=false/\b.k=k/\∀ x ∈ b.xs,Cld x then some (.sl k ((b.xs.drop off).take n),[id]) else none
 | x=>if q3A x then some (x,[]) else none
noncomputable def q11 (h:Hp):List PV->Option (List PV × List Nat)
 | []=>some ([],[])
 | x :: l=>(qc8 h x).bind λa=>(q11 h l).map λb=>(a.1 :: b.1,a.2 ++ b.2)
open Classical in
noncomputable def q3G (h:Hp):PV->Option (PV × List Nat)
 | .ow id k off n=>(h id).bind λb=>if b.st=false/\b.k=k/\∀ x ∈ b.xs,Cld x then some (.sl k ((b.xs.drop off).take n),[id]) else if b.st=false/\b.k=k then (q11 h b.xs).map λr=>(.sl k ((r.1.drop off).take n),id :: r.2) else none
 | x=>if q3A x then some (x,[]) else none
noncomputable def q3Y (h:Hp):List PV->Option (List PV × List Nat)
 | []=>some ([],[])
 | x :: l=>(q3G h x).bind λa=>(q3Y h l).map λb=>(a.1 :: b.1,a.2 ++ b.2)
noncomputable def clo (h:Hp):PV->Option (PV × List Nat)
 | .ag l=>(q3Y h l).map λr=>(.ag r.1,r.2)
 | x=>q3G h x
noncomputable def q2n (h:Hp):List PV->Option (List PV × List Nat)
 | []=>some ([],[])
 | x :: l=>(clo h x).bind λa=>(q2n h l).map λb=>(a.1 :: b.1,a.2 ++ b.2)
def Nz [NL] (r:PV):Prop:=∀ (w:World) (D B:Nat->Prop) (v:Value),(∀ g,B g->∃ cs T,Blk w g T cs/\∀ u ∈ cs.toList,q4c u=true)->Rd w D r (λ_=>none) h0 v->Rd w (λk=>D k/\¬ B k) r (λ_=>none) h0 v
def AC [NL] (P:Program) (Tb:World->Prop) (f:FuncId) (al:List PV) (r:PV):Prop :=
 q0G P f=true/\∀ (D:Nat->Prop) (w:World) (vs:List Value),Tb w->Fr D w->RdL w D al (λ_=>none) h0 vs->Calls P f vs.toArray w λx w'=>∃ v,x=.returned v/\Ext w w'/\Rd w' D r (λ_=>none) h0 v
section
variable {w w':World} {w0:Base} {D D0:Nat->Prop} {ρ:Nat->Option Nat} {h:Hp} {s:Nat->PV} {e:Env} {P:Program}
def Rd.cl [NL] {x:PV} {y:Value} (hx:Rd w D x (λ_=>none) h0 y):Rd w D x ρ h y:=Rd.mv (Kp.refl _ _) (λ_ _ h=>h) _ _ _ _ _ _ Cpt.h0 hx
def RdL.cl [NL] {l:List PV} {vs:List Value} (hx:RdL w D l (λ_=>none) h0 vs):RdL w D l ρ h vs:=RdL.mv (Kp.refl _ _) (λ_ _ h=>h) _ _ _ _ _ _ Cpt.h0 hx
def Rd.sub [NL] {D':Nat->Prop} {x:PV} {y:Value} (hx:Rd w D x ρ h y) (hd:∀ k,k < w.heap.size->D k->D' k):Rd w D' x ρ h y:=Rd.mv (Kp.refl _ _) hd _ _ _ _ _ _ (Cpt.ext (Kp.refl _ _)) hx
def RdL.sub [NL] {D':Nat->Prop} {x:List PV} {y:List Value} (hx:RdL w D x ρ h y) (hd:∀ k,k < w.heap.size->D k->D' k):RdL w D' x ρ h y:=RdL.mv (Kp.refl _ _) hd _ _ _ _ _ _ (Cpt.ext (Kp.refl _ _)) hx
def q21 [NL] {x:PV} {y:Value} (hc:q3A x) (hx:Rd w D x ρ h y):Rd w D x (λ_=>none) h0 y:=by
 cases x <;> simp only [q3A] at hc <;> unfold Rd at hx ⊢ <;> exact hx
def q6Y [NL] {x:PV} {y:Value} (hc:Cld x) (hx:Rd w D x ρ h y):Rd w D x (λ_=>none) h0 y:=by
 cases x
 case ag l =>
  simp only [Cld] at hc;unfold Rd at hx ⊢;obtain ⟨vs,h1,h2⟩:=hx;obtain ⟨h3,h4⟩:=RdL.iff.1 h2;exact ⟨vs,h1,RdL.iff.2 ⟨h3,λi z v hz hv=>q21 (hc z (zG hz)) (h4 i z v hz hv)⟩⟩
 all_goals exact q21 hc hx
def Sat.row [NL] (S:Sat D0 w0 s h ρ e w) {id off n:Nat} {b:Bk} {y:Value} (hi:h id=some b) (hst:b.st=false) (hr:Rd w (dm D0 ρ h) (.ow id b.k off n) ρ h y) :
  ∃ A c vs,y=.slice A n c/\Row w (λk=>ρ id=some k) (ksz b.k) A n c (q09 vs)/\RdL w (dm D0 ρ h) ((b.xs.drop off).take n) ρ h vs/\∀ v ∈ vs,q28 b.k v:=by
 unfold Rd at hr;obtain ⟨b',A,c,h1,_,rfl,h3,h4,h5,h6,h7⟩:=hr;rw [hi] at h1;cases h1
 by_cases hn:n=0
 .subst hn;refine ⟨A,c,[],rfl,⟨h3,by simp [q09],λhx=>by simp [q09] at hx⟩,by rw [List.take_zero]; unfold RdL; rfl,λv hv=>by cases hv⟩
 .rcases h6 with h6 | ⟨g,g1,g2,g3⟩
  .omega
  .obtain ⟨cs,c1,c2,c3⟩:=(S.own id b g hi g1).2;obtain ⟨vs,v1,v2,v3⟩:=c3 hst;have hcs:∀ v ∈ vs,v.cells.size=ksz b.k:=λv hv=>(v3 v hv).size;have hlen:=v2.len;refine ⟨A,c,(vs.drop off).take n,rfl,⟨h3,?_,λ_=>⟨_,g2,g1,λj u hu=>?_⟩⟩,(v2.drop off).take n,λv hv=>v3 v (zL (zM hv))⟩
   .rw [q0q λv hv=>hcs v (zL (zM hv))]
    congr 1
    simp; omega
   .rw [q3l λv hv=>hcs v (zL hv),q3m hcs,<- v1,zH] at hu
    split at hu
    .rw [zO,zH] at hu
     split at hu
     .rw [q1v,c1.cell,<- zI]; exact hu
     .cases hu
    .cases hu
def qp5 [NL] (S:Sat D0 w0 s h ρ e w) {x:PV} {r:PV × List Nat} {y:Value} (hc:qc8 h x=some r) (hx:Rd w (dm D0 ρ h) x ρ h y):Rd w (λk=>dm D0 ρ h k\/∃ i ∈ r.2,ρ i=some k) r.1 (λ_=>none) h0 y:=by
 unfold qc8 at hc
 split at hc
 .rename_i id k off n;obtain ⟨b,hb,hc⟩:=zA.1 hc
  split at hc
  .rename_i hh;obtain ⟨hst,rfl,hcl⟩:=hh;cases hc;obtain ⟨A,c,vs,rfl,q1,q2,q3⟩:=S.row hb hst hx;have hb0:off+n<=b.xs.length:=by
    unfold Rd at hx;obtain ⟨b',_,_,h1,_,_,_,_,h5,_⟩:=hx;rw [hb] at h1; cases h1; exact h5
   unfold Rd;refine ⟨A,n,c,vs,rfl,q1.sub λk _ hk=>.inr ⟨id,σ,hk⟩,by simp; omega,?_,q3⟩;obtain ⟨q4,q5⟩:=RdL.iff.1 q2;exact RdL.iff.2 ⟨q4,λi z v hz hv=>(q6Y (hcl z (zL (zM (zG hz)))) (q5 i z v hz hv)).sub λk _ hk=>.inl hk⟩
  .cases hc
 .split at hc
  .rename_i hcl;cases hc;exact (q21 hcl hx).sub λk _ hk=>.inl hk
  .cases hc
def qb3 [NL] (S:Sat D0 w0 s h ρ e w):∀ {l:List PV} {r:List PV × List Nat},q11 h l=some r->r.1.length=l.length/\∀ (i:Nat) (x:PV),l[i]?=some x->∃ z,r.1[i]?=some z/\∀ y,Rd w (dm D0 ρ h) x ρ h y->Rd w (λk=>dm D0 ρ h k\/∃ i ∈ r.2,ρ i=some k) z (λ_=>none) h0 y
 | [],r,hc=>by unfold q11 at hc; cases hc; exact ⟨rfl,λi x hx=>by simp at hx⟩
 | x :: l,r,hc=>by
  unfold q11 at hc;obtain ⟨a,ha,hc⟩:=zA.1 hc;obtain ⟨b,hb,rfl⟩:=zB.1 hc;obtain ⟨h1,h2⟩:=qb3 S hb;refine ⟨by simp [h1],λi x' hx=>?_⟩;cases i with
  | zero=>cases hx; exact ⟨_,rfl,λy hy=>(qp5 S ha hy).sub λk _ hk=>hk.imp (λh=>h) λ⟨i,hi,h⟩=>⟨i,zW _ hi,h⟩⟩
  | succ i =>
   obtain ⟨z,q1,q2⟩:=h2 i x' hx;exact ⟨z,q1,λy hy=>(q2 y hy).sub λk _ hk=>hk.imp (λh=>h) λ⟨i,hi,h⟩=>⟨i,zQ _ hi,h⟩⟩
def q9x [NL] (S:Sat D0 w0 s h ρ e w) {x:PV} {r:PV × List Nat} {y:Value} (hc:q3G h x=some r) (hx:Rd w (dm D0 ρ h) x ρ h y):Rd w (λk=>dm D0 ρ h k\/∃ i ∈ r.2,ρ i=some k) r.1 (λ_=>none) h0 y:=by
 unfold q3G at hc
 split at hc
 .rename_i id k off n;obtain ⟨b,hb,hc⟩:=zA.1 hc
  split at hc
  .rename_i hh;obtain ⟨hst,rfl,hcl⟩:=hh;cases hc;obtain ⟨A,c,vs,rfl,q1,q2,q3⟩:=S.row hb hst hx;have hb0:off+n<=b.xs.length:=by
    unfold Rd at hx;obtain ⟨b',_,_,h1,_,_,_,_,h5,_⟩:=hx;rw [hb] at h1; cases h1; exact h5
   unfold Rd;refine ⟨A,n,c,vs,rfl,q1.sub λk _ hk=>.inr ⟨id,σ,hk⟩,by simp; omega,?_,q3⟩;obtain ⟨q4,q5⟩:=RdL.iff.1 q2;exact RdL.iff.2 ⟨q4,λi z v hz hv=>(q6Y (hcl z (zL (zM (zG hz)))) (q5 i z v hz hv)).sub λk _ hk=>.inl hk⟩
  .split at hc
   .rename_i hh;obtain ⟨hst,rfl⟩:=hh;obtain ⟨r0,hr0,rfl⟩:=zB.1 hc;obtain ⟨A,c,vs,rfl,q1,q2,q3⟩:=S.row hb hst hx;obtain ⟨g1,g2⟩:=qb3 S hr0;have hb0:off+n<=b.xs.length:=by
     unfold Rd at hx;obtain ⟨b',_,_,h1,_,_,_,_,h5,_⟩:=hx;rw [hb] at h1; cases h1; exact h5
    unfold Rd;refine ⟨A,n,c,vs,rfl,q1.sub λk _ hk=>.inr ⟨id,σ,hk⟩,by simp; omega,?_,q3⟩;obtain ⟨q4,q5⟩:=RdL.iff.1 q2;refine RdL.iff.2 ⟨by rw [<- q4]; simp [g1],λi z v hz hv=>?_⟩;rw [zH] at hz
    split at hz
    .rename_i hin;rw [zO] at hz;obtain ⟨x,hx'⟩:∃ x,b.xs[off+i]?=some x:=⟨_,zD Oq⟩;obtain ⟨z',e1,e2⟩:=g2 _ _ hx';rw [e1] at hz; cases hz;refine (e2 v (q5 i x v ?_ hv)).sub λk _ hk=>hk.imp (λh=>h) λ⟨i,hi,h⟩=>⟨i,zN _ hi,h⟩;rw [zH,if_pos hin,zO]; exact hx'
    .cases hz
   .cases hc
 .split at hc
  .rename_i hcl;cases hc;exact (q21 hcl hx).sub λk _ hk=>.inl hk
  .cases hc
def qb2 [NL] (S:Sat D0 w0 s h ρ e w):∀ {l:List PV} {r:List PV × List Nat} {ys:List Value},q3Y h l=some r->RdL w (dm D0 ρ h) l ρ h ys->RdL w (λk=>dm D0 ρ h k\/∃ i ∈ r.2,ρ i=some k) r.1 (λ_=>none) h0 ys
 | [],r,ys,hc,hx=>by unfold q3Y at hc; cases hc; unfold RdL at hx ⊢; exact hx
 | x :: l,r,ys,hc,hx=>by
  unfold q3Y at hc;obtain ⟨a,ha,hc⟩:=zA.1 hc;obtain ⟨b,hb,rfl⟩:=zB.1 hc;unfold RdL at hx ⊢;obtain ⟨y,zs,rfl,h1,h2⟩:=hx;exact ⟨y,zs,rfl,(q9x S ha h1).sub λk _ hk=>hk.imp (λh=>h) λ⟨i,hi,h⟩=>⟨i,zW _ hi,h⟩,(qb2 S hb h2).sub λk _ hk=>hk.imp (λh=>h) λ⟨i,hi,h⟩=>⟨i,zQ _ hi,h⟩⟩
def qvn [NL] (S:Sat D0 w0 s h ρ e w) {x:PV} {r:PV × List Nat} {y:Value} (hc:clo h x=some r) (hx:Rd w (dm D0 ρ h) x ρ h y):Rd w (λk=>dm D0 ρ h k\/∃ i ∈ r.2,ρ i=some k) r.1 (λ_=>none) h0 y:=by
 unfold clo at hc
 split at hc
 .obtain ⟨b,hb,rfl⟩:=zB.1 hc;unfold Rd at hx ⊢;obtain ⟨vs,h1,h2⟩:=hx;exact ⟨vs,h1,qb2 S hb h2⟩
 .exact q9x S hc hx
def q5f [NL] (S:Sat D0 w0 s h ρ e w):∀ {l:List PV} {r:List PV × List Nat} {ys:List Value},q2n h l=some r->RdL w (dm D0 ρ h) l ρ h ys->RdL w (λk=>dm D0 ρ h k\/∃ i ∈ r.2,ρ i=some k) r.1 (λ_=>none) h0 ys
 | [],r,ys,hc,hx=>by unfold q2n at hc; cases hc; unfold RdL at hx ⊢; exact hx
 | x :: l,r,ys,hc,hx=>by
  unfold q2n at hc;obtain ⟨a,ha,hc⟩:=zA.1 hc;obtain ⟨b,hb,rfl⟩:=zB.1 hc;unfold RdL at hx ⊢;obtain ⟨y,zs,rfl,h1,h2⟩:=hx;exact ⟨y,zs,rfl,(qvn S ha h1).sub λk _ hk=>hk.imp (λh=>h) λ⟨i,hi,h⟩=>⟨i,zW _ hi,h⟩,(q5f S hb h2).sub λk _ hk=>hk.imp (λh=>h) λ⟨i,hi,h⟩=>⟨i,zQ _ hi,h⟩⟩
def q4w:∀ {l:List PV} {r:List PV × List Nat},q2n h l=some r->∀ i ∈ r.2,∃ b,h i=some b:=by
 have k0:∀ {x:PV} {r:PV × List Nat},qc8 h x=some r->∀ i ∈ r.2,∃ b,h i=some b:=λ{x r} hc i hi=>by
  unfold qc8 at hc
  split at hc
  .obtain ⟨b,hb,hc⟩:=zA.1 hc
   split at hc
   .cases hc; simp at hi; subst hi; exact ⟨b,hb⟩
   .cases hc
  .split at hc
   .cases hc; cases hi
   .cases hc
 have k3:∀ {l:List PV} {r:List PV × List Nat},q11 h l=some r->∀ i ∈ r.2,∃ b,h i=some b:=λ{l}=>by
  induction l with
  | nil=>intro r hc i hi; unfold q11 at hc; cases hc; cases hi
  | cons x l ih =>
   intro r hc i hi;unfold q11 at hc;obtain ⟨a,ha,hc⟩:=zA.1 hc;obtain ⟨b,hb,rfl⟩:=zB.1 hc
   rcases zR.1 hi with hi | hi
   .exact k0 ha i hi
   .exact ih hb i hi
 have k1:∀ {x:PV} {r:PV × List Nat},q3G h x=some r->∀ i ∈ r.2,∃ b,h i=some b:=λ{x r} hc i hi=>by
  unfold q3G at hc
  split at hc
  .obtain ⟨b,hb,hc⟩:=zA.1 hc
   split at hc
   .cases hc; simp at hi; subst hi; exact ⟨b,hb⟩
   .split at hc
    .obtain ⟨r0,hr0,rfl⟩:=zB.1 hc
     rcases yK.1 hi with rfl | hi
     .exact ⟨b,hb⟩
     .exact k3 hr0 i hi
    .cases hc
  .split at hc
   .cases hc; cases hi
   .cases hc
 have k2:∀ {l:List PV} {r:List PV × List Nat},q3Y h l=some r->∀ i ∈ r.2,∃ b,h i=some b:=λ{l}=>by
  induction l with
  | nil=>intro r hc i hi; unfold q3Y at hc; cases hc; cases hi
  | cons x l ih =>
   intro r hc i hi;unfold q3Y at hc;obtain ⟨a,ha,hc⟩:=zA.1 hc;obtain ⟨b,hb,rfl⟩:=zB.1 hc
   rcases zR.1 hi with hi | hi
   .exact k1 ha i hi
   .exact ih hb i hi
 intro l
 induction l with
 | nil=>intro r hc i hi; unfold q2n at hc; cases hc; cases hi
 | cons x l ih =>
  intro r hc i hi;unfold q2n at hc;obtain ⟨a,ha,hc⟩:=zA.1 hc;obtain ⟨b,hb,rfl⟩:=zB.1 hc
  rcases zR.1 hi with hi | hi
  .unfold clo at ha
   split at ha
   .obtain ⟨b',hb',rfl⟩:=zB.1 ha;exact k2 hb' i hi
   .exact k1 ha i hi
  .exact ih hb i hi
def Sat.callv [NL] {Tb:World->Prop} (S:Sat D0 w0 s h ρ e w) (hT:Tb w) (hF:Fr D0 w0.w) {f:FuncId} {xs:List PV} {vs:List Value} {al:List PV} {ids:List Nat} {r:PV} (hx:RdL w (dm D0 ρ h) xs ρ h vs) (hc:q2n h xs=some (al,ids)) (hC:AC P Tb f al r) (hz:ids=[]\/Nz r) {K:Value->World->Prop}
  (hK:∀ v w',Sat D0 w0 s h ρ e w'->Rd w' (dm D0 ρ h) r ρ h v->K v w'):q0G P f=true/\Calls P f vs.toArray w λx w'=>match x with | .returned v=>K v w' | _=>False:=by
 refine ⟨hC.1,?_⟩;have ha:=q5f S hc hx;have hFr:Fr (dm D0 ρ h) w:=λk hk=>⟨hF k (xB S.ext.size hk),λi b hi hr=>by have:=(S.own i b k hi hr).2.lt; omega⟩
 rcases hz with rfl | hz
 .have ha':=ha.sub (D':=dm D0 ρ h) λk _ hk=>hk.elim (λh=>h) λ⟨i,hi,_⟩=>by cases hi
  refine (hC.2 _ w _ hT hFr ha').mono λx w' hx=>?_;obtain ⟨v,rfl,hx1,hr⟩:=hx;exact hK v w' (S.extend hx1) hr.cl
 .have hD0:∀ k,w.heap.size<=k->D0 k:=λk hk=>hF k (xB S.ext.size hk);have ha':=ha.sub (D':=λk=>dm D0 ρ h k\/∃ i b,h i=some b/\ρ i=some k) λk hk hq=>by
   rcases hq with hq | ⟨i,hi,hr⟩
   .exact .inl hq
   .by_cases hh:∃ i b,h i=some b/\ρ i=some k
    .exact .inr hh
    .cases hb:h i with
     | none =>
      exfalso
      obtain ⟨b,hb'⟩:=q4w hc i hi;rw [hb] at hb'; cases hb'
     | some b=>exact .inr ⟨i,b,hb,hr⟩
  have hFr':Fr (λk=>dm D0 ρ h k\/∃ i b,h i=some b/\ρ i=some k) w:=λk hk=>.inl (hFr k hk);refine (hC.2 _ w _ hT hFr' ha').mono λx w' hx=>?_;obtain ⟨v,rfl,hx1,hr⟩:=hx;refine hK v w' (S.extend hx1) ?_;have:=hz w' _ (λk=>∃ i b,h i=some b/\ρ i=some k) v (λg ⟨i,b,hi,hr⟩=>by
   obtain ⟨cs,c1,c2,_⟩:=(S.own i b g hi hr).2;exact ⟨cs,b.T,c1.ext hx1,c2⟩) hr
  exact (this.sub λk _ hk=>hk.1.elim (λh=>h) λh=>absurd h hk.2).cl
def Sat.call [NL] {Tb:World->Prop} (S:Sat D0 w0 s h ρ e w) (hT:Tb w) (hF:Fr D0 w0.w) {f:FuncId} {args:List Operand} {al:List PV} {ids:List Nat} {r:PV} (hc:q2n h (args.map (pe s))=some (al,ids)) (hC:AC P Tb f al r) (hz:ids=[]\/Nz r) {K:Value->World->Prop}
  (hK:∀ v w',Sat D0 w0 s h ρ e w'->Rd w' (dm D0 ρ h) r ρ h v->K v w'):q0G P f=true/\Calls P f (args.map (ev e)).toArray w λx w'=>match x with | .returned v=>K v w' | _=>False :=
 S.callv hT hF (q4V (f:=pe s) (g:=ev e) S.pex args) hc hC hz hK
def Sat.store [NL] (S:Sat D0 w0 s h ρ e w) {t id i j:Nat} {a v:Operand} {b:Bk} {k:Kd} {u u':PV} (ha:pe s a=.pt id i j) (hi:h id=some b) (hst:b.st=false) (hk:q0c P t=some k) (hs:q02 P t=some (ksz k)) (hf:q7T k (pe s v)) (hu:b.xs[i]?=some u) (hsu:stU b.k k j u (pe s v)=some u')
  {K:World->Prop} (hK:∀ w',Sat D0 w0 s (q0Q h id { b with xs:=b.xs.set i u' }) ρ e w'->K w'):∃ p,ev e a=.pointer (some p)/\q02 P t=some (ev e v).cells.size/\qke w p 0 (ev e v).cells.toList/\K (stN w p 0 (ev e v).cells.toList):=by
 have hra:=S.pex a;rw [ha] at hra;unfold Rd at hra;obtain ⟨b',g,g1,g2,g3,g4⟩:=hra;rw [hi] at g1;cases g1;have hy:=S.pex v;have hfy:=q9g hf hy;obtain ⟨_,cs,c1,c2,c3⟩:=S.own id b g hi g2;obtain ⟨vs,v1,v2,v3⟩:=c3 hst;have hcs:∀ v ∈ vs,v.cells.size=ksz b.k:=λv hv=>(v3 v hv).size;have hvl:=v2.len;obtain ⟨o,ho,hor⟩:=v2.get hu;have hfo:=v3 o (zG ho);have hil:i < vs.length:=ω
 have key:∃ z,Rd w (dm D0 ρ h) u' ρ h z/\q28 b.k z/\j+(ev e v).cells.toList.length<=ksz b.k/\z.cells.toList=o.cells.toList.take j ++ (ev e v).cells.toList ++ o.cells.toList.drop (j+(ev e v).cells.toList.length):=by
  rcases qsS hsu with ⟨rfl,rfl,rfl⟩ | ⟨n,l,hbk,rfl,rfl,hjl,rfl⟩ | ⟨n,m,l,r,hbk,rfl,rfl,hx,hrm,hjl,rfl⟩
  .refine ⟨ev e v,hy,hfy,by rw [zE,hfy.size]; omega,?_⟩;rw [List.drop_of_length_le (by rw [zE,hfo.size,zE,hfy.size]; omega)];simp
  .unfold Rd at hor;obtain ⟨us,rfl,r1⟩:=hor;rw [hbk] at hfo;have hul:=r1.len;have hn:us.length=n:=by have:=hfo.size; simpa [Value.cells,ksz] using this
   refine ⟨.agg ⟨us.set j (ev e v)⟩,by unfold Rd; exact ⟨_,rfl,r1.set hy j⟩,?_,?_,?_⟩
   .rw [hbk];refine ⟨_,rfl,by simp [hn],λx hx=>?_⟩;simp only at hx
    rcases yJ hx with hx | hx
    .exact hfo.one x (by simpa [Value.cells] using hx)
    .rw [hx]; exact hfy.2
   .rw [hfy.1,hbk]; simp [ksz]; omega
   .rw [hfy.1];simp only [Value.cells];rw [List.set_eq_take_append_cons_drop,if_pos ω];simp
  .unfold Rd at hor;obtain ⟨us,rfl,r1⟩:=hor;rw [hx] at hy;unfold Rd at hy;obtain ⟨rs,hv,r2⟩:=hy;rw [hbk] at hfo;have hul:=r1.len;have hrl:=r2.len;have hn:us.length=n:=by have:=hfo.size; simpa [Value.cells,ksz] using this
   rw [hv] at hfy ⊢;refine ⟨.agg ⟨us.take j ++ rs ++ us.drop (j+m)⟩,by unfold Rd; exact ⟨_,rfl,((r1.take j).app r2).app (r1.drop (j+m))⟩,?_,?_,?_⟩
   .rw [hbk];refine ⟨_,rfl,by simp; omega,λx hx=>?_⟩;simp only [zR] at hx
    rcases hx with (hx | hx) | hx
    .exact hfo.one x (by simpa [Value.cells] using zM hx)
    .exact hfy.one x (by simpa [Value.cells] using hx)
    .exact hfo.one x (by simpa [Value.cells] using zL hx)
   .rw [hbk]; simp [Value.cells,ksz]; omega
   .simp only [Value.cells];rw [hrl,hrm]
 obtain ⟨z,z1,z2,z3,z4⟩:=key;have hsz:(ev e v).cells.size=ksz k:=hfy.size;have hfl:=q0q hcs;have hlt:i*ksz b.k+ksz b.k<=vs.length*ksz b.k:=by
  have:=vX (ksz b.k) (show i+1<=vs.length by omega);rw [yW] at this; exact this
 have hle:vs.length*ksz b.k<=cs.size:=by
  have:=congrArg List.length v1;rw [yH,hfl,zE,<- hvl] at this;omega
 refine ⟨_,g4,by rw [hsz]; exact hs,?_,?_⟩
 .have hgen:∀ (l:List Value) (m:Nat),i*ksz b.k+j+m+l.length<=cs.size->(∀ u ∈ l,u.oneCell'=true)->qke w ⟨g,i*ksz b.k+j,none⟩ m l:=by
   intro l
   induction l with
   | nil=>intro _ _ _; trivial
   | cons x l ih =>
    intro m hm h1;rw [zK] at hm;refine ⟨?_,?_,h1 x zV,ih (m+1) Oq λu hu=>h1 u (zN _ hu)⟩
    .rw [q1v,c1.cell,vO ω]; rfl
    .rw [q1v]; exact c1.frozen _
  exact hgen _ 0 Oq λu hu=>(hfy.one u hu).1
 .refine hK _ ?_;have hgen:∀ (l:List Value) (m:Nat) (w:World) (cs:Array Value),Blk w g b.T cs->i*ksz b.k+j+m+l.length<=cs.size->∃ cs',Blk (stN w ⟨g,i*ksz b.k+j,none⟩ m l) g b.T cs'/\cs'.size=cs.size/\∀ n:Nat,cs'[n]?=if i*ksz b.k+j+m<=n/\n < i*ksz b.k+j+m+l.length then l[n-(i*ksz b.k+j+m)]? else cs[n]?:=by
   intro l;generalize i*ksz b.k+j=q
   induction l with
   | nil=>intro m w cs hb _; exact ⟨cs,hb,rfl,λn=>by rw [if_neg σ]⟩
   | cons x l ih =>
    intro m w cs hb hm;rw [zK] at hm;have h5:=hb.set (q+m) x;obtain ⟨cs',q1,q2,q3⟩:=ih (m+1) _ _ h5 (by rw [z8]; omega);refine ⟨cs',by rw [stN,q1v]; exact q1,by rw [q2,z8],λn=>?_⟩;rw [q3 n,yB,zK]
    by_cases c1:q+(m+1)<=n/\n < q+(m+1)+l.length
    .rw [if_pos c1,if_pos ω,show n-(q+m)=(n-(q+(m+1)))+1 by omega,z9]
    .rw [if_neg c1]
     by_cases c2:q+m=n
     .subst c2;rw [if_pos rfl,if_pos ω,if_pos ω,Nat.sub_self]
      rfl
     .rw [if_neg c2,if_neg ω]
  obtain ⟨cs',q1,q2,q3⟩:=hgen (ev e v).cells.toList 0 w cs c1 (by rw [zE,hsz]; rw [zE,hsz] at z3; omega);simp only [yN] at q3;have hkp:Kp (λk=>k≠g) w (stN w ⟨g,i*ksz b.k+j,none⟩ 0 (ev e v).cells.toList):=qkf _ _ _ λ_ h=>h rfl;have hoc:∀ m,m < ksz b.k->o.cells.toList[m]?=(q09 vs)[i*ksz b.k+m]?:=λm hm=>by rw [q4q hcs ho hm,zI]
  have hol:o.cells.toList.length=ksz b.k:=by rw [zE,hfo.size]
  have hzl:z.cells.toList.length=ksz b.k:=by rw [zE,z2.size]
  have hzc:∀ m,m < ksz b.k->z.cells.toList[m]?=if j<=m/\m < j+(ev e v).cells.toList.length then (ev e v).cells.toList[m-j]? else (q09 vs)[i*ksz b.k+m]?:=λm hm=>by
   rw [z4,vV,vR];have e1:(o.cells.toList.take j).length=j:=by rw [yH]; omega
   rw [e1]
   by_cases m1:m < j
   .rw [if_pos m1,if_neg ω,zH,if_pos m1,hoc m hm]
   .rw [if_neg m1,vR]
    by_cases m2:m-j < (ev e v).cells.toList.length
    .rw [if_pos m2,if_pos ω]
    .rw [if_neg m2,if_neg ω,zO,<- hoc m hm]
     congr 1
     omega
  have hflat:cs'.toList.take (vs.length*ksz b.k)=q09 (vs.set i z):=by
   rw [qjL hcs z2.size hil];have hfv:∀ m,m < vs.length*ksz b.k->(q09 vs)[m]?=cs[m]?:=λm hm=>by
    rw [<- v1,hvl.symm,zH,if_pos hm,zI]
   apply yE
   intro m;have e2:(i+1)*ksz b.k=i*ksz b.k+ksz b.k:=yW _ _;have e3:((q09 vs).take (i*ksz b.k)).length=i*ksz b.k:=by rw [yH,hfl]; omega
   rw [zH,zI,q3 m,vV,vR,e3,e2]
   by_cases m0:m < i*ksz b.k
   .rw [if_pos ω,if_neg ω,if_pos m0,zH,if_pos m0,hfv m ω]
   .rw [if_neg m0,vR,hzl]
    by_cases m1:m-i*ksz b.k < ksz b.k
    .rw [if_pos m1,hzc _ m1,if_pos ω]
     by_cases m2:i*ksz b.k+j<=m/\m < i*ksz b.k+j+(ev e v).cells.toList.length
     .rw [if_pos m2,if_pos ω]
      congr 1
      omega
     .rw [if_neg m2,if_neg ω,show i*ksz b.k+(m-i*ksz b.k)=m by omega,hfv m ω]
    .rw [if_neg m1,zO,show i*ksz b.k+ksz b.k+(m-i*ksz b.k-ksz b.k)=m by omega]
     by_cases m2:m < vs.length*ksz b.k
     .rw [if_pos m2,if_neg ω,hfv m m2]
     .rw [if_neg m2,vQ ω]
  have hnl:∀ x ∈ cs'.toList,q4c x=true:=λx hx=>by
   obtain ⟨m,hm⟩:=xH hx;rw [zI,q3 m] at hm
   split at hm
   .exact (hfy.one x (zG hm)).2
   .exact c2 x (yU.2 (Array.mem_of_getElem? hm))
  obtain ⟨S1,_,_⟩:=S.write (b':={ b with xs:=b.xs.set i u' }) hi g2 hst hkp c1 q2 q1 hnl rfl rfl hst σ (vs:=vs.set i z) (by simp only [List.length_set]; rw [<- hvl]; exact hflat) (v2.set z1 i) (λx hx=>by
   rcases yJ hx with hx | hx
   .exact v3 x hx
   .rw [hx]; exact z2)
  exact S1
end
section
variable {w w':World} {w0:Base} {D D0:Nat->Prop} {ρ:Nat->Option Nat} {h:Hp} {s:Nat->PV} {e:Env} {P:Program}
def Sat.stale [NL] (S:Sat D0 w0 s h ρ e w) {id:Nat} {b:Bk} (hi:h id=some b):Sat D0 w0 s (q0Q h id { b with st:=true }) ρ e w:=by
 have hc:Cpt w w ρ h ρ (q0Q h id { b with st:=true }):=λi c hc=>⟨rfl,by
  by_cases he:i=id
  .subst he; rw [hi] at hc; cases hc;exact ⟨_,q0I,rfl,zP _⟩
  .exact ⟨c,by rw [q0A he]; exact hc,rfl,zP _⟩,λg m _ hb=>hb⟩
 have hdd:∀ k,dm D0 ρ h k->dm D0 ρ (q0Q h id { b with st:=true }) k:=λk hq=>⟨hq.1,λi c hc=>by
  by_cases he:i=id
  .subst he; exact hq.2 i b hi
  .rw [q0A he] at hc; exact hq.2 i c hc⟩
 have hk:Kp (dm D0 ρ h) w w:=Kp.refl _ _;refine ⟨λi j c c' g' ci cj hs ri rj=>?_,λi c g' ci ri=>?_,λi c ci ri=>?_,λt=>Rd.mv hk (λk _=>hdd k) _ _ _ _ _ _ hc (S.rd t),S.ext,S.fr,S.imp,S.pin⟩
 .by_cases ej:j=id
  .subst ej; rw [q0I] at cj; cases cj; cases hs
  .rw [q0A ej] at cj
   by_cases ei:i=id
   .subst ei; rw [q0I] at ci; cases ci; exact .inr rfl
   .rw [q0A ei] at ci;exact S.inj i j c c' g' ci cj hs ri rj
 .by_cases ei:i=id
  .subst ei;rw [q0I] at ci; cases ci;obtain ⟨a1,c1,c2,c3,_⟩:=S.own i b g' hi ri;exact ⟨a1,c1,c2,c3,λhf=>by cases hf⟩
  .rw [q0A ei] at ci;obtain ⟨a1,a2⟩:=S.own i c g' ci ri;exact ⟨a1,a2.mv rfl hk (λk _=>hdd k) hc⟩
 .by_cases ei:i=id
  .subst ei; rw [q0I] at ci; cases ci; exact S.vir i b hi ri
  .rw [q0A ei] at ci; exact S.vir i c ci ri
def Sat.dup [NL] (S:Sat D0 w0 s h ρ e w) {id d:Nat} {b:Bk} (hi:h id=some b) (hst:b.st=false) (hd:h d=none) (hd5:d < 5000) :
  Sat D0 w0 s (q0Q (q0Q h id { b with st:=true }) d b) (upo ρ d (ρ id)) e w/\(∀ k,dm D0 ρ h k->dm D0 (upo ρ d (ρ id)) (q0Q (q0Q h id { b with st:=true }) d b) k)/\Cpt w w ρ h (upo ρ d (ρ id)) (q0Q (q0Q h id { b with st:=true }) d b):=by
 have hne:id≠d:=λe=>by subst e; rw [hd] at hi; cases hi
 have S1:=S.stale hi;have hold:∀ i c,q0Q h id { b with st:=true } i=some c->i≠d:=λi c hc e=>by
  subst e;rw [q0A (λe=>hne e.symm),hd] at hc; cases hc
 have hget:∀ i c,q0Q (q0Q h id { b with st:=true }) d b i=some c->(i=d/\c=b)\/(i≠d/\q0Q h id { b with st:=true } i=some c):=λi c hc=>by
  by_cases he:i=d
  .subst he; rw [q0I] at hc; cases hc; exact .inl ⟨rfl,rfl⟩
  .rw [q0A he] at hc; exact .inr ⟨he,hc⟩
 have hc:Cpt w w ρ h (upo ρ d (ρ id)) (q0Q (q0Q h id { b with st:=true }) d b):=λi c hc=>by
  have hid:i≠d:=λe=>by subst e; rw [hd] at hc; cases hc
  refine ⟨q0w hid,?_,λg m _ hb=>hb⟩;rw [q0A hid]
  by_cases he:i=id
  .subst he; rw [hi] at hc; cases hc;exact ⟨_,q0I,rfl,zP _⟩
  .exact ⟨c,by rw [q0A he]; exact hc,rfl,zP _⟩
 have hdd:∀ k,dm D0 ρ h k->dm D0 (upo ρ d (ρ id)) (q0Q (q0Q h id { b with st:=true }) d b) k:=λk hq=>⟨hq.1,λi c hc=>by
  rcases hget i c hc with ⟨rfl,rfl⟩ | ⟨h1,h2⟩
  .rw [q1O]; exact hq.2 id c hi
  .rw [q0w h1]
   by_cases he:i=id
   .subst he; exact hq.2 i b hi
   .rw [q0A he] at h2; exact hq.2 i c h2⟩
 have hk:Kp (dm D0 ρ h) w w:=Kp.refl _ _;refine ⟨⟨λi j c c' g' ci cj hs ri rj=>?_,λi c g' ci ri=>?_,λi c ci ri=>?_,λt=>Rd.mv hk (λk _=>hdd k) _ _ _ _ _ _ hc (S.rd t),S.ext,S.fr,S.imp,S.pino hd5⟩,hdd,hc⟩
 .rcases hget i c ci with ⟨rfl,rfl⟩ | ⟨i1,i2⟩ <;> rcases hget j c' cj with ⟨rfl,rfl⟩ | ⟨j1,j2⟩
  .exact .inl rfl
  .rw [q1O] at ri; rw [q0w j1] at rj
   by_cases ej:j=id
   .subst ej; rw [q0I] at j2; cases j2; cases hs
   .rw [q0A ej] at j2
    rcases S.inj j id c' c g' j2 hi hst rj ri with h | h
    .exact absurd h ej
    .rw [hs] at h; cases h
  .rw [q1O] at rj; rw [q0w i1] at ri
   by_cases ei:i=id
   .subst ei; rw [q0I] at i2; cases i2; exact .inr rfl
   .rw [q0A ei] at i2
    rcases S.inj i id c c' g' i2 hi hst ri rj with h | h
    .exact absurd h ei
    .exact .inr h
  .rw [q0w i1] at ri; rw [q0w j1] at rj;exact S1.inj i j c c' g' i2 j2 hs ri rj
 .rcases hget i c ci with ⟨rfl,rfl⟩ | ⟨i1,i2⟩
  .rw [q1O] at ri;obtain ⟨a1,a2⟩:=S.own id c g' hi ri;exact ⟨a1,a2.mv rfl hk (λk _=>hdd k) hc⟩
  .rw [q0w i1] at ri
   by_cases ei:i=id
   .subst ei;rw [q0I] at i2; cases i2;obtain ⟨a1,c1,c2,c3,_⟩:=S.own i b g' hi ri;exact ⟨a1,c1,c2,c3,λhf=>by cases hf⟩
   .rw [q0A ei] at i2;obtain ⟨a1,a2⟩:=S.own i c g' i2 ri;exact ⟨a1,a2.mv rfl hk (λk _=>hdd k) hc⟩
 .rcases hget i c ci with ⟨rfl,rfl⟩ | ⟨i1,i2⟩
  .rw [q1O] at ri; exact S.vir id c hi ri
  .rw [q0w i1] at ri
   by_cases ei:i=id
   .subst ei; rw [q0I] at i2; cases i2; exact S.vir i b hi ri
   .rw [q0A ei] at i2; exact S.vir i c i2 ri
def q55 {i d:Nat} {b c:Bk} (hne:i≠d):q0Q (q0Q h d b) i c=q0Q (q0Q h i c) d b:=by
 funext j
 unfold q0Q
 by_cases h1:j=i
 .subst h1; rw [if_pos rfl,if_neg hne,if_pos rfl]
 .by_cases h2:j=d
  .subst h2; simp [h1]
  .simp [h1,h2]
def qfF {d:Nat} {b c:Bk}:q0Q (q0Q h d b) d c=q0Q h d c:=by
 funext j
 unfold q0Q
 by_cases h1:j=d <;> simp [h1]
def q5k {T ty E:Nat} {i:TypeInfo} (hu:P.underlying T=some (.slice E)) (hi:P.info? E=some i) {A A2:Option Addr} {n c c2:Nat} (hcap:n<=c):(Builtin.append_ #[T,T] ty #[.slice A n c,.slice A2 0 c2]).run P w=.ok (.slice A n c) w:=by
 cases A2 with
 | none=>cases A <;> simp [Builtin.append_,run_underlying hu,Go.sizeOf,typeInfo,hi,Builtin.lenOf,Builtin.firstCells,hcap,storeCells]
 | some ad=>cases A <;> simp [Builtin.append_,run_underlying hu,Go.sizeOf,typeInfo,hi,Builtin.lenOf,Builtin.firstCells,loadCells,loadCellsFrom,hcap,storeCells]
def qc2 {T E sz bytes:Nat} {z:Array Value} (he:q05 P T=some (E,sz,bytes,z)):∃ (i:TypeInfo) (zv:Value),P.underlying T=some (.slice E)/\P.info? E=some i/\i.zero=some zv/\i.size=sz/\i.bytes=bytes/\zv.cells=z:=by
 unfold q05 at he
 split at he
 case h_2=>cases he
 rename_i e hu;obtain ⟨i,hi,hx⟩:=zA.1 he;obtain ⟨zv,hz,hx⟩:=zB.1 hx;simp only [Prod.mk.injEq] at hx;obtain ⟨rfl,rfl,rfl,rfl⟩:=hx;exact ⟨i,zv,hu,hi,hz,rfl,rfl,rfl⟩
def qm3 [NL] {z:Array Value} {n:Nat} (hz:∀ u ∈ z.toList,u.oneCell'=true/\q4c u=true):∀ u ∈ (Builtin.zeroCells z n).toList,q4c u=true:=λu hu=>by
 unfold Builtin.zeroCells at hu;rw [y7] at hu;obtain ⟨i,hi,rfl⟩:=yY.1 hu;simp at hi;have hp:0 < z.size:=by
  rcases vY z.size with h | h
  .rw [h] at hi; omega
  .exact h
 have hm:=Nat.mod_lt i hp;have:z[i % z.size]! = z[i % z.size]:=by simp [hm]
 rw [this];exact (hz _ σ).2
def Sat.append [NL] (S:Sat D0 w0 s h ρ e w) {d T ty E bytes:Nat} {k:Kd} {sx xx:Operand} {xs ys:List PV} {i0:Option Nat} {ids:List Nat} (hd:h d=none) (hd5:d < 5000) (hk:elK P T=some (E,k,bytes)) (hs:apS h E k (pe s sx)=some (xs,i0)) (hx:apX h k (pe s xx)=some (ys,ids)) (hlen:(xs.length+ys.length)*(bytes+1)<=140737488355328) :
  ∃ v w',(Builtin.append_ #[T,T] ty #[ev e sx,ev e xx]).run P w=.ok v w'/\∃ ρ',Sat D0 w0 (pu s d (.ow d k 0 (xs.length+ys.length))) (q0Q (stl h i0) d ⟨E,k,xs ++ ys,false⟩) ρ' (upd e d v) w':=by
 obtain ⟨z,he,hsz,hzs,_,hz1⟩:=qbR hk;obtain ⟨i,zv,hu,hi,hz,hsi,hby,hzc⟩:=qc2 he;have hmb:xs.length+ys.length<=maxLen:=by
  have:xs.length+ys.length<=(xs.length+ys.length)*(bytes+1):=y8 _ Oq;simp only [maxLen]; omega
 have hbb:(xs.length+ys.length)*bytes<=140737488355328:=xB (Nat.mul_le_mul_left _ Oq) hlen;have hmb':xs.length+ys.length<=9223372036854775807:=by simp only [maxLen] at hmb; omega
 have hD1:=Kp.refl (λ_=>True) w;have hX:∃ A2 c2 us,ev e xx=.slice A2 ys.length c2/\Row w (λ_=>True) (ksz k) A2 ys.length c2 (q09 us)/\RdL w (dm D0 ρ h) ys ρ h us/\∀ v ∈ us,q28 k v:=by
  have hr:=S.pex xx;unfold apX at hx
  split at hx
  .rename_i hxx;cases hx;rw [hxx] at hr;unfold Rd at hr;exact ⟨none,0,[],hr,Row.nil _ _ _,by unfold RdL; rfl,λv hv=>by cases hv⟩
  .rename_i k' l hxx
   split at hx
   .rename_i hkk;cases hx;rw [hxx,hkk] at hr;unfold Rd at hr;obtain ⟨A,n,c,vs,q1,q2,q3,q4,q5⟩:=hr;rw [<- q3] at q1 q2;exact ⟨A,c,vs,q1,q2.sub λ_ _ _=>trivial,q4.cl,q5⟩
   .cases hx
  .rename_i id k' off n hxx;obtain ⟨b,hb,hx⟩:=zA.1 hx
   split at hx
   .rename_i hc;obtain ⟨c1,c2,c3⟩:=hc;cases hx;subst c3;subst c2;rw [hxx] at hr;obtain ⟨A,c,vs,q1,q2,q3,q4⟩:=S.row hb c1 hr;have hn:((b.xs.drop off).take n).length=n:=by
     unfold Rd at hr;obtain ⟨b',_,_,r1,_,_,_,_,r5,_⟩:=hr;rw [hb] at r1; cases r1;simp; omega
    rw [hn];exact ⟨A,c,vs,q1,q2.sub λ_ _ _=>trivial,q3,q4⟩
   .cases hx
  .cases hx
 obtain ⟨A2,c2,us,hxv,hrow,hus,hfu⟩:=hX;have hul:(q09 us).length=ys.length*ksz k:=hrow.len;have huone:∀ u ∈ q09 us,u.oneCell'=true/\q4c u=true:=λu hu=>by
  unfold q09 at hu;obtain ⟨v,hv,hu⟩:=yR.1 hu;exact (hfu v hv).one u hu
 rw [hxv];have fresh:∀ {xv:List Value} {c:Nat},RdL w (dm D0 ρ h) xs ρ h xv->(∀ v ∈ xv,q28 k v)->xs.length+ys.length<=c->c<=maxLen->∀ w',Ext w w'->Blk w' w.heap.size E ((q09 xv).toArray ++ (q09 us).toArray ++ Builtin.zeroCells z (c-(xs.length+ys.length))) ->
   ∃ ρ',Sat D0 w0 (pu s d (.ow d k 0 (xs.length+ys.length))) (q0Q h d ⟨E,k,xs ++ ys,false⟩) ρ' (upd e d (.slice (some ⟨w.heap.size,0,none⟩) (xs.length+ys.length) c)) w':=λ{xv c} hxv hfx h1 h2 w' hx hb=>by
  have hcs:∀ v ∈ xv,v.cells.size=ksz k:=λv hv=>(hfx v hv).size;have hxl:(q09 xv).length=xs.length*ksz k:=by rw [q0q hcs,hxv.len]
  refine S.newS (b:=⟨E,k,xs ++ ys,false⟩) (n:=xs.length+ys.length) hd hd5 hx hb (λu hu=>?_) rfl σ h1 h2 ?_ (vs:=xv ++ us) ?_ (hxv.app hus) (λv hv=>by
   rcases zR.1 hv with hv | hv
   .exact hfx v hv
   .exact hfu v hv)
  .simp only [Array.toList_append,zR] at hu
   rcases hu with (hu | hu) | hu
   .have hu:u ∈ q09 xv:=hu;unfold q09 at hu;obtain ⟨v,hv,hu⟩:=yR.1 hu;exact ((hfx v hv).one u hu).2
   .exact (huone u (by simpa using hu)).2
   .exact qm3 hz1 u hu
  .simp only [Array.size_append,vW,hxl,hul,size_zeroCells,hzs,<- yF]
   congr 1
   omega
  .have:((q09 xv).toArray ++ (q09 us).toArray ++ Builtin.zeroCells z (c-(xs.length+ys.length))).toList=q09 (xv ++ us) ++ (Builtin.zeroCells z (c-(xs.length+ys.length))).toList:=by simp [q3n]
   rw [this];have hl:(xs.length+ys.length)*ksz k=(q09 (xv ++ us)).length:=by rw [q3n,z6,hxl,hul,yF]
   rw [hl];exact List.take_left
 have hgc:∀ old,old < xs.length+ys.length->xs.length+ys.length<=grownCap w (xs.length+ys.length) old E/\grownCap w (xs.length+ys.length) old E<=maxLen:=λold ho=>⟨grownCap_ge w _ old E,grownCap_le_maxLen w _ old E hmb⟩;have hdrew:∀ (cs:Array Value),Ext w (w.drew.alloc (.cells cs E)):=λcs=>(Kp.drew w _).trans (Kp.alloc _ _);have nilc:xs=[]->∃ v w',(Builtin.append_ #[T,T] ty #[.slice none 0 0,.slice A2 ys.length c2]).run P w=.ok v w'/\∃ ρ',Sat D0 w0 (pu s d (.ow d k 0 (xs.length+ys.length))) (q0Q h d ⟨E,k,xs ++ ys,false⟩) ρ' (upd e d v) w':=λh0=>by
  subst h0;simp only [yC,zU,List.nil_append] at fresh hgc ⊢
  by_cases hm:ys.length=0
  .rw [hm];refine ⟨_,_,q5k hu hi (zP _),?_⟩;have hy:ys=[]:=zS hm;subst hy;obtain ⟨S1,_,_⟩:=S.virt (b:=⟨E,k,[],false⟩) hd hd5 rfl;exact ⟨_,S1.put d (by unfold Rd; exact ⟨_,none,0,q0I,rfl,rfl,zP _,by simp [maxLen],zP _,.inl rfl,λ_=>.inl ⟨rfl,rfl⟩⟩)⟩
  .obtain ⟨ad,rfl,_,hc⟩:=hrow.at_ (by rw [hul]; exact vZ ω hsz);have hr:=run_append_nil (P:=P) w T ty E i zv hu hi hz ad ys.length c2 (q09 us) (by rw [hsi]; exact hul) hc ω (by simp only [yC,zU] at hmb'; omega) (by rw [hby]; simp only [yC,zU] at hbb; omega);refine ⟨_,_,hr,?_⟩;have hg:=hgc 0 Oq;have:=fresh (xv:=[]) (c:=grownCap w ys.length 0 E) (by unfold RdL; rfl) (λv hv=>by cases hv) hg.1 hg.2 (w.drew.alloc (.cells ((q09 us).toArray ++ Builtin.zeroCells z (grownCap w ys.length 0 E-ys.length)) E)) (hdrew _) (by
    have:=Blk.new w.drew E ((q09 us).toArray ++ Builtin.zeroCells z (grownCap w ys.length 0 E-ys.length));simpa [q09] using this)
   rw [hzc];exact this
 have hr:=S.pex sx;unfold apS at hs
 split at hs
 .rename_i hsx;cases hs;rw [hsx] at hr;unfold Rd at hr;rw [hr];exact nilc rfl
 .rename_i id k' off n hsx;obtain ⟨b,hb,hs⟩:=zA.1 hs
  split at hs
  .rename_i hc;obtain ⟨c1,c2',c3,c4,c5,c6⟩:=hc;cases hs;subst c5;subst c6;rw [hsx,c4] at hr;unfold Rd at hr;obtain ⟨b',A,c,r1,_,r3,r4,r5,_,_,r7⟩:=hr;rw [hb] at r1;cases r1;have hne:id≠d:=λe=>by subst e; rw [hd] at hb; cases hb
   have hbe:b=⟨E,k,b.xs,false⟩:=by cases b; simp_all
   have hstl:stl h (some id)=q0Q h id { b with st:=true }:=by simp only [stl,hb]
   rw [r3,hstl]
   rcases r7 rfl with ⟨rfl,rfl⟩ | ⟨g,g1,rfl,hbz⟩
   .have h0:b.xs.length=0:=ω
    obtain ⟨v,w',q1,ρ',q2⟩:=nilc (zS h0);rw [h0];refine ⟨v,w',q1,ρ',?_⟩;have:=q2.stale (id:=id) (b:=b) (by rw [q0A hne]; exact hb);rw [q55 hne] at this;rw [h0] at this;exact this
   .obtain ⟨_,cs,k1,k2,k3⟩:=S.own id b g hb g1;obtain ⟨xv,x1,x2,x3⟩:=k3 c1;rw [c3] at x1 x3;rw [c2'] at k1;have hcs:∀ v ∈ xv,v.cells.size=ksz k:=λv hv=>(x3 v hv).size;have hxl:(q09 xv).length=b.xs.length*ksz k:=by rw [q0q hcs,x2.len]
    have hcsz:cs.size=c*ksz k:=by
     obtain ⟨cs',T',q1,q2⟩:=hbz;have h5:=k1.symm.trans q1
     injection h5 with h5
     injection h5 with h5 h6
     subst h5;rw [zU] at q2;exact q2
    by_cases hm:ys.length=0
    .have hy:ys=[]:=zS hm;subst hy;refine ⟨_,_,q5k hu hi r4,?_⟩;obtain ⟨S1,_,_⟩:=S.dup hb c1 hd hd5;rw [xD,yC,yN];rw [<- hbe];refine ⟨_,S1.put d ?_⟩;unfold Rd;have hat:AtO w (upo ρ d (ρ id) d) (some ⟨g,0*ksz k,none⟩) (0*ksz k) ((0+c)*ksz k):=⟨g,by rw [q1O]; exact g1,rfl,hbz⟩;exact ⟨b,_,c,q0I,c3,rfl,r4,r5,ω,.inr hat,λ_=>.inr hat⟩
    .obtain ⟨ad,rfl,_,hc⟩:=hrow.at_ (by rw [hul]; exact vZ ω hsz);rw [xC]
     by_cases hroom:b.xs.length+ys.length<=c
     .have hfit:b.xs.length*i.size+(q09 us).length<=cs.size:=by rw [hul,hcsz,hsi,<- yF]; exact vX _ hroom
      have hrun:=run_append_room (P:=P) w T ty E i hu hi g b.xs.length c cs k1 ad ys.length c2 (q09 us) (by rw [hsi]; exact hul) hc (λu hu=>(huone u hu).1) hroom hfit;refine ⟨_,_,hrun,?_⟩;rw [hsi];obtain ⟨S1,hd1,hc1⟩:=S.dup hb c1 hd hd5;have hx1:cs.toList.take (b.xs.length*ksz k)=q09 xv:=x1;have hrow2:Blk (w.setRow g (cs.toList.take (b.xs.length*ksz k) ++ q09 us ++ cs.toList.drop (b.xs.length*ksz k+(q09 us).length)).toArray) g E (cs.toList.take (b.xs.length*ksz k) ++ q09 us ++ cs.toList.drop (b.xs.length*ksz k+(q09 us).length)).toArray:=setRow_heap w g cs _ E _ k1;have hkp:Kp (λk=>k≠g) w (w.setRow g (cs.toList.take (b.xs.length*ksz k) ++ q09 us ++ cs.toList.drop (b.xs.length*ksz k+(q09 us).length)).toArray):=⟨rfl,rfl,rfl,σ,λk _ hk=>setRow_other w g k _ hk⟩;have hle:b.xs.length*ksz k<=cs.size:=by rw [hcsz]; exact vX _ ω
      have hsz2:(cs.toList.take (b.xs.length*ksz k) ++ q09 us ++ cs.toList.drop (b.xs.length*ksz k+(q09 us).length)).toArray.size=cs.size:=by
       rw [hsi] at hfit;simp only [vW,z6,yH,List.length_drop,zE];omega
      obtain ⟨S2,_,_⟩:=S1.write (id:=d) (b:=b) (b':=⟨E,k,b.xs ++ ys,false⟩) q0I (by rw [q1O]; exact g1) c1 hkp (by rw [c2']; exact k1) hsz2 (by rw [c2']; exact hrow2) (λu hu=>by
        simp only [zR] at hu
        rcases hu with (hu | hu) | hu
        .exact k2 u (zM hu)
        .exact (huone u hu).2
        .exact k2 u (zL hu)) c2'.symm c3.symm rfl σ (vs:=xv ++ us) (by
        rw [c3,hx1,q3n];have hl:(b.xs ++ ys).length*ksz k=(q09 xv ++ q09 us).length:=by rw [z6,z6,hxl,hul,yF]
        rw [hl];exact List.take_left) ((RdL.mv (Kp.refl _ _) (λk _=>hd1 k) _ _ _ _ _ _ hc1 x2).app (RdL.mv (Kp.refl _ _) (λk _=>hd1 k) _ _ _ _ _ _ hc1 hus)) (λv hv=>by
        rw [c3]
        rcases zR.1 hv with hv | hv
        .exact x3 v hv
        .exact hfu v hv)
      rw [qfF] at S2;refine ⟨_,S2.put d ?_⟩;unfold Rd;have hat:AtO (w.setRow g (cs.toList.take (b.xs.length*ksz k) ++ q09 us ++ cs.toList.drop (b.xs.length*ksz k+(q09 us).length)).toArray) (upo ρ d (ρ id) d) (some ⟨g,0,none⟩) (0*ksz k) ((0+c)*ksz k):=⟨g,by rw [q1O]; exact g1,by rw [xC],_,E,hrow2,by rw [hsz2,zU]; exact hcsz⟩;exact ⟨_,_,c,q0I,rfl,rfl,hroom,r5,σ,.inr hat,λ_=>.inr hat⟩
     .have holds:∀ j u,(q09 xv)[j]?=some u->w.cell? ((⟨g,0,none⟩:Addr).add j)=some u:=λj u hu=>by
       rw [q1v,zU,k1.cell];rw [<- x1,zH] at hu
       split at hu
       .rw [<- zI]; exact hu
       .cases hu
      have hrun:=run_append_grow (P:=P) w T ty E i zv hu hi hz ⟨g,0,none⟩ b.xs.length c (q09 xv) (by rw [hsi]; exact hxl) holds ad ys.length c2 (q09 us) (by rw [hsi]; exact hul) hc ω ω (growslice_fits ω (by rw [hby]; exact hbb));refine ⟨_,_,hrun,?_⟩;have hg:=hgc c Oq;rw [hzc];obtain ⟨ρ',q⟩:=fresh (xv:=xv) (c:=grownCap w (b.xs.length+ys.length) c E) x2 x3 hg.1 hg.2 (w.drew.alloc (.cells ((q09 xv).toArray ++ (q09 us).toArray ++ Builtin.zeroCells z (grownCap w (b.xs.length+ys.length) c E-(b.xs.length+ys.length))) E)) (hdrew _) (Blk.new w.drew E _);refine ⟨ρ',?_⟩;have:=q.stale (id:=id) (b:=b) (by rw [q0A hne]; exact hb);rw [q55 hne] at this;exact this
  .cases hs
 .cases hs
end
abbrev FP:=List Nat × List Nat
def FnP [NL] (x:PV) (f:FuncId) (ys:List PV):Prop:=∀ w D ρ h v,Rd w D x ρ h v->∃ cap,v=.func (.func f) #[] ⟨cap⟩/\RdL w D ys ρ h cap
def Stp [NL] (P:Program) (Tb:World->Prop) (o:Oper) (s:Nat->PV) (h:Hp) (x:PV) (h':Hp) (fp:FP):Prop :=
 match o.op with
 | .load t a=>∃ r,ldP h (q0c P t) (pe s a)=some r/\x=r.1/\fp=(r.2,[])/\h'=h
 | .alloc t=>∃ d b,o.dst=some d/\(h d=none/\d < 5000)/\alB P t=some b/\x=.pt d 0 0/\h'=q0Q h d b/\fp=([],[d])
 | .box t v=>∃ d k,o.dst=some d/\(h d=none/\d < 5000)/\q0c P t=some k/\q7T k (pe s v)/\x=.pt d 0 0/\h'=q0Q h d ⟨t,k,[pe s v],false⟩/\fp=([],[d])
 | .buildSlice t len ps=>∃ d E k bytes,o.dst=some d/\(h d=none/\d < 5000)/\elK P t=some (E,k,bytes)/\ps.toList.map (·.1)=List.range len/\len*ksz k<=16777216/\(∀ p ∈ ps.toList,q7T k (pe s p.2))/\x=.ow d k 0 len/\h'=q0Q h d ⟨E,k,ps.toList.map λp=>pe s p.2,false⟩/\fp=([],[d])
 | .makeSlice t l c=>∃ d E k bytes z kl kc,∃ n m:Nat,o.dst=some d/\(h d=none/\d < 5000)/\elZ P t=some (E,k,bytes,z)/\pe s l=.vl (.int kl n)/\pe s c=.vl (.int kc m)/\n<=m/\bytes*m<=281474976710656/\m<=maxLen/\x=.ow d k 0 n/\h'=q0Q h d ⟨E,k,List.replicate n z,false⟩/\fp=([],[d])
 | .store t a v=>∃ id i j b k u u',pe s a=.pt id i j/\h id=some b/\b.st=false/\q0c P t=some k/\q02 P t=some (ksz k)/\q7T k (pe s v)/\b.xs[i]?=some u/\stU b.k k j u (pe s v)=some u'/\x=.vl undef/\h'=q0Q h id { b with xs:=b.xs.set i u' }/\fp=([id],[id])
 | .call c=>match c.callee with
  | .builtin .append=>∃ sx xx T d E k bytes xs ys i0 ids,c.args=#[sx,xx]/\c.argTypes=#[T,T]/\o.dst=some d/\(h d=none/\d < 5000)/\elK P T=some (E,k,bytes)/\apS h E k (pe s sx)=some (xs,i0)/\apX h k (pe s xx)=some (ys,ids)/\(xs.length+ys.length)*(bytes+1)<=140737488355328/\x=.ow d k 0 (xs.length+ys.length)/\h'=q0Q (stl h i0) d ⟨E,k,xs ++ ys,false⟩/\fp=(ids,d :: i0.toList)
  | .value (.func f)=>∃ al ids,q2n h (c.args.toList.map (pe s))=some (al,ids)/\AC P Tb f al x/\(ids=[]\/Nz x)/\h'=h/\fp=(ids,[])
  | .value (.tmp t)=>∃ f ys al ids,FnP (s t) f ys/\q2n h (c.args.toList.map (pe s) ++ ys)=some (al,ids)/\AC P Tb f al x/\(ids=[]\/Nz x)/\h'=h/\fp=(ids,[])
  | _=>q45 P o.op (pe s)=some x/\h'=h/\fp=([],[])
 | op=>q45 P op (pe s)=some x/\h'=h/\fp=([],[])
def q2j (ops:List Oper) (s:Nat->PV) (j:Nat) (b:Bool):Option Bool:=match (ops[j]?).bind (·.dst) with | some d=>(match s d with | .vl (.bool c)=>some c | .vl (.tuple _)=>some (!b) | _=>none) | none=>none
def q7f [NL] (P:Program) (Tb:World->Prop) (ops:List Oper) (o:Oper) (s:Nat->PV) (h:Hp) (x:PV) (h':Hp) (fp:FP):Prop :=
 match o.guard with
 | none=>Stp P Tb o s h x h' fp
 | some (j,b)=>∃ c,q2j ops s j b=some c/\if c=b then Stp P Tb o s h x h' fp else x=.vl undef/\h'=h/\fp=([],[])
section
variable {w w':World} {w0:Base} {D D0:Nat->Prop} {ρ:Nat->Option Nat} {h h':Hp} {s:Nat->PV} {e:Env} {P:Program} {Tb:World->Prop} {x:PV} {fp:FP}
def qhH {dst:Option Nat} {f t:Nat} {cap:List Value} {args:Array Operand} {tys:Array TypeId} {ty:TypeId} {pos:String} {af:Array Edge} {gd:Option (Nat × Bool)} {K:Value->World->Prop} (hv:e t=.func (.func f) #[] ⟨cap⟩)
  (h:q0G P f=true/\Calls P f (args.toList.map (ev e) ++ cap).toArray w λx w'=>match x with | .returned v=>K v w' | _=>False):wo P ⟨dst,.call ⟨.value (.tmp t),args,tys⟩,ty,pos,af,gd⟩ e w K:=by
 obtain ⟨hf,h⟩:=h;have ha:(args.toList.map (ev e) ++ cap).toArray=args.map (ev e) ++ (⟨cap⟩:Array Value):=by
  cases args;simp
 rw [ha] at h;have key:(callFunc f (args.map (ev e) ++ (⟨cap⟩:Array Value))).run P w=.ok (.enter f (args.map (ev e) ++ (⟨cap⟩:Array Value))) w:=by
  unfold q0G at hf;cases hfn:P.funcs[f]? with
  | none=>simp [hfn] at hf
  | some fn =>
   simp only [hfn,zX] at hf;obtain ⟨h1,h2⟩:=hf;obtain ⟨b,hb⟩:=Option.isSome_iff_exists.1 h1;simp only [Bool.not_eq_true',beq_eq_false_iff_ne,ne_eq] at h2;simp [callFunc,hfn,hb,h2]
 have key2:(execOp (ev e) ⟨dst,.call ⟨.value (.tmp t),args,tys⟩,ty,pos,af,gd⟩).run P w=.ok (.enter f (args.map (ev e) ++ (⟨cap⟩:Array Value))) w:=by
  have hv':ev e (.tmp t)=.func (.func f) #[] ⟨cap⟩:=hv;simp only [execOp,resolve,Deferred.ofValue,hv',pure_bind,invoke];simp [key]
 show RO P K _
 rw [key2];exact h
def qk0 [NL] (S:Sat D0 w0 s h ρ e w) (hT:Tb w) (hF:Fr D0 w0.w) {o:Oper} (hs:Stp P Tb o s h x h' fp):wo P o e w λv w'=>∃ ρ',Sat D0 w0 (q2w s o.dst x) h' ρ' (E.put e o.dst v) w':=by
 obtain ⟨dst,op,ty,pos,af,gd⟩:=o;have pure:q45 P op (pe s)=some x/\h'=h/\fp=([],[])->wo P ⟨dst,op,ty,pos,af,gd⟩ e w λv w'=>∃ ρ',Sat D0 w0 (q2w s dst x) h' ρ' (E.put e dst v) w':=λ⟨h1,h2,_⟩=>by
  subst h2;exact qng S (o:=⟨dst,op,ty,pos,af,gd⟩) h1 λv hv=>⟨ρ,S.puto dst hv⟩
 unfold Stp at hs;cases op <;> simp only at hs <;> try (exact pure hs)
 case load t a =>
  obtain ⟨r,h1,rfl,_,rfl⟩:=hs;obtain ⟨v,hv,hr⟩:=qek S h1;simp only [wo];rw [hv];exact ⟨ρ,S.puto dst hr⟩
 case alloc t =>
  obtain ⟨d,b,rfl,h1,h2,rfl,rfl,_⟩:=hs;obtain ⟨z,hz,ρ',S'⟩:=qjq S h1.1 h1.2 h2;simp only [wo];rw [hz];exact ⟨ρ',S'⟩
 case box t v =>
  obtain ⟨d,k,rfl,h1,_,h2,rfl,rfl,_⟩:=hs;simp only [wo];exact S.newP (b:=⟨t,k,[pe s v],false⟩) h1.1 h1.2 rfl (S.pex v) (q9g h2 (S.pex v))
 case buildSlice t len ps =>
  obtain ⟨d,E,k,bytes,rfl,h1,h2,h3,h4,h5,rfl,rfl,_⟩:=hs;obtain ⟨cs,hcs,ρ',S'⟩:=bs_ok S h1.1 h1.2 h2 h3 h4 h5;simp only [wo,y7];rw [hcs];exact ⟨ρ',S'⟩
 case makeSlice t l c =>
  obtain ⟨d,E,k,bytes,z,kl,kc,n,m,rfl,h1,h2,h3,h4,h7,h5,h6,rfl,rfl,_⟩:=hs;obtain ⟨z',hz,ρ',S'⟩:=mk_ok S h1.1 h1.2 h2 h7 h6;have hl:=S.pex l;have hc:=S.pex c;rw [h3] at hl;rw [h4] at hc;unfold Rd at hl hc;simp only [wo,hl,hc,hz,q2k];refine ⟨⟨ω,ω,?_,by simp only [maxLen] at h6; omega⟩,ρ',by simp only [y6]; exact S'⟩;have:((bytes*m:Nat):Int)<=281474976710656:=ω
  rwa [Int.natCast_mul] at this
 case store t a v =>
  obtain ⟨id,i,j,b,k,u,u',h1,h2,h3,h4,h5,h6,h7,h8,rfl,rfl,_⟩:=hs;obtain ⟨p,hp,q1,q2,q3⟩:=S.store (K:=λw'=>∃ ρ',Sat D0 w0 (q2w s dst (.vl undef)) (q0Q h id { b with xs:=b.xs.set i u' }) ρ' (E.put e dst undef) w') h1 h2 h3 h4 h5 h6 h7 h8 λw' S'=>⟨ρ,S'.puto dst (by unfold Rd; rfl)⟩;simp only [wo,hp];exact ⟨q1,q2,q3⟩
 case call c =>
  obtain ⟨callee,args,tys⟩:=c;simp only at hs
  split at hs
  .obtain ⟨sx,xx,T,d,E,k,bytes,xs,ys,i0,ids,rfl,rfl,rfl,h1,h2,h3,h4,h5,rfl,rfl,_⟩:=hs;obtain ⟨v,w',hrun,ρ',S'⟩:=S.append (ty:=ty) h1.1 h1.2 h2 h3 h4 h5;rw [q5D];exact qqT hrun ⟨ρ',S'⟩
  .rename_i f;obtain ⟨al,ids,h1,h2,h3,rfl,_⟩:=hs;have:=S.call (K:=λv w'=>∃ ρ',Sat D0 w0 (q2w s dst x) h' ρ' (E.put e dst v) w') hT hF h1 h2 h3 λv w' S' hr=>⟨ρ,S'.puto dst hr⟩;have he:args.map (ev e)=(args.toList.map (ev e)).toArray:=by cases args; simp
   rw [<- he] at this;exact this
  .rename_i t;obtain ⟨f,ys,al,ids,g0,h1,h2,h3,rfl,_⟩:=hs;obtain ⟨cap,hv,hr⟩:=g0 _ _ _ _ _ (S.rd t);exact qhH hv (S.callv (K:=λv w'=>∃ ρ',Sat D0 w0 (q2w s dst x) h' ρ' (E.put e dst v) w') hT hF (RdL.app (q4V (f:=pe s) (g:=ev e) S.pex args.toList) hr) h1 h2 h3 λv w' S' hr=>⟨ρ,S'.puto dst hr⟩)
  .exact pure hs
def qeM [NL] (S:Sat D0 w0 s h ρ e w) {ops:List Oper} {j:Nat} {b c:Bool} (hy:q2j ops s j b=some c):(q30 ops.toArray e j == some b)=(c == b):=by
 unfold q2j at hy;unfold q30;rw [z7]
 split at hy
 .rename_i d hd;rw [hd];have:=S.rd d
  split at hy
  .rename_i b hb;rw [hb] at this;unfold Rd at this;simp only [this];cases hy
   rfl
  .rename_i tv hb;rw [hb] at this;unfold Rd at this;simp only [this];cases hy
   revert b
   intro b;cases b <;> rfl
  .cases hy
 .cases hy
def q9f [NL] (S:Sat D0 w0 s h ρ e w) (hT:Tb w) (hF:Fr D0 w0.w) {ops:List Oper} {o:Oper} (hs:q7f P Tb ops o s h x h' fp):wg P ops.toArray o e w λv w'=>∃ ρ',Sat D0 w0 (q2w s o.dst x) h' ρ' (E.put e o.dst v) w':=by
 unfold q7f at hs;unfold wg q5r
 split at hs
 .rename_i hg;rw [hg];exact qk0 S hT hF hs
 .rename_i j b hg;obtain ⟨c,hc,hs⟩:=hs;rw [hg];simp only [qeM S hc]
  split at hs
  .rename_i hcb;rw [if_pos (by simpa using hcb)];exact qk0 S hT hF hs
  .rename_i hcb;rw [if_neg (by simpa using hcb)];obtain ⟨rfl,rfl,_⟩:=hs;exact ⟨ρ,S.puto o.dst (by unfold Rd; rfl)⟩
def qeO {o:Op} {f g:Operand->PV} (h:∀ x ∈ o.operands,f x=g x):q45 P o f=q45 P o g:=by
 cases o <;> simp only [q45] <;> (try rfl) <;> simp only [Op.operands] at h
 case move x=>rw [h x σ]
 case assign x=>rw [h x σ]
 case pick c a b=>rw [h c σ,h a σ,h b σ]
 case binOp op t x y _=>rw [h x σ,h y σ]
 case unOp op t x=>rw [h x σ]
 case convert a b x=>rw [h x σ]
 case fieldAddr t x f=>rw [h x σ]
 case extract x i=>rw [h x σ]
 case field t x f=>rw [h x σ]
 case nilCheck x=>rw [h x σ]
 case indexAddr t x i=>rw [h x σ,h i σ]
 case slice t x lo hi mx =>
  cases mx with
  | some _=>rfl
  | none =>
   simp only;have h1:lo.map f=lo.map g:=by cases lo with | none=>rfl | some l=>simp only [yM]; rw [h l σ]
   have h2:hi.map f=hi.map g:=by cases hi with | none=>rfl | some l=>simp only [yM]; rw [h l σ]
   rw [h1,h2,h x σ]
 case build t ps =>
  have:(ps.toList.map λp=>(p.1,f p.2))=ps.toList.map λp=>(p.1,g p.2):=zZ λp hp=>by rw [h p.2 (by simp; exact ⟨p.1,by simpa using hp⟩)]
  rw [this]
 case makeFunc fn first cap =>
  rw [zZ λy hy=>h y (by simp; right; simpa using hy)]
 case call c =>
  obtain ⟨callee,args,tys⟩:=c;have ha:∀ y ∈ args.toList,f y=g y:=λy hy=>h y (by simp [Call.operands]; right; simpa using hy);simp only
  split
  .split
   .rename_i x t hx ht;rw [ha x (by rw [hx]; simp)]
   .rfl
  .rw [zZ ha]
  .rw [zZ ha]
  .rfl
def agr (h h2:Hp) (l:List Nat):Prop:=∀ i ∈ l,h2 i=h i
def qoR {h2:Hp} {k:Option Kd} {p:PV} {r:PV × List Nat} (hl:ldP h k p=some r) (ha:agr h h2 r.2):ldP h2 k p=some r:=by
 unfold ldP at hl ⊢
 split at hl
 .rename_i id i j;have:r.2=[id]:=by
   split at hl
   .split at hl
    .cases hl
    .obtain ⟨y,_,rfl⟩:=zB.1 hl; rfl
   .cases hl
  simp only [ha id (by rw [this]; simp)];exact hl
 .exact hl
 .cases hl
def qj7 {h2:Hp} {y:PV} {r:PV × List Nat} (hl:qc8 h y=some r) (ha:agr h h2 r.2):qc8 h2 y=some r:=by
 unfold qc8 at hl ⊢
 split at hl
 .rename_i id k off n;have:r.2=[id]:=by
   obtain ⟨b,hb,hc⟩:=zA.1 hl
   split at hc
   .cases hc; rfl
   .cases hc
  simp only [ha id (by rw [this]; simp)];exact hl
 .exact hl
def q8i {h2:Hp}:∀ {l:List PV} {r:List PV × List Nat},q11 h l=some r->agr h h2 r.2->q11 h2 l=some r
 | [],r,hl,_=>hl
 | y :: l,r,hl,ha=>by
  unfold q11 at hl ⊢;obtain ⟨a,h1,hc⟩:=zA.1 hl;obtain ⟨b,hb,rfl⟩:=zB.1 hc;rw [qj7 h1 λi hi=>ha i (zW _ hi),zF,q8i hb λi hi=>ha i (zQ _ hi)]
  rfl
def qb4 {h2:Hp} {y:PV} {r:PV × List Nat} (hl:q3G h y=some r) (ha:agr h h2 r.2):q3G h2 y=some r:=by
 unfold q3G at hl ⊢
 split at hl
 .rename_i id k off n;have hm:id ∈ r.2:=by
   obtain ⟨b,hb,hc⟩:=zA.1 hl
   split at hc
   .cases hc; simp
   .split at hc
    .obtain ⟨r0,_,rfl⟩:=zB.1 hc; simp
    .cases hc
  simp only [ha id hm];obtain ⟨b,hb,hc⟩:=zA.1 hl;rw [hb,zF]
  split at hc
  .rename_i hh; rw [if_pos hh]; exact hc
  .rename_i hh;rw [if_neg hh]
   split at hc
   .rename_i hh2;obtain ⟨r0,hr0,rfl⟩:=zB.1 hc;rw [if_pos hh2,q8i hr0 λi hi=>ha i (zN _ hi)]; rfl
   .cases hc
 .exact hl
def q8h {h2:Hp}:∀ {l:List PV} {r:List PV × List Nat},q3Y h l=some r->agr h h2 r.2->q3Y h2 l=some r
 | [],r,hl,_=>hl
 | y :: l,r,hl,ha=>by
  unfold q3Y at hl ⊢;obtain ⟨a,h1,hc⟩:=zA.1 hl;obtain ⟨b,hb,rfl⟩:=zB.1 hc;rw [qb4 h1 λi hi=>ha i (zW _ hi),zF,q8h hb λi hi=>ha i (zQ _ hi)]
  rfl
def qp4 {h2:Hp} {y:PV} {r:PV × List Nat} (hl:clo h y=some r) (ha:agr h h2 r.2):clo h2 y=some r:=by
 unfold clo at hl ⊢
 split at hl
 .obtain ⟨b,hb,rfl⟩:=zB.1 hl;simp only [q8h hb ha,yM]
 .exact qb4 hl ha
def q72 {h2:Hp}:∀ {l:List PV} {r:List PV × List Nat},q2n h l=some r->agr h h2 r.2->q2n h2 l=some r
 | [],r,hl,_=>hl
 | y :: l,r,hl,ha=>by
  unfold q2n at hl ⊢;obtain ⟨a,h1,hc⟩:=zA.1 hl;obtain ⟨b,hb,rfl⟩:=zB.1 hc;rw [qp4 h1 λi hi=>ha i (zW _ hi),zF,q72 hb λi hi=>ha i (zQ _ hi)]
  rfl
def qqW {h2:Hp} {E:TypeId} {k:Kd} {p:PV} {xs:List PV} {i0:Option Nat} (hl:apS h E k p=some (xs,i0)) (ha:agr h h2 i0.toList):apS h2 E k p=some (xs,i0):=by
 unfold apS at hl ⊢
 split at hl
 .exact hl
 .rename_i id k' off n;have:i0=some id:=by
   obtain ⟨b,hb,hc⟩:=zA.1 hl
   split at hc
   .cases hc; rfl
   .cases hc
  simp only [ha id (by rw [this]; simp)];exact hl
 .cases hl
def qqV {h2:Hp} {k:Kd} {p:PV} {r:List PV × List Nat} (hl:apX h k p=some r) (ha:agr h h2 r.2):apX h2 k p=some r:=by
 unfold apX at hl ⊢
 split at hl
 .exact hl
 .exact hl
 .rename_i id k' off n;have:r.2=[id]:=by
   obtain ⟨b,hb,hc⟩:=zA.1 hl
   split at hc
   .cases hc; rfl
   .cases hc
  simp only [ha id (by rw [this]; simp)];exact hl
 .cases hl
def Loc (h2 h' h3:Hp) (fp:FP):Prop:=(∀ i ∈ fp.2,h3 i=h' i)/\∀ i,i ∉ fp.2->h3 i=h2 i
def Loc.upd {h2:Hp} {d:Nat} {b:Bk} {l:List Nat}:Loc h2 (q0Q h d b) (q0Q h2 d b) (l,[d]):=⟨λi hi=>by
  have hi:i ∈ [d]:=hi;simp at hi; subst hi; rw [q0I,q0I],λi hi=>by
  have hi:i ∉ [d]:=hi;simp at hi; rw [q0A hi]⟩
def qd8 [NL] {o:Oper} {s2:Nat->PV} {h2:Hp} (hs:Stp P Tb o s h x h' fp) (he:∀ y ∈ o.op.operands,pe s2 y=pe s y) (ha:agr h h2 (fp.1 ++ fp.2)):∃ h3,Stp P Tb o s2 h2 x h3 fp/\Loc h2 h' h3 fp:=by
 obtain ⟨dst,op,ty,pos,af,gd⟩:=o;have ha1:agr h h2 fp.1:=λi hi=>ha i (zW _ hi);have ha2:agr h h2 fp.2:=λi hi=>ha i (zQ _ hi);simp only at he;have pure:q45 P op (pe s)=some x/\h'=h/\fp=([],[])->q45 P op (pe s2)=some x/\Loc h2 h' h2 fp:=λ⟨h1,h2,h3⟩=>by
  subst h3;exact ⟨by rw [qeO he]; exact h1,λi hi=>(by cases hi),λi _=>rfl⟩
 unfold Stp at hs ⊢;cases op <;> simp only at hs ⊢ <;> (try (exact ⟨h2,⟨(pure hs).1,rfl,hs.2.2⟩,(pure hs).2⟩)) <;> simp only [Op.operands] at he
 case load t a =>
  obtain ⟨r,h1,rfl,rfl,rfl⟩:=hs;exact ⟨h2,⟨r,by rw [he a σ]; exact qoR h1 ha1,rfl,rfl,rfl⟩,λi hi=>(by cases hi),λi _=>rfl⟩
 case alloc t =>
  obtain ⟨d,b,rfl,h1,h3,rfl,rfl,rfl⟩:=hs;exact ⟨_,⟨d,b,rfl,⟨by rw [ha2 d σ]; exact h1.1,h1.2⟩,h3,rfl,rfl,rfl⟩,Loc.upd⟩
 case box t v =>
  obtain ⟨d,k,rfl,h1,h3,h4,rfl,rfl,rfl⟩:=hs;rw [<- he v σ] at h4 ⊢;exact ⟨_,⟨d,k,rfl,⟨by rw [ha2 d σ]; exact h1.1,h1.2⟩,h3,h4,rfl,rfl,rfl⟩,Loc.upd⟩
 case buildSlice t len ps =>
  obtain ⟨d,E,k,bytes,rfl,h1,h3,h4,h5,h6,rfl,rfl,rfl⟩:=hs;have hp:∀ p ∈ ps.toList,pe s2 p.2=pe s p.2:=λp hp=>he p.2 (by simp; exact ⟨p.1,by simpa using hp⟩);rw [<- zZ hp];exact ⟨_,⟨d,E,k,bytes,rfl,⟨by rw [ha2 d σ]; exact h1.1,h1.2⟩,h3,h4,h5,λp hpp=>by rw [hp p hpp]; exact h6 p hpp,rfl,rfl,rfl⟩,Loc.upd⟩
 case makeSlice t l c =>
  obtain ⟨d,E,k,bytes,z,kl,kc,n,m,rfl,h1,h3,h4,h5,h8,h6,h7,rfl,rfl,rfl⟩:=hs;exact ⟨_,⟨d,E,k,bytes,z,kl,kc,n,m,rfl,⟨by rw [ha2 d σ]; exact h1.1,h1.2⟩,h3,by rw [he l σ]; exact h4,by rw [he c σ]; exact h5,h8,h6,h7,rfl,rfl,rfl⟩,Loc.upd⟩
 case store t a v =>
  obtain ⟨id,i,j,b,k,u,u',h1,h3,h4,h5,h6,h7,h8,h9,rfl,rfl,rfl⟩:=hs;exact ⟨_,⟨id,i,j,b,k,u,u',by rw [he a σ]; exact h1,by rw [ha1 id σ]; exact h3,h4,h5,h6,by rw [he v σ]; exact h7,h8,by rw [he v σ]; exact h9,rfl,rfl,rfl⟩,Loc.upd⟩
 case call c =>
  obtain ⟨callee,args,tys⟩:=c;have hg:∀ y ∈ args.toList,pe s2 y=pe s y:=λy hy=>he y (by simp [Call.operands]; right; simpa using hy);simp only at hs ⊢
  split at hs
  .obtain ⟨sx,xx,T,d,E,k,bytes,xs,ys,i0,ids,rfl,rfl,rfl,h1,h3,h4,h5,h6,rfl,rfl,rfl⟩:=hs;refine ⟨q0Q (stl h2 i0) d ⟨E,k,xs ++ ys,false⟩,⟨sx,xx,T,d,E,k,bytes,xs,ys,i0,ids,rfl,rfl,rfl,⟨by rw [ha2 d σ]; exact h1.1,h1.2⟩,h3,by rw [hg sx σ]; exact qqW h4 λi hi=>ha2 i (zN _ hi),by rw [hg xx σ]; exact qqV h5 ha1,h6,rfl,rfl,rfl⟩,λi hi=>?_,λi hi=>?_⟩
   .simp only [yK] at hi
    by_cases hd:i=d
    .subst hd; rw [q0I,q0I]
    .rw [q0A hd,q0A hd]
     rcases hi with hi | hi
     .exact absurd hi hd
     .cases i0 with
      | none=>cases hi
      | some j =>
       simp at hi;subst hi;have:=ha2 i σ;simp only [stl,this];cases h i <;> simp [q0I, *]
   .simp only [yK,not_or] at hi;rw [q0A hi.1];cases i0 with
    | none=>rfl
    | some j =>
     have hij:i≠j:=by simpa using hi.2
     unfold stl;simp only;cases h2 j <;> simp [q0A hij]
  .obtain ⟨al,ids,h1,h3,h4,rfl,rfl⟩:=hs;exact ⟨h2,⟨al,ids,by rw [zZ hg]; exact q72 h1 ha1,h3,h4,rfl,rfl⟩,λi hi=>(by cases hi),λi _=>rfl⟩
  .rename_i t;obtain ⟨f,ys,al,ids,g0,h1,h3,h4,rfl,rfl⟩:=hs;have ht:s2 t=s t:=he (.tmp t) (by simp [Call.operands]);exact ⟨h2,⟨f,ys,al,ids,by rw [ht]; exact g0,by rw [zZ hg]; exact q72 h1 ha1,h3,h4,rfl,rfl⟩,λi hi=>(by cases hi),λi _=>rfl⟩
  .exact ⟨h2,⟨(pure hs).1,rfl,hs.2.2⟩,(pure hs).2⟩
def q3i {d:Nat} {b:Bk} {l:List Nat}:∀ i,i ∉ (l,[d]).2->q0Q h d b i=h i:=λi hi=>by
 have hi:i ∉ [d]:=hi;simp at hi; rw [q0A hi]
def qd7 [NL] {o:Oper} (hs:Stp P Tb o s h x h' fp):∀ i,i ∉ fp.2->h' i=h i:=by
 obtain ⟨dst,op,ty,pos,af,gd⟩:=o;unfold Stp at hs;cases op <;> simp only at hs <;> (try (exact λi _=>by rw [hs.2.1]))
 case load t a=>obtain ⟨r,h1,rfl,rfl,rfl⟩:=hs; exact λ_ _=>rfl
 case alloc t=>obtain ⟨d,b,rfl,h1,h3,rfl,rfl,rfl⟩:=hs; exact q3i
 case box t v=>obtain ⟨d,k,rfl,h1,h3,h4,rfl,rfl,rfl⟩:=hs; exact q3i
 case buildSlice t len ps=>obtain ⟨d,E,k,bytes,rfl,h1,h3,h4,h5,h6,rfl,rfl,rfl⟩:=hs; exact q3i
 case makeSlice t l c=>obtain ⟨d,E,k,bytes,z,kl,kc,n,m,rfl,h1,h3,h4,h5,h8,h6,h7,rfl,rfl,rfl⟩:=hs; exact q3i
 case store t a v=>obtain ⟨id,i,j,b,k,u,u',h1,h3,h4,h5,h6,h7,h8,h9,rfl,rfl,rfl⟩:=hs; exact q3i
 case call c =>
  split at hs
  .obtain ⟨sx,xx,T,d,E,k,bytes,xs,ys,i0,ids,_,_,rfl,h1,h3,h4,h5,h6,rfl,rfl,rfl⟩:=hs;intro i hi;simp only [yK,not_or] at hi;rw [q0A hi.1];cases i0 with
   | none=>rfl
   | some j =>
    have hij:i≠j:=by simpa using hi.2
    unfold stl;simp only;cases h j <;> simp [q0A hij]
  .obtain ⟨al,ids,h1,h3,h4,rfl,rfl⟩:=hs;exact λ_ _=>rfl
  .obtain ⟨f,ys,al,ids,g0,h1,h3,h4,rfl,rfl⟩:=hs;exact λ_ _=>rfl
  .exact λi _=>by rw [hs.2.1]
end
def AL [NL] (P:Program) (Tb:World->Prop) (ops:List Oper) (K:(Nat->PV)->Hp->List FP->Prop):List Oper->(Nat->PV)->Hp->List FP->Prop
 | [],s,h,acc=>K s h acc
 | o :: r,s,h,acc=>∃ x h' fp,q7f P Tb ops o s h x h' fp/\AL P Tb ops K r (q2w s o.dst x) h' (fp :: acc)
def sS (ops:List Oper) (X:Nat->PV) (L:Nat->Bool) (s:Nat->PV):Nat->Nat->PV
 | 0=>s
 | k+1=>if L k then (match ops[k]? with | some o=>q2w (sS ops X L s k) o.dst (X k) | none=>sS ops X L s k) else sS ops X L s k
def hS (W:Nat->FP) (H:Nat->Hp) (L:Nat->Bool) (h:Hp):Nat->Hp
 | 0=>h
 | k+1=>if L k then (λi=>if i ∈ (W k).2 then H k i else hS W H L h k i) else hS W H L h k
def tt:Nat->Bool:=λ_=>true
def mkM (M:List Nat) (o:Oper):Nat:=o.after.toList.foldl (λm e=>if Region.binds .any e then m ||| 2 ^ e.on ||| M.getD e.on 0 else m) 0
def qlR:List Nat->List Oper->List Nat
 | M,[]=>M
 | M,o :: r=>qlR (M ++ [mkM M o]) r
def cls (o:Oper):Nat :=
 match o.op with
 | .load _ _=>1
 | .alloc _ | .box _ _ | .buildSlice _ _ _ | .makeSlice _ _ _=>2
 | .store _ _ _=>3
 | .call c=>match c.callee with | .builtin .append=>3 | .value (.func _) | .value (.tmp _)=>1 | _=>0
 | _=>0
def harm (a b:Nat):Bool:=yP a 0 || yP b 0 || (yP a 1 && yP b 1) || (yP a 2 && yP b 2)
def qt4:List (Nat × Nat)->Nat->Nat->Bool
 | [],_,_=>false
 | p :: l,a,b=>(yP p.1 a && yP p.2 b) || qt4 l a b
def dOk1 (o p:Oper):Bool:=match o.dst,p.dst with | some d,some d'=>!yP d d' | _,_=>true
def dOk2 (ops:List Oper) (M:List Nat) (i j:Nat) (o p:Oper):Bool:=match p.dst with | some d=>!looks ops.toArray o d || (M.getD i 0).testBit j || (M.getD j 0).testBit i | none=>true
def dOk3 (M:List Nat) (prs:List (Nat × Nat)) (i j:Nat) (o p:Oper):Bool:=decide (i<=j) || (M.getD i 0).testBit j || harm (cls p) (cls o) || qt4 prs j i
def dOk4 (M:List Nat) (i:Nat) (o:Oper):Bool:=(o.after.toList.all λe=>!Region.binds .any e || decide (e.on < i)) && yP (M.getD i 0) (mkM M o)
def q9q (ops:List Oper) (M:List Nat) (prs:List (Nat × Nat)):Bool :=
 (List.range ops.length).all λi=>match ops[i]? with
  | none=>true
  | some o=>dOk4 M i o &&
   (List.range ops.length).all λj=>match ops[j]? with
    | none=>true
    | some p=>yP i j || (dOk1 o p && dOk2 ops M i j o p && dOk3 M prs i j o p)
def dj (a b:FP):Prop:=(∀ x ∈ a.2,x ∉ b.1/\x ∉ b.2)/\∀ x ∈ b.2,x ∉ a.1
def chk (prs:List (Nat × Nat)) (fps:List FP):Prop:=∀ p ∈ prs,dj (fps.getD p.1 ([],[])) (fps.getD p.2 ([],[]))
section
variable {P:Program} {Tb:World->Prop} {n:Nat} {ops:List Oper} {X:Nat->PV} {L L':Nat->Bool} {s:Nat->PV} {h:Hp} {W:Nat->FP} {H:Nat->Hp}
def qn1 {o:Oper} {l:List Oper} (k:Nat):sS (o :: l) X tt s (k+1)=sS l (λi=>X (i+1)) tt (q2w s o.dst (X 0)) k:=by
 induction k with
 | zero=>rfl
 | succ k ih =>
  show (if tt (k+1) then (match (o :: l)[k+1]? with | some o'=>q2w (sS (o :: l) X tt s (k+1)) o'.dst (X (k+1)) | none=>sS (o :: l) X tt s (k+1)) else sS (o :: l) X tt s (k+1))=_
  rw [ih,z9]
  rfl
def qob (k:Nat):hS W H tt h (k+1)=hS (λi=>W (i+1)) (λi=>H (i+1)) tt (λi=>if i ∈ (W 0).2 then H 0 i else h i) k:=by
 induction k with
 | zero=>rfl
 | succ k ih =>
  show (if tt (k+1) then (λi=>if i ∈ (W (k+1)).2 then H (k+1) i else hS W H tt h (k+1) i) else hS W H tt h (k+1))=_
  rw [ih]
  rfl
def qi6 [NL] {o:Oper} {x:PV} {h':Hp} {fp:FP} (hs:q7f P Tb ops o s h x h' fp):∀ i,i ∉ fp.2->h' i=h i:=by
 unfold q7f at hs
 split at hs
 .exact qd7 hs
 .obtain ⟨c,_,hs⟩:=hs
  split at hs
  .exact qd7 hs
  .exact λi _=>by rw [hs.2.1]
def qri [NL] {K:(Nat->PV)->Hp->List FP->Prop}:∀ (l:List Oper) (s:Nat->PV) (h:Hp) (acc:List FP),AL P Tb ops K l s h acc ->
  ∃ (X:Nat->PV) (H:Nat->Hp) (W:Nat->FP),(∀ k o,l[k]?=some o->q7f P Tb ops o (sS l X tt s k) (hS W H tt h k) (X k) (hS W H tt h (k+1)) (W k))/\K (sS l X tt s l.length) (hS W H tt h l.length) (((List.range l.length).map W).reverse ++ acc)
 | [],s,h,acc,hal=>⟨λ_=>.un,λ_=>h0,λ_=>([],[]),λk o ho=>by simp at ho,hal⟩
 | o :: l,s,h,acc,hal=>by
  obtain ⟨x,h',fp,h1,h2⟩:=hal;obtain ⟨X,H,W,h3,h4⟩:=qri l _ _ _ h2;have ho:=qi6 h1;have he:(λi=>if i ∈ fp.2 then h' i else h i)=h':=by
   funext i
   split
   .rfl
   .rename_i hi; exact (ho i hi).symm
  let X':Nat->PV:=λk=>match k with | 0=>x | k+1=>X k
  let H':Nat->Hp:=λk=>match k with | 0=>h' | k+1=>H k
  let W':Nat->FP:=λk=>match k with | 0=>fp | k+1=>W k
  have es:∀ k,sS (o :: l) X' tt s (k+1)=sS l X tt (q2w s o.dst x) k:=λk=>qn1 k;have eh:∀ k,hS W' H' tt h (k+1)=hS W H tt h' k:=λk=>by
   have:=qob (W:=W') (H:=H') (h:=h) k;rw [this]
   show hS W H tt (λi=>if i ∈ fp.2 then h' i else h i) k=_
   rw [he]
  refine ⟨X',H',W',λk p hp=>?_,?_⟩
  .cases k with
   | zero =>
    simp only [xA,xG.injEq] at hp;subst hp;rw [eh 0];exact h1
   | succ k =>
    rw [es,eh,eh];exact h3 k p (by simpa using hp)
  .rw [zK,es,eh];have:((List.range (l.length+1)).map W').reverse ++ acc=((List.range l.length).map W).reverse ++ (fp :: acc):=by
    rw [List.range_succ_eq_map,vS,yX,List.reverse_cons,vV]
    rfl
   rw [this];exact h4
structure Drw (ops:List Oper) (M:List Nat) (prs:List (Nat × Nat)):Prop where
 down:∀ (i:Nat) (o:Oper) (x:Edge),ops[i]?=some o->x ∈ o.after->Region.binds .any x=true->x.on < i
 anc:∀ (i j:Nat) (o:Oper),ops[i]?=some o->(M.getD i 0).testBit j=true->∃ x ∈ o.after,Region.binds .any x=true/\(x.on=j\/(M.getD x.on 0).testBit j=true)
 dst:∀ (i j:Nat) (o p:Oper) (d:Nat),ops[i]?=some o->ops[j]?=some p->o.dst=some d->p.dst=some d->i=j
 look:∀ (i j:Nat) (o p:Oper) (d:Nat),ops[i]?=some o->ops[j]?=some p->i≠j->p.dst=some d->looks ops.toArray o d=true->(M.getD i 0).testBit j=true\/(M.getD j 0).testBit i=true
 par:∀ (i j:Nat) (o p:Oper),ops[i]?=some o->ops[j]?=some p->j < i->(M.getD i 0).testBit j=true\/harm (cls p) (cls o)=true\/qt4 prs j i=true
def qeg {M:List Nat} {j:Nat}:∀ (l:List Edge) (m:Nat),(l.foldl (λm e=>if Region.binds .any e then m ||| 2 ^ e.on ||| M.getD e.on 0 else m) m).testBit j=true->m.testBit j=true\/∃ x ∈ l,Region.binds .any x=true/\(x.on=j\/(M.getD x.on 0).testBit j=true)
 | [],m,h=>.inl h
 | e :: l,m,h=>by
  rw [List.foldl_cons] at h
  rcases qeg l _ h with h | ⟨x,hx,h⟩
  .split at h
   .rename_i hb;rw [Nat.testBit_or,Nat.testBit_or,vP,vP,Nat.testBit_two_pow] at h
    rcases h with (h | h) | h
    .exact .inl h
    .exact .inr ⟨e,zV,hb,.inl (by simpa using h)⟩
    .exact .inr ⟨e,zV,hb,.inr h⟩
   .exact .inl h
  .exact .inr ⟨x,zN _ hx,h⟩
def Drw.of {M:List Nat} {prs:List (Nat × Nat)} (hk:q9q ops M prs=true):Drw ops M prs:=by
 unfold q9q at hk;rw [yI] at hk;have hi:∀ (i:Nat) (o:Oper),ops[i]?=some o->i ∈ List.range ops.length:=λi o ho=>yQ.2 (zC.1 ho).1;have h1:∀ (i:Nat) (o:Oper),ops[i]?=some o->dOk4 M i o=true/\((List.range ops.length).all λj=>match ops[j]? with | none=>true | some p=>yP i j || (dOk1 o p && dOk2 ops M i j o p && dOk3 M prs i j o p))=true:=λi o ho=>by
  have:=hk i (hi i o ho);rw [ho] at this;simp only [zX] at this;exact this
 have h2:∀ (i j:Nat) (o p:Oper),ops[i]?=some o->ops[j]?=some p->i≠j->(dOk1 o p=true/\dOk2 ops M i j o p=true)/\dOk3 M prs i j o p=true:=λi j o p ho hp hij=>by
  have:=(yI.1 (h1 i o ho).2) j (hi j p hp);rw [hp] at this;simp only [vP] at this
  rcases this with h | h
  .exact absurd (zJ h) hij
  .rw [zX,zX] at h;exact h
 refine ⟨λi o x ho hx hb=>?_,λi j o ho hb=>?_,λi j o p d ho hp hod hpd=>?_,λi j o p d ho hp hij hd hl=>?_,λi j o p ho hp hji=>?_⟩
 .have h4:=(h1 i o ho).1;unfold dOk4 at h4;rw [zX] at h4;have:=yI.1 h4.1 x (yU.2 hx);rw [hb] at this;simpa using this
 .have h4:=(h1 i o ho).1;unfold dOk4 at h4;rw [zX] at h4;have he:=zJ h4.2;rw [he] at hb;unfold mkM at hb
  rcases qeg _ _ hb with h | ⟨x,hx,h⟩
  .simp at h
  .exact ⟨x,yU.1 hx,h⟩
 .by_cases hij:i=j
  .exact hij
  .have:=(h2 i j o p ho hp hij).1.1;unfold dOk1 at this;rw [hod,hpd] at this;simp at this
 .have:=(h2 i j o p ho hp hij).1.2;unfold dOk2 at this;rw [hd] at this;simp only [hl,Bool.not_true,Bool.false_or,vP] at this;exact this
 .have:=(h2 i j o p ho hp Oq).2;unfold dOk3 at this;simp only [vP,decide_eq_true_eq] at this
  rcases this with ((h | h) | h) | h
  .omega
  .exact .inl h
  .exact .inr (.inl h)
  .exact .inr (.inr h)
def qcZ (i:Nat):∀ (m:Nat),(∀ k,k < m->i ∈ (W k).2->L k=L' k)->hS W H L h m i=hS W H L' h m i
 | 0,_=>rfl
 | m+1,hl=>by
  have ih:=qcZ i m λk hk=>hl k Oq;unfold hS
  by_cases hi:i ∈ (W m).2
  .rw [hl m ω hi]
   split
   .simp [hi]
   .exact ih
  .split <;> split <;> simp [hi,ih]
def sS_s {k:Nat}:sS ops X L s (k+1)=if L k then (match ops[k]? with | some o=>q2w (sS ops X L s k) o.dst (X k) | none=>sS ops X L s k) else sS ops X L s k:=rfl
def q1R {t:Nat}:∀ (m:Nat),(∀ k o,k < m->ops[k]?=some o->L k=true->o.dst≠some t)->sS ops X L s m t=s t
 | 0,_=>rfl
 | m+1,hl=>by
  have ih:=q1R m λk o hk=>hl k o Oq;rw [sS_s]
  by_cases hL:L m=true
  .rw [if_pos hL];cases ho:ops[m]? with
   | none=>exact ih
   | some o =>
    have:=hl m o Oq ho hL;cases hd:o.dst with
    | none=>simp only [hd,q2w]; exact ih
    | some d=>rw [hd] at this; simp only [hd,q2w,pu]; rw [if_neg (λe=>this (by rw [e]))]; exact ih
  .rw [if_neg hL]; exact ih
def q2f {t:Nat} (hdd:∀ (i j:Nat) (o p:Oper) (d:Nat),ops[i]?=some o->ops[j]?=some p->o.dst=some d->p.dst=some d->i=j) {k:Nat} {o:Oper} (ho:ops[k]?=some o) (hd:o.dst=some t) (hL:L k=true):∀ (m:Nat),k < m->sS ops X L s m t=X k
 | 0,hm=>by omega
 | m+1,hm=>by
  rw [sS_s]
  by_cases hk:k=m
  .subst hk;rw [if_pos hL,ho];simp only [hd,q2w,pu,if_true]
  .have ih:=q2f hdd ho hd hL m Oq
   by_cases hLm:L m=true
   .rw [if_pos hLm];cases hp:ops[m]? with
    | none=>exact ih
    | some p =>
     cases hpd:p.dst with
     | none=>simp only [hpd,q2w]; exact ih
     | some d =>
      simp only [hpd,q2w,pu];rw [if_neg λe=>hk (hdd k m o p t ho hp hd (by rw [hpd,e]))];exact ih
   .rw [if_neg hLm]; exact ih
end
section
variable {P:Program} {Tb:World->Prop} {n:Nat} {ops:List Oper} {X:Nat->PV} {s:Nat->PV} {h:Hp} {W:Nat->FP} {H:Nat->Hp} {M:List Nat} {prs:List (Nat × Nat)} {D0:Nat->Prop} {w0:Base} {ρ:Nat->Option Nat} {e:Env} {w:World}
def hS_s {L:Nat->Bool} {k:Nat}:hS W H L h (k+1)=if L k then (λi=>if i ∈ (W k).2 then H k i else hS W H L h k i) else hS W H L h k:=rfl
def Lo (listed:Array Bool):Nat->Bool:=λk=>listed.getD k false
def q64 {listed:Array Bool} {i k:Nat} (hi:i < listed.size):Lo (listed.setIfInBounds i true) k=if i=k then true else Lo listed k:=by
 simp only [Lo,zY,yB]
 split
 .rename_i hk; subst hk; simp [hi]
 .rfl
def qmG (hD:Drw ops M prs):∀ (i:Nat) (o:Oper) (j:Nat),ops[i]?=some o->(M.getD i 0).testBit j=true->j < i:=by
 intro i
 induction i using xE with
 | _ i ih =>
  intro o j ho hb;obtain ⟨x,hx,hbx,hj⟩:=hD.anc i j o ho hb;have hlt:=hD.down i o x ho hx hbx
  rcases hj with rfl | hj
  .exact hlt
  .have hl:x.on < ops.length:=by have:=(zC.1 ho).1; omega
   have:=ih x.on hlt _ j (zD hl) hj;omega
def qmH (hD:Drw ops M prs) {L:Nat->Bool} (hc:∀ (k:Nat) (o:Oper) (x:Edge),ops[k]?=some o->L k=true->x ∈ o.after->Region.binds .any x=true->L x.on=true):∀ (i:Nat) (o:Oper) (j:Nat),ops[i]?=some o->(∀ x ∈ o.after,Region.binds .any x=true->L x.on=true)->(M.getD i 0).testBit j=true->L j=true:=by
 intro i
 induction i using xE with
 | _ i ih =>
  intro o j ho hL hb;obtain ⟨x,hx,hbx,hj⟩:=hD.anc i j o ho hb;have hlt:=hD.down i o x ho hx hbx;have hLx:=hL x hx hbx
  rcases hj with rfl | hj
  .exact hLx
  .have hl:x.on < ops.length:=by have:=(zC.1 ho).1; omega
   have ho':=zD hl;exact ih x.on hlt _ j ho' (λy hy hby=>hc x.on _ y ho' hLx hy hby) hj
def q8R {o:Oper} {t:Nat}:looks ops.toArray o t=true ↔ t ∈ o.looksAt ops.toArray:=by
 unfold looks;rw [List.any_eq_true]
 constructor
 .rintro ⟨x,hx,h⟩;rw [zJ h]; exact hx
 .exact λhx=>⟨t,hx,σ⟩
def qi7 [NL] {o:Oper} {s2:Nat->PV} {h2 h':Hp} {x:PV} {fp:FP} (hs:q7f P Tb ops o s h x h' fp) (he:∀ t,looks ops.toArray o t=true->s2 t=s t) (ha:agr h h2 (fp.1 ++ fp.2)):∃ h3,q7f P Tb ops o s2 h2 x h3 fp/\Loc h2 h' h3 fp:=by
 have hop:∀ y ∈ o.op.operands,pe s2 y=pe s y:=λy hy=>by
  cases y <;> simp only [pe]
  case tmp t=>exact he t (q8R.2 (by unfold Oper.looksAt; simp; exact .inl ⟨.tmp t,by simpa using hy,rfl⟩))
 unfold q7f at hs ⊢
 split at hs
 .exact qd8 hs hop ha
 .rename_i j b hg;obtain ⟨c,hc,hs⟩:=hs;have hy:q2j ops s2 j b=q2j ops s j b:=by
   unfold q2j;cases hd:(ops[j]?).bind (·.dst) with
   | none=>rfl
   | some d =>
    simp only;rw [he d (q8R.2 (by unfold Oper.looksAt; rw [hg]; simp only [z7,hd]; simp))]
  simp only [hy,hc]
  split at hs
  .rename_i hcb;obtain ⟨h3,h4,h5⟩:=qd8 hs hop ha;exact ⟨h3,⟨c,rfl,by rw [if_pos hcb]; exact h4⟩,h5⟩
  .rename_i hcb;obtain ⟨rfl,rfl,rfl⟩:=hs;exact ⟨h2,⟨c,rfl,by rw [if_neg hcb]; exact ⟨rfl,rfl,rfl⟩⟩,λi hi=>(by cases hi),λi _=>rfl⟩
def qpQ [NL] {Q : Exit -> Act -> World -> Prop} {e0 : Env} (hD : Drw ops M prs) (hd : ops.all (q8c n) = true) (hT : ∀ w, Kp w0.F w0.w w -> Tb w) (hF : Fr D0 w0.w)
    (hG : ∀ k o, ops[k]? = some o -> q7f P Tb ops o (sS ops X tt s k) (hS W H tt h k) (X k) (hS W H tt h (k + 1)) (W k))
    (hdyn : ∀ (i j : Nat) (o p : Oper), ops[i]? = some o -> ops[j]? = some p -> j < i -> (M.getD i 0).testBit j = true \/ dj (W j) (W i))
    (hQ : ∀ a e' w' ρ', Rel n a e' -> Sat D0 w0 (sS ops X tt s ops.length) (hS W H tt h ops.length) ρ' e' w' -> (∀ t, q53 ops.toArray t = false -> e' t = e0 t) -> Q .normal a w') :
    ∀ (fuel : Nat) (listed : Array Bool) (a : Act) (e' : Env) (w' : World) (ρ : Nat -> Option Nat), ops.length <= fuel + (List.range ops.length).countP (λi => listed.getD i true) -> listed.size = ops.length -> (∀ (k : Nat) (o : Oper) (x : Edge), ops[k]? = some o -> Lo listed k = true -> x ∈ o.after -> Region.binds .any x = true -> Lo listed x.on = true) ->
      Rel n a e' -> (∀ t, q53 ops.toArray t = false -> e' t = e0 t) -> Sat D0 w0 (sS ops X (Lo listed) s ops.length) (hS W H (Lo listed) h ops.length) ρ e' w' -> wpAny P .any ops.toArray Q fuel listed a w' := by
  have hft : ∀ {listed : Array Bool} {j : Nat}, listed.size = ops.length -> j < ops.length -> listed.getD j true = Lo listed j := λ{listed j} hsz hj => by
    simp [Lo, zY, vO (show j < listed.size by omega)]
  have hdone : ∀ (listed : Array Bool) (a : Act) (e' : Env) (w' : World) (ρ : Nat -> Option Nat), listed.size = ops.length -> (∀ i, i < ops.length -> Lo listed i = true) -> Rel n a e' -> (∀ t, q53 ops.toArray t = false -> e' t = e0 t) -> Sat D0 w0 (sS ops X (Lo listed) s ops.length) (hS W H (Lo listed) h ops.length) ρ e' w' -> Q .normal a w' := λlisted a e' w' ρ hsz hall hr ho S => by
    refine hQ a e' w' ρ hr ?_ ho
    have e1 : sS ops X (Lo listed) s ops.length = sS ops X tt s ops.length := by
      have : ∀ m, m <= ops.length -> sS ops X (Lo listed) s m = sS ops X tt s m := λm => by
        induction m with
        | zero => intro _; rfl
        | succ m ih => intro hm; rw [sS_s, sS_s, ih ω, hall m ω]; rfl
      exact this _ (zP _)
    have e2 : hS W H (Lo listed) h ops.length = hS W H tt h ops.length := by
      funext i
      exact qcZ i _ λk hk _ => by rw [hall k hk]; rfl
    rw [<- e1, <- e2]
    exact S
  have hend : ∀ (listed : Array Bool) (a : Act) (e' : Env) (w' : World) (ρ : Nat -> Option Nat), listed.size = ops.length -> Region.ready .any ops.toArray listed = [] -> Rel n a e' -> (∀ t, q53 ops.toArray t = false -> e' t = e0 t) -> Sat D0 w0 (sS ops X (Lo listed) s ops.length) (hS W H (Lo listed) h ops.length) ρ e' w' -> Q .normal a w' := λlisted a e' w' ρ hsz hnil hr ho S => by
    refine hdone listed a e' w' ρ hsz (λi => ?_) hr ho S
    induction i using xE with
    | _ i ih =>
      intro hi
      cases hb : Lo listed i with
      | true => rfl
      | false =>
        have : i ∈ Region.ready .any ops.toArray listed := by
          unfold Region.ready
          rw [List.mem_filter]
          refine ⟨yQ.2 (by simpa using hi), ?_⟩
          have hio : ops.toArray[i]? = some ops[i] := by simp [hi]
          simp only [hft hsz hi, hb, Bool.not_false, Bool.true_and, hio, yM, Option.getD_some]
          rw [Array.all_eq_true']
          intro x hx
          cases hbx : Region.binds .any x with
          | false => rfl
          | true =>
            have hlt := hD.down i ops[i] x (zD hi) hx hbx
            have := ih x.on hlt Oq
            simp only [Lo] at this
            simp [this]
        rw [hnil] at this; cases this
  intro fuel
  induction fuel with
  | zero =>
    intro listed a e' w' ρ hf hsz hcl hr ho S
    have hall : ∀ i, i < ops.length -> listed.getD i true = true := by
      have hle : (List.range ops.length).countP (λi => listed.getD i true) = (List.range ops.length).length := by
        have := List.countP_le_length (p := λi => listed.getD i true) (l := List.range ops.length)
        simp only [List.length_range] at this ⊢; omega
      rw [List.countP_eq_length] at hle
      exact λi hi => hle i (yQ.2 hi)
    have hnil : Region.ready .any ops.toArray listed = [] := by
      unfold Region.ready
      rw [List.filter_eq_nil_iff]
      intro i hi
      simp [hall i (by simpa using yQ.1 hi)]
    exact ⟨hnil, hend _ _ _ _ _ hsz hnil hr ho S⟩
  | succ fuel ih =>
    intro listed a e' w' ρ hf hsz hcl hr ho S
    refine ⟨λhn => hend _ _ _ _ _ hsz hn hr ho S, λi hi => ?_⟩
    obtain ⟨hlt', hnl, hdeps⟩ := q8J hi
    have hlt : i < ops.length := by simpa using hlt'
    have hli : i < listed.size := by omega
    have hio : ops[i]? = some ops[i] := zD hlt
    have hLi : Lo listed i = false := by rw [<- hft hsz hlt]; exact hnl
    generalize hoi : ops[i] = o at hio
    have hdeps' : ∀ x ∈ o.after, Region.binds .any x = true -> Lo listed x.on = true := λx hx hb => hdeps x (by simpa [hoi] using hx) hb
    -- what is ordered
    have hord : ∀ (k : Nat) (p : Oper), ops[k]? = some p -> k ≠ i -> ((M.getD i 0).testBit k = true \/ (M.getD k 0).testBit i = true) -> Lo listed k = decide (k < i) := λk p hp hki hb => by
      rcases hb with hb | hb
      . have h1 := qmG hD i o k hio hb
        rw [qmH hD hcl i o k hio hdeps' hb, decide_eq_true h1]
      . have h1 := qmG hD k p i hp hb
        rw [decide_eq_false ω]
        cases hL : Lo listed k with
        | false => rfl
        | true =>
          have := qmH hD hcl k p i hp (λx hx hbx => hcl k p x hp hL hx hbx) hb
          rw [hLi] at this; cases this
    have hwr : ∀ (k : Nat) (p : Oper), ops[k]? = some p -> k ≠ i -> ∀ id, id ∈ (W k).2 -> id ∈ (W i).1 ++ (W i).2 -> Lo listed k = decide (k < i) := λk p hp hki id h1 h2 => by
      refine hord k p hp hki ?_
      rcases yZ k i with hk | hk
      . rcases hdyn i k o p hio hp hk with h | h
        . exact .inl h
        . exfalso
          rcases zR.1 h2 with h2 | h2
          . exact (h.1 id h1).1 h2
          . exact (h.1 id h1).2 h2
      . rcases hdyn k i p o hp hio Oq with h | h
        . exact .inr h
        . exfalso
          rcases zR.1 h2 with h2 | h2
          . exact h.2 id h1 h2
          . exact (h.1 id h2).2 h1
    have canS : ∀ k t, k <= ops.length -> sS ops X tt s k t = sS ops X (λj => decide (j < k)) s ops.length t := λk t hk => by
      by_cases hex : ∃ (j : Nat) (p : Oper), ops[j]? = some p /\ p.dst = some t
      . obtain ⟨j, p, hp, hpd⟩ := hex
        have hj := (zC.1 hp).1
        by_cases hjk : j < k
        . rw [q2f hD.dst hp hpd rfl k hjk, q2f hD.dst hp hpd (by simp [hjk]) _ hj]
        . rw [q1R k λm q hm hq _ he => hjk (by have := hD.dst m j q p t hq hp he hpd; omega), q1R _ λm q hm hq hL he => hjk (by have := hD.dst m j q p t hq hp he hpd; subst this; simpa using hL)]
      . rw [q1R k λm q _ hq _ he => hex ⟨m, q, hq, he⟩, q1R _ λm q _ hq _ he => hex ⟨m, q, hq, he⟩]
    have canH : ∀ k id, k <= ops.length -> hS W H tt h k id = hS W H (λj => decide (j < k)) h ops.length id := λk id hk => by
      have h1 : ∀ m, k <= m -> hS W H (λj => decide (j < k)) h m id = hS W H (λj => decide (j < k)) h k id := λm hm => by
        induction m with
        | zero => have : k = 0 := by omega
                  subst this; rfl
        | succ m ihm =>
          by_cases hkm : k = m + 1
          . subst hkm; rfl
          . have := ihm Oq
            rw [hS_s, if_neg (by simp; omega)]
            exact this
      rw [h1 _ hk]
      exact qcZ id k λm hm _ => by simp [tt, hm]
    have hg := hG i o hio
    obtain ⟨h3, g1, g2⟩ := qi7 (s2 := sS ops X (Lo listed) s ops.length) (h2 := hS W H (Lo listed) h ops.length) hg (λt ht => by
      rw [canS i t ω]
      by_cases hex : ∃ (j : Nat) (p : Oper), ops[j]? = some p /\ p.dst = some t
      . obtain ⟨j, p, hp, hpd⟩ := hex
        have hj := (zC.1 hp).1
        have hLj : Lo listed j = decide (j < i) := by
          by_cases hji : j = i
          . subst hji; rw [hLi]; simp
          . exact hord j p hp hji (hD.look i j o p t hio hp (λe => hji e.symm) hpd ht)
        by_cases hji : j < i
        . rw [q2f hD.dst hp hpd (by rw [hLj]; simp [hji]) _ hj, q2f hD.dst hp hpd (by simp [hji]) _ hj]
        . rw [q1R _ λm q hm hq hL he => by have := hD.dst m j q p t hq hp he hpd; subst this; rw [hLj] at hL; exact hji (by simpa using hL), q1R _ λm q hm hq hL he => by have := hD.dst m j q p t hq hp he hpd; subst this; exact hji (by simpa using hL)]
      . rw [q1R _ λm q _ hq _ he => hex ⟨m, q, hq, he⟩, q1R _ λm q _ hq _ he => hex ⟨m, q, hq, he⟩]) (λid hid => by
      rw [canH i id ω]
      refine qcZ id _ λk hk hw => ?_
      by_cases hki : k = i
      . subst hki; rw [hLi]; simp
      . exact hwr k _ (zD hk) hki id hw hid)
    have e1 : q2w (sS ops X (Lo listed) s ops.length) o.dst (X i) = sS ops X (Lo (listed.setIfInBounds i true)) s ops.length := by
      funext t
      by_cases hex : ∃ (j : Nat) (p : Oper), ops[j]? = some p /\ p.dst = some t
      . obtain ⟨j, p, hp, hpd⟩ := hex
        have hj := (zC.1 hp).1
        by_cases hji : i = j
        . subst hji
          rw [hio] at hp; cases hp
          rw [q2f hD.dst hio hpd (by rw [q64 hli]; simp) _ hj, hpd]
          simp [q2w, pu]
        . have hne : o.dst ≠ some t := λhe => hji (hD.dst i j o p t hio hp he hpd)
          have : q2w (sS ops X (Lo listed) s ops.length) o.dst (X i) t = sS ops X (Lo listed) s ops.length t := by
            cases hod : o.dst with
            | none => rfl
            | some d => simp only [q2w, pu]; rw [if_neg λe => hne (by rw [hod, e])]
          rw [this]
          cases hL : Lo listed j with
          | true => rw [q2f hD.dst hp hpd hL _ hj, q2f hD.dst hp hpd (by rw [q64 hli, if_neg hji]; exact hL) _ hj]
          | false => rw [q1R _ λm q hm hq hL' he => (by have := hD.dst m j q p t hq hp he hpd; subst this; rw [hL] at hL'; cases hL'), q1R _ λm q hm hq hL' he => (by have := hD.dst m j q p t hq hp he hpd; subst this; rw [q64 hli, if_neg hji, hL] at hL'; cases hL')]
      . have hne : o.dst ≠ some t := λhe => hex ⟨i, o, hio, he⟩
        have : q2w (sS ops X (Lo listed) s ops.length) o.dst (X i) t = sS ops X (Lo listed) s ops.length t := by
          cases hod : o.dst with
          | none => rfl
          | some d => simp only [q2w, pu]; rw [if_neg λe => hne (by rw [hod, e])]
        rw [this, q1R _ λm q _ hq _ he => hex ⟨m, q, hq, he⟩, q1R _ λm q _ hq _ he => hex ⟨m, q, hq, he⟩]
    have e2 : h3 = hS W H (Lo (listed.setIfInBounds i true)) h ops.length := by
      funext id
      by_cases hid : id ∈ (W i).2
      . rw [g2.1 id hid, canH (i + 1) id ω]
        refine (qcZ id _ λk hk hw => ?_).symm
        rw [q64 hli]
        by_cases hki : i = k
        . subst hki; simp
        . rw [if_neg hki, hwr k _ (zD hk) (λe => hki e.symm) id hw (zQ _ hid)]
          congr 1
          exact propext ⟨λh => by omega, λh => by omega⟩
      . rw [g2.2 id hid]
        refine (qcZ id _ λk hk hw => ?_).symm
        rw [q64 hli, if_neg λe => by subst e; exact hid hw]
    rw [e2] at g1
    have hcount : ops.length <= fuel + (List.range ops.length).countP (λj => (listed.setIfInBounds i true).getD j true) := by
      have : (List.range ops.length).countP (λj => listed.getD j true) + 1 <= (List.range ops.length).countP (λj => (listed.setIfInBounds i true).getD j true) := by
        have hsplit : List.range ops.length = List.range i ++ i :: (xI (i + 1) (ops.length - i - 1)) := by
          rw [yS, yS, show ops.length = i + (1 + (ops.length - i - 1)) by omega, <- List.range'_append_1, zU]
          congr 1
          rw [show i + (1 + (ops.length - i - 1)) - i - 1 = ops.length - i - 1 by omega, Nat.add_comm 1, List.range'_succ]
        rw [hsplit, xN, xN, List.countP_cons, List.countP_cons]
        have hmono : ∀ (L : List Nat), L.countP (λj => listed.getD j true) <= L.countP (λj => (listed.setIfInBounds i true).getD j true) := by
          intro L
          refine List.countP_mono_left (λj _ hj => ?_)
          rw [q3k hli]
          split
          . rfl
          . exact hj
        have h1 := hmono (List.range i)
        have h2 := hmono (xI (i + 1) (ops.length - i - 1))
        simp only [hnl, q3k hli, if_true, if_false, xO] at h1 h2 ⊢
        omega
      omega
    have hdo : q8c n o = true := by rw [yI] at hd; exact hd _ (zG hio)
    have hput : ∀ v, Rel n (a.put o.dst v) (E.put e' o.dst v) := λv => hr.put o.dst v (by unfold q8c at hdo; cases hx : o.dst <;> simp_all)
    have hstep := q3B (q9f S (hT _ S.ext) hF g1)
    rw [e1] at hstep
    have hnext : ∀ v w'', (∃ ρ', Sat D0 w0 (sS ops X (Lo (listed.setIfInBounds i true)) s ops.length) (hS W H (Lo (listed.setIfInBounds i true)) h ops.length) ρ' (E.put e' o.dst v) w'') -> wpAny P .any ops.toArray Q fuel (listed.setIfInBounds i true) (a.put o.dst v) w'' := λv w'' ⟨ρ', S'⟩ => by
      refine ih _ _ _ _ ρ' hcount (by simpa using hsz) (λk p x hp hL hx hb => ?_) (hput v) (λt ht => ?_) S'
      . rw [q64 hli] at hL ⊢
        split
        . rfl
        . by_cases hki : i = k
          . subst hki
            rw [hio] at hp; cases hp
            exact hdeps' x hx hb
          . rw [if_neg hki] at hL
            exact hcl k p x hp hL hx hb
      . rw [qky (q52 ht i o (by simpa using hio))]
        exact ho t ht
    unfold wpOp
    have hio2 : ops.toArray[i]? = some o := by simpa using hio
    simp only [hio2]
    rw [q6a hr (by simpa using hd)]
    unfold WG at hstep
    split
    . rename_i hw
      rw [if_pos hw] at hstep
      exact .inl (q68 hr hstep λv w'' hv => hnext v w'' hv)
    . rename_i hw
      rw [if_neg hw] at hstep
      exact hnext _ _ hstep
end
abbrev SQ:=Exit->(Nat->PV)->Hp->Prop
def AW [NL] (P:Program) (Tb:World->Prop) (J:Nat->Prop) (n:Nat) (c:Code) (Q:SQ) (s:Nat->PV) (h:Hp):Prop :=
 ∀ D0 (w0:Base) ρ e w,((∀ w,Kp w0.F w0.w w->Tb w)/\∀ i r,w0.J i r->J i)->Fr D0 w0.w->Sat D0 w0 s h ρ e w->W P n c (λx e' w'=>∃ s' h' ρ',Sat D0 w0 s' h' ρ' e' w'/\Q x s' h') e w
def thA (K:(Nat->PV)->Hp->Prop) (Q:SQ):SQ
 | .normal,s,h=>K s h
 | x,s,h=>Q x s h
def inA (id:Nat) (Q:SQ):SQ
 | .exit id',s,h=>if id'=id then Q .normal s h else Q (.exit id') s h
 | x,s,h=>Q x s h
def Le [NL] (J:Nat->Prop) (s:Nat->PV) (h:Hp) (s':Nat->PV) (h':Hp):Prop:=∀ D0 (w0:Base) ρ e w,(∀ i r,w0.J i r->J i)->Sat D0 w0 s h ρ e w->∃ ρ',Sat D0 w0 s' h' ρ' e w
section
variable {P:Program} {Tb:World->Prop} {J:Nat->Prop} {n:Nat} {Q:SQ} {s s':Nat->PV} {h h':Hp}
def q0z [NL] {c:Code} (hl:Le J s h s' h') (hw:AW P Tb J n c Q s' h'):AW P Tb J n c Q s h:=λD0 w0 ρ e w hT hF S=>by
 obtain ⟨ρ',S'⟩:=hl D0 w0 ρ e w hT.2 S;exact hw D0 w0 ρ' e w hT hF S'
def q4G [NL] {a b:Code} (hw:∀ K:(Nat->PV)->Hp->Prop,(∀ s h,AW P Tb J n b Q s h->K s h)->AW P Tb J n a (thA K Q) s h):AW P Tb J n (.seq a b) Q s h:=λD0 w0 ρ e w hT hF S=>by
 refine qqd (q5l (λx e' w' hx=>?_) (hw _ (λ_ _ h=>h) D0 w0 ρ e w hT hF S));obtain ⟨s',h',ρ',S',q⟩:=hx;cases x
 case normal=>exact q D0 w0 ρ' e' w' hT hF S'
 all_goals exact ⟨s',h',ρ',S',q⟩
def qgn [NL] {c:Operand} {a b:Code} {t:Bool} (hc:pe s c=.vl (.bool t)) (ha:t=true->AW P Tb J n a Q s h) (hb:t=false->AW P Tb J n b Q s h):AW P Tb J n (.cond c a b) Q s h:=λD0 w0 ρ e w hT hF S=>by
 have:=S.pex c;rw [hc] at this;unfold Rd at this;exact q8p this (λht=>ha ht D0 w0 ρ e w hT hF S) (λht=>hb ht D0 w0 ρ e w hT hF S)
def A_u [NL] {c:Operand} {a b:Code} {k:Nat} (hc:pe s c=.fm (fNil k)) (ha:k=0->AW P Tb J n a Q s h) (hb:AW P Tb J n b Q s h):AW P Tb J n (.cond c a b) Q s h:=λD0 w0 ρ e w hT hF S=>by
 have:=S.pex c;rw [hc] at this;unfold Rd at this;obtain ⟨t,h1,h2⟩:=this;exact q8p h1 (λht=>ha (h2 ht) D0 w0 ρ e w hT hF S) (λ_=>hb D0 w0 ρ e w hT hF S)
def qkK [NL] {id:Nat} {c:Code} (hw:AW P Tb J n c (inA id Q) s h):AW P Tb J n (.block id c) Q s h:=λD0 w0 ρ e w hT hF S=>by
 refine qqe (q5l (λx e' w' hx=>?_) (hw D0 w0 ρ e w hT hF S));obtain ⟨s',h',ρ',S',q⟩:=hx;cases x
 case exit id' =>
  simp only [inA] at q;simp only [inB]
  split
  .rename_i hid; rw [if_pos hid] at q; exact ⟨s',h',ρ',S',q⟩
  .rename_i hid; rw [if_neg hid] at q; exact ⟨s',h',ρ',S',q⟩
 all_goals exact ⟨s',h',ρ',S',q⟩
def qqs [NL] (hq:Q .normal s h):AW P Tb J n .skip Q s h:=λ_ _ ρ _ _ _ _ S=>qbq ⟨s,h,ρ,S,hq⟩
def qqt [NL] {id:Nat} (hq:Q (.exit id) s h):AW P Tb J n (.exit id) Q s h:=λ_ _ ρ _ _ _ _ S=>qxQ ⟨s,h,ρ,S,hq⟩
def qyT [NL] (hq:Q .ret s h):AW P Tb J n .ret Q s h:=λ_ _ ρ _ _ _ _ S=>qkB ⟨s,h,ρ,S,hq⟩
def qgo [NL] {ops:List Oper} {K:(Nat->PV)->Hp->List FP->Prop} {D0:Nat->Prop} {w0:Base} (hT:∀ w,Kp w0.F w0.w w->Tb w) (hF:Fr D0 w0.w) {K':Env->World->Prop}:∀ (l:List Oper) (s:Nat->PV) (h:Hp) (acc:List FP) (ρ:Nat->Option Nat) (e:Env) (w:World),(∀ s h acc ρ e w,Sat D0 w0 s h ρ e w->K s h acc->K' e w)->AL P Tb ops K l s h acc->Sat D0 w0 s h ρ e w->WL P ops.toArray K' l e w
 | [],s,h,acc,ρ,e,w,hk,hal,S=>hk s h acc ρ e w S hal
 | o :: l,s,h,acc,ρ,e,w,hk,hal,S=>by
  obtain ⟨x,h',fp,h1,h2⟩:=hal;have:=q3B (q9f S (hT _ S.ext) hF h1);exact qaM (λv w' ⟨ρ',S'⟩=>qgo hT hF l _ _ _ ρ' _ _ hk h2 S') this
def qmY [NL] {id:Nat} {l:List Oper} (hw:∀ K:(Nat->PV)->Hp->Prop,(∀ s h,Q .normal s h->K s h)->AL P Tb l (λs h _=>K s h) l s h []):AW P Tb J n (.region id l.toArray false) Q s h:=λD0 w0 ρ e w hT hF S=>by
 have h1:=hw _ λ_ _ h=>h;refine q4B ?_;exact qgo (K':=λe' w'=>∃ s' h' ρ',Sat D0 w0 s' h' ρ' e' w'/\Q .normal s' h') hT.1 hF l s h [] ρ e w (λs h _ ρ e w S hq=>⟨s,h,ρ,S,hq⟩) h1 S
def Sat.drew [NL] {D0:Nat->Prop} {w0:Base} {ρ:Nat->Option Nat} {e:Env} {w:World} (S:Sat D0 w0 s h ρ e w) (k:Nat):Sat D0 w0 s h ρ e { w with drawn:=k }:=S.extend (Kp.drew w k)
def qd9 [NL] {o:Oper} {x:PV} {fp:FP} (hs:Stp P Tb o s h x h' fp):(cls o=0->fp=([],[]))/\(cls o=1->fp.2=[])/\(cls o=2->fp.1=[]/\(fp.2=[]\/∃ d,o.dst=some d/\fp.2=[d])):=by
 obtain ⟨dst,op,ty,pos,af,gd⟩:=o;unfold Stp at hs;unfold cls;cases op <;> simp only at hs ⊢ <;> (try (exact ⟨λ_=>hs.2.2,λh=>(by cases h),λh=>(by cases h)⟩))
 case load t a=>obtain ⟨r,h1,rfl,rfl,rfl⟩:=hs; exact ⟨λh=>(by cases h),λ_=>rfl,λh=>(by cases h)⟩
 case alloc t=>obtain ⟨d,b,rfl,h1,h3,rfl,rfl,rfl⟩:=hs; exact ⟨λh=>(by cases h),λh=>(by cases h),λ_=>⟨rfl,.inr ⟨d,rfl,rfl⟩⟩⟩
 case box t v=>obtain ⟨d,k,rfl,h1,h3,h4,rfl,rfl,rfl⟩:=hs; exact ⟨λh=>(by cases h),λh=>(by cases h),λ_=>⟨rfl,.inr ⟨d,rfl,rfl⟩⟩⟩
 case buildSlice t len ps=>obtain ⟨d,E,k,bytes,rfl,h1,h3,h4,h5,h6,rfl,rfl,rfl⟩:=hs; exact ⟨λh=>(by cases h),λh=>(by cases h),λ_=>⟨rfl,.inr ⟨d,rfl,rfl⟩⟩⟩
 case makeSlice t l c=>obtain ⟨d,E,k,bytes,z,kl,kc,n,m,rfl,h1,h3,h4,h5,h8,h6,h7,rfl,rfl,rfl⟩:=hs; exact ⟨λh=>(by cases h),λh=>(by cases h),λ_=>⟨rfl,.inr ⟨d,rfl,rfl⟩⟩⟩
 case store t a v=>exact ⟨λh=>(by cases h),λh=>(by cases h),λh=>(by cases h)⟩
 case call c =>
  obtain ⟨callee,args,tys⟩:=c;simp only at hs ⊢;cases callee
  case builtin b=>cases b <;> simp only at hs ⊢ <;> first | exact ⟨λ_=>hs.2.2,λh=>(by cases h),λh=>(by cases h)⟩ | exact ⟨λh=>(by cases h),λh=>(by cases h),λh=>(by cases h)⟩
  case value f =>
   cases f <;> simp only at hs ⊢
   case func f=>obtain ⟨al,ids,h1,h3,h4,rfl,rfl⟩:=hs; exact ⟨λh=>(by cases h),λ_=>rfl,λh=>(by cases h)⟩
   case tmp t=>obtain ⟨f,ys,al,ids,g0,h1,h3,h4,rfl,rfl⟩:=hs; exact ⟨λh=>(by cases h),λ_=>rfl,λh=>(by cases h)⟩
   all_goals exact ⟨λ_=>hs.2.2,λh=>(by cases h),λh=>(by cases h)⟩
  case invoke r m=>exact ⟨λ_=>hs.2.2,λh=>(by cases h),λh=>(by cases h)⟩
def qln [NL] {o:Oper} {x:PV} {fp:FP} {ops:List Oper} (hs:q7f P Tb ops o s h x h' fp):(cls o=0->fp=([],[]))/\(cls o=1->fp.2=[])/\(cls o=2->fp.1=[]/\(fp.2=[]\/∃ d,o.dst=some d/\fp.2=[d])):=by
 unfold q7f at hs
 split at hs
 .exact qd9 hs
 .obtain ⟨c,_,hs⟩:=hs
  split at hs
  .exact qd9 hs
  .obtain ⟨_,_,rfl⟩:=hs;exact ⟨λ_=>rfl,λ_=>rfl,λ_=>⟨rfl,.inl rfl⟩⟩
def qar:∀ {l:List (Nat × Nat)} {a b:Nat},qt4 l a b=true->(a,b) ∈ l
 | p :: l,a,b,hp=>by
  simp only [qt4,vP,zX] at hp
  rcases hp with ⟨h1,h2⟩ | h
  .rw [<- zJ h1,<- zJ h2]; exact zV
  .exact zN _ (qar h)
 | [],_,_,hp=>by cases hp
def qgm [NL] {id:Nat} {l:List Oper} (prs:List (Nat × Nat)) (hm:P.follows .mixedOrders=true) (hok:q9q l (qlR [] l) prs=true) (hw:∀ K:(Nat->PV)->Hp->Prop,(∀ s h,Q .normal s h->K s h)->AL P Tb l (λs h acc=>chk prs acc.reverse/\K s h) l s h []):AW P Tb J n (.region id l.toArray true) Q s h:=λD0 w0 ρ e w hT hF S=>by
 have h1:=hw _ λ_ _ h=>h;obtain ⟨X,H,W,hG,hck,hq⟩:=qri l s h [] h1;have hD:=Drw.of hok;rw [xD,List.reverse_reverse] at hck;intro hd a hr;have hd':l.all (q8c n)=true:=hd;refine wp_mono (Q:=λx a' w'=>x=.normal/\qkE n (.region id l.toArray true) e (λx e' w'=>∃ s' h' ρ',Sat D0 w0 s' h' ρ' e' w'/\Q x s' h') .normal a' w') (wp_region_any hm ?_) λx a' w' hq=>by rw [hq.1]; exact hq.2
 have hdyn:∀ (i j:Nat) (o p:Oper),l[i]?=some o->l[j]?=some p->j < i->((qlR [] l).getD i 0).testBit j=true\/dj (W j) (W i):=λi j o p ho hp hji=>by
  rcases hD.par i j o p ho hp hji with h | h | h
  .exact .inl h
  .refine .inr ?_;have c1:=qln (hG j p hp);have c2:=qln (hG i o ho);unfold harm at h;simp only [vP,zX] at h
   rcases h with ((h | h) | h) | h
   .rw [c1.1 (zJ h)]; exact ⟨λx hx=>(by cases hx),λx _ hx=>(by cases hx)⟩
   .rw [c2.1 (zJ h)]; exact ⟨λx _=>⟨λhx=>(by cases hx),λhx=>(by cases hx)⟩,λx hx=>(by cases hx)⟩
   .have e1:=c1.2.1 (zJ h.1);have e2:=c2.2.1 (zJ h.2);exact ⟨λx hx=>(by rw [e1] at hx; cases hx),λx hx=>(by rw [e2] at hx; cases hx)⟩
   .obtain ⟨e1,e2⟩:=c1.2.2 (zJ h.1);obtain ⟨e3,e4⟩:=c2.2.2 (zJ h.2);refine ⟨λx hx=>⟨by rw [e3]; simp,λhx2=>?_⟩,λx _=>by rw [e1]; simp⟩
    rcases e2 with e2 | ⟨d,hd1,e2⟩
    .rw [e2] at hx; cases hx
    .rcases e4 with e4 | ⟨d',hd2,e4⟩
     .rw [e4] at hx2; cases hx2
     .rw [e2] at hx; rw [e4] at hx2;simp at hx hx2;subst hx;subst hx2;have:=hD.dst i j o p x ho hp hd2 hd1;omega
  .have:=hck (j,i) (qar h);have g:∀ k,k < l.length->((List.range l.length).map W).getD k ([],[])=W k:=λk hk=>by simp [yG,hk]
   simp only [g j (zC.1 hp).1,g i (zC.1 ho).1] at this;exact .inr this
 have:=qpQ (P:=P) (Tb:=Tb) (n:=n) (e0:=e) (Q:=λx a' w'=>x=.normal/\qkE n (.region id l.toArray true) e (λx e' w'=>∃ s' h' ρ',Sat D0 w0 s' h' ρ' e' w'/\Q x s' h') .normal a' w') hD hd' hT.1 hF hG hdyn (λa' e' w' ρ' r' S' ho=>⟨rfl,e',r',ho,⟨_,_,ρ',S',hq⟩⟩) l.length (yV l.length false) a e { w with drawn:=w.drawn+1 } ρ ω σ (λk o x ho hl=>by
  simp only [Lo,zY,yL] at hl
  split at hl <;> cases hl) hr (λ_ _=>rfl) (by
  have e1:sS l X (Lo (yV l.length false)) s l.length=s:=by
   funext t
   exact q1R _ λk o _ _ hl=>by
    simp only [Lo,zY,yL] at hl
    split at hl <;> cases hl
  have e2:hS W H (Lo (yV l.length false)) h l.length=h:=by
   have:∀ m,hS W H (Lo (yV l.length false)) h m=h:=λm=>by
    induction m with
    | zero=>rfl
    | succ m ih =>
     rw [hS_s,if_neg,ih];simp only [Lo,zY,yL]
     split <;> simp
   exact this _
  rw [e1,e2];exact S.drew _)
 simpa using this
def qgl [NL] {ι:Type} {c:Code} (Ss:ι->Nat->PV) (Hs:ι->Hp) (μ:ι->Nat) (i0:ι) (hl:Le J s h (Ss i0) (Hs i0))
  (round:∀ i,AW P Tb J n c (thA (λs' h'=>∃ j,Le J s' h' (Ss j) (Hs j)/\μ j < μ i) Q) (Ss i) (Hs i)):AW P Tb J n (.loop c) Q s h:=λD0 w0 ρ e w hT hF S=>by
 intro hd a hr;obtain ⟨ρ0,S0⟩:=hl _ _ _ _ _ hT.2 S;have main:∀ (m:Nat) (i:ι) (ρ:Nat->Option Nat) (e':Env) (w':World) (a':Act),μ i < m->Sat D0 w0 (Ss i) (Hs i) ρ e' w'->Rel n a' e'->(∀ t,wr t c=false->e' t=e t)->Code.rounds P c (qkE n (.loop c) e (λx e' w'=>∃ s' h' ρ',Sat D0 w0 s' h' ρ' e' w'/\Q x s' h')) m a' w':=by
  intro m
  induction m with
  | zero=>intro i _ _ _ _ hm; omega
  | succ m ih =>
   intro i ρ e' w' a' hm S' r' f';refine wp_mono (round i D0 w0 ρ e' w' hT hF S' hd a' r') ?_;rintro x a2 w2 ⟨e2,r2,f2,q2⟩;obtain ⟨s2,h2,ρ2,S2,q⟩:=q2;cases x
   case normal =>
    obtain ⟨j,hlj,hmj⟩:=q;obtain ⟨ρ3,S3⟩:=hlj _ _ _ _ _ hT.2 S2;exact ih j ρ3 e2 w2 a2 Oq S3 r2 λt ht=>(f2 t ht).trans (f' t ht)
   all_goals exact ⟨e2,r2,λt ht=>(f2 t ht).trans (f' t ht),s2,h2,ρ2,S2,q⟩
 exact wp_loop_rounds (μ i0+1) (main _ i0 ρ0 e w a Oq S0 hr λ_ _=>rfl)
end
def qgd [NL] {w:World} {D:Nat->Prop} {ρ:Nat->Option Nat} {h:Hp}:∀ {l vs:List Value},RdL w D (l.map .vl) ρ h vs->vs=l
 | [],vs,hr=>by unfold RdL at hr; exact hr
 | x :: l,vs,hr=>by
  rw [vS] at hr;unfold RdL at hr;obtain ⟨y,ys,rfl,h1,h2⟩:=hr;unfold Rd at h1;rw [h1,qgd h2]
inductive LeV (τ:Nat->Option Nat) (h h':Hp):PV->PV->Prop
 | un {x:PV}:LeV τ h h' x .un
 | cl {x:PV}:Cld x->LeV τ h h' x x
 | ow {i j:Nat} {k:Kd} {off n:Nat} {b:Bk}:τ i=some j->h' i=some b->LeV τ h h' (.ow j k off n) (.ow i k off n)
 | pt {i j a c:Nat} {b:Bk}:τ i=some j->h' i=some b->LeV τ h h' (.pt j a c) (.pt i a c)
 | nilow {i:Nat} {k:Kd} {b:Bk}:τ i=none->h' i=some b->b.k=k->LeV τ h h' (.vl (.slice none 0 0)) (.ow i k 0 0)
 | nilsl {k:Kd}:LeV τ h h' (.vl (.slice none 0 0)) (.sl k [])
 | nilfm {G:Fam}:(∀ D w,In G D (.slice none 0 0) w)->LeV τ h h' (.vl (.slice none 0 0)) (.fm G)
 | agv {l:List Value} {G:Fam}:(∀ D w,In G D (.agg ⟨l⟩) w)->LeV τ h h' (.ag (l.map .vl)) (.fm G)
 | fz {j:Nat} {k:Kd} {off n:Nat} {b:Bk}:h j=some b->b.st=false->b.k=k->(∀ x ∈ b.xs,Cld x)->(∀ i,τ i=some j->h' i=none)->LeV τ h h' (.ow j k off n) (.sl k ((b.xs.drop off).take n))
 | fzg {j:Nat} {k:Kd} {off n:Nat} {b:Bk} {ys:List PV}:h j=some b->b.st=false->b.k=k->b.xs.length=ys.length->(∀ (i:Nat) (x y:PV),b.xs[i]?=some x->ys[i]?=some y->LeV τ h h' x y)->(∀ y ∈ ys,Cld y)->(∀ i,τ i=some j->h' i=none)->LeV τ h h' (.ow j k off n) (.sl k ((ys.drop off).take n))
 | pq {j i:Nat} {b:Bk} {u:Value}:h j=some b->b.st=false->b.k=none->b.xs[i]?=some (.vl u)->(∀ i,τ i=some j->h' i=none)->LeV τ h h' (.pt j i 0) (.qt none (.vl u))
 | ag {l m:List PV}:l.length=m.length->(∀ (i:Nat) (x y:PV),l[i]?=some x->m[i]?=some y->LeV τ h h' x y)->LeV τ h h' (.ag l) (.ag m)
 | tu {l m:List PV}:l.length=m.length->(∀ (i:Nat) (x y:PV),l[i]?=some x->m[i]?=some y->LeV τ h h' x y)->LeV τ h h' (.tu l) (.tu m)
def LeL (τ:Nat->Option Nat) (h h':Hp) (l m:List PV):Prop:=l.length=m.length/\∀ (i:Nat) (x y:PV),l[i]?=some x->m[i]?=some y->LeV τ h h' x y
def LeB (τ:Nat->Option Nat) (h h':Hp) (i:Nat) (b':Bk):Prop :=
 match τ i with
 | some j=>∃ b,h j=some b/\b'.T=b.T/\b'.k=b.k/\(b'.st=false/\b.st=false)/\LeL τ h h' b.xs b'.xs
 | none=>b'.xs=[]
section
variable {P:Program} {Tb:World->Prop} {J:Nat->Prop} {n:Nat} {Q:SQ} {s s':Nat->PV} {h h':Hp} {τ:Nat->Option Nat}
def q4C [NL] (τ:Nat->Option Nat) (hb:∀ i b',h' i=some b'->LeB τ h h' i b') (hi:∀ i j k b c,h' i=some b->h' j=some c->τ i=some k->τ j=some k->i=j) (hs:∀ t,LeV τ h h' (s t) (s' t)) (hτ:∀ i,J i->5000<=i->i < 1000000->τ i=some i):Le J s h s' h':=λD0 w0 ρ e w hJ S=>by
 let ρ':Nat->Option Nat:=λi=>(τ i).bind ρ
 have hdd:∀ k,dm D0 ρ h k->dm D0 ρ' h' k:=λk hk=>⟨hk.1,λi b' hb' hr=>by
  have:=hb i b' hb';unfold LeB at this;cases ht:τ i with
  | none=>simp only [ρ',ht] at hr; cases hr
  | some j =>
   rw [ht] at this;obtain ⟨b,h1,_⟩:=this;simp only [ρ',ht,zF] at hr;exact hk.2 j b h1 hr⟩
 have key:∀ {x y:PV},LeV τ h h' x y->∀ {v:Value},Rd w (dm D0 ρ h) x ρ h v->Rd w (dm D0 ρ' h') y ρ' h' v:=λ{x y} hl=>by
  induction hl with
  | un=>intro v _; unfold Rd; trivial
  | cl hc=>intro v hr; exact ((q6Y hc hr).sub λk _ hk=>hdd k hk).cl
  | @ow i j k off n b' ht hb' =>
   intro v hr;have:=hb i b' hb';unfold LeB at this;rw [ht] at this;obtain ⟨b,h1,_,h2,_,h3,_⟩:=this;unfold Rd at hr ⊢;obtain ⟨b2,A,c,r1,r2,r3,r4,r5,r6,r7,r8⟩:=hr;rw [h1] at r1; cases r1;have mv:∀ {A:Option Addr} {a m:Nat},AtO w (ρ j) A a m->AtO w (ρ' i) A a m:=λ⟨g,a1,a2,a3⟩=>⟨g,by simp only [ρ',ht,zF]; exact a1,a2,a3⟩;exact ⟨b',A,c,hb',by rw [h2,r2],r3,r4,r5,ω,r7.imp (λh=>h) mv,λh0=>(r8 h0).imp (λh=>h) mv⟩
  | @pt i j a c b' ht hb' =>
   intro v hr;have:=hb i b' hb';unfold LeB at this;rw [ht] at this;obtain ⟨b,h1,_,h2,_,h3,_⟩:=this;unfold Rd at hr ⊢;obtain ⟨b2,g,r1,r2,r3,r4⟩:=hr;rw [h1] at r1; cases r1;exact ⟨b',g,hb',by simp only [ρ',ht,zF]; exact r2,ω,by rw [h2]; exact r4⟩
  | @nilow i k b' ht hb' hk =>
   intro v hr;unfold Rd at hr ⊢;exact ⟨b',none,0,hb',hk,hr,zP _,by simp [maxLen],ω,.inl rfl,λ_=>.inl ⟨rfl,rfl⟩⟩
  | nilsl =>
   intro v hr;unfold Rd at hr ⊢;exact ⟨none,0,0,[],hr,Row.nil _ _ _,rfl,by unfold RdL; rfl,λv hv=>by cases hv⟩
  | nilfm hG =>
   intro v hr;unfold Rd at hr ⊢;rw [hr];exact hG _ _
  | @agv l G hG =>
   intro v hr;unfold Rd at hr ⊢;obtain ⟨vs,rfl,hr⟩:=hr;rw [qgd hr];exact hG _ _
  | @pq j i b u hj hst hk hu hno =>
   intro v hr;unfold Rd at hr;obtain ⟨b2,g,r1,r2,r3,r4⟩:=hr;rw [hj] at r1; cases r1;obtain ⟨v',q1,q2,q3⟩:=(S.own j b g hj r2).2.unit hst hu;unfold Rd at q1;subst q1;rw [hk] at q2 q3 r4;unfold Rd;refine ⟨_,v',r4,⟨(S.own j b g hj r2).1.2,λi b' hb' hr'=>?_⟩,by unfold Rd; rfl,⟨q2,Nat.one_pos⟩,λj t ht=>by rw [q1v]; exact q3 j t ht⟩;have h7:=hb i b' hb';unfold LeB at h7;cases ht:τ i with
   | none=>simp only [ρ',ht] at hr'; cases hr'
   | some j' =>
    rw [ht] at h7;obtain ⟨b2,e1,_,_,⟨_,e2⟩,_⟩:=h7;simp only [ρ',ht,zF] at hr'
    rcases S.inj j' j b2 b g e1 hj hst hr' r2 with e | e
    .subst e;have:=hno i ht;rw [hb'] at this; cases this
    .rw [e2] at e; cases e
  | @fz j k off n b hj hst hk hcl hno =>
   intro v hr;subst hk;obtain ⟨A,c,vs,rfl,q1,q2,q3⟩:=S.row hj hst hr;have hb0:off+n<=b.xs.length:=by
    unfold Rd at hr;obtain ⟨b',_,_,h1,_,_,_,_,h5,_⟩:=hr;rw [hj] at h1; cases h1; exact h5
   unfold Rd;refine ⟨A,n,c,vs,rfl,q1.sub λk _ hk=>⟨(S.own j b k hj hk).1.2,λi b' hb' hr'=>?_⟩,by simp; omega,?_,q3⟩
   .have h7:=hb i b' hb';unfold LeB at h7;cases ht:τ i with
    | none=>simp only [ρ',ht] at hr'; cases hr'
    | some j' =>
     rw [ht] at h7;obtain ⟨b2,e1,_,_,⟨_,e2⟩,_⟩:=h7;simp only [ρ',ht,zF] at hr'
     rcases S.inj j' j b2 b k e1 hj hst hr' hk with e | e
     .subst e;have:=hno i ht;rw [hb'] at this; cases this
     .rw [e2] at e; cases e
   .obtain ⟨q4,q5⟩:=RdL.iff.1 q2;exact RdL.iff.2 ⟨q4,λi z v hz hv=>(q6Y (hcl z (zL (zM (zG hz)))) (q5 i z v hz hv)).sub λk _ hk=>hdd k hk⟩
  | @fzg j k off n b ys hj hst hk hly _ hcl hno ih =>
   intro v hr;subst hk;obtain ⟨A,c,vs,rfl,q1,q2,q3⟩:=S.row hj hst hr;have hb0:off+n<=b.xs.length:=by
    unfold Rd at hr;obtain ⟨b',_,_,h1,_,_,_,_,h5,_⟩:=hr;rw [hj] at h1; cases h1; exact h5
   unfold Rd;refine ⟨A,n,c,vs,rfl,q1.sub λk _ hk=>⟨(S.own j b k hj hk).1.2,λi b' hb' hr'=>?_⟩,by simp; omega,?_,q3⟩
   .have h7:=hb i b' hb';unfold LeB at h7;cases ht:τ i with
    | none=>simp only [ρ',ht] at hr'; cases hr'
    | some j' =>
     rw [ht] at h7;obtain ⟨b2,e1,_,_,⟨_,e2⟩,_⟩:=h7;simp only [ρ',ht,zF] at hr'
     rcases S.inj j' j b2 b k e1 hj hst hr' hk with e | e
     .subst e;have:=hno i ht;rw [hb'] at this; cases this
     .rw [e2] at e; cases e
   .obtain ⟨q4,q5⟩:=RdL.iff.1 q2;refine RdL.iff.2 ⟨by rw [<- q4]; simp [hly],λi z v hz hv=>?_⟩;have hin:i < n:=by
     rcases yZ i n with h | h
     .exact h
     .rw [vQ (by simp; omega)] at hz; cases hz
    have hz2:ys[off+i]?=some z:=by rw [zH,if_pos hin,zO] at hz; exact hz
    obtain ⟨x,hx⟩:∃ x,b.xs[off+i]?=some x:=⟨_,zD Oq⟩;have hx2:((b.xs.drop off).take n)[i]?=some x:=by rw [zH,if_pos hin,zO]; exact hx
    exact q6Y (hcl z (zG hz2)) (ih (off+i) x z hx hz2 (q5 i x v hx2 hv))
  | ag hlen _ ih =>
   intro v hr;unfold Rd at hr ⊢;obtain ⟨vs,r1,r2⟩:=hr;obtain ⟨r3,r4⟩:=RdL.iff.1 r2;refine ⟨vs,r1,RdL.iff.2 ⟨ω,λi y v hy hv=>?_⟩⟩;have hlt:=(zC.1 hy).1;have hx:=zD (show i < _ by rw [hlen]; exact hlt);exact ih i _ y hx hy (r4 i _ v hx hv)
  | tu hlen _ ih =>
   intro v hr;unfold Rd at hr ⊢;obtain ⟨vs,r1,r2⟩:=hr;obtain ⟨r3,r4⟩:=RdL.iff.1 r2;refine ⟨vs,r1,RdL.iff.2 ⟨ω,λi y v hy hv=>?_⟩⟩;have hlt:=(zC.1 hy).1;have hx:=zD (show i < _ by rw [hlen]; exact hlt);exact ih i _ y hx hy (r4 i _ v hx hv)
 refine ⟨ρ',λi j b c g bi bj hst ri rj=>?_,λi b' g bi ri=>?_,λi b' bi ri=>?_,λt=>key (hs t) (S.rd t),S.ext,S.fr,S.imp,λi g hj=>by simp only [ρ',hτ i (hJ i g hj) (w0.lo i g hj).1 (w0.lo i g hj).2,zF]; exact S.pin i g hj⟩
 .have h1:=hb i b bi;have h2:=hb j c bj;unfold LeB at h1 h2;cases t1:τ i with
  | none=>simp only [ρ',t1] at ri; cases ri
  | some i' =>
   cases t2:τ j with
   | none=>simp only [ρ',t2] at rj; cases rj
   | some j' =>
    rw [t1] at h1;rw [t2] at h2;obtain ⟨b1,q1,_,_,⟨q2,q2'⟩,_⟩:=h1;obtain ⟨b2,q3,_,_,⟨q4,q4'⟩,_⟩:=h2;simp only [ρ',t1,t2,zF] at ri rj
    rcases S.inj i' j' b1 b2 g q1 q3 q4' ri rj with h | h
    .subst h; exact .inl (hi i j i' b c bi bj t1 t2)
    .rw [q2'] at h; cases h
 .have h1:=hb i b' bi;unfold LeB at h1;cases t1:τ i with
  | none=>simp only [ρ',t1] at ri; cases ri
  | some j =>
   rw [t1] at h1;obtain ⟨b,q1,q2,q3,q4,q5,q6⟩:=h1;simp only [ρ',t1,zF] at ri;obtain ⟨a1,cs,c1,c2,c3⟩:=S.own j b g q1 ri;refine ⟨a1,cs,by rw [q2]; exact c1,c2,λhst=>?_⟩;obtain ⟨vs,v1,v2,v3⟩:=c3 q4.2;obtain ⟨r3,r4⟩:=RdL.iff.1 v2;refine ⟨vs,by rw [<- q5,q3]; exact v1,RdL.iff.2 ⟨ω,λm y v hy hv=>?_⟩,by rw [q3]; exact v3⟩;have hlt:=(zC.1 hy).1;have hx:=zD (show m < b.xs.length by omega);exact key (q6 m _ y hx hy) (r4 m _ v hx hv)
 .have h1:=hb i b' bi;unfold LeB at h1;cases t1:τ i with
  | none=>rw [t1] at h1; exact h1
  | some j =>
   rw [t1] at h1;obtain ⟨b,q1,q2,q3,q4,q5,q6⟩:=h1;simp only [ρ',t1,zF] at ri;have:=S.vir j b q1 ri;rw [this] at q5;exact zS q5.symm
end
def lkP:List (Nat × PV)->Nat->Option PV
 | [],_=>none
 | p :: l,t=>if t=p.1 then some p.2 else lkP l t
def lkB:List (Nat × Bk)->Nat->Option Bk
 | [],_=>none
 | p :: l,t=>if t=p.1 then some p.2 else lkB l t
def kin:List Nat->Nat->Bool
 | [],_=>false
 | a :: l,t=>if t=a then true else kin l t
def stK (xs:List (Nat × PV)) (ks:List Nat) (s:Nat->PV) (t:Nat):PV:=match lkP xs t with | some x=>x | none=>if kin ks t then s t else .un
def hpK (bs:List (Nat × Bk)) (kb:List Nat) (h:Hp) (i:Nat):Option Bk:=match lkB bs i with | some b=>some b | none=>if kin kb i then h i else none
def q0b:List (Nat × Option Nat)->Nat->Option Nat
 | [],i=>some i
 | p :: l,i=>if i=p.1 then p.2 else q0b l i
def qrv:List (Nat × Option Nat)->Bool
 | []=>true
 | p :: l=>(Nat.blt p.1 5000 || Nat.ble 1000000 p.1) && qrv l
def q9O:∀ {l:List (Nat × Option Nat)},qrv l=true->∀ i,5000<=i->i < 1000000->q0b l i=some i
 | [],_,_,_,_=>rfl
 | p :: l,ht,i,hi,hi2=>by
  simp only [qrv,zX,vP] at ht;have h1:p.1 < 5000\/1000000<=p.1:=ht.1.imp (λh=>by simp [Nat.blt] at h; omega) (λh=>Nat.le_of_ble_eq_true h);unfold q0b;rw [if_neg ω];exact q9O ht.2 i hi hi2
def q4f (τ:Nat->Option Nat) (h h':Hp) (s:Nat->PV):List (Nat × PV)->Prop
 | []=>True
 | p :: l=>LeV τ h h' (s p.1) p.2/\q4f τ h h' s l
def LeSk (τ:Nat->Option Nat) (h h':Hp) (s s0:Nat->PV):List Nat->Prop
 | []=>True
 | t :: l=>LeV τ h h' (s t) (s0 t)/\LeSk τ h h' s s0 l
def qcg (τ:Nat->Option Nat) (h h':Hp):List (Nat × Bk)->Prop
 | []=>True
 | p :: l=>LeB τ h h' p.1 p.2/\qcg τ h h' l
def LeBk (τ:Nat->Option Nat) (h h' h0:Hp):List Nat->Prop
 | []=>True
 | i :: l=>(∀ b,h0 i=some b->LeB τ h h' i b)/\LeBk τ h h' h0 l
def dom1 (bs:List (Nat × Bk)) (kb:List Nat):List Nat:=bs.map (·.1) ++ kb
def q7v (τ:Nat->Option Nat):List Nat->Prop
 | []=>True
 | i :: l=>(∀ j ∈ l,i=j\/τ i=none\/τ i≠τ j)/\q7v τ l
section
variable {P:Program} {Tb:World->Prop} {J:Nat->Prop} {n:Nat} {Q:SQ} {s s' s0:Nat->PV} {h h' hb0:Hp} {τ:Nat->Option Nat} {xs:List (Nat × PV)} {ks kb:List Nat} {bs:List (Nat × Bk)}
def q34:∀ {l:List Nat},q7v τ l->∀ i ∈ l,∀ j ∈ l,i=j\/τ i=none\/τ i≠τ j
 | a :: l,ht,i,hi,j,hj=>by
  rcases yK.1 hi with h1 | h1 <;> rcases yK.1 hj with h2 | h2
  .exact .inl (h1.trans h2.symm)
  .rw [h1]; exact ht.1 j h2
  .rw [h2]
   rcases ht.1 i h1 with h | h | h
   .exact .inl h.symm
   .by_cases h2:τ i=none
    .exact .inr (.inl h2)
    .exact .inr (.inr (by rw [h]; exact h2))
   .exact .inr (.inr (λe=>h e.symm))
  .exact q34 ht.2 i h1 j h2
def stV:List (Nat × PV)->Nat->PV
 | [],_=>.un
 | p :: l,t=>if t=p.1 then p.2 else stV l t
def stM:List (Nat × PV)->List (Nat × PV)->Nat->PV
 | [],kv,t=>stV kv t
 | p :: l,kv,t=>if t=p.1 then p.2 else stM l kv t
def hpV:List (Nat × Option Bk)->Hp
 | [],_=>none
 | p :: l,i=>if i=p.1 then p.2 else hpV l i
def hpM:List (Nat × Bk)->List (Nat × Option Bk)->Hp
 | [],kb,i=>hpV kb i
 | p :: l,kb,i=>if i=p.1 then some p.2 else hpM l kb i
def q9B (τ:Nat->Option Nat) (h h':Hp):List (Nat × Option Bk)->Prop
 | []=>True
 | p :: l=>(∀ b,p.2=some b->LeB τ h h' p.1 b)/\q9B τ h h' l
def qmQ:∀ {kv:List (Nat × PV)},q4f τ h h' s kv->∀ t,LeV τ h h' (s t) (stV kv t)
 | [],_,_=>.un
 | p :: l,hl,t=>by
  unfold stV
  split
  .rename_i ht; subst ht; exact hl.1
  .exact qmQ hl.2 t
def q66 {kv:List (Nat × PV)} (h2:q4f τ h h' s kv):∀ {xs:List (Nat × PV)},q4f τ h h' s xs->∀ t,LeV τ h h' (s t) (stM xs kv t)
 | [],_,t=>qmQ h2 t
 | p :: l,hl,t=>by
  unfold stM
  split
  .rename_i ht; subst ht; exact hl.1
  .exact q66 h2 hl.2 t
def qbr {h2:Hp}:∀ {kb:List (Nat × Option Bk)},q9B τ h h2 kb->∀ i b,hpV kb i=some b->LeB τ h h2 i b/\i ∈ kb.map (·.1)
 | [],_,_,_,hb=>by cases hb
 | p :: l,hl,i,b,hb=>by
  unfold hpV at hb
  split at hb
  .rename_i hi; subst hi; exact ⟨hl.1 b hb,zV⟩
  .have:=qbr hl.2 i b hb; exact ⟨this.1,zN _ this.2⟩
def q4D {h2:Hp} {kb:List (Nat × Option Bk)} (hk:q9B τ h h2 kb):∀ {bs:List (Nat × Bk)},qcg τ h h2 bs->∀ i b,hpM bs kb i=some b->LeB τ h h2 i b/\i ∈ bs.map (·.1) ++ kb.map (·.1)
 | [],_,i,b,hb=>qbr hk i b hb
 | p :: l,hl,i,b,hb=>by
  unfold hpM at hb
  split at hb
  .rename_i hi; subst hi; cases hb; exact ⟨hl.1,zV⟩
  .have:=q4D hk hl.2 i b hb; exact ⟨this.1,zN _ this.2⟩
def LeM [NL] (l:List (Nat × Option Nat)) (hl:qrv l=true) {τ:Nat->Option Nat} (hlt:q0b l=τ) {kv:List (Nat × PV)} {kb:List (Nat × Option Bk)} (hh:q4f τ h (hpM bs kb) s xs/\q4f τ h (hpM bs kb) s kv/\qcg τ h (hpM bs kb) bs/\q9B τ h (hpM bs kb) kb/\q7v τ (bs.map (·.1) ++ kb.map (·.1))):Le J s h (stM xs kv) (hpM bs kb):=by
 obtain ⟨h1,h2,h3,h4,h5⟩:=hh;refine q4C τ (λi b hb=>(q4D h4 h3 i b hb).1) (λi j k b c hi hj ti tj=>?_) (λt=>q66 h2 h1 t) (by rw [<- hlt]; exact λi _=>q9O hl i)
 rcases q34 h5 i (q4D h4 h3 i b hi).2 j (q4D h4 h3 j c hj).2 with h | h | h
 .exact h
 .rw [ti] at h; cases h
 .rw [ti,tj] at h; exact absurd rfl h
def q0B [NL] {ι:Type} {c:Code} (I:ι->Prop) (ks kb:List Nat) {kv:List (Nat × PV)} {kbv:List (Nat × Option Bk)} (hk:(ks.map λt=>(t,s t))=kv) (hb:(kb.map λi=>(i,h i))=kbv) (xs:ι->List (Nat × PV)) (bs:ι->List (Nat × Bk)) (μ:ι->Nat) (i0:ι) (hI:I i0) (hl:Le J s h (stM (xs i0) kv) (hpM (bs i0) kbv))
  (round:∀ i,I i->AW P Tb J n c (thA (λs' h'=>∃ j,I j/\μ j < μ i/\Le J s' h' (stM (xs j) kv) (hpM (bs j) kbv)) Q) (stM (xs i) kv) (hpM (bs i) kbv)):AW P Tb J n (.loop c) Q s h :=
 qgl (ι:={i:ι // I i}) (λi=>stM (xs i.1) kv) (λi=>hpM (bs i.1) kbv) (λi=>μ i.1) ⟨i0,hI⟩ hl λi=>by
  intro D0 w0 ρ e w hT hF S;refine q5l (λx e' w' hx=>?_) (round i.1 i.2 D0 w0 ρ e w hT hF S);obtain ⟨s',h',ρ',S',q⟩:=hx;refine ⟨s',h',ρ',S',?_⟩;cases x
  case normal=>obtain ⟨j,h1,h2,h3⟩:=q; exact ⟨⟨j,h1⟩,h3,h2⟩
  all_goals exact q
def enP (l:List PV) (i:Nat):PV:=l.getD i .un
def rsP (P:Program) (h:Hp) (s:Nat->PV):ResultVar->Option PV
 | .tmp t=>some (s t)
 | .cell a t=>(ldP h (q0c P t) (s a)).map (·.1)
def rsL (P:Program) (h:Hp) (s:Nat->PV):List ResultVar->Option (List PV)
 | []=>some []
 | r :: l=>(rsP P h s r).bind λx=>(rsL P h s l).map λy=>x :: y
def mkV:List Value->Value
 | [x]=>x
 | l=>.tuple ⟨l⟩
def mkR:List PV->PV
 | [x]=>x
 | l=>.tu l
def retA (P:Program) (fn:Func) (r:PV):SQ:=λx s h=>(x=.ret\/x=.normal)/\fn.results.toList.length<=4/\∃ l al ids,rsL P h s fn.results.toList=some l/\q2n h l=some (al,ids)/\LeV (λ_=>none) h0 h0 (mkR al) r
end
section
variable {P:Program} {Tb:World->Prop} {J:Nat->Prop} {n:Nat} {s:Nat->PV} {h:Hp} {D0:Nat->Prop} {w0:Base} {w:World} {ρ:Nat->Option Nat} {e:Env}
def qtJ {fn:Func} {R:Ending->World->Prop} {r s q t:ResultVar} {v u x y:Value} (h:fn.results=#[r,s,q,t]) (a0:q8x P w e r=some v) (a1:q8x P w e s=some u) (a2:q8x P w e q=some x) (a3:q8x P w e t=some y) (hR:R (.returned (.tuple #[v,u,x,y])) w):qgp P fn R .ret e w:=by
 have b0:=q13 a0;have b1:=q13 a1;have b2:=q13 a2;have b3:=q13 a3;exact ⟨.tuple #[v,u,x,y],by simp [qhh,h,b0,b1,b2,b3],hR⟩
def qn8 [NL] (S:Sat D0 w0 s h ρ e w) {r:ResultVar} {x:PV} (hr:rsP P h s r=some x):∃ v,q8x P w e r=some v/\Rd w (dm D0 ρ h) x ρ h v:=by
 cases r with
 | tmp t=>unfold rsP at hr; cases hr; exact ⟨e t,rfl,S.rd t⟩
 | cell a t =>
  unfold rsP at hr;obtain ⟨y,hy,rfl⟩:=zB.1 hr;obtain ⟨v,hv,hr⟩:=qek S (a:=.tmp a) hy;refine ⟨v,?_,hr⟩;simp only [ev] at hv;unfold q8x;unfold ldV at hv
  split at hv
  .rename_i p hp;simp only [hp];cases hk:q0c P t with
   | none=>rw [hk] at hv; cases hv
   | some o=>cases o <;> (rw [hk] at hv; exact hv)
  .cases hv
def qx2 [NL] {x y:PV} (hl:LeV (λ_=>none) h0 h0 x y) {D:Nat->Prop}:∀ {v:Value},Rd w D x (λ_=>none) h0 v->Rd w D y (λ_=>none) h0 v:=by
 induction hl with
 | un=>intro v _; unfold Rd; trivial
 | cl hc=>intro v hr; exact hr
 | ow ht _=>cases ht
 | pt ht _=>cases ht
 | nilow _ hb _=>cases hb
 | nilfm hG =>
  intro v hr;unfold Rd at hr ⊢;rw [hr];exact hG _ _
 | agv hG =>
  intro v hr;unfold Rd at hr ⊢;obtain ⟨vs,rfl,hr⟩:=hr;rw [qgd hr];exact hG _ _
 | fz hj _ _ _ _=>cases hj
 | pq hj _ _ _ _=>cases hj
 | fzg hj _ _ _ _ _ _=>cases hj
 | nilsl =>
  intro v hr;unfold Rd at hr ⊢;exact ⟨none,0,0,[],hr,Row.nil _ _ _,rfl,by unfold RdL; rfl,λv hv=>by cases hv⟩
 | ag hlen _ ih =>
  intro v hr;unfold Rd at hr ⊢;obtain ⟨vs,r1,r2⟩:=hr;obtain ⟨r3,r4⟩:=RdL.iff.1 r2;refine ⟨vs,r1,RdL.iff.2 ⟨ω,λi y v hy hv=>?_⟩⟩;have hlt:=(zC.1 hy).1;have hx:=zD (show i < _ by rw [hlen]; exact hlt);exact ih i _ y hx hy (r4 i _ v hx hv)
 | tu hlen _ ih =>
  intro v hr;unfold Rd at hr ⊢;obtain ⟨vs,r1,r2⟩:=hr;obtain ⟨r3,r4⟩:=RdL.iff.1 r2;refine ⟨vs,r1,RdL.iff.2 ⟨ω,λi y v hy hv=>?_⟩⟩;have hlt:=(zC.1 hy).1;have hx:=zD (show i < _ by rw [hlen]; exact hlt);exact ih i _ y hx hy (r4 i _ v hx hv)
def qdu [NL] (S:Sat D0 w0 s h ρ e w):∀ {rs:List ResultVar} {l:List PV},rsL P h s rs=some l->∃ vs,rs.map (q8x P w e)=vs.map some/\RdL w (dm D0 ρ h) l ρ h vs
 | [],l,hl=>by unfold rsL at hl; cases hl; exact ⟨[],rfl,by unfold RdL; rfl⟩
 | r :: rs,l,hl=>by
  unfold rsL at hl;obtain ⟨x,hx,hl⟩:=zA.1 hl;obtain ⟨y,hy,rfl⟩:=zB.1 hl;obtain ⟨v,h1,h2⟩:=qn8 S hx;obtain ⟨vs,h3,h4⟩:=qdu S hy;exact ⟨v :: vs,by rw [vS,vS,h1,h3],by unfold RdL; exact ⟨v,vs,rfl,h2,h4⟩⟩
def AC_of [NL] {f:FuncId} {fn:Func} {c:Code} {al:List PV} {r:PV} (hc:q0G P f=true) (hf:P.funcs[f]?=some fn) (hb:fn.body=some c) (hn:fn.ntmps=n) (hd:(decide (al.length<=n) && q7Z n c)=true) (hTE:∀ w w',Ext w w'->Tb w->Tb w')
  (hw:AW P Tb (λ_=>False) n c (retA P fn r) (enP al) h0):AC P Tb f al r:=by
 refine ⟨hc,λD w vs hT hF hR=>?_⟩;have hlen:=hR.len;refine q5h hf hb hn (by rw [vW,hlen]; exact hd) ?_;have hdm:dm D (λ_=>none) h0=D:=by
  funext k
  exact propext ⟨λh=>h.1,λh=>⟨h,λi b hi=>by cases hi⟩⟩
 have S:Sat D ⟨w,λk=>k < w.heap.size,λ_ _ _=>False,λ_ _=>False,λ_ h=>h,λ_ _ h=>h.elim⟩ (enP al) h0 (λ_=>none) (q4T vs) w:=by
  refine ⟨λi j b c g hi=>(by cases hi),λi b g hi=>(by cases hi),λi b hi=>(by cases hi),λt=>?_,Kp.refl _ _,hF,λ_ _ _ h=>h.elim,λ_ _ h=>h.elim⟩;rw [hdm];obtain ⟨h1,h2⟩:=RdL.iff.1 hR;unfold enP q4T;rw [yG,yG];cases ht:al[t]? with
  | none=>simp only [Option.getD_none]; unfold Rd; trivial
  | some x =>
   have hlt:=(zC.1 ht).1;have hv:=zD (l:=vs) (show t < vs.length by omega);rw [hv];exact h2 t x _ ht hv
 refine q5l (λx e' w' hx=>?_) (hw D ⟨w,λk=>k < w.heap.size,λ_ _ _=>False,λ_ _=>False,λ_ h=>h,λ_ _ h=>h.elim⟩ _ _ w ⟨λw' hx=>hTE _ _ (hx.mono λk hk _=>hk) hT,λ_ _ h=>h⟩ hF S);obtain ⟨s',h',ρ',S',hx,h4,l,cl,ids,h1,h2,h3⟩:=hx;have hxt:Ext w w':=S'.ext.mono λk hk _=>hk;obtain ⟨us,u1,u2⟩:=qdu S' h1;have u3:=q5f S' h2 u2;have u4:RdL w' D cl (λ_=>none) h0 us:=u3.sub λk hk hq=>by
  rcases hq with hq | ⟨i,hi,hr⟩
  .exact hq.1
  .by_cases hs:∃ b,h' i=some b
   .obtain ⟨b,hb⟩:=hs;exact (S'.own i b k hb hr).1.2
   .rcases yZ k w.heap.size with hlt | hge
    .exfalso
     have:∀ {l:List PV} {r:List PV × List Nat},q2n h' l=some r->∀ i ∈ r.2,∃ b,h' i=some b:=λ{l r} hc i hi=>q4w hc i hi;exact hs (this h2 i hi)
    .exact hF k hge
 have hcl:cl.length=us.length:=(RdL.iff.1 u4).1;have hres:Rd w' D r (λ_=>none) h0 (mkV us):=by
  refine qx2 h3 ?_;clear u1 u2 u3 h2 h3 h1 hcl;cases cl with
  | nil=>unfold RdL at u4; subst u4; unfold mkR mkV Rd; exact ⟨[],rfl,by unfold RdL; rfl⟩
  | cons c cl =>
   cases cl with
   | nil =>
    unfold RdL at u4;obtain ⟨y,ys,rfl,e1,e2⟩:=u4;unfold RdL at e2;subst e2;exact e1
   | cons d cl =>
    have u5:=u4;unfold RdL at u5;obtain ⟨y,ys,rfl,e1,e2⟩:=u5;unfold RdL at e2;obtain ⟨z,zs,rfl,e3,e4⟩:=e2
    show Rd w' D (.tu (c :: d :: cl)) _ _ (.tuple ⟨y :: z :: zs⟩)
    unfold Rd;exact ⟨_,rfl,u4⟩
 have key:qgp P fn (λx w'=>∃ v,x=.returned v/\Ext w w'/\Rd w' D r (λ_=>none) h0 v) .ret e' w':=by
  cases hrs:fn.results with
  | mk rs =>
  rw [hrs] at u1 h4;simp only at u1 h4;clear u2 u3 u4 h1 h2 h3 hcl
  rcases rs with _ | ⟨a,_ | ⟨b,_ | ⟨c,_ | ⟨d,_ | ⟨f,rs⟩⟩⟩⟩⟩ <;> rcases us with _ | ⟨x,_ | ⟨y,_ | ⟨z,_ | ⟨t,_ | ⟨t',us⟩⟩⟩⟩⟩ <;> simp at u1 h4
  .exact ret0 hrs ⟨_,rfl,hxt,hres⟩
  .exact qtM hrs u1 ⟨_,rfl,hxt,hres⟩
  .exact qtL hrs u1.1 u1.2 ⟨_,rfl,hxt,hres⟩
  .exact qtK hrs u1.1 u1.2.1 u1.2.2 ⟨_,rfl,hxt,hres⟩
  .exact qtJ hrs u1.1 u1.2.1 u1.2.2.1 u1.2.2.2 ⟨_,rfl,hxt,hres⟩
 rcases hx with rfl | rfl
 .exact key
 .exact key
end
class Cn (α:Type) where
 k:α
def cK (p:Prop) [A:Cn Prop]:Prop:=p/\A.k
def oK {α:Type} (o:Option α) [K:Cn (α->Prop)]:Prop:=q2Y o K.k
def nnK (o:Option Bk) (d:Nat) (A:Prop):Prop:=(o=none/\d < 5000)/\A
def q1p [NL] (k:Kd) (x:PV) (A:Prop):Prop:=q7T k x/\A
def vK (x:PV) (K:PV->Prop):Prop:=K x
def ldK (o:Option (PV × List Nat)) [K:Cn (PV->List Nat->Prop)]:Prop:=match o with | some (x,l)=>K.k x l | none=>False
def pgA (o:Option Bool) (b:Bool) [A:Cn Prop] [B:Cn Prop]:Prop:=match o with | some c=>if c=b then A.k else B.k | none=>False
def mkA (bytes:Nat) (l c:PV) (K:Nat->Prop):Prop:=match l,c with | .vl (.int _ a),.vl (.int _ b)=>0<=a/\a<=b/\bytes*b.toNat<=281474976710656/\b.toNat<=maxLen/\K a.toNat | _,_=>False
def qc1 [NL] (k:Kd) (l:List PV) (A:Prop):Prop:=(∀ x ∈ l,q7T k x)/\A
def qa8 [NL] (o:Option Bk) (k:Option Kd) (m:Option Nat) (i j:Nat) (x:PV) (K:Bk->Prop):Prop :=
 ∃ b k' u u',o=some b/\k=some k'/\m=some (ksz k')/\b.st=false/\q7T k' x/\b.xs[i]?=some u/\stU b.k k' j u x=some u'/\K { b with xs:=b.xs.set i u' }
def qrE [NL] (h:Hp) (k:Option Kd) (m:Option Nat) (p x:PV) (K:Nat->Bk->Prop):Prop:=match p with | .pt id i j=>qa8 (h id) k m i j x (K id) | _=>False
def qmJ (o:Option Bk) (E:TypeId) (k k':Kd) (off n id:Nat) (K:List PV->Option Nat->Prop):Prop:=∃ b,o=some b/\(b.st=false/\b.T=E/\b.k=k/\k'=k/\off=0/\n=b.xs.length)/\K b.xs (some id)
def qmK (h:Hp) (E:TypeId) (k:Kd) (p:PV) (K:List PV->Option Nat->Prop):Prop:=match p with
 | .vl (.slice none 0 0)=>K [] none
 | .ow id k' off n=>qmJ (h id) E k k' off n id K
 | _=>False
def qsQ (h:Hp) (i0:Option Nat) (b:Bk):Hp:=match i0 with | none=>h | some i=>q0Q h i b
def qmI (o:Option Bk) (k k':Kd) (off n id:Nat) (K:List PV->List Nat->Prop):Prop:=∃ b,o=some b/\(b.st=false/\b.k=k/\k'=k)/\K ((b.xs.drop off).take n) [id]
def qgs (h:Hp) (k:Kd) (p:PV) (K:List PV->List Nat->Prop):Prop:=match p with
 | .vl (.slice none 0 0)=>K [] []
 | .sl k' l=>k'=k/\K l []
 | .ow id k' off n=>qmI (h id) k k' off n id K
 | _=>False
noncomputable def cO {α:Type} (p:Prop) (o:Option α):Option α:=open Classical in if p then o else none
def ClL (l:List PV):Prop:=∀ x ∈ l,Cld x
noncomputable def clB [h:Cn Hp] (o:Option Bk) (id:Nat) (k:Kd) (off n:Nat):Option (PV × List Nat):=open Classical in o.bind λb=>if b.st=false/\b.k=k/\∀ x ∈ b.xs,Cld x then some (.sl k ((b.xs.drop off).take n),[id]) else if b.st=false/\b.k=k then (q11 h.k b.xs).map λr=>(.sl k ((r.1.drop off).take n),id :: r.2) else none
noncomputable def cO2 {α:Type} (p:Prop) (o:Option α) [q:Cn (Option α)]:Option α:=open Classical in if p then o else q.k
def qfy (a:Option (PV × List Nat)) (b:Option (List PV × List Nat)):Option (List PV × List Nat):=a.bind λa=>b.map λb=>(a.1 :: b.1,a.2 ++ b.2)
def q4e [NL] (P:Program) (Tb:World->Prop) (f:FuncId) (o:Option (List PV × List Nat)) [K:Cn (PV->List Nat->Prop)]:Prop:=∃ al ids x,o=some (al,ids)/\AC P Tb f al x/\(ids=[]\/Nz x)/\K.k x ids
def ao [NL] (P : Program) (Tb : World -> Prop) (d : Option Nat) (op : Op) (s : Nat -> PV) (h : Hp) (K : PV -> Hp -> FP -> Prop) : Prop := ∃ x h' fp, Stp P Tb ⟨d, op, 0, "", #[], none⟩ s h x h' fp /\ K x h' fp
def qpc (prs:List (Nat × Nat)) (acc:List FP):Prop:=chk prs acc.reverse
section
variable {P:Program} {Tb:World->Prop}
@[congr] theorem qtq {o o':Option Bk} {d:Nat} {A:Prop} (h:o=o'):nnK o d A=nnK o' d A:=by rw [h]
@[congr] theorem qrO [NL] {k:Kd} {x x':PV} {A:Prop} (h:x=x'):q1p k x A=q1p k x' A:=by rw [h]
@[congr] theorem qrN [NL] {k:Kd} {x x':List PV} {A:Prop} (h:x=x'):qc1 k x A=qc1 k x' A:=by rw [h]
@[congr] theorem vK_congr {x x':PV} {K:PV->Prop} (h:x=x'):vK x K=vK x' K:=by rw [h]
@[congr] theorem qty {y:Nat} {l l' c c':PV} {K:Nat->Prop} (h:l=l') (h':c=c'):mkA y l c K=mkA y l' c' K:=by rw [h,h']
@[congr] theorem qrF [NL] {o o':Option Bk} {k k':Option Kd} {m m':Option Nat} {i j:Nat} {x:PV} {K:Bk->Prop} (h1:o=o') (h2:k=k') (h3:m=m'):qa8 o k m i j x K=qa8 o' k' m' i j x K:=by rw [h1,h2,h3]
@[congr] theorem qrD [NL] {h:Hp} {k k':Option Kd} {m m':Option Nat} {p p' x x':PV} {K:Nat->Bk->Prop} (h1:p=p') (h2:x=x'):qrE h k m p x K=qrE h k m p' x' K:=by rw [h1,h2]
@[congr] theorem qrT {o o':Option Bk} {E:TypeId} {k k':Kd} {off n id:Nat} {K:List PV->Option Nat->Prop} (h:o=o'):qmJ o E k k' off n id K=qmJ o' E k k' off n id K:=by rw [h]
@[congr] theorem qrU {h:Hp} {E:TypeId} {k:Kd} {p p':PV} {K:List PV->Option Nat->Prop} (h1:p=p'):qmK h E k p K=qmK h E k p' K:=by rw [h1]
@[congr] theorem qrR {o o':Option Bk} {k k':Kd} {off n id:Nat} {K:List PV->List Nat->Prop} (h:o=o'):qmI o k k' off n id K=qmI o' k k' off n id K:=by rw [h]
@[congr] theorem qrS {h:Hp} {k:Kd} {p p':PV} {K:List PV->List Nat->Prop} (h1:p=p'):qgs h k p K=qgs h k p' K:=by rw [h1]
@[congr] theorem ao_congr [NL] {d:Option Nat} {op:Op} {s:Nat->PV} {h:Hp} {K:PV->Hp->FP->Prop}:ao P Tb d op s h K=ao P Tb d op s h K:=rfl
@[congr] theorem AL_congr [NL] {ops l:List Oper} {K:(Nat->PV)->Hp->List FP->Prop} {s:Nat->PV} {h:Hp} {acc:List FP}:AL P Tb ops K l s h acc=AL P Tb ops K l s h acc:=rfl
@[congr] theorem AW_congr [NL] {J:Nat->Prop} {n:Nat} {c:Code} {Q:SQ} {s:Nat->PV} {h:Hp}:AW P Tb J n c Q s h=AW P Tb J n c Q s h:=rfl
def cK_t {A:Prop}:@cK True ⟨A⟩=A:=by simp [cK]
def qwD {p A:Prop} (h:p):@cK p ⟨A⟩=A:=by simp [cK,h]
def nnK_n {A:Prop} {d:Nat}:nnK none d A=@cK (d < 5000) ⟨A⟩:=by simp [nnK,cK]
def oK_s {α:Type} {x:α} {K:α->Prop}:@oK _ (some x) ⟨K⟩=K x:=rfl
def vK_v {x:PV} {K:PV->Prop}:vK x K=K x:=rfl
def ldK_s {x:PV} {l:List Nat} {K:PV->List Nat->Prop}:@ldK (some (x,l)) ⟨K⟩=K x l:=rfl
def qtb {A B:Prop}:@pgA (some true) true ⟨A⟩ ⟨B⟩=A:=by simp [pgA]
def qtc {A B:Prop}:@pgA (some true) false ⟨A⟩ ⟨B⟩=B:=by simp [pgA]
def qtd {A B:Prop}:@pgA (some false) true ⟨A⟩ ⟨B⟩=B:=by simp [pgA]
def qte {A B:Prop}:@pgA (some false) false ⟨A⟩ ⟨B⟩=A:=by simp [pgA]
def mkA_n {y n:Nat} {k k':IntKind} {K:Nat->Prop}:mkA y (.vl (.int k (n:Int))) (.vl (.int k' (n:Int))) K=@cK (y*n<=281474976710656/\n<=9223372036854775807) ⟨K n⟩:=by
 simp only [mkA,cK,y6,maxLen];exact propext ⟨λh=>⟨⟨h.2.2.1,h.2.2.2.1⟩,h.2.2.2.2⟩,λh=>⟨ω,Int.le_refl _,h.1.1,h.1.2,h.2⟩⟩
def mkA_z {y n:Nat} {k k':IntKind} {K:Nat->Prop}:mkA y (.vl (.int k 0)) (.vl (.int k' (n:Int))) K=@cK (y*n<=281474976710656/\n<=9223372036854775807) ⟨K 0⟩:=by
 simp only [mkA,cK,y6,maxLen];exact propext ⟨λh=>⟨⟨h.2.2.1,h.2.2.2.1⟩,h.2.2.2.2⟩,λh=>⟨ω,ω,h.1.1,h.1.2,h.2⟩⟩
def qf5 [NL] {k:IntKind} {z:Int} {A:Prop}:q1p none (.vl (.int k z)) A=@cK (q4c (.int k z)=true) ⟨A⟩:=by simp [q1p,q7T,qf6,qnt,cK,Value.oneCell']
def qub [NL] {b:Bool} {A:Prop}:q1p none (.vl (.bool b)) A=A:=by simp [q1p,q7T,qf6,qnt,Value.oneCell',nlo]
def qpF [NL] {a:Option Addr} {m c:Nat} {A:Prop}:q1p none (.vl (.slice a m c)) A=A:=by simp [q1p,q7T,qf6,qnt,Value.oneCell',nlo]
def qu6 [NL] {k:Kd} {l:List PV} {A:Prop}:q1p none (.sl k l) A=A:=by simp [q1p,q7T,qf6]
def qu8 [NL] {id off m:Nat} {k:Kd} {A:Prop}:q1p none (.ow id k off m) A=A:=by simp [q1p,q7T,qf6]
def qu7 [NL] {id i j:Nat} {A:Prop}:q1p none (.pt id i j) A=A:=by simp [q1p,q7T,qf6]
def quc [NL] {m:Nat} {l:List PV} {A:Prop}:q1p (some m) (.ag l) A=@cK (l.length=m) ⟨qc1 none l A⟩:=by
 simp only [q1p,q7T,cK,qc1,and_assoc]
def q81 [NL] {k:Kd} {A:Prop}:qc1 k [] A=A:=by simp [qc1]
def q82 [NL] {k:Kd} {x:PV} {l:List PV} {A:Prop}:qc1 k (x :: l) A=q1p k x (qc1 k l A):=by simp [qc1,q1p,and_assoc]
def qua [NL] {m:Nat} {G:Fam} {A:Prop} (hf:∀ D v w,In G D v w->q28 (some m) v):q1p (some m) (.fm G) A=A:=by simp only [q1p,q7T]; exact propext ⟨λh=>h.2,λh=>⟨hf,h⟩⟩
def qsL [NL] {h:Hp} {k:Option Kd} {m:Option Nat} {id i j:Nat} {x:PV} {K:Nat->Bk->Prop}:qrE h k m (.pt id i j) x K=qa8 (h id) k m i j x (K id):=rfl
def qk2 [NL] {T:TypeId} {k:Kd} {xs:List PV} {i:Nat} {x:PV} {K:Bk->Prop}:qa8 (some ⟨T,k,xs,false⟩) (some k) (some (ksz k)) i 0 x K=@cK (i < xs.length) ⟨q1p k x (K ⟨T,k,xs.set i x,false⟩)⟩:=by
 simp only [qa8,cK,q1p];refine propext ⟨?_,?_⟩
 .rintro ⟨b,k',u,u',h1,h2,_,_,h5,h6,h7,h8⟩;cases h1; cases h2;have hlt:=(zC.1 h6).1;simp only [stU,and_self,if_true] at h7;cases h7;exact ⟨hlt,h5,h8⟩
 .rintro ⟨h1,h2,h3⟩;exact ⟨_,k,_,x,rfl,rfl,rfl,rfl,h2,zD h1,by simp [stU],h3⟩
def qnA [NL] {T:TypeId} {xs:List PV} {i:Nat} {x:PV} {K:Bk->Prop}:qa8 (some ⟨T,none,xs,false⟩) (some none) (some 1) i 0 x K=@cK (i < xs.length) ⟨q1p none x (K ⟨T,none,xs.set i x,false⟩)⟩:=qk2
def qmz [NL] {T:TypeId} {m:Nat} {xs:List PV} {i:Nat} {x:PV} {K:Bk->Prop}:qa8 (some ⟨T,some m,xs,false⟩) (some (some m)) (some m) i 0 x K=@cK (i < xs.length) ⟨q1p (some m) x (K ⟨T,some m,xs.set i x,false⟩)⟩:=qk2
def qsN [NL] {T:TypeId} {m j:Nat} {l:List PV} {x:PV} {K:Bk->Prop}:qa8 (some ⟨T,some m,[.ag l],false⟩) (some none) (some 1) 0 j x K=@cK (j < l.length) ⟨q1p none x (K ⟨T,some m,[.ag (l.set j x)],false⟩)⟩:=by
 simp only [qa8,cK,q1p];refine propext ⟨?_,?_⟩
 .rintro ⟨b,k',u,u',h1,h2,_,_,h5,h6,h7,h8⟩;cases h1; cases h2;simp at h6;subst h6;unfold stU at h7;rw [if_neg σ] at h7;simp only at h7
  split at h7
  .cases h7; exact ⟨by assumption,h5,h8⟩
  .cases h7
 .rintro ⟨h1,h2,h3⟩;exact ⟨_,none,.ag l,.ag (l.set j x),rfl,rfl,rfl,rfl,h2,rfl,by unfold stU; rw [if_neg σ]; simp [h1],h3⟩
def qsM [NL] {T:TypeId} {n m j:Nat} {l r:List PV} {K:Bk->Prop} (hn:n≠m):qa8 (some ⟨T,some n,[.ag l],false⟩) (some (some m)) (some m) 0 j (.ag r) K=@cK (r.length=m/\j+m<=l.length) ⟨q1p (some m) (.ag r) (K ⟨T,some n,[.ag (l.take j ++ r ++ l.drop (j+m))],false⟩)⟩:=by
 have e:stU (some n) (some m) j (.ag l) (.ag r)=if r.length=m/\j+m<=l.length then some (.ag (l.take j ++ r ++ l.drop (j+m))) else none:=by
  unfold stU; rw [if_neg (by simp [hn])]
 simp only [qa8,cK,q1p];refine propext ⟨?_,?_⟩
 .rintro ⟨b,k',u,u',h1,h2,_,_,h5,h6,h7,h8⟩;cases h1; cases h2;simp at h6;subst h6;rw [e] at h7
  split at h7
  .cases h7; exact ⟨by assumption,h5,h8⟩
  .cases h7
 .rintro ⟨h1,h2,h3⟩;exact ⟨_,some m,.ag l,_,rfl,rfl,rfl,rfl,h2,rfl,by rw [e,if_pos h1],h3⟩
def ldU_b {a b c d:PV}:ldU (some 4) (some 2) 1 (.ag [a,b,c,d])=some (.ag [b,c]):=by simp [ldU]
def qw8 {h:Hp} {E:TypeId} {k:Kd} {K:List PV->Option Nat->Prop}:qmK h E k (.vl (.slice none 0 0)) K=K [] none:=rfl
def qw7 {h:Hp} {E:TypeId} {k k':Kd} {id off m:Nat} {K:List PV->Option Nat->Prop}:qmK h E k (.ow id k' off m) K=qmJ (h id) E k k' off m id K:=rfl
def qw6 {E:TypeId} {k:Kd} {xs:List PV} {id m:Nat} {K:List PV->Option Nat->Prop}:qmJ (some ⟨E,k,xs,false⟩) E k k 0 m id K=@cK (m=xs.length) ⟨K xs (some id)⟩:=by
 simp [qmJ,cK]
def qw5 {h:Hp} {k:Kd} {K:List PV->List Nat->Prop}:qgs h k (.vl (.slice none 0 0)) K=K [] []:=rfl
def qw3 {h:Hp} {k:Kd} {l:List PV} {K:List PV->List Nat->Prop}:qgs h k (.sl k l) K=K l []:=by simp [qgs]
def qw4 {h:Hp} {k k':Kd} {id off m:Nat} {K:List PV->List Nat->Prop}:qgs h k (.ow id k' off m) K=qmI (h id) k k' off m id K:=rfl
def qw2 {T:TypeId} {k:Kd} {xs:List PV} {off m id:Nat} {K:List PV->List Nat->Prop}:qmI (some ⟨T,k,xs,false⟩) k k off m id K=K ((xs.drop off).take m) [id]:=by
 simp [qmI]
variable {d:Option Nat} {ty t:TypeId} {pos:String} {af:Array Edge} {g:Option (Nat × Bool)} {s:Nat->PV} {h:Hp} {K:PV->Hp->FP->Prop} {ops r:List Oper} {KL:(Nat->PV)->Hp->List FP->Prop} {acc:List FP} {dd:Nat}
def qyW [NL]:AL P Tb ops KL [] s h acc=KL s h acc:=rfl
def AL_n [NL] {op:Op}:AL P Tb ops KL (⟨d,op,ty,pos,af,none⟩ :: r) s h acc=ao P Tb d op s h λx h' fp=>AL P Tb ops KL r (q2w s d x) h' (fp :: acc):=rfl
def AL_g [NL] {op:Op} {j:Nat} {b:Bool}:AL P Tb ops KL (⟨d,op,ty,pos,af,some (j,b)⟩ :: r) s h acc=@pgA (q2j ops s j b) b ⟨ao P Tb d op s h λx h' fp=>AL P Tb ops KL r (q2w s d x) h' (fp :: acc)⟩ ⟨AL P Tb ops KL r (q2w s d (.vl undef)) h (([],[]) :: acc)⟩:=by
 refine propext ⟨?_,λhp=>?_⟩
 .rintro ⟨x,h',fp,hg,hk⟩;unfold q7f at hg;simp only at hg;obtain ⟨c,hc,hg⟩:=hg;unfold pgA;rw [hc];simp only
  split at hg
  .rename_i hcb; rw [if_pos hcb]; exact ⟨x,h',fp,hg,hk⟩
  .rename_i hcb; rw [if_neg hcb]; obtain ⟨rfl,rfl,rfl⟩:=hg; exact hk
 .unfold pgA at hp
  split at hp
  .rename_i c hc
   split at hp
   .rename_i hcb;obtain ⟨x,h',fp,hg,hk⟩:=hp;exact ⟨x,h',fp,by unfold q7f; exact ⟨c,hc,by rw [if_pos hcb]; exact hg⟩,hk⟩
   .rename_i hcb;exact ⟨.vl undef,h,([],[]),by unfold q7f; exact ⟨c,hc,by rw [if_neg hcb]; exact ⟨rfl,rfl,rfl⟩⟩,hp⟩
  .exact hp.elim
def q4O {α:Type} {o:Option α} {K:α->Prop}:@oK _ o ⟨K⟩=∃ a,o=some a/\K a:=by
 cases o <;> simp [oK,q2Y]
def q2q [NL] {op : Op} (hs : ∀ x h' fp, Stp P Tb ⟨d, op, 0, "", #[], none⟩ s h x h' fp = (q45 P op (pe s) = some x /\ h' = h /\ fp = ([], []))) : ao P Tb d op s h K = @oK _ (q45 P op (pe s)) ⟨λx => K x h ([], [])⟩ := by
 rw [q4O];unfold ao;refine propext ⟨?_,?_⟩
 .rintro ⟨x,h',fp,h1,h2⟩;rw [hs] at h1;obtain ⟨h1,rfl,rfl⟩:=h1;exact ⟨x,h1,h2⟩
 .rintro ⟨x,h1,h2⟩;exact ⟨x,h,([],[]),by rw [hs]; exact ⟨h1,rfl,rfl⟩,h2⟩
def qq0 [NL] {x}:ao P Tb d (.move x) s h K=vK (pe s x) λx=>K x h ([],[]):=q2q λ_ _ _=>rfl
def qg2 [NL] {x}:ao P Tb d (.assign x) s h K=vK (pe s x) λx=>K x h ([],[]):=q2q λ_ _ _=>rfl
def qqZ [NL] {c a b}:ao P Tb d (.pick c a b) s h K=@oK _ (pkP (pe s c) (pe s a) (pe s b)) ⟨λx=>K x h ([],[])⟩:=q2q λ_ _ _=>rfl
def qjm [NL] {op x y t'}:ao P Tb d (.binOp op t x y t') s h K=@oK _ (bnP P op t (pe s x) (pe s y)) ⟨λx=>K x h ([],[])⟩:=q2q λ_ _ _=>rfl
def qqY [NL] {op x}:ao P Tb d (.unOp op t x) s h K=@oK _ (unP op (pe s x)) ⟨λx=>K x h ([],[])⟩:=q2q λ_ _ _=>rfl
def qce [NL] {a b x}:ao P Tb d (.convert a b x) s h K=@oK _ (cvP (P.underlying a) (P.underlying b) (pe s x)) ⟨λx=>K x h ([],[])⟩:=q2q λ_ _ _=>rfl
def q8n [NL] {x f}:ao P Tb d (.fieldAddr t x f) s h K=@oK _ (qrM P t f (pe s x)) ⟨λx=>K x h ([],[])⟩:=q2q λ_ _ _=>rfl
def qjk [NL] {x i}:ao P Tb d (.field t x i) s h K=@oK _ (fdP P t i (pe s x)) ⟨λx=>K x h ([],[])⟩:=q2q λ_ _ _=>rfl
def qcd [NL] {x i}:ao P Tb d (.extract x i) s h K=@oK _ (exP i (pe s x)) ⟨λx=>K x h ([],[])⟩:=q2q λ_ _ _=>rfl
def qaI [NL] {x}:ao P Tb d (.nilCheck x) s h K=@oK _ (nlP (pe s x)) ⟨λx=>K x h ([],[])⟩:=q2q λ_ _ _=>rfl
def q8m [NL] {x i}:ao P Tb d (.indexAddr t x i) s h K=@oK _ (qbC (q0d P t) (pe s x) (pe s i)) ⟨λx=>K x h ([],[])⟩:=q2q λ_ _ _=>rfl
def qjj [NL] {x lo hi}:ao P Tb d (.slice t x lo hi none) s h K=@oK _ (slP (q0d P t) (lo.map (pe s)) (hi.map (pe s)) (pe s x)) ⟨λx=>K x h ([],[])⟩:=q2q λ_ _ _=>rfl
def fnP_q {f:FuncId} {z:Int}:fnP (.func f) #[] [.qt none (.vl (.int .i64 z))]=some (.fm (fFun f z)):=rfl
def qwd [NL] {fn:Fn} {cap:List Operand} {first:Array Operand}:ao P Tb d (.makeFunc fn first cap.toArray) s h K=@oK _ (fnP fn first (cap.map (pe s))) ⟨λx=>K x h ([],[])⟩:=q2q λ_ _ _=>rfl
def qjl [NL] {ps:List (Nat × Operand)}:ao P Tb d (.build t ps.toArray) s h K=@oK _ (blP P t (ps.map λp=>(p.1,pe s p.2))) ⟨λx=>K x h ([],[])⟩:=q2q λ_ _ _=>rfl
def qwc [NL] {x}:ao P Tb d (.call ⟨.builtin .len,#[x],#[t]⟩) s h K=@oK _ (qrJ (q0d P t) (pe s x)) ⟨λx=>K x h ([],[])⟩:=q2q λ_ _ _=>rfl
def qwb [NL] {x y ts}:ao P Tb d (.call ⟨.builtin .max,#[x,y],ts⟩) s h K=@oK _ (mmP true [pe s x,pe s y]) ⟨λx=>K x h ([],[])⟩:=q2q λ_ _ _=>rfl
def qwa [NL] {x y ts}:ao P Tb d (.call ⟨.builtin .min,#[x,y],ts⟩) s h K=@oK _ (mmP false [pe s x,pe s y]) ⟨λx=>K x h ([],[])⟩:=q2q λ_ _ _=>rfl
def qq2 [NL] {a}:ao P Tb d (.load t a) s h K=@ldK (ldP h (q0c P t) (pe s a)) ⟨λx l=>K x h (l,[])⟩:=by
 unfold ao ldK;refine propext ⟨?_,λhk=>?_⟩
 .rintro ⟨x,h',fp,⟨r,h1,rfl,rfl,rfl⟩,hk⟩;rw [h1];exact hk
 .split at hk
  .rename_i x l hl;exact ⟨x,h,(l,[]),⟨(x,l),hl,rfl,rfl,rfl⟩,hk⟩
  .exact hk.elim
def qjn [NL]:ao P Tb (some dd) (.alloc t) s h K=nnK (h dd) dd (@oK _ (alB P t) ⟨λb=>K (.pt dd 0 0) (q0Q h dd b) ([],[dd])⟩):=by
 unfold ao nnK;rw [q4O];refine propext ⟨?_,?_⟩
 .rintro ⟨x,h',fp,⟨d,b,h1,h2,h3,rfl,rfl,rfl⟩,hk⟩;cases h1;exact ⟨h2,b,h3,hk⟩
 .rintro ⟨h2,b,h3,hk⟩;exact ⟨_,_,_,⟨dd,b,rfl,h2,h3,rfl,rfl,rfl⟩,hk⟩
def qwj [NL] {v}:ao P Tb (some dd) (.box t v) s h K=nnK (h dd) dd (@oK _ (q0c P t) ⟨λk=>vK (pe s v) λx=>q1p k x (K (.pt dd 0 0) (q0Q h dd ⟨t,k,[x],false⟩) ([],[dd]))⟩):=by
 unfold ao nnK q1p vK;rw [q4O];refine propext ⟨?_,?_⟩
 .rintro ⟨x,h',fp,⟨d,k,h1,h2,h3,h4,rfl,rfl,rfl⟩,hk⟩;cases h1;exact ⟨h2,k,h3,h4,hk⟩
 .rintro ⟨h2,k,h3,h4,hk⟩;exact ⟨_,_,_,⟨dd,k,rfl,h2,h3,h4,rfl,rfl,rfl⟩,hk⟩
def qg1 [NL] {len:Nat} {ps:List (Nat × Operand)} (hp:ps.map (·.1)=List.range len):ao P Tb (some dd) (.buildSlice t len ps.toArray) s h K=nnK (h dd) dd (@oK _ (elK P t) ⟨λe=>@cK (len*ksz e.2.1<=16777216) ⟨qc1 e.2.1 (ps.map λp=>pe s p.2) (K (.ow dd e.2.1 0 len) (q0Q h dd ⟨e.1,e.2.1,ps.map λp=>pe s p.2,false⟩) ([],[dd]))⟩⟩):=by
 unfold ao nnK qc1 cK;rw [q4O];refine propext ⟨?_,?_⟩
 .rintro ⟨x,h',fp,⟨d,E,k,bytes,h1,h2,h3,h4,h5,h6,rfl,rfl,rfl⟩,hk⟩;cases h1;exact ⟨h2,(E,k,bytes),h3,h5,λx hx=>by obtain ⟨p,hp,rfl⟩:=yY.1 hx; exact h6 p hp,hk⟩
 .rintro ⟨h2,⟨E,k,bytes⟩,h3,h5,h6,hk⟩;exact ⟨_,_,_,⟨dd,E,k,bytes,rfl,h2,h3,hp,h5,λp hp=>h6 _ (yY.2 ⟨p,hp,rfl⟩),rfl,rfl,rfl⟩,hk⟩
def qwi [NL]:ao P Tb (some dd) (.buildSlice t 0 #[]) s h K=nnK (h dd) dd (@oK _ (elK P t) ⟨λe=>K (.ow dd e.2.1 0 0) (q0Q h dd ⟨e.1,e.2.1,[],false⟩) ([],[dd])⟩):=by
 have:=qg1 (P:=P) (Tb:=Tb) (s:=s) (h:=h) (K:=K) (t:=t) (dd:=dd) (len:=0) (ps:=[]) rfl;simpa [oK,cK,qc1] using this
def qwh [NL] {a}:ao P Tb (some dd) (.buildSlice t 1 #[(0,a)]) s h K=nnK (h dd) dd (@oK _ (elK P t) ⟨λe=>@cK (ksz e.2.1<=16777216) ⟨vK (pe s a) λx=>q1p e.2.1 x (K (.ow dd e.2.1 0 1) (q0Q h dd ⟨e.1,e.2.1,[x],false⟩) ([],[dd]))⟩⟩):=by
 have:=qg1 (P:=P) (Tb:=Tb) (s:=s) (h:=h) (K:=K) (t:=t) (dd:=dd) (len:=1) (ps:=[(0,a)]) rfl;simpa [oK,cK,q82,q81,vK] using this
def qwg [NL] {a b}:ao P Tb (some dd) (.buildSlice t 2 #[(0,a),(1,b)]) s h K=nnK (h dd) dd (@oK _ (elK P t) ⟨λe=>@cK (2*ksz e.2.1<=16777216) ⟨vK (pe s a) λx=>vK (pe s b) λy=>q1p e.2.1 x (q1p e.2.1 y (K (.ow dd e.2.1 0 2) (q0Q h dd ⟨e.1,e.2.1,[x,y],false⟩) ([],[dd])))⟩⟩):=by
 have:=qg1 (P:=P) (Tb:=Tb) (s:=s) (h:=h) (K:=K) (t:=t) (dd:=dd) (len:=2) (ps:=[(0,a),(1,b)]) rfl;simpa [oK,cK,q82,q81,vK] using this
def qwf [NL] {a b c}:ao P Tb (some dd) (.buildSlice t 3 #[(0,a),(1,b),(2,c)]) s h K=nnK (h dd) dd (@oK _ (elK P t) ⟨λe=>@cK (3*ksz e.2.1<=16777216) ⟨vK (pe s a) λx=>vK (pe s b) λy=>vK (pe s c) λz=>q1p e.2.1 x (q1p e.2.1 y (q1p e.2.1 z (K (.ow dd e.2.1 0 3) (q0Q h dd ⟨e.1,e.2.1,[x,y,z],false⟩) ([],[dd]))))⟩⟩):=by
 have:=qg1 (P:=P) (Tb:=Tb) (s:=s) (h:=h) (K:=K) (t:=t) (dd:=dd) (len:=3) (ps:=[(0,a),(1,b),(2,c)]) rfl;simpa [oK,cK,q82,q81,vK] using this
def qq1 [NL] {l c}:ao P Tb (some dd) (.makeSlice t l c) s h K=nnK (h dd) dd (@oK _ (elZ P t) ⟨λe=>mkA e.2.2.1 (pe s l) (pe s c) λn=>K (.ow dd e.2.1 0 n) (q0Q h dd ⟨e.1,e.2.1,List.replicate n e.2.2.2,false⟩) ([],[dd])⟩):=by
 unfold ao nnK;rw [q4O];refine propext ⟨?_,?_⟩
 .rintro ⟨x,h',fp,⟨d,E,k,bytes,z,kl,kc,n,m,h1,h2,h3,h4,h5,h8,h6,h7,rfl,rfl,rfl⟩,hk⟩;cases h1;refine ⟨h2,_,h3,?_⟩;unfold mkA;rw [h4,h5];exact ⟨ω,ω,by simpa using h6,by simpa using h7,by simpa using hk⟩
 .rintro ⟨h2,⟨E,k,bytes,z⟩,h3,hk⟩;unfold mkA at hk
  split at hk
  .rename_i kl a kc b ha hb;obtain ⟨k0,k1,k2,k3,hk⟩:=hk;have e1:((a.toNat:Nat):Int)=a:=ω
   have e2:((b.toNat:Nat):Int)=b:=ω
   exact ⟨_,_,_,⟨dd,E,k,bytes,z,kl,kc,a.toNat,b.toNat,rfl,h2,h3,by rw [e1]; exact ha,by rw [e2]; exact hb,ω,k2,k3,rfl,rfl,rfl⟩,hk⟩
  .exact hk.elim
def qji [NL] {a v}:ao P Tb d (.store t a v) s h K=qrE h (q0c P t) (q02 P t) (pe s a) (pe s v) λid b=>K (.vl undef) (q0Q h id b) ([id],[id]):=by
 unfold ao qrE qa8;refine propext ⟨?_,λhk=>?_⟩
 .rintro ⟨x,h',fp,⟨id,i,j,b,k,u,u',h1,h2,h3,h4,h5,h6,h7,h8,rfl,rfl,rfl⟩,hk⟩;rw [h1];exact ⟨b,k,u,u',h2,h4,h5,h3,h6,h7,h8,hk⟩
 .split at hk
  .rename_i id i j h1;obtain ⟨b,k,u,u',h2,h4,h5,h3,h6,h7,h8,hk⟩:=hk;exact ⟨_,_,_,⟨id,i,j,b,k,u,u',h1,h2,h3,h4,h5,h6,h7,h8,rfl,rfl,rfl⟩,hk⟩
  .exact hk.elim
def qg3 [NL] {sx xx}:ao P Tb (some dd) (.call ⟨.builtin .append,#[sx,xx],#[t,t]⟩) s h K=nnK (h dd) dd (@oK _ (elK P t) ⟨λe=>qmK h e.1 e.2.1 (pe s sx) λxs i0=>qgs h e.2.1 (pe s xx) λys ids=>@cK ((xs.length+ys.length)*(e.2.2+1)<=140737488355328) ⟨K (.ow dd e.2.1 0 (xs.length+ys.length)) (q0Q (qsQ h i0 ⟨e.1,e.2.1,xs,true⟩) dd ⟨e.1,e.2.1,xs ++ ys,false⟩) (ids,dd :: i0.toList)⟩⟩):=by
 have hL:∀ {E:TypeId} {k:Kd} {p:PV} {xs:List PV} {i0:Option Nat},apS h E k p=some (xs,i0)->qsQ h i0 ⟨E,k,xs,true⟩=stl h i0:=λ{E k p xs i0} ha=>by
  unfold apS at ha
  split at ha
  .cases ha; rfl
  .obtain ⟨b,hb,hc⟩:=zA.1 ha
   split at hc
   .rename_i hcc;cases hc;obtain ⟨_,rfl,rfl,_⟩:=hcc;simp only [qsQ,stl,hb]
   .cases hc
  .cases ha
 have hS:∀ {E:TypeId} {k:Kd} {p:PV} {K:List PV->Option Nat->Prop},qmK h E k p K=∃ xs i0,apS h E k p=some (xs,i0)/\K xs i0:=λ{E k p K}=>by
  refine propext ⟨λhk=>?_,?_⟩
  .unfold qmK at hk
   split at hk
   .exact ⟨[],none,rfl,hk⟩
   .unfold qmJ at hk;obtain ⟨b,hb,hc,hk⟩:=hk;exact ⟨b.xs,some _,by unfold apS; simp only [hb,zF]; rw [if_pos hc],hk⟩
   .exact hk.elim
  .rintro ⟨xs,i0,ha,hk⟩;unfold apS at ha
   split at ha
   .cases ha; exact hk
   .obtain ⟨b,hb,hc⟩:=zA.1 ha
    split at hc
    .rename_i hcc; cases hc; exact ⟨b,hb,hcc,hk⟩
    .cases hc
   .cases ha
 have hX:∀ {k:Kd} {p:PV} {K:List PV->List Nat->Prop},qgs h k p K=∃ xs ids,apX h k p=some (xs,ids)/\K xs ids:=λ{k p K}=>by
  refine propext ⟨λhk=>?_,?_⟩
  .unfold qgs at hk
   split at hk
   .exact ⟨[],[],rfl,hk⟩
   .obtain ⟨rfl,hk⟩:=hk;exact ⟨_,[],by unfold apX; simp,hk⟩
   .unfold qmI at hk;obtain ⟨b,hb,hc,hk⟩:=hk;exact ⟨_,_,by unfold apX; simp only [hb,zF]; rw [if_pos hc],hk⟩
   .exact hk.elim
  .rintro ⟨xs,ids,ha,hk⟩;unfold apX at ha
   split at ha
   .cases ha; exact hk
   .split at ha
    .rename_i hkk; cases ha; exact ⟨hkk,hk⟩
    .cases ha
   .obtain ⟨b,hb,hc⟩:=zA.1 ha
    split at hc
    .rename_i hcc; cases hc; exact ⟨b,hb,hcc,hk⟩
    .cases hc
   .cases ha
 unfold ao nnK cK;rw [q4O];refine propext ⟨?_,?_⟩
 .rintro ⟨x,h',fp,⟨sx',xx',T,d,E,k,bytes,xs,ys,i0,ids,h1,h2,h3,h4,h5,h6,h7,h8,rfl,rfl,rfl⟩,hk⟩;cases h1; cases h2; cases h3;refine ⟨h4,_,h5,?_⟩;rw [hS];refine ⟨xs,i0,h6,?_⟩;rw [hX];exact ⟨ys,ids,h7,h8,by rw [hL h6]; exact hk⟩
 .rintro ⟨h4,⟨E,k,bytes⟩,h5,hk⟩;rw [hS] at hk;obtain ⟨xs,i0,h6,hk⟩:=hk;rw [hX] at hk;obtain ⟨ys,ids,h7,h8,hk⟩:=hk;simp only at hk;rw [hL h6] at hk;exact ⟨_,_,_,⟨sx,xx,t,dd,E,k,bytes,xs,ys,i0,ids,rfl,rfl,rfl,h4,h5,h6,h7,h8,rfl,rfl,rfl⟩,hk⟩
def qq3 [NL] {f} {xs:List Operand} {ts}:ao P Tb d (.call ⟨.value (.func f),xs.toArray,ts⟩) s h K=@q4e _ P Tb f (q2n h (xs.map (pe s))) ⟨λx ids=>K x h (ids,[])⟩:=by
 unfold ao q4e;refine propext ⟨?_,?_⟩
 .rintro ⟨x,h',fp,⟨al,ids,h1,h2,h3,rfl,rfl⟩,hk⟩;exact ⟨al,ids,x,by simpa using h1,h2,h3,hk⟩
 .rintro ⟨al,ids,x,h1,h2,h3,hk⟩;exact ⟨x,h,(ids,[]),⟨al,ids,by simpa using h1,h2,h3,rfl,rfl⟩,hk⟩
def qfc [NL] (P:Program) (Tb:World->Prop) (h:Hp) (v:PV) (xs:List PV) [K:Cn (PV->List Nat->Prop)]:Prop:=∃ f ys,FnP v f ys/\@q4e _ P Tb f (q2n h (xs ++ ys)) K
def qbP [NL] {v:PV} {xs:List PV} {f:FuncId} {ys:List PV} {K:Cn (PV->List Nat->Prop)} (hv:FnP v f ys) (hc:@q4e _ P Tb f (q2n h (xs ++ ys)) K):@qfc _ P Tb h v xs K:=⟨f,ys,hv,hc⟩
def qyL [NL] {f:FuncId}:FnP (.vl (.func (.func f) #[] #[])) f []:=λw D ρ h v hv=>by
 unfold Rd at hv;exact ⟨[],hv,by unfold RdL; rfl⟩
def qbj [NL] {t:Nat} {xs:List Operand} {ts}:ao P Tb d (.call ⟨.value (.tmp t),xs.toArray,ts⟩) s h K=@qfc _ P Tb h (s t) (xs.map (pe s)) ⟨λx ids=>K x h (ids,[])⟩:=by
 unfold ao qfc q4e;refine propext ⟨?_,?_⟩
 .rintro ⟨x,h',fp,⟨f,ys,al,ids,h0,h1,h2,h3,rfl,rfl⟩,hk⟩;exact ⟨f,ys,h0,al,ids,x,by simpa using h1,h2,h3,hk⟩
 .rintro ⟨f,ys,h0,al,ids,x,h1,h2,h3,hk⟩;exact ⟨x,h,(ids,[]),⟨f,ys,al,ids,h0,by simpa using h1,h2,h3,rfl,rfl⟩,hk⟩
def q0S [NL] {f:FuncId} {al:List PV} {x:PV} {K:PV->List Nat->Prop} (hc:AC P Tb f al x) (hk:K x []):@q4e _ P Tb f (some (al,[])) ⟨K⟩:=⟨al,[],x,rfl,hc,.inl rfl,hk⟩
def q3t [NL] {f:FuncId} {al:List PV} {x:PV} {ids:List Nat} {K:PV->List Nat->Prop} (hc:AC P Tb f al x) (hz:Nz x) (hk:K x ids):@q4e _ P Tb f (some (al,ids)) ⟨K⟩:=⟨al,ids,x,rfl,hc,.inr hz,hk⟩
end
attribute [irreducible] cK oK nnK q1p qc1 vK ldK pgA mkA qa8 qrE qmJ qmK qmI qgs q4e qfc ao
section
variable {P:Program} {s:Nat->PV} {h:Hp} {i j:Nat} {k k':Kd} {x y:PV} {l m:List PV} {b:Bk}
def pe_t {t:Nat}:pe s (.tmp t)=s t:=rfl
def pe_c {v:Value}:pe s (.const v)=.vl v:=rfl
def qt5 {d:Nat}:q2w s (some d) x=pu s d x:=rfl
def qt6:q2w s none x=s:=rfl
def pu_ap {d t:Nat}:pu s d x t=if t=d then x else s t:=rfl
def qo7:q0Q h i b j=if j=i then some b else h j:=rfl
def h0_ap:h0 i=none:=rfl
def enP_z:enP (x :: l) 0=x:=rfl
def enP_s:enP (x :: l) (i+1)=enP l i:=rfl
def stK_c {xs:List (Nat × PV)} {ks:List Nat} {t a:Nat}:stK ((a,x) :: xs) ks s t=if t=a then x else stK xs ks s t:=by
 show (match (if t=a then some x else lkP xs t) with | some x=>x | none=>if kin ks t then s t else .un)=_
 by_cases ht:t=a
 .simp only [ht,if_true]
 .simp only [ht,if_false]; rfl
def stK_n {ks:List Nat} {t:Nat}:stK [] ks s t=if kin ks t then s t else .un:=rfl
def kin_c {ks:List Nat} {t a:Nat}:kin (a :: ks) t=if t=a then true else kin ks t:=rfl
def kin_n {t:Nat}:kin [] t=false:=rfl
def hpK_c {bs:List (Nat × Bk)} {kb:List Nat} {t a:Nat}:hpK ((a,b) :: bs) kb h t=if t=a then some b else hpK bs kb h t:=by
 show (match (if t=a then some b else lkB bs t) with | some b=>some b | none=>if kin kb t then h t else none)=_
 by_cases ht:t=a
 .simp only [ht,if_true]
 .simp only [ht,if_false]; rfl
def hpK_n {kb:List Nat} {t:Nat}:hpK [] kb h t=if kin kb t then h t else none:=rfl
def ksz_n:ksz none=1:=rfl
def ksz_s {n:Nat}:ksz (some n)=n:=rfl
def qsP:qsQ h none b=h:=rfl
def qsO {id:Nat}:qsQ h (some id) b=q0Q h id b:=rfl
def bn_v {op:BinOp} {t:TypeId} {a c:Value}:bnP P op t (.vl a) (.vl c)=(q0t P op t a c).map .vl:=rfl
def qwR {t:TypeId} {k m:IntKind} {a b c d:Int} (h:q9n P t=true):bnP P .eql t (.ag [.vl (.int k a),.vl (.int m b)]) (.ag [.vl (.int k c),.vl (.int m d)])=some (.vl (.bool (a == c && b == d))):=by
 simp [bnP,q7u,q0t,h,prV]
def bn_n {t E:TypeId} {c d:Nat} (hu:P.underlying t=some (.slice E)) (hk:0 < ksz k):bnP P .eql t (.sl k l) (.vl (.slice none c d))=some (.fm (fNil l.length)):=by simp only [bnP,hu]; rw [if_pos hk]
def un_v {op:UnOp} {a:Value}:unP op (.vl a)=(unV op a).map .vl:=rfl
def cv_v {s d:Option TypeDesc} {a:Value}:cvP s d (.vl a)=(qc6 s d a).map .vl:=rfl
def pk_t:pkP (.vl (.bool true)) x y=some x:=rfl
def pk_f:pkP (.vl (.bool false)) x y=some y:=rfl
def fld_p {t:TypeId} {f:Nat} {a:Nat}:qrM P t f (.pt a i j)=(q2P P t f).map λr=>.pt a i (j+r.1):=rfl
def ex_t:exP i (.tu l)=l[i]?:=rfl
def nl_p {a:Nat}:nlP (.pt a i j)=some (.pt a i j):=rfl
def nl_q:nlP (.qt k x)=some (.qt k x):=rfl
def mm_v {b:Bool} {a c:Value}:mmP b [.vl a,.vl c]=(mmV b [a,c]).map .vl:=rfl
def quF {n:Nat}:qrJ (some n) (.sl k l)=some (.vl (.int .i64 l.length)):=rfl
def quG {n a c d:Nat}:qrJ (some n) (.ow a k c d)=some (.vl (.int .i64 d)):=rfl
def quE {n a c:Nat} {A:Option Addr}:qrJ (some n) (.vl (.slice A a c))=some (.vl (.int .i64 a)):=rfl
def qfA {kk:IntKind} {n:Nat}:qbC (some 1) (.sl none l) (.vl (.int kk (n:Int)))=(l[n]?).map (.qt none):=by
 simp [qbC,ksz]
def qoW {kk:IntKind} {n c:Nat} (hc:0 < c):qbC (some c) (.sl (some c) l) (.vl (.int kk (n:Int)))=(l[n]?).map (.qt (some c)):=by
 simp [qbC,ksz,hc]
def qfB {kk:IntKind} {a off c n:Nat} (hn:n < c):qbC (some 1) (.ow a none off c) (.vl (.int kk (n:Int)))=some (.pt a (off+n) 0):=by
 simp [qbC,ksz,hn]
def qoY {kk:IntKind} {a off c n e:Nat} (hn:n < c):qbC (some e) (.ow a (some e) off c) (.vl (.int kk (n:Int)))=some (.pt a (off+n) 0):=by
 simp [qbC,ksz,hn]
def ld_p {a:Nat} {K:PV->List Nat->Prop}:@ldK (ldP h (some k) (.pt a i j)) ⟨K⟩=@ldK ((h a).bind λb=>if b.st=true\/ksz k=0 then none else ((b.xs[i]?).bind (ldU b.k k j)).map λx=>(x,[a])) ⟨K⟩:=by
 congr 1
 cases hh:h a <;> simp [ldP,hh]
def ld_q {K:PV->List Nat->Prop}:@ldK (ldP h (some k) (.qt k' x)) ⟨K⟩=@ldK (if ksz k=0 then none else (ldU k' k 0 x).map λy=>(y,[])) ⟨K⟩:=rfl
def ldU_s:ldU k k 0 x=some x:=by simp [ldU]
def ldU_c {n:Nat}:ldU (some n) none j (.ag l)=l[j]?:=by simp [ldU]
def py_s {o:Oper} {os:List Oper} {b:Bool}:q2j (o :: os) s (j+1) b=q2j os s j b:=rfl
def qht (b:Bool):PV->Option Bool | .vl (.bool c)=>some c | .vl (.tuple _)=>some (!b) | _=>none
def py_z {d:Nat} {op:Op} {ty:TypeId} {pos:String} {af:Array Edge} {g:Option (Nat × Bool)} {os:List Oper} {b:Bool}:q2j (⟨some d,op,ty,pos,af,g⟩ :: os) s 0 b=qht b (s d):=rfl
def qno {b c:Bool}:qht c (.vl (.bool b))=some b:=rfl
def qnm:qht true (.vl undef)=some false:=rfl
def qnn:qht false (.vl undef)=some true:=rfl
def qvh:q2n h []=some ([],[]):=rfl
def qvi:q2n h (x :: l)=qfy (clo h x) (q2n h l):=rfl
def qj5 {a b:List Nat}:qfy (some (x,a)) (some (l,b))=some (x :: l,a ++ b):=rfl
def qvj {v:Value}:clo h (.vl v)=some (.vl v,[]):=by simp [clo,q3G,q3A]
def qvo {G:Fam}:clo h (.fm G)=some (.fm G,[]):=by simp [clo,q3G,q3A]
def qvk:clo h (.sl k l)=some (.sl k l,[]):=by simp [clo,q3G,q3A]
def qvl:clo h (.qt k x)=some (.qt k x,[]):=by simp [clo,q3G,q3A]
def qlo:clo h .un=some (.un,[]):=by simp [clo,q3G,q3A]
def qvm {a off c:Nat}:clo h (.ow a k off c)=@clB ⟨h⟩ (h a) a k off c:=by simp only [clo,q3G,clB]
def clB_s {a off c:Nat} {T:TypeId}:@clB ⟨h⟩ (some ⟨T,k,l,false⟩) a k off c=@cO2 _ (ClL l) (some (.sl k ((l.drop off).take c),[a])) ⟨(q11 h l).map λr=>(.sl k ((r.1.drop off).take c),a :: r.2)⟩:=by
 unfold clB cO2 ClL;simp only [zF]
 by_cases hc:∀ x ∈ l,Cld x
 .rw [if_pos ⟨rfl,rfl,hc⟩,if_pos hc]
 .rw [if_neg λh=>hc h.2.2,if_neg hc,if_pos σ]
noncomputable def q5v (h:Hp) (n R:Nat) (K:Kd) (f:Nat->Nat):Option (List PV × List Nat):=q11 h ((List.range n).map λj=>.ow (j+R) K 0 (f j))
def clB_T {a off c n R:Nat} {T:TypeId} {K:Kd} {f:Nat->Nat}:@clB ⟨h⟩ (some ⟨T,none,(List.range n).map λj=>.ow (j+R) K 0 (f j),false⟩) a none off c=(q5v h n R K f).map λr=>(.sl none ((r.1.drop off).take c),a :: r.2):=by
 unfold clB q5v;simp only [zF]
 split
 .rename_i hc;have:n=0:=by
   rcases vY n with h | h
   .exact h
   .have:=hc.2.2 _ (List.mem_map_of_mem (yQ.2 h));simp [Cld,q3A] at this
  subst this;simp [q11]
 .rw [if_pos σ]
def cO_t {α:Type} {o:Option α}:cO True o=o:=by simp [cO]
def cO2_t {α:Type} {o:Option α} [Cn (Option α)]:cO2 True o=o:=by simp [cO2]
def qvp:clo h (.ag l)=(q3Y h l).map λr=>(.ag r.1,r.2):=rfl
def qp2:q3Y h []=some ([],[]):=rfl
def qp3:q3Y h (x :: l)=qfy (q3G h x) (q3Y h l):=rfl
def qp6 {v:Value}:q3G h (.vl v)=some (.vl v,[]):=by simp [q3G,q3A]
def qp9 {G:Fam}:q3G h (.fm G)=some (.fm G,[]):=by simp [q3G,q3A]
def qp7:q3G h (.sl k l)=some (.sl k l,[]):=by simp [q3G,q3A]
def qp8 {a off c:Nat}:q3G h (.ow a k off c)=@clB ⟨h⟩ (h a) a k off c:=by simp only [q3G,clB]
def qmU {v:Value}:Cld (.vl v)=True:=by simp [Cld,q3A]
def qmW {G:Fam}:Cld (.fm G)=True:=by simp [Cld,q3A]
def qmV:Cld (.sl k l)=True:=by simp [Cld,q3A]
def qyO:ClL []=True:=by simp [ClL]
def qyP:ClL (x :: l)=(Cld x/\ClL l):=by simp [ClL]
def qyQ:ClL (l ++ m)=(ClL l/\ClL m):=by
 simp only [ClL,zR];exact propext ⟨λh=>⟨λx hx=>h x (.inl hx),λx hx=>h x (.inr hx)⟩,λh x hx=>hx.elim (h.1 x) (h.2 x)⟩
def qqp {α:Type} {f:α->PV} {q:List α}:ClL (q.map f)=∀ a ∈ q,Cld (f a):=by simp [ClL]
def qbt {α:Type} {f:α->Value} {q:List α}:ClL (q.map λa=>.vl (f a))=True:=by simp [ClL,Cld,q3A]
def qqn {n:Nat}:ClL (List.replicate n x)=(n=0\/Cld x):=by
 simp only [ClL,yA];refine propext ⟨λh=>?_,λh y hy=>?_⟩
 .by_cases hn:n=0
  .exact .inl hn
  .exact .inr (h x ⟨hn,rfl⟩)
 .rw [hy.2]; exact h.resolve_left hy.1
def q5n (hl:ClL l) (hx:Cld x):ClL (l.set i x):=λy hy=>by
 rcases yJ hy with h | h
 .exact hl y h
 .rw [h]; exact hx
def rsP_t {t:Nat}:rsP P h s (.tmp t)=some (s t):=rfl
def qmF {t:TypeId} {ps:List (Nat × PV)} {pl:List (Nat × Nat)} {z:List Value} (hp:plc P t=some (pl,z)):blP P t ps=(flP pl (z.map .vl) ps).map .ag:=by unfold blP; rw [hp]; rfl
def qvt {acc:List FP}:qpc [] acc=True:=by simp [qpc,chk]
end
instance nNL:NL:=⟨λv=>match v with | .int .u32 _=>false | _=>true,λv h=>by split <;> first | exact absurd rfl (h _) | rfl⟩
end Go.E
namespace Go.Proofs.YtbjoghfmhgadkaaGreatDoor
open Go Go.E
set_option maxRecDepth 100000
def elK22:elK Tryz.prog 22=some (31,none,8):=κ
def elZ22:elZ Tryz.prog 22=some (31,none,8,.vl (.int .u64 0)):=κ
def elK23:elK Tryz.prog 23=some (3,none,8):=κ
def elZ23:elZ Tryz.prog 23=some (3,none,8,.vl (.int .i64 0)):=κ
def elK24:elK Tryz.prog 24=some (32,none,8):=κ
def elZ24:elZ Tryz.prog 24=some (32,none,8,.vl (.int .u64 0)):=κ
def elK39:elK Tryz.prog 39=some (113,none,24):=κ
def elZ39:elZ Tryz.prog 39=some (113,none,24,.vl (.slice none 0 0)):=κ
def elK84:elK Tryz.prog 84=some (24,none,24):=κ
def elZ84:elZ Tryz.prog 84=some (24,none,24,.vl (.slice none 0 0)):=κ
def elK87:elK Tryz.prog 87=some (46,some 4,48):=κ
def elZ87:elZ Tryz.prog 87=some (46,some 4,48,.ag [.vl (.bool false),.vl (.bool false),.vl (.slice none 0 0),.vl (.int .i64 0)]):=κ
def qvK:elK Tryz.prog 113=some (42,some 2,32):=κ
def qvE:elZ Tryz.prog 113=some (42,some 2,32,.ag [.vl (.bool false),.vl (.slice none 0 0)]):=κ
def qvJ:elK Tryz.prog 131=some (134,none,24):=κ
def qvD:elZ Tryz.prog 131=some (134,none,24,.vl (.slice none 0 0)):=κ
def qvI:elK Tryz.prog 134=some (4,none,1):=κ
def qvC:elZ Tryz.prog 134=some (4,none,1,.vl (.bool false)):=κ
def qvH:elK Tryz.prog 167=some (87,none,24):=κ
def qvB:elZ Tryz.prog 167=some (87,none,24,.vl (.slice none 0 0)):=κ
def qvG:elK Tryz.prog 246=some (270,none,24):=κ
def qvA:elZ Tryz.prog 246=some (270,none,24,.vl (.slice none 0 0)):=κ
def qvF:elK Tryz.prog 270=some (243,some 4,64):=κ
def quz:elZ Tryz.prog 270=some (243,some 4,64,.ag [.vl (.bool false),.vl (.slice none 0 0),.vl (.bool false),.vl (.slice none 0 0)]):=κ
def alB3:alB Tryz.prog 3=some ⟨3,none,[.vl (.int .i64 0)],false⟩:=κ
def alB26:alB Tryz.prog 26=some ⟨26,some 5,[.ag [.vl (.int .i64 0),.vl (.int .i64 0),.vl (.slice none 0 0),.vl (.slice none 0 0),.vl (.slice none 0 0)]],false⟩:=κ
def alB28:alB Tryz.prog 28=some ⟨28,some 3,[.ag [.vl (.int .i64 0),.vl (.int .i64 0),.vl (.slice none 0 0)]],false⟩:=κ
def alB34:alB Tryz.prog 34=some ⟨34,some 2,[.ag [.vl (.int .u64 0),.vl (.int .u64 0)]],false⟩:=κ
def alB42:alB Tryz.prog 42=some ⟨42,some 2,[.ag [.vl (.bool false),.vl (.slice none 0 0)]],false⟩:=κ
def alB46:alB Tryz.prog 46=some ⟨46,some 4,[.ag [.vl (.bool false),.vl (.bool false),.vl (.slice none 0 0),.vl (.int .i64 0)]],false⟩:=κ
def alB63:alB Tryz.prog 63=some ⟨63,some 8,[.ag [.vl (.slice none 0 0),.vl (.slice none 0 0),.vl (.slice none 0 0),.vl (.slice none 0 0),.vl (.slice none 0 0),.vl (.slice none 0 0),.vl (.slice none 0 0),.vl (.slice none 0 0)]],false⟩:=κ
def qwo:alB Tryz.prog 133=some ⟨133,some 5,[.ag [.vl (.slice none 0 0),.vl (.slice none 0 0),.vl (.slice none 0 0),.vl (.slice none 0 0),.vl (.slice none 0 0)]],false⟩:=κ
def qwn:alB Tryz.prog 240=some ⟨240,some 5,[.ag [.vl (.bool false),.vl (.bool false),.vl (.slice none 0 0),.vl (.int .i64 0),.vl (.bool false)]],false⟩:=κ
def qwm:alB Tryz.prog 243=some ⟨243,some 4,[.ag [.vl (.bool false),.vl (.slice none 0 0),.vl (.bool false),.vl (.slice none 0 0)]],false⟩:=κ
def qwl:alB Tryz.prog 273=some ⟨273,some 32,[.ag [.vl (.int .u8 0),.vl (.int .u8 0),.vl (.int .u8 0),.vl (.int .u8 0),.vl (.int .u8 0),.vl (.int .u8 0),.vl (.int .u8 0),.vl (.int .u8 0),.vl (.int .u8 0),.vl (.int .u8 0),.vl (.int .u8 0),.vl (.int .u8 0),.vl (.int .u8 0),.vl (.int .u8 0),.vl (.int .u8 0),.vl (.int .u8 0),.vl (.int .u8 0),.vl (.int .u8 0),.vl (.int .u8 0),.vl (.int .u8 0),.vl (.int .u8 0),.vl (.int .u8 0),.vl (.int .u8 0),.vl (.int .u8 0),.vl (.int .u8 0),.vl (.int .u8 0),.vl (.int .u8 0),.vl (.int .u8 0),.vl (.int .u8 0),.vl (.int .u8 0),.vl (.int .u8 0),.vl (.int .u8 0)]],false⟩:=κ
def qiz:q2P Tryz.prog 26 0=some (0,none):=κ
def qiy:q2P Tryz.prog 26 1=some (1,none):=κ
def qix:q2P Tryz.prog 26 2=some (2,none):=κ
def qiw:q2P Tryz.prog 26 3=some (3,none):=κ
def qiv:q2P Tryz.prog 26 4=some (4,none):=κ
def qiu:q2P Tryz.prog 28 0=some (0,none):=κ
def qit:q2P Tryz.prog 28 1=some (1,none):=κ
def qis:q2P Tryz.prog 28 2=some (2,none):=κ
def qir:q2P Tryz.prog 34 0=some (0,none):=κ
def qiq:q2P Tryz.prog 34 1=some (1,none):=κ
def qip:q2P Tryz.prog 42 0=some (0,none):=κ
def qio:q2P Tryz.prog 42 1=some (1,none):=κ
def qin:q2P Tryz.prog 46 0=some (0,none):=κ
def qim:q2P Tryz.prog 46 1=some (1,some 2):=κ
def qil:q2P Tryz.prog 46 2=some (3,none):=κ
def qij:q2P Tryz.prog 63 0=some (0,none):=κ
def qii:q2P Tryz.prog 63 1=some (1,none):=κ
def qih:q2P Tryz.prog 63 2=some (2,none):=κ
def qig:q2P Tryz.prog 63 3=some (3,none):=κ
def qif:q2P Tryz.prog 63 4=some (4,none):=κ
def qie:q2P Tryz.prog 63 5=some (5,none):=κ
def qid:q2P Tryz.prog 63 6=some (6,none):=κ
def qic:q2P Tryz.prog 63 7=some (7,none):=κ
def qf4:q2P Tryz.prog 133 0=some (0,none):=κ
def qf3:q2P Tryz.prog 133 1=some (1,none):=κ
def qf2:q2P Tryz.prog 133 2=some (2,none):=κ
def qf1:q2P Tryz.prog 133 3=some (3,none):=κ
def qf0:q2P Tryz.prog 133 4=some (4,none):=κ
def qfZ:q2P Tryz.prog 240 0=some (0,none):=κ
def qfY:q2P Tryz.prog 240 1=some (1,some 2):=κ
def qfX:q2P Tryz.prog 240 2=some (3,none):=κ
def qfW:q2P Tryz.prog 240 3=some (4,none):=κ
def qfV:q2P Tryz.prog 243 0=some (0,some 2):=κ
def qfU:q2P Tryz.prog 243 1=some (2,some 2):=κ
def plc26:plc Tryz.prog 26=some ([(0,1),(1,1),(2,1),(3,1),(4,1)],[.int .i64 0,.int .i64 0,.slice none 0 0,.slice none 0 0,.slice none 0 0]):=κ
def plc28:plc Tryz.prog 28=some ([(0,1),(1,1),(2,1)],[.int .i64 0,.int .i64 0,.slice none 0 0]):=κ
def plc34:plc Tryz.prog 34=some ([(0,1),(1,1)],[.int .u64 0,.int .u64 0]):=κ
def plc42:plc Tryz.prog 42=some ([(0,1),(1,1)],[.bool false,.slice none 0 0]):=κ
def plc46:plc Tryz.prog 46=some ([(0,1),(1,2),(3,1)],[.bool false,.bool false,.slice none 0 0,.int .i64 0]):=κ
def plc63:plc Tryz.prog 63=some ([(0,1),(1,1),(2,1),(3,1),(4,1),(5,1),(6,1),(7,1)],[.slice none 0 0,.slice none 0 0,.slice none 0 0,.slice none 0 0,.slice none 0 0,.slice none 0 0,.slice none 0 0,.slice none 0 0]):=κ
def qta:plc Tryz.prog 240=some ([(0,1),(1,2),(3,1),(4,1)],[.bool false,.bool false,.slice none 0 0,.int .i64 0,.bool false]):=κ
def qt9:plc Tryz.prog 243=some ([(0,2),(2,2)],[.bool false,.slice none 0 0,.bool false,.slice none 0 0]):=κ
attribute [go_sem] elK22 elZ22 elK23 elZ23 elK24 elZ24 elK39 elZ39 elK84 elZ84 elK87 elZ87 qvK qvE qvJ qvD qvI qvC qvH qvB
attribute [go_sem] qvG qvA qvF quz alB3 alB26 alB28 alB34 alB42 alB46 alB63 qwo qwn qwm qwl qiz qiy qix qiw qiv qiu qit qis
attribute [go_sem] qir qiq qip qio qin qim qil qij qii qih qig qif qie qid qic qf4 qf3 qf2 qf1 qf0
attribute [go_sem] qfZ qfY qfX qfW qfV qfU
def qwQ {ps:List (Nat × PV)}:blP Tryz.prog 26 ps=(flP [(0,1),(1,1),(2,1),(3,1),(4,1)] ([.int .i64 0,.int .i64 0,.slice none 0 0,.slice none 0 0,.slice none 0 0].map .vl) ps).map .ag:=qmF plc26
def qwP {ps:List (Nat × PV)}:blP Tryz.prog 28 ps=(flP [(0,1),(1,1),(2,1)] ([.int .i64 0,.int .i64 0,.slice none 0 0].map .vl) ps).map .ag:=qmF plc28
def qwO {ps:List (Nat × PV)}:blP Tryz.prog 34 ps=(flP [(0,1),(1,1)] ([.int .u64 0,.int .u64 0].map .vl) ps).map .ag:=qmF plc34
def qwN {ps:List (Nat × PV)}:blP Tryz.prog 42 ps=(flP [(0,1),(1,1)] ([.bool false,.slice none 0 0].map .vl) ps).map .ag:=qmF plc42
def qwM {ps:List (Nat × PV)}:blP Tryz.prog 46 ps=(flP [(0,1),(1,2),(3,1)] ([.bool false,.bool false,.slice none 0 0,.int .i64 0].map .vl) ps).map .ag:=qmF plc46
def qwL {ps:List (Nat × PV)}:blP Tryz.prog 63 ps=(flP [(0,1),(1,1),(2,1),(3,1),(4,1),(5,1),(6,1),(7,1)] ([.slice none 0 0,.slice none 0 0,.slice none 0 0,.slice none 0 0,.slice none 0 0,.slice none 0 0,.slice none 0 0,.slice none 0 0].map .vl) ps).map .ag:=qmF plc63
def qqE {ps:List (Nat × PV)}:blP Tryz.prog 240 ps=(flP [(0,1),(1,2),(3,1),(4,1)] ([.bool false,.bool false,.slice none 0 0,.int .i64 0,.bool false].map .vl) ps).map .ag:=qmF qta
def qqD {ps:List (Nat × PV)}:blP Tryz.prog 243 ps=(flP [(0,2),(2,2)] ([.bool false,.slice none 0 0,.bool false,.slice none 0 0].map .vl) ps).map .ag:=qmF qt9
attribute [go_sem] qwQ qwP qwO qwN qwM qwL qqE qqD
end Go.Proofs.YtbjoghfmhgadkaaGreatDoor
namespace Go.E
open Go Go.RowKit
attribute [go_sem ↓] pu_ap qo7 qyW AL_n AL_g qq0 qg2 qqZ qjm qqY qce q8n qjk qcd qaI q8m qjj qwd fnP_q qjl qwc qwb qwa qq2 qjn qwj qwi qwh qwg qwf qq1 qji qg3 qq3 qbj
attribute [go_sem 2000] clB_T
attribute [go_sem] cK_t oK_s nnK_n vK_v ldK_s qtb qtc qtd qte mkA_n mkA_z qub qpF qu6 qu8 qu7 quc q81 q82 qsL qnA qmz qsN qsM ldU_b qw8 qw7 qw6 qw5 qw3 qw4 qw2 pe_t pe_c qt5 qt6 h0_ap enP_z enP_s stK_c stK_n kin_c kin_n hpK_c hpK_n ksz_n ksz_s qsP qsO bn_v un_v cv_v pk_t pk_f fld_p ex_t nl_p nl_q mm_v quF quG quE qfA qoW qfB qoY ld_p ld_q ldU_s ldU_c py_s py_z qno qnm qnn qvh qvi qj5 qvj qvo qvk qvl qlo qvm clB_s cO_t cO2_t qvp qp2 qp3 qp6 qp9 qp7 qp8 qmU qmW qmV qyO qyP qyQ qqp qbt qvt
attribute [go_sem] zF Option.bind_none xA z9 List.getElem?_map List.length_map xF zK yC z6 List.length_set List.drop_zero List.nil_append yN and_true true_and implies_true or_false xO List.set_cons_zero List.set_cons_succ List.take_succ_cons List.take_zero List.take_nil List.drop_succ_cons
def q8F:List PV->Nat->PV->Option (List PV)
 | [],_,_=>none
 | _ :: l,0,x=>some (x :: l)
 | y :: l,n+1,x=>(q8F l n x).map λr=>y :: r
def qdn:∀ {l:List PV} {n:Nat} {x:PV},q8F l n x=if n < l.length then some (l.set n x) else none
 | [],n,x=>by simp [q8F]
 | y :: l,0,x=>by simp [q8F]
 | y :: l,n+1,x=>by
  simp only [q8F,qdn (l:=l)]
  by_cases h:n < l.length <;> simp [h]
def qsn {y x:PV} {l:List PV}:q8F (y :: l) 0 x=some (x :: l):=rfl
def qso {y x:PV} {l:List PV} {n:Nat}:q8F (y :: l) (n+1) x=(q8F l n x).map λr=>y :: r:=rfl
def q8t:List PV->Nat->List PV->Option (List PV)
 | cs,0,[]=>some cs
 | _ :: cs,0,y :: l=>(q8t cs 0 l).map λr=>y :: r
 | x :: cs,n+1,l=>(q8t cs n l).map λr=>x :: r
 | [],_,_=>none
def q4K:∀ {cs:List PV} {n:Nat} {l:List PV},0 < l.length->q8t cs n l=if n+l.length<=cs.length then some (cs.take n ++ l ++ cs.drop (n+l.length)) else none
 | [],n,y :: l,_=>by
  cases n <;> simp [q8t]
 | x :: cs,0,[y],_=>by simp [q8t]
 | x :: cs,0,y :: z :: l,_=>by
  rw [q8t,q4K (cs:=cs) (n:=0) (l:=z :: l) σ];simp only [zK]
  by_cases h:l.length+1<=cs.length
  .rw [if_pos ω,if_pos ω]; simp [xK]
  .rw [if_neg ω,if_neg ω]; rfl
 | x :: cs,n+1,y :: l,hl=>by
  rw [q8t,q4K (cs:=cs) (n:=n) hl];simp only [zK]
  by_cases h:n+(l.length+1)<=cs.length
  .rw [if_pos h,if_pos ω];rw [show n+1+(l.length+1)=n+(l.length+1)+1 by omega];simp
  .rw [if_neg h,if_neg ω]; rfl
def qsp {cs:List PV}:q8t cs 0 []=some cs:=by cases cs <;> rfl
def qsr {x y:PV} {cs l:List PV}:q8t (x :: cs) 0 (y :: l)=(q8t cs 0 l).map λr=>y :: r:=rfl
def qsq {x:PV} {cs l:List PV} {n:Nat}:q8t (x :: cs) (n+1) l=(q8t cs n l).map λr=>x :: r:=by cases l <;> rfl
def flS (o:Option (Nat × Nat)) (x:PV) (cs:List PV):Option (List PV):=match o with
 | some (off,1)=>match x with
  | .vl y=>if y.oneCell'=true then q8F cs off (.vl y) else none
  | .sl k l=>q8F cs off (.sl k l)
  | .ow id k a n=>q8F cs off (.ow id k a n)
  | .pt id a n=>q8F cs off (.pt id a n)
  | _=>none
 | some (off,m)=>match x with
  | .ag l=>if l.length=m/\off+m<=cs.length then some (cs.take off ++ l ++ cs.drop (off+m)) else none
  | _=>none
 | none=>none
def flP_n {pl:List (Nat × Nat)} {cs:List PV}:flP pl cs []=some cs:=rfl
def flP_c {pl:List (Nat × Nat)} {cs:List PV} {i:Nat} {x:PV} {r:List (Nat × PV)}:flP pl cs ((i,x) :: r)=(flS (pl[i]?) x cs).bind λc=>flP pl c r:=by
 rw [flP];unfold flS;cases pl[i]? with
 | none=>rfl
 | some p =>
  obtain ⟨off,m⟩:=p
  match m with
  | 0=>cases x <;> (try rfl); simp only; split <;> rfl
  | 1 =>
   cases x <;> simp only [qdn] <;> (try rfl)
   case vl y=>by_cases h1:y.oneCell'=true <;> by_cases h2:off < cs.length <;> simp [h1,h2]
   all_goals (by_cases h2:off < cs.length <;> simp [h2])
  | m+2=>cases x <;> (try rfl); simp only; split <;> rfl
def flS_2 {off:Nat} {a b:PV} {cs:List PV}:flS (some (off,2)) (.ag [a,b]) cs=q8t cs off [a,b]:=by
 rw [q4K σ];simp [flS]
def flS_4 {off:Nat} {a b c d:PV} {cs:List PV}:flS (some (off,4)) (.ag [a,b,c,d]) cs=q8t cs off [a,b,c,d]:=by
 rw [q4K σ];simp [flS]
def flS_i {off:Nat} {k:IntKind} {z:Int} {cs:List PV}:flS (some (off,1)) (.vl (.int k z)) cs=q8F cs off (.vl (.int k z)):=rfl
def flS_b {off:Nat} {z:Bool} {cs:List PV}:flS (some (off,1)) (.vl (.bool z)) cs=q8F cs off (.vl (.bool z)):=rfl
def flS_l {off n c:Nat} {A:Option Addr} {cs:List PV}:flS (some (off,1)) (.vl (.slice A n c)) cs=q8F cs off (.vl (.slice A n c)):=rfl
def flS_s {off:Nat} {k:Kd} {l cs:List PV}:flS (some (off,1)) (.sl k l) cs=q8F cs off (.sl k l):=rfl
def flS_o {off id a n:Nat} {k:Kd} {cs:List PV}:flS (some (off,1)) (.ow id k a n) cs=q8F cs off (.ow id k a n):=rfl
attribute [go_sem] qsn qso qsp qsr qsq flS_2 flS_4 flP_n flP_c flS_i flS_b flS_l flS_s flS_o
def tkm {α β:Type} {f:α->β} {l:List α}:(l.map f).take l.length=l.map f:=yO σ
def qhN {α β:Type} {f:α->β} {l:List α} {n:Nat} (hn:l.length<=n):(l.map f).take n=l.map f:=yO (by simpa using hn)
def tkl {α:Type} {l:List α}:l.take l.length=l:=List.take_length
attribute [go_sem] tkm qhN tkl
def nin (x:Nat):List Nat->Prop
 | []=>True
 | y :: r=>x≠y/\nin x r
def dis (l:List Nat):List Nat->Prop
 | []=>True
 | x :: r=>nin x l/\dis l r
def q6S {x:Nat}:∀ {l:List Nat},nin x l=(x ∉ l)
 | []=>by simp [nin]
 | y :: r=>by simp [nin,q6S (l:=r)]
def qli {l:List Nat}:∀ {r:List Nat},dis l r=∀ x ∈ r,x ∉ l
 | []=>by simp [dis]
 | y :: r=>by simp [dis,q6S,qli (r:=r)]
def nin_n {x:Nat}:nin x []=True:=rfl
def nin_c {x y:Nat} {r:List Nat}:nin x (y :: r)=(x≠y/\nin x r):=rfl
def dis_n {l:List Nat}:dis l []=True:=rfl
def dis_c {l r:List Nat} {x:Nat}:dis l (x :: r)=(nin x l/\dis l r):=rfl
def dj_eq {a b c d:List Nat}:dj (a,b) (c,d)=(dis c b/\dis d b/\dis a d):=by
 simp only [dj,qli];exact propext ⟨λh=>⟨λx hx=>(h.1 x hx).1,λx hx=>(h.1 x hx).2,h.2⟩,λh=>⟨λx hx=>⟨h.1 x hx,h.2.1 x hx⟩,h.2.2⟩⟩
def qvu {a b:Nat} {r:List (Nat × Nat)} {acc:List FP}:qpc ((a,b) :: r) acc=(dj (acc.reverse.getD a ([],[])) (acc.reverse.getD b ([],[]))/\qpc r acc):=by
 simp [qpc,chk]
attribute [go_sem] nin_n nin_c dis_n dis_c dj_eq qvu List.reverse_cons List.reverse_nil List.cons_append List.getD_cons_zero List.getD_cons_succ Option.toList_some Option.toList_none xD
def qjN [NL] {z:Int} {A:Prop}:q1p none (.vl (.int .i64 z)) A=A:=by rw [qf5]; simp [cK,nlo]
def qjM [NL] {z:Int} {A:Prop}:q1p none (.vl (.int .u64 z)) A=A:=by rw [qf5]; simp [cK,nlo]
attribute [go_sem] qjN qjM qwD
section
variable {τ:Nat->Option Nat} {h h':Hp} {x y:PV} {l m:List PV} {k k':Kd}
def qxZ:LeV τ h h' x .un=True:=by simp [LeV.un]
def qmO {a b:Value}:LeV τ h h' (.vl a) (.vl b)=(a=b):=by
 refine propext ⟨λh=>by cases h; rfl,λh=>by subst h; exact .cl (by simp [Cld,q3A])⟩
def qx6 {G H:Fam}:LeV τ h h' (.fm G) (.fm H)=(G=H):=by
 refine propext ⟨λh=>by cases h; rfl,λh=>by subst h; exact .cl (by simp [Cld,q3A])⟩
def qx1:LeV τ h h' (.sl k l) (.sl k' m)=(k=k'/\l=m):=by
 refine propext ⟨λh=>by cases h; exact ⟨rfl,rfl⟩,λh=>by obtain ⟨rfl,rfl⟩:=h; exact .cl (by simp [Cld,q3A])⟩
def q3J {i j a b c d:Nat}:LeV τ h h' (.ow j k a b) (.ow i k' c d)=(τ i=some j/\(∃ b,h' i=some b)/\k=k'/\a=c/\b=d):=by
 refine propext ⟨λh=>?_,λ⟨h1,⟨b,h2⟩,h3,h4,h5⟩=>by subst h3; subst h4; subst h5; exact .ow h1 h2⟩;cases h with
 | cl hc=>simp [Cld,q3A] at hc
 | ow h1 h2=>exact ⟨h1,⟨_,h2⟩,rfl,rfl,rfl⟩
def qx3 {i j a b c d:Nat}:LeV τ h h' (.pt j a b) (.pt i c d)=(τ i=some j/\(∃ b,h' i=some b)/\a=c/\b=d):=by
 refine propext ⟨λh=>?_,λ⟨h1,⟨b,h2⟩,h4,h5⟩=>by subst h4; subst h5; exact .pt h1 h2⟩;cases h with
 | cl hc=>simp [Cld,q3A] at hc
 | pt h1 h2=>exact ⟨h1,⟨_,h2⟩,rfl,rfl⟩
def q8r {j a b:Nat} {T:TypeId} (hj:h j=some ⟨T,k,l,false⟩) (hc:ClL l) (hn:∀ i,τ i=some j->h' i=none) (he:(l.drop a).take b=m):LeV τ h h' (.ow j k a b) (.sl k m):=by
 subst he;exact .fz hj rfl rfl hc hn
def qmP {i a b:Nat}:LeV τ h h' (.vl (.slice none 0 0)) (.ow i k a b)=(τ i=none/\(∃ b,h' i=some b/\b.k=k)/\a=0/\b=0):=by
 refine propext ⟨λh=>?_,λ⟨h1,⟨b,h2,h3⟩,h4,h5⟩=>by subst h4; subst h5; exact .nilow h1 h2 h3⟩;cases h with
 | nilow h1 h2 h3=>exact ⟨h1,⟨_,h2,h3⟩,rfl,rfl⟩
def qx4:LeV τ h h' (.vl (.slice none 0 0)) (.sl k l)=(l=[]):=by
 refine propext ⟨λh=>by cases h; rfl,λh=>by subst h; exact .nilsl⟩
def qcr (τ:Nat->Option Nat) (h h':Hp):List PV->List PV->Prop
 | [],[]=>True
 | x :: l,y :: m=>LeV τ h h' x y/\qcr τ h h' l m
 | _,_=>False
def q7c:∀ {l m:List PV},qcr τ h h' l m=LeL τ h h' l m
 | [],[]=>by simp [qcr,LeL]
 | x :: l,[]=>by simp [qcr,LeL]
 | [],y :: m=>by simp [qcr,LeL]
 | x :: l,y :: m=>by
  simp only [qcr];rw [q7c (l:=l) (m:=m)];refine propext ⟨λ⟨h1,h2,h3⟩=>⟨by simp [h2],λi a b ha hb=>?_⟩,λ⟨h1,h2⟩=>⟨h2 0 x y rfl rfl,by simpa using h1,λi a b ha hb=>h2 (i+1) a b (by simpa using ha) (by simpa using hb)⟩⟩;cases i with
  | zero=>simp at ha hb; subst ha; subst hb; exact h1
  | succ i=>exact h3 i a b (by simpa using ha) (by simpa using hb)
def qge:LeV τ h h' (.ag l) (.ag m)=qcr τ h h' l m:=by
 rw [q7c];refine propext ⟨λh=>?_,λ⟨h1,h2⟩=>.ag h1 h2⟩;cases h with
 | cl hc=>exact ⟨rfl,λi a b ha hb=>by rw [ha] at hb; cases hb; have:=hc a (zG ha); exact .cl (by cases a <;> simp_all [Cld,q3A])⟩
 | ag h1 h2=>exact ⟨h1,h2⟩
def qx0:LeV τ h h' (.tu l) (.tu m)=qcr τ h h' l m:=by
 rw [q7c];refine propext ⟨λh=>?_,λ⟨h1,h2⟩=>.tu h1 h2⟩;cases h with
 | cl hc=>simp [Cld,q3A] at hc
 | tu h1 h2=>exact ⟨h1,h2⟩
def qx7:qcr τ h h' [] []=True:=rfl
def q2s:qcr τ h h' (x :: l) (y :: m)=(LeV τ h h' x y/\qcr τ h h' l m):=rfl
def qx8 {s:Nat->PV}:q4f τ h h' s []=True:=rfl
def qx9 {s:Nat->PV} {t:Nat} {r:List (Nat × PV)}:q4f τ h h' s ((t,x) :: r)=(LeV τ h h' (s t) x/\q4f τ h h' s r):=rfl
def qxa {s s0:Nat->PV}:LeSk τ h h' s s0 []=True:=rfl
def qxb {s s0:Nat->PV} {t:Nat} {r:List Nat}:LeSk τ h h' s s0 (t :: r)=(LeV τ h h' (s t) (s0 t)/\LeSk τ h h' s s0 r):=rfl
def qxt:qcg τ h h' []=True:=rfl
def qxu {t:Nat} {b:Bk} {r:List (Nat × Bk)}:qcg τ h h' ((t,b) :: r)=(LeB τ h h' t b/\qcg τ h h' r):=rfl
def qxx {hb:Hp}:LeBk τ h h' hb []=True:=rfl
def qxy {hb:Hp} {t:Nat} {r:List Nat}:LeBk τ h h' hb (t :: r)=((∀ b,hb t=some b->LeB τ h h' t b)/\LeBk τ h h' hb r):=rfl
def qru {i a:Nat} {o:Option Nat} {r:List (Nat × Option Nat)}:q0b ((a,o) :: r) i=if i=a then o else q0b r i:=rfl
def qrs {i:Nat}:q0b [] i=some i:=rfl
def LeB' (o:Option Nat) (τ:Nat->Option Nat) (h h':Hp) (b':Bk):Prop :=
 match o with
 | some j=>∃ b,h j=some b/\b'.T=b.T/\b'.k=b.k/\(b'.st=false/\b.st=false)/\LeL τ h h' b.xs b'.xs
 | none=>b'.xs=[]
def qyA {i:Nat} {b':Bk}:LeB τ h h' i b'=LeB' (τ i) τ h h' b':=rfl
def LeBb (o:Option Bk) (τ:Nat->Option Nat) (h h':Hp) (b':Bk):Prop:=∃ b,o=some b/\b'.T=b.T/\b'.k=b.k/\(b'.st=false/\b.st=false)/\LeL τ h h' b.xs b'.xs
def qyB {j:Nat} {b':Bk}:LeB' (some j) τ h h' b'=LeBb (h j) τ h h' b':=rfl
def qyC {T:TypeId} {st:Bool}:LeB' none τ h h' ⟨T,k,l,st⟩=(l=[]):=rfl
def qxz {T T':TypeId} {st st':Bool}:LeBb (some ⟨T,k,l,st⟩) τ h h' ⟨T',k',m,st'⟩=(T'=T/\k'=k/\(st'=false/\st=false)/\LeL τ h h' l m):=by simp [LeBb]
def q0O (he:l=m) (hc:ClL m):LeL τ h h' l m:=by
 subst he;exact ⟨rfl,λi a b ha hb=>by rw [ha] at hb; cases hb; exact .cl (hc a (zG ha))⟩
def qaO:LeL τ h h' [x] [y]=LeV τ h h' x y:=by rw [<- q7c]; simp [qcr]
def qmp:q7v τ []=True:=rfl
def qkT (τ:Nat->Option Nat) (i:Nat):List Nat->Prop
 | []=>True
 | j :: r=>(i=j\/τ i=none\/τ i≠τ j)/\qkT τ i r
def qdN {i:Nat}:∀ {r:List Nat},qkT τ i r=∀ j ∈ r,i=j\/τ i=none\/τ i≠τ j
 | []=>by simp [qkT]
 | j :: r=>by simp only [qkT,qdN (r:=r),List.forall_mem_cons]
def qrw {i:Nat}:qkT τ i []=True:=rfl
def qrx {i j:Nat} {r:List Nat}:qkT τ i (j :: r)=((i=j\/τ i=none\/τ i≠τ j)/\qkT τ i r):=rfl
def qmq {i:Nat} {r:List Nat}:q7v τ (i :: r)=(qkT τ i r/\q7v τ r):=by rw [qdN]; rfl
def qvP {i:Nat} {b:Bk} {bs:List (Nat × Bk)} {kb:List Nat}:dom1 ((i,b) :: bs) kb=i :: dom1 bs kb:=rfl
def qvO {kb:List Nat}:dom1 [] kb=kb:=rfl
end
section
variable {P:Program} {Tb:World->Prop} {J:Nat->Prop} {n:Nat} {Q:SQ} {s:Nat->PV} {h:Hp}
def qgt [NL] {id:Nat} {l:List Oper} {b:Code} (hw:∀ K:(Nat->PV)->Hp->Prop,(∀ s h,AW P Tb J n b Q s h->K s h)->AL P Tb l (λs h _=>K s h) l s h []):AW P Tb J n (.seq (.region id l.toArray false) b) Q s h :=
 q4G λK hK=>qmY λK1 hK1=>hw K1 λs h hb=>hK1 s h (hK s h hb)
def Az {id:Nat} {l:List Oper} {b:Code} {s1:Nat->PV} {h1:Hp}  (k:AW P Tb J n b Q s1 h1) (ee:∀ K:(Nat->PV)->Hp->Prop,AL P Tb l (λs h _=>K s h) l s h []=K s1 h1:=by intro K; simp -implicitDefEqProofs (disch:=omega) only [go_sem,Nat.reduceEqDiff,Nat.reduceAdd,↓reduceIte]; exact rfl):AW P Tb J n (.seq (.region id l.toArray false) b) Q s h:=qgt λK hK=>(ee K).mpr (hK _ _ k)
def Az1 {id:Nat} {l:List Oper} {b:Code} {s1:Nat->PV} {h1:Hp} {F1:Prop} (f1:F1) (k:AW P Tb J n b Q s1 h1) (ee:F1->∀ K:(Nat->PV)->Hp->Prop,AL P Tb l (λs h _=>K s h) l s h []=K s1 h1:=by intro g1 K; simp -implicitDefEqProofs (disch:=omega) only [go_sem,Nat.reduceEqDiff,Nat.reduceAdd,↓reduceIte,g1]; exact rfl):AW P Tb J n (.seq (.region id l.toArray false) b) Q s h:=qgt λK hK=>(ee f1 K).mpr (hK _ _ k)
def Az2 {id:Nat} {l:List Oper} {b:Code} {s1:Nat->PV} {h1:Hp} {F1 F2:Prop} (f1:F1) (f2:F2) (k:AW P Tb J n b Q s1 h1) (ee:F1->F2->∀ K:(Nat->PV)->Hp->Prop,AL P Tb l (λs h _=>K s h) l s h []=K s1 h1:=by intro g1 g2 K; simp -implicitDefEqProofs (disch:=omega) only [go_sem,Nat.reduceEqDiff,Nat.reduceAdd,↓reduceIte,g1,g2]; exact rfl):AW P Tb J n (.seq (.region id l.toArray false) b) Q s h:=qgt λK hK=>(ee f1 f2 K).mpr (hK _ _ k)
def Az3 {id:Nat} {l:List Oper} {b:Code} {s1:Nat->PV} {h1:Hp} {F1 F2 F3:Prop} (f1:F1) (f2:F2) (f3:F3) (k:AW P Tb J n b Q s1 h1) (ee:F1->F2->F3->∀ K:(Nat->PV)->Hp->Prop,AL P Tb l (λs h _=>K s h) l s h []=K s1 h1:=by intro g1 g2 g3 K; simp -implicitDefEqProofs (disch:=omega) only [go_sem,Nat.reduceEqDiff,Nat.reduceAdd,↓reduceIte,g1,g2,g3]; exact rfl):AW P Tb J n (.seq (.region id l.toArray false) b) Q s h:=qgt λK hK=>(ee f1 f2 f3 K).mpr (hK _ _ k)
def Az4 {id:Nat} {l:List Oper} {b:Code} {s1:Nat->PV} {h1:Hp} {F1 F2 F3 F4:Prop} (f1:F1) (f2:F2) (f3:F3) (f4:F4) (k:AW P Tb J n b Q s1 h1) (ee:F1->F2->F3->F4->∀ K:(Nat->PV)->Hp->Prop,AL P Tb l (λs h _=>K s h) l s h []=K s1 h1:=by intro g1 g2 g3 g4 K; simp -implicitDefEqProofs (disch:=omega) only [go_sem,Nat.reduceEqDiff,Nat.reduceAdd,↓reduceIte,g1,g2,g3,g4]; exact rfl):AW P Tb J n (.seq (.region id l.toArray false) b) Q s h:=qgt λK hK=>(ee f1 f2 f3 f4 K).mpr (hK _ _ k)
def Az5 {id:Nat} {l:List Oper} {b:Code} {s1:Nat->PV} {h1:Hp} {F1 F2 F3 F4 F5:Prop} (f1:F1) (f2:F2) (f3:F3) (f4:F4) (f5:F5) (k:AW P Tb J n b Q s1 h1) (ee:F1->F2->F3->F4->F5->∀ K:(Nat->PV)->Hp->Prop,AL P Tb l (λs h _=>K s h) l s h []=K s1 h1:=by intro g1 g2 g3 g4 g5 K; simp -implicitDefEqProofs (disch:=omega) only [go_sem,Nat.reduceEqDiff,Nat.reduceAdd,↓reduceIte,g1,g2,g3,g4,g5]; exact rfl):AW P Tb J n (.seq (.region id l.toArray false) b) Q s h:=qgt λK hK=>(ee f1 f2 f3 f4 f5 K).mpr (hK _ _ k)
def Az6 {id:Nat} {l:List Oper} {b:Code} {s1:Nat->PV} {h1:Hp} {F1 F2 F3 F4 F5 F6:Prop} (f1:F1) (f2:F2) (f3:F3) (f4:F4) (f5:F5) (f6:F6) (k:AW P Tb J n b Q s1 h1) (ee:F1->F2->F3->F4->F5->F6->∀ K:(Nat->PV)->Hp->Prop,AL P Tb l (λs h _=>K s h) l s h []=K s1 h1:=by intro g1 g2 g3 g4 g5 g6 K; simp -implicitDefEqProofs (disch:=omega) only [go_sem,Nat.reduceEqDiff,Nat.reduceAdd,↓reduceIte,g1,g2,g3,g4,g5,g6]; exact rfl):AW P Tb J n (.seq (.region id l.toArray false) b) Q s h:=qgt λK hK=>(ee f1 f2 f3 f4 f5 f6 K).mpr (hK _ _ k)
def A_sd [NL] {id:Nat} {l:List Oper} {b:Code} (prs:List (Nat × Nat)) (hm:P.follows .mixedOrders=true) (hok:q9q l (qlR [] l) prs=true) (hw:∀ K:(Nat->PV)->Hp->Prop,(∀ s h,AW P Tb J n b Q s h->K s h)->AL P Tb l (λs h acc=>qpc prs acc/\K s h) l s h []):AW P Tb J n (.seq (.region id l.toArray true) b) Q s h :=
 q4G λK hK=>qgm prs hm hok λK1 hK1=>hw K1 λs h hb=>hK1 s h (hK s h hb)
def A_ld [NL] {id:Nat} {l:List Oper} (prs:List (Nat × Nat)) (hm:P.follows .mixedOrders=true) (hok:q9q l (qlR [] l) prs=true) (hw:∀ K:(Nat->PV)->Hp->Prop,(∀ s h,Q .normal s h->K s h)->AL P Tb l (λs h acc=>qpc prs acc/\K s h) l s h []):AW P Tb J n (.region id l.toArray true) Q s h:=qgm prs hm hok hw
def stM_c {xs kv:List (Nat × PV)} {t a:Nat} {x:PV}:stM ((a,x) :: xs) kv t=if t=a then x else stM xs kv t:=rfl
def stM_n {kv:List (Nat × PV)} {t:Nat}:stM [] kv t=stV kv t:=rfl
def stV_c {kv:List (Nat × PV)} {t a:Nat} {x:PV}:stV ((a,x) :: kv) t=if t=a then x else stV kv t:=rfl
def stV_n {t:Nat}:stV [] t=.un:=rfl
def hpM_c {bs:List (Nat × Bk)} {kb:List (Nat × Option Bk)} {i a:Nat} {b:Bk}:hpM ((a,b) :: bs) kb i=if i=a then some b else hpM bs kb i:=rfl
def hpM_n {kb:List (Nat × Option Bk)} {i:Nat}:hpM [] kb i=hpV kb i:=rfl
def hpV_c {kb:List (Nat × Option Bk)} {i a:Nat} {b:Option Bk}:hpV ((a,b) :: kb) i=if i=a then b else hpV kb i:=rfl
def hpV_n {i:Nat}:hpV [] i=none:=rfl
def qxv {τ:Nat->Option Nat} {h h':Hp}:q9B τ h h' []=True:=rfl
def qxw {τ:Nat->Option Nat} {h h':Hp} {i:Nat} {T:TypeId} {k:Kd} {l:List PV} {st:Bool} {r:List (Nat × Option Bk)}:q9B τ h h' ((i,some ⟨T,k,l,st⟩) :: r)=(LeB τ h h' i ⟨T,k,l,st⟩/\q9B τ h h' r):=by simp [q9B]
attribute [go_sem ↓] stM_c stM_n stV_c stV_n hpM_c hpM_n hpV_c hpV_n
attribute [go_sem] qxv qxw
def qn7 (o:Option (List PV × List Nat)) (r:PV):Prop:=match o with | some (al,_)=>LeV (λ_=>none) h0 h0 (mkR al) r | none=>False
def qtH {x r:PV} {l:List Nat}:qn7 (some ([x],l)) r=LeV (λ_=>none) h0 h0 x r:=rfl
def qtI {r:PV} {l:List Nat}:qn7 (some ([],l)) r=LeV (λ_=>none) h0 h0 (.tu []) r:=rfl
def qtG {x y r:PV} {m:List PV} {l:List Nat}:qn7 (some (x :: y :: m,l)) r=LeV (λ_=>none) h0 h0 (.tu (x :: y :: m)) r:=rfl
def rsL_n:rsL P h s []=some []:=rfl
def rsC (h:Hp) (k:Option Kd) (p:PV):Option PV:=(ldP h k p).map (·.1)
def rsP_l {a t:Nat}:rsP P h s (.cell a t)=rsC h (q0c P t) (s a):=rfl
def rsC_p {k:Kd} {a i j:Nat}:rsC h (some k) (.pt a i j)=(h a).bind λb=>if b.st=true\/ksz k=0 then none else (b.xs[i]?).bind (ldU b.k k j):=by
 have e:ldP h (some k) (.pt a i j)=(h a).bind λb=>if b.st=true\/ksz k=0 then none else ((b.xs[i]?).bind (ldU b.k k j)).map λx=>(x,[a]):=by
  cases hh:h a <;> simp [ldP,hh]
 unfold rsC;rw [e];cases h a with
 | none=>rfl
 | some b =>
  simp only [zF]
  by_cases hc:b.st=true\/ksz k=0
  .rw [if_pos hc,if_pos hc]; rfl
  .rw [if_neg hc,if_neg hc];cases (b.xs[i]?).bind (ldU b.k k j) <;> rfl
def rsB (a:Option PV) (b:Option (List PV)):Option (List PV):=a.bind λx=>b.map λy=>x :: y
def rsL_c {r:ResultVar} {l:List ResultVar}:rsL P h s (r :: l)=rsB (rsP P h s r) (rsL P h s l):=rfl
def rsB_s {x:PV} {l:List PV}:rsB (some x) (some l)=some (x :: l):=rfl
def rt {fn:Func} {r:PV} {rs:List ResultVar} (hr:fn.results.toList=rs) (hlen:(decide (rs.length<=4))=true) (hk:qn7 ((rsL P h s rs).bind (q2n h)) r) {x:Exit} (hx:x=.ret\/x=.normal):retA P fn r x s h:=by
 refine ⟨hx,by rw [hr]; simpa using hlen,?_⟩;rw [hr];cases h1:rsL P h s rs with
 | none=>rw [h1] at hk; exact hk.elim
 | some l =>
  rw [h1,zF] at hk;cases h2:q2n h l with
  | none=>rw [h2] at hk; exact hk.elim
  | some p=>rw [h2] at hk; exact ⟨l,p.1,p.2,rfl,h2,hk⟩
def A_t [NL] {c:Operand} {a b:Code} (hc:pe s c=.vl (.bool true)) (ha:AW P Tb J n a Q s h):AW P Tb J n (.cond c a b) Q s h:=qgn hc (λ_=>ha) (λh=>by cases h)
def A_f [NL] {c:Operand} {a b:Code} (hc:pe s c=.vl (.bool false)) (hb:AW P Tb J n b Q s h):AW P Tb J n (.cond c a b) Q s h:=qgn hc (λh=>by cases h) (λ_=>hb)
end
attribute [go_sem] qtH qtI qtG rsL_n rsL_c rsB_s rsP_t rsP_l rsC_p qxZ qmO qx6 qx1 q3J qx3 qmP qx4 qge qx0 qx7 q2s qx8 qx9 qxa qxb qxt qxu qxx qxy qru qrs qyA qyB qyC qxz qaO qmp qmq qvP qvO qrw qrx ne_eq not_false_eq_true or_true true_or xG.injEq Value.int.injEq Value.bool.injEq Option.map_none exists_eq' false_or and_self reduceCtorEq
end Go.E
namespace Go.Proofs.YtbjoghfmhgadkaaGreatDoor
open Go Go.E Go.Sp
abbrev iv (z:Int):PV:=.vl (.int .i64 z)
abbrev uv (z:Int):PV:=.vl (.int .u64 z)
abbrev bv (b:Bool):PV:=.vl (.bool b)
abbrev q0W:PV:=.vl (.slice none 0 0)
abbrev pI (l:List Int):PV:=.sl none (l.map λz=>iv z)
abbrev pF (l:List Nat):PV:=.sl none (l.map λz:Nat=>uv z)
abbrev pB (l:List Bool):PV:=.sl none (l.map bv)
abbrev pV (V:Int):PV:=.fm (fV V)
abbrev ACt [NL] (f:FuncId) (al:List PV) (r:PV):Prop:=AC Tryz.prog q5q f al r
section
variable {τ:Nat->Option Nat} {h h':Hp}
def qkG {l m:List Value}:LeL τ h h' (l.map .vl) (m.map .vl)=(l=m):=by
 refine propext ⟨λ⟨h1,h2⟩=>?_,λh=>by subst h; exact q0O rfl (by simp [ClL,Cld,q3A])⟩
 apply yE
 intro i
 rcases yZ i l.length with hi | hi
 .have hm:i < m.length:=by simp at h1; omega
  have:=h2 i (.vl l[i]) (.vl m[i]) (by simp [hi]) (by simp [hm]);rw [qmO] at this;rw [zD hi,zD hm,this]
 .rw [vQ hi,vQ (by simp at h1; omega)]
def q7d {α:Type} {f:α->Value} (hf:∀ a b,f a=f b->a=b) {l m:List α}:LeL τ h h' (l.map λz=>.vl (f z)) (m.map λz=>.vl (f z))=(l=m):=by
 have h1:=qkG (τ:=τ) (h:=h) (h':=h') (l:=l.map f) (m:=m.map f);rw [yX,yX] at h1;refine Eq.trans h1 (propext ⟨λh=>?_,λh=>by rw [h]⟩);exact List.map_inj_right hf |>.1 h
def inj_i:∀ a b:Int,Value.int .i64 a=Value.int .i64 b->a=b:=λa b h=>by injection h
def inj_u:∀ a b:Nat,Value.int .u64 a=Value.int .u64 b->a=b:=λa b h=>by injection h with _ h; omega
def inj_b:∀ a b:Bool,Value.bool a=Value.bool b->a=b:=λa b h=>by injection h
def qcf {l m:List Int}:LeL τ h h' (l.map λz=>iv z) (m.map λz=>iv z)=(l=m):=q7d inj_i
def qgf {l m:List Nat}:LeL τ h h' (l.map λz:Nat=>uv z) (m.map λz:Nat=>uv z)=(l=m):=q7d (f:=λz:Nat=>Value.int .u64 z) inj_u
def qkH {l m:List Bool}:LeL τ h h' (l.map λz=>bv z) (m.map λz=>bv z)=(l=m):=q7d inj_b
def qxn {m:List Int}:LeL τ h h' [] (m.map λz=>iv z)=([]=m):=qcf (l:=[])
def qxi {m:List Nat}:LeL τ h h' [] (m.map λz:Nat=>uv z)=([]=m):=qgf (l:=[])
def qxs {m:List Bool}:LeL τ h h' [] (m.map λz=>bv z)=([]=m):=qkH (l:=[])
def qxp {x:Int} {m:List Int}:LeL τ h h' [iv x] (m.map λz=>iv z)=([x]=m):=qcf (l:=[x])
def qxo {x:Int} {l m:List Int}:LeL τ h h' ((l.map λz=>iv z) ++ [iv x]) (m.map λz=>iv z)=(l ++ [x]=m):=by
 have:=qcf (τ:=τ) (h:=h) (h':=h') (l:=l ++ [x]) (m:=m)
 rwa [List.map_append] at this
def qxj {x:Nat} {l m:List Nat}:LeL τ h h' ((l.map λz:Nat=>uv z) ++ [uv x]) (m.map λz:Nat=>uv z)=(l ++ [x]=m):=by
 have:=qgf (τ:=τ) (h:=h) (h':=h') (l:=l ++ [x]) (m:=m)
 rwa [List.map_append] at this
def qxl {x:Int} {k:Nat} {l m:List Int}:LeL τ h h' ((l.map λz=>iv z).set k (iv x)) (m.map λz=>iv z)=(l.set k x=m):=by
 have:=qcf (τ:=τ) (h:=h) (h':=h') (l:=l.set k x) (m:=m)
 rwa [xP] at this
def qxg {x:Nat} {k:Nat} {l m:List Nat}:LeL τ h h' ((l.map λz:Nat=>uv z).set k (uv x)) (m.map λz:Nat=>uv z)=(l.set k x=m):=by
 have:=qgf (τ:=τ) (h:=h) (h':=h') (l:=l.set k x) (m:=m)
 rwa [xP] at this
def qxq {x:Bool} {k:Nat} {l m:List Bool}:LeL τ h h' ((l.map λz=>bv z).set k (bv x)) (m.map λz=>bv z)=(l.set k x=m):=by
 have:=qkH (τ:=τ) (h:=h) (h':=h') (l:=l.set k x) (m:=m)
 rwa [xP] at this
def qxh {n:Nat} {m:List Nat}:LeL τ h h' (List.replicate n (uv 0)) (m.map λz:Nat=>uv z)=(List.replicate n 0=m):=by
 have:=qgf (τ:=τ) (h:=h) (h':=h') (l:=List.replicate n 0) (m:=m)
 rwa [vT] at this
def qxm {n:Nat} {x:Int} {m:List Int}:LeL τ h h' (List.replicate n (iv x)) (m.map λz=>iv z)=(List.replicate n x=m):=by
 have:=qcf (τ:=τ) (h:=h) (h':=h') (l:=List.replicate n x) (m:=m)
 rwa [vT] at this
def qxr {n:Nat} {x:Bool} {m:List Bool}:LeL τ h h' (List.replicate n (bv x)) (m.map λz=>bv z)=(List.replicate n x=m):=by
 have:=qkH (τ:=τ) (h:=h) (h':=h') (l:=List.replicate n x) (m:=m)
 rwa [vT] at this
attribute [go_sem] qcf qgf qkH qxn qxi qxs qxp qxo qxj qxl qxg qxq qxh qxm qxr exists_eq_left' forall_eq'
end
def qa2 (w w':World) (hx:Ext w w') (hT:q5q w):q5q w':=hT.ext hx
def act [NL] {f:FuncId} {fn:Func} {c:Code} {al:List PV} {r:PV} (hc:q0G Tryz.prog f=true) (hf:Tryz.prog.funcs[f]?=some fn) (hb:fn.body=some c) {n:Nat} (hn:fn.ntmps=n) (hd:(decide (al.length<=n) && q7Z n c)=true)
  (hw:AW Tryz.prog q5q (λ_=>False) n c (retA Tryz.prog fn r) (enP al) h0):ACt f al r:=AC_of hc hf hb hn hd qa2 hw
end Go.Proofs.YtbjoghfmhgadkaaGreatDoor
namespace Go.E
open Go Go.RowKit
section
variable {P:Program} {Tb:World->Prop} {J:Nat->Prop} {n:Nat} {Q:SQ} {s:Nat->PV} {h:Hp}
def qk3:∀ {kv:List (Nat × PV)},(∀ p ∈ kv,p.2=s p.1)->∀ t,stV kv t=s t\/stV kv t=.un
 | [],_,_=>.inr rfl
 | p :: l,hk,t=>by
  unfold stV
  split
  .rename_i ht; subst ht; exact .inl (hk p zV)
  .exact qk3 (λq hq=>hk q (zN _ hq)) t
def q4W [NL] {c:Code} (ks:List Nat) {kv:List (Nat × PV)} (hk:(ks.map λt=>(t,s t))=kv) (hw:AW P Tb J n c Q (stV kv) h):AW P Tb J n c Q s h:=q0z (s':=stV kv) (h':=h) (λD0 w0 ρ e w _ S=>⟨ρ,S.inj,S.own,S.vir,λt=>by
  rcases qk3 (s:=s) (kv:=kv) (λp hp=>by
   rw [<- hk] at hp;obtain ⟨t,_,rfl⟩:=yY.1 hp
   rfl) t with h | h
  .rw [h]; exact S.rd t
  .rw [h]; unfold Rd; trivial,S.ext,S.fr,S.imp,S.pin⟩) hw
def qoX {kk:IntKind} {l:List PV}:qbC (some 1) (.sl none l) (.vl (.int kk 0))=(l[0]?).map (.qt none):=qfA (n:=0)
def qoZ {kk:IntKind} {a off c:Nat} (hn:0 < c):qbC (some 1) (.ow a none off c) (.vl (.int kk 0))=some (.pt a off 0):=qfB (n:=0) hn
def fldQ (r:Nat × Kd) (l:List PV):Option PV:=match r.2 with
 | none=>(l[r.1]?).map (.qt none)
 | some m=>if r.1+m<=l.length/\0 < m then some (.qt (some m) (.ag ((l.drop r.1).take m))) else none
def qu2 {t:TypeId} {f n:Nat} {l:List PV}:qrM P t f (.qt (some n) (.ag l))=(q2P P t f).bind λr=>fldQ r l:=by unfold qrM fldQ; rfl
def qu5 {o:Nat} {l:List PV}:fldQ (o,none) l=(l[o]?).map (.qt none):=rfl
attribute [go_sem] qoX qoZ qu2 qu5 zF
end
end Go.E
