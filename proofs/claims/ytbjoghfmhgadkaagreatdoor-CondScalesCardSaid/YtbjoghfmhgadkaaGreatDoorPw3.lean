/- CondScales is proved. 3/7. -/
import Derived.Laws.CopyRow
import Derived.Laws.IdiomRangeMap
import Derived.Test.YtbjoghfmhgadkaaGreatDoorPw2
open Array renaming length_toList->wM
open Bool renaming not_false->zP,false_and->zR,and_false->zS,not_true->zU,true_and->uI,and_true->uJ,false_eq_true->yQ
open Int renaming natAbs_natCast->zC,sign_eq_one_of_pos->zM,sign_eq_neg_one_of_neg->uK,reduceLT->yA,reduceEq->yB,lt_or_gt_of_ne->xA,lt_trichotomy->xS,toNat->xY,ediv_eq_zero_of_lt->x9,natCast_mul->wE,neg_mul->wJ,sub_zero->wP,mul_neg->wT
open List renaming getD_eq_getElem?_getD->zA,length_range->zL,drop_of_length_le->zN,getElem?_set_self->zO,drop_zero->yC,drop_eq_getElem_cons->yH,getElem?_eq_getElem->yJ,take_of_length_le->yL,length_take->yN,mem_cons_self->yP,mem_cons_of_mem->yR,mem_of_getElem?->yY,getElem?_append->uL,length_drop->uM,take_succ_cons->y7,getElem?_drop->y9,take_zero->xB,length_cons->xF,drop_succ_cons->xL,map_set->xM,mem_cons->xT,all_eq_true->xU,getElem?_replicate->xV,map_append->uN,getElem?_eq_none->wF,take_append_drop->wG,mem_of_mem_drop->wL,map_cons->wN,getElem?_take->wO
open Nat renaming mod_eq_of_lt->zB,mul_comm->zD,zero_le->zE,mod_lt->zF,lt_of_le_of_lt->zG,zero_add->zH,pow_le_pow_right->zI,lt_of_lt_of_le->zJ,eq_zero_or_pos->zK,mul_le_mul_right->zQ,mul_assoc->zV,pow_add->zW,mul_le_mul_left->zX,pos_of_ne_zero->uO,div_add_mod->uP,le_refl->z7,le_trans->z8,add_zero->z9,mul_add->yE,div_le_self->yF,mod_mod->yG,lt_or_ge->yI,div_lt_of_lt_mul->yK,mul_zero->yM,div_eq_of_lt->yO,mul_le_mul->yS,and_two_pow_sub_one_eq_mod->yU,add_mul->yV,div_lt_iff_lt_mul->yW,mul_lt_mul_of_pos_right->yX,pow_mul->yZ,mul_lt_mul_of_pos_left->uQ,le_of_lt->uR,add_mul_mod_self_left->y6,mul_left_comm->xC,zero_mul->xD,add_assoc->xG,add_mul_div_left->xH,one_mul->xI,pow_lt_pow_right->xJ,mul_one->xK,pow_succ->xN,mul_right_comm->xO,lt_of_mul_lt_mul_right->xP,sub_add_cancel->xQ,mul_div_cancel->xR,mul_lt_mul''->xW,div_div_eq_div_mul->xZ,ne_of_gt->uS,add_comm->x8,mod_add_div->wC,mul_eq_zero->wD,mul_mod_mul_right->wH,mul_div_mul_right->wI,or_comm->wK,lt_trans->wQ,mul_pos->wS,beq->wU
open Option renaming ne_none_iff_exists'->zY,some_ne_none->z6,isSome_iff_exists->y8,bind_some->xE,bind_eq_some_iff->xX,map_some->uT,getD_none->wR
set_option linter.unusedSimpArgs false
set_option linter.unusedVariables false
set_option maxRecDepth 20000
set_option maxHeartbeats 2000000
set_option linter.defProp false
namespace Go.E
open Go Go.RowKit
def nos:Nat->PV:=λ_=>.un
abbrev win (i:Nat):Prop:=5000<=i/\i < 1000000
def q0u (hw h:Hp):Hp:=λi=>if win i then hw i else h i
mutual
def IdP (p:Nat->Prop):PV->Prop
 | .ow id _ _ _=>p id
 | .pt id _ _=>p id
 | .mp id=>p id
 | .ag l=>IdL p l
 | .tu l=>IdL p l
 | _=>True
def IdL (p:Nat->Prop):List PV->Prop
 | []=>True
 | x :: l=>IdP p x/\IdL p l
end
def IdL.mem {p:Nat->Prop}:∀ {l:List PV},IdL p l->∀ x ∈ l,IdP p x
 | y :: l,h,x,hx=>by
  unfold IdL at h
  rcases xT.1 hx with rfl | hx
  .exact h.1
  .exact h.2.mem x hx
def IdL.of {p:Nat->Prop}:∀ {l:List PV},(∀ x ∈ l,IdP p x)->IdL p l
 | [],_=>by unfold IdL; trivial
 | y :: l,h=>by unfold IdL; exact ⟨h y yP,IdL.of λx hx=>h x (yR _ hx)⟩
section
variable {w:World} {D D':Nat->Prop} {ρ:Nat->Option Nat} {h h':Hp} {p:Nat->Prop}
mutual
def Rd.only [NL] (hd:∀ k,D k->D' k) (hp:∀ i,p i->h' i=h i):∀ (x:PV) (y:Value),IdP p x->Rd w D x ρ h y->Rd w D' x ρ h' y
 | .un,_,_,_=>by unfold Rd; trivial
 | .vl x,y,_,hr=>by unfold Rd at hr ⊢; exact hr
 | .fm G,y,_,hr=>by unfold Rd at hr ⊢; exact hr.sub λk _ hk=>hd k hk
 | .sl k l,y,_,hr=>((q25 (x:=.sl k l) trivial hr).sub λk _ hk=>hd k hk).cl
 | .qt k x,y,_,hr=>((q25 (x:=.qt k x) trivial hr).sub λk _ hk=>hd k hk).cl
 | .ow id k off n,y,hi,hr=>by
  unfold IdP at hi;unfold Rd at hr ⊢;rw [hp id hi];exact hr
 | .pt id i j,y,hi,hr=>by
  unfold IdP at hi;unfold Rd at hr ⊢;rw [hp id hi];exact hr
 | .mp id,y,hi,hr=>by
  unfold IdP at hi;unfold Rd at hr ⊢;rw [hp id hi];exact hr
 | .ag l,y,hi,hr=>by
  unfold IdP at hi;unfold Rd at hr ⊢;obtain ⟨vs,h1,h2⟩:=hr;exact ⟨vs,h1,RdL.only hd hp l vs hi h2⟩
 | .tu l,y,hi,hr=>by
  unfold IdP at hi;unfold Rd at hr ⊢;obtain ⟨vs,h1,h2⟩:=hr;exact ⟨vs,h1,RdL.only hd hp l vs hi h2⟩
def RdL.only [NL] (hd:∀ k,D k->D' k) (hp:∀ i,p i->h' i=h i):∀ (l:List PV) (vs:List Value),IdL p l->RdL w D l ρ h vs->RdL w D' l ρ h' vs
 | [],vs,_,hr=>by unfold RdL at hr ⊢; exact hr
 | x :: l,vs,hi,hr=>by
  unfold IdL at hi;unfold RdL at hr ⊢;obtain ⟨y,ys,h1,h2,h3⟩:=hr;exact ⟨y,ys,h1,Rd.only hd hp x y hi.1 h2,RdL.only hd hp l ys hi.2 h3⟩
end
end
structure ACm [NL] (P:Program) (Tb:World->Prop) (f:FuncId) (al:List PV) (hin:Hp) (x:PV) (hout:Hp):Prop where
 ca:q0J P f=true
 hi:∀ i b,hin i=some b->win i/\b.st=false/\IdL win b.xs/\∃ b',hout i=some b'/\b'.k=b.k/\b.xs.length<=b'.xs.length
 ho:∀ i b,hout i=some b->win i
 ids:IdL win al
 run:∀ (D0:Nat->Prop) (B:Base) (ρ:Nat->Option Nat) (w:World) (vs:List Value),(∀ w',Kp B.F B.w w'->Tb w')->(∀ i r,B.J i r->hin i≠none)->Fr D0 B.w->vs.length=al.length->Sat D0 B (enP al) hin ρ (q4T vs) w ->
  Calls P f vs.toArray w λr w'=>∃ v ρ',r=.returned v/\Sat D0 B nos hout ρ' (λ_=>v) w'/\Rd w' (dm D0 ρ' hout) x ρ' hout v
structure ACx [NL] (P:Program) (Tb:World->Prop) (f:FuncId) (al:List PV) (hin:Hp) (x:PV) (hout:Hp):Prop where
 ca:q0J P f=true
 hi:∀ i b,hin i=some b->win i/\b.st=false/\IdL win b.xs/\(hout i=none\/∃ b',hout i=some b'/\b'.k=b.k/\b.xs.length<=b'.xs.length)
 ho:∀ i b,hout i=some b->win i
 ids:IdL win al
 run:∀ (D0:Nat->Prop) (B:Base) (ρ:Nat->Option Nat) (w:World) (vs:List Value),(∀ w',Kp B.F B.w w'->Tb w')->(∀ i r,B.J i r->hin i≠none/\hout i≠none)->Fr D0 B.w->vs.length=al.length->Sat D0 B (enP al) hin ρ (q4T vs) w ->
  Calls P f vs.toArray w λr w'=>∃ v ρ',r=.returned v/\Sat D0 B nos hout ρ' (λ_=>v) w'/\Rd w' (dm D0 ρ' hout) x ρ' hout v
def ACm.x [NL] {P:Program} {Tb:World->Prop} {f:FuncId} {al:List PV} {hin hout:Hp} {x:PV} (h:ACm P Tb f al hin x hout):ACx P Tb f al hin x hout :=
 ⟨h.ca,λi b hb=>⟨(h.hi i b hb).1,(h.hi i b hb).2.1,(h.hi i b hb).2.2.1,.inr (h.hi i b hb).2.2.2⟩,h.ho,h.ids,λD0 B ρ w vs h1 h2=>h.run D0 B ρ w vs h1 λi r hr=>(h2 i r hr).1⟩
def retX [NL] (P:Program) (fn:Func) (J:Nat->Prop) (x:PV) (hout:Hp):SQ:=λe s h=>(e=.ret\/e=.normal)/\fn.results.toList.length<=4/\∃ l,rsL P h s fn.results.toList=some l/\Le J (λ_=>mkR l) h (λ_=>x) hout
abbrev retM [NL] (P:Program) (fn:Func) (hin:Hp) (x:PV) (hout:Hp):SQ:=retX P fn (λi=>hin i≠none) x hout
section
variable {P:Program} {Tb:World->Prop} {n:Nat} {s:Nat->PV} {h hin hout:Hp} {D0:Nat->Prop} {w0:Base} {w:World} {ρ:Nat->Option Nat} {e:Env}
def qsw [NL] {D:Nat->Prop} {l:List PV} {us:List Value} (hr:RdL w D l ρ h us):Rd w D (mkR l) ρ h (mkV us):=by
 cases l with
 | nil=>unfold RdL at hr; subst hr; unfold mkR mkV Rd; exact ⟨[],rfl,by unfold RdL; rfl⟩
 | cons c cl =>
  cases cl with
  | nil =>
   unfold RdL at hr;obtain ⟨y,ys,rfl,e1,e2⟩:=hr;unfold RdL at e2;subst e2;exact e1
  | cons d cl =>
   have u5:=hr;unfold RdL at u5;obtain ⟨y,ys,rfl,e1,e2⟩:=u5;unfold RdL at e2;obtain ⟨z,zs,rfl,e3,e4⟩:=e2
   show Rd w D (.tu (c :: d :: cl)) _ _ (.tuple ⟨y :: z :: zs⟩)
   unfold Rd;exact ⟨_,rfl,hr⟩
def ql1 [NL] {f:FuncId} {fn:Func} {c:Code} {al:List PV} {x:PV} (hc:q0J P f=true) (hf:P.funcs[f]?=some fn) (hb:fn.body=some c) (hn:fn.ntmps=n) (hd:(decide (al.length<=n) && q6x n c)=true)
  (hi:∀ i b,hin i=some b->win i/\b.st=false/\IdL win b.xs/\(hout i=none\/∃ b',hout i=some b'/\b'.k=b.k/\b.xs.length<=b'.xs.length)) (ho:∀ i b,hout i=some b->win i) (hal:IdL win al)
  (hw:AW P Tb (λi=>hin i≠none/\hout i≠none) n c (retX P fn (λi=>hin i≠none/\hout i≠none) x hout) (enP al) hin):ACx P Tb f al hin x hout:=by
 refine ⟨hc,hi,ho,hal,λD0 B ρ w vs hT hJ hF hlen S=>?_⟩;refine q57 hf hb hn (by rw [List.size_toArray,hlen]; exact hd) ?_;refine q5e (λy e' w' hx=>?_) (hw D0 B ρ _ w ⟨hT,hJ⟩ hF S);obtain ⟨s',h',ρ',S',hy,h4,l,h1,hle⟩:=hx;obtain ⟨us,u1,u2⟩:=qd5 S' h1;have S2:Sat D0 B (λ_=>mkR l) h' ρ' (λ_=>mkV us) w':=⟨S'.inj,S'.own,S'.vir,λ_=>qsw u2,S'.ext,S'.fr,S'.imp,S'.pin⟩;obtain ⟨ρ2,S3⟩:=hle _ _ _ _ _ hJ S2;have fin:∃ v ρ',Ending.returned (mkV us)=.returned v/\Sat D0 B nos hout ρ' (λ_=>v) w'/\Rd w' (dm D0 ρ' hout) x ρ' hout v :=
  ⟨_,ρ2,rfl,⟨S3.inj,S3.own,S3.vir,λ_=>by unfold nos Rd; trivial,S3.ext,S3.fr,S3.imp,S3.pin⟩,S3.rd 0⟩
 have key:qgN P fn (λr w'=>∃ v ρ',r=.returned v/\Sat D0 B nos hout ρ' (λ_=>v) w'/\Rd w' (dm D0 ρ' hout) x ρ' hout v) .ret e' w':=by
  cases hrs:fn.results with
  | mk rs =>
  rw [hrs] at u1 h4;simp only at u1 h4;clear u2 h1 S2 hle S3
  rcases rs with _ | ⟨a,_ | ⟨b,_ | ⟨c,_ | ⟨d,_ | ⟨f,rs⟩⟩⟩⟩⟩ <;> rcases us with _ | ⟨x,_ | ⟨y,_ | ⟨z,_ | ⟨t,_ | ⟨t',us⟩⟩⟩⟩⟩ <;> simp at u1 h4
  .exact ret0 hrs fin
  .exact qsI hrs u1 fin
  .exact qsH hrs u1.1 u1.2 fin
  .exact qsG hrs u1.1 u1.2.1 u1.2.2 fin
  .exact qsF hrs u1.1 u1.2.1 u1.2.2.1 u1.2.2.2 fin
 rcases hy with rfl | rfl
 .exact key
 .exact key
def qxJ [NL] {f:FuncId} {fn:Func} {c:Code} {al:List PV} {x:PV} (hc:q0J P f=true) (hf:P.funcs[f]?=some fn) (hb:fn.body=some c) (hn:fn.ntmps=n) (hd:(decide (al.length<=n) && q6x n c)=true)
  (hi:∀ i b,hin i=some b->win i/\b.st=false/\IdL win b.xs/\∃ b',hout i=some b'/\b'.k=b.k/\b.xs.length<=b'.xs.length) (ho:∀ i b,hout i=some b->win i) (hal:IdL win al)
  (hw:AW P Tb (λi=>hin i≠none) n c (retM P fn hin x hout) (enP al) hin):ACm P Tb f al hin x hout:=by
 have e:(λi=>hin i≠none/\hout i≠none)=λi=>hin i≠none:=funext λi=>propext ⟨λh=>h.1,λh=>⟨h,by
  obtain ⟨b,hb⟩:=zY.1 h;obtain ⟨b',hb',_⟩:=(hi i b hb).2.2.2;rw [hb']; exact z6 _⟩⟩
 have hX:ACx P Tb f al hin x hout:=ql1 hc hf hb hn hd (λi b hb=>⟨(hi i b hb).1,(hi i b hb).2.1,(hi i b hb).2.2.1,.inr (hi i b hb).2.2.2⟩) ho hal (by rw [e]; exact hw);exact ⟨hc,hi,ho,hal,λD0 B ρ w vs h1 h2=>hX.run D0 B ρ w vs h1 λi r hr=>(congrFun e i).mpr (h2 i r hr)⟩
def q0V {hw:Hp} {i:Nat} (hi:win i):q0u hw h i=hw i:=if_pos hi
def q14 {hw:Hp} {i:Nat} (hi:¬ win i):q0u hw h i=h i:=if_neg hi
def Blk.uniq {g:Nat} {T T':TypeId} {c c':Array Value} (h1:Blk w g T c) (h2:Blk w g T' c'):c=c'/\T=T':=by
 have h5:=h1.symm.trans h2
 injection h5 with h5
 injection h5 with h5 h6
 exact ⟨h5,h6⟩
def qc2 (hin hout:Hp) (i:Nat):Prop:=win i/\hin i≠none/\hout i=none
def Dd (hin hout:Hp) (s:Nat->PV) (h:Hp):Prop:=(∀ i,¬ qc2 hin hout i)\/((∀ t,IdP (λi=>¬ qc2 hin hout i) (s t))/\∀ i b,h i=some b->¬ win i->b.st=false/\IdL (λi=>¬ qc2 hin hout i) b.xs)
mutual
def qb1 {p q:Nat->Prop} (h:∀ i,p i->q i):∀ x:PV,IdP p x->IdP q x
 | .ow _ _ _ _,hp=>by unfold IdP at hp ⊢; exact h _ hp
 | .pt _ _ _,hp=>by unfold IdP at hp ⊢; exact h _ hp
 | .mp _,hp=>by unfold IdP at hp ⊢; exact h _ hp
 | .ag l,hp=>by unfold IdP at hp ⊢; exact IdL_mono h l hp
 | .tu l,hp=>by unfold IdP at hp ⊢; exact IdL_mono h l hp
 | .un,_=>by unfold IdP; trivial
 | .vl _,_=>by unfold IdP; trivial
 | .fm _,_=>by unfold IdP; trivial
 | .sl _ _,_=>by unfold IdP; trivial
 | .qt _ _,_=>by unfold IdP; trivial
def IdL_mono {p q:Nat->Prop} (h:∀ i,p i->q i):∀ l:List PV,IdL p l->IdL q l
 | [],_=>by unfold IdL; trivial
 | x :: l,hp=>by unfold IdL at hp ⊢; exact ⟨qb1 h x hp.1,IdL_mono h l hp.2⟩
end
mutual
def qgF {p:Nat->Prop} (h:∀ i,p i):∀ x:PV,IdP p x
 | .ow _ _ _ _=>by unfold IdP; exact h _
 | .pt _ _ _=>by unfold IdP; exact h _
 | .mp _=>by unfold IdP; exact h _
 | .ag l=>by unfold IdP; exact IdL_all h l
 | .tu l=>by unfold IdP; exact IdL_all h l
 | .un=>by unfold IdP; trivial
 | .vl _=>by unfold IdP; trivial
 | .fm _=>by unfold IdP; trivial
 | .sl _ _=>by unfold IdP; trivial
 | .qt _ _=>by unfold IdP; trivial
def IdL_all {p:Nat->Prop} (h:∀ i,p i):∀ l:List PV,IdL p l
 | []=>by unfold IdL; trivial
 | x :: l=>by unfold IdL; exact ⟨qgF h x,IdL_all h l⟩
end
def Sat.callx [NL] {J:Nat->Prop} (S:Sat D0 w0 s h ρ e w) (hT:∀ w,Kp w0.F w0.w w->Tb w) (hF:Fr D0 w0.w) (hJ:∀ i r,w0.J i r->J i) {f:FuncId} {args:List Operand} {al:List PV} {x:PV} (ha:args.map (pe s)=al) (hC:ACx P Tb f al hin x hout) (hh:∀ i,win i->h i=hin i) (hn:∀ i,J i->hout i≠none->hin i≠none) (hd:Dd hin hout s h) {K:Value->World->Prop}
  (hK:∀ v w' ρ',Sat D0 w0 s (q0u hout h) ρ' e w'->Rd w' (dm D0 ρ' (q0u hout h)) x ρ' (q0u hout h) v->K v w'):q0J P f=true/\Calls P f (args.map (ev e)).toArray w λr w'=>match r with | .returned v=>K v w' | _=>False:=by
 classical
 refine ⟨hC.ca,?_⟩;subst ha;have hg1:∀ t,IdP (λi=>¬ qc2 hin hout i) (s t):=λt=>hd.elim (λh=>qgF h _) λh=>h.1 t;have hg2:∀ i b,h i=some b->¬ win i->IdL (λi=>¬ qc2 hin hout i) b.xs:=λi b hb hw=>hd.elim (λh=>IdL_all h _) λh=>(h.2 i b hb hw).2;have hg3:∀ i b j,h i=some b->¬ win i->qc2 hin hout j->b.st=false:=λi b j hb hw hj=>hd.elim (λh=>(h j hj).elim) λh=>(h.2 i b hb hw).1
 let hd:Nat->Prop:=λg=>∃ i b,win i/\h i=some b/\ρ i=some g
 let h1:Hp:=λi=>if qc2 hin hout i then none else h i
 have hh1:∀ i,¬ qc2 hin hout i->h1 i=h i:=λi hi=>if_neg hi
 let B:Base:=⟨w,λk=>k < w.heap.size/\¬ hd k,λg T m=>∃ cs,Blk w g T cs/\cs.size=m/\∀ u ∈ cs.toList,q4E u=true,λi r=>((∃ b,hin i=some b)/\hout i≠none)/\ρ i=r,λk hk=>hk.1,λi r ⟨⟨⟨b,hb⟩,_⟩,_⟩=>(hC.hi i b hb).1⟩
 let D1:Nat->Prop:=λk=>D0 k/\(hd k\/∀ i b,h i=some b->¬ win i->ρ i≠some k)
 have toh:∀ {i b},hin i=some b->h i=some b:=λ{i b} hb=>(hh i (hC.hi i b hb).1).trans hb;have hno:∀ i b g,h i=some b->¬ win i->b.st=false->ρ i=some g->¬ hd g:=λi b g hi hw hs hr ⟨j,c,wj,hj,rj⟩=>by
  have hcs:=(hC.hi j c ((hh j wj).symm.trans hj)).2.1
  rcases S.inj i j b c g hi hj hcs hr rj with e | e
  .subst e; exact hw wj
  .rw [hs] at e; cases e
 have e1:∀ k,dm D1 ρ hin k ↔ dm D0 ρ h k:=λk=>by
  constructor
  .rintro ⟨⟨q1,q2⟩,q3⟩;refine ⟨q1,λi b hi hr=>?_⟩
   by_cases hw:win i
   .exact q3 i b ((hh i hw).symm.trans hi) hr
   .rcases q2 with ⟨j,c,wj,hj,rj⟩ | q2
    .exact q3 j c ((hh j wj).symm.trans hj) rj
    .exact q2 i b hi hw hr
  .rintro ⟨q1,q2⟩;exact ⟨⟨q1,.inr λi b hi _=>q2 i b hi⟩,λi b hi=>q2 i b (toh hi)⟩
 have S0:Sat D1 B (enP (args.map (pe s))) hin ρ (q4T (args.map (ev e))) w:=by
  refine ⟨λi j b c g hi hj hs ri rj=>S.inj i j b c g (toh hi) (toh hj) hs ri rj,λi b g hi ri=>?_,λi b hi ri=>S.vir i b (toh hi) ri,λt=>?_,Kp.refl _ _,λk hk=>?_,λg T m hi=>hi,λi r hi=>hi.2⟩
  .have hg:hd g:=⟨i,b,(hC.hi i b hi).1,toh hi,ri⟩;obtain ⟨a1,⟨m1,m2,es,cl,ps,m3,m4,m5,m6⟩ | ⟨cs,c1,c2,c3⟩⟩:=S.own i b g (toh hi) ri
   .exact ⟨⟨λhf=>hf.2 hg,a1.2,.inl hg⟩,.inl ⟨m1,m2,es,cl,ps,m3,m4,RdL.only (λk hk=>(e1 k).2 hk) (λi hi=>(hh i hi).symm) _ _ (hC.hi i b hi).2.2.1 m5,m6⟩⟩
   refine ⟨⟨λhf=>hf.2 hg,a1.2,.inl hg⟩,.inr ⟨cs,c1,c2,λhs=>?_⟩⟩;obtain ⟨vs,v1,v2,v3⟩:=c3 hs;exact ⟨vs,v1,RdL.only (λk hk=>(e1 k).2 hk) (λi hi=>(hh i hi).symm) _ _ (hC.hi i b hi).2.2.1 v2,v3⟩
  .unfold enP q4T;rw [zA,zA,List.getElem?_map,List.getElem?_map];cases ht:args[t]? with
   | none=>simp only [Option.map_none,wR]; unfold Rd; trivial
   | some x =>
    simp only [uT,Option.getD_some];exact Rd.only (λk hk=>(e1 k).2 hk) (λi hi=>(hh i hi).symm) _ _ (hC.ids.mem _ (List.mem_map_of_mem (yY ht))) (S.pex x)
  .exact ⟨hF k (z8 S.ext.size hk),.inr λi b hi _ hr=>by have:=(S.own i b k hi hr).2.lt; have:w.heap.size<=k:=hk; omega⟩
 have hFB:∀ k,w0.F k->B.F k:=λk hk=>⟨zJ (w0.lt k hk) S.ext.size,λ⟨i,b,_,hi,hr⟩=>(S.own i b k hi hr).1.1 hk⟩;have hFr:Fr D1 B.w:=S0.fr;refine (hC.run D1 B ρ w _ (λw' hk=>hT w' (S.ext.trans (hk.mono λk _ hq=>hFB k hq))) (λi r ⟨⟨⟨b,hb⟩,ho⟩,_⟩=>⟨by rw [hb]; exact z6 b,ho⟩) hFr σ S0).mono λr w' hx=>?_;obtain ⟨v,ρ',rfl,S',hx⟩:=hx
 let ρ2:Nat->Option Nat:=λi=>if win i then (if hout i=none then ρ i else ρ' i) else ρ i
 have p1:∀ {i b},hin i=some b->hout i≠none->ρ' i=ρ i:=λ{i b} hb ho=>S'.pin i _ ⟨⟨⟨b,hb⟩,ho⟩,rfl⟩;have p2:∀ {i b},hout i=some b->ρ2 i=ρ' i:=λ{i b} hb=>by simp only [ρ2,if_pos (hC.ho i b hb),hb]; rfl
 have p3:∀ {i},¬ win i->ρ2 i=ρ i:=λ{i} hw=>by simp only [ρ2,if_neg hw]
 have hk:Kp B.F w w':=S'.ext;have bold:∀ i b g,h i=some b->ρ i=some g->¬ qcP w (dm D0 ρ h) ρ h g b->∃ cs,Blk w' g b.T cs/\(∀ u ∈ cs.toList,q4E u=true)/\∀ m,BSz w g m->cs.size=m:=λi b g hi hr hno=>by
  obtain ⟨cs,c1,c2,_⟩:=(S.own i b g hi hr).2.resolve_left hno;obtain ⟨cs',d1,d2,d3⟩:=S'.imp g b.T cs.size ⟨cs,c1,rfl,c2⟩;refine ⟨cs',d1,d3,λm ⟨c0,T0,f1,f2⟩=>?_⟩;have:=(Blk.uniq c1 f1).1;subst this;omega
 have hdn:∀ {k},dm D0 ρ h k->¬ hd k:=λ{k} hq ⟨i,b,_,hi,hr⟩=>hq.2 i b hi hr;have cA:Cpt w w' ρ h1 ρ2 (q0u hout h):=λi b hi1=>by
  have hng:¬ qc2 hin hout i:=λhg=>by
   have:h1 i=none:=if_pos hg;rw [hi1] at this; cases this
  have hi:h i=some b:=(hh1 i hng).symm.trans hi1;refine ⟨?_,?_,λg m hr hb=>?_⟩
  .by_cases hw:win i
   .have hb:=(hh i hw).symm.trans hi
    rcases (hC.hi i b hb).2.2.2 with ho | ⟨b',hb',_⟩
    .exact (hng ⟨hw,by rw [hb]; exact z6 _,ho⟩).elim
    .rw [p2 hb',p1 hb (by rw [hb']; exact z6 _)]
   .exact p3 hw
  .by_cases hw:win i
   .have hb:=(hh i hw).symm.trans hi
    rcases (hC.hi i b hb).2.2.2 with ho | ⟨b',hb',h1,h2⟩
    .exact (hng ⟨hw,by rw [hb]; exact z6 _,ho⟩).elim
    .exact ⟨b',by rw [q0V hw]; exact hb',h1,h2⟩
   .exact ⟨b,by rw [q14 hw]; exact hi,rfl,z7 _⟩
  .obtain ⟨cs,c1,_,c3⟩:=bold i b g hi hr λhm=>hm.noS hb;exact ⟨cs,_,c1,c3 m hb⟩
 have cB:Cpt w' w' ρ' hout ρ2 (q0u hout h):=λi b hi=>⟨p2 hi,⟨b,by rw [q0V (hC.ho i b hi)]; exact hi,rfl,z7 _⟩,λ_ _ _ hb=>hb⟩;have nF:∀ {i b g},hout i=some b->ρ' i=some g->g < w.heap.size->hd g:=λ{i b g} hi hr hlt=>by
  have:=(S'.own i b g hi hr).1.1;exact Classical.byContradiction λhn=>this ⟨hlt,hn⟩
 have e2:∀ k,dm D1 ρ' hout k->dm D0 ρ2 (q0u hout h) k:=λk ⟨⟨q1,q2⟩,q3⟩=>⟨q1,λi b hi hr=>by
  by_cases hw:win i
  .rw [q0V hw] at hi;rw [p2 hi] at hr;exact q3 i b hi hr
  .rw [q14 hw] at hi;rw [p3 hw] at hr
   rcases q2 with ⟨j,c,wj,hj,rj⟩ | q2
   .have hb:=(hh j wj).symm.trans hj
    rcases (hC.hi j c hb).2.2.2 with ho | ⟨b',hb',_⟩
    .exact hno i b k hi hw (hg3 i b j hi hw ⟨wj,by rw [hb]; exact z6 _,ho⟩) hr ⟨j,c,wj,hj,rj⟩
    .exact q3 j b' hb' ((p1 hb (by rw [hb']; exact z6 _)).trans rj)
   .exact q2 i b hi hw hr⟩
 have hd1:∀ k,k < w.heap.size->dm D0 ρ h k->dm D0 ρ2 (q0u hout h) k:=λk hlt hq=>⟨hq.1,λi b hi hr=>by
  by_cases hw:win i
  .rw [q0V hw] at hi;rw [p2 hi] at hr;exact hdn hq (nF hi hr hlt)
  .rw [q14 hw] at hi;rw [p3 hw] at hr;exact hq.2 i b hi hr⟩
 have kpd:Kp (dm D0 ρ h) w w':=hk.mono λk hlt hq=>⟨hlt,hdn hq⟩;refine hK v w' ρ2 ⟨λi j b c g hi hj hs ri rj=>?_,λi b g hi ri=>?_,λi b hi ri=>?_,λt=>Rd.mv kpd hd1 _ _ _ _ _ _ cA (Rd.only (λ_ h=>h) hh1 _ _ (hg1 t) (S.rd t)),S.ext.trans (hk.mono λk _ hq=>hFB k hq),S.fr,λg T m hi=>?_,λi r hj=>?_⟩ (Rd.mv (Kp.refl _ _) (λk _ hq=>e2 k hq) _ _ _ _ _ _ cB hx)
 .by_cases wi:win i <;> by_cases wj:win j
  .rw [q0V wi] at hi; rw [q0V wj] at hj;rw [p2 hi] at ri; rw [p2 hj] at rj;exact S'.inj i j b c g hi hj hs ri rj
  .rw [q0V wi] at hi; rw [q14 wj] at hj;rw [p2 hi] at ri; rw [p3 wj] at rj;exact (hno j c g hj wj hs rj (nF hi ri (S.own j c g hj rj).2.lt)).elim
  .rw [q14 wi] at hi; rw [q0V wj] at hj;rw [p3 wi] at ri; rw [p2 hj] at rj;cases hb:b.st
   .exact (hno i b g hi wi hb ri (nF hj rj (S.own i b g hi ri).2.lt)).elim
   .exact .inr rfl
  .rw [q14 wi] at hi; rw [q14 wj] at hj;rw [p3 wi] at ri; rw [p3 wj] at rj;exact S.inj i j b c g hi hj hs ri rj
 .by_cases wi:win i
  .rw [q0V wi] at hi;rw [p2 hi] at ri;obtain ⟨⟨a1,a2⟩,a3⟩:=S'.own i b g hi ri;exact ⟨⟨λhf=>a1 (hFB g hf),a2.1⟩,a3.mv rfl (Kp.refl _ _) (λk _ hq=>e2 k hq) cB⟩
  .rw [q14 wi] at hi;rw [p3 wi] at ri;obtain ⟨a1,a2⟩:=S.own i b g hi ri;refine ⟨a1,?_⟩;cases hb:b.st
   .have a4:qgG w (dm D0 ρ h) ρ h1 g b:=by
     rcases a2 with ⟨m1,m2,es,cl,ps,m3,m4,m5,m6⟩ | ⟨cs,c1,c2,c3⟩
     .exact .inl ⟨m1,m2,es,cl,ps,m3,m4,RdL.only (λ_ h=>h) hh1 _ _ (hg2 i b hi wi) m5,m6⟩
     exact .inr ⟨cs,c1,c2,λhs=>by
      obtain ⟨vs,v1,v2,v3⟩:=c3 hs;exact ⟨vs,v1,RdL.only (λ_ h=>h) hh1 _ _ (hg2 i b hi wi) v2,v3⟩⟩
    exact a4.mv (hk.block g a4.lt ⟨a4.lt,hno i b g hi wi hb ri⟩) kpd hd1 cA
   .obtain ⟨cs,c1,c2,_⟩:=bold i b g hi ri λhm=>by have:=hm.2.1; rw [hb] at this; cases this
    exact .inr ⟨cs,c1,c2,λhf=>by rw [hb] at hf; cases hf⟩
 .by_cases wi:win i
  .rw [q0V wi] at hi;rw [p2 hi] at ri;exact S'.vir i b hi ri
  .rw [q14 wi] at hi;rw [p3 wi] at ri;exact S.vir i b hi ri
 .obtain ⟨cs,c1,c2,c3⟩:=S.imp g T m hi;exact S'.imp g T m ⟨cs,c1,c2,c3⟩
 .have h1:ρ i=r:=S.pin i r hj
  show (if win i then (if hout i=none then ρ i else ρ' i) else ρ i)=r
  split
  .split
   .exact h1
   .rename_i ho;have:=hn i (hJ i r hj) ho;obtain ⟨b,hb⟩:=zY.1 this;rw [p1 hb ho]; exact h1
  .exact h1
def q2N {α:Type} {o:Option α} {A B:α->Prop} (hk:∀ a,A a->B a) (h:q20 o A):q20 o B:=by
 cases o with
 | none=>exact h.elim
 | some a=>exact hk a h
def qlf {o:Oper} {A B:Value->World->Prop} (hk:∀ v w,A v w->B v w) (h:wo P o e w A):wo P o e w B:=by
 obtain ⟨dst,op,ty,pos,af,gd⟩:=o;have hWO:WO P ⟨dst,op,ty,pos,af,gd⟩ e w A->WO P ⟨dst,op,ty,pos,af,gd⟩ e w B:=λh=>qfz hk h;unfold wo at h ⊢;cases op <;> simp only at h ⊢ <;> (try (first | exact hk _ _ h | exact q2N (λ_ hq=>hk _ _ hq) h | exact hWO h))
 case pick c a b=>split at h <;> first | exact hk _ _ h | exact h
 case store t a x =>
  split at h
  .exact ⟨h.1,h.2.1,hk _ _ h.2.2⟩
  .exact h
 case fieldAddr t x f =>
  split at h
  .exact q2N (λ_ hq=>hk _ _ hq) h
  .exact h
 case slice t x lo hi mx=>cases mx <;> first | exact q2N (λ_ hq=>hk _ _ hq) h | exact hWO h
 case makeSlice t l c =>
  split at h
  .exact q2N (λ_ hq=>⟨hq.1,hk _ _ hq.2⟩) h
  .exact h
 case nilCheck x =>
  split at h
  .exact hk _ _ h
  .exact h
 case call c =>
  obtain ⟨callee,args,tys⟩:=c;cases callee
  case builtin b =>
   cases b <;> simp only at h ⊢ <;> (try (first | exact q2N (λ_ hq=>hk _ _ hq) h | exact hWO h))
   split at h
   .exact q2N (λ_ hq=>hk _ _ hq) h
   .exact h
  case value f =>
   cases f <;> simp only at h ⊢ <;> (try exact hWO h);exact ⟨h.1,h.2.mono λx w' hq=>by cases x <;> first | exact hk _ _ hq | exact hq⟩
  case invoke r m=>exact hWO h
def qlk {ops:Array Oper} {o:Oper} {A B:Value->World->Prop} (hk:∀ v w,A v w->B v w) (h:wg P ops o e w A):wg P ops o e w B:=by
 unfold wg at h ⊢
 split
 .rename_i hw; rw [if_pos hw] at h; exact qlf hk h
 .rename_i hw; rw [if_neg hw] at h; exact hk _ _ h
def Sj [NL] (P:Program) (Tb:World->Prop) (J:Nat->Prop) (ops:List Oper) (o:Oper) (s:Nat->PV) (h:Hp) (K:(Nat->PV)->Hp->Prop):Prop :=
 (∃ x h' fp,q7Q P Tb ops o s h x h' fp/\K (q2u s o.dst x) h') \/
  (o.guard=none/\∃ f args ts hin x hout,o.op=.call ⟨.value (.func f),args,ts⟩/\ACx P Tb f (args.toList.map (pe s)) hin x hout/\(∀ i,win i->h i=hin i)/\((∀ i,J i->hout i≠none->hin i≠none)/\Dd hin hout s h)/\K (q2u s o.dst x) (q0u hout h))
def ALj [NL] (P:Program) (Tb:World->Prop) (J:Nat->Prop) (ops:List Oper) (K:(Nat->PV)->Hp->Prop):List Oper->(Nat->PV)->Hp->Prop
 | [],s,h=>K s h
 | o :: l,s,h=>Sj P Tb J ops o s h (ALj P Tb J ops K l)
def ASj [NL] (P:Program) (Tb:World->Prop) (J:Nat->Prop) (ops:List Oper) (K:(Nat->PV)->Hp->Prop):Sch->(Nat->PV)->Hp->Prop
 | .fin,s,h=>K s h
 | .one i t,s,h=>Sj P Tb J ops (qbm ops i) s h (ASj P Tb J ops K t)
 | .alt t u,s,h=>ASj P Tb J ops K t s h/\ASj P Tb J ops K u s h
def qwF [NL] {J:Nat->Prop} {ops:List Oper} (hT:∀ w,Kp w0.F w0.w w->Tb w) (hJ:∀ i r,w0.J i r->J i) (hF:Fr D0 w0.w) {o:Oper} {K:(Nat->PV)->Hp->Prop} {K':Env->World->Prop} (S:Sat D0 w0 s h ρ e w) (hs:Sj P Tb J ops o s h K) (hk:∀ s h ρ e w,Sat D0 w0 s h ρ e w->K s h->K' e w):wg P ops.toArray o e w λv w'=>K' (E.put e o.dst v) w':=by
 rcases hs with ⟨x,h',fp,h1,h2⟩ | ⟨hg,f,args,ts,hin,x,hout,ho,hC,hh,hn,h2⟩
 .exact qlk (λv w' ⟨ρ',S'⟩=>hk _ _ ρ' _ _ S' h2) (q9S S (hT _ S.ext) hF h1)
 .have:=S.callx (K:=λv w'=>K' (E.put e o.dst v) w') hT hF hJ rfl hC hh hn.1 hn.2 λv w' ρ' S' hr=>hk _ _ ρ' _ _ (S'.puto o.dst hr) h2;have he:args.map (ev e)=(args.toList.map (ev e)).toArray:=by cases args; simp
  rw [<- he] at this;obtain ⟨dst,op,ty,pos,af,gd⟩:=o;simp only at ho hg;subst ho;subst hg;rw [q6T];exact this
def ql0 [NL] {J:Nat->Prop} {ops:List Oper} {K:(Nat->PV)->Hp->Prop} (hT:∀ w,Kp w0.F w0.w w->Tb w) (hJ:∀ i r,w0.J i r->J i) (hF:Fr D0 w0.w) {K':Env->World->Prop} (hk:∀ s h ρ e w,Sat D0 w0 s h ρ e w->K s h->K' e w):∀ (l:List Oper) (s:Nat->PV) (h:Hp) (ρ:Nat->Option Nat) (e:Env) (w:World),Sat D0 w0 s h ρ e w->ALj P Tb J ops K l s h->WL P ops.toArray K' l e w
 | [],s,h,ρ,e,w,S,hal=>hk s h ρ e w S hal
 | o :: l,s,h,ρ,e,w,S,hal=>q3A (qwF hT hJ hF S hal λs h ρ e w S' hq=>ql0 hT hJ hF hk l s h ρ e w S' hq)
def qb3 [NL] {J:Nat->Prop} {ops:List Oper} {K:(Nat->PV)->Hp->Prop} (hT:∀ w,Kp w0.F w0.w w->Tb w) (hJ:∀ i r,w0.J i r->J i) (hF:Fr D0 w0.w) {K':Env->World->Prop} (hk:∀ s h ρ e w,Sat D0 w0 s h ρ e w->K s h->K' e w):∀ (t:Sch) (s:Nat->PV) (h:Hp) (ρ:Nat->Option Nat) (e:Env) (w:World),Sat D0 w0 s h ρ e w->ASj P Tb J ops K t s h->WS P ops K' t e w
 | .fin,s,h,ρ,e,w,S,hal=>hk s h ρ e w S hal
 | .one i t,s,h,ρ,e,w,S,hal=>qwF hT hJ hF S hal λs h ρ e w S' hq=>qb3 hT hJ hF hk t s h ρ e w S' hq
 | .alt t u,s,h,ρ,e,w,S,hal=>⟨qb3 hT hJ hF hk t s h ρ e w S hal.1,qb3 hT hJ hF hk u s h ρ e w S hal.2⟩
def qgH [NL] {J:Nat->Prop} {Q:SQ} {id:Nat} {l:List Oper} (hw:∀ K:(Nat->PV)->Hp->Prop,(∀ s h,Q .normal s h->K s h)->ALj P Tb J l K l s h):AW P Tb J n (.region id l.toArray false) Q s h:=λD0 w0 ρ e w hT hF S=>by
 refine q3x ?_;exact ql0 (K':=λe' w'=>∃ s' h' ρ',Sat D0 w0 s' h' ρ' e' w'/\Q .normal s' h') hT.1 hT.2 hF (λs h ρ e w S hq=>⟨s,h,ρ,S,hq⟩) l s h ρ e w S (hw _ λ_ _ h=>h)
def qlY [NL] {J:Nat->Prop} {Q:SQ} {id:Nat} {l:List Oper} (hm:P.follows .mixedOrders=true) (t:Sch) (hok:(Region.noSelect l.toArray && q5N l t false l.length (Array.replicate l.length false))=true) (hw:∀ K:(Nat->PV)->Hp->Prop,(∀ s h,Q .normal s h->K s h)->ASj P Tb J l K t s h):AW P Tb J n (.region id l.toArray true) Q s h:=λD0 w0 ρ e w hT hF S=>by
 refine W_dA hm t hok λK w1 hK hx=>?_;exact qb3 (K':=K) hT.1 hT.2 hF (λs h ρ e w S hq=>hK _ _ ⟨s,h,ρ,S,hq⟩) t s h ρ e w1 (S.extend hx) (hw (λs h=>Q .normal s h) λ_ _ h=>h)
def A_dj [NL] {J:Nat->Prop} {Q:SQ} {id:Nat} {l:List Oper} {b:Code} (hm:P.follows .mixedOrders=true) (t:Sch) (hok:(Region.noSelect l.toArray && q5N l t false l.length (Array.replicate l.length false))=true) (hw:∀ K:(Nat->PV)->Hp->Prop,(∀ s h,AW P Tb J n b Q s h->K s h)->ASj P Tb J l K t s h):AW P Tb J n (.seq (.region id l.toArray true) b) Q s h :=
 q4C λK hK=>qlY hm t hok λK1 hK1=>hw K1 λs h hb=>hK1 s h (hK s h hb)
def qqX [NL] {J:Nat->Prop} {Q:SQ} {id:Nat} {l:List Oper} {b:Code} (hw:∀ K:(Nat->PV)->Hp->Prop,(∀ s h,AW P Tb J n b Q s h->K s h)->ALj P Tb J l K l s h):AW P Tb J n (.seq (.region id l.toArray false) b) Q s h :=
 q4C λK hK=>qgH λK1 hK1=>hw K1 λs h hb=>hK1 s h (hK s h hb)
end
def q8D [NL] (P:Program) (Tb:World->Prop) (J:Nat->Prop) (f:FuncId) (h:Hp) (xs:List PV) [s:Cn (Nat->PV)] [K:Cn (PV->Hp->Prop)]:Prop :=
 @q4j _ P Tb f (q2d h xs) ⟨λx _=>K.k x h⟩\/∃ hin x hout,ACx P Tb f xs hin x hout/\(∀ i,win i->h i=hin i)/\((∀ i,J i->hout i≠none->hin i≠none)/\Dd hin hout s.k h)/\K.k x (q0u hout h)
def aoj [NL] (P:Program) (Tb:World->Prop) (J:Nat->Prop) (d:Option Nat) (op:Op) (s:Nat->PV) (h:Hp) (K:PV->Hp->Prop):Prop :=
 match op with
 | .call ⟨.value (.func f),args,_⟩=>@q8D _ P Tb J f h (args.toList.map (pe s)) ⟨s⟩ ⟨K⟩
 | op=>ao P Tb d op s h λx h' _=>K x h'
section
variable {P:Program} {Tb:World->Prop} {J:Nat->Prop} {d:Option Nat} {ty t:TypeId} {pos:String} {af:Array Edge} {s:Nat->PV} {h:Hp} {K:PV->Hp->Prop} {ops r:List Oper} {KL:(Nat->PV)->Hp->Prop}
@[congr] theorem qv2 [NL] {op:Op}:aoj P Tb J d op s h K=aoj P Tb J d op s h K:=rfl
@[congr] theorem qxH [NL] {l:List Oper}:ALj P Tb J ops KL l s h=ALj P Tb J ops KL l s h:=rfl
@[congr] theorem qxG [NL] {t:Sch}:ASj P Tb J ops KL t s h=ASj P Tb J ops KL t s h:=rfl
@[congr] theorem Sj_congr [NL] {o o':Oper} (ho:o=o'):Sj P Tb J ops o s h KL=Sj P Tb J ops o' s h KL:=by rw [ho]
def qpt [NL]:ALj P Tb J ops KL [] s h=KL s h:=rfl
def qjO [NL] {o:Oper}:ALj P Tb J ops KL (o :: r) s h=Sj P Tb J ops o s h (ALj P Tb J ops KL r):=rfl
def qpr [NL]:ASj P Tb J ops KL .fin s h=KL s h:=rfl
def qpq [NL] {i:Nat} {t:Sch}:ASj P Tb J ops KL (.one i t) s h=Sj P Tb J ops (qbm ops i) s h (ASj P Tb J ops KL t):=rfl
def qps [NL] {t u:Sch}:ASj P Tb J ops KL (.alt t u) s h=(ASj P Tb J ops KL t s h/\ASj P Tb J ops KL u s h):=rfl
def qfq [NL] {op : Op} {K : PV -> Hp -> FP -> Prop} : ao P Tb d op s h K = ∃ x h' fp, Stp P Tb ⟨d, op, 0, "", #[], none⟩ s h x h' fp /\ K x h' fp := by
 unfold ao; rfl
def qf9 [NL] {f:FuncId} {o:Option (List PV × List Nat)} {K:PV->List Nat->Prop}:@q4j _ P Tb f o ⟨K⟩=∃ al ids x,o=some (al,ids)/\AC P Tb f al x/\(ids=[]\/Nz x)/\K x ids:=by
 unfold q4j; rfl
def noC:Op->Bool
 | .call ⟨.value (.func _),_,_⟩=>false
 | _=>true
def q2H [NL] {op:Op} (ho:noC op=true):aoj P Tb J d op s h K=ao P Tb d op s h λx h' _=>K x h':=by
 unfold aoj
 split
 .cases ho
 .rfl
def qio [NL] {f:FuncId} {xs:List Operand} {ts:Array TypeId}:aoj P Tb J d (.call ⟨.value (.func f),xs.toArray,ts⟩) s h K=@q8D _ P Tb J f h (xs.map (pe s)) ⟨s⟩ ⟨K⟩:=rfl
def qpT [NL] {op : Op} : aoj P Tb J d op s h K ↔ (∃ x h' fp, Stp P Tb ⟨d, op, 0, "", #[], none⟩ s h x h' fp /\ K x h') \/ (∃ f args ts hin x hout, op = .call ⟨.value (.func f), args, ts⟩ /\ ACx P Tb f (args.toList.map (pe s)) hin x hout /\ (∀ i, win i -> h i = hin i) /\ ((∀ i, J i -> hout i ≠ none -> hin i ≠ none) /\ Dd hin hout s h) /\ K x (q0u hout h)) := by
 unfold aoj
 split
 .rename_i f args ts;unfold q8D;rw [qf9]
  constructor
  .rintro (⟨al,ids,x,h1,h2,h3,h4⟩ | ⟨hin,x,hout,h1,h2,h3,h4⟩)
   .exact .inl ⟨x,h,(ids,[]),⟨al,ids,h1,h2,h3,rfl,rfl⟩,h4⟩
   .exact .inr ⟨_,_,_,hin,x,hout,rfl,h1,h2,h3,h4⟩
  .rintro (⟨x,h',fp,⟨al,ids,h1,h2,h3,rfl,_⟩,h4⟩ | ⟨f,args,ts,hin,x,hout,he,h1,h2,h3,h4⟩)
   .exact .inl ⟨al,ids,x,h1,h2,h3,h4⟩
   .cases he;exact .inr ⟨hin,x,hout,h1,h2,h3,h4⟩
 .rename_i hno;rw [qfq]
  constructor
  .rintro ⟨x,h',fp,h1,h2⟩;exact .inl ⟨x,h',fp,h1,h2⟩
  .rintro (⟨x,h',fp,h1,h2⟩ | ⟨f,args,ts,hin,x,hout,he,_⟩)
   .exact ⟨x,h',fp,h1,h2⟩
   .exact (hno _ _ _ he).elim
def Sj_n [NL] {op:Op}:Sj P Tb J ops ⟨d,op,ty,pos,af,none⟩ s h KL=aoj P Tb J d op s h λx h'=>KL (q2u s d x) h':=by
 rw [qpT];refine propext ⟨?_,?_⟩
 .rintro (⟨x,h',fp,h1,h2⟩ | ⟨_,f,args,ts,hin,x,hout,ho,h1,h2,h3,h4⟩)
  .exact .inl ⟨x,h',fp,h1,h2⟩
  .exact .inr ⟨f,args,ts,hin,x,hout,ho,h1,h2,h3,h4⟩
 .rintro (⟨x,h',fp,h1,h2⟩ | ⟨f,args,ts,hin,x,hout,ho,h1,h2,h3,h4⟩)
  .exact .inl ⟨x,h',fp,h1,h2⟩
  .exact .inr ⟨rfl,f,args,ts,hin,x,hout,ho,h1,h2,h3,h4⟩
def Sj_g [NL] {op:Op} {j:Nat} {b:Bool}:Sj P Tb J ops ⟨d,op,ty,pos,af,some (j,b)⟩ s h KL=@pgA (q2k ops s j b) b ⟨ao P Tb d op s h λx h' _=>KL (q2u s d x) h'⟩ ⟨KL (q2u s d (.vl undef)) h⟩:=by
 unfold pgA;refine propext ⟨?_,λhp=>?_⟩
 .rintro (⟨x,h',fp,hg,hk⟩ | ⟨hg,_⟩)
  .unfold q7Q at hg;simp only at hg;obtain ⟨c,hc,hg⟩:=hg;rw [hc];simp only
   split at hg
   .rename_i hcb; rw [if_pos hcb,qfq]; exact ⟨x,h',fp,hg,hk⟩
   .rename_i hcb; rw [if_neg hcb]; obtain ⟨rfl,rfl,rfl⟩:=hg; exact hk
  .cases hg
 .split at hp
  .rename_i c hc
   split at hp
   .rename_i hcb;rw [qfq] at hp;obtain ⟨x,h',fp,hg,hk⟩:=hp;exact .inl ⟨x,h',fp,by unfold q7Q; exact ⟨c,hc,by rw [if_pos hcb]; exact hg⟩,hk⟩
   .rename_i hcb;exact .inl ⟨.vl undef,h,([],[]),by unfold q7Q; exact ⟨c,hc,by rw [if_neg hcb]; exact ⟨rfl,rfl,rfl⟩⟩,hp⟩
  .exact hp.elim
section
variable {x a b:Operand} {i f:Nat}
def qp3 [NL]:aoj P Tb J d (.move x) s h K=ao P Tb d (.move x) s h λx h' _=>K x h':=q2H rfl
def qfu [NL]:aoj P Tb J d (.assign x) s h K=ao P Tb d (.assign x) s h λx h' _=>K x h':=q2H rfl
def qp2 [NL] {c}:aoj P Tb J d (.pick c a b) s h K=ao P Tb d (.pick c a b) s h λx h' _=>K x h':=q2H rfl
def qvo [NL] {op t'}:aoj P Tb J d (.binOp op t a b t') s h K=ao P Tb d (.binOp op t a b t') s h λx h' _=>K x h':=q2H rfl
def aj_un [NL] {op}:aoj P Tb J d (.unOp op t x) s h K=ao P Tb d (.unOp op t x) s h λx h' _=>K x h':=q2H rfl
def qp6 [NL] {u v}:aoj P Tb J d (.convert u v x) s h K=ao P Tb d (.convert u v x) s h λx h' _=>K x h':=q2H rfl
def qvk [NL]:aoj P Tb J d (.fieldAddr t x f) s h K=ao P Tb d (.fieldAddr t x f) s h λx h' _=>K x h':=q2H rfl
def qvl [NL]:aoj P Tb J d (.extract x i) s h K=ao P Tb d (.extract x i) s h λx h' _=>K x h':=q2H rfl
def qvh [NL]:aoj P Tb J d (.nilCheck x) s h K=ao P Tb d (.nilCheck x) s h λx h' _=>K x h':=q2H rfl
def qvi [NL]:aoj P Tb J d (.indexAddr t a b) s h K=ao P Tb d (.indexAddr t a b) s h λx h' _=>K x h':=q2H rfl
def qiz [NL] {lo hi mx}:aoj P Tb J d (.slice t x lo hi mx) s h K=ao P Tb d (.slice t x lo hi mx) s h λx h' _=>K x h':=q2H rfl
def qvj [NL] {fn first cap}:aoj P Tb J d (.makeFunc fn first cap) s h K=ao P Tb d (.makeFunc fn first cap) s h λx h' _=>K x h':=q2H rfl
def qjB [NL] {ps}:aoj P Tb J d (.build t ps) s h K=ao P Tb d (.build t ps) s h λx h' _=>K x h':=q2H rfl
def qp5 [NL]:aoj P Tb J d (.load t x) s h K=ao P Tb d (.load t x) s h λx h' _=>K x h':=q2H rfl
def qjC [NL]:aoj P Tb J d (.alloc t) s h K=ao P Tb d (.alloc t) s h λx h' _=>K x h':=q2H rfl
def qvm [NL]:aoj P Tb J d (.box t x) s h K=ao P Tb d (.box t x) s h λx h' _=>K x h':=q2H rfl
def aj_bs [NL] {n ps}:aoj P Tb J d (.buildSlice t n ps) s h K=ao P Tb d (.buildSlice t n ps) s h λx h' _=>K x h':=q2H rfl
def qp4 [NL]:aoj P Tb J d (.makeSlice t a b) s h K=ao P Tb d (.makeSlice t a b) s h λx h' _=>K x h':=q2H rfl
def qiy [NL]:aoj P Tb J d (.store t a b) s h K=ao P Tb d (.store t a b) s h λx h' _=>K x h':=q2H rfl
def qvn [NL] {u xs ts}:aoj P Tb J d (.call ⟨.builtin u,xs,ts⟩) s h K=ao P Tb d (.call ⟨.builtin u,xs,ts⟩) s h λx h' _=>K x h':=q2H rfl
def qjA [NL] {t:Nat} {xs:List Operand} {ts}:aoj P Tb J d (.call ⟨.value (.tmp t),xs.toArray,ts⟩) s h K=@qfD _ P Tb h (s t) (xs.map (pe s)) ⟨λx ids=>K x h⟩:=(q2H rfl).trans qbU
end
def jc [NL] {f:FuncId} {xs:List PV} {S:Cn (Nat->PV)} (hc:@q4j _ P Tb f (q2d h xs) ⟨λx _=>K x h⟩):@q8D _ P Tb J f h xs S ⟨K⟩:=.inl hc
def ACm.ng [NL] {f:FuncId} {xs:List PV} {hin hout:Hp} {x:PV} (hc:ACm P Tb f xs hin x hout):∀ i,¬ qc2 hin hout i:=λi ⟨_,h1,h2⟩=>by
 obtain ⟨b,hb⟩:=zY.1 h1;obtain ⟨b',hb',_⟩:=(hc.hi i b hb).2.2.2;rw [hb'] at h2; cases h2
def jm [NL] {f:FuncId} {xs:List PV} {hin hout:Hp} {x:PV} {S:Cn (Nat->PV)} (hc:ACm P Tb f xs hin x hout) (hw:∀ i,win i->h i=hin i) (hj:∀ i,J i->hout i≠none->hin i≠none) (hk:K x (q0u hout h)):@q8D _ P Tb J f h xs S ⟨K⟩:=.inr ⟨hin,x,hout,hc.x,hw,⟨hj,.inl hc.ng⟩,hk⟩
def jx [NL] {f:FuncId} {xs:List PV} {hin hout:Hp} {x:PV} {s:Nat->PV} (hc:ACx P Tb f xs hin x hout) (hw:∀ i,win i->h i=hin i) (hj:∀ i,J i->hout i≠none->hin i≠none) (hd:Dd hin hout s h) (hk:K x (q0u hout h)):@q8D _ P Tb J f h xs ⟨s⟩ ⟨K⟩:=.inr ⟨hin,x,hout,hc,hw,⟨hj,hd⟩,hk⟩
def Wn (h hw:Hp):Prop:=∀ i,win i->h i=hw i
def Wn_lo {i:Nat} {b:Bk} {hw:Hp} (hi:¬ win i):Wn (q0P h i b) hw=Wn h hw:=by
 refine propext ⟨λhq j hj=>?_,λhq j hj=>?_⟩
 .rw [<- hq j hj,q0A λe=>hi (by rw [<- e]; exact hj)]
 .rw [<- hq j hj,q0A λe=>hi (by rw [<- e]; exact hj)]
def q4k {hw:Hp}:Wn (q0u hw h) hw:=λ_ hi=>q0V hi
def q5d {i:Nat} {b:Bk} {hw:Hp} (hq:Wn h hw):Wn (q0P h i b) (q0P hw i b):=λj hj=>by
 unfold q0P
 split
 .rfl
 .exact hq j hj
def q9l {hw hw':Hp} (hq:Wn h hw) (he:hw=hw'):Wn h hw':=he ▸ hq
def qn0 {hw:Hp} {i:Nat} (hi:i < 5000):q0u hw h i=h i:=q14 λhw=>by unfold win at hw; omega
def qn1 {hw:Hp} {i:Nat} (h1:5000<=i) (h2:i < 1000000):q0u hw h i=hw i:=q0V ⟨h1,h2⟩
structure WfH (hw:Hp):Prop where
 wf:∀ i b,hw i=some b->b.st=false/\IdL (λj=>win j/\hw j≠none) b.xs
section
variable {τ:Nat->Option Nat} {h':Hp} {p:Nat->Prop}
mutual
def qjJ (hp:∀ j,p j->τ j=some j/\∃ b,h' j=some b):∀ (x:PV),IdP p x->LeV τ h h' x x
 | .un,_=>.un
 | .vl _,_=>.cl trivial
 | .fm _,_=>.cl trivial
 | .sl _ _,_=>.cl trivial
 | .qt _ _,_=>.cl trivial
 | .ow id k a b,hi=>by
  unfold IdP at hi;obtain ⟨h1,c,h2⟩:=hp id hi;exact .ow h1 h2
 | .pt id a b,hi=>by
  unfold IdP at hi;obtain ⟨h1,c,h2⟩:=hp id hi;exact .pt h1 h2
 | .mp id,hi=>by
  unfold IdP at hi;obtain ⟨h1,c,h2⟩:=hp id hi;exact .mp h1 h2
 | .ag l,hi=>by
  unfold IdP at hi;obtain ⟨h1,h2⟩:=LeL_self hp l hi;exact .ag h1 h2
 | .tu l,hi=>by
  unfold IdP at hi;obtain ⟨h1,h2⟩:=LeL_self hp l hi;exact .tu h1 h2
def LeL_self (hp:∀ j,p j->τ j=some j/\∃ b,h' j=some b):∀ (l:List PV),IdL p l->LeL τ h h' l l
 | [],_=>⟨rfl,λi a b ha hb=>by simp at ha⟩
 | x :: l,hi=>by
  unfold IdL at hi;obtain ⟨h1,h2⟩:=LeL_self hp l hi.2;refine ⟨rfl,λi a b ha hb=>?_⟩;cases i with
  | zero=>simp at ha hb; subst ha; subst hb; exact qjJ hp x hi.1
  | succ i=>exact h2 i a b (by simpa using ha) (by simpa using hb)
end
def q0y (τ:Nat->Option Nat):List Nat->Prop
 | []=>True
 | i :: l=>(¬ win i/\∀ j,τ i=some j->¬ win j)/\q0y τ l
def q6Y:∀ {l:List Nat},q0y τ l->∀ i ∈ l,¬ win i/\∀ j,τ i=some j->¬ win j
 | i :: l,h,j,hj=>by
  rcases xT.1 hj with rfl | hj
  .exact h.1
  .exact q6Y h.2 j hj
def LeW [NL] (l:List (Nat × Option Nat)) (hl:qqw l=true) (hlt:q0n l=τ) {hw:Hp} {xs kv:List (Nat × PV)} {bs:List (Nat × Bk)} {kb:List (Nat × Option Bk)} (hq:Wn h hw) (wf:WfH hw) (hx:q0y τ (bs.map (·.1) ++ kb.map (·.1)))
  (hh:q4l τ h (q0u hw (hpM bs kb)) s xs/\q4l τ h (q0u hw (hpM bs kb)) s kv/\qcR τ h (q0u hw (hpM bs kb)) bs/\q8d τ h (q0u hw (hpM bs kb)) kb/\q76 τ (bs.map (·.1) ++ kb.map (·.1))):Le J s h (stM xs kv) (q0u hw (hpM bs kb)):=by
 obtain ⟨h1,h2,h3,h4,h5⟩:=hh;have ht:∀ i,win i->τ i=some i:=λi hi=>by rw [<- hlt]; exact q8o hl i hi.1 hi.2
 have hm:∀ i b,q0u hw (hpM bs kb) i=some b->(win i/\hw i=some b)\/(¬ win i/\LeB τ h (q0u hw (hpM bs kb)) i b/\i ∈ bs.map (·.1) ++ kb.map (·.1)):=λi b hb=>by
  by_cases hi:win i
  .rw [q0V hi] at hb; exact .inl ⟨hi,hb⟩
  .rw [q14 hi] at hb; exact .inr ⟨hi,q3z h4 h3 i b hb⟩
 refine q4W τ (λi b hb=>?_) (λi j k b c hi hj ti tj=>?_) (λt=>q6R h2 h1 t) λi _ q1 q2=>ht i ⟨q1,q2⟩
 .rcases hm i b hb with ⟨hi,hb⟩ | ⟨_,hb,_⟩
  .unfold LeB;rw [ht i hi];obtain ⟨q1,q2⟩:=wf.wf i b hb;refine ⟨b,(hq i hi).trans hb,rfl,rfl,⟨q1,q1⟩,LeL_self (λj hj=>⟨ht j hj.1,?_⟩) _ q2⟩;obtain ⟨c,hc⟩:=zY.1 hj.2;exact ⟨c,by rw [q0V hj.1]; exact hc⟩
  .exact hb
 .rcases hm i b hi with ⟨wi,_⟩ | ⟨wi,_,mi⟩ <;> rcases hm j c hj with ⟨wj,_⟩ | ⟨wj,_,mj⟩
  .rw [ht i wi] at ti; rw [ht j wj] at tj;cases ti; cases tj; rfl
  .rw [ht i wi] at ti;cases ti;exact ((q6Y hx j mj).2 _ tj wi).elim
  .rw [ht j wj] at tj;cases tj;exact ((q6Y hx i mi).2 _ ti wj).elim
  .rcases q30 h5 i mi j mj with h | h | h
   .exact h
   .rw [ti] at h; cases h
   .rw [ti,tj] at h; exact absurd rfl h
end
def q0U [NL] {n:Nat} {Q:SQ} {ι:Type} {c:Code} (I:ι->Prop) (ks kb:List Nat) {kv:List (Nat × PV)} {kbv:List (Nat × Option Bk)} (hk:(ks.map λt=>(t,s t))=kv) (hb:(kb.map λi=>(i,h i))=kbv) (xs:ι->List (Nat × PV)) (bs:ι->List (Nat × Bk)) (hw:ι->Hp) (μ:ι->Nat) (i0:ι) (hI:I i0) (hl:Le J s h (stM (xs i0) kv) (q0u (hw i0) (hpM (bs i0) kbv)))
  (round:∀ i,I i->AW P Tb J n c (thA (λs' h'=>∃ j,I j/\μ j < μ i/\Le J s' h' (stM (xs j) kv) (q0u (hw j) (hpM (bs j) kbv))) Q) (stM (xs i) kv) (q0u (hw i) (hpM (bs i) kbv))):AW P Tb J n (.loop c) Q s h :=
 qgJ (ι:={i:ι // I i}) (λi=>stM (xs i.1) kv) (λi=>q0u (hw i.1) (hpM (bs i.1) kbv)) (λi=>μ i.1) ⟨i0,hI⟩ hl λi=>by
  intro D0 w0 ρ e w hT hF S;refine q5e (λx e' w' hx=>?_) (round i.1 i.2 D0 w0 ρ e w hT hF S);obtain ⟨s',h',ρ',S',q⟩:=hx;refine ⟨s',h',ρ',S',?_⟩;cases x
  case normal=>obtain ⟨j,h1,h2,h3⟩:=q; exact ⟨⟨j,h1⟩,h3,h2⟩
  all_goals exact q
end
attribute [irreducible] aoj q8D
attribute [go_sem ↓] qn0 qn1 qpt qjO qpr qpq qps Sj_n Sj_g qp3 qfu qp2 qvo aj_un qp6 qvk qvl qvh qvi qiz qvj qjB qp5 qjC qvm aj_bs qp4 qiy qvn qjA qio qkH qsf
section
variable {P:Program} {J:Nat->Prop} {s:Nat->PV} {h hin hout hw:Hp} {τ:Nat->Option Nat}
def mkR_1 {x:PV}:mkR [x]=x:=rfl
def mkR_0:mkR []=.tu []:=rfl
attribute [go_sem] mkR_1 mkR_0
def rtM [NL] {fn:Func} {x:PV} {rs:List ResultVar} {l:List PV} (hr:fn.results.toList=rs) (hlen:(decide (rs.length<=4))=true) (hl:rsL P h s rs=some l) (hle:Le J (λ_=>mkR l) h (λ_=>x) hout) {e:Exit} (he:e=.ret\/e=.normal):retX P fn J x hout e s h :=
 ⟨he,by rw [hr]; simpa using hlen,l,by rw [hr]; exact hl,hle⟩
def jmF [NL] {P:Program} {Tb:World->Prop} {K:PV->Hp->Prop} {f:FuncId} {xs:List PV} {x:PV} {S:Cn (Nat->PV)} (hc:ACm P Tb f xs hin x hout) (hw:Wn h hin) (hk:K x (q0u hout h)):@q8D _ P Tb (λ_=>False) f h xs S ⟨K⟩:=jm hc hw (λ_ hi=>hi.elim) hk
def Sns (q:Nat->Prop) (s:Nat->PV):Prop:=∀ t,IdP q (s t)
def Hns (q:Nat->Prop) (h:Hp):Prop:=∀ i b,h i=some b->¬ win i->b.st=false/\IdL q b.xs
section
variable {q:Nat->Prop} {d:Nat} {x:PV} {xs kv:List (Nat × PV)} {bs:List (Nat × Bk)} {kb:List (Nat × Option Bk)} {b:Bk} {i:Nat}
def qlL (hs:Sns q s) (hx:IdP q x):Sns q (pu s d x):=λt=>by
 unfold pu
 split
 .exact hx
 .exact hs t
def qwv (hh:Hns q h):Hns q (q0u hw h):=λi b hb hi=>hh i b (by rw [q14 hi] at hb; exact hb) hi
def qlR (hh:Hns q h) (h1:b.st=false) (h2:IdL q b.xs):Hns q (q0P h i b):=λj c hc hj=>by
 unfold q0P at hc
 split at hc
 .cases hc; exact ⟨h1,h2⟩
 .exact hh j c hc hj
def qww:∀ {kb:List (Nat × Option Bk)},(∀ p ∈ kb,∀ b,p.2=some b->b.st=false/\IdL q b.xs)->Hns q (hpV kb)
 | [],_,i,b,hb,_=>by cases hb
 | p :: l,h,i,b,hb,hi=>by
  unfold hpV at hb
  split at hb
  .exact h p yP b hb
  .exact qww (λp hp=>h p (yR _ hp)) i b hb hi
def qpj (hk:∀ p ∈ kb,∀ b,p.2=some b->b.st=false/\IdL q b.xs):∀ {bs:List (Nat × Bk)},(∀ p ∈ bs,p.2.st=false/\IdL q p.2.xs)->Hns q (hpM bs kb)
 | [],_=>qww hk
 | p :: l,h=>λi b hb hi=>by
  unfold hpM at hb
  split at hb
  .cases hb; exact h p yP
  .exact qpj hk (λp hp=>h p (yR _ hp)) i b hb hi
def qwz {a:Nat} (hg:∀ i,qc2 hin hout i->i=a) (hs:Sns (λi=>i≠a) s) (hh:Hns (λi=>i≠a) h):Dd hin hout s h :=
 .inr ⟨λt=>qb1 (λi hi hq=>hi (hg i hq)) _ (hs t),λi b hb hw=>⟨(hh i b hb hw).1,IdL_mono (λi hi hq=>hi (hg i hq)) _ (hh i b hb hw).2⟩⟩
end
def LeF [NL] {x:PV} {l:List PV} (hq:Wn h hout) (ho:∀ i b,hout i=some b->win i) (wf:WfH hout) (hx:LeV some h hout (mkR l) x):Le J (λ_=>mkR l) h (λ_=>x) hout:=by
 refine q4W some (λi b hb=>?_) (λi j k b c _ _ ti tj=>by cases ti; cases tj; rfl) (λ_=>hx) λ_ _ _ _=>rfl;obtain ⟨q1,q2⟩:=wf.wf i b hb;refine ⟨b,(hq i (ho i b hb)).trans hb,rfl,rfl,⟨q1,q1⟩,LeL_self (λj hj=>⟨rfl,zY.1 hj.2⟩) _ q2⟩
def nmW (o r:Nat):List Nat->Prop
 | []=>True
 | i :: l=>(i < 5000/\i≠o/\i≠r)/\nmW o r l
def q4P {o r:Nat}:∀ {l:List Nat},nmW o r l->∀ i ∈ l,i < 5000/\i≠o/\i≠r
 | i :: l,h,j,hj=>by
  rcases xT.1 hj with rfl | hj
  .exact h.1
  .exact q4P h.2 j hj
def tabH (T1 T2:TypeId) (N R n m:Nat) (g:Nat->Nat->Bool):Hp:=λi =>
 if i=N then some ⟨T1,none,(List.range n).map λj=>.ow (j+R) none 0 m,false⟩
 else if R<=i/\i < R+n then some ⟨T2,none,(List.range m).map λc=>.vl (.bool (g (i-R) c)),false⟩ else none
variable {T1 T2:TypeId} {N R n m:Nat} {g:Nat->Nat->Bool}
def qrC:tabH T1 T2 N R n m g N=some ⟨T1,none,(List.range n).map λj=>.ow (j+R) none 0 m,false⟩:=if_pos rfl
def qrB {j:Nat} (hN:N < R) (hj:j < n):tabH T1 T2 N R n m g (j+R)=some ⟨T2,none,(List.range m).map λc=>.vl (.bool (g j c)),false⟩:=by
 unfold tabH;rw [if_neg ω,if_pos ω,Nat.add_sub_cancel]
attribute [go_sem ↓] qrC qrB
def qm6 {x:PV}:List.replicate m x=(List.range m).map λ_=>x:=by simp [List.map_const']
def qvx {i:Nat} {b:Bk} (hi:i < 5000) (hq:Wn h hw):Wn (q0P h i b) hw:=by
 rw [Wn_lo λw=>by unfold win at w; omega]; exact hq
def Wn_r:Wn h h:=λ_ _=>rfl
def Wn_0:Wn h0 h0:=λ_ _=>rfl
def Wn_V:∀ {kb:List (Nat × Option Bk)},nmW 0 0 (kb.map λp=>p.1+1)->Wn (hpV kb) h0
 | [],_=>Wn_0
 | p :: l,hk=>λi hi=>by
  unfold hpV;have:p.1+1 < 5000:=hk.1.1;rw [if_neg (by unfold win at hi; omega)];exact Wn_V hk.2 i hi
def Wn_M:∀ {bs:List (Nat × Bk)} {kb:List (Nat × Option Bk)},nmW 0 0 (bs.map λp=>p.1+1)->nmW 0 0 (kb.map λp=>p.1+1)->Wn (hpM bs kb) h0
 | [],_,_,hk=>Wn_V hk
 | p :: l,_,hb,hk=>λi hi=>by
  unfold hpM;have:p.1+1 < 5000:=hb.1.1;rw [if_neg (by unfold win at hi; omega)];exact Wn_M hb.2 hk i hi
theorem Ow {h hw:Hp} (e:Wn h hw:=by repeat (first | exact q4k | exact Wn_0 | exact Wn_r | exact Wn_M (by simp [nmW]) (by simp [nmW]) | refine qvx (by omega) ?_)):Wn h hw:=e
def tn (N:Nat):Nat->Option Nat:=λi=>if i=N then none else some i
def tn_ap {i:Nat}:tn N i=if i=N then none else some i:=rfl
def tp (N K o r:Nat):Nat->Option Nat:=λi=>if i=N then some o else if i=K then some r else some i
def tp_ap {K o r i:Nat}:tp N K o r i=if i=N then some o else if i=K then some r else some i:=rfl
attribute [go_sem ↓] tn_ap tp_ap
end
end Go.E
namespace Go.Proofs.YtbjoghfmhgadkaaGreatDoor
open Go Go.E Go.Sp
abbrev ACxt [NL] (f:FuncId) (al:List PV) (hin:Hp) (x:PV) (hout:Hp):Prop:=ACx Tryz.prog q5i f al hin x hout
def actx [NL] {f:FuncId} {fn:Func} {c:Code} {al:List PV} {x:PV} {hin hout:Hp} (hc:q0J Tryz.prog f=true) (hf:Tryz.prog.funcs[f]?=some fn) (hb:fn.body=some c) {n:Nat} (hn:fn.ntmps=n) (hd:(decide (al.length<=n) && q6x n c)=true)
  (hi:∀ i b,hin i=some b->win i/\b.st=false/\IdL win b.xs/\(hout i=none\/∃ b',hout i=some b'/\b'.k=b.k/\b.xs.length<=b'.xs.length)) (ho:∀ i b,hout i=some b->win i) (hal:IdL win al)
  (hw:AW Tryz.prog q5i (λi=>hin i≠none/\hout i≠none) n c (retX Tryz.prog fn (λi=>hin i≠none/\hout i≠none) x hout) (enP al) hin):ACxt f al hin x hout:=ql1 hc hf hb hn hd hi ho hal hw
abbrev ql2 [NL] (f:FuncId) (al:List PV) (hin:Hp) (x:PV) (hout:Hp):Prop:=ACm Tryz.prog q5i f al hin x hout
def qp8 [NL] {f:FuncId} {fn:Func} {c:Code} {al:List PV} {x:PV} {hin hout:Hp} (hc:q0J Tryz.prog f=true) (hf:Tryz.prog.funcs[f]?=some fn) (hb:fn.body=some c) {n:Nat} (hn:fn.ntmps=n) (hd:(decide (al.length<=n) && q6x n c)=true)
  (hi:∀ i b,hin i=some b->win i/\b.st=false/\IdL win b.xs/\∃ b',hout i=some b'/\b'.k=b.k/\b.xs.length<=b'.xs.length) (ho:∀ i b,hout i=some b->win i) (hal:IdL win al)
  (hw:AW Tryz.prog q5i (λi=>hin i≠none) n c (retM Tryz.prog fn hin x hout) (enP al) hin):ql2 f al hin x hout:=qxJ hc hf hb hn hd hi ho hal hw
end Go.Proofs.YtbjoghfmhgadkaaGreatDoor
namespace Go.E
open Go Go.RowKit
section
variable {w w':World} {w0:Base} {D D' D0:Nat->Prop} {ρ ρ':Nat->Option Nat} {h h':Hp} {s:Nat->PV} {e:Env} {P:Program} {J:Nat->Prop} {l l':List (Int × PV)} {el:List MapEntry}
def q3B.mv [NL] (hk:Kp D w w') (hd:∀ k,k < w.heap.size->D k->D' k) (hc:Cpt w w' ρ h ρ' h') (hm:q3B w D ρ h l el):q3B w' D' ρ' h' l el:=⟨hm.1,λi p e hp he=>⟨(hm.2 i p e hp he).1,Rd.mv hk hd _ _ _ _ _ _ hc (hm.2 i p e hp he).2⟩⟩
def qkT {g:Nat} {es:Array MapEntry} {cl:Nat} (h:w.heap[g]?=some (.map es cl)):g < w.heap.size:=by
 rcases yI g w.heap.size with h1 | h1
 .exact h1
 .rw [Array.getElem?_eq_none h1] at h; cases h
def fMap [NL] (l:List (Int × PV)):Fam:=⟨λD v w=>∃ g es cl el,v=.map (some g)/\D g/\w.heap[g]?=some (.map es cl)/\MapWf es cl/\q3B w D (λ_=>none) h0 l el/\es.toList.Perm el,
 λk ⟨g,es,cl,el,h1,h2,h3,h4,h5,h6⟩=>⟨g,es,cl,el,h1,h2,(k.block g (qkT h3) h2).trans h3,h4,q3B.mv k (λ_ _ h=>h) Cpt.h0 h5,h6⟩,
 λk ⟨g,es,cl,el,h1,h2,h3,h4,h5,h6⟩=>⟨g,es,cl,el,h1,k g (qkT h3) h2,h3,h4,q3B.mv (Kp.refl _ _) k Cpt.h0 h5,h6⟩⟩
def qiT [NL] {A:Prop}:q1U none (.fm (fMap l)) A=A:=by
 unfold q1U;refine propext ⟨λh=>h.2,λh=>⟨λD v w hv=>?_,h⟩⟩;obtain ⟨g,es,cl,el,rfl,_⟩:=hv;exact ⟨rfl,rfl,nlo⟩
attribute [go_sem] qiT
def hdl (h:Hp) (d:Nat):Hp:=λi=>if i=d then none else h i
end
section
variable {P:Program} {w:World} {g bm since c0 clock:Nat} {seen:Array Nat} {es:Array MapEntry}
end
section
variable {w w':World} {w0 w0':Base} {D D' D0:Nat->Prop} {ρ ρ':Nat->Option Nat} {h h':Hp} {s:Nat->PV} {e:Env} {P:Program} {Tb:World->Prop} {J:Nat->Prop} {n:Nat} {Q:SQ}
end
section
variable {w:World} {D:Nat->Prop} {ρ:Nat->Option Nat} {h:Hp} {vs:List Value} {x y z t:PV}
def qqC [NL] (hr:RdL w D [x] ρ h vs):∃ a,vs=[a]/\Rd w D x ρ h a:=by
 unfold RdL at hr;obtain ⟨a,l,rfl,h1,h2⟩:=hr;unfold RdL at h2;subst h2;exact ⟨a,rfl,h1⟩
def rd_2 [NL] (hr:RdL w D [x,y] ρ h vs):∃ a b,vs=[a,b]/\Rd w D x ρ h a/\Rd w D y ρ h b:=by
 unfold RdL at hr;obtain ⟨a,l,rfl,h1,h2⟩:=hr;obtain ⟨b,rfl,h3⟩:=qqC h2;exact ⟨a,b,rfl,h1,h3⟩
def rd_3 [NL] (hr:RdL w D [x,y,z] ρ h vs):∃ a b c,vs=[a,b,c]/\Rd w D x ρ h a/\Rd w D y ρ h b/\Rd w D z ρ h c:=by
 unfold RdL at hr;obtain ⟨a,l,rfl,h1,h2⟩:=hr;obtain ⟨b,c,rfl,h3,h4⟩:=rd_2 h2;exact ⟨a,b,c,rfl,h1,h3,h4⟩
def rd_4 [NL] (hr:RdL w D [x,y,z,t] ρ h vs):∃ a b c d,vs=[a,b,c,d]/\Rd w D x ρ h a/\Rd w D y ρ h b/\Rd w D z ρ h c/\Rd w D t ρ h d:=by
 unfold RdL at hr;obtain ⟨a,l,rfl,h1,h2⟩:=hr;obtain ⟨b,c,d,rfl,h3,h4,h5⟩:=rd_3 h2;exact ⟨a,b,c,d,rfl,h1,h3,h4,h5⟩
def qcZ [NL] {v a:Value} (hr:Rd w D (.vl v) ρ h a):a=v:=by unfold Rd at hr; exact hr
def q8z [NL] {G:Fam} {a:Value} (hr:Rd w D (.fm G) ρ h a):In G D a w:=by unfold Rd at hr; exact hr
def qdb [NL] {G:Fam} {a:Value} (hr:In G D a w):Rd w D (.fm G) ρ h a:=by unfold Rd; exact hr
def q7p [NL] {v:Value}:Rd w D (.vl v) ρ h v:=by unfold Rd; rfl
def rd_sc [NL] {α:Type} {f:α->Value} {l:List α} {a:Value} (hr:Rd w D (.sl none (l.map λx=>.vl (f x))) ρ h a):∃ A n c,a=.slice A n c/\In (fSc f l) D (.slice A n c) w:=by
 unfold Rd at hr;obtain ⟨A,n,c,vs,rfl,h1,h2,h3,h4⟩:=hr;have:vs=l.map f:=by
  obtain ⟨q1,q2⟩:=RdL.iff.1 h3
  apply List.ext_getElem?
  intro i
  rcases yI i l.length with hi | hi
  .obtain ⟨u,hv⟩:∃ u,vs[i]?=some u:=⟨_,yJ (by simp at q1; omega)⟩;have:=q2 i (.vl (f l[i])) u (by simp [hi]) hv;rw [hv,qcZ this]; simp [hi]
  .rw [wF (by simp at q1; omega),wF (by simpa using hi)]
 subst this;refine ⟨A,n,c,rfl,A,n,c,rfl,?_⟩;have hf:q01 (l.map f)=l.map f:=by
  have:∀ v ∈ l.map f,v.cells=#[v]:=λv hv=>(h4 v hv).1;clear h1 h2 h3 h4
  induction l with
  | nil=>rfl
  | cons x l ih =>
   have e:=ih λv hv=>this v (yR _ hv);unfold q01 at e ⊢;rw [wN,List.flatMap_cons,e,this _ yP]
   rfl
 rw [hf] at h1;exact h1
def qrm [NL] {α:Type} {f:α->Value} {l:List α} {a:Value} (hf:∀ x,qkF (f x)) (hr:In (fSc f l) D a w):Rd w D (.sl none (l.map λx=>.vl (f x))) ρ h a:=by
 obtain ⟨A,n,c,rfl,h1⟩:=hr;unfold Rd;have hfl:q01 (l.map f)=l.map f:=by
  clear h1
  induction l with
  | nil=>rfl
  | cons x l ih =>
   unfold q01 at ih ⊢;rw [wN,List.flatMap_cons,ih,q16 (hf x).1]
   rfl
 refine ⟨A,n,c,l.map f,rfl,by rw [hfl]; exact h1,by have:=h1.len; simpa [ksz] using this,?_,λv hv=>?_⟩
 .have:=q3y (w:=w) (D:=D) (ρ:=λ_=>none) (h:=h0) (l.map f);rw [List.map_map] at this;exact this
 .obtain ⟨x,_,rfl⟩:=List.mem_map.1 hv;exact ⟨q16 (hf x).1,hf x⟩
end
end Go.E
namespace Go.Proofs.YtbjoghfmhgadkaaGreatDoor
open Go Go.E Go.Sp
def qa6 [NL] {v:Value}:Nz (.vl v):=λw D B x _ h=>by unfold Rd at h ⊢; exact h
def fitV [NL] {V:Int}:∀ D v w,In (fV V) D v w->q2T (some 4) v:=λD v w h=>by
 obtain ⟨s,A,n,c,rfl,_⟩:=h;exact ⟨_,rfl,rfl,λu hu=>by simp at hu; rcases hu with rfl | rfl | rfl | rfl <;> exact ⟨rfl,nlo⟩⟩
def fitKV [NL] {V:Int} {A:Prop}:q1U (some 4) (pV V) A=A:=qtd fitV
attribute [go_sem] fitKV
def ac_c [NL] {f:FuncId} {al:List PV} {v:Value} (hc:q0J Tryz.prog f=true) (h:∀ (D:Nat->Prop) (w:World) (vs:List Value),q5i w->Fr D w->RdL w D al (λ_=>none) h0 vs->Calls Tryz.prog f vs.toArray w λx w'=>x=.returned v/\Ext w w'):ACt f al (.vl v) :=
 ⟨hc,λD w vs hT hF hR=>(h D w vs hT hF hR).mono λx w' ⟨h1,h2⟩=>⟨v,h1,h2,q7p⟩⟩
def ac_x [NL] {f:FuncId} {al:List PV} {v:Value} (hc:q0J Tryz.prog f=true) (h:∀ (D:Nat->Prop) (w:World) (vs:List Value),q5i w->Fr D w->RdL w D al (λ_=>none) h0 vs->Calls Tryz.prog f vs.toArray w λx w'=>x=.returned v/\w=w'):ACt f al (.vl v) :=
 ac_c hc λD w vs hT hF hR=>(h D w vs hT hF hR).mono λx w' ⟨h1,h2⟩=>⟨h1,by subst h2; exact Kp.refl _ _⟩
end Go.Proofs.YtbjoghfmhgadkaaGreatDoor
namespace Go.E
open Go Go.RowKit
section
variable {P:Program} {Tb:World->Prop} {J:Nat->Prop} {n:Nat} {Q Q':SQ} {s:Nat->PV} {h:Hp}
def q7T [NL] {c:Code} (hq:∀ x s h,Q x s h->Q' x s h) (hw:AW P Tb J n c Q s h):AW P Tb J n c Q' s h:=λD0 w0 ρ e w hT hF S=>q5e (λx e' w' ⟨s',h',ρ',S',q⟩=>⟨s',h',ρ',S',hq _ _ _ q⟩) (hw D0 w0 ρ e w hT hF S)
def qxD [NL] {a b:Code} (hw:AW P Tb J n a (thA (AW P Tb J n b Q) Q) s h):AW P Tb J n (.seq a b) Q s h:=q4C λK hK=>q7T (λx s h q=>by cases x <;> first | exact hK _ _ q | exact q) hw
def A_sqc [NL] {c:Operand} {x y b:Code} (hw:AW P Tb J n (.cond c x y) (thA (AW P Tb J n b Q) Q) s h):AW P Tb J n (.seq (.cond c x y) b) Q s h:=qxD hw
def A_sqb [NL] {id:Nat} {a b:Code} (hw:AW P Tb J n (.block id a) (thA (AW P Tb J n b Q) Q) s h):AW P Tb J n (.seq (.block id a) b) Q s h:=qxD hw
def A_sql [NL] {a b:Code} (hw:AW P Tb J n (.loop a) (thA (AW P Tb J n b Q) Q) s h):AW P Tb J n (.seq (.loop a) b) Q s h:=qxD hw
def A_sqs [NL] {a b c:Code} (hw:AW P Tb J n (.seq a b) (thA (AW P Tb J n c Q) Q) s h):AW P Tb J n (.seq (.seq a b) c) Q s h:=qxD hw
structure Hid (p:Prop):Prop where
 o:p
def A_jn [NL] {a b:Code} (hw:∀ K:(Nat->PV)->Hp->Prop,(∀ s h,AW P Tb J n b Q s h->K s h)->AW P Tb J n a (thA K Q) s h):AW P Tb J n a (thA (AW P Tb J n b Q) Q) s h:=hw _ λ_ _ h=>h
def x2 {A B:Prop} (a:A) (b:B):A/\B:=⟨a,b⟩
def x3 {A B C:Prop} (a:A) (b:B) (c:C):A/\B/\C:=⟨a,b,c⟩
def x4 {A B C D:Prop} (a:A) (b:B) (c:C) (d:D):A/\B/\C/\D:=⟨a,b,c,d⟩
def x5 {A B C D E:Prop} (a:A) (b:B) (c:C) (d:D) (e:E):A/\B/\C/\D/\E:=⟨a,b,c,d,e⟩
def x6 {A B C D E F:Prop} (a:A) (b:B) (c:C) (d:D) (e:E) (f:F):A/\B/\C/\D/\E/\F:=⟨a,b,c,d,e,f⟩
def qdo (ops:List Oper):List (Nat × Nat) :=
 (List.range ops.length).flatMap λi=>match ops[i]? with
  | none=>[]
  | some o=>(List.range i).filterMap λj=>match ops[j]? with
   | none=>none
   | some p=>if ((qkO [] ops).getD i 0).testBit j || harm (cls p) (cls o) then none else some (j,i)
def djB (a b:FP):Bool:=(a.2.all λx=>!(b.1.any λy=>wU x y) && !(b.2.any λy=>wU x y)) && b.2.all λx=>!(a.1.any λy=>wU x y)
def chkB (prs:List (Nat × Nat)) (fps:List FP):Bool:=prs.all λp=>djB (fps.getD p.1 ([],[])) (fps.getD p.2 ([],[]))
def nbq {x:Nat} {l:List Nat} (hx:(!(l.any λy=>wU x y))=true):x ∉ l:=λhm=>by
 have:(l.any λy=>wU x y)=true:=List.any_eq_true.2 ⟨x,hm,Nat.beq_refl x⟩;rw [this] at hx; cases hx
def qob {prs:List (Nat × Nat)} {fps:List FP} (hc:chkB prs fps=true):chk prs fps:=λp hp=>by
 have:=xU.1 hc p hp;unfold djB at this;rw [Bool.and_eq_true] at this;refine ⟨λx hx=>?_,λx hx=>nbq (xU.1 this.2 x hx)⟩;have q:=xU.1 this.1 x hx;rw [Bool.and_eq_true] at q;exact ⟨nbq q.1,nbq q.2⟩
def cB (l:List Oper) (acc:List FP):Prop:=chkB (qdo l) acc.reverse=true
def qux {l:List Oper} {acc:List FP} (hc:chkB (qdo l) acc.reverse=true):cB l acc:=hc
@[congr] theorem cB_congr {l:List Oper} {acc acc':List FP} (he:acc=acc'):cB l acc=cB l acc':=by rw [he]
def q7U [NL] {ops:List Oper} {K K':(Nat->PV)->Hp->List FP->Prop} (hk:∀ s h acc,K s h acc->K' s h acc):∀ {l:List Oper} {s:Nat->PV} {h:Hp} {acc:List FP},AL P Tb ops K l s h acc->AL P Tb ops K' l s h acc
 | [],_,_,_,hq=>hk _ _ _ hq
 | _ :: _,_,_,_,⟨x,h',fp,h1,h2⟩=>⟨x,h',fp,h1,q7U hk h2⟩
def qlZ [NL] {id:Nat} {l:List Oper} (hm:P.follows .mixedOrders=true) (hok:q93 l (qkO [] l) (qdo l)=true) (hw:∀ K:(Nat->PV)->Hp->Prop,(∀ s h,Q .normal s h->K s h)->AL P Tb l (λs h acc=>cB l acc/\K s h) l s h []):AW P Tb J n (.region id l.toArray true) Q s h :=
 qgK (qdo l) hm hok λK hK=>q7U (λ_ _ _ q=>⟨qob q.1,q.2⟩) (hw K hK)
def A_sdd [NL] {id:Nat} {l:List Oper} {b:Code} (hm:P.follows .mixedOrders=true) (hok:q93 l (qkO [] l) (qdo l)=true) (hw:∀ K:(Nat->PV)->Hp->Prop,(∀ s h,AW P Tb J n b Q s h->K s h)->AL P Tb l (λs h acc=>cB l acc/\K s h) l s h []):AW P Tb J n (.seq (.region id l.toArray true) b) Q s h :=
 q4C λK hK=>qlZ hm hok λK1 hK1=>hw K1 λs h hb=>hK1 s h (hK s h hb)
variable {K:(Nat->PV)->Hp->Prop} {i id:Nat}
def q_n (hq:K s h):thA K Q .normal s h:=hq
def q_r (hq:Q .ret s h):thA K Q .ret s h:=hq
def q_e (hq:Q (.exit i) s h):thA K Q (.exit i) s h:=hq
def i_n (hq:Q .normal s h):inA id Q .normal s h:=hq
def i_r (hq:Q .ret s h):inA id Q .ret s h:=hq
def i_e (hq:Q .normal s h):inA id Q (.exit id) s h:=by simpa [inA] using hq
def i_o (hi:i≠id) (hq:Q (.exit i) s h):inA id Q (.exit i) s h:=by simpa [inA,hi] using hq
def retQ (P:Program) (rs:List ResultVar) (r:PV):SQ:=λx s h=>(x=.ret\/x=.normal)/\qm4 ((rsL P h s rs).bind (q2d h)) r
def qrt {rs:List ResultVar} {r:PV} (hq:qm4 ((rsL P h s rs).bind (q2d h)) r):retQ P rs r .ret s h:=⟨.inl rfl,hq⟩
def qrn {rs:List ResultVar} {r:PV} (hq:qm4 ((rsL P h s rs).bind (q2d h)) r):retQ P rs r .normal s h:=⟨.inr rfl,hq⟩
section
variable {a b:Int}
def d_lt {i:Decidable (a < b)} (h:a < b):@decide _ i=true:=decide_eq_true h
def quL {i:Decidable (a < b)} (h:¬ a < b):@decide _ i=false:=decide_eq_false h
def d_le {i:Decidable (a<=b)} (h:a<=b):@decide _ i=true:=decide_eq_true h
def quM {i:Decidable (a<=b)} (h:¬ a<=b):@decide _ i=false:=decide_eq_false h
def b_t (h:a=b):(a == b)=true:=by simpa using h
def b_f (h:a≠b):(a == b)=false:=by simpa using h
def n_t (h:a≠b):(a != b)=true:=by simpa using h
def n_f (h:a=b):(a != b)=false:=by simpa using h
variable {p:Prop} {i:Decidable p} {x y:PV}
def qcT (h:p):some (@decide p i)=some true:=by rw [decide_eq_true h]
def qcU (h:¬ p):some (@decide p i)=some false:=by rw [decide_eq_false h]
def qcX (h:a=b):some (a == b)=some true:=by rw [b_t h]
def qcY (h:a≠b):some (a == b)=some false:=by rw [b_f h]
def qcV (h:a≠b):some (a != b)=some true:=by rw [n_t h]
def qcW (h:a=b):some (a != b)=some false:=by rw [n_f h]
def q4b (h:p):pkP (.vl (.bool (@decide p i))) x y=some x:=by rw [decide_eq_true h]; rfl
def q4c (h:¬ p):pkP (.vl (.bool (@decide p i))) x y=some y:=by rw [decide_eq_false h]; rfl
def q4d (h:a=b):pkP (.vl (.bool (a == b))) x y=some x:=by rw [b_t h]; rfl
def q4e (h:a≠b):pkP (.vl (.bool (a == b))) x y=some y:=by rw [b_f h]; rfl
def q49 (h:a≠b):pkP (.vl (.bool (a != b))) x y=some x:=by rw [n_t h]; rfl
def q4a (h:a=b):pkP (.vl (.bool (a != b))) x y=some y:=by rw [n_f h]; rfl
end
end
end Go.E
namespace Go.Proofs.YtbjoghfmhgadkaaGreatDoor
open Go Go.E Go.Sp
def ac0 [NL] {f:FuncId} {fn:Func} {c:Code} {al:List PV} {r:PV} {n:Nat} (hf:Tryz.prog.funcs[f]?=some fn) (hn:fn.ntmps=n) (rs:List ResultVar) (hw:AW Tryz.prog q5i (λ_=>False) n c (retQ Tryz.prog rs r) (enP al) h0)
  (hb:fn.body=some c:=by rfl) (hr:fn.results.toList=rs:=by rfl) (hl:(decide (rs.length<=4))=true:=by rfl) (hd:(decide (al.length<=n) && q6x n c)=true:=by kernel_rfl) (hc:q0J Tryz.prog f=true:=by kernel_rfl):ACt f al r :=
 act hc hf hb hn hd (q7T (λx s h q=>rt hr hl q.2 q.1) hw)
def wk1 {G p q:Prop} (g:G) (k:q) (e:G→Hid q→p:=by
 intro g k
 repeat (first
  | (refine qgP fun K hK=>?_; simp -implicitDefEqProofs (maxSteps:=50000) (disch:=omega) only [go_sem,Nat.reduceEqDiff,Nat.reduceAdd,↓reduceIte,i64_in,Bool.not_true,Bool.not_false,List.length_range,Nat.zero_add,Int.reduceLT,Int.reduceEq,Int.natAbs_natCast,Bool.true_and,Bool.false_and,Bool.and_true,Bool.and_false,qcT,qcU,qcX,qcY,qcV,qcW,q4b,q4c,q4d,q4e,q49,q4a,g]; (repeat ((first | (apply q0T; focus (first | with_reducible assumption | (apply_assumption -exfalso -symm <;> first | assumption | omega | rfl | exact negN.symm | (simp only [Int.natAbs_natCast]; omega) | (apply_assumption -exfalso -symm <;> first | assumption | omega)))) | (apply q3p; (focus with_reducible assumption); (focus with_reducible assumption))); try simp -implicitDefEqProofs (maxSteps:=50000) (disch:=omega) only [go_sem,Nat.reduceEqDiff,Nat.reduceAdd,↓reduceIte,i64_in,Bool.not_true,Bool.not_false,List.length_range,Nat.zero_add,Int.reduceLT,Int.reduceEq,Int.natAbs_natCast,Bool.true_and,Bool.false_and,Bool.and_true,Bool.and_false,qcT,qcU,qcX,qcY,qcV,qcW,q4b,q4c,q4d,q4e,q49,q4a,g])); refine hK _ _ ?_; clear hK K)
  | (refine A_sdd q5m (by kernel_rfl) fun K hK=>?_; simp -implicitDefEqProofs (maxSteps:=50000) (disch:=omega) only [go_sem,Nat.reduceEqDiff,Nat.reduceAdd,↓reduceIte,i64_in,Bool.not_true,Bool.not_false,List.length_range,Nat.zero_add,Int.reduceLT,Int.reduceEq,Int.natAbs_natCast,Bool.true_and,Bool.false_and,Bool.and_true,Bool.and_false,qcT,qcU,qcX,qcY,qcV,qcW,q4b,q4c,q4d,q4e,q49,q4a,g]; (repeat ((first | (apply q0T; focus (first | with_reducible assumption | (apply_assumption -exfalso -symm <;> first | assumption | omega | rfl | exact negN.symm | (simp only [Int.natAbs_natCast]; omega) | (apply_assumption -exfalso -symm <;> first | assumption | omega)))) | (apply q3p; (focus with_reducible assumption); (focus with_reducible assumption))); try simp -implicitDefEqProofs (maxSteps:=50000) (disch:=omega) only [go_sem,Nat.reduceEqDiff,Nat.reduceAdd,↓reduceIte,i64_in,Bool.not_true,Bool.not_false,List.length_range,Nat.zero_add,Int.reduceLT,Int.reduceEq,Int.natAbs_natCast,Bool.true_and,Bool.false_and,Bool.and_true,Bool.and_false,qcT,qcU,qcX,qcY,qcV,qcW,q4b,q4c,q4d,q4e,q49,q4a,g])); refine ⟨qux (by kernel_rfl),hK _ _ ?_⟩; clear hK K)
  | (refine qlX fun K hK=>?_; simp -implicitDefEqProofs (maxSteps:=50000) (disch:=omega) only [go_sem,Nat.reduceEqDiff,Nat.reduceAdd,↓reduceIte,i64_in,Bool.not_true,Bool.not_false,List.length_range,Nat.zero_add,Int.reduceLT,Int.reduceEq,Int.natAbs_natCast,Bool.true_and,Bool.false_and,Bool.and_true,Bool.and_false,qcT,qcU,qcX,qcY,qcV,qcW,q4b,q4c,q4d,q4e,q49,q4a,g]; (repeat ((first | (apply q0T; focus (first | with_reducible assumption | (apply_assumption -exfalso -symm <;> first | assumption | omega | rfl | exact negN.symm | (simp only [Int.natAbs_natCast]; omega) | (apply_assumption -exfalso -symm <;> first | assumption | omega)))) | (apply q3p; (focus with_reducible assumption); (focus with_reducible assumption))); try simp -implicitDefEqProofs (maxSteps:=50000) (disch:=omega) only [go_sem,Nat.reduceEqDiff,Nat.reduceAdd,↓reduceIte,i64_in,Bool.not_true,Bool.not_false,List.length_range,Nat.zero_add,Int.reduceLT,Int.reduceEq,Int.natAbs_natCast,Bool.true_and,Bool.false_and,Bool.and_true,Bool.and_false,qcT,qcU,qcX,qcY,qcV,qcW,q4b,q4c,q4d,q4e,q49,q4a,g])); refine hK _ _ ?_; clear hK K)
  | (refine qlZ q5m (by kernel_rfl) fun K hK=>?_; simp -implicitDefEqProofs (maxSteps:=50000) (disch:=omega) only [go_sem,Nat.reduceEqDiff,Nat.reduceAdd,↓reduceIte,i64_in,Bool.not_true,Bool.not_false,List.length_range,Nat.zero_add,Int.reduceLT,Int.reduceEq,Int.natAbs_natCast,Bool.true_and,Bool.false_and,Bool.and_true,Bool.and_false,qcT,qcU,qcX,qcY,qcV,qcW,q4b,q4c,q4d,q4e,q49,q4a,g]; (repeat ((first | (apply q0T; focus (first | with_reducible assumption | (apply_assumption -exfalso -symm <;> first | assumption | omega | rfl | exact negN.symm | (simp only [Int.natAbs_natCast]; omega) | (apply_assumption -exfalso -symm <;> first | assumption | omega)))) | (apply q3p; (focus with_reducible assumption); (focus with_reducible assumption))); try simp -implicitDefEqProofs (maxSteps:=50000) (disch:=omega) only [go_sem,Nat.reduceEqDiff,Nat.reduceAdd,↓reduceIte,i64_in,Bool.not_true,Bool.not_false,List.length_range,Nat.zero_add,Int.reduceLT,Int.reduceEq,Int.natAbs_natCast,Bool.true_and,Bool.false_and,Bool.and_true,Bool.and_false,qcT,qcU,qcX,qcY,qcV,qcW,q4b,q4c,q4d,q4e,q49,q4a,g])); refine ⟨qux (by kernel_rfl),hK _ _ ?_⟩; clear hK K)
  | refine A_sqc ?_
  | refine A_sqb ?_
  | refine A_sql ?_
  | refine A_sqs ?_
  | refine qjN ?_
  | (refine A_t ?_ ?_; focus (simp -implicitDefEqProofs (disch:=omega) only [go_sem,Nat.reduceEqDiff,↓reduceIte,Bool.not_true,Bool.not_false,d_lt,quL,d_le,quM,b_t,b_f,n_t,n_f,g]; done))
  | (refine A_f ?_ ?_; focus (simp -implicitDefEqProofs (disch:=omega) only [go_sem,Nat.reduceEqDiff,↓reduceIte,Bool.not_true,Bool.not_false,d_lt,quL,d_le,quM,b_t,b_f,n_t,n_f,g]; done))
  | refine qpo ?_
  | refine qpp ?_
  | refine qxF ?_
  | refine q_n ?_
  | refine q_r ?_
  | refine q_e ?_
  | refine i_n ?_
  | refine i_r ?_
  | refine i_e ?_
  | refine i_o (by decide) ?_
  | (have t:True:=k.o; refine qrt ?_; simp -implicitDefEqProofs (maxSteps:=50000) (disch:=omega) only [go_sem,Nat.reduceEqDiff,Nat.reduceAdd,↓reduceIte,i64_in,Bool.not_true,Bool.not_false,List.length_range,Nat.zero_add,Int.reduceLT,Int.reduceEq,Int.natAbs_natCast,Bool.true_and,Bool.false_and,Bool.and_true,Bool.and_false,qcT,qcU,qcX,qcY,qcV,qcW,q4b,q4c,q4d,q4e,q49,q4a,g]; done)
  | (refine qrt ?_; simp -implicitDefEqProofs (maxSteps:=50000) (disch:=omega) only [go_sem,Nat.reduceEqDiff,Nat.reduceAdd,↓reduceIte,i64_in,Bool.not_true,Bool.not_false,List.length_range,Nat.zero_add,Int.reduceLT,Int.reduceEq,Int.natAbs_natCast,Bool.true_and,Bool.false_and,Bool.and_true,Bool.and_false,qcT,qcU,qcX,qcY,qcV,qcW,q4b,q4c,q4d,q4e,q49,q4a,g]; exact k.o)
  | (have t:True:=k.o; refine qrn ?_; simp -implicitDefEqProofs (maxSteps:=50000) (disch:=omega) only [go_sem,Nat.reduceEqDiff,Nat.reduceAdd,↓reduceIte,i64_in,Bool.not_true,Bool.not_false,List.length_range,Nat.zero_add,Int.reduceLT,Int.reduceEq,Int.natAbs_natCast,Bool.true_and,Bool.false_and,Bool.and_true,Bool.and_false,qcT,qcU,qcX,qcY,qcV,qcW,q4b,q4c,q4d,q4e,q49,q4a,g]; done)
  | (refine qrn ?_; simp -implicitDefEqProofs (maxSteps:=50000) (disch:=omega) only [go_sem,Nat.reduceEqDiff,Nat.reduceAdd,↓reduceIte,i64_in,Bool.not_true,Bool.not_false,List.length_range,Nat.zero_add,Int.reduceLT,Int.reduceEq,Int.natAbs_natCast,Bool.true_and,Bool.false_and,Bool.and_true,Bool.and_false,qcT,qcU,qcX,qcY,qcV,qcW,q4b,q4c,q4d,q4e,q49,q4a,g]; exact k.o))
 first | done | exact k.o):p:=e g ⟨k⟩
def wk {p q:Prop} (k:q) (e:Hid q->p:=by intro k; exact wk1 @Nat.zero_add k.o):p:=e ⟨k⟩
def fL (z:Int):Fam:=⟨λD v w=>∃ A n c,v=.slice A n c/\U32 w D A n c (lim z.natAbs),λk ⟨A,n,c,e,h⟩=>⟨A,n,c,e,h.kp k⟩,λk ⟨A,n,c,e,h⟩=>⟨A,n,c,e,h.sub k⟩⟩
def fitLz {z:Int}:∀ D v w,In (fL z) D v w->q2T none v:=λD v w h=>by
 obtain ⟨A,n,c,rfl,_⟩:=h;exact ⟨rfl,rfl,rfl⟩
def qtc {z:Int} {A:Prop}:q1U none (.fm (fL z)) A=A:=by simp only [q1U,q44,qbz]; exact propext ⟨λh=>h.2,λh=>⟨fitLz,h⟩⟩
abbrev bT (z:Int):PV:=.ag [bv (decide (z < 0)),.fm (fL z)]
abbrev dT (V:Int):PV:=.ag [bv false,bv (decide (od V < 0)),.fm (fL (od V)),iv (dyE V)]
section
variable {w:World} {D:Nat->Prop} {ρ:Nat->Option Nat} {h:Hp} {v:Value} {z V:Int}
def q3C:Rd w D (dT V) ρ h v/\q0Z V ↔ In (fV V) D v w:=by
 unfold dT
 constructor
 .rintro ⟨hr,ho⟩;unfold Rd at hr;obtain ⟨vs,rfl,h1⟩:=hr;obtain ⟨a,b,c,d,rfl,h2,h3,h4,h5⟩:=rd_4 h1;rw [qcZ h2,qcZ h3,qcZ h5];obtain ⟨A,n,c,rfl,h6⟩:=q8z h4;exact ⟨_,A,n,c,rfl,⟨rfl,h6⟩,ho⟩
 .rintro ⟨s,A,n,c,rfl,⟨h1,h2⟩,ho⟩;subst h1;refine ⟨?_,ho⟩;unfold Rd;refine ⟨_,rfl,?_⟩;unfold RdL;refine ⟨_,_,rfl,q7p,?_⟩;unfold RdL;refine ⟨_,_,rfl,q7p,?_⟩;unfold RdL;refine ⟨_,_,rfl,qdb ⟨A,n,c,rfl,h2⟩,?_⟩;unfold RdL;exact ⟨_,_,rfl,q7p,by unfold RdL; rfl⟩
end
def q6P {f:FuncId} {al al':List PV} {r:PV} {p:Prop} (hc:q0J Tryz.prog f=true) (h:∀ (D:Nat->Prop) (w:World) (vs:List Value),RdL w D al (λ_=>none) h0 vs->RdL w D al' (λ_=>none) h0 vs/\p) (ha:p->ACt f al' r):ACt f al r :=
 ⟨hc,λD w vs hT hF hR=>(ha (h D w vs hR).2).2 D w vs hT hF (h D w vs hR).1⟩
def qlH {f:FuncId} {al:List PV} {r r':PV} (h:∀ (D:Nat->Prop) (w:World) (v:Value),Rd w D r (λ_=>none) h0 v->Rd w D r' (λ_=>none) h0 v) (ha:ACt f al r):ACt f al r' :=
 ⟨ha.1,λD w vs hT hF hR=>(ha.2 D w vs hT hF hR).mono λx w' ⟨v,h1,h2,h3⟩=>⟨v,h1,h2,h _ _ _ h3⟩⟩
def qjD {f:FuncId} {V:Int} {r:PV} (hc:q0J Tryz.prog f=true) (ha:q0Z V->ACt f [dT V] r):ACt f [pV V] r:=q6P hc (λD w vs hR=>by
 obtain ⟨a,rfl,h1⟩:=qqC hR;obtain ⟨h2,h3⟩:=q3C.2 (q8z h1);exact ⟨RdL.one h2,h3⟩) ha
def qlI {f:FuncId} {V U:Int} {r:PV} (hc:q0J Tryz.prog f=true) (ha:q0Z V/\q0Z U->ACt f [dT V,dT U] r):ACt f [pV V,pV U] r:=q6P hc (λD w vs hR=>by
 obtain ⟨a,b,rfl,h1,h2⟩:=rd_2 hR;obtain ⟨h3,h4⟩:=q3C.2 (q8z h1);obtain ⟨h5,h6⟩:=q3C.2 (q8z h2);refine ⟨?_,h4,h6⟩;unfold RdL;exact ⟨_,_,rfl,h3,RdL.one h5⟩) ha
def nfL {τ:Nat->Option Nat} {h h':Hp} {z:Int} (hz:z=0):LeV τ h h' q05 (.fm (fL z))=True:=eq_true (.nilfm λD w=>by subst hz; exact ⟨none,0,0,rfl,U32.nil⟩)
def negN {n:Nat}:decide ((n:Int) < 0)=false:=decide_eq_false Oq
def ldU_5 {a b c d e:PV}:ldU (some 5) (some 2) 1 (.ag [a,b,c,d,e])=some (.ag [b,c]):=by simp [ldU]
attribute [go_sem] qtc nfL negN ldU_5
end Go.Proofs.YtbjoghfmhgadkaaGreatDoor
namespace Go.E
open Go Go.RowKit
def LeO [NL] {J:Nat->Prop} {h:Hp} {a n:Nat} {T:TypeId} {xs:List PV} (hJ:∀ i,¬ J i) (hb:h a=some ⟨T,none,xs,false⟩) (hc:ClL xs):Le J (λ_=>.ow a none 0 n) h (λ_=>.ow 5000 none 0 n) (q0P h0 5000 ⟨T,none,xs,false⟩):=by
 refine q4W (λi=>if i=5000 then some a else none) (λi b' hb'=>?_) (λi j k b c hi hj ti tj=>?_) (λ_=>.ow (if_pos rfl) q0H) λi hi=>(hJ i hi).elim
 .by_cases hi:i=5000
  .subst hi;rw [q0H] at hb'; cases hb';unfold LeB;exact ⟨_,hb,rfl,rfl,⟨rfl,rfl⟩,q0R rfl hc⟩
  .rw [q0A hi] at hb'; cases hb'
 .split at ti
  .split at tj
   .rename_i e1 e2; rw [e1,e2]
   .cases tj
  .cases ti
def qdp {b:Bk}:∀ i b',q0P h0 5000 b i=some b'->win i:=λi b' hb=>by
 by_cases hi:i=5000
 .subst hi; exact ⟨ω,ω⟩
 .rw [q0A hi] at hb; cases hb
def Wn_1 {h:Hp} {b:Bk} (h5:h 5000=some b) (hn:∀ i,5000 < i->i < 1000000->h i=none):Wn h (q0P h0 5000 b):=λi ⟨h1,h2⟩=>by
 by_cases hi:i=5000
 .subst hi; rw [q0H]; exact h5
 .rw [q0A hi]; exact hn i ω h2
def qwu {p:Nat->Prop} {x:PV} (h:q2z x):IdP p x:=by
 cases x <;> simp only [q2z] at h <;> unfold IdP <;> trivial
def qlQ {p:Nat->Prop} {l:List PV} (h:ClL l):IdL p l:=IdL.of λx hx=>by
 have:=h x hx;cases x
 case ag l =>
  unfold IdP;exact IdL.of λy hy=>qwu (this y hy)
 all_goals exact qwu this
end Go.E
namespace Go.Proofs.YtbjoghfmhgadkaaGreatDoor
open Go Go.E Go.Sp
def qb4 [NL] {f:FuncId} {al:List PV} {x y:PV} {ids:List Nat} {hout:Hp} (hM:ACm Tryz.prog q5i f al h0 x hout) (hi:∀ i ∈ ids,∃ b,hout i=some b) (hc:∀ (D0:Nat→Prop) (w0:Base) (s:Nat→PV) (ρ:Nat→Option Nat) (e:Env) (w:World) (v:Value),Sat D0 w0 s hout ρ e w→Rd w (dm D0 ρ hout) x ρ hout v→Rd w (fun k=>dm D0 ρ hout k∨∃ i ∈ ids,ρ i=some k) y (fun _=>none) h0 v):ACt f al y:=by
 refine ⟨hM.ca,fun D w vs hT hF hR=>?_⟩;have hlen:=hR.len;have hdm:dm D (fun _=>none) h0=D:=by
  funext k
  exact propext ⟨fun h=>h.1,fun h=>⟨h,fun i b hi=>by cases hi⟩⟩
 have S:Sat D ⟨w,fun k=>k < w.heap.size,fun _ _ _=>False,fun _ _=>False,fun _ h=>h,fun _ _ h=>h.elim⟩ (enP al) h0 (fun _=>none) (q4T vs) w:=by
  refine ⟨fun i j b c g hi=>(by cases hi),fun i b g hi=>(by cases hi),fun i b hi=>(by cases hi),fun t=>?_,Kp.refl _ _,hF,fun _ _ _ h=>h.elim,fun _ _ h=>h.elim⟩;rw [hdm];obtain ⟨h1,h2⟩:=RdL.iff.1 hR;unfold enP q4T;rw [List.getD_eq_getElem?_getD,List.getD_eq_getElem?_getD];cases ht:al[t]? with
  | none=>simp only [Option.getD_none]; unfold Rd; trivial
  | some x =>
   have hlt:=(List.getElem?_eq_some_iff.1 ht).1;have hv:=List.getElem?_eq_getElem (l:=vs) (show t < vs.length by omega);rw [hv];exact h2 t x _ ht hv
 refine (hM.run D ⟨w,fun k=>k < w.heap.size,fun _ _ _=>False,fun _ _=>False,fun _ h=>h,fun _ _ h=>h.elim⟩ _ w vs (fun w' hx=>qaD _ _ (hx.mono fun k hk _=>hk) hT) (fun _ _ h=>h.elim) hF Oq S).mono fun x w' ⟨v,ρ',hx,S',hr⟩=>?_;refine ⟨v,hx,S'.ext.mono fun k hk _=>hk,?_⟩;exact (hc _ _ _ _ _ _ _ S' hr).sub (D':=D) fun k _ hq=>by
  rcases hq with hq | ⟨i,hj,hg⟩
  .exact hq.1
  .obtain ⟨b,hb'⟩:=hi i hj;exact (S'.own i b k hb' hg).1.2
def qpu [NL] {f:FuncId} {al:List PV} {x y:PV} {ids:List Nat} {hout:Hp} (hM:ACm Tryz.prog q5i f al h0 x hout) (hc:q2d hout [x]=some ([y],ids)):ACt f al y :=
 qb4 hM (q4y hc) λ_ _ _ _ _ _ _ S hr=>(RdL.iff.1 (q99 S hc (RdL.one hr))).2 0 _ _ rfl rfl
def qjP [NL] {f:FuncId} {al l cl:List PV} {ids:List Nat} {hout:Hp} (hM:ACm Tryz.prog q5i f al h0 (.tu l) hout) (hc:q2d hout l=some (cl,ids)):ACt f al (.tu cl) :=
 qb4 hM (q4y hc) λ_ _ _ _ _ _ _ S hr=>by
  unfold Rd at hr ⊢;obtain ⟨us,hv,hr⟩:=hr;exact ⟨us,hv,q99 S hc hr⟩
abbrev AO [NL] (f:FuncId) (al:List PV) (T:TypeId) (xs:List PV):Prop:=ql2 f al h0 (.ow 5000 none 0 xs.length) (q0P h0 5000 ⟨T,none,xs,false⟩)
def retO (r:ResultVar) (T:TypeId) (xs:List PV):SQ:=λx s h=>(x=.ret\/x=.normal)/\∃ a,rsP Tryz.prog h s r=some (.ow a none 0 xs.length)/\h a=some ⟨T,none,xs,false⟩
def qsB {T t a m:Nat} {xs:List PV} {s:Nat->PV} {h:Hp} (h1:s t=.ow a none 0 m) (h2:h a=some ⟨T,none,xs,false⟩) (hm:m=xs.length):retO (.tmp t) T xs .ret s h:=⟨.inl rfl,a,by rw [<- hm,<- h1]; rfl,h2⟩
def ao0 [NL] {f:FuncId} {fn:Func} {c:Code} {al:List PV} {n T:Nat} {xs:List PV} (hf:Tryz.prog.funcs[f]?=some fn) (hn:fn.ntmps=n) (r:ResultVar) (hx:ClL xs) (hw:AW Tryz.prog q5i (λ_=>False) n c (retO r T xs) (enP al) h0)
  (hal:ClL al:=by simp [ClL,Cld,q2z]) (hb:fn.body=some c:=by rfl) (hr:fn.results.toList=[r]:=by rfl) (hd:(decide (al.length<=n) && q6x n c)=true:=by kernel_rfl) (hc:q0J Tryz.prog f=true:=by kernel_rfl):AO f al T xs:=by
 have hJ:(λi=>(h0:Hp) i≠none)=λ_=>False:=funext λi=>eq_false λh=>h rfl;refine qp8 hc hf hb hn hd (λi b h=>by cases h) qdp (qlQ hal) ?_;rw [hJ];refine q7T (λx s h q=>?_) hw;obtain ⟨q1,a,q2,q3⟩:=q;refine ⟨q1,by rw [hr]; simp,[.ow a none 0 xs.length],?_,?_⟩
 .rw [hr]; simp only [rsL,q2,xE,uT]
 .rw [hJ]; exact LeO (λ_ h=>h) q3 hx
def AO.ac [NL] {f:FuncId} {al:List PV} {T:TypeId} {xs:List PV} (h:AO f al T xs) (hx:ClL xs):ACt f al (.sl none xs):=qpu (ids:=[5000]) h (by
 have:clo (q0P h0 5000 ⟨T,none,xs,false⟩) (.ow 5000 none 0 xs.length)=some (.sl none xs,[5000]):=by
  simp only [clo,q3E];rw [q0H,xE,if_pos ⟨rfl,rfl,hx⟩,yC,List.take_length]
 simp only [q2d,this,xE,uT,List.append_nil])
abbrev AI [NL] (f:FuncId) (al:List PV) (T:TypeId) (xs:List PV) (y:PV) (ys:List PV):Prop:=ql2 f al (q0P h0 5000 ⟨T,none,xs,false⟩) y (q0P h0 5000 ⟨T,none,ys,false⟩)
def retI (rs:List ResultVar) (T:TypeId) (ys:List PV) (y:PV):SQ:=λx s h=>(x=.ret\/x=.normal)/\∃ l,rsL Tryz.prog h s rs=some l/\mkR l=y/\h 5000=some ⟨T,none,ys,false⟩
def qaT {T t:Nat} {ys:List PV} {y:PV} {s:Nat->PV} {h:Hp} (h1:s t=y) (h2:h 5000=some ⟨T,none,ys,false⟩):retI [.tmp t] T ys y .ret s h:=⟨.inl rfl,[y],by rw [<- h1]; rfl,rfl,h2⟩
def IdL_5 {xs:List PV} (hx:ClL xs) {T:TypeId}:∀ i b,q0P h0 5000 ⟨T,none,xs,false⟩ i=some b->win i/\b=⟨T,none,xs,false⟩:=λi b hb=>by
 by_cases hi:i=5000
 .subst hi; rw [q0H] at hb; cases hb; exact ⟨⟨ω,ω⟩,rfl⟩
 .rw [q0A hi] at hb; cases hb
def LeI [NL] {J:Nat->Prop} {h:Hp} {T:TypeId} {ys:List PV} {y:PV} (hb:h 5000=some ⟨T,none,ys,false⟩) (hc:ClL ys) (hy:Cld y):Le J (λ_=>y) h (λ_=>y) (q0P h0 5000 ⟨T,none,ys,false⟩):=by
 refine q4W some (λi b' hb'=>?_) (λi j k b c hi hj ti tj=>by cases ti; cases tj; rfl) (λ_=>.cl hy) λi _ _ _=>rfl
 by_cases hi:i=5000
 .subst hi;rw [q0H] at hb'; cases hb';exact ⟨_,hb,rfl,rfl,⟨rfl,rfl⟩,q0R rfl hc⟩
 .rw [q0A hi] at hb'; cases hb'
def ai0 [NL] {f:FuncId} {fn:Func} {c:Code} {al:List PV} {n T:Nat} {xs ys:List PV} {y:PV} (hf:Tryz.prog.funcs[f]?=some fn) (hn:fn.ntmps=n) (rs:List ResultVar) (hx:ClL xs) (hx':ClL ys) (hl:xs.length<=ys.length) (hw:AW Tryz.prog q5i (λi=>i=5000) n c (retI rs T ys y) (enP al) (q0P h0 5000 ⟨T,none,xs,false⟩))
  (hal:IdL win al:=by simp [IdL,IdP,win]) (hy:Cld y:=by simp [Cld,q2z]) (hb:fn.body=some c:=by rfl) (hr:fn.results.toList=rs:=by rfl) (hl4:(decide (rs.length<=4))=true:=by rfl) (hd:(decide (al.length<=n) && q6x n c)=true:=by kernel_rfl) (hc:q0J Tryz.prog f=true:=by kernel_rfl):AI f al T xs y ys:=by
 have hJ:(λi=>(q0P h0 5000 ⟨T,none,xs,false⟩:Hp) i≠none)=λi=>i=5000:=funext λi=>propext ⟨λh=>by
  obtain ⟨b,hb⟩:=zY.1 h;exact Classical.byContradiction λhi=>(by rw [q0A hi] at hb; cases hb),λh=>by subst h; rw [q0H]; exact z6 _⟩
 refine qp8 hc hf hb hn hd (λi b h=>?_) qdp hal ?_
 .obtain ⟨h1,rfl⟩:=IdL_5 hx i b h;have hi:i=5000:=Classical.byContradiction λhi=>by rw [q0A hi] at h; cases h
  subst hi;exact ⟨h1,rfl,qlQ hx,_,q0H,rfl,hl⟩
 rw [hJ];refine q7T (λx s h q=>?_) hw;obtain ⟨q1,l,q2,q3,q4⟩:=q;refine ⟨q1,by rw [hr]; simpa using hl4,l,by rw [hr]; exact q2,?_⟩;rw [q3];exact LeI q4 hx' hy
end Go.Proofs.YtbjoghfmhgadkaaGreatDoor
namespace Go.E
section
@[reducible] def lNL:NL:=⟨λ_=>true,λ_ _=>rfl⟩
def pe_fu {s:Nat->PV} {f:FuncId}:pe s (.func f)=.vl (.func (.func f) #[] #[]):=rfl
attribute [go_sem] pe_fu
section
variable {P:Program} {Tb:World->Prop} {J:Nat->Prop} {n id:Nat} {Q Q':SQ} {s:Nat->PV} {h:Hp}
def qjM [NL] {ι:Type} {a b:Code} (I:ι->Prop) (xs:ι->List (Nat × PV)) (bs:ι->List (Nat × Bk)) (hb:∀ i,I i->AW P Tb J n b Q (stM (xs i) []) (hpM (bs i) []))
  (ha:∀ K:(Nat->PV)->Hp->Prop,(∀ i s h,I i->Le J s h (stM (xs i) []) (hpM (bs i) [])->K s h)->AW P Tb J n a (thA K Q') s h):AW P Tb J n a (thA (AW P Tb J n b Q) Q') s h:=ha _ λi s h hi hl=>q1g hl (hb i hi)
def A_jx [NL] {ι:Type} {a b:Code} (I:ι->Prop) (xs:ι->List (Nat × PV)) (bs:ι->List (Nat × Bk)) (hb:∀ i,I i->AW P Tb J n b Q (stM (xs i) []) (hpM (bs i) []))
  (ha:∀ K:(Nat->PV)->Hp->Prop,(∀ i s h,I i->Le J s h (stM (xs i) []) (hpM (bs i) [])->K s h)->AW P Tb J n a (inA id (thA K Q')) s h):AW P Tb J n a (inA id (thA (AW P Tb J n b Q) Q')) s h:=ha _ λi s h hi hl=>q1g hl (hb i hi)
end
end
end Go.E
namespace Go.Proofs.YtbjoghfmhgadkaaGreatDoor
open Go Go.E Go.Sp
section
attribute [local instance] lNL
abbrev wv (z:Int):PV:=.vl (.int .u32 z)
abbrev pW (l:List Nat):PV:=.sl none (l.map λz:Nat=>wv z)
def lK32:elK Tryz.prog 40=some (142,none,4):=κ
def lZ32:elZ Tryz.prog 40=some (142,none,4,wv 0):=κ
def lBB:alB Tryz.prog 42=some ⟨42,some 2,[.ag [bv false,q05]],false⟩:=κ
def lfK {z:Int} {A:Prop}:q1U none (wv z) A=A:=by rw [qeu]; exact quw rfl
attribute [go_sem] lK32 lZ32 lBB lfK
section
variable {τ:Nat->Option Nat} {h h':Hp} {l m:List Nat} {x k n:Nat}
def inj_w:∀ a b:Nat,Value.int .u32 a=Value.int .u32 b->a=b:=λa b h=>by injection h with _ h; omega
def q9p:LeL τ h h' (l.map λz:Nat=>wv z) (m.map λz:Nat=>wv z)=(l=m):=q7P (f:=λz:Nat=>Value.int .u32 z) inj_w
def qw0:LeL τ h h' [] (m.map λz:Nat=>wv z)=([]=m):=q9p (l:=[])
def qw1:LeL τ h h' ((l.map λz:Nat=>wv z) ++ [wv x]) (m.map λz:Nat=>wv z)=(l ++ [x]=m):=by
 have:=q9p (τ:=τ) (h:=h) (h':=h') (l:=l ++ [x]) (m:=m)
 rwa [uN] at this
def qwY:LeL τ h h' ((l.map λz:Nat=>wv z).set k (wv x)) (m.map λz:Nat=>wv z)=(l.set k x=m):=by
 have:=q9p (τ:=τ) (h:=h) (h':=h') (l:=l.set k x) (m:=m)
 rwa [xM] at this
def qpg {j y:Nat}:LeL τ h h' (((l.map λz:Nat=>wv z).set k (wv x)).set j (wv y)) (m.map λz:Nat=>wv z)=((l.set k x).set j y=m):=by
 have:=q9p (τ:=τ) (h:=h) (h':=h') (l:=(l.set k x).set j y) (m:=m)
 rwa [xM,xM] at this
def qwZ:LeL τ h h' (List.replicate n (wv 0)) (m.map λz:Nat=>wv z)=(List.replicate n 0=m):=by
 have:=q9p (τ:=τ) (h:=h) (h':=h') (l:=List.replicate n 0) (m:=m)
 rwa [List.map_replicate] at this
def qpl:ClL []:=λ_ h=>by cases h
def clW:ClL (l.map λz:Nat=>wv z):=λx hx=>by
 obtain ⟨z,_,rfl⟩:=List.mem_map.1 hx; simp [Cld,q2z]
def tka {α β:Type} {f:α->β} {l:List α} {x:β}:(l.map f ++ [x]).take (l.length+1)=l.map f ++ [x]:=yL σ
attribute [go_sem] tka q9p qw0 qw1 qwY qpg qwZ
end
abbrev yT (s:Bool) (z:Int):PV:=.ag [bv s,pW (lim z.natAbs)]
abbrev zT (z:Int):PV:=yT (decide (z < 0)) z
def q3G {n:Nat} (h:bl n<=20000000):(lim n).length<=1000000000:=by rw [q8B]; omega
def q6J {n:Nat} (h:bl n<=20000000):(lim n).length<=700000:=by rw [q8B]; omega
def q7f {n:Nat}:sgn false n=n:=rfl
def q8t {a:Int}:sgn (!decide (a < 0)) a.natAbs = -a:=by by_cases h:a < 0 <;> simp [sgn,h] <;> omega
def qmO {l:List Nat} {m:Nat} (h:m<=l.length):slP (some 1) none (some (iv (m:Int))) (pW l)=some (pW (l.take m)):=by simp [slP,qbP,ksz,List.map_take]; omega
def slO_b {id m a b:Nat} (h1:a<=b) (h2:b<=m):slP (some 1) (some (iv (a:Int))) (some (iv (b:Int))) (.ow id none 0 m)=some (.ow id none a (b-a)):=by simp [slP,qbP,ksz]; omega
def slO_h {id m b:Nat} (h2:b<=m):slP (some 1) none (some (iv (b:Int))) (.ow id none 0 m)=some (.ow id none 0 b):=by simp [slP,qbP,ksz]; omega
def qqB {n k:Nat}:(List.replicate n 0).getD k 0=0:=by simp [zA,xV]; split <;> rfl
def ltk {l:List Nat} {i:Nat} (h:i<=l.length):(l.take i).length=i:=by rw [yN]; omega
def q1J {l:List Nat} {i:Nat} (h:i < l.length):l[i]?=some (l.getD i 0):=by rw [yJ h,q0k h]
end
section
attribute [local instance] lNL
def q1Q {l:List Nat} (ha:q0Y l) (hb:l.length<=1000000000):ACt 143 [pW l] (pW (lim (val l))):=by
 refine ac0 Tryz.func143 Tryz.ntmps143 [.tmp 2] ?_;refine wk ?_;refine A_jx (λm=>m<=l.length/\l.take m=lim (val l)) (λm:Nat=>[(0,pW l),(3,iv m)]) (λ_=>[]) ?_ λK fin=>?_
 .rintro m ⟨hm,ht⟩;refine wk ?_;refine q0B (λi=>i<=m) [0,3] [] Lk Lk (λi:Nat=>[(5,iv i),(4,.ow 1001 none 0 i)]) (λi=>[(1001,⟨142,none,(l.take i).map λz:Nat=>wv z,false⟩)]) (λi=>m-i) 0 (zE _) ?_ ?_
  .refine LeM [(1001,none)] rfl rfl ?_;refine Zz ?_
   rfl
  .intro i hi;have e2:=ltk (l:=l) (i:=i) Oq;refine wk ?_
   by_cases hlt:i < m
   .have hlt':(i:Int) < m:=ω
    have e1:=q1J (l:=l) (i:=i) Oq;refine wk1 (x3 hlt' e1 e2) ?_;refine ⟨i+1,ω,ω,?_⟩;refine LeM [(1001,some 31)] rfl rfl ?_;refine Zz ?_;exact ⟨ω,(q2K _ _ Oq).symm⟩
   .have hlt':¬ (i:Int) < m:=ω
    obtain rfl:i=m:=ω
    refine wk1 hlt' ?_;rw [ht]
 refine q0B (λn=>n<=l.length/\∀ i,n<=i->i < l.length->l.getD i 0=0) [0] [] Lk Lk (λn:Nat=>[(3,iv n)]) (λ_=>[]) (λn=>n) l.length ⟨z7 _,ω⟩ ?_ ?_
 .refine LeM [] rfl rfl ?_;exact Zy
 .rintro n ⟨hn,hz⟩;refine wk ?_
  rcases zK n with h0 | h0
  .subst h0;refine wk ?_;refine fin 0 _ _ ⟨ω,q6X ha hn hz (.inl rfl)⟩ ?_;refine LeM [] rfl rfl ?_;exact Zy
  .have e1:=q1J (l:=l) (i:=n-1) Oq;have e2:(n:Int)-1=(n-1:Nat):=ω
   have e3:(0:Int) < n:=ω
   by_cases hd:l.getD (n-1) 0=0
   .have q:((l.getD (n-1) 0:Nat):Int)=0:=ω
    refine wk1 (x4 e1 e2 e3 q) ?_;refine ⟨n-1,⟨ω,λi h1 h2=>?_⟩,ω,?_⟩
    .by_cases hi:i=n-1
     .rw [hi]; exact hd
     .exact hz i Oq h2
    .refine LeM [] rfl rfl ?_;exact Zy
   .have q:((l.getD (n-1) 0:Nat):Int)≠0:=ω
    refine wk1 (x4 e1 e2 e3 q) ?_;refine fin n _ _ ⟨hn,q6X ha hn hz (.inr hd)⟩ ?_;refine LeM [] rfl rfl ?_;exact Zy
def q1T {s:Bool} {l:List Nat} (ha:q0Y l) (hb:l.length<=1000000000):ACt 134 [bv s,pW l] (zT (sgn s (val l))):=by
 have C1:=@q1Q;have hp:=@q0K (val l);rw [zT,yT,q8u,q0h];refine ac0 Tryz.func134 Tryz.ntmps134 [.cell 4 42] ?_;cases s
 .exact wk trivial
 .by_cases h0:val l=0
  .have q:¬ ((0:Int) < (lim (val l)).length):=ω
   have q2:decide (0 < val l)=false:=decide_eq_false Oq;rw [q2];exact wk1 q trivial
  .have q:(0:Int) < (lim (val l)).length:=ω
   have q2:decide (0 < val l)=true:=decide_eq_true Oq;rw [q2];exact wk1 q trivial
section
variable {a b:Int} {s t:Bool}
def q36 (hs:s=decide (a < 0)) (ha:bl a.natAbs<=20000000):ACt 139 [yT s a] (zT a):=by
 have C1:=@q1T s _ (q0C a.natAbs) (q3G ha);rw [q0D,hs,q07] at C1;subst hs;refine ac0 Tryz.func139 Tryz.ntmps139 [.cell 2 42] ?_;exact wk trivial
def q6e (ha:bl a.natAbs<=20000000):ACt 76 [yT s a] (zT a.natAbs):=by
 have C1:=@q1T false _ (q0C a.natAbs) (q3G ha);rw [q0D,q7f] at C1;refine ac0 Tryz.func76 Tryz.ntmps76 [.cell 2 42] ?_;exact wk trivial
def qaV (hs:s=decide (a < 0)) (ha:bl a.natAbs<=20000000):ACt 105 [yT s a] (zT (-a)):=by
 have C1:=@q1T (!s) _ (q0C a.natAbs) (q3G ha);rw [q0D,hs,q8t] at C1;subst hs;refine ac0 Tryz.func105 Tryz.ntmps105 [.cell 2 42] ?_;exact wk trivial
def qdd (hs:s=decide (a < 0)) (ha:bl a.natAbs<=20000000):ACt 106 [yT s a] (iv a.sign):=by
 have C1:=q36 hs ha;have hp:=@q0K a.natAbs;subst hs
 rcases xS a 0 with h | h | h
 .have q1:¬ (((lim a.natAbs).length:Int)=0):=ω
  have q2:decide (a < 0)=true:=decide_eq_true h;rw [uK h];rw [q2] at C1 ⊢;refine ac0 Tryz.func106 Tryz.ntmps106 [.tmp 2] ?_;exact wk1 q1 trivial
 .subst h;rw [show Int.sign 0=0 from rfl];refine ac0 Tryz.func106 Tryz.ntmps106 [.tmp 2] ?_;exact wk trivial
 .have q1:¬ (((lim a.natAbs).length:Int)=0):=ω
  have q2:decide (a < 0)=false:=decide_eq_false Oq;rw [zM h];rw [q2] at C1 ⊢;refine ac0 Tryz.func106 Tryz.ntmps106 [.tmp 2] ?_;exact wk1 q1 trivial
end
end
end Go.Proofs.YtbjoghfmhgadkaaGreatDoor
namespace Go.Sp
open Go.E
section
def dgs:Nat->Nat->List Nat
 | 0,_=>[]
 | n+1,X=>X % B :: dgs n (X / B)
def q0x:∀ {n X:Nat},(dgs n X).length=n
 | 0,_=>rfl
 | n+1,X=>by rw [dgs,xF,q0x]
def q1q:∀ {n X:Nat},q0Y (dgs n X)
 | 0,_=>q0Y.nil
 | n+1,X=>λd hd=>by
  rcases xT.1 hd with rfl | hd
  .exact zF _ q1A
  .exact q1q d hd
def q3l:∀ {o:List Nat} {n X:Nat},q0Y o->o.length=n->val o=X->o=dgs n X
 | [],n,X,_,hn,_=>by subst hn; rfl
 | d :: o,n,X,ha,hn,hv=>by
  subst hn; subst hv;have hd:=ha d yP;have e1:val (d :: o)=d+B*val o:=rfl;rw [xF,dgs,e1,y6,zB hd,xH _ _ q1A,yO hd,zH,<- q3l (λx hx=>ha x (yR _ hx)) rfl rfl]
def qaz:∀ {n k X:Nat},k<=n->(dgs n X).take k=dgs k X
 | _,0,_,_=>by rw [xB]; rfl
 | n+1,k+1,X,h=>by rw [dgs,y7,qaz ω]; rfl
def q1p : ∀ {n X : Nat}, X < B ^ n -> val (dgs n X) = X
  | 0, X, h => by have : X = 0 := by simpa using h
                  subst this; rfl
  | n + 1, X, h => by
    have h1 : X / B < B ^ n := by rw [yW q1A, <- xN]; exact h
    show X % B + B * val (dgs n (X / B)) = X
    rw [q1p h1, wC]
end
end Go.Sp
namespace Go.Proofs.YtbjoghfmhgadkaaGreatDoor
open Go Go.E Go.Sp
section
attribute [local instance] lNL
def qfw {l l':List Nat} (ha:q0Y l) (ha':q0Y l') (hb:l.length<=1000000000) (hb':l'.length<=1000000000):ACt 144 [pW l,pW l'] (pW (dgs (max l.length l'.length+1) (val l+val l'))):=by
 refine ac0 Tryz.func144 Tryz.ntmps144 [.tmp 4] ?_;refine wk ?_;refine q0B (λp:Nat × Nat × List Nat=>p.1<=max l.length l'.length/\p.2.1<=1/\q0Y p.2.2/\p.2.2.length=p.1/\val p.2.2+B ^ p.1*p.2.1=val (l.take p.1)+val (l'.take p.1)) [0,1] [] Lk Lk (λp=>[(7,iv p.1),(6,uv p.2.1),(5,.ow 1001 none 0 p.1)]) (λp=>[(1001,⟨142,none,p.2.2.map λz:Nat=>wv z,false⟩)]) (λp=>max l.length l'.length-p.1) (0,0,[]) ⟨zE _,zE _,.nil,rfl,by simp [val]⟩ ?_ ?_
 .refine LeM [(1001,none)] rfl rfl ?_;refine Zz ?_
  rfl
 .rintro ⟨k,cr,o⟩ ⟨hk,hc,ho,hl,hv⟩;simp only at hk hc ho hl hv;refine wk ?_;have hd:=ha.get k;have hd':=ha'.get k;unfold B at hd hd'
  by_cases hlt:k < max l.length l'.length
  .have hlt':(k:Int) < max (l.length:Int) l'.length:=ω
   have key:∀ c,c=cr+l.getD k 0+l'.getD k 0->k+1<=max l.length l'.length/\c / 4294967296<=1/\q0Y (o ++ [c % 4294967296])/\(o ++ [c % 4294967296]).length=k+1/\val (o ++ [c % 4294967296])+B ^ (k+1)*(c / 4294967296)=val (l.take (k+1))+val (l'.take (k+1)):=λc e=>⟨ω,ω,ho.snoc (zF _ q1A),by simp [hl],by
    have:=q7K (x:=l.getD k 0) (y:=l'.getD k 0) hl hv;rw [<- e] at this;rw [vts,vts];unfold B at this ⊢;omega⟩
   rcases yI k l.length with h1 | h1 <;> rcases yI k l'.length with h2 | h2
   .have q1:(k:Int) < l.length:=ω
    have q2:(k:Int) < l'.length:=ω
    refine wk1 (x6 hlt' q1 q2 (q1J h1) (q1J h2) hl) ?_;refine ⟨(k+1,_,_),key (cr+l.getD k 0+l'.getD k 0) ω,by simp only; omega,?_⟩;refine LeM [(1001,some 43)] rfl rfl ?_;refine Zz ?_;omega
   .have q1:(k:Int) < l.length:=ω
    have q2:¬ (k:Int) < l'.length:=ω
    refine wk1 (x5 hlt' q1 q2 (q1J h1) hl) ?_;refine ⟨(k+1,_,_),key (cr+l.getD k 0) (by rw [q4h h2]; omega),by simp only; omega,?_⟩;refine LeM [(1001,some 43)] rfl rfl ?_;refine Zz ?_;omega
   .have q1:¬ (k:Int) < l.length:=ω
    have q2:(k:Int) < l'.length:=ω
    refine wk1 (x5 hlt' q1 q2 (q1J h2) hl) ?_;refine ⟨(k+1,_,_),key (cr+l'.getD k 0) (by rw [q4h h1]; omega),by simp only; omega,?_⟩;refine LeM [(1001,some 43)] rfl rfl ?_;refine Zz ?_;omega
   .omega
  .have hlt':¬ (k:Int) < max (l.length:Int) l'.length:=ω
   subst hl;refine wk1 hlt' ?_;rw [<- q3l (n:=max l.length l'.length+1) (ho.snoc (zF cr q1A)) (by simp; omega) (by rw [q2U,zB (by unfold B; omega),hv,q0F l _ ω,q0F l' _ ω]),uN]
   rfl
def q7c {l l':List Nat} (ha:q0Y l) (ha':q0Y l') (hb:l.length<=1000000000) (hn:l'.length<=l.length) (hle:val l'<=val l):ACt 146 [pW l,pW l'] (pW (dgs l.length (val l-val l'))):=by
 refine ac0 Tryz.func146 Tryz.ntmps146 [.tmp 4] ?_;refine wk ?_;refine q0B (λp:Nat × Nat × List Nat=>p.1<=l.length/\p.2.1<=1/\q0Y p.2.2/\p.2.2.length=p.1/\val p.2.2+val (l'.take p.1)=val (l.take p.1)+B ^ p.1*p.2.1) [0,1] [] Lk Lk (λp=>[(7,iv p.1),(6,uv p.2.1),(5,.ow 1001 none 0 p.1)]) (λp=>[(1001,⟨142,none,p.2.2.map λz:Nat=>wv z,false⟩)]) (λp=>l.length-p.1) (0,0,[]) ⟨zE _,zE _,.nil,rfl,by simp [val]⟩ ?_ ?_
 .refine LeM [(1001,none)] rfl rfl ?_;refine Zz ?_
  rfl
 .rintro ⟨k,br,o⟩ ⟨hk,hc,ho,hl,hv⟩;simp only at hk hc ho hl hv;refine wk ?_;have hd:=ha.get k;have hd':=ha'.get k;unfold B at hd hd'
  by_cases hlt:k < l.length
  .have hlt':(k:Int) < l.length:=ω
   have key:∀ t,t=((l.getD k 0+(18446744073709551616-br)) % 18446744073709551616+(18446744073709551616-l'.getD k 0)) % 18446744073709551616->k+1<=l.length/\t / 9223372036854775808<=1/\q0Y (o ++ [t % 4294967296])/\(o ++ [t % 4294967296]).length=k+1/\val (o ++ [t % 4294967296])+val (l'.take (k+1))=val (l.take (k+1))+B ^ (k+1)*(t / 9223372036854775808):=λt e=>by
    have:=qaH hl hv hc hd hd' e;exact ⟨ω,this.2,ho.snoc (zF _ q1A),by simp [hl],by rw [vts,vts]; exact this.1⟩
   rcases yI k l'.length with h2 | h2
   .have q2:(k:Int) < l'.length:=ω
    refine wk1 (x6 hlt' q2 (q1J hlt) (q1J h2) hl @q40) ?_;refine ⟨(k+1,_,_),key _ rfl,by simp only; omega,?_⟩;refine LeM [(1001,some 37)] rfl rfl ?_;refine Zz ?_;omega
   .have q2:¬ (k:Int) < l'.length:=ω
    refine wk1 (x5 hlt' q2 (q1J hlt) hl @q40) ?_;refine ⟨(k+1,_,_),key ((l.getD k 0+(18446744073709551616-br)) % 18446744073709551616) (by rw [q4h h2]; omega),by simp only; omega,?_⟩;refine LeM [(1001,some 37)] rfl rfl ?_;refine Zz ?_;omega
  .have hlt':¬ (k:Int) < l.length:=ω
   obtain rfl:k=l.length:=ω
   refine wk1 hlt' ?_;rw [q0F l _ ω,q0F l' _ ω] at hv;have hlt2:=q12 ho;rw [hl] at hlt2;have h0:br=0:=by
    rcases zK br with h0 | h0
    .exact h0
    .have:br=1:=ω
     rw [this] at hv; omega
   rw [h0] at hv;rw [<- q3l ho hl ω]
def q8S {x y:Nat} (hb:(lim x).length<=1000000000) (hb':(lim y).length<=1000000000):ACt 145 [pW (lim x),pW (lim y)] (iv (q2c x y)):=by
 refine ac0 Tryz.func145 Tryz.ntmps145 [.tmp 4] ?_
 by_cases hne:(lim x).length=(lim y).length
 .have q:((lim x).length:Int)=(lim y).length:=ω
  refine wk1 q ?_;refine q0B (λk=>k<=(lim x).length/\(lim x).drop k=(lim y).drop k) [0,1] [] Lk Lk (λk:Nat=>[(5,iv ((k:Int)-1))]) (λ_=>[]) (λk=>k) (lim x).length ⟨z7 _,by rw [zN ω,zN ω]⟩ ?_ ?_
  .refine LeM [] rfl rfl ?_;refine Zz ?_;omega
  .rintro k ⟨hk,hdr⟩
   rcases zK k with h0 | h0
   .subst h0;have c:q2c x y=0:=by
     have:=congrArg val hdr;simp only [yC,q0D] at this;simp [q2c,this]
    have q1:¬ (0:Int)<=((0:Nat):Int)-1:=ω
    exact wk1 (x2 q1 c) trivial
   .have e2:(k:Int)-1=(k-1:Nat):=ω
    have e1:=q1J (l:=lim x) (i:=k-1) Oq;have e1':=q1J (l:=lim y) (i:=k-1) Oq;have tops:∀ {a b:Nat},(lim a).length=(lim b).length->k<=(lim a).length->(lim a).drop k=(lim b).drop k->(lim a).getD (k-1) 0 < (lim b).getD (k-1) 0->a < b:=λ{a b} h1 h2 h3 h4=>by
     have:=q3Z (i:=k-1) (q0C a) h1 ω (by rw [show k-1+1=k by omega]; exact h3) h4;simpa [q0D] using this
    rcases Nat.lt_trichotomy ((lim x).getD (k-1) 0) ((lim y).getD (k-1) 0) with h | h | h
    .have c:q2c x y = -1:=by have:=tops hne hk hdr h; simp [q2c,this]
     have q2:(((lim x).getD (k-1) 0:Nat):Int) < (lim y).getD (k-1) 0:=ω
     exact wk1 (x5 e2 e1 e1' q2 c) trivial
    .refine wk1 (x4 e2 e1 e1' h) ?_;refine ⟨k-1,⟨ω,?_⟩,ω,?_⟩
     .rw [yH (l:=lim x) (i:=k-1) ω,yH (l:=lim y) (i:=k-1) ω,show k-1+1=k by omega,hdr];rw [q0k ω,q0k ω] at h;rw [h]
     .refine LeM [] rfl rfl ?_;exact Zy
    .have c:q2c x y=1:=by have:=tops hne.symm ω hdr.symm h; simp [q2c,show ¬ x < y by omega,show ¬ x=y by omega]
     have q2:¬ (((lim x).getD (k-1) 0:Nat):Int) < (lim y).getD (k-1) 0:=ω
     exact wk1 (x5 e2 e1 e1' q2 c) trivial
 .rcases yI (lim x).length (lim y).length with h | h
  .have q2:((lim x).length:Int) < (lim y).length:=ω
   have c:q2c x y = -1:=by have:=q2B h; simp [q2c,this]
   exact wk1 (x2 q2 c) trivial
  .have q2:¬ ((lim x).length:Int) < (lim y).length:=ω
   have c:q2c x y=1:=by have:=q2B (m:=y) (n:=x) ω; simp [q2c,show ¬ x < y by omega,show ¬ x=y by omega]
   exact wk1 (x2 q2 c) trivial
end
section
attribute [local instance] lNL
def qeA {x y n n':Nat} (hn:(lim x).length=n) (hn':(lim y).length=n') (hb:n<=400000000) (hb':n'<=400000000):ACt 148 [pW (lim x),pW (lim y)] (pW (dgs (n+n') (x*y))):=by
 have hs:(n:Int)+(n':Int)=((n+n':Nat):Int):=ω
 refine ac0 Tryz.func148 Tryz.ntmps148 [.tmp 4] ?_;refine wk1 (x3 hn hn' hs) ?_;refine q0B (λp:Nat × List Nat=>p.1<=n/\q0Y p.2/\p.2.length=n+n'/\val p.2=val ((lim x).take p.1)*y/\∀ q,p.1+n'<=q->p.2.getD q 0=0) [0,1] [] Lk Lk (λp=>[(6,iv p.1),(5,.ow 1001 none 0 (n+n'))]) (λp=>[(1001,⟨142,none,p.2.map λz:Nat=>wv z,false⟩)]) (λp=>n-p.1) (0,List.replicate (n+n') 0) ⟨zE _,q0Y.replicate _,σ,by simp [val,q11],λq _=>by simp [zA,xV]; split <;> rfl⟩ ?_ ?_
 .refine LeM [(1001,some 14)] rfl rfl ?_;refine Zz ?_
  rfl
 .rintro ⟨i,o⟩ ⟨hi,ho,hl,hv,hz⟩;simp only at hi ho hl hv hz;have hd1:=(q0C x).get i
  by_cases hlt:i < n
  .have hlt':(i:Int) < n:=ω
   refine wk1 (x2 hlt' hn) ?_;refine q0B (λp:Nat × Nat × List Nat=>p.1<=n'/\p.2.1 < 4294967296/\q0Y p.2.2/\p.2.2.length=n+n'/\val p.2.2+B ^ (i+p.1)*p.2.1=val ((lim x).take i)*y+B ^ i*((lim x).getD i 0*val ((lim y).take p.1))/\∀ q,i+n'<=q->p.2.2.getD q 0=0) [0,1,5,6] [] Lk Lk (λp=>[(8,iv p.1),(7,uv p.2.1)]) (λp=>[(1001,⟨142,none,p.2.2.map λz:Nat=>wv z,false⟩)]) (λp=>n'-p.1) (0,0,o) ⟨zE _,σ,ho,hl,by simp [hv,val],hz⟩ ?_ ?_
   .refine LeM [] rfl rfl ?_;refine Zz ?_
    rfl
   .clear hv hz hl ho;rintro ⟨j,cr,u⟩ ⟨hj,hc,ho,hl,hv,hz⟩;simp only at hj hc ho hl hv hz;have hd2:=(q0C y).get j
    by_cases hjt:j < n'
    .have hjt':(j:Int) < n':=ω
     obtain ⟨q,hq⟩:∃ q,q=i+j:=⟨_,rfl⟩;have e1:(i:Int)+(j:Int)=(q:Int):=ω
     have hd3:=ho.get q;have hbd:=q7t hc hd1 hd2 hd3;unfold B at hd1 hd2 hd3;rw [<- hq] at hv;have key:∀ c,c=cr+(lim x).getD i 0*(lim y).getD j 0+u.getD q 0->j+1<=n'/\c / 4294967296 < 4294967296/\q0Y (u.set q (c % 4294967296))/\(u.set q (c % 4294967296)).length=n+n'/\val (u.set q (c % 4294967296))+B ^ (i+(j+1))*(c / 4294967296)=val ((lim x).take i)*y+B ^ i*((lim x).getD i 0*val ((lim y).take (j+1)))/\∀ r,i+n'<=r->(u.set q (c % 4294967296)).getD r 0=0:=λc e=>by
      have key:=qa8 (x:=(lim x).getD i 0) (y:=(lim y).getD j 0) (by omega:q < u.length) hv;rw [<- e] at key;refine ⟨ω,ω,ho.set _ _ (zF _ q1A),by simp [hl],?_,λr hr=>by rw [q0j ω]; exact hz r hr⟩;rw [<- xG,<- hq,vts];refine key.trans ?_;rw [hq,zW,yE,yE,xG]
      congr 2
      rw [zV,xC (B ^ j)]
     refine wk1 (x6 hjt' hn' e1 (q1J (l:=lim x) (i:=i) Oq) (q1J (l:=lim y) (i:=j) Oq) (x2 (q1J (l:=u) (i:=q) Oq) hl)) ?_;refine ⟨(j+1,_,_),key _ rfl,by simp only; omega,?_⟩;refine LeM [] rfl rfl ?_;refine Zz ?_;omega
    .have hjt':¬ (j:Int) < n':=ω
     obtain rfl:j=n':=ω
     have e1:(i:Int)+(j:Int)=((i+j:Nat):Int):=ω
     refine wk1 (x5 hjt' hn' e1 hl (zB hc)) ?_;refine ⟨(i+1,u.set (i+j) cr),⟨ω,ho.set _ _ hc,by simp [hl],?_,?_⟩,by simp only; omega,?_⟩
     rotate_left 2
     .refine LeM [] rfl rfl ?_;refine Zz ?_;omega
     .have h1:=q3K (o:=u) (p:=i+j) cr Oq;rw [hz (i+j) ω,yM,z9] at h1;rw [q0F (lim y) _ ω,q0D] at hv;rw [h1,hv,vts,yV,zV]
     .intro r hr;rw [q0j ω]; exact hz r ω
  .have hlt':¬ (i:Int) < n:=ω
   obtain rfl:i=n:=ω
   rw [q0F _ _ ω,q0D] at hv;refine wk1 (x2 hlt' hn) ?_;rw [<- q3l ho hl hv]
def qra {x n m:Nat} (hn:(lim x).length=n) (hb:n<=1000000000) (hm:m<=1000000000):AO 185 [pW (lim x),iv m] 142 ((dgs (m / 32+n+1) (x*2 ^ m)).map λz:Nat=>wv z):=by
 obtain ⟨w,hw⟩:∃ w,m / 32=w:=⟨_,rfl⟩;obtain ⟨p,hp⟩:∃ p,m % 32=p:=⟨_,rfl⟩;have hp31:p < 32:=ω
 have hpp:2 ^ p<=2147483648:=zI (n:=2) Oq (show p<=31 by omega);have hmm:32*w+p=m:=by rw [<- hw,<- hp]; exact uP m 32
 rw [hw];refine ao0 Tryz.func185 Tryz.ntmps185 (.tmp 4) clW ?_;refine wk1 hw ?_;refine q0B (λq:Nat × Nat × List Nat=>q.1<=n/\q.2.1 < 2 ^ p/\q0Y q.2.2/\q.2.2.length=w+q.1/\val q.2.2+B ^ (w+q.1)*q.2.1=2 ^ p*(B ^ w*val ((lim x).take q.1))) [0,1] [] Lk Lk (λq=>[(7,iv q.1),(6,uv q.2.1),(5,.ow 1001 none 0 (w+q.1))]) (λq=>[(1001,⟨142,none,q.2.2.map λz:Nat=>wv z,false⟩)]) (λq=>n-q.1) (0,0,List.replicate w 0) ⟨zE _,q0E p,q0Y.replicate _,σ,by simp [val,q11]⟩ ?_ ?_
 .refine LeM [(1001,some 10)] rfl rfl ?_;refine Zz ?_
  rfl
 .rintro ⟨k,cr,u⟩ ⟨hk,hc,ho,hl,hv⟩;simp only at hk hc ho hl hv;have hd:=(q0C x).get k;unfold B at hd
  by_cases hlt:k < n
  .have hlt':(k:Int) < n:=ω
   have hpr:(lim x).getD k 0*2 ^ p<=4294967295*2147483648:=yS Oq hpp;have e3:(lim x).getD k 0*2 ^ p % 18446744073709551616=(lim x).getD k 0*2 ^ p:=zB Oq;have e4:cr ||| (lim x).getD k 0*2 ^ p=cr+(lim x).getD k 0*2 ^ p:=q1z hc;have key:=qgo (x:=(lim x).getD k 0) hl hv;rw [show B ^ (w+k)=B ^ w*B ^ k from zW _ _ _,zV,<- yE,<- vts] at key;refine wk1 (x6 hlt' hn (q1J (l:=lim x) (i:=k) Oq) hp e3 (x2 e4 hl)) ?_;refine ⟨(k+1,_,_),⟨ω,?_,ho.snoc (zF (cr+(lim x).getD k 0*2 ^ p) q1A),by simp [hl]; omega,key⟩,by simp only; omega,?_⟩
   .show _ / 4294967296 < _
    rw [yW ω];have:((lim x).getD k 0+1)*2 ^ p<=4294967296*2 ^ p:=zQ _ Oq;rw [yV,xI] at this;rw [zD _ 4294967296];omega
   .refine LeM [(1001,some 31)] rfl rfl ?_;refine Zz ?_;exact ⟨ω,rfl⟩
  .have hlt':¬ (k:Int) < n:=ω
   obtain rfl:k=n:=ω
   rw [q0F _ _ ω,q0D] at hv;refine wk1 (x3 hlt' hn hl) ?_;refine qsB (a:=38) rfl ?_ (by simp [q0x,hl]);rw [<- q3l (o:=u ++ [cr % 4294967296]) (n:=w+k+1) (ho.snoc (zF cr q1A)) (by simp [hl]) (by rw [q2U,zB ω,hl,hv,q9r,<- yZ,<- zV,<- zW,zD,show p+32*w=m by omega])];simp [q0P]
def qjl {x n m:Nat} (hn:(lim x).length=n) (hb:n<=1000000000) (hm:m<=1000000000):ACt 185 [pW (lim x),iv m] (pW (dgs (m / 32+n+1) (x*2 ^ m))):=(qra hn hb hm).ac clW
def qdR {l:List Nat} {n m:Nat} (ha:q0Y l) (hn:l.length=n) (hb:n<=1000000000) (hm:m<=1000000000000):ACt 186 [pW l,iv m] (.tu [pW (dgs (n-m / 32) (val l / 2 ^ m)),bv (decide (val l % 2 ^ m≠0))]):=by
 obtain ⟨w,hw⟩:∃ w,m / 32=w:=⟨_,rfl⟩;obtain ⟨p,hp⟩:∃ p,m % 32=p:=⟨_,rfl⟩;have hp31:p < 32:=ω
 have hpp:2 ^ p<=2147483648:=zI (n:=2) Oq (show p<=31 by omega);have hp0:=q0E p;have hmm:32*w+p=m:=by rw [<- hw,<- hp]; exact uP m 32
 have hlo:=qad ha w p Oq;have hla:=qae ha w p;rw [hmm] at hlo hla;rw [hw];refine ac0 Tryz.func186 Tryz.ntmps186 [.tmp 4,.tmp 5] ?_;refine wk ?_;refine A_jx (λ_:Unit=>True) (λ_=>[(0,pW l),(1,iv m),(6,bv (decide (val (l.take w)≠0)))]) (λ_=>[]) (λ_ _=>?_) λK fin=>?_
 .refine wk1 (x2 hw hp) ?_;refine q0B (λq:Nat × List Nat=>(q.1=0\/w+q.1<=n)/\q0Y q.2/\q.2.length=q.1/\val q.2+B ^ q.1*(val (l.drop (w+q.1)) / 2 ^ p)=val (l.drop w) / 2 ^ p) [0,1,9] [] Lk Lk (λq=>[(10,iv (w+q.1:Nat)),(8,.ow 1001 none 0 q.1),(6,bv (if q.1=0 then decide (val (l.take w)≠0) else decide (val l % 2 ^ m≠0)))]) (λq=>[(1001,⟨142,none,q.2.map λz:Nat=>wv z,false⟩)]) (λq=>n-(w+q.1)) (0,[]) ⟨.inl rfl,.nil,rfl,by simp [val]⟩ ?_ ?_
  .refine LeM [(1001,none)] rfl rfl ?_;exact Zy
  .rintro ⟨j,o⟩ ⟨hj,ho,hl,hv⟩;simp only at hj ho hl hv;obtain ⟨i,hi⟩:∃ i,i=w+j:=⟨_,rfl⟩;rw [<- hi] at hv hj;have hd:=ha.get i;have hd2:=ha.get (i+1);unfold B at hd hd2
   by_cases hlt:i < n
   .have hlt':(i:Int) < n:=ω
    have key:=qaN (uR hp31) ha hl hv;have e1:=q1J (l:=l) (i:=i) Oq;refine wk1 (x4 hi.symm hlt' hn e1) ?_;refine qjM (λ_:Unit=>True) (λ_=>[(0,pW l),(1,iv m),(6,bv (if j=0 then decide (val (l.take w)≠0) else decide (val l % 2 ^ m≠0))),(8,.ow 1001 none 0 j),(9,iv p),(10,iv i),(11,uv (l.getD i 0+l.getD (i+1) 0*4294967296:Nat))]) (λ_=>[(1001,⟨142,none,o.map λz:Nat=>wv z,false⟩)]) (λ_ _=>?_) λK1 fin1=>?_
    .refine wk ?_;refine qjM (λ_:Unit=>True) (λ_=>[(0,pW l),(1,iv m),(6,bv (decide (val l % 2 ^ m≠0))),(8,.ow 1001 none 0 j),(9,iv p),(10,iv i),(11,uv (l.getD i 0+l.getD (i+1) 0*4294967296:Nat))]) (λ_=>[(1001,⟨142,none,o.map λz:Nat=>wv z,false⟩)]) (λ_ _=>?_) λK2 q4g=>?_
     .refine wk1 hl ?_;refine ⟨(j+1,_),⟨.inr ω,ho.snoc (zF ((l.getD i 0+l.getD (i+1) 0*4294967296) / 2 ^ p) q1A),by simp [hl],?_⟩,by simp only; omega,?_⟩
      .show _+B ^ (j+1)*(val (l.drop (w+(j+1))) / 2 ^ p)=_
       rw [show w+(j+1)=i+1 by omega];exact key
      .refine LeM [(1001,some 82)] rfl rfl ?_;refine Zz ?_;exact ⟨ω,rfl⟩
     by_cases hj0:j=0
     .subst hj0;obtain rfl:i=w:=hi;have q1:IntKind.u32.wrap (((2 ^ p:Nat):Int)-1)=((2 ^ p-1:Nat):Int):=qdH hp0 Oq;have q2:q0d .and .u32 ((l.getD i 0:Nat):Int) ((2 ^ p-1:Nat):Int)=((l.getD i 0 % 2 ^ p:Nat):Int):=by rw [qbX hd ω,yU]
      by_cases hz:l.getD i 0 % 2 ^ p=0
      .have q3:((l.getD i 0 % 2 ^ p:Nat):Int)=0:=ω
       refine wk1 (x6 hw e1 q1 q2 q3 hn) ?_;refine q4g () _ _ trivial ?_;refine LeM [] rfl rfl ?_;refine Zz ?_;refine decide_eq_decide.2 ?_;simp only [hz,and_true] at hlo;omega
      .have q3:((l.getD i 0 % 2 ^ p:Nat):Int)≠0:=ω
       refine wk1 (x6 hw e1 q1 q2 q3 hn) ?_;refine q4g () _ _ trivial ?_;refine LeM [] rfl rfl ?_;refine Zz ?_;exact (decide_eq_true (p:=¬ val l % 2 ^ m=0) λh0=>hz (hlo.1 h0).2).symm
     .have q3:(i:Int)≠w:=ω
      refine wk1 (x2 hw q3) ?_;refine q4g () _ _ trivial ?_;refine LeM [] rfl rfl ?_;refine Zz ?_;rw [if_neg hj0]
    by_cases hn1:i+1 < n
    .have q1:(i:Int)+1=(i+1:Nat):=rfl;have q2:((i+1:Nat):Int) < n:=ω
     have e6:l.getD (i+1) 0*4294967296 % 18446744073709551616=l.getD (i+1) 0*4294967296:=zB Oq;have e7:l.getD i 0 ||| l.getD (i+1) 0*4294967296=l.getD i 0+l.getD (i+1) 0*4294967296:=q1z (k:=32) hd;refine wk1 (x6 q1 q2 hn (q1J (l:=l) (i:=i+1) Oq) e6 e7) ?_;refine fin1 () _ _ trivial ?_;refine LeM [] rfl rfl ?_;exact Zy
    .have q1:(i:Int)+1=(i+1:Nat):=rfl;have q2:¬ ((i+1:Nat):Int) < n:=ω
     refine wk1 (x3 q1 q2 hn) ?_;refine fin1 () _ _ trivial ?_;refine LeM [] rfl rfl ?_;refine Zz ?_;rw [q4h (i:=i+1) ω]; omega
   .have hlt':¬ (i:Int) < n:=ω
    refine wk1 (x3 hi.symm hlt' hn) ?_;have hd0:val (l.drop i)=0:=by rw [zN ω]; rfl
    rw [hd0,Nat.zero_div,yM,z9,q2V ha,xZ,q9r,<- yZ,<- zW,hmm] at hv;rw [<- q3l (n:=n-w) ho ω hv];refine ⟨rfl,?_⟩
    split
    .rw [hla ω,q0F l _ ω]
    .rfl
 refine q0B (λi=>i<=w/\i<=n) [0,1] [] Lk Lk (λi:Nat=>[(7,iv i),(6,bv (decide (val (l.take i)≠0)))]) (λ_=>[]) (λi=>n-i) 0 ⟨zE _,zE _⟩ ?_ ?_
 .refine LeM [] rfl rfl ?_;refine Zz ?_;exact ⟨rfl,rfl⟩
 .rintro i ⟨h1,h2⟩
  by_cases h3:i < w
  .have q1:(i:Int) < w:=ω
   by_cases h4:i < n
   .have q2:(i:Int) < n:=ω
    have hpB:=q4A i
    by_cases hz:val (l.take i)=0
    .have q3:decide (val (l.take i)≠0)=false:=by simp [hz]
     refine wk1 (x6 hw hn q1 q2 q3 (q1J (l:=l) (i:=i) Oq)) ?_;refine ⟨i+1,⟨ω,ω⟩,ω,?_⟩;refine LeM [] rfl rfl ?_;refine Zz ?_;rw [vts,hz,zH,bne0];refine ⟨ω,decide_eq_decide.2 ?_⟩;simp only [ne_eq,wD,not_or];omega
    .have q3:decide (val (l.take i)≠0)=true:=by simp [hz]
     refine wk1 (x5 hw hn q1 q2 q3) ?_;refine ⟨i+1,⟨ω,ω⟩,ω,?_⟩;refine LeM [] rfl rfl ?_;refine Zz ?_;rw [vts];exact ⟨ω,(decide_eq_true Oq).symm⟩
   .have q2:¬ (i:Int) < n:=ω
    refine wk1 (x4 hw hn q1 q2) ?_;refine fin () _ _ trivial ?_;refine LeM [] rfl rfl ?_;refine Zz ?_;rw [q0F l i ω,q0F l w ω]
  .have q1:¬ (i:Int) < w:=ω
   obtain rfl:i=w:=ω
   refine wk1 (x3 hw hn q1) ?_;refine fin () _ _ trivial ?_;refine LeM [] rfl rfl ?_;exact Zy
end
end Go.Proofs.YtbjoghfmhgadkaaGreatDoor
namespace Go.Sp
open Go.E
section
def bpw {x n:Nat} (h:(lim x).length<=n):x < B ^ n:=zJ (q00 x) (zI q1A h)
def qlG {x y n:Nat} (hx:x < B ^ n) (hy:y < B ^ n):x+y < B ^ (n+1):=by
 have:=q85;have h2:B ^ n*2<=B ^ n*B:=zX _ q85;rw [xN]; omega
end
end Go.Sp
namespace Go.Proofs.YtbjoghfmhgadkaaGreatDoor
open Go Go.E Go.Sp
section
attribute [local instance] lNL
section
variable {a b:Int} {s t:Bool}
def qf1 {x y:Nat} (h:y<=x):(0:Int)<=q2c x y:=by unfold q2c; split <;> (try split) <;> omega
def qf0 {x y:Nat} (h:¬ y<=x):¬ (0:Int)<=q2c x y:=by unfold q2c; split <;> (try split) <;> omega
def qa0 (hs:s=decide (a < 0)) (ht:t=decide (b < 0)) (ha:bl a.natAbs<=20000000) (hb:bl b.natAbs<=20000000):ACt 75 [yT s a,yT t b] (zT (a+b)):=by
 have ma:=q6J ha;have mb:=q6J hb;have la:=q3G ha;have lb:=q3G hb;have T1:=q1Q (q0C a.natAbs) la;have T2:=q1Q (q0C b.natAbs) lb;rw [q0D] at T1 T2
 by_cases hst:s=t
 .have C1:=qfw (q0C a.natAbs) (q0C b.natAbs) la lb;rw [q0D,q0D] at C1;have h1:a.natAbs+b.natAbs < B ^ (max (lim a.natAbs).length (lim b.natAbs).length+1):=qlG (bpw (Nat.le_max_left _ _)) (bpw (Nat.le_max_right _ _));have C2:=q1T (s:=s) (q1q (n:=max (lim a.natAbs).length (lim b.natAbs).length+1) (X:=a.natAbs+b.natAbs)) (by rw [q0x]; omega);rw [q1p h1,show sgn s (a.natAbs+b.natAbs)=a+b by
   rw [hs,ht,decide_eq_decide] at hst;rw [hs]
   by_cases h:a < 0
   .rw [decide_eq_true h]; simp only [sgn,if_true]; omega
   .rw [decide_eq_false h,q7f]; omega] at C2
  subst hst;refine ac0 Tryz.func75 Tryz.ntmps75 [.cell 4 42] ?_;refine wk ?_;cases s
  .exact wk trivial
  .exact wk trivial
 .have C1:=q8S la lb;have hts:(s == t)=false:=by cases s <;> cases t <;> simp_all
  have key:∀ (u:Bool) (x y:Nat),y<=x->(lim x).length<=1000000000->sgn u (x-y)=a+b->ACt 134 [bv u,pW (dgs (lim x).length (x-y))] (zT (a+b)):=λu x y hle hl he=>by
   have C2:=q1T (s:=u) (q1q (n:=(lim x).length) (X:=x-y)) (by rw [q0x]; exact hl)
   rwa [q1p (zG (Nat.sub_le _ _) (q00 x)),he] at C2
  have hab:(s=true/\a < 0/\t=false/\¬ b < 0)\/(s=false/\¬ a < 0/\t=true/\b < 0):=by
   by_cases h1:a < 0 <;> by_cases h2:b < 0 <;> simp [h1,h2] at hs ht <;> subst hs <;> subst ht <;> simp_all
  by_cases hle:b.natAbs<=a.natAbs
  .have q:=qf1 hle;have C3:=q7c (q0C a.natAbs) (q0C b.natAbs) la (q0b hle) (by rw [q0D,q0D]; exact hle);rw [q0D,q0D] at C3;have C4:=key s a.natAbs b.natAbs hle la (by rcases hab with ⟨h1,h2,_,h3⟩ | ⟨h1,h2,_,h3⟩ <;> rw [h1] <;> simp only [sgn,if_true,yQ,if_false] <;> omega);clear hs ht;refine ac0 Tryz.func75 Tryz.ntmps75 [.cell 4 42] ?_;refine wk ?_
   rcases hab with ⟨rfl,_,rfl,_⟩ | ⟨rfl,_,rfl,_⟩
   .exact wk1 (x2 hts q) trivial
   .exact wk1 (x2 hts q) trivial
  .have q:=qf0 hle;have C3:=q7c (q0C b.natAbs) (q0C a.natAbs) lb (q0b ω) (by rw [q0D,q0D]; omega);rw [q0D,q0D] at C3;have C4:=key t b.natAbs a.natAbs ω lb (by rcases hab with ⟨_,h2,h1,h3⟩ | ⟨_,h2,h1,h3⟩ <;> rw [h1] <;> simp only [sgn,if_true,yQ,if_false] <;> omega);clear hs ht;refine ac0 Tryz.func75 Tryz.ntmps75 [.cell 4 42] ?_;refine wk ?_
   rcases hab with ⟨rfl,_,rfl,_⟩ | ⟨rfl,_,rfl,_⟩
   .exact wk1 (x2 hts q) trivial
   .exact wk1 (x2 hts q) trivial
def qaU (hs:s=decide (a < 0)) (ht:t=decide (b < 0)) (ha:bl a.natAbs<=20000000) (hb:bl b.natAbs<=20000000):ACt 147 [yT s a,yT t b] (zT (a-b)):=by
 have C1:=qaV ht hb;have C2:=qa0 (b := -b) hs rfl ha (by rwa [Int.natAbs_neg]);rw [<- Int.sub_eq_add_neg] at C2;refine ac0 Tryz.func147 Tryz.ntmps147 [.cell 4 42] ?_;exact wk trivial
def qhB (hs:s=decide (a < 0)) (ht:t=decide (b < 0)) (ha:bl a.natAbs<=20000000) (hb:bl b.natAbs<=20000000):ACt 80 [yT s a,yT t b] (zT (a*b)):=by
 have ma:=q6J ha;have mb:=q6J hb;have T1:=q1Q (q0C a.natAbs) (q3G ha);have T2:=q1Q (q0C b.natAbs) (q3G hb);rw [q0D] at T1 T2;have C1:=qeA (x:=a.natAbs) (y:=b.natAbs) rfl rfl Oq Oq;have C2:=q1T (s:=s != t) (q1q (n:=(lim a.natAbs).length+(lim b.natAbs).length) (X:=a.natAbs*b.natAbs)) (by rw [q0x]; omega);rw [q1p (by rw [zW]; exact xW (q00 _) (q00 _)),hs,ht,<- qdV,q07,q07] at C2;subst hs ht;refine ac0 Tryz.func80 Tryz.ntmps80 [.cell 4 42] ?_;exact wk trivial
end
end
end Go.Proofs.YtbjoghfmhgadkaaGreatDoor
namespace Go.E
open Go Go.RowKit
def qc1 (h:Hp) (id:Nat):Hp:=λi=>if i=id then none else (h i).bind λb=>if b.st then none else some b
mutual
def fzP (h:Hp) (id:Nat) (xs:List PV):PV->PV
 | .ow i k off n=>if i=id then .sl k ((xs.drop off).take n) else if (h i).isSome then .ow i k off n else .un
 | .pt i a b=>if (h i).isSome then .pt i a b else .un
 | .mp i=>if (h i).isSome then .mp i else .un
 | .ag l=>.ag (fzL h id xs l)
 | .tu l=>.tu (fzL h id xs l)
 | .un=>.un
 | .vl v=>.vl v
 | .fm G=>.fm G
 | .sl k l=>.sl k l
 | .qt k x=>.qt k x
def fzL (h:Hp) (id:Nat) (xs:List PV):List PV->List PV
 | []=>[]
 | x :: l=>fzP h id xs x :: fzL h id xs l
end
def fzS (h:Hp) (id:Nat) (xs:List PV) (s:Nat->PV):Nat->PV:=λt=>fzP h id xs (s t)
def ClH (h:Hp):Prop:=∀ i b,h i=some b->ClL b.xs
def ClH_0:ClH h0:=λ_ _ h=>by cases h
def ClH_u {h:Hp} {i:Nat} {b:Bk} (hb:ClL b.xs) (hh:ClH h):ClH (q0P h i b):=λj c hc=>by
 unfold q0P at hc
 split at hc
 .cases hc; exact hb
 .exact hh j c hc
def ClH_m {i:Nat} {b:Bk} {bs:List (Nat × Bk)} (hb:ClL b.xs) (hh:ClH (hpM bs [])):ClH (hpM ((i,b) :: bs) []):=λj c hc=>by
 unfold hpM at hc
 split at hc
 .cases hc; exact hb
 .exact hh j c hc
def ClH_v {i:Nat} {b:Bk} {kb:List (Nat × Option Bk)} (hb:ClL b.xs) (hh:ClH (hpM [] kb)):ClH (hpM [] ((i,some b) :: kb)):=λj c hc=>by
 unfold hpM hpV at hc
 split at hc
 .cases hc; exact hb
 .exact hh j c (by unfold hpM; exact hc)
def ClH_d {h:Hp} {id:Nat} (hh:ClH h):ClH (qc1 h id):=λj c hc=>by
 unfold qc1 at hc
 split at hc
 .cases hc
 .obtain ⟨b,hb,hc⟩:=xX.1 hc
  split at hc
  .cases hc
  .cases hc; exact hh j _ hb
def ClH_n:ClH (hpM [] []):=λ_ _ h=>by cases h
section
variable {w:World} {w0:Base} {D0:Nat->Prop} {ρ:Nat->Option Nat} {h h':Hp} {s:Nat->PV} {e:Env} {P:Program} {Tb:World->Prop} {J:Nat->Prop} {n:Nat} {Q:SQ} {id:Nat} {xs:List PV}
mutual
def qtY [NL] (hdd:∀ k,k < w.heap.size->dm D0 ρ h k->dm D0 ρ h' k) (hs:∀ i b,h' i=some b->h i=some b) (hid:∀ k off n v,Rd w (dm D0 ρ h) (.ow id k off n) ρ h v->Rd w (dm D0 ρ h') (.sl k ((xs.drop off).take n)) ρ h' v):∀ (x:PV) (v:Value),Rd w (dm D0 ρ h) x ρ h v->Rd w (dm D0 ρ h') (fzP h' id xs x) ρ h' v
 | .ow i k off n,v,hr=>by
  unfold fzP
  split
  .rename_i hi; subst hi; exact hid k off n v hr
  .split
   .rename_i hi;obtain ⟨b',hb'⟩:=y8.1 hi;have h1:=hs i b' hb';unfold Rd at hr ⊢;obtain ⟨b,A,c,q1,q2⟩:=hr;rw [h1] at q1; cases q1;exact ⟨b',A,c,hb',q2⟩
   .unfold Rd; trivial
 | .pt i a b,v,hr=>by
  unfold fzP
  split
  .rename_i hi;obtain ⟨b',hb'⟩:=y8.1 hi;have h1:=hs i b' hb';unfold Rd at hr ⊢;obtain ⟨b,g,q1,q2⟩:=hr;rw [h1] at q1; cases q1;exact ⟨b',g,hb',q2⟩
  .unfold Rd; trivial
 | .mp i,v,hr=>by
  unfold fzP
  split
  .rename_i hi;obtain ⟨b',hb'⟩:=y8.1 hi;have h1:=hs i b' hb';unfold Rd at hr ⊢;obtain ⟨b,g,q1,q2⟩:=hr;rw [h1] at q1; cases q1;exact ⟨b',g,hb',q2⟩
  .unfold Rd; trivial
 | .ag l,v,hr=>by
  unfold fzP;unfold Rd at hr ⊢;obtain ⟨vs,h1,h2⟩:=hr;exact ⟨vs,h1,fz_rdL hdd hs hid l vs h2⟩
 | .tu l,v,hr=>by
  unfold fzP;unfold Rd at hr ⊢;obtain ⟨vs,h1,h2⟩:=hr;exact ⟨vs,h1,fz_rdL hdd hs hid l vs h2⟩
 | .un,v,hr=>by unfold fzP Rd; trivial
 | .vl x,v,hr=>by unfold fzP; unfold Rd at hr ⊢; exact hr
 | .fm G,v,hr=>by unfold fzP; exact ((q25 (x:=.fm G) trivial hr).sub λk hk hq=>hdd k hk hq).cl
 | .sl k l,v,hr=>by unfold fzP; exact ((q25 (x:=.sl k l) trivial hr).sub λk hk hq=>hdd k hk hq).cl
 | .qt k x,v,hr=>by unfold fzP; exact ((q25 (x:=.qt k x) trivial hr).sub λk hk hq=>hdd k hk hq).cl
def fz_rdL [NL] (hdd:∀ k,k < w.heap.size->dm D0 ρ h k->dm D0 ρ h' k) (hs:∀ i b,h' i=some b->h i=some b) (hid:∀ k off n v,Rd w (dm D0 ρ h) (.ow id k off n) ρ h v->Rd w (dm D0 ρ h') (.sl k ((xs.drop off).take n)) ρ h' v):∀ (l:List PV) (vs:List Value),RdL w (dm D0 ρ h) l ρ h vs->RdL w (dm D0 ρ h') (fzL h' id xs l) ρ h' vs
 | [],vs,hr=>by unfold fzL; unfold RdL at hr ⊢; exact hr
 | x :: l,vs,hr=>by
  unfold fzL;unfold RdL at hr ⊢;obtain ⟨y,ys,h1,h2,h3⟩:=hr;exact ⟨y,ys,h1,qtY hdd hs hid x y h2,fz_rdL hdd hs hid l ys h3⟩
end
def qwH [NL] {T:TypeId} {k:Kd} (hh:h id=some ⟨T,k,xs,false⟩) (hc:ClH h):Le J s h (fzS (qc1 h id) id xs s) (qc1 h id):=λD0 w0 ρ e w _ S=>by
 have hs:∀ i b,qc1 h id i=some b->i≠id/\h i=some b/\b.st=false:=λi b hi=>by
  unfold qc1 at hi
  split at hi
  .cases hi
  .obtain ⟨c,hc,hi⟩:=xX.1 hi
   split at hi
   .cases hi
   .cases hi; exact ⟨by assumption,hc,by simp_all⟩
 have hdd:∀ k,k < w.heap.size->dm D0 ρ h k->dm D0 ρ (qc1 h id) k:=λk _ hq=>⟨hq.1,λi b hi=>hq.2 i b (hs i b hi).2.1⟩;refine ⟨ρ,λi j b c g hi hj hst ri rj=>?_,λi b g hi ri=>?_,λi b hi ri=>S.vir i b (hs i b hi).2.1 ri,λt=>?_,S.ext,S.fr,S.imp,S.pin⟩
 .exact S.inj i j b c g (hs i b hi).2.1 (hs j c hj).2.1 hst ri rj
 .obtain ⟨a1,⟨m1,m2,es,cl,ps,m3,m4,m5,m6⟩ | ⟨cs,c1,c2,c3⟩⟩:=S.own i b g (hs i b hi).2.1 ri
  .obtain ⟨q4,q5⟩:=RdL.iff.1 m5;exact ⟨a1,.inl ⟨m1,m2,es,cl,ps,m3,m4,RdL.iff.2 ⟨q4,λi' z v hz hv=>((q45 (hc i b (hs i b hi).2.1 z (yY hz)) (q5 i' z v hz hv)).sub λk hk hq=>hdd k hk hq).cl⟩,m6⟩⟩
  refine ⟨a1,.inr ⟨cs,c1,c2,λhst=>?_⟩⟩;obtain ⟨vs,v1,v2,v3⟩:=c3 hst;obtain ⟨q4,q5⟩:=RdL.iff.1 v2;exact ⟨vs,v1,RdL.iff.2 ⟨q4,λi' z v hz hv=>((q45 (hc i b (hs i b hi).2.1 z (yY hz)) (q5 i' z v hz hv)).sub λk hk hq=>hdd k hk hq).cl⟩,v3⟩
 .refine qtY hdd (λi b hi=>(hs i b hi).2.1) (λk' off n v hr=>?_) (s t) (e t) (S.rd t);have hk:k'=k:=by
   unfold Rd at hr;obtain ⟨b,_,_,q1,q2,_⟩:=hr;rw [hh] at q1; cases q1; exact q2.symm
  subst hk;have hcl:q3E h (.ow id k' off n)=some (.sl k' ((xs.drop off).take n),[id]):=by
   unfold q3E;simp only [hh,xE];rw [if_pos ⟨rfl,rfl,hc id _ hh⟩]
  refine ((qo7 S hcl hr).sub λg hg hq=>?_).cl
  rcases hq with hq | ⟨i,hi,hr2⟩
  .exact hdd g hg hq
  .simp at hi;subst hi;refine ⟨(S.own i _ g hh hr2).1.2,λj c hj rj=>?_⟩;obtain ⟨j1,j2,j3⟩:=hs j c hj
   rcases S.inj i j _ c g hh j2 j3 hr2 rj with h | h
   .exact j1 h.symm
   .cases h
def q9n {ops:Array Oper} {K:Env->World->Prop}:∀ (k:Nat) (l:List Oper) (e:Env) (w:World),WL P ops (λe w=>WL P ops K (l.drop k) e w) (l.take k) e w->WL P ops K l e w
 | 0,_,_,_,h=>h
 | k+1,[],_,_,h=>h
 | k+1,o :: l,e,w,h=>q9o (λv w' h=>q9n k l _ _ h) h
def qgI [NL] {id:Nat} {l:List Oper} (k:Nat) (hw:∀ K:(Nat->PV)->Hp->Prop,(∀ s h,Q .normal s h->K s h)->AL P Tb l (λs1 h1 acc=>∃ s' h',Le J s1 h1 s' h'/\AL P Tb l (λs h _=>K s h) (l.drop k) s' h' acc) (l.take k) s h []):AW P Tb J n (.region id l.toArray false) Q s h:=λD0 w0 ρ e w hT hF S=>by
 have h1:=hw _ λ_ _ h=>h;refine q3x (q9n k _ _ _ ?_);refine qgM (K':=λe' w'=>WL P l.toArray (λe' w'=>∃ s' h' ρ',Sat D0 w0 s' h' ρ' e' w'/\Q .normal s' h') (l.drop k) e' w') hT.1 hF _ s h [] ρ e w (λs h acc ρ e w S hq=>?_) h1 S;obtain ⟨s',h',hl,hq⟩:=hq;obtain ⟨ρ',S'⟩:=hl D0 w0 ρ e w hT.2 S;exact qgM hT.1 hF _ s' h' acc ρ' e w (λs h _ ρ e w S hq=>⟨s,h,ρ,S,hq⟩) hq S'
def fzK (id:Nat) (s:Nat->PV) (h:Hp) (C:(Nat->PV)->Hp->Prop):Prop:=∃ T k xs,h id=some ⟨T,k,xs,false⟩/\ClH h/\C (fzS (qc1 h id) id xs s) (qc1 h id)
def q1b {C:(Nat->PV)->Hp->Prop} {T:TypeId} {k:Kd} (hC:C (fzS (qc1 h id) id xs s) (qc1 h id)) (hh:h id=some ⟨T,k,xs,false⟩:=by rfl) (hc:ClH h:=by repeat (first | exact ClH_0 | exact ClH_n | refine ClH_u ?_ ?_ | refine ClH_m ?_ ?_ | refine ClH_v ?_ ?_ | refine ClH_d ?_ | (focus (simp only [qxC,qb2,qxB,qxA,qpk,qlT,qlV,qlU,or_true,and_self]; done)) | (focus (simp [ClL,Cld,q2z]; done)))):fzK id s h C:=⟨T,k,xs,hh,hc,hC⟩
def q4B [NL] {i:Nat} {l:List Oper} {b:Code} (k id:Nat) {l1 l2:List Oper} (hw:∀ K:(Nat->PV)->Hp->Prop,(∀ s h,AW P Tb J n b Q s h->K s h)->AL P Tb l (λs1 h1 acc=>fzK id s1 h1 λs' h'=>AL P Tb l (λs h _=>K s h) l2 s' h' acc) l1 s h [])
  (e1:l.take k=l1:=by simp only [y7,xB]; rfl) (e2:l.drop k=l2:=by simp only [xL,yC]; rfl):AW P Tb J n (.seq (.region i l.toArray false) b) Q s h:=by
 subst e1 e2;refine q4C λK hK=>qgI k λK1 hK1=>?_;refine q7U (λs h acc hq=>?_) (hw K1 λs h hb=>hK1 s h (hK s h hb));obtain ⟨T,kd,xs,h1,h2,h3⟩:=hq;exact ⟨_,_,qwH h1 h2,h3⟩
def qxE [NL] {i:Nat} {l:List Oper} (k id:Nat) {l1 l2:List Oper} (hw:∀ K:(Nat->PV)->Hp->Prop,(∀ s h,Q .normal s h->K s h)->AL P Tb l (λs1 h1 acc=>fzK id s1 h1 λs' h'=>AL P Tb l (λs h _=>K s h) l2 s' h' acc) l1 s h [])
  (e1:l.take k=l1:=by simp only [y7,xB]; rfl) (e2:l.drop k=l2:=by simp only [xL,yC]; rfl):AW P Tb J n (.region i l.toArray false) Q s h:=by
 subst e1 e2;refine qgI k λK1 hK1=>?_;refine q7U (λs h acc hq=>?_) (hw K1 hK1);obtain ⟨T,kd,xs,h1,h2,h3⟩:=hq;exact ⟨_,_,qwH h1 h2,h3⟩
end
section
variable {h:Hp} {id i a b n off:Nat} {k:Kd} {xs l:List PV} {x:PV} {v:Value} {G:Fam}
def fz_vl:fzP h id xs (.vl v)=.vl v:=by unfold fzP; rfl
def fz_un:fzP h id xs .un=.un:=by unfold fzP; rfl
def fz_fm:fzP h id xs (.fm G)=.fm G:=by unfold fzP; rfl
def fz_sl:fzP h id xs (.sl k l)=.sl k l:=by unfold fzP; rfl
def fz_qt:fzP h id xs (.qt k x)=.qt k x:=by unfold fzP; rfl
def fz_ow:fzP h id xs (.ow i k off n)=if i=id then .sl k ((xs.drop off).take n) else if (h i).isSome then .ow i k off n else .un:=by unfold fzP; rfl
def fz_pt:fzP h id xs (.pt i a b)=if (h i).isSome then .pt i a b else .un:=by unfold fzP; rfl
def fz_mp:fzP h id xs (.mp i)=if (h i).isSome then .mp i else .un:=by unfold fzP; rfl
def fz_ag:fzP h id xs (.ag l)=.ag (fzL h id xs l):=by unfold fzP; rfl
def fz_n:fzL h id xs []=[]:=by unfold fzL; rfl
def fz_c:fzL h id xs (x :: l)=fzP h id xs x :: fzL h id xs l:=by rw [fzL]
def qtZ {s:Nat->PV} {t:Nat}:fzS h id xs s t=fzP h id xs (s t):=rfl
def qn6:qc1 h id i=if i=id then none else (h i).bind λb=>if b.st then none else some b:=rfl
attribute [go_sem] fz_vl fz_un fz_fm fz_sl fz_qt fz_ow fz_pt fz_mp fz_ag fz_n fz_c Option.isSome_some Option.isSome_none yQ
attribute [go_sem ↓] qtZ qn6
end
end Go.E
namespace Go.Proofs.YtbjoghfmhgadkaaGreatDoor
open Go Go.E Go.Sp
section
attribute [local instance] lNL
def q41 {z:Int} (h1 : -9223372036854775808<=z) (h2:z<=9223372036854775807):ACt 70 [iv z] (zT z):=by
 have hv:val [z.natAbs % 4294967296,z.natAbs / 4294967296 % 4294967296]=z.natAbs:=by simp only [val,B]; omega
 have C1:=q1T (s:=decide (z < 0)) (l:=[z.natAbs % 4294967296,z.natAbs / 4294967296 % 4294967296]) (λd hd=>by simp at hd; unfold B; omega) σ;rw [hv,q07] at C1;refine ac0 Tryz.func70 Tryz.ntmps70 [.cell 2 42] ?_;refine wk ?_;refine qjM (λ_:Unit=>True) (λ_=>[(0,iv z),(2,.pt 2 0 0),(3,uv (z.natAbs:Nat))]) (λ_=>[(2,⟨42,some 2,[.ag [bv false,q05]],false⟩)]) (λ_ _=>?_) λK fin=>?_
 .refine q4B 8 20 λK hK=>?_
  try refine Zz ?_
  refine q1b ?_
  try refine Zz ?_
  refine q0T C1 ?_
  try refine Zz ?_
  refine hK _ _ ?_;exact wk trivial
 by_cases hn:z < 0
 .have e1:IntKind.u64.wrap (IntKind.u64.wrap (0-(z+1))+1)=((z.natAbs:Nat):Int):=by rw [u64_in (n:=0-(z+1)) ω ω,u64_in ω ω]; omega
  refine wk1 hn ?_;refine fin () _ _ trivial ?_;refine LeM [] rfl rfl ?_;refine Zz ?_;exact e1
 .have e1:IntKind.u64.wrap z=((z.natAbs:Nat):Int):=by rw [u64_in ω ω]; omega
  refine wk1 hn ?_;refine fin () _ _ trivial ?_;refine LeM [] rfl rfl ?_;refine Zz ?_;exact e1
section
variable {a:Int} {s:Bool}
def qjn (k:Nat):shI a k=sgn (decide (a < 0)) (a.natAbs*2 ^ k):=by
 unfold shI;rw [if_pos ω,Int.toNat_natCast]
 by_cases h:a < 0
 .rw [decide_eq_true h]; simp only [sgn,if_true];rw [wE,show ((a.natAbs:Nat):Int) = -a by omega,wJ,Int.neg_neg,q0N]
 .rw [decide_eq_false h,q7f,wE,show ((a.natAbs:Nat):Int)=a by omega,q0N]
def qjo (k:Nat):shI a (-(k:Int))=sgn (decide (a < 0)) (a.natAbs / 2 ^ k)-(if decide (a < 0)=true/\decide (a.natAbs % 2 ^ k≠0)=true then 1 else 0):=by
 unfold shI
 by_cases hk0:(0:Int) <= -(k:Int)
 .have:k=0:=ω
  subst this;simp [Nat.mod_one,q07]
 .rw [if_neg hk0,show (- -(k:Int)).toNat=k by omega]
  by_cases h:a < 0
  .have:=qmU a.natAbs k;rw [show -((a.natAbs:Nat):Int)=a by omega] at this;rw [this,decide_eq_true h];simp [sgn]
  .rw [decide_eq_false h,q7f];simp only [yQ,false_and,if_false,wP,Int.natCast_ediv,q0N];rw [show ((a.natAbs:Nat):Int)=a by omega]
def q6D {m:Int} (hs:s=decide (a < 0)) (ha:bl a.natAbs<=20000000) (h1 : -1000000000<=m) (h2:m<=1000000000):ACt 107 [yT s a,iv m] (zT (shI a m)):=by
 have T1:=q36 hs ha;rw [zT,<- hs] at T1;have mb:=q6J ha;obtain ⟨n,hn⟩:∃ n,(lim a.natAbs).length=n:=⟨_,rfl⟩;have hlt:a.natAbs < B ^ n:=by rw [<- hn]; exact q00 _
 by_cases hm:0<=m
 .obtain ⟨k,rfl⟩:∃ k:Nat,m=k:=⟨m.toNat,ω⟩;have C1:=qjl (m:=k) hn Oq Oq;have hq:k / 32*32+k % 32=k:=ω
  have C2:=q1T (s:=s) (q1q (n:=k / 32+n+1) (X:=a.natAbs*2 ^ k)) (by rw [q0x]; omega);rw [q1p (by
   rw [zD,Nat.add_right_comm,zW];refine xW ?_ hlt;rw [q9r,<- yZ];exact xJ Oq Oq),hs,<- qjn,<- hs] at C2
  have C3:=C1;refine ac0 Tryz.func107 Tryz.ntmps107 [.cell 4 42] ?_;exact wk1 hm trivial
 .obtain ⟨k,rfl⟩:∃ k:Nat,m = -(k:Int):=⟨(-m).toNat,ω⟩;have C1:=qdR (m:=k) (q0C a.natAbs) hn Oq Oq;have hlt2:a.natAbs / 2 ^ k < B ^ (n-k / 32):=by
   rw [yW (q0E k)];refine zJ hlt ?_;rw [q9r,<- yZ,<- yZ,<- zW];exact zI Oq Oq
  have C2:=q1T (s:=s) (q1q (n:=n-k / 32) (X:=a.natAbs / 2 ^ k)) (by rw [q0x]; omega);rw [q1p hlt2] at C2;rw [q0D] at C1;have C4:=q41 (z:=1) Oq Oq;have hbo:bl (sgn s (a.natAbs / 2 ^ k)).natAbs<=20000000:=by rw [q0h]; exact z8 (q0r (yF _ _)) ha
  have C5:=qaU (a:=sgn s (a.natAbs / 2 ^ k)) (b:=1) rfl rfl hbo (by show bl 1<=_; rw [show bl 1=1 from rfl]; omega);rw [qjo,<- hs];have e1:(0:Int) - -(k:Int)=k:=ω
  cases hd:decide (a.natAbs % 2 ^ k≠0) <;> rw [hd] at C1 <;> clear hs <;> cases s <;> simp only [yQ,false_and,and_false,and_self,if_false,if_true,wP]
  .refine ac0 Tryz.func107 Tryz.ntmps107 [.cell 4 42] ?_;exact wk1 (x2 hm e1) trivial
  .refine ac0 Tryz.func107 Tryz.ntmps107 [.cell 4 42] ?_;exact wk1 (x2 hm e1) trivial
  .refine ac0 Tryz.func107 Tryz.ntmps107 [.cell 4 42] ?_;exact wk1 (x2 hm e1) trivial
  .refine ac0 Tryz.func107 Tryz.ntmps107 [.cell 4 42] ?_;exact wk1 (x2 hm e1) trivial
end
end
section
attribute [local instance] lNL
def qah {x:Nat} (hx:x < 4294967296):ACt 216 [wv x] (iv (bl x:Nat)):=ac_x κ λD w vs hT hF hR=>by
 obtain ⟨_,rfl,h⟩:=qqC hR;rw [qcZ h];exact qag hx
def qco {x:Nat} (h0:0 < x) (hx:x < 4294967296):ACt 215 [wv x] (iv (tz x:Nat)):=ac_x κ λD w vs hT hF hR=>by
 obtain ⟨_,rfl,h⟩:=qqC hR;rw [qcZ h];exact qlo hT h0 hx
def qeJ {x:Nat} (hx:x < 4294967296):ACt 294 [wv x] (iv (32-bl x:Nat)):=ac_x κ λD w vs hT hF hR=>by
 obtain ⟨_,rfl,h⟩:=qqC hR;rw [qcZ h];exact lz_ok hx
end
section
attribute [local instance] lNL
section
variable {a:Int} {s:Bool}
def qdg {m:Nat} (ha:bl a.natAbs<=20000000) (hm:m<=1000000000000):ACt 255 [yT s a,iv m] (bv (decide (a.natAbs % 2 ^ m≠0))):=by
 have T1:=q1Q (q0C a.natAbs) (q3G ha);have C1:=qdR (m:=m) (q0C a.natAbs) rfl (q3G ha) hm;rw [q0D] at T1 C1;refine ac0 Tryz.func255 Tryz.ntmps255 [.tmp 4] ?_;exact wk trivial
def q3P (ha:bl a.natAbs<=20000000):ACt 142 [yT s a] (iv (bl a.natAbs:Nat)):=by
 have T1:=q1Q (q0C a.natAbs) (q3G ha);rw [q0D] at T1;have hp:=@q0K a.natAbs;have mb:=q6J ha;obtain ⟨n,hn⟩:∃ n,(lim a.natAbs).length=n:=⟨_,rfl⟩
 by_cases h0:a.natAbs=0
 .have q:((lim a.natAbs).length:Int)=0:=by rw [h0]; rfl
  have q2:((bl a.natAbs:Nat):Int)=0:=by rw [h0]; rfl
  refine ac0 Tryz.func142 Tryz.ntmps142 [.tmp 2] ?_;exact wk1 (x2 q q2) trivial
 .have hd:=(q0C a.natAbs).get (n-1);have e1:=q1J (l:=lim a.natAbs) (i:=n-1) Oq;have e2:(n:Int)-1=(n-1:Nat):=ω
  have q:(n:Int)≠0:=ω
  have hb:=q6O h0;have hb2:=q0O (n:=(lim a.natAbs).getD (n-1) 0) (k:=32) hd;have C1:=qah (x:=(lim a.natAbs).getD (n-1) 0) hd;rw [hn] at hb;have e3:(32:Int)*((n-1:Nat):Int)=((32*(n-1):Nat):Int):=ω
  have e4:((32*(n-1):Nat):Int)+(bl ((lim a.natAbs).getD (n-1) 0):Nat)=(bl a.natAbs:Nat):=ω
  refine ac0 Tryz.func142 Tryz.ntmps142 [.tmp 2] ?_;exact wk1 (x6 hn q e1 e2 e3 e4) trivial
def qdc (ha:bl a.natAbs<=20000000):ACt 140 [yT s a] (iv (tz a.natAbs:Nat)):=by
 have T1:=q1Q (q0C a.natAbs) (q3G ha);rw [q0D] at T1;have mb:=q6J ha;obtain ⟨n,hn⟩:∃ n,(lim a.natAbs).length=n:=⟨_,rfl⟩;refine ac0 Tryz.func140 Tryz.ntmps140 [.tmp 2] ?_;refine wk ?_;refine q0B (λk=>k<=n/\val ((lim a.natAbs).take k)=0) [3] [] Lk Lk (λk:Nat=>[(4,iv k)]) (λ_=>[]) (λk=>n-k) 0 ⟨zE _,rfl⟩ ?_ ?_
 .refine LeM [] rfl rfl ?_;refine Zz ?_
  rfl
 .rintro k ⟨hk,hv⟩
  by_cases hlt:k < n
  .have q1:(k:Int) < n:=ω
   have e1:=q1J (l:=lim a.natAbs) (i:=k) Oq;have hd:=(q0C a.natAbs).get k
   by_cases hz:(lim a.natAbs).getD k 0=0
   .have q2:(((lim a.natAbs).getD k 0:Nat):Int)=0:=ω
    refine wk1 (x4 hn q1 e1 q2) ?_;refine ⟨k+1,⟨ω,q4Z.2 ⟨hv,hz⟩⟩,ω,?_⟩;refine LeM [] rfl rfl ?_;refine Zz ?_;omega
   .have q2:(((lim a.natAbs).getD k 0:Nat):Int)≠0:=ω
    have htv:=qjT (q0C a.natAbs) Oq hv hz;rw [q0D] at htv;have hlt32:=q6W hz hd;have C1:=qco (x:=(lim a.natAbs).getD k 0) Oq hd;have e3:(32:Int)*(k:Int)=((32*k:Nat):Int):=ω
    have e4:((32*k:Nat):Int)+(tz ((lim a.natAbs).getD k 0):Nat)=(tz a.natAbs:Nat):=ω
    exact wk1 (x6 hn q1 e1 q2 e3 e4) trivial
  .have q1:¬ (k:Int) < n:=ω
   rw [q0F _ _ ω,q0D] at hv;have q2:((tz a.natAbs:Nat):Int)=0:=by rw [hv]; rfl
   exact wk1 (x3 hn q1 q2) trivial
end
end
section
attribute [local instance] lNL
def q0W {l:List Nat} (ha:q0Y l) (hb:l.length<=1000000000):ACt 237 [pW l] (pW (lim (val l))):=by
 refine ac0 Tryz.func237 Tryz.ntmps237 [.tmp 2] ?_;refine wk ?_;refine A_jx (λm=>m<=l.length/\l.take m=lim (val l)) (λm:Nat=>[(0,pW l),(3,iv m)]) (λ_=>[]) ?_ λK fin=>?_
 .rintro m ⟨hm,ht⟩;have es:=qmO hm;rw [ht] at es;exact wk1 es trivial
 refine q0B (λn=>n<=l.length/\∀ i,n<=i->i < l.length->l.getD i 0=0) [0] [] Lk Lk (λn:Nat=>[(3,iv n)]) (λ_=>[]) (λn=>n) l.length ⟨z7 _,ω⟩ ?_ ?_
 .refine LeM [] rfl rfl ?_;exact Zy
 .rintro n ⟨hn,hz⟩;refine wk ?_
  rcases zK n with h0 | h0
  .subst h0;refine wk ?_;refine fin 0 _ _ ⟨ω,q6X ha hn hz (.inl rfl)⟩ ?_;refine LeM [] rfl rfl ?_;exact Zy
  .have e1:=q1J (l:=l) (i:=n-1) Oq;have e2:(n:Int)-1=(n-1:Nat):=ω
   have e3:(0:Int) < n:=ω
   by_cases hd:l.getD (n-1) 0=0
   .have q:((l.getD (n-1) 0:Nat):Int)=0:=ω
    refine wk1 (x4 e1 e2 e3 q) ?_;refine ⟨n-1,⟨ω,λi h1 h2=>?_⟩,ω,?_⟩
    .by_cases hi:i=n-1
     .rw [hi]; exact hd
     .exact hz i Oq h2
    .refine LeM [] rfl rfl ?_;exact Zy
   .have q:((l.getD (n-1) 0:Nat):Int)≠0:=ω
    refine wk1 (x4 e1 e2 e3 q) ?_;refine fin n _ _ ⟨hn,q6X ha hn hz (.inr hd)⟩ ?_;refine LeM [] rfl rfl ?_;exact Zy
def q2D {s:Bool} {l:List Nat} (ha:q0Y l) (hb:l.length<=1000000000):ACt 212 [bv s,pW l] (zT (sgn s (val l))):=by
 have C1:=@q0W;have hp:=@q0K (val l);rw [zT,yT,q8u,q0h]
 by_cases h0:val l=0
 .have q:((lim (val l)).length:Int)=0:=ω
  rw [show decide (0 < val l)=false from decide_eq_false ω,zS];have e:lim (val l)=[]:=by rw [h0]; rfl
  refine ac0 Tryz.func212 Tryz.ntmps212 [.cell 4 42] ?_;exact wk1 (x2 q e) trivial
 .have q:¬ ((lim (val l)).length:Int)=0:=ω
  rw [show decide (0 < val l)=true from decide_eq_true ω,uJ];refine ac0 Tryz.func212 Tryz.ntmps212 [.cell 4 42] ?_;exact wk1 q trivial
def q3n {l:List Nat} (hb:l.length<=1000000000):ACt 235 [pW l] (pW l):=by
 have hu:=bn_n (P:=Tryz.prog) (k:=none) (l:=l.map λz:Nat=>wv z) (t:=40) (E:=142) (c:=0) (d:=0) κ (by decide);refine ac0 Tryz.func235 Tryz.ntmps235 [.tmp 2] ?_;refine wk1 hu ?_;refine A_u rfl (λh=>?_) ?_
 .have e:l=[]:=List.eq_nil_of_length_eq_zero (by simpa using h);exact wk1 e trivial
 .exact wk trivial
def cpI (a b:Int):Int:=if a < b then -1 else if a=b then 0 else 1
def qf2 {a b:Int}:ACt 181 [iv a,iv b] (iv (cpI a b)):=by
 have C1:∀ x:Int,ACt 229 [iv x] (bv false):=λx=>by
  have q:(x != x)=false:=σ
  refine ac0 Tryz.func229 Tryz.ntmps229 [.tmp 2] ?_;exact wk1 q trivial
 refine ac0 Tryz.func181 Tryz.ntmps181 [.tmp 4] ?_
 by_cases h1:a < b
 .have c:cpI a b = -1:=if_pos h1;exact wk1 c trivial
 .by_cases h2:b < a
  .have c:cpI a b=1:=by unfold cpI; rw [if_neg h1,if_neg ω]
   exact wk1 c trivial
  .have c:cpI a b=0:=by unfold cpI; rw [if_neg h1,if_pos ω]
   exact wk1 c trivial
def qoZ {a b:Nat}:ACt 272 [wv a,wv b] (iv (cpI a b)):=by
 have C1:∀ x:Nat,ACt 289 [wv x] (bv false):=λx=>by
  have q:((x:Int) != x)=false:=σ
  refine ac0 Tryz.func289 Tryz.ntmps289 [.tmp 2] ?_;exact wk1 q trivial
 refine ac0 Tryz.func272 Tryz.ntmps272 [.tmp 4] ?_
 by_cases h1:(a:Int) < b
 .have c:cpI a b = -1:=if_pos h1;exact wk1 c trivial
 .by_cases h2:(b:Int) < a
  .have c:cpI a b=1:=by unfold cpI; rw [if_neg h1,if_neg ω]
   exact wk1 c trivial
  .have c:cpI a b=0:=by unfold cpI; rw [if_neg h1,if_pos ω]
   exact wk1 c trivial
def q4U {x y:Nat} (hb:(lim x).length<=1000000000) (hb':(lim y).length<=1000000000):ACt 236 [pW (lim x),pW (lim y)] (iv (q2c x y)):=by
 have C1:=@qf2;have C2:=@qoZ;refine ac0 Tryz.func236 Tryz.ntmps236 [.tmp 4] ?_
 by_cases hne:(lim x).length=(lim y).length
 .have q:((lim x).length:Int)=(lim y).length:=ω
  refine wk1 q ?_;refine q0B (λk=>k<=(lim x).length/\(lim x).drop k=(lim y).drop k) [0,1] [] Lk Lk (λk:Nat=>[(5,iv ((k:Int)-1))]) (λ_=>[]) (λk=>k) (lim x).length ⟨z7 _,by rw [zN ω,zN ω]⟩ ?_ ?_
  .refine LeM [] rfl rfl ?_;refine Zz ?_;omega
  .rintro k ⟨hk,hdr⟩
   rcases zK k with h0 | h0
   .subst h0;have c:q2c x y=0:=by
     have:=congrArg val hdr;simp only [yC,q0D] at this;simp [q2c,this]
    have q1:¬ (0:Int)<=((0:Nat):Int)-1:=ω
    exact wk1 (x2 q1 c) trivial
   .have e2:(k:Int)-1=(k-1:Nat):=ω
    have e1:=q1J (l:=lim x) (i:=k-1) Oq;have e1':=q1J (l:=lim y) (i:=k-1) Oq;have tops:∀ {a b:Nat},(lim a).length=(lim b).length->k<=(lim a).length->(lim a).drop k=(lim b).drop k->(lim a).getD (k-1) 0 < (lim b).getD (k-1) 0->a < b:=λ{a b} h1 h2 h3 h4=>by
     have:=q3Z (i:=k-1) (q0C a) h1 ω (by rw [show k-1+1=k by omega]; exact h3) h4;simpa [q0D] using this
    by_cases h:(lim x).getD (k-1) 0=(lim y).getD (k-1) 0
    .refine wk1 (x4 e2 e1 e1' h) ?_;refine ⟨k-1,⟨ω,?_⟩,ω,?_⟩
     .rw [yH (l:=lim x) (i:=k-1) ω,yH (l:=lim y) (i:=k-1) ω,show k-1+1=k by omega,hdr];rw [q0k ω,q0k ω] at h;rw [h]
     .refine LeM [] rfl rfl ?_;exact Zy
    .have c:cpI ((lim x).getD (k-1) 0:Nat) ((lim y).getD (k-1) 0:Nat)=q2c x y:=by
      unfold cpI q2c
      rcases Nat.lt_or_gt_of_ne h with h | h
      .have:=tops hne hk hdr h;rw [if_pos ω,if_pos this]
      .have:=tops hne.symm Oq hdr.symm h;rw [if_neg ω,if_neg ω,if_neg ω,if_neg ω]
     exact wk1 (x4 e2 e1 e1' c) trivial
 .have c:cpI ((lim x).length:Nat) ((lim y).length:Nat)=q2c x y:=by
   unfold cpI q2c
   rcases Nat.lt_or_gt_of_ne hne with h | h
   .have:=q2B h;rw [if_pos ω,if_pos this]
   .have:=q2B h;rw [if_neg ω,if_neg ω,if_neg ω,if_neg ω]
  have q2:((lim x).length:Int)≠(lim y).length:=ω
  exact wk1 (x2 q2 c) trivial
section
variable {a b:Int} {s t:Bool}
def qe1 (hs:s=decide (a < 0)) (ha:bl a.natAbs<=20000000):ACt 231 [yT s a] (zT a):=by
 have C1:=@q2D s _ (q0C a.natAbs) (q3G ha);have C2:=q3n (l:=lim a.natAbs) (q3G ha);rw [q0D,hs,q07] at C1;subst hs;refine ac0 Tryz.func231 Tryz.ntmps231 [.cell 2 42] ?_;exact wk trivial
def qh9 (ha:bl a.natAbs<=20000000):ACt 191 [yT s a] (zT a.natAbs):=by
 have C1:=@q2D false _ (q0C a.natAbs) (q3G ha);have C2:=q3n (l:=lim a.natAbs) (q3G ha);rw [q0D,q7f] at C1;refine ac0 Tryz.func191 Tryz.ntmps191 [.cell 2 42] ?_;exact wk trivial
def qh4 (hs:s=decide (a < 0)) (ha:bl a.natAbs<=20000000):ACt 194 [yT s a] (zT (-a)):=by
 have C1:=@q2D (!s) _ (q0C a.natAbs) (q3G ha);have C2:=q3n (l:=lim a.natAbs) (q3G ha);rw [q0D,hs,q8t] at C1;subst hs;refine ac0 Tryz.func194 Tryz.ntmps194 [.cell 2 42] ?_;exact wk trivial
def q5Y (hs:s=decide (a < 0)) (ha:bl a.natAbs<=20000000):ACt 222 [yT s a] (iv a.sign):=by
 have C1:=q0W (q0C a.natAbs) (q3G ha);rw [q0D] at C1;have hp:=@q0K a.natAbs
 rcases xS a 0 with h | h | h
 .have q1:¬ (((lim a.natAbs).length:Int)=0):=ω
  rw [decide_eq_true h] at hs;rw [uK h];subst hs;refine ac0 Tryz.func222 Tryz.ntmps222 [.tmp 2] ?_;exact wk1 q1 trivial
 .have q1:(((lim a.natAbs).length:Int)=0):=by rw [h]; rfl
  rw [show a.sign=0 by rw [h]; rfl];refine ac0 Tryz.func222 Tryz.ntmps222 [.tmp 2] ?_;exact wk1 q1 trivial
 .have q1:¬ (((lim a.natAbs).length:Int)=0):=ω
  rw [decide_eq_false ω] at hs;rw [zM h];subst hs;refine ac0 Tryz.func222 Tryz.ntmps222 [.tmp 2] ?_;exact wk1 q1 trivial
end
end
section
attribute [local instance] lNL
def q9E {l l':List Nat} (ha:q0Y l) (ha':q0Y l') (hb:l.length<=100000000) (hb':l'.length<=100000000):ACt 241 [pW l,pW l'] (pW (lim (val l+val l'))):=by
 refine ac0 Tryz.func241 Tryz.ntmps241 [.tmp 4] ?_;refine wk ?_;refine qjM (λp:List Nat × List Nat=>q0Y p.1/\q0Y p.2/\p.1.length<=100000000/\p.2.length<=p.1.length/\val p.1+val p.2=val l+val l') (λp=>[(0,pW p.1),(1,pW p.2)]) (λ_=>[]) ?_ λK fin=>?_
 .clear ha ha' hb hb';rintro ⟨u,v⟩ ⟨hu,hv,hb,hvu,hs⟩;simp only at hu hv hb hvu hs;obtain ⟨n,hn⟩:∃ n,u.length=n:=⟨_,rfl⟩;have q0:(n:Int)+1=((n+1:Nat):Int):=rfl;refine wk1 (x3 hn q0 (@List.replicate_zero PV (wv 0))) ?_;refine q0B (λp:Nat × Nat × List Nat=>p.1<=n/\p.2.1<=1/\q0Y p.2.2/\p.2.2.length=p.1/\val p.2.2+B ^ p.1*p.2.1=val (u.take p.1)+val (v.take p.1)) [1,21,22] [] Lk Lk (λp=>[(23,iv p.1),(6,uv p.2.1),(5,.ow 1001 none 0 p.1)]) (λp=>[(1001,⟨142,none,p.2.2.map λz:Nat=>wv z,false⟩)]) (λp=>n-p.1) (0,0,[]) ⟨zE _,zE _,.nil,rfl,by simp [val]⟩ ?_ ?_
  .refine LeM [(1001,some 20)] rfl rfl ?_;refine Zz ?_;exact ⟨rfl,q0R rfl qpl⟩
  .rintro ⟨k,cr,o⟩ ⟨hk,hc,ho,hl,hw⟩;simp only at hk hc ho hl hw;have hd:=hu.get k;have hd':=hv.get k;unfold B at hd hd'
   by_cases hlt:k < n
   .have hlt':(k:Int) < n:=ω
    have key:∀ c,c=u.getD k 0+cr+v.getD k 0->k+1<=n/\c / 4294967296<=1/\q0Y (o ++ [c % 4294967296])/\(o ++ [c % 4294967296]).length=k+1/\val (o ++ [c % 4294967296])+B ^ (k+1)*(c / 4294967296)=val (u.take (k+1))+val (v.take (k+1)):=λc e=>⟨ω,ω,ho.snoc (zF _ q1A),by simp [hl],by
     have:=q7K (x:=u.getD k 0) (y:=v.getD k 0) hl hw;rw [show cr+u.getD k 0+v.getD k 0=c by omega] at this;rw [vts,vts];unfold B at this ⊢;omega⟩
    rcases yI k v.length with h2 | h2
    .have q2:(k:Int) < v.length:=ω
     have ap:=q1W (a:=u.getD k 0+cr+v.getD k 0) Oq;refine wk1 (x6 hlt' q2 (q1J (l:=u) (i:=k) Oq) (q1J h2) hl ap) ?_;refine ⟨(k+1,_,_),key _ rfl,by simp only; omega,?_⟩;refine LeM [(1001,some 48)] rfl rfl ?_;refine Zz ?_;exact ⟨ω,by rw [yG]⟩
    .have q2:¬ (k:Int) < v.length:=ω
     have ap:=q1W (a:=u.getD k 0+cr) Oq;refine wk1 (x5 hlt' q2 (q1J (l:=u) (i:=k) Oq) hl ap) ?_;refine ⟨(k+1,_,_),key (u.getD k 0+cr) (by rw [q4h h2]; omega),by simp only; omega,?_⟩;refine LeM [(1001,some 48)] rfl rfl ?_;refine Zz ?_;exact ⟨ω,by rw [yG]⟩
   .have hlt':¬ (k:Int) < n:=ω
    obtain rfl:k=n:=ω
    subst hl;have T1:=q0W (l:=o ++ [cr]) (ho.snoc (by unfold B; omega)) (by simp; omega);rw [q2U,hw,q0F u _ ω,q0F v _ ω,hs] at T1;have e3:cr % 4294967296=cr:=zB Oq;refine wk1 hlt' ?_;refine q4B 5 56 λK hK=>?_
    try refine Zz1 e3 ?_
    refine q1b ?_;have T2:=T1;rw [pW,uN] at T2
    try refine Zz ?_
    refine q0T T2 ?_
    try refine Zz ?_
    refine hK _ _ ?_;exact wk trivial
 by_cases h:l.length < l'.length
 .have q:(l.length:Int) < l'.length:=ω
  refine wk1 q ?_;refine fin (l',l) _ _ ⟨ha',ha,hb',by simp only; omega,by simp only; omega⟩ ?_;refine LeM [] rfl rfl ?_;exact Zy
 .have q:¬ (l.length:Int) < l'.length:=ω
  refine wk1 q ?_;refine fin (l,l') _ _ ⟨ha,ha',hb,by simp only; omega,rfl⟩ ?_;refine LeM [] rfl rfl ?_;exact Zy
def q6i {l l':List Nat} (ha:q0Y l) (ha':q0Y l') (hb:l.length<=1000000000) (hn:l'.length<=l.length) (hle:val l'<=val l):ACt 242 [pW l,pW l'] (pW (lim (val l-val l'))):=by
 refine ac0 Tryz.func242 Tryz.ntmps242 [.tmp 4] ?_;refine wk ?_;refine q0B (λp:Nat × Nat × List Nat=>p.1<=l.length/\p.2.1<=1/\q0Y p.2.2/\p.2.2.length=l.length/\val (p.2.2.take p.1)+val (l'.take p.1)=val (l.take p.1)+B ^ p.1*p.2.1) [1,5,13,14] [] Lk Lk (λp=>[(15,iv p.1),(6,uv p.2.1)]) (λp=>[(12,⟨142,none,p.2.2.map λz:Nat=>wv z,false⟩)]) (λp=>l.length-p.1) (0,0,List.replicate l.length 0) ⟨zE _,zE _,q0Y.replicate _,σ,by simp [val]⟩ ?_ ?_
 .refine LeM [] rfl rfl ?_;refine Zz ?_
  rfl
 .rintro ⟨k,br,o⟩ ⟨hk,hc,ho,hl,hw⟩;simp only at hk hc ho hl hw;have hd:=ha.get k;have hd':=ha'.get k;unfold B at hd hd'
  by_cases hlt:k < l.length
  .have hlt':(k:Int) < l.length:=ω
   have key:∀ t,t=((l.getD k 0+(18446744073709551616-br)) % 18446744073709551616+(18446744073709551616-l'.getD k 0)) % 18446744073709551616->k+1<=l.length/\t / 4294967296 % 2<=1/\q0Y (o.set k (t % 4294967296))/\(o.set k (t % 4294967296)).length=l.length/\val ((o.set k (t % 4294967296)).take (k+1))+val (l'.take (k+1))=val (l.take (k+1))+B ^ (k+1)*(t / 4294967296 % 2):=λt e=>by
    have hs:=qaH (o:=o.take k) (ltk Oq) hw hc hd hd' e;have he:t / 9223372036854775808=t / 4294967296 % 2:=ω
    refine ⟨ω,ω,ho.set _ _ (zF _ q1A),by simp [hl],?_⟩;rw [q2K _ _ (by simp; omega),q2X,zA,zO ω,vts,vts,<- he];exact hs.1
   rcases yI k l'.length with h2 | h2
   .have q2:(k:Int) < l'.length:=ω
    obtain ⟨t,ht⟩:∃ t,t=((l.getD k 0+(18446744073709551616-br)) % 18446744073709551616+(18446744073709551616-l'.getD k 0)) % 18446744073709551616:=⟨_,rfl⟩;have ap:=q1W (a:=t) Oq;have a1:=q7I (a:=t / 4294967296) Oq;rw [ht] at ap a1;refine wk1 (x6 hlt' q2 (q1J hlt) (q1J h2) hl (x3 @q40 ap a1)) ?_;refine ⟨(k+1,_,_),key _ rfl,by simp only; omega,?_⟩;refine LeM [] rfl rfl ?_;refine Zz ?_;exact ⟨ω,by rw [yG]⟩
   .have q2:¬ (k:Int) < l'.length:=ω
    have ap:=q1W (a:=(l.getD k 0+(18446744073709551616-br)) % 18446744073709551616) Oq;have a1:=q7I (a:=(l.getD k 0+(18446744073709551616-br)) % 18446744073709551616 / 4294967296) Oq;refine wk1 (x6 hlt' q2 (q1J hlt) hl @q40 (x2 ap a1)) ?_;refine ⟨(k+1,_,_),key ((l.getD k 0+(18446744073709551616-br)) % 18446744073709551616) (by rw [q4h h2]; omega),by simp only; omega,?_⟩;refine LeM [] rfl rfl ?_;refine Zz ?_;exact ⟨ω,by rw [yG]⟩
  .have hlt':¬ (k:Int) < l.length:=ω
   obtain rfl:k=l.length:=ω
   rw [q0F l _ ω,q0F l' _ ω,q0F o _ ω] at hw;have hlt2:=q12 ho;rw [hl] at hlt2;have h0:br=0:=by
    rcases zK br with h0 | h0
    .exact h0
    .have:br=1:=ω
     rw [this] at hw; omega
   rw [h0] at hw;have T1:=q0W (l:=o) ho Oq;rw [show val o=val l-val l' by omega] at T1;have tk1:((o.map λz:Nat=>wv z).take l.length)=o.map λz:Nat=>wv z:=qgb Oq;refine wk1 hlt' ?_;refine q4B 1 12 λK hK=>?_
   try refine Zz ?_
   refine q1b ?_
   try refine Zz1 tk1 ?_
   refine q0T T1 ?_
   try refine Zz ?_
   refine hK _ _ ?_;exact wk trivial
def qgc {x y n n':Nat} (hn:(lim x).length=n) (hn':(lim y).length=n') (hb:n<=400000000) (hb':n'<=400000000):ACt 240 [pW (lim x),pW (lim y)] (pW (lim (x*y))):=by
 have hp1:=@q0K x;have hp2:=@q0K y;have hs:(n:Int)+(n':Int)=((n+n':Nat):Int):=ω
 refine ac0 Tryz.func240 Tryz.ntmps240 [.tmp 4] ?_
 by_cases h0:n=0
 .have q:(n:Int)=0:=ω
  have e:lim (x*y)=[]:=by rw [show x=0 by omega,xD]; rfl
  exact wk1 (x3 hn q e) trivial
 have q1:¬ (n:Int)=0:=ω
 by_cases h0':n'=0
 .have q:(n':Int)=0:=ω
  have e:lim (x*y)=[]:=by rw [show y=0 by omega,yM]; rfl
  exact wk1 (x5 hn hn' q1 q e) trivial
 have q2:¬ (n':Int)=0:=ω
 refine wk1 (x5 hn hn' q1 q2 hs) ?_;refine q0B (λp:Nat × List Nat=>p.1<=n/\q0Y p.2/\p.2.length=n+n'/\val p.2=val ((lim x).take p.1)*y/\∀ q,p.1+n'<=q->p.2.getD q 0=0) [1,5,26,27] [] Lk Lk (λp=>[(28,iv p.1)]) (λp=>[(25,⟨142,none,p.2.map λz:Nat=>wv z,false⟩)]) (λp=>n-p.1) (0,List.replicate (n+n') 0) ⟨zE _,q0Y.replicate _,σ,by simp [val,q11],λq _=>qqB⟩ ?_ ?_
 .refine LeM [] rfl rfl ?_;refine Zz ?_
  rfl
 .rintro ⟨i,o⟩ ⟨hi,ho,hl,hv,hz⟩;simp only at hi ho hl hv hz;have hd1:=(q0C x).get i
  by_cases hlt:i < n
  .have hlt':(i:Int) < n:=ω
   refine wk1 (x3 hlt' hn' (q1J (l:=lim x) (i:=i) Oq)) ?_;refine q0B (λp:Nat × Nat × List Nat=>p.1<=n'/\p.2.1 < 4294967296/\q0Y p.2.2/\p.2.2.length=n+n'/\val p.2.2+B ^ (i+p.1)*p.2.1=val ((lim x).take i)*y+B ^ i*((lim x).getD i 0*val ((lim y).take p.1))/\∀ q,i+n'<=q->p.2.2.getD q 0=0) [1,5,6,7,26,27,28,33,34] [] Lk Lk (λp=>[(35,iv p.1),(8,uv p.2.1)]) (λp=>[(25,⟨142,none,p.2.2.map λz:Nat=>wv z,false⟩)]) (λp=>n'-p.1) (0,0,o) ⟨zE _,σ,ho,hl,by simp [hv,val],hz⟩ ?_ ?_
   .refine LeM [] rfl rfl ?_;refine Zz ?_
    rfl
   .clear hv hz hl ho;rintro ⟨j,cr,u⟩ ⟨hj,hc,ho,hl,hv,hz⟩;simp only at hj hc ho hl hv hz;have hd2:=(q0C y).get j
    by_cases hjt:j < n'
    .have hjt':(j:Int) < n':=ω
     obtain ⟨q,hq⟩:∃ q,q=i+j:=⟨_,rfl⟩;have e1:(i:Int)+(j:Int)=(q:Int):=ω
     have hd3:=ho.get q;have hbd:=q7t hc hd1 hd2 hd3;unfold B at hd1 hd2 hd3;rw [<- hq] at hv;have key:∀ c,c=(lim x).getD i 0*(lim y).getD j 0+u.getD q 0+cr->j+1<=n'/\c / 4294967296 < 4294967296/\q0Y (u.set q (c % 4294967296))/\(u.set q (c % 4294967296)).length=n+n'/\val (u.set q (c % 4294967296))+B ^ (i+(j+1))*(c / 4294967296)=val ((lim x).take i)*y+B ^ i*((lim x).getD i 0*val ((lim y).take (j+1)))/\∀ r,i+n'<=r->(u.set q (c % 4294967296)).getD r 0=0:=λc e=>by
      have key:=qa8 (x:=(lim x).getD i 0) (y:=(lim y).getD j 0) (by omega:q < u.length) hv;rw [show cr+(lim x).getD i 0*(lim y).getD j 0+u.getD q 0=c by omega] at key;refine ⟨ω,ω,ho.set _ _ (zF _ q1A),by simp [hl],?_,λr hr=>by rw [q0j ω]; exact hz r hr⟩;rw [<- xG,<- hq,vts];refine key.trans ?_;rw [hq,zW,yE,yE,xG]
      congr 2
      rw [zV,xC (B ^ j)]
     have ap:=q1W (a:=(lim x).getD i 0*(lim y).getD j 0+u.getD q 0+cr) Oq;refine wk1 (x6 hjt' e1 (q1J (l:=lim y) (i:=j) Oq) (q1J (l:=u) (i:=q) Oq) hl ap) ?_;refine ⟨(j+1,_,_),key _ rfl,by simp only; omega,?_⟩;refine LeM [] rfl rfl ?_;refine Zz ?_;exact ⟨ω,by rw [yG]⟩
    .have hjt':¬ (j:Int) < n':=ω
     obtain rfl:j=n':=ω
     have e1:(i:Int)+(j:Int)=((i+j:Nat):Int):=ω
     refine wk1 (x5 hjt' hn' e1 hl (zB hc)) ?_;refine ⟨(i+1,u.set (i+j) cr),⟨ω,ho.set _ _ hc,by simp [hl],?_,?_⟩,by simp only; omega,?_⟩
     rotate_left 2
     .refine LeM [] rfl rfl ?_;refine Zz ?_;omega
     .have h1:=q3K (o:=u) (p:=i+j) cr Oq;rw [hz (i+j) ω,yM,z9] at h1;rw [q0F (lim y) _ ω,q0D] at hv;rw [h1,hv,vts,yV,zV]
     .intro r hr;rw [q0j ω]; exact hz r ω
  .have hlt':¬ (i:Int) < n:=ω
   obtain rfl:i=n:=ω
   rw [q0F _ _ ω,q0D] at hv;have T1:=q0W (l:=o) ho Oq;rw [hv] at T1;have tk1:((o.map λz:Nat=>wv z).take (i+n'))=o.map λz:Nat=>wv z:=qgb Oq;refine wk1 hlt' ?_;refine q4B 1 25 λK hK=>?_
   try refine Zz ?_
   refine q1b ?_
   try refine Zz1 tk1 ?_
   refine q0T T1 ?_
   try refine Zz ?_
   refine hK _ _ ?_;exact wk trivial
end
section
attribute [local instance] lNL
def qlm {x n m:Nat} (hn:(lim x).length=n) (hb:n<=400000000) (hm:m<=1000000000):ACt 273 [pW (lim x),iv m] (pW (lim (x*2 ^ m))):=by
 have hp1:=@q0K x;obtain ⟨w,hw⟩:∃ w,m / 32=w:=⟨_,rfl⟩;obtain ⟨p,hp⟩:∃ p,m % 32=p:=⟨_,rfl⟩;have hp31:p < 32:=ω
 have hpp:2 ^ p<=2147483648:=zI (n:=2) Oq (show p<=31 by omega);have hp0:=q0E p;have hmm:32*w+p=m:=by rw [<- hw,<- hp]; exact uP m 32
 refine ac0 Tryz.func273 Tryz.ntmps273 [.tmp 4] ?_
 by_cases h0:n=0
 .have q:(n:Int)=0:=ω
  have e:lim (x*2 ^ m)=[]:=by rw [show x=0 by omega,xD]; rfl
  exact wk1 (x3 hn q e) trivial
 have q1:¬ (n:Int)=0:=ω
 have e1:(w:Int)+(n:Int)=((w+n:Nat):Int):=ω
 have e2:((w+n:Nat):Int)+1=((w+n+1:Nat):Int):=ω
 have eu:IntKind.u64.wrap (p:Int)=p:=u64_in Oq Oq;refine wk1 (x6 hn q1 hw hp eu (x2 e1 e2)) ?_;refine q0B (λq:Nat × List Nat=>q.1<=n/\q0Y q.2/\q.2.length=w+n+1/\val q.2=B ^ w*(2 ^ p*val ((lim x).take q.1))/\q.2.getD (w+q.1) 0 < 2 ^ p/\∀ r,w+q.1 < r->q.2.getD r 0=0) [5,6,7,25,26] [] Lk Lk (λq=>[(27,iv q.1)]) (λq=>[(24,⟨142,none,q.2.map λz:Nat=>wv z,false⟩)]) (λq=>n-q.1) (0,List.replicate (w+n+1) 0) ⟨zE _,q0Y.replicate _,σ,by simp [val,q11],by rw [qqB]; exact hp0,λ_ _=>qqB⟩ ?_ ?_
 .refine LeM [] rfl rfl ?_;refine Zz ?_
  rfl
 .rintro ⟨i,o⟩ ⟨hi,ho,hl,hv,hlo,hz⟩;simp only at hi ho hl hv hlo hz
  by_cases hlt:i < n
  .have hlt':(i:Int) < n:=ω
   have hd:=(q0C x).get i;obtain ⟨d,hde⟩:∃ d,d=(lim x).getD i 0:=⟨_,rfl⟩;have ex:=q1J (l:=lim x) (i:=i) Oq;rw [<- hde] at ex hd;unfold B at hd;have hpr:d*2 ^ p<=4294967295*2 ^ p:=zQ _ Oq;obtain ⟨t,hte⟩:∃ t,t=d*2 ^ p:=⟨_,rfl⟩;have ht64:t < 18446744073709551616:=ω
   have e3:d*2 ^ p % 18446744073709551616=t:=by rw [<- hte]; exact zB ht64
   obtain ⟨q,hq⟩:∃ q,q=w+i:=⟨_,rfl⟩;rw [<- hq] at hlo hz;have e4:(w:Int)+(i:Int)=(q:Int):=ω
   have e5:(q:Int)+1=((q+1:Nat):Int):=rfl;have hlow:o.getD q 0+t % 4294967296 < 4294967296/\o.getD q 0 ||| t % 4294967296=o.getD q 0+t % 4294967296:=by
    have e:4294967296=2 ^ p*2 ^ (32-p):=by rw [<- zW,show p+(32-p)=32 by omega]
    have hmul:t % 4294967296=2 ^ p*(d % 2 ^ (32-p)):=by rw [hte,zD d,e,Nat.mul_mod_mul_left]
    have hlt:=zF d (q0E (32-p));have h2:2 ^ p*(d % 2 ^ (32-p))+2 ^ p<=4294967296:=by rw [<- Nat.mul_succ,e]; exact zX _ hlt
    refine ⟨ω,?_⟩;rw [hmul,zD];exact q1z hlo
   have ap:=q1W (a:=t) ht64;have em:t % 4294967296 % 4294967296=t % 4294967296:=yG _ _;have hq1:t / 4294967296 < 4294967296:=ω
   have hq2:=zB hq1;have hd2:=hlow.1;refine wk1 (x6 hlt' ex e3 e4 e5 (x6 (q1J (l:=o) (i:=q) Oq) hl ap em hlow.2 hq2)) ?_;refine ⟨(i+1,(o.set q (o.getD q 0+t % 4294967296)).set (q+1) (t / 4294967296)),⟨ω,(ho.set _ _ hd2).set _ _ hq1,by simp [hl],?_,?_,?_⟩,by simp only; omega,?_⟩
   rotate_left 3
   .refine LeM [] rfl rfl ?_;refine Zz ?_;omega
   .have v1:=q3K (o:=o) (p:=q) (o.getD q 0+t % 4294967296) Oq;have v2:=q3K (o:=o.set q (o.getD q 0+t % 4294967296)) (p:=q+1) (t / 4294967296) (by simp; omega);rw [q0j ω,hz (q+1) ω,yM,z9] at v2;rw [v2,vts,<- hde];have hB:B ^ (q+1)*(t / 4294967296)=B ^ q*(4294967296*(t / 4294967296)):=by rw [xN,zV]; rfl
    have hB2:B ^ q*(t % 4294967296)+B ^ q*(4294967296*(t / 4294967296))=B ^ q*t:=by rw [<- yE,wC]
    have hB3:B ^ q*t=B ^ w*(2 ^ p*(B ^ i*d)):=by
     rw [hq,hte,zW,zV]
     congr 1
     rw [zD d,xC]
    rw [yE (B ^ q)] at v1;rw [yE,yE,<- hv,<- hB3,<- hB2,hB];omega
   .show ((o.set q (o.getD q 0+t % 4294967296)).set (q+1) (t / 4294967296)).getD (w+(i+1)) 0 < _
    rw [show w+(i+1)=q+1 by omega,zA,zO (by simp; omega)]
    show t / 4294967296 < 2 ^ p
    rw [yW ω];have:4294967295*2 ^ p < 2 ^ p*4294967296:=by rw [zD]; exact uQ ω hp0
    omega
   .intro r hr;rw [q0j ω,q0j ω]; exact hz r ω
  .have hlt':¬ (i:Int) < n:=ω
   obtain rfl:i=n:=ω
   rw [q0F _ _ ω,q0D] at hv;have T1:=q0W (l:=o) ho Oq;rw [show val o=x*2 ^ m by rw [hv,q9r,<- yZ,<- zV,<- zW,hmm,zD]] at T1;have tk1:((o.map λz:Nat=>wv z).take (w+i+1))=o.map λz:Nat=>wv z:=qgb Oq;refine wk1 hlt' ?_;refine q4B 1 24 λK hK=>?_
   try refine Zz ?_
   refine q1b ?_
   try refine Zz1 tk1 ?_
   refine q0T T1 ?_
   try refine Zz ?_
   refine hK _ _ ?_;exact wk trivial
def qao:∀ l:List Nat,∃ k,k<=l.length/\(∀ i,i < k->l.getD i 0=0)/\(k < l.length->l.getD k 0≠0)/\(k < l.length ↔ val l≠0)
 | []=>⟨0,z7 _,λ_ h=>by omega,λh=>by simp at h,by simp [val]⟩
 | d :: l=>by
  by_cases hd:d=0
  .obtain ⟨k,h1,h2,h3,h4⟩:=qao l;subst hd;refine ⟨k+1,by simpa using h1,λi hi=>?_,λh=>by simpa using h3 (by simpa using h),?_⟩
   .cases i with
    | zero=>rfl
    | succ i=>simpa using h2 i ω
   .have:val (0 :: l)=B*val l:=by simp [val]
    rw [this,xF];have:=q1A;simp only [ne_eq,wD];omega
  .refine ⟨0,zE _,λ_ h=>by omega,λ_=>by simpa using hd,?_⟩;have:val (d :: l)=d+B*val l:=rfl;rw [this,xF];omega
def qnW {l:List Nat} (hb:l.length<=1000000000):∃ r:Int,(0<=r ↔ val l≠0)/\ACt 299 [pW l,.vl (.func (.func 291) #[] #[])] (iv r):=by
 obtain ⟨k,hk,hz,hnz,hiff⟩:=qao l;have C1:∀ x:Nat,ACt 291 [wv x] (bv (decide (x≠0))):=λx=>by
  have q:((x:Int) != 0)=decide (x≠0):=bne0;refine ac0 Tryz.func291 Tryz.ntmps291 [.tmp 2] ?_;exact wk1 q trivial
 obtain ⟨n,hn⟩:∃ n,l.length=n:=⟨_,rfl⟩;refine ⟨if k < n then (k:Int) else -1,by split <;> omega,?_⟩;refine ac0 Tryz.func299 Tryz.ntmps299 [.tmp 4] ?_;refine wk1 hn ?_;refine q0B (λi=>i<=k) [0,1,7] [] Lk Lk (λi:Nat=>[(8,iv i)]) (λ_=>[]) (λi=>n-i) 0 (zE _) ?_ ?_
 .refine LeM [] rfl rfl ?_;refine Zz ?_
  rfl
 .intro i hi
  by_cases hlt:i < n
  .have hlt':(i:Int) < n:=ω
   have e1:=q1J (l:=l) (i:=i) Oq;refine wk1 hlt' ?_;refine qgP λK hK=>?_;refine Zz1 e1 ?_;refine qau qwy ?_;simp only [List.append_nil]
   try refine Zz ?_
   refine q0T (C1 _) ?_
   try refine Zz ?_
   refine hK _ _ ?_; clear hK K
   by_cases hik:i < k
   .have q:decide (l.getD i 0≠0)=false:=by simp only [hz i hik]; rfl
    refine wk1 q ?_;refine ⟨i+1,ω,ω,?_⟩;refine LeM [] rfl rfl ?_;refine Zz ?_;omega
   .obtain rfl:i=k:=ω
    have q:decide (l.getD i 0≠0)=true:=decide_eq_true (hnz Oq);rw [if_pos hlt];exact wk1 q trivial
  .have hlt':¬ (i:Int) < n:=ω
   rw [if_neg ω];exact wk1 hlt' trivial
def qfK {x n m:Nat} (hn:(lim x).length=n) (hb:n<=1000000000) (hm:m<=1000000000):ACt 274 [pW (lim x),iv m] (.tu [pW (lim (x / 2 ^ m)),bv (decide (x % 2 ^ m≠0))]):=by
 obtain ⟨w,hw⟩:∃ w,m / 32=w:=⟨_,rfl⟩;obtain ⟨p,hp⟩:∃ p,m % 32=p:=⟨_,rfl⟩;have hp31:p < 32:=ω
 have hpp:2 ^ p<=2147483648:=zI (n:=2) Oq (show p<=31 by omega);have hp0:=q0E p;have hmm:32*w+p=m:=by rw [<- hw,<- hp]; exact uP m 32
 have ha:=q0C x;have hlo:=qad ha w p Oq;have hla:=qae ha w p;have hlp:=@q0K x;rw [hmm,q0D] at hlo hla;have eu:IntKind.u64.wrap (p:Int)=p:=u64_in Oq Oq;refine ac0 Tryz.func274 Tryz.ntmps274 [.tmp 4,.tmp 5] ?_
 by_cases hwn:n<=w
 .have q:(n:Int)<=w:=ω
  have hr:=hla Oq;have e1:lim (x / 2 ^ m)=[]:=by rw [q9M]; have:=uP x (2 ^ m); rw [hr] at this; exact (wD.1 (by omega:2 ^ m*(x / 2 ^ m)=0)).resolve_left (uS (q0E m))
  rw [hr,e1]
  by_cases hx:x=0
  .have q2:¬ (0:Int) < n:=ω
   have q3:decide (x≠0)=false:=by simp [hx]
   exact wk1 (x6 hn hw hp eu q (x2 q2 q3)) trivial
  .have q2:(0:Int) < n:=ω
   have q3:decide (x≠0)=true:=by simp [hx]
   exact wk1 (x6 hn hw hp eu q (x2 q2 q3)) trivial
 have q1:¬ (n:Int)<=w:=ω
 refine wk1 (x5 hn hw hp eu q1) ?_;refine qxD ?_;refine qjM (λ_:Unit=>True) (λ_=>[(0,pW (lim x)),(6,iv w),(7,uv p),(8,bv (decide (x % 2 ^ m≠0)))]) (λ_=>[]) (λ_ _=>?_) λK fin=>?_
 .obtain ⟨k,hk⟩:∃ k,k=n-w:=⟨_,rfl⟩;have e1:(n:Int)-(w:Int)=(k:Int):=ω
  refine wk1 (x2 hn e1) ?_;refine q0B (λq:Nat × List Nat=>q.1<=k/\q0Y q.2/\q.2.length=k/\val (q.2.take q.1)+B ^ q.1*(val ((lim x).drop (w+q.1)) / 2 ^ p)=val ((lim x).drop w) / 2 ^ p) [0,6,7,8,9,44,45] [] Lk Lk (λq=>[(46,iv q.1)]) (λq=>[(43,⟨142,none,q.2.map λz:Nat=>wv z,false⟩)]) (λq=>k-q.1) (0,List.replicate k 0) ⟨zE _,q0Y.replicate _,σ,by simp [val]⟩ ?_ ?_
  .refine LeM [] rfl rfl ?_;refine Zz ?_
   rfl
  .rintro ⟨i,o⟩ ⟨hi,ho,hl,hv⟩;simp only at hi ho hl hv;obtain ⟨j,hj⟩:∃ j,j=w+i:=⟨_,rfl⟩;rw [<- hj] at hv
   by_cases hlt:i < k
   .have q2:(i:Int) < k:=ω
    have f1:(w:Int)+(i:Int)=(j:Int):=ω
    have f2:(j:Int)+1=((j+1:Nat):Int):=rfl;have hd:=ha.get j;have hd2:=ha.get (j+1);unfold B at hd hd2;obtain ⟨X,hX⟩:∃ X,X=(lim x).getD j 0+(lim x).getD (j+1) 0*4294967296:=⟨_,rfl⟩;have key:=qaN (o:=o.take i) (uR hp31) ha (ltk Oq) hv;rw [<- hX] at key;refine wk1 (x3 q2 f1 (q1J (l:=lim x) (i:=j) Oq)) ?_;refine qjM (λ_:Unit=>True) (λ_=>[(0,pW (lim x)),(6,iv w),(7,uv p),(8,bv (decide (x % 2 ^ m≠0))),(9,.ow 43 none 0 k),(10,iv i),(11,uv X),(44,.ow 43 none 0 k),(45,iv k),(46,iv i)]) (λ_=>[(43,⟨142,none,o.map λz:Nat=>wv z,false⟩)]) (λ_ _=>?_) λK1 fin1=>?_
    .have hX64:X / 2 ^ p < 18446744073709551616:=zG (yF _ _) Oq;have ap:=q1W hX64;refine wk1 (x2 ap hl) ?_;refine ⟨(i+1,o.set i (X / 2 ^ p % 4294967296)),⟨ω,ho.set _ _ (zF _ q1A),by simp [hl],?_⟩,by simp only; omega,?_⟩
     .show val ((o.set i (X / 2 ^ p % 4294967296)).take (i+1))+B ^ (i+1)*(val ((lim x).drop (w+(i+1))) / 2 ^ p)=_
      rw [q2K _ _ (by simp; omega),q2X,zA,zO ω,show w+(i+1)=j+1 by omega];exact key
     .refine LeM [] rfl rfl ?_;refine Zz ?_;exact ⟨ω,by rw [yG]⟩
    by_cases hn1:j+1 < n
    .have q3:((j+1:Nat):Int) < n:=ω
     have e6:(lim x).getD (j+1) 0*4294967296 % 18446744073709551616=(lim x).getD (j+1) 0*4294967296:=zB Oq;have e7:(lim x).getD j 0 ||| (lim x).getD (j+1) 0*4294967296=X:=by rw [hX]; exact q1z (k:=32) hd
     refine wk1 (x6 f1 f2 q3 hn (q1J (l:=lim x) (i:=j+1) Oq) (x2 e6 e7)) ?_;refine fin1 () _ _ trivial ?_;refine LeM [] rfl rfl ?_;exact Zy
    .have q3:¬ ((j+1:Nat):Int) < n:=ω
     refine wk1 (x4 f1 f2 q3 hn) ?_;refine fin1 () _ _ trivial ?_;refine LeM [] rfl rfl ?_;refine Zz ?_;rw [hX,q4h (i:=j+1) ω]; omega
   .have q2:¬ (i:Int) < k:=ω
    obtain rfl:i=k:=ω
    have hd0:val ((lim x).drop j)=0:=by rw [zN ω]; rfl
    rw [hd0,Nat.zero_div,yM,z9,q2V ha,q0D,xZ,q9r,<- yZ,<- zW,hmm,q0F _ _ ω] at hv;have T1:=q0W (l:=o) ho Oq;rw [hv] at T1;have tk1:((o.map λz:Nat=>wv z).take i)=o.map λz:Nat=>wv z:=qgb Oq;refine wk1 q2 ?_;refine q4B 1 43 λK hK=>?_
    try refine Zz ?_
    refine q1b ?_
    try refine Zz1 tk1 ?_
    refine q0T T1 ?_
    try refine Zz ?_
    refine hK _ _ ?_;exact wk trivial
 .obtain ⟨r,hr,C1⟩:=qnW (l:=(lim x).take w) (by rw [yN]; omega);have C2:ACt 290 [pW ((lim x).take w),.vl (.func (.func 291) #[] #[])] (bv (decide (val ((lim x).take w)≠0))):=by
   by_cases h:val ((lim x).take w)≠0
   .have q:=hr.2 h;rw [decide_eq_true h];refine ac0 Tryz.func290 Tryz.ntmps290 [.tmp 4] ?_;exact wk1 q trivial
   .have q:¬ 0<=r:=λh2=>h (hr.1 h2);rw [decide_eq_false h];refine ac0 Tryz.func290 Tryz.ntmps290 [.tmp 4] ?_;exact wk1 q trivial
  have es:=qmO (l:=lim x) (m:=w) Oq;have hd:=ha.get w
  by_cases hz:val ((lim x).take w)=0
  .have q2:decide (val ((lim x).take w)≠0)=false:=by simp [hz]
   rw [q2] at C2;have p1:IntKind.u32.wrap (((2 ^ p:Nat):Int)-1)=((2 ^ p-1:Nat):Int):=qdH hp0 Oq;have p2:q0d .and .u32 (((lim x).getD w 0:Nat):Int) ((2 ^ p-1:Nat):Int)=(((lim x).getD w 0 % 2 ^ p:Nat):Int):=by rw [qbX hd ω,yU]
   have p3:((((lim x).getD w 0 % 2 ^ p:Nat):Int) != 0)=decide (x % 2 ^ m≠0):=by
    rw [bne0];refine decide_eq_decide.2 ?_;simp only [hz,true_and] at hlo;omega
   refine wk1 (x5 es (q1J (l:=lim x) (i:=w) Oq) p1 p2 p3) ?_;refine fin () _ _ trivial ?_;refine LeM [] rfl rfl ?_;exact Zy
  .have q2:decide (val ((lim x).take w)≠0)=true:=by simp [hz]
   rw [q2] at C2;have q3:decide (x % 2 ^ m≠0)=true:=decide_eq_true λh=>hz (hlo.1 h).1;refine wk1 es ?_;refine fin () _ _ trivial ?_;refine LeM [] rfl rfl ?_;refine Zz ?_;exact q3.symm
end
section
attribute [local instance] lNL
def q8G {z:Int} (h1 : -9223372036854775808<=z) (h2:z<=9223372036854775807):ACt 132 [iv z] (zT z):=by
 have hv:val [z.natAbs % 4294967296,z.natAbs / 4294967296 % 4294967296]=z.natAbs:=by simp only [val,B]; omega
 have C1:=q2D (s:=decide (z < 0)) (l:=[z.natAbs % 4294967296,z.natAbs / 4294967296 % 4294967296]) (λd hd=>by simp at hd; unfold B; omega) σ;rw [hv,q07] at C1;have ap:=q1W (a:=z.natAbs) Oq;have em:=yG z.natAbs 4294967296;refine ac0 Tryz.func132 Tryz.ntmps132 [.cell 2 42] ?_;refine wk ?_;refine qjM (λ_:Unit=>True) (λ_=>[(0,iv z),(2,.pt 2 0 0),(3,uv (z.natAbs:Nat))]) (λ_=>[(2,⟨42,some 2,[.ag [bv false,q05]],false⟩)]) (λ_ _=>?_) λK fin=>?_
 .refine q4B 9 18 λK hK=>?_
  try refine Zz2 ap em ?_
  refine q1b ?_
  try refine Zz ?_
  refine q0T C1 ?_
  try refine Zz ?_
  refine hK _ _ ?_;exact wk trivial
 by_cases hn:z < 0
 .have e1:IntKind.u64.wrap (0-IntKind.u64.wrap z)=((z.natAbs:Nat):Int):=by rw [q0s z,q0s]; omega
  refine wk1 hn ?_;refine fin () _ _ trivial ?_;refine LeM [] rfl rfl ?_;refine Zz ?_;exact e1
 .have e1:IntKind.u64.wrap z=((z.natAbs:Nat):Int):=by rw [u64_in ω ω]; omega
  refine wk1 hn ?_;refine fin () _ _ trivial ?_;refine LeM [] rfl rfl ?_;refine Zz ?_;exact e1
section
variable {a b:Int} {s t:Bool}
def qaj {x y:Nat} (hx:bl x<=20000000) (hy:bl y<=20000000):ACt 202 [.ag [bv s,pW (lim x)],.ag [bv t,pW (lim y)]] (zT (sgn s x+sgn t y)):=by
 have ma:=q6J hx;have mb:=q6J hy;have la:=q3G hx;have lb:=q3G hy;have T1:=q0W (q0C x) la;have T2:=q0W (q0C y) lb;rw [q0D] at T1 T2
 by_cases hst:s=t
 .have C1:=q9E (q0C x) (q0C y) Oq Oq;rw [q0D,q0D] at C1;have h1:(lim (x+y)).length<=max (lim x).length (lim y).length+1:=q0e (qlG (bpw (Nat.le_max_left _ _)) (bpw (Nat.le_max_right _ _)));have C2:=q2D (s:=s) (q0C (x+y)) Oq;rw [q0D] at C2;subst hst;rw [show sgn s x+sgn s y=sgn s (x+y) by cases s <;> simp [sgn] <;> omega];refine ac0 Tryz.func202 Tryz.ntmps202 [.cell 4 42] ?_;refine wk ?_;cases s
  .exact wk trivial
  .exact wk trivial
 .have C1:=q4U la lb;have w1:(false == true)=false:=rfl;have w2:(true == false)=false:=rfl;have key:∀ (u:Bool) (x y:Nat),(lim x).length<=1000000000->ACt 212 [bv u,pW (lim (x-y))] (zT (sgn u (x-y))):=λu x y hl=>by
   have C2:=q2D (s:=u) (q0C (x-y)) (z8 (q0b (Nat.sub_le x y)) hl)
   rwa [q0D] at C2
  obtain rfl:t=!s:=by cases s <;> cases t <;> simp_all
  by_cases hle:y<=x
  .have q:=qf1 hle;have C3:=q6i (q0C x) (q0C y) la (q0b hle) (by rw [q0D,q0D]; exact hle);rw [q0D,q0D] at C3;have C4:=key s x y la;rw [show sgn s x+sgn (!s) y=sgn s (x-y) by cases s <;> simp [sgn] <;> omega];refine ac0 Tryz.func202 Tryz.ntmps202 [.cell 4 42] ?_;refine wk ?_;cases s
   .exact wk1 (x3 w1 w2 q) trivial
   .exact wk1 (x3 w1 w2 q) trivial
  .have q:=qf0 hle;have C3:=q6i (q0C y) (q0C x) lb (q0b ω) (by rw [q0D,q0D]; omega);rw [q0D,q0D] at C3;have C4:=key (!s) y x lb;rw [show sgn s x+sgn (!s) y=sgn (!s) (y-x) by cases s <;> simp [sgn] <;> omega];refine ac0 Tryz.func202 Tryz.ntmps202 [.cell 4 42] ?_;refine wk ?_;cases s
   .exact wk1 (x3 w1 w2 q) trivial
   .exact wk1 (x3 w1 w2 q) trivial
def qh8 (hs:s=decide (a < 0)) (ht:t=decide (b < 0)) (ha:bl a.natAbs<=20000000) (hb:bl b.natAbs<=20000000):ACt 202 [yT s a,yT t b] (zT (a+b)):=by
 have:=qaj (s:=s) (t:=t) ha hb
 rwa [hs,ht,q07,q07,<- hs,<- ht] at this
def qh2 (hs:s=decide (a < 0)) (ht:t=decide (b < 0)) (ha:bl a.natAbs<=20000000) (hb:bl b.natAbs<=20000000):ACt 292 [yT s a,yT t b] (zT (a-b)):=by
 have C2:=qaj (s:=s) (t:=!t) ha hb;rw [hs,ht,q07,q8t,<- Int.sub_eq_add_neg,<- hs,<- ht] at C2;refine ac0 Tryz.func292 Tryz.ntmps292 [.cell 4 42] ?_;exact wk trivial
def qh7 (hs:s=decide (a < 0)) (ht:t=decide (b < 0)) (ha:bl a.natAbs<=20000000) (hb:bl b.natAbs<=20000000):ACt 197 [yT s a,yT t b] (iv (a-b).sign):=by
 have T1:=q0W (q0C a.natAbs) (q3G ha);have T2:=q0W (q0C b.natAbs) (q3G hb);rw [q0D] at T1 T2;have C1:=q5Y hs ha;have C2:=q5Y ht hb;have C3:=q4U (q3G ha) (q3G hb);have hsg:∀ z:Int,(z < 0/\z.sign = -1)\/(z=0/\z.sign=0)\/(0 < z/\z.sign=1):=λz=>by
  rcases xS z 0 with h | h | h
  .exact .inl ⟨h,uK h⟩
  .exact .inr (.inl ⟨h,by rw [h]; rfl⟩)
  .exact .inr (.inr ⟨h,zM h⟩)
 have hc:∀ x y:Nat,(x < y/\q2c x y = -1)\/(x=y/\q2c x y=0)\/(y < x/\q2c x y=1):=λx y=>by
  unfold q2c; split
  .exact .inl ⟨by assumption,rfl⟩
  .split
   .exact .inr (.inl ⟨by assumption,rfl⟩)
   .exact .inr (.inr ⟨ω,rfl⟩)
 by_cases h1:a.sign < b.sign
 .have q:(a-b).sign = -1:=by rcases hsg a with h | h | h <;> rcases hsg b with h' | h' | h' <;> rcases hsg (a-b) with h2 | h2 | h2 <;> omega
  refine ac0 Tryz.func197 Tryz.ntmps197 [.tmp 4] ?_;exact wk1 (x2 h1 q) trivial
 by_cases h2:b.sign < a.sign
 .have q:(a-b).sign=1:=by rcases hsg a with h | h | h <;> rcases hsg b with h' | h' | h' <;> rcases hsg (a-b) with h2 | h2 | h2 <;> omega
  refine ac0 Tryz.func197 Tryz.ntmps197 [.tmp 4] ?_;exact wk1 (x3 h1 h2 q) trivial
 have q0:a.sign*q2c a.natAbs b.natAbs=(a-b).sign:=by
  rcases hsg a with h | h | h <;> rcases hsg b with h' | h' | h' <;> rcases hsg (a-b) with h2 | h2 | h2 <;> rcases hc a.natAbs b.natAbs with h3 | h3 | h3 <;> rw [h.2,h2.2,h3.2] <;> omega
 have q:IntKind.i64.wrap (a.sign*q2c a.natAbs b.natAbs)=(a-b).sign:=by
  rw [q0]
  rcases hsg (a-b) with h | h | h <;> rw [h.2] <;> rfl
 refine ac0 Tryz.func197 Tryz.ntmps197 [.tmp 4] ?_;exact wk1 (x3 h1 h2 q) trivial
def qh5 (hs:s=decide (a < 0)) (ht:t=decide (b < 0)) (ha:bl a.natAbs<=20000000) (hb:bl b.natAbs<=20000000):ACt 201 [yT s a,yT t b] (zT (a*b)):=by
 have ma:=q6J ha;have mb:=q6J hb;have T1:=q0W (q0C a.natAbs) (q3G ha);have T2:=q0W (q0C b.natAbs) (q3G hb);rw [q0D] at T1 T2;have C1:=qgc (x:=a.natAbs) (y:=b.natAbs) rfl rfl Oq Oq;have hl:(lim (a.natAbs*b.natAbs)).length<=(lim a.natAbs).length+(lim b.natAbs).length:=q0e (by rw [zW]; exact xW (q00 _) (q00 _));have C2:=q2D (s:=s != t) (q0C (a.natAbs*b.natAbs)) Oq;rw [q0D,hs,ht,<- qdV,q07,q07] at C2;subst hs ht;refine ac0 Tryz.func201 Tryz.ntmps201 [.cell 4 42] ?_;exact wk trivial
def q9Q (ha:bl a.natAbs<=20000000):ACt 233 [yT s a] (iv (bl a.natAbs:Nat)):=by
 have T1:=q0W (q0C a.natAbs) (q3G ha);rw [q0D] at T1;have hp:=@q0K a.natAbs;have mb:=q6J ha;obtain ⟨n,hn⟩:∃ n,(lim a.natAbs).length=n:=⟨_,rfl⟩;have T2:ACt 271 [pW (lim a.natAbs)] (iv (bl a.natAbs:Nat)):=by
  by_cases h0:a.natAbs=0
  .have q:((lim a.natAbs).length:Int)=0:=by rw [h0]; rfl
   have q2:((bl a.natAbs:Nat):Int)=0:=by rw [h0]; rfl
   refine ac0 Tryz.func271 Tryz.ntmps271 [.tmp 2] ?_;exact wk1 (x2 q q2) trivial
  .have hd:=(q0C a.natAbs).get (n-1);have e1:=q1J (l:=lim a.natAbs) (i:=n-1) Oq;have e2:(n:Int)-1=(n-1:Nat):=ω
   have q:(n:Int)≠0:=ω
   have hb:=q6O h0;have hb2:=q0O (n:=(lim a.natAbs).getD (n-1) 0) (k:=32) hd;have C1:=qah (x:=(lim a.natAbs).getD (n-1) 0) hd;rw [hn] at hb;have e3:((n-1:Nat):Int)*32=((32*(n-1):Nat):Int):=ω
   have e4:((32*(n-1):Nat):Int)+(bl ((lim a.natAbs).getD (n-1) 0):Nat)=(bl a.natAbs:Nat):=ω
   refine ac0 Tryz.func271 Tryz.ntmps271 [.tmp 2] ?_;exact wk1 (x6 hn q e1 e2 e3 e4) trivial
 refine ac0 Tryz.func233 Tryz.ntmps233 [.tmp 2] ?_;exact wk trivial
def qnX (ha:bl a.natAbs<=20000000):ACt 232 [yT s a] (iv (tz a.natAbs:Nat)):=by
 have mb:=q6J ha;obtain ⟨n,hn⟩:∃ n,(lim a.natAbs).length=n:=⟨_,rfl⟩;refine ac0 Tryz.func232 Tryz.ntmps232 [.tmp 2] ?_;refine wk1 hn ?_;refine q0B (λk=>k<=n/\val ((lim a.natAbs).take k)=0) [6,7] [] Lk Lk (λk:Nat=>[(8,iv k)]) (λ_=>[]) (λk=>n-k) 0 ⟨zE _,rfl⟩ ?_ ?_
 .refine LeM [] rfl rfl ?_;refine Zz ?_
  rfl
 .rintro k ⟨hk,hv⟩
  by_cases hlt:k < n
  .have q1:(k:Int) < n:=ω
   have e1:=q1J (l:=lim a.natAbs) (i:=k) Oq;have hd:=(q0C a.natAbs).get k
   by_cases hz:(lim a.natAbs).getD k 0=0
   .have q2:(((lim a.natAbs).getD k 0:Nat):Int)=0:=ω
    refine wk1 (x3 q1 e1 q2) ?_;refine ⟨k+1,⟨ω,q4Z.2 ⟨hv,hz⟩⟩,ω,?_⟩;refine LeM [] rfl rfl ?_;refine Zz ?_;omega
   .have q2:(((lim a.natAbs).getD k 0:Nat):Int)≠0:=ω
    have htv:=qjT (q0C a.natAbs) Oq hv hz;rw [q0D] at htv;have hlt32:=q6W hz hd;have C1:=qco (x:=(lim a.natAbs).getD k 0) Oq hd;have e3:(k:Int)*32=((32*k:Nat):Int):=ω
    have e4:((32*k:Nat):Int)+(tz ((lim a.natAbs).getD k 0):Nat)=(tz a.natAbs:Nat):=ω
    exact wk1 (x5 q1 e1 q2 e3 e4) trivial
  .have q1:¬ (k:Int) < n:=ω
   rw [q0F _ _ ω,q0D] at hv;have q2:((tz a.natAbs:Nat):Int)=0:=by rw [hv]; rfl
   exact wk1 (x2 q1 q2) trivial
def qbs {m:Int} (hs:s=decide (a < 0)) (ha:bl a.natAbs<=20000000) (h1 : -1048576<=m) (h2:m<=1048576):ACt 243 [yT s a,iv m] (.tu [zT (shI a m),iv 0]):=by
 have T1:=q0W (q0C a.natAbs) (q3G ha);rw [q0D] at T1;have mb:=q6J ha;have q1:¬ m < -1048576:=ω
 have q2:¬ 1048576 < m:=ω
 by_cases hm:0<=m
 .obtain ⟨k,rfl⟩:∃ k:Nat,m=k:=⟨m.toNat,ω⟩;have C1:=qlm (x:=a.natAbs) (m:=k) rfl Oq Oq;have hbl:bl (a.natAbs*2 ^ k)<=30000000:=by
   by_cases h0:a.natAbs=0
   .rw [h0,xD]; simp [q0m]
   .rw [q1F h0]; omega
  have C2:=q2D (s:=s) (q0C (a.natAbs*2 ^ k)) (by rw [q8B]; omega);rw [q0D,hs,<- qjn,<- hs] at C2;clear hs;refine ac0 Tryz.func243 Tryz.ntmps243 [.cell 4 42,.tmp 5] ?_;exact wk1 (x3 q1 q2 hm) trivial
 .obtain ⟨k,rfl⟩:∃ k:Nat,m = -(k:Int):=⟨(-m).toNat,ω⟩;have C1:=qfK (x:=a.natAbs) (m:=k) rfl Oq Oq;have hle:(lim (a.natAbs / 2 ^ k)).length<=700000:=z8 (q0b (yF _ _)) mb;have C3:=q9E (l:=lim (a.natAbs / 2 ^ k)) (l':=[1]) (q0C _) (.one q85) ω σ;rw [q0D,q5G] at C3;have hle2:(lim (a.natAbs / 2 ^ k+1)).length<=700001:=z8 (q0e (zG (q00 _) (xJ q85 (Nat.lt_succ_self _)))) (Nat.succ_le_succ hle);have C2:=q2D (s:=s) (q0C (a.natAbs / 2 ^ k)) Oq;have C4:=q2D (s:=s) (q0C (a.natAbs / 2 ^ k+1)) Oq;rw [q0D] at C2 C4;have e1:(0:Int) - -(k:Int)=k:=ω
  rw [qjo,<- hs];cases hd:decide (a.natAbs % 2 ^ k≠0) <;> rw [hd] at C1 <;> clear hs <;> cases s <;> simp only [yQ,false_and,and_false,and_self,if_false,if_true,wP]
  .refine ac0 Tryz.func243 Tryz.ntmps243 [.cell 4 42,.tmp 5] ?_;exact wk1 (x4 q1 q2 hm e1) trivial
  .refine ac0 Tryz.func243 Tryz.ntmps243 [.cell 4 42,.tmp 5] ?_;exact wk1 (x4 q1 q2 hm e1) trivial
  .refine ac0 Tryz.func243 Tryz.ntmps243 [.cell 4 42,.tmp 5] ?_;exact wk1 (x4 q1 q2 hm e1) trivial
  .rw [show sgn true (a.natAbs / 2 ^ k+1)=sgn true (a.natAbs / 2 ^ k)-1 by simp only [sgn,if_true]; omega] at C4;refine ac0 Tryz.func243 Tryz.ntmps243 [.cell 4 42,.tmp 5] ?_;refine wk1 (x4 q1 q2 hm e1) ?_;refine qxE 2 40 λK hK=>?_
   try refine Zz ?_
   refine q1b ?_
   try refine Zz ?_
   refine q0T C3 ?_
   try refine Zz ?_
   refine hK _ _ ?_;exact wk trivial
end
end
end Go.Proofs.YtbjoghfmhgadkaaGreatDoor
namespace Go.Sp
open Go.E
section
def cpS (us o:List Nat) (j i:Nat):List Nat:=us.take j ++ o.take i ++ us.drop (j+i)
def qbC {us o:List Nat} {j i:Nat} (h:j+i<=us.length) (ho:i<=o.length):(cpS us o j i).length=us.length:=by
 simp [cpS]; omega
def quY {us o:List Nat} {j i:Nat} (h:j+i < us.length) (ho:i < o.length):(cpS us o j i).set (j+i) (o.getD i 0)=cpS us o j (i+1):=by
 unfold cpS;rw [List.set_append_right _ _ (by simp; omega),q2K _ _ ho,yH ω,show j+i-(us.take j ++ o.take i).length=0 by simp; omega,List.set_cons_zero,show j+i+1=j+(i+1) by omega];simp
def tkS (us:List Nat) (n V j:Nat):List Nat:=if V<=val ((us.drop j).take (n+1)) then cpS us (dgs (n+1) (val ((us.drop j).take (n+1))-V)) j (n+1) else us
section
variable {us:List Nat} {n V j:Nat}
def qjW (h:j+n+1<=us.length):(tkS us n V j).length=us.length:=by
 unfold tkS; split
 .rw [qbC ω (by rw [q0x]; omega)]
 .rfl
def qqt (ha:q0Y us):q0Y (tkS us n V j):=by
 unfold tkS; split
 .exact ((ha.take j).append (q1q.take _)).append (ha.drop _)
 .exact ha
def qjV (h:j+n+1<=us.length) {o:List Nat} (ho:o.length=n+1):((cpS us o j (n+1)).drop j).take (n+1)=o:=by
 unfold cpS;rw [List.append_assoc,List.drop_append_of_le_length (by simp; omega),zN (by simp; omega),List.nil_append,yL (l:=o) ω,List.take_append_of_le_length ω,yL ω]
def qqr (ha:q0Y us) (h:j+n+1<=us.length) (hV:V<=val ((us.drop j).take (n+1))):val (((tkS us n V j).drop j).take (n+1))=val ((us.drop j).take (n+1))-V:=by
 have h1:=q12 ((ha.drop j).take (n+1));rw [yN,uM,show min (n+1) (us.length-j)=n+1 by omega] at h1;rw [tkS,if_pos hV,qjV h q0x,q1p ω]
def tk_un (h:j+n+1<=us.length) {k:Nat} (hk:k < j\/j+n < k):(tkS us n V j).getD k 0=us.getD k 0:=by
 unfold tkS; split
 .unfold cpS;rw [zA,zA,uL,uL];have e1:(us.take j ++ (dgs (n+1) (val ((us.drop j).take (n+1))-V)).take (n+1)).length=j+n+1:=by simp [q0x]; omega
  have e2:(us.take j).length=j:=by simp; omega
  rw [e1,e2]
  rcases hk with hk | hk
  .rw [if_pos ω,if_pos hk,wO,if_pos hk]
  .rw [if_neg ω,y9,show j+(n+1)+(k-(j+n+1))=k by omega]
 .rfl
end
def qqs {u P b t:Nat} (hu:u < 4294967296) (hb:b<=1) (ht:t=((u+(18446744073709551616-b)) % 18446744073709551616+(18446744073709551616-P % 4294967296)) % 18446744073709551616) :
  t=(u+18446744073709551616-P % 4294967296-b) % 18446744073709551616/\t / 9223372036854775808=t / 4294967296 % 2:=by
 have:=zF P (show 0 < 4294967296 by omega);generalize P % 4294967296=m at *;omega
end
end Go.Sp
namespace Go.Proofs.YtbjoghfmhgadkaaGreatDoor
open Go Go.E Go.Sp
section
attribute [local instance] lNL
def qlt {us vs:List Nat} {n j q:Nat} (ha:q0Y us) (hv:q0Y vs) (hn:vs.length=n) (hj:j+n+1<=us.length) (hm:us.length<=1000000000) (hn1:1<=n) (hq:q < 4294967296) :
  AI 300 [.ow 5000 none 0 us.length,pW vs,iv j,uv q] 142 (us.map λz:Nat=>wv z) (bv (decide (q*val vs<=val ((us.drop j).take (n+1))))) ((tkS us n (q*val vs) j).map λz:Nat=>wv z):=by
 have en1:(n:Int)+1=((n+1:Nat):Int):=rfl;refine ai0 Tryz.func300 Tryz.ntmps300 [.tmp 8] clW clW (by simp [qjW hj]) ?_;refine wk1 (x2 hn en1) ?_;refine q0B (λp:Nat × Nat × Nat × List Nat=>p.1<=n+1/\p.2.1 < 4294967296/\(p.1=n+1->p.2.1=0)/\p.2.2.1<=1/\q0Y p.2.2.2/\p.2.2.2.length=n+1/\val (p.2.2.2.take p.1)+q*val (vs.take p.1)=val ((us.drop j).take p.1)+B ^ p.1*(p.2.1+p.2.2.1)) [0,1,2,3,9,10] [5000] Lk Lk (λp=>[(13,iv p.1),(12,uv p.2.1),(11,uv p.2.2.1)]) (λp=>[(20,⟨142,none,p.2.2.2.map λz:Nat=>wv z,false⟩)]) (λp=>n+1-p.1) (0,0,0,List.replicate (n+1) 0) ⟨zE _,σ,λ_=>rfl,zE _,q0Y.replicate _,σ,by simp [val]⟩ ?_ ?_
 .refine LeM [] rfl rfl ?_;refine Zz ?_
  rfl
 .rintro ⟨i,cr,br,o⟩ ⟨hi,hc,hc0,hb,ho,hl,hw⟩;simp only at hi hc hc0 hb ho hl hw
  by_cases hlt:i<=n
  .have q1:(i:Int)<=n:=ω
   obtain ⟨x,hx⟩:∃ x,x=vs.getD i 0:=⟨_,rfl⟩;have hdx:x < 4294967296:=by rw [hx]; exact hv.get i
   have hqx:q*x<=4294967295*4294967295:=yS Oq Oq;obtain ⟨P,hP⟩:∃ P,P=q*x+cr:=⟨_,rfl⟩;have hdu:us.getD (j+i) 0 < 4294967296:=ha.get (j+i);refine wk1 q1 ?_;refine qjM (λ_:Unit=>True) (λ_=>[(0,.ow 5000 none 0 us.length),(1,pW vs),(2,iv j),(3,uv q),(9,iv n),(10,.ow 20 none 0 (n+1)),(11,uv br),(12,uv P),(13,iv i)]) (λ_=>[(5000,⟨142,none,us.map λz:Nat=>wv z,false⟩),(20,⟨142,none,o.map λz:Nat=>wv z,false⟩)]) (λ_ _=>?_) λK fin=>?_
   .have e1:(i:Int)+(j:Int)=((j+i:Nat):Int):=ω
    have ap:=q1W (a:=P) Oq;have key:∀ t,t=((us.getD (j+i) 0+(18446744073709551616-br)) % 18446744073709551616+(18446744073709551616-P % 4294967296)) % 18446744073709551616->i+1<=n+1/\P / 4294967296 < 4294967296/\(i+1=n+1->P / 4294967296=0)/\t / 9223372036854775808<=1/\q0Y (o.set i (t % 4294967296))/\(o.set i (t % 4294967296)).length=n+1/\val ((o.set i (t % 4294967296)).take (i+1))+q*val (vs.take (i+1))=val ((us.drop j).take (i+1))+B ^ (i+1)*(P / 4294967296+t / 9223372036854775808):=λt ht=>by
     obtain ⟨ht1,ht2⟩:=qqs hdu hb ht;rw [hP] at ht1;have key:=q7w hw hdu hb ht1;have hset:(o.set i (t % 4294967296)).getD i 0=t % 4294967296:=by rw [zA,zO ω]; rfl
     refine ⟨ω,yK ω,λh=>?_,ω,ho.set _ _ (zF _ q1A),by simp [hl],?_⟩
     .have:x=0:=by rw [hx,q4h ω]
      rw [hP,this,yM,zH];exact yO hc
     .rw [vts,hset,q2X,vts vs,q2E us,<- hx,hP,ht2];exact key
    refine wk1 (x5 e1 (q1J (l:=us) (i:=j+i) Oq) ap @q40 hl) ?_;refine ⟨(i+1,_,_,_),key _ rfl,by simp only; omega,?_⟩;refine LeM [] rfl rfl ?_;refine Zz ?_;omega
   by_cases hin:i < n
   .have q2:(i:Int) < n:=ω
    have e2:=q1J (l:=vs) (i:=i) Oq;rw [<- hx] at e2;have hP2:cr+q*x=P:=ω
    refine wk1 (x3 q2 e2 hP2) ?_;refine fin () _ _ trivial ?_;refine LeM [] rfl rfl ?_;exact Zy
   .have q2:¬ (i:Int) < n:=ω
    have hPc:P=cr:=by rw [hP,hx,q4h ω]; omega
    refine wk1 q2 ?_;refine fin () _ _ trivial ?_;refine LeM [] rfl rfl ?_;refine Zz ?_;omega
  .have q1:¬ (i:Int)<=n:=ω
   obtain rfl:i=n+1:=ω
   have hcz:=hc0 rfl;subst hcz;rw [q0F vs (n+1) ω,q0F o (n+1) ω,zH] at hw;have hWM:val o < B ^ (n+1):=by rw [<- hl]; exact q12 ho
   have hUM:val ((us.drop j).take (n+1)) < B ^ (n+1):=by
    have:=q12 ((ha.drop j).take (n+1))
    rwa [yN,uM,show min (n+1) (us.length-j)=n+1 by omega] at this
   unfold tkS;generalize hU:val ((us.drop j).take (n+1))=U at *;generalize q*val vs=V at *;generalize hM:B ^ (n+1)=M at *
   by_cases hb0:br=0
   .subst hb0;have hle:V<=U:=ω
    have eo:dgs (n+1) (U-V)=o:=(q3l ho hl Oq).symm;rw [if_pos hle,eo,decide_eq_true hle];refine wk1 q1 ?_;refine q0B (λi=>i<=n+1) [0,2,9,10] [20] Lk Lk (λi:Nat=>[(15,iv i)]) (λi=>[(5000,⟨142,none,(cpS us o j i).map λz:Nat=>wv z,false⟩)]) (λi=>n+1-i) 0 (zE _) ?_ ?_
    .refine LeM [] rfl rfl ?_;refine Zz ?_;refine ⟨rfl,?_⟩;simp [cpS]
    .intro i hi
     by_cases hin:i < n+1
     .have q2:(i:Int)<=n:=ω
      have e1:(i:Int)+(j:Int)=((j+i:Nat):Int):=ω
      have hcl:=qbC (us:=us) (o:=o) (j:=j) (i:=i) Oq Oq;refine wk1 (x4 q2 e1 (q1J (l:=o) (i:=i) Oq) hcl) ?_;refine ⟨i+1,ω,ω,?_⟩;refine LeM [] rfl rfl ?_;refine Zz ?_;exact ⟨ω,quY Oq Oq⟩
     .have q2:¬ (i:Int)<=n:=ω
      obtain rfl:i=n+1:=ω
      refine wk1 q2 ?_;refine qaT rfl rfl
   .have hb1:br=1:=ω
    subst hb1;have hle:¬ V<=U:=ω
    rw [if_neg hle,decide_eq_false hle];refine wk1 q1 ?_;refine qaT rfl rfl
end
end Go.Proofs.YtbjoghfmhgadkaaGreatDoor
namespace Go.Sp
open Go.E
section
def cp_un {us o:List Nat} {n j k:Nat} (h:j+n+1<=us.length) (ho:o.length=n+1) (hk:k < j\/j+n < k):(cpS us o j (n+1)).getD k 0=us.getD k 0:=by
 unfold cpS;rw [zA,zA,uL,uL];have e1:(us.take j ++ o.take (n+1)).length=j+n+1:=by simp; omega
 have e2:(us.take j).length=j:=by simp; omega
 rw [e1,e2]
 rcases hk with hk | hk
 .rw [if_pos ω,if_pos hk,wO,if_pos hk]
 .rw [if_neg ω,y9,show j+(n+1)+(k-(j+n+1))=k by omega]
def cp_of {us o:List Nat} {j n W:Nat} (hj:j+n+1<=us.length) (hl:o.length=us.length) (ho:q0Y o) (hun:∀ k,k < j\/j+n < k->o.getD k 0=us.getD k 0) (hW:val ((o.drop j).take (n+1))=W):o=cpS us (dgs (n+1) W) j (n+1):=by
 have h1:(o.drop j).take (n+1)=dgs (n+1) W:=q3l ((ho.drop j).take _) (by simp; omega) hW;have e1:o.take j=us.take j:=qav hl λk hk=>hun k (.inl hk);have e2:o.drop (j+(n+1))=us.drop (j+(n+1)):=q6w hl λk hk=>hun k (.inr Oq);unfold cpS;rw [yL (l:=dgs _ _) (by rw [q0x]; omega),<- h1,<- e1,<- e2,List.append_assoc,<- List.drop_drop,wG,wG]
end
end Go.Sp
namespace Go.Proofs.YtbjoghfmhgadkaaGreatDoor
open Go Go.E Go.Sp
section
attribute [local instance] lNL
def qgn {x d:Nat} (hm:(lim x).length<=1000000) (hd0:d≠0) (hd:d < 4294967296):ACt 293 [pW (lim x),wv d] (.tu [pW (lim (x / d)),wv (x % d:Nat)]):=by
 obtain ⟨n,hn⟩:∃ n,(lim x).length=n:=⟨_,rfl⟩;have T1:=λ(o:List Nat) (h1:q0Y o) (h2:o.length=n)=>q0W h1 Oq;have e7:((d:Int)=0)=False:=eq_false Oq;have e8:(d=0)=False:=eq_false hd0;have hX:val ((lim x).drop n)=0:=by rw [zN ω]; rfl
 refine ac0 Tryz.func293 Tryz.ntmps293 [.tmp 4,.tmp 5] ?_;refine wk1 hn ?_;refine q0B (λp:Nat × Nat × List Nat=>p.1<=n/\p.2.1 < d/\q0Y p.2.2/\p.2.2.length=n/\d*val (p.2.2.drop p.1)+p.2.1=val ((lim x).drop p.1)/\∀ k,k < p.1->p.2.2.getD k 0=0) [0,1,6] [] Lk Lk (λp=>[(8,iv ((p.1:Int)-1)),(7,uv p.2.1)]) (λp=>[(12,⟨142,none,p.2.2.map λz:Nat=>wv z,false⟩)]) (λp=>p.1) (n,0,List.replicate n 0) ⟨z7 _,by simp only; omega,q0Y.replicate _,σ,by rw [hX,zN σ]; simp [val],λk _=>qqB⟩ ?_ ?_
 .refine LeM [] rfl rfl ?_;refine Zz ?_
  rfl
 .rintro ⟨t,r,o⟩ ⟨ht,hr,ho,hl,hv,hz⟩;simp only at ht hr ho hl hv hz
  rcases zK t with h0 | h0
  .subst h0;have c0:¬ (0:Int)<=((0:Nat):Int)-1:=ω
   rw [yC,yC,q0D] at hv;have eQ:val o=x / d:=by rw [<- hv,Nat.mul_add_div ω,yO hr,z9]
   have eR:r=x % d:=by rw [<- hv,Nat.mul_add_mod,zB hr]
   have C1:=T1 o ho hl;rw [eQ] at C1;have mr:r % 4294967296=x % d:=by rw [zB ω,eR]
   have tk1:(o.map λz:Nat=>wv z).take n=o.map λz:Nat=>wv z:=qgb Oq;refine wk1 c0 ?_;refine q4B 1 12 λK hK=>?_
   try refine Zz ?_
   refine q1b ?_
   try refine Zz1 tk1 ?_
   refine q0T C1 ?_
   try refine Zz1 mr ?_
   refine hK _ _ ?_; clear hK K;exact wk trivial
  obtain ⟨j,rfl⟩:∃ j,t=j+1:=⟨t-1,ω⟩;have ej:((j+1:Nat):Int)-1=(j:Int):=ω
  have c0:(0:Int)<=(j:Int):=ω
  obtain ⟨u,hu⟩:∃ u,u=(lim x).getD j 0:=⟨_,rfl⟩;have hdu:u < 4294967296:=by rw [hu]; exact (q0C x).get j
  have ex:=q1J (l:=lim x) (i:=j) Oq;rw [<- hu] at ex;obtain ⟨top,htp⟩:∃ top,top=r*4294967296+u:=⟨_,rfl⟩;have qN:(r*4294967296 % 18446744073709551616 ||| u)=top:=by
   rw [zB ω,wK,show (4294967296:Nat)=2 ^ 32 from rfl,q1z ω,htp,x8]
  have htd:top < d*4294967296:=by
   have:(r+1)*4294967296<=d*4294967296:=zQ _ hr;omega
  have hq:top / d < 4294967296:=yK htd;have htl:top < 18446744073709551616:=ω
  have w64:∀ x:Nat,x < 18446744073709551616->IntKind.u64.wrap (x:Int)=(x:Int):=λx h=>u64_in Oq Oq;have e1:Int.tdiv (top:Int) (d:Int)=((top / d:Nat):Int):=rfl;have e2:Int.tmod (top:Int) (d:Int)=((top % d:Nat):Int):=rfl;have e3:=w64 (top / d) Oq;have hmd:=zF top (show 0 < d by omega);have em:(top / d) % 4294967296=top / d:=zB hq;have hdm:=uP top d;refine wk1 (x6 ej c0 ex qN e1 (x6 e2 e3 e7 e8 em hl)) ?_;refine ⟨(j,top % d,o.set j (top / d)),⟨ω,hmd,ho.set _ _ hq,by simp [hl],?_,λk hk=>by rw [q0j ω]; exact hz k ω⟩,by simp only; omega,?_⟩
  .have hset:(o.set j (top / d)).getD j 0=top / d:=by rw [zA,zO ω]; rfl
   have hdr:(o.set j (top / d)).drop (j+1)=o.drop (j+1):=q6w σ λk hk=>q0j ω;rw [q15 _ j,q15 (lim x) j,hset,hdr,<- hu];simp only [val];rw [<- hv];have hBB:B=4294967296:=rfl;rw [hBB,yE,xC d,yE];omega
  .refine LeM [] rfl rfl ?_;exact Zy
def qi8 {us vs:List Nat} {n j:Nat} (ha:q0Y us) (hv:q0Y vs) (hn:vs.length=n) (hj:j+n+1<=us.length) (hm:us.length<=1000000000) (hn2:2<=n) (htop:2147483648<=vs.getD (n-1) 0) (hlt:val ((us.drop j).take (n+1)) < B*val vs) :
  AI 295 [.ow 5000 none j (n+1),pW vs] 142 (us.map λz:Nat=>wv z) (wv (val ((us.drop j).take (n+1)) / val vs:Nat)) ((cpS us (dgs (n+1) (val ((us.drop j).take (n+1)) % val vs)) j (n+1)).map λz:Nat=>wv z):=by
 have hcl:=qbC (us:=us) (o:=dgs (n+1) (val ((us.drop j).take (n+1)) % val vs)) (j:=j) (i:=n+1) ω (by rw [q0x]; omega);have hfin:=λ(o:List Nat) (h1:o.length=us.length) (h2:q0Y o) (h3:∀ k,k < j\/j+n < k->o.getD k 0=us.getD k 0) (h4:val ((o.drop j).take (n+1))=val ((us.drop j).take (n+1)) % val vs)=>cp_of hj h1 h2 h3 h4;have en1:(n:Int)-1=((n-1:Nat):Int):=ω
 have en2:(n:Int)-2=((n-2:Nat):Int):=ω
 have ux0:=q1J (l:=us) (i:=j+n) Oq;have ux1:=q1J (l:=us) (i:=j+(n-1)) Oq;have ux2:=q1J (l:=us) (i:=j+(n-2)) Oq;have y1:=q1J (l:=vs) (i:=n-1) Oq;have y2:=q1J (l:=vs) (i:=n-2) Oq;have b0:=ha.get (j+n);have b1:=ha.get (j+(n-1));have b2:=ha.get (j+(n-2));have c1:=hv.get (n-1);have c2:=hv.get (n-2);obtain ⟨lv,hlv1,hlv2⟩:∃ low,low < B ^ (n-2)/\val vs=low+B ^ (n-2)*(vs.getD (n-2) 0+B*vs.getD (n-1) 0):=by
  obtain ⟨low,h1,h2⟩:=top2 (n:=n) hv hn2;rw [q0F vs n ω] at h2;exact ⟨low,h1,h2⟩
 obtain ⟨lu,hlu1,hlu2⟩:∃ low,low < B ^ (n-2)/\val ((us.drop j).take (n+1))=low+B ^ (n-2)*(us.getD (j+(n-2)) 0+B*us.getD (j+(n-1)) 0+B*B*us.getD (j+n) 0):=by
  obtain ⟨low,h1,h2⟩:=top2 (l:=us.drop j) (n:=n) (ha.drop j) hn2;refine ⟨low,h1,?_⟩;rw [q2E,h2];have e:∀ i,(us.drop j).getD i 0=us.getD (j+i) 0:=λi=>by rw [zA,y9,<- zA]
  rw [e,e,show B ^ n=B ^ (n-2)*(B*B) by rw [<- Nat.pow_two,<- zW]; congr 1; omega,zV,xG,<- yE]
 have hUs:=q2E us j n;have hVM:val vs<=B ^ (n+1):=by
  have h1:=q12 hv;rw [hn] at h1;exact z8 (uR h1) (zI q1A (Nat.le_succ n))
 refine ai0 Tryz.func295 Tryz.ntmps295 [.tmp 4] clW clW (by simp [hcl]) ?_;clear hcl;generalize hU:val ((us.drop j).take (n+1))=U at *;generalize hV:val vs=V at *;generalize hu0:us.getD (j+n) 0=u0 at *;generalize hu1:us.getD (j+(n-1)) 0=u1 at *;generalize hu2:us.getD (j+(n-2)) 0=u2 at *;generalize hv1:vs.getD (n-1) 0=v1 at *;generalize hv0:vs.getD (n-2) 0=v0 at *;obtain ⟨top,htp⟩:∃ top,top=u0*4294967296+u1:=⟨_,rfl⟩;have hBB:B=4294967296:=rfl;rw [hBB] at b0 b1 b2 c1 c2;have qN:(u0*4294967296 % 18446744073709551616 ||| u1)=top:=by
  rw [zB ω,wK,show (4294967296:Nat)=2 ^ 32 from rfl,q1z ω,htp,x8]
 obtain ⟨p,hp⟩:∃ p,p=B ^ (n-2):=⟨_,rfl⟩;rw [<- hp] at hlu1 hlu2 hlv1 hlv2;have hp0:0 < p:=ω
 have hT:u2+B*u1+B*B*u0=top*B+u2:=by
  rw [htp,<- hBB,yV,zD u0 B,xO,zD u1 B]; omega
 rw [hT] at hlu2;have hUlo:(top*B+u2)*p<=U:=by rw [hlu2,zD]; omega
 have hUhi:U < (top*B+u2+1)*p:=by rw [hlu2,yV (top*B+u2),xI,zD p]; omega
 have hVe:v0+B*v1=v1*B+v0:=by rw [zD]; omega
 rw [hVe] at hlv2;have hVlo:(v1*B+v0)*p<=V:=by rw [hlv2,zD]; omega
 have hVhi:V<=(v1*B+v0+1)*p:=by rw [hlv2,yV (v1*B+v0),xI,zD p]; omega
 have htt:top < v1*B+B:=by
  have h1:(top*B+u2)*p < B*((v1*B+v0+1)*p):=zG hUlo (zJ hlt (zX B hVhi));rw [<- zV] at h1;have h2:=xP h1;have h3:top*B < (v1*B+v0+1)*B:=by rw [zD B] at h2; omega
  have:=xP h3;omega
 have hBv:B<=v1*B:=Nat.le_mul_of_pos_left B Oq;have hV0:0 < V:=by
  have h1:1*1<=(v1*B+v0)*p:=yS Oq hp0;omega
 have htop64:top < 18446744073709551616:=ω
 have hd1:top / v1 < 18446744073709551616:=zG (yF _ _) htop64;have hd2:=zF top (show 0 < v1 by omega);have e1:Int.tdiv (top:Int) (v1:Int)=((top / v1:Nat):Int):=rfl;have e2:Int.tmod (top:Int) (v1:Int)=((top % v1:Nat):Int):=rfl;have w64:∀ x:Nat,x < 18446744073709551616->IntKind.u64.wrap (x:Int)=(x:Int):=λx h=>u64_in Oq Oq;have e3:=w64 _ hd1;have e4:((v1:Int)=0)=False:=eq_false Oq;have e5:(v1=0)=False:=eq_false Oq;refine wk1 (x6 hn en1 ux0 ux1 y1 (x6 qN e1 e2 e3 e4 e5)) ?_;refine A_jx (λq:Nat=>U < (q+1)*V/\(q-1)*V<=U/\q < B) (λq=>[(0,.ow 5000 none j (n+1)),(1,pW vs),(5,iv n),(7,uv q)]) (λ_=>[(5000,⟨142,none,us.map λz:Nat=>wv z,false⟩)]) ?_ λK fin=>?_
 rotate_left
 .refine q0B (λp:Nat × Nat=>p.2+p.1*v1=top/\p.2 < B/\U < (p.1+1)*V) [0,1,5] [5000] Lk Lk (λp=>[(7,uv p.1),(8,uv p.2)]) (λ_=>[]) (λp=>p.1) (top / v1,top % v1) ⟨by rw [zD]; exact wC top v1,by show top % v1 < B; omega,qfE hUhi hVlo rfl b2 ω⟩ ?_ ?_
  .refine LeM [] rfl rfl ?_;exact Zy
  .rintro ⟨q,rest⟩ ⟨hr,hrB,hqU⟩;simp only at hr hrB hqU;have hqv:q<=top:=by
    have:q*1<=q*v1:=zX q Oq;omega
   have gN:(rest*4294967296 % 18446744073709551616 ||| u2)=rest*B+u2:=by
    rw [zB ω,wK,show (4294967296:Nat)=2 ^ 32 from rfl,q1z ω,x8]; rfl
   by_cases hst:q < B/\¬ rest*B+u2 < q*v0
   .obtain ⟨hqB,hc⟩:=hst;have hqv0:q*v0<=4294967295*4294967295:=yS Oq Oq;have q1:¬ (4294967295:Int) < q:=ω
    have q2:¬ ((rest*B+u2:Nat):Int) < ((q*v0:Nat):Int):=ω
    refine wk1 (x6 en2 ux2 y2 gN q1 q2) ?_;refine fin q _ _ ⟨hqU,qfF hUlo hVhi rfl hr Oq Oq,hqB⟩ ?_;refine LeM [] rfl rfl ?_;exact Zy
   .have hUq:U < q*V:=by
     by_cases hqB:q < B
     .exact qoI hUhi hVlo rfl hr Oq
     .exact zJ hlt (zQ V Oq)
    have hq0:0 < q:=by
     rcases zK q with h | h
     .subst h; rw [xD] at hUq; omega
     .exact h
    have d1:IntKind.u64.wrap ((q:Int)-1)=((q-1:Nat):Int):=by rw [u64_in ω ω]; omega
    have hq1:(rest+v1)+(q-1)*v1=top:=by
     obtain ⟨k,rfl⟩:∃ k,q=k+1:=⟨q-1,ω⟩;rw [yV,xI] at hr;rw [Nat.add_sub_cancel]; omega
    have hq2:U < (q-1+1)*V:=by rw [xQ hq0]; exact hUq
    have q4g:B<=rest+v1->q-1 < B/\(q-1-1)*V<=U:=λhb=>by
     obtain ⟨z1,z2⟩:=qiY (u0:=u2) hq1 htt hb c2;exact ⟨z1,qfF hUlo hVhi rfl hq1 z2 Oq⟩
    rcases yI (rest+v1) B with hb | hb
    .have q3:¬ (4294967295:Int) < ((rest+v1:Nat):Int):=ω
     rcases yI q B with hqB | hqB
     .have hqv0:q*v0<=4294967295*4294967295:=yS Oq Oq;have q1:¬ (4294967295:Int) < q:=ω
      have q2:((rest*B+u2:Nat):Int) < ((q*v0:Nat):Int):=ω
      refine wk1 (x6 en1 en2 ux2 y1 y2 (x5 gN q1 q2 d1 q3)) ?_;refine ⟨(q-1,rest+v1),⟨hq1,hb,hq2⟩,by simp only; omega,?_⟩;refine LeM [] rfl rfl ?_;exact Zy
     .have q1:(4294967295:Int) < q:=ω
      refine wk1 (x6 en1 en2 ux2 y1 y2 (x4 gN q1 d1 q3)) ?_;refine ⟨(q-1,rest+v1),⟨hq1,hb,hq2⟩,by simp only; omega,?_⟩;refine LeM [] rfl rfl ?_;exact Zy
    .have q3:(4294967295:Int) < ((rest+v1:Nat):Int):=ω
     obtain ⟨f1,f2⟩:=q4g hb
     rcases yI q B with hqB | hqB
     .have hqv0:q*v0<=4294967295*4294967295:=yS Oq Oq;have q1:¬ (4294967295:Int) < q:=ω
      have q2:((rest*B+u2:Nat):Int) < ((q*v0:Nat):Int):=ω
      refine wk1 (x6 en1 en2 ux2 y1 y2 (x5 gN q1 q2 d1 q3)) ?_;refine fin (q-1) _ _ ⟨hq2,f2,f1⟩ ?_;refine LeM [] rfl rfl ?_;exact Zy
     .have q1:(4294967295:Int) < q:=ω
      refine wk1 (x6 en1 en2 ux2 y1 y2 (x4 gN q1 d1 q3)) ?_;refine fin (q-1) _ _ ⟨hq2,f2,f1⟩ ?_;refine LeM [] rfl rfl ?_;exact Zy
 .rintro q ⟨hqU,hqL,hqB⟩;rw [hBB] at hqB;refine wk1 hn ?_;refine q0B (λp:Nat × Nat × Nat × List Nat=>p.1<=n/\p.2.1 < 4294967296/\p.2.2.1<=1/\q0Y p.2.2.2/\p.2.2.2.length=us.length/\(∀ k,k < j\/j+p.1<=k->p.2.2.2.getD k 0=us.getD k 0)/\val ((p.2.2.2.drop j).take p.1)+q*val (vs.take p.1)=val ((us.drop j).take p.1)+B ^ p.1*(p.2.1+p.2.2.1)) [0,1,5,7,84,85] [] Lk Lk (λp=>[(86,iv p.1),(9,uv p.2.1),(10,uv p.2.2.1)]) (λp=>[(5000,⟨142,none,p.2.2.2.map λz:Nat=>wv z,false⟩)]) (λp=>n-p.1) (0,0,0,us) ⟨zE _,σ,zE _,ha,rfl,λ_ _=>rfl,by simp [val]⟩ ?_ ?_
  .refine LeM [] rfl rfl ?_;refine Zz ?_
   rfl
  .rintro ⟨i,cr,br,o⟩ ⟨hi,hc,hb,ho,hl,hun,hw⟩;simp only at hi hc hb ho hl hun hw
   by_cases hin:i < n
   .have q1:(i:Int) < n:=ω
    obtain ⟨x,hx⟩:∃ x,x=vs.getD i 0:=⟨_,rfl⟩;have hdx:x < 4294967296:=by rw [hx]; exact hv.get i
    have hqx:q*x<=4294967295*4294967295:=yS Oq Oq;obtain ⟨P,hP⟩:∃ P,P=q*x+cr:=⟨_,rfl⟩;have hdu:us.getD (j+i) 0 < 4294967296:=ha.get (j+i);have ex:=q1J (l:=vs) (i:=i) Oq;have eo:=q1J (l:=o) (i:=j+i) Oq;rw [<- hx] at ex;rw [hun _ (.inr (z7 _))] at eo;have ap:=q1W (a:=P) Oq;have hP2:=hP.symm;have key:∀ t,t=((us.getD (j+i) 0+(18446744073709551616-P % 4294967296)) % 18446744073709551616+(18446744073709551616-br)) % 18446744073709551616->i+1<=n/\P / 4294967296 < 4294967296/\t / 4294967296 % 2<=1/\q0Y (o.set (j+i) (t % 4294967296))/\(o.set (j+i) (t % 4294967296)).length=us.length/\(∀ k,k < j\/j+(i+1)<=k->(o.set (j+i) (t % 4294967296)).getD k 0=us.getD k 0)/\val (((o.set (j+i) (t % 4294967296)).drop j).take (i+1))+q*val (vs.take (i+1))=val ((us.drop j).take (i+1))+B ^ (i+1)*(P / 4294967296+t / 4294967296 % 2):=λt ht=>by
     have ht1:t=(us.getD (j+i) 0+18446744073709551616-P % 4294967296-br) % 18446744073709551616:=ω
     rw [hP] at ht1;have key:=q7w hw hdu hb ht1;have hset:(o.set (j+i) (t % 4294967296)).getD (j+i) 0=t % 4294967296:=by rw [zA,zO ω]; rfl
     refine ⟨ω,yK ω,ω,ho.set _ _ (zF _ q1A),by simp [hl],λk hk=>?_,?_⟩
     .rw [q0j ω]; exact hun k ω
     .rw [q2E,qaO,hset,vts vs,q2E us,<- hx,hP];exact key
    refine wk1 (x6 q1 ex eo hP2 ap (x5 @q40 @q1W @q7I yG hl)) ?_;refine ⟨(i+1,_,_,_),key _ rfl,by simp only; omega,?_⟩;refine LeM [] rfl rfl ?_;refine Zz ?_;omega
   .have q1:¬ (i:Int) < n:=ω
    obtain rfl:n=i:=ω
    rw [q0F vs n ω,hV] at hw;have en:=q1J (l:=o) (i:=j+n) Oq;rw [hun _ (.inr (z7 _)),hu0] at en;obtain ⟨t,ht⟩:∃ t,t=((u0+(18446744073709551616-cr)) % 18446744073709551616+(18446744073709551616-br)) % 18446744073709551616:=⟨_,rfl⟩;have htl:t < 18446744073709551616:=ω
    have ht1:t=(u0+18446744073709551616-cr-br) % 18446744073709551616:=ω
    obtain ⟨o1,ho1⟩:∃ o1,o1=o.set (j+n) (t % 4294967296):=⟨_,rfl⟩;have ho1a:q0Y o1:=by rw [ho1]; exact ho.set _ _ (zF _ q1A)
    have ho1l:o1.length=us.length:=by rw [ho1]; simp [hl]
    have hun1:∀ k,k < j\/j+n < k->o1.getD k 0=us.getD k 0:=λk hk=>by rw [ho1,q0j ω]; exact hun k ω
    have hset:o1.getD (j+n) 0=t % 4294967296:=by rw [ho1,zA,zO ω]; rfl
    have hpre:(o1.drop j).take n=(o.drop j).take n:=by rw [ho1,qaO]
    obtain ⟨ng,hng⟩:∃ ng,ng=t / 4294967296 % 2:=⟨_,rfl⟩;obtain ⟨key,hng1⟩:=qhK hw b0 Oq ht1;rw [<- hng] at key hng1;obtain ⟨W1,hW1⟩:∃ W1,W1=val ((o1.drop j).take (n+1)):=⟨_,rfl⟩;have hW1':W1=val ((o.drop j).take n)+B ^ n*(t % 4294967296):=by rw [hW1,q2E,hset,hpre]
    rw [<- hW1',<- hUs] at key;have hWM:W1 < B ^ (n+1):=by
     have:=q12 (ho1a.drop j |>.take (n+1));rw [yN,uM,show min (n+1) (o1.length-j)=n+1 by omega] at this;rw [hW1]; exact this
    obtain ⟨hd0,hd1'⟩:=qfO hV0 hqL hqU hWM hVM key hng1;have am:=q1W (a:=t) htl;have aon:=q7I (a:=t / 4294967296) Oq;have mq:=zB hqB;have ht2:=ht.symm
    by_cases hz:ng=0
    .obtain ⟨r1,r2⟩:=hd0 hz;rw [r1,<- hfin o1 ho1l ho1a hun1 (by rw [<- hW1,r2])];have qz:((t / 4294967296 % 2:Nat):Int)=0:=ω
     have qz2:t / 4294967296 % 2=0:=ω
     refine wk1 (x6 q1 en @q40 ht2 am (x6 aon yG hl qz qz2 mq)) ?_;refine qaT rfl (by rw [ho1,xM]; exact q0H)
    .have hz1:ng=1:=ω
     obtain ⟨r0,r1,r2,r3⟩:=hd1' hz1;have qz:((t / 4294967296 % 2:Nat):Int)=1:=ω
     have qz2:t / 4294967296 % 2=1:=ω
     refine wk1 (x6 q1 en @q40 ht2 am (x6 aon yG hl qz qz2 hn)) ?_;clear hun hw;refine q0B (λp:Nat × Nat × List Nat=>p.1<=n/\p.2.1<=1/\q0Y p.2.2/\p.2.2.length=us.length/\(∀ k,k < j\/j+p.1<=k->p.2.2.getD k 0=o1.getD k 0)/\val ((p.2.2.drop j).take p.1)+B ^ p.1*p.2.1=val ((o1.drop j).take p.1)+val (vs.take p.1)) [0,5,7,140,141] [] Lk Lk (λp=>[(142,iv p.1),(9,uv p.2.1)]) (λp=>[(5000,⟨142,none,p.2.2.map λz:Nat=>wv z,false⟩)]) (λp=>n-p.1) (0,0,o1) ⟨zE _,zE _,ho1a,ho1l,λ_ _=>rfl,by simp [val]⟩ ?_ ?_
     .refine LeM [] rfl rfl ?_;refine Zz ?_;exact ⟨rfl,ho1.symm⟩
     .rintro ⟨i,c4,o4⟩ ⟨hi4,hc4,ho4,hl4,hun4,hw4⟩;simp only at hi4 hc4 ho4 hl4 hun4 hw4
      by_cases hin4:i < n
      .have q1:(i:Int) < n:=ω
       obtain ⟨x,hx⟩:∃ x,x=vs.getD i 0:=⟨_,rfl⟩;have hdx:x < 4294967296:=by rw [hx]; exact hv.get i
       obtain ⟨a,hae⟩:∃ a,a=o1.getD (j+i) 0:=⟨_,rfl⟩;have hda:a < 4294967296:=by rw [hae]; exact ho1a.get (j+i)
       have ex:=q1J (l:=vs) (i:=i) Oq;have eo:=q1J (l:=o4) (i:=j+i) Oq;rw [<- hx] at ex;rw [hun4 _ (.inr (z7 _)),<- hae] at eo;obtain ⟨s,hs⟩:∃ s,s=a+x+c4:=⟨_,rfl⟩;have asl:=q1W (a:=s) Oq;have key:=qp7 (a:=a) (x:=x) hw4;rw [<- hs] at key;refine wk1 (x6 q1 ex eo hs.symm asl (x2 yG hl4)) ?_;refine ⟨(i+1,s / 4294967296,o4.set (j+i) (s % 4294967296)),⟨ω,(show s / 4294967296<=1 by omega),ho4.set _ _ (zF _ q1A),by simp [hl4],λk hk9=>?_,?_⟩,by simp only; omega,?_⟩
       .rw [q0j ω]; exact hun4 k ω
       .have hset4:(o4.set (j+i) (s % 4294967296)).getD (j+i) 0=s % 4294967296:=by rw [zA,zO ω]; rfl
        show val (((o4.set (j+i) (s % 4294967296)).drop j).take (i+1))+B ^ (i+1)*(s / 4294967296)=val ((o1.drop j).take (i+1))+val (vs.take (i+1))
        rw [q2E,qaO,hset4,vts vs,q2E o1,<- hx,<- hae];omega
       .refine LeM [] rfl rfl ?_;refine Zz ?_;omega
      .have q1:¬ (i:Int) < n:=ω
       obtain rfl:n=i:=ω
       rw [q0F vs n ω,hV] at hw4;have en4:=q1J (l:=o4) (i:=j+n) Oq;rw [hun4 _ (.inr (z7 _))] at en4;have hda:o1.getD (j+n) 0 < 4294967296:=ho1a.get (j+n);have hs1:=q2E o1 j n;rw [<- hW1] at hs1;generalize o1.getD (j+n) 0=a at *;have hZ:val ((o4.drop j).take n) < B ^ n:=by
        have:=q12 (ho4.drop j |>.take n);rw [yN,uM,show min n (o4.length-j)=n by omega] at this;exact this
       have hf:=qgZ (a:=a) (cr:=c4) (S:=W1+V) hZ (by rw [yE,hs1]; omega);rw [r2] at hf;have u1':IntKind.u32.wrap ((a:Int)+((c4:Nat):Int))=(((a+c4) % 4294967296:Nat):Int):=by
        rw [<- Int.natCast_add]; exact w32N
       have hcm:c4 % 4294967296=c4:=zB Oq;have d1':IntKind.u64.wrap ((q:Int)-1)=((q-1:Nat):Int):=by rw [u64_in ω ω]; omega
       have hqm1:(q-1) % 4294967296=q-1:=zB Oq;have hset4:(o4.set (j+n) ((a+c4) % 4294967296)).getD (j+n) 0=(a+c4) % 4294967296:=by rw [zA,zO ω]; rfl
       rw [r1,<- hfin (o4.set (j+n) ((a+c4) % 4294967296)) (by simp [hl4]) (ho4.set _ _ (zF _ q1A)) (λk hk=>by rw [q0j ω,hun4 k ω]; exact hun1 k hk) (by rw [q2E,qaO,hset4]; exact hf)];refine wk1 (x6 q1 en4 hcm u1' d1' (x2 hqm1 hl4)) ?_;refine qaT rfl (by rw [xM]; exact q0H)
end
end Go.Proofs.YtbjoghfmhgadkaaGreatDoor
namespace Go.E
open Go Go.RowKit
section
variable {P:Program} {D0:Nat->Prop} {w0:Base} {s:Nat->PV} {h:Hp} {ρ:Nat->Option Nat} {e:Env} {w:World}
def Sat.copy [NL] (S:Sat D0 w0 s h ρ e w) {a b:Operand} {id n:Nat} {T ty dT elem:TypeId} {xs ys:List PV} (ha:pe s a=.ow id none 0 n) (hi:h id=some ⟨T,none,xs,false⟩) (hn:n=xs.length) (hb:pe s b=.sl none ys) (h0:0 < ys.length) (hle:ys.length<=n)
  (hu:P.underlying dT=some (.slice elem)) (hs:(P.info? elem).map (·.size)=some 1):∃ w',(Builtin.copy_ #[dT,dT] ty #[ev e a,ev e b]).run P w=.ok (goInt ys.length) w'/\Sat D0 w0 s (q0P h id ⟨T,none,ys ++ xs.drop ys.length,false⟩) ρ e w':=by
 have hra:=S.pex a;rw [ha] at hra;unfold Rd at hra;obtain ⟨b',A,c,h1,_,hA,h3,h4,h5,h6,-⟩:=hra;rw [hi] at h1; cases h1;have hrb:=S.pex b;rw [hb] at hrb;unfold Rd at hrb;obtain ⟨A2,n2,c2,vs2,hB,⟨r1,r2,r3⟩,hl2,hv2,hf2⟩:=hrb
 rcases h6 with h6 | ⟨g,g1,g2,-⟩
 .omega
 rw [xD] at g2;subst g2;obtain ⟨cs,c1,c2',c3⟩:=(S.own id _ g hi g1).2.reg (by intro h; cases h);obtain ⟨vs,v1,v2,v3⟩:=c3 rfl;have hfl:(q01 vs2).length=n2:=by rw [r2]; exact xK n2
 have hlv:vs.length=xs.length:=v2.len;change (0:Nat)+n<=xs.length at h5;simp only [show ksz none=1 from rfl,xK] at v1;have hcs:∀ v ∈ vs,v.cells.size=1:=λv hv=>(v3 v hv).size;have hcz:xs.length<=cs.size:=by
  have:=congrArg List.length v1;rw [yN,q0l hcs,hlv,xK] at this;have e:cs.toList.length=cs.size:=wM;omega
 obtain ⟨ad,rfl,hD,hcell⟩:=r3 Oq;have hrun:=run_copy_row (P:=P) w dT dT ty elem g 0 n c ad n2 c2 cs T (q01 vs2) hu hs c1 (by rw [hfl]; exact (Nat.min_eq_left ω).symm) hcell (by rw [hfl]; omega) (λv hv=>by
  unfold q01 at hv;obtain ⟨u,hu1,hu2⟩:=List.mem_flatMap.1 hv;exact ((hf2 u hu1).one v hu2).1)
 rw [hA,hB];refine ⟨_,by rw [hfl] at hrun; rw [hl2]; exact hrun,?_⟩;rw [xB,List.nil_append,zH];refine (S.write (w':=w.setRow g (q01 vs2 ++ cs.toList.drop n2).toArray) (b:=⟨T,none,xs,false⟩) (b':=⟨T,none,ys ++ xs.drop ys.length,false⟩) (cs':=(q01 vs2 ++ cs.toList.drop n2).toArray) (vs:=vs2 ++ vs.drop n2) hi g1 rfl ⟨rfl,rfl,rfl,σ,λk _ hk=>setRow_other w g k _ hk⟩ c1 ?_ (setRow_heap w g _ _ _ _ c1) ?_ rfl rfl rfl ?_ ?_ ?_ ?_).1
 .rw [List.size_toArray,List.length_append,hfl,uM,wM]; omega
 .intro u hu1;simp only [List.mem_append] at hu1
  rcases hu1 with hu1 | hu1
  .unfold q01 at hu1;obtain ⟨v,q1,q2⟩:=List.mem_flatMap.1 hu1;exact ((hf2 v q1).one u q2).2
  .exact c2' u (wL hu1)
 .simp; omega
 .have e1:(ys ++ xs.drop ys.length).length*ksz none=xs.length:=by simp [ksz]; omega
  rw [e1,q3g,q3f hcs,<- v1,xK,List.take_append,yL ω,hfl,<- List.drop_take]
 .rw [hl2]; exact hv2.cl.app (v2.drop n2)
 .intro v hv
  rcases List.mem_append.1 hv with hv | hv
  .exact hf2 v hv
  .exact v3 v (wL hv)
def cpK (P:Program) (s:Nat->PV) (h:Hp) (a b:Operand) (d dT:Nat) (C:(Nat->PV)->Hp->Prop):Prop:=∃ id n T xs ys elem,pe s a=.ow id none 0 n/\h id=some ⟨T,none,xs,false⟩/\n=xs.length/\pe s b=.sl none ys/\(0 < ys.length/\ys.length<=n)/\(P.underlying dT=some (.slice elem)/\(P.info? elem).map (·.size)=some 1)/\C (pu s d (.vl (.int .i64 (ys.length:Nat)))) (q0P h id ⟨T,none,ys ++ xs.drop ys.length,false⟩)
def quZ {a b:Operand} {d dT id n T elem:Nat} {xs ys:List PV} {C:(Nat->PV)->Hp->Prop} (ha:pe s a=.ow id none 0 n) (hh:h id=some ⟨T,none,xs,false⟩) (hn:n=xs.length) (hb:pe s b=.sl none ys) (h0:0 < ys.length) (hle:ys.length<=n) (hu:P.underlying dT=some (.slice elem)) (hs:(P.info? elem).map (·.size)=some 1)
  (hC:C (pu s d (.vl (.int .i64 (ys.length:Nat)))) (q0P h id ⟨T,none,ys ++ xs.drop ys.length,false⟩)):cpK P s h a b d dT C:=⟨id,n,T,xs,ys,elem,ha,hh,hn,hb,⟨h0,hle⟩,⟨hu,hs⟩,hC⟩
variable {Tb:World->Prop} {J:Nat->Prop} {n:Nat} {Q:SQ}
def A_cpr [NL] {i d dT ty:Nat} {a b:Operand} {pos:String} {af:Array Edge} {l:List Oper} {c:Code} (k:Nat) {l1:List Oper} (hw:∀ K:(Nat->PV)->Hp->Prop,(∀ s h,AW P Tb J n c Q s h->K s h)->AL P Tb l (λs1 h1 _=>cpK P s1 h1 a b d dT K) l1 s h [])
  (e1:l.take k=l1:=by simp only [y7,xB]; rfl) (e2:l.drop k=[⟨some d,.call ⟨.builtin .copy,#[a,b],#[dT,dT]⟩,ty,pos,af,none⟩]:=by simp only [xL,yC]; rfl):AW P Tb J n (.seq (.region i l.toArray false) c) Q s h:=by
 subst e1;refine q4C λK hK D0 w0 ρ e w hT hF S=>?_;refine q3x (q9n k _ _ _ ?_);rw [e2];refine qgM (K':=λe' w'=>WL P l.toArray (λe' w'=>∃ s' h' ρ',Sat D0 w0 s' h' ρ' e' w'/\thA K Q .normal s' h') [⟨some d,.call ⟨.builtin .copy,#[a,b],#[dT,dT]⟩,ty,pos,af,none⟩] e' w') hT.1 hF _ s h [] ρ e w (λs h acc ρ e w S hq=>?_) (hw K λs h hb=>hK s h hb) S;obtain ⟨id,m,T,xs,ys,elem,q1,q2,q3,q4,⟨q5,q6⟩,⟨q7,q8⟩,hC⟩:=hq;obtain ⟨w',hr,S'⟩:=S.copy (ty:=ty) q1 q2 q3 q4 q5 q6 q7 q8;have hwt:q5j l.toArray e ⟨some d,.call ⟨.builtin .copy,#[a,b],#[dT,dT]⟩,ty,pos,af,none⟩=true:=rfl;unfold WL WG;rw [if_pos hwt];unfold WO;simp only [execOp,resolve,invoke,builtin,Sem.run_bind,Sem.run_pure,Result.andThen_ok,List.map_toArray,wN,List.map_nil];rw [hr];simp only [Result.andThen_ok,Sem.run_pure,RO];unfold WL;refine ⟨_,_,ρ,S'.put d ?_,hC⟩;unfold Rd; rfl
end
section
def LeMF [NL] {h:Hp} {s:Nat->PV} {xs kv:List (Nat × PV)} {bs:List (Nat × Bk)} {kb:List (Nat × Option Bk)} (l:List (Nat × Option Nat)) {τ:Nat->Option Nat} (hlt:q0n l=τ) (hh:q4l τ h (hpM bs kb) s xs/\q4l τ h (hpM bs kb) s kv/\qcR τ h (hpM bs kb) bs/\q8d τ h (hpM bs kb) kb/\q76 τ (bs.map (·.1) ++ kb.map (·.1))):Le (λ_=>False) s h (stM xs kv) (hpM bs kb):=by
 obtain ⟨h1,h2,h3,h4,h5⟩:=hh;refine q4W τ (λi b hb=>(q3z h4 h3 i b hb).1) (λi j k b c hi hj ti tj=>?_) (λt=>q6R h2 h1 t) λ_ hi=>hi.elim
 rcases q30 h5 i (q3z h4 h3 i b hi).2 j (q3z h4 h3 j c hj).2 with h | h | h
 .exact h
 .rw [ti] at h; cases h
 .rw [ti,tj] at h; exact absurd rfl h
end
end Go.E
namespace Go.Proofs.YtbjoghfmhgadkaaGreatDoor
open Go Go.E Go.Sp
section
attribute [local instance] lNL
def q8R {x y:Nat} (hb:bl x<=20000000) (hby:bl y<=20000000) (hy0:y≠0):ACt 276 [pW (lim x),pW (lim y)] (.tu [pW (lim (x / y)),pW (lim (x % y))]):=by
 have hlx:=q6J hb;have hly:=q6J hby;obtain ⟨n,hn⟩:∃ n,(lim x).length=n:=⟨_,rfl⟩;obtain ⟨m,hm⟩:∃ m,(lim y).length=m:=⟨_,rfl⟩;have C1:=q4U (x:=x) (y:=y) Oq Oq
 by_cases hlt:x < y
 .have q:q2c x y < 0:=by unfold q2c; rw [if_pos hlt]; omega
  have C2:=q3n (l:=lim x) Oq;rw [yO hlt,zB hlt];refine ac0 Tryz.func276 Tryz.ntmps276 [.tmp 4,.tmp 5] ?_;exact wk1 (x2 q q2C) trivial
 have hyx:y<=x:=ω
 have q:¬ q2c x y < 0:=by unfold q2c; rw [if_neg ω]; split <;> omega
 have hbyx:bl y<=bl x:=q0r hyx;have hnn:m<=n:=by rw [<- hn,<- hm]; exact q0b hyx
 have hm1:1<=m:=by rw [<- hm]; exact (q0K (n:=y)).2 hy0
 by_cases hmm:m=1
 .obtain ⟨d,hd⟩:∃ d,lim y=[d]:=List.length_eq_one_iff.1 Oq;have hdy:d=y:=by have:=q0D y; rw [hd,q5G] at this; exact this
  subst hdy;have hdB:d < 4294967296:=by have:=q0C d; rw [hd] at this; exact this d yP
  have C2:=qgn (x:=x) Oq hy0 hdB;have hrB:x % d < 4294967296:=wQ (zF _ Oq) hdB;have T1:=q0W (l:=[x % d]) (.one hrB) σ;rw [q5G] at T1;have q2:(m:Int)=1:=ω
  rw [hd] at C1 ⊢;refine ac0 Tryz.func276 Tryz.ntmps276 [.tmp 4,.tmp 5] ?_;refine wk1 q ?_;refine q4B 3 32 λK hK=>?_
  try refine Zz ?_
  refine q1b ?_
  try refine Zz ?_
  refine q0T T1 ?_
  try refine Zz ?_
  refine hK _ _ ?_;exact wk trivial
 have hlast:=q3a hy0;have hbl:=q6O hy0;rw [hm] at hlast hbl;obtain ⟨vt,hvt⟩:∃ vt,vt=(lim y).getD (m-1) 0:=⟨_,rfl⟩;have e0:=q1J (l:=lim y) (i:=m-1) Oq;rw [<- hvt] at hlast hbl e0;have hvt2:vt < 4294967296:=by rw [hvt]; exact (q0C y).get (m-1)
 have hvb:bl vt<=32:=q0O hvt2;have hvb0:=q3s hlast;obtain ⟨s,hs⟩:∃ s,s=32-bl vt:=⟨_,rfl⟩;have C2:=qeJ hvt2;rw [<- hs] at C2;obtain ⟨V,hV⟩:∃ V,V=y*2 ^ s:=⟨_,rfl⟩;obtain ⟨X,hX⟩:∃ X,X=x*2 ^ s:=⟨_,rfl⟩;have S1:=qlm (x:=x) (m:=s) hn Oq Oq;have S2:=qlm (x:=y) (m:=s) hm Oq Oq;rw [<- hX] at S1;rw [<- hV] at S2;have hblV:bl V=32*m:=by rw [hV,q1F hy0]; omega
 have hV0:V≠0:=by rw [hV]; exact uS (wS ω (q0E s))
 have hlV:(lim V).length=m:=by rw [q8B,hblV]; omega
 have hVB:V < B ^ m:=by have:=q00 V; rw [hlV] at this; exact this
 have hyp:B ^ (m-1)<=y:=by have:=q2v hy0; rw [hm] at this; exact this
 have htopV:2147483648<=(lim V).getD (m-1) 0:=by
  have h1:=q6O hV0;rw [hlV,hblV] at h1;have h2:=q7G (q3a hV0);rw [hlV,show bl ((lim V).getD (m-1) 0)=32 by omega] at h2;exact h2
 obtain ⟨lq,hlq⟩:∃ lq,lq=n+1-m:=⟨_,rfl⟩;have e1:(m:Int)-1=(m-1:Nat):=ω
 have e2:((n+1:Nat):Int)-(m:Int)=(lq:Int):=ω
 have e3:(n:Int)+1=((n+1:Nat):Int):=rfl;have q2:¬ (m:Int)=1:=ω
 have hxn:x < B ^ n:=by rw [<- hn]; exact q00 x
 have hXB:X < B ^ (n+1):=by
  have:2 ^ s<=B:=by rw [q9r]; exact zI ω ω
  rw [hX,xN];exact zJ (yX hxn (q0E s)) (zX _ this)
 have hXV:X < V*B ^ lq:=by
  refine zJ (m:=2 ^ s*B ^ n) ?_ ?_
  .rw [hX,zD];exact uQ hxn (q0E s)
  .have h2:B ^ n=B ^ (m-1)*B ^ lq:=by rw [<- zW]; congr 1; omega
   rw [hV,h2,<- zV];refine zQ _ ?_;rw [zD y];exact zX _ hyp
 have hX0:X≠0:=by rw [hX]; exact uS (wS ω (q0E s))
 have hXl:(lim X).length<=n+1:=q0e hXB;have hXl0:=(q0K (n:=X)).2 hX0;obtain ⟨o0,ho0⟩:∃ o0,o0=lim X ++ List.replicate (n+1-(lim X).length) 0:=⟨_,rfl⟩;have ho0a:q0Y o0:=by rw [ho0]; exact (q0C X).append (q0Y.replicate _)
 have ho0l:o0.length=n+1:=by rw [ho0]; simp; omega
 have ho0v:val o0=X:=by rw [ho0,q4I,q11,yM,z9,q0D]
 have ho0m:(lim X).map (λz:Nat=>wv z) ++ (List.replicate (n+1) (wv 0)).drop (lim X).length=o0.map λz:Nat=>wv z:=by rw [ho0]; simp
 have hd0:val (o0.drop lq) < V:=by
  rw [q2V ho0a,ho0v];exact yK (by rw [zD]; exact hXV)
 clear ho0;refine ac0 Tryz.func276 Tryz.ntmps276 [.tmp 4,.tmp 5] ?_;refine wk1 (x6 q hm q2 e1 e0 (x2 hn e3)) ?_;refine A_cpr 4 λK hK=>?_
 try refine Zz ?_
 refine q0T S1 ?_
 try refine Zz ?_
 refine quZ (elem:=142) rfl rfl σ rfl (by simpa using hXl0) (by simpa using hXl) κ κ (hK _ _ ?_); clear hK K;refine wk1 (x2 hlV e2) ?_;refine q0B (λp:Nat × List Nat × List Nat=>p.1<=lq/\q0Y p.2.1/\p.2.1.length=n+1/\q0Y p.2.2/\p.2.2.length=lq/\val p.2.1+V*val p.2.2=X/\val (p.2.1.drop p.1) < V/\∀ k,k < p.1->p.2.2.getD k 0=0) [8,9,11] [] Lk Lk (λp=>[(12,iv ((p.1:Int)-1)),(10,.ow 5000 none 0 (n+1)),(4,.ow 59 none 0 lq)]) (λp=>[(5000,⟨142,none,p.2.1.map λz:Nat=>wv z,false⟩),(59,⟨142,none,p.2.2.map λz:Nat=>wv z,false⟩)]) (λp=>p.1) (lq,o0,List.replicate lq 0) ⟨z7 _,ho0a,ho0l,q0Y.replicate _,σ,by rw [ho0v,q11,yM,z9],hd0,λk _=>qqB⟩ ?_ ?_
 .refine LeMF [(5000,some 47)] rfl ?_
  try refine Zz ?_
  rw [ho0m,q9p]
 .rintro ⟨t,o,qs⟩ ⟨ht,ho,hol,hqa,hql,hinv,hdr,hz⟩;simp only at ht ho hol hqa hql hinv hdr hz;clear hd0 ho0a ho0l ho0v ho0m
  rcases zK t with h0 | h0
  .subst h0;have c0:¬ (0:Int)<=((0:Nat):Int)-1:=ω
   rw [yC] at hdr;have eR:val o=X % V:=by rw [<- hinv,y6,zB hdr]
   have eQ:val qs=X / V:=by rw [<- hinv,xH _ _ (uO hV0),yO hdr,zH]
   have eT:val (o.take m)=val o:=by rw [q1v ho,zB (wQ hdr hVB)]
   rw [hX,hV,wH] at eR;rw [hX,hV,wI _ _ (q0E s)] at eQ;obtain ⟨R,hR⟩:∃ R,R=x % y*2 ^ s:=⟨_,rfl⟩;have T1:=q0W (l:=o.take m) (ho.take m) (by simp; omega);have hRl:(lim R).length<=m:=by
    rw [<- hlV];refine q0b ?_;rw [hR,hV];exact zQ _ (uR (zF _ Oq))
   have T2:=qfK (x:=R) (m:=s) rfl Oq Oq;rw [eT,eR,<- hR] at T1;have T4:=q0W (l:=qs) hqa Oq;rw [eQ] at T4;rw [show R / 2 ^ s=x % y by rw [hR,xR _ (q0E s)]] at T2;have tk1:(o.map λz:Nat=>wv z).take m=(o.take m).map λz:Nat=>wv z:=List.map_take.symm;have tk2:(qs.map λz:Nat=>wv z).take lq=qs.map λz:Nat=>wv z:=qgb Oq;have sl1:=slO_h (id:=5000) (m:=n+1) (b:=m) Oq;refine wk1 c0 ?_;refine q4B 3 5000 λK hK=>?_
   try refine Zz1 sl1 ?_
   refine q1b ?_
   try refine Zz1 tk1 ?_
   refine q0T T1 ?_
   try refine Zz ?_
   refine q0T T2 ?_
   try refine Zz ?_
   refine hK _ _ ?_; clear hK K;refine q4B 1 59 λK hK=>?_
   try refine Zz ?_
   refine q1b ?_
   try refine Zz1 tk2 ?_
   refine q0T T4 ?_
   try refine Zz ?_
   refine hK _ _ ?_; clear hK K;exact wk trivial
  obtain ⟨j,rfl⟩:∃ j,t=j+1:=⟨t-1,ω⟩;have ej:((j+1:Nat):Int)-1=(j:Int):=ω
  have c0:(0:Int)<=(j:Int):=ω
  have f1:(j:Int)+(m:Int)=((j+m:Nat):Int):=ω
  have f2:((j+m:Nat):Int)+1=((j+m+1:Nat):Int):=ω
  have g1:IntKind.i64.wrap ((j+m:Nat):Int)=((j+m:Nat):Int):=i64_in Oq Oq;have g2:IntKind.i64.wrap ((j+m+1:Nat):Int)=((j+m+1:Nat):Int):=i64_in Oq Oq;obtain ⟨hpre,-,-⟩:=q5P ho hVB hdr;have hpost:=λo' h1 h2 h3=>q6B (o':=o') (qs:=qs) ho (uO hV0) hVB h1 hdr h2 h3 Oq (hz j Oq) Oq hinv;have T1:=qi8 (us:=o) (vs:=lim V) (n:=m) (j:=j) ho (q0C V) hlV ω ω ω htopV (by rw [q0D]; exact hpre);rw [q0D] at T1;have sl1:=slO_b (id:=5000) (m:=n+1) (a:=j) (b:=j+m+1) Oq Oq;rw [show j+m+1-j=m+1 by omega] at sl1;obtain ⟨D,hD⟩:∃ D,D=dgs (m+1) (val ((o.drop j).take (m+1)) % V):=⟨_,rfl⟩;have hDl:D.length=m+1:=by rw [hD]; exact q0x
  have hDa:q0Y D:=by rw [hD]; exact q1q
  have hDv:val D=val ((o.drop j).take (m+1)) % V:=by
   rw [hD];exact q1p (wQ (zF _ (uO hV0)) (zJ hVB (zI q1A (Nat.le_succ m))))
  rw [<- hD] at T1;have hcl:=qbC (us:=o) (o:=D) (j:=j) (i:=m+1) Oq Oq;have hcm:=qjV (us:=o) (n:=m) (j:=j) Oq hDl;have hp:=hpost (cpS o D j (m+1)) hcl (λk hk=>cp_un ω hDl hk) (by rw [hcm,hDv]);have hg:val ((o.drop j).take (m+1)) / V < 4294967296:=yK (by rw [zD]; exact hpre);generalize val ((o.drop j).take (m+1)) / V=gg at *;refine wk1 (x2 ej c0) ?_;refine qgH λK9 hK9=>?_;refine Zz5 f1 g1 f2 g2 sl1 ?_;refine jmF T1 (Wn_1 rfl λi h1 h2=>by simp only [hpM,hpV]; rw [if_neg ω,if_neg ω]) ?_
  try refine Zz1 hql ?_
  refine hK9 _ _ ?_; clear hK9 K9;refine wk ?_;refine ⟨(j,cpS o D j (m+1),qs.set j gg),⟨ω,((ho.take j).append (hDa.take _)).append (ho.drop _),hcl.trans hol,hqa.set _ _ hg,by simp [hql],hp.1,hp.2,λk hk=>by rw [q0j ω]; exact hz k ω⟩,by simp only; omega,?_⟩;refine LeM [] rfl rfl ?_;exact Zy
end
end Go.Proofs.YtbjoghfmhgadkaaGreatDoor
namespace Go.Sp
section
def q54 {a b q r:Int} (hb:b≠0) (h:a=r+b*q) (h0:0<=r) (hr:r < b.natAbs):a / b=q/\a % b=r:=by
 subst h;rw [Int.add_mul_ediv_left _ _ hb,Int.add_mul_emod_self_left]
 rcases xA hb with h | h
 .obtain ⟨c,rfl⟩:∃ c,b = -c:=⟨-b,ω⟩;rw [Int.ediv_neg,Int.emod_neg,x9 h0 ω,Int.emod_eq_of_lt h0 ω];omega
 .rw [x9 h0 ω,Int.emod_eq_of_lt h0 ω];omega
end
end Go.Sp
namespace Go.Proofs.YtbjoghfmhgadkaaGreatDoor
open Go Go.E Go.Sp
section
def qi7 {s t:Bool} {x y:Nat} (hy:y≠0) (hc:s=false\/x % y=0):sgn s x / sgn t y=sgn (s != t) (x / y)/\sgn s x % sgn t y=(x % y:Nat):=by
 have h:=uP x y;have hr:=zF x (uO hy);generalize x / y=q at *;generalize x % y=r at *;subst h;refine q54 (by cases t <;> simp [sgn] <;> omega) ?_ ω (by cases t <;> simp [sgn] <;> omega)
 rcases hc with rfl | rfl
 .cases t <;> simp [sgn,wJ,wT] <;> omega
 .cases s <;> cases t <;> simp [sgn,wJ,wT]
def qi6 {t:Bool} {x y:Nat} (hy:y≠0) (hc:x % y≠0):sgn true x / sgn t y=sgn (true != t) (x / y+1)/\sgn true x % sgn t y=(y-x % y:Nat):=by
 have h:=uP x y;have hr:=zF x (uO hy);generalize x / y=q at *;generalize x % y=r at *;subst h;refine q54 (by cases t <;> simp [sgn] <;> omega) ?_ ω (by cases t <;> simp [sgn] <;> omega);have e:((y-r:Nat):Int)=y-r:=ω
 cases t <;> simp [sgn,Int.mul_add,wJ,wT] <;> omega
attribute [local instance] lNL
section
variable {s t:Bool} {x y:Nat}
def qbv (hx:bl x<=20000000) (hy:bl y<=20000000) (hy0:y≠0) (hc:s=false\/x % y=0):ACt 251 [.ag [bv s,pW (lim x)],.ag [bv t,pW (lim y)]] (.tu [zT (sgn (s != t) (x / y)),zT (x % y:Nat),iv 0]):=by
 have la:=q3G hx;have lb:=q3G hy;have T1:=q0W (q0C x) la;have T2:=q0W (q0C y) lb;rw [q0D] at T1 T2;have C1:=q8R hx hy hy0;have C2:=q2D (s:=s != t) (q0C (x / y)) (z8 (q0b (yF _ _)) la);have C3:=q2D (s:=false) (q0C (x % y)) (z8 (q0b (Nat.mod_le _ _)) la);rw [q0D] at C2 C3;rw [q7f] at C3;have q:((lim y).length:Int)≠0:=by have:=(q0K (n:=y)).2 hy0; omega
 rcases hc with rfl | h0
 .refine ac0 Tryz.func251 Tryz.ntmps251 [.cell 4 42,.cell 5 42,.tmp 6] ?_;exact wk1 q trivial
 .rw [h0,q2C] at C1 C3;rw [h0];refine ac0 Tryz.func251 Tryz.ntmps251 [.cell 4 42,.cell 5 42,.tmp 6] ?_;cases s
  .exact wk1 q trivial
  .exact wk1 q trivial
def qbu (hx:bl x<=20000000) (hy:bl y<=20000000) (hy0:y≠0) (hc:x % y≠0):ACt 251 [.ag [bv true,pW (lim x)],.ag [bv t,pW (lim y)]] (.tu [zT (sgn (true != t) (x / y+1)),zT (y-x % y:Nat),iv 0]):=by
 have la:=q6J hx;have lb:=q6J hy;have T1:=q0W (q0C x) Oq;have T2:=q0W (q0C y) Oq;rw [q0D] at T1 T2;have C1:=q8R hx hy hy0;have hlq:=q0b (yF x y);have hlr:=q0b (uR (zF x (uO hy0)));have P1:=q9E (l:=lim (x / y)) (l':=[1]) (q0C _) (.one q85) ω σ;have M1:=q6i (l:=lim y) (l':=lim (x % y)) (q0C _) (q0C _) ω hlr (by rw [q0D,q0D]; exact uR (zF x (uO hy0)));rw [q0D,q5G] at P1;rw [q0D,q0D] at M1;have hle2:(lim (x / y+1)).length<=700001:=z8 (q0e (zG (q00 _) (xJ q85 (Nat.lt_succ_self _)))) Oq;have C2:=q2D (s:=true != t) (q0C (x / y+1)) Oq;have C3:=q2D (s:=false) (q0C (y-x % y)) (z8 (q0b (Nat.sub_le _ _)) Oq);rw [q0D] at C2 C3;rw [q7f] at C3;have q:((lim y).length:Int)≠0:=by have:=(q0K (n:=y)).2 hy0; omega
 have q2:(0:Int) < (lim (x % y)).length:=by have:=(q0K (n:=x % y)).2 hc; omega
 refine ac0 Tryz.func251 Tryz.ntmps251 [.cell 4 42,.cell 5 42,.tmp 6] ?_;refine wk1 (x2 q q2) ?_;refine qxE 2 34 λK hK=>?_
 try refine Zz ?_
 refine q1b ?_
 try refine Zz ?_
 refine q0T P1 ?_
 try refine Zz ?_
 refine q0T M1 ?_
 try refine Zz ?_
 refine hK _ _ ?_;exact wk trivial
end
def q9P {a b:Int} {s t:Bool} (hs:s=decide (a < 0)) (ht:t=decide (b < 0)) (ha:bl a.natAbs<=20000000) (hb:bl b.natAbs<=20000000) (hb0:b≠0):ACt 251 [yT s a,yT t b] (.tu [zT (a / b),zT (a % b),iv 0]):=by
 have hy0:b.natAbs≠0:=ω
 by_cases hc:s=false\/a.natAbs % b.natAbs=0
 .have C:=qbv (t:=t) ha hb hy0 hc;obtain ⟨h1,h2⟩:=qi7 (s:=s) (t:=t) (x:=a.natAbs) hy0 hc;rw [<- h1,<- h2,hs,ht,q07,q07,<- hs,<- ht] at C;exact C
 .obtain rfl:s=true:=by cases s <;> simp_all
  have hc2:a.natAbs % b.natAbs≠0:=λh=>hc (.inr h);have C:=qbu (t:=t) ha hb hy0 hc2;obtain ⟨h1,h2⟩:=qi6 (t:=t) (x:=a.natAbs) hy0 hc2;rw [<- h1,<- h2,ht,q07] at C;have e:sgn true a.natAbs=a:=by rw [hs,q07]
  rw [e,<- ht] at C;exact C
end
end Go.Proofs.YtbjoghfmhgadkaaGreatDoor
namespace Go.Sp
open Go.E
section
def est1 {U top v1 p V:Nat} (hU:U < (top+1)*p) (hV:v1*p<=V) (hv:0 < v1):U < (top / v1+1)*V:=by
 have h1:=uP top v1;have h2:=zF top hv;have h3:top+1<=(top / v1+1)*v1:=by
  rw [yV,xI,zD]; omega
 have h4:(top+1)*p<=(top / v1+1)*V:=by
  refine z8 (zQ p h3) ?_;rw [zV];exact zX _ hV
 omega
end
end Go.Sp
namespace Go.Proofs.YtbjoghfmhgadkaaGreatDoor
open Go Go.E Go.Sp
section
attribute [local instance] lNL
def qfN {x y:Nat} (hb:bl x<=20000000) (hby:bl y<=20000000) (hy0:y≠0):ACt 296 [pW (lim x),pW (lim y)] (.tu [pW (lim (x / y)),pW (lim (x % y))]):=by
 have hlx:=q6J hb;have hly:=q6J hby;obtain ⟨n,hn⟩:∃ n,(lim x).length=n:=⟨_,rfl⟩;obtain ⟨m,hm⟩:∃ m,(lim y).length=m:=⟨_,rfl⟩;have C1:=q8S (x:=x) (y:=y) Oq Oq
 by_cases hlt:x < y
 .have q:q2c x y < 0:=by unfold q2c; rw [if_pos hlt]; omega
  rw [yO hlt,zB hlt];refine ac0 Tryz.func296 Tryz.ntmps296 [.tmp 4,.tmp 5] ?_;exact wk1 (x2 q q2C) trivial
 have hyx:y<=x:=ω
 have q:¬ q2c x y < 0:=by unfold q2c; rw [if_neg ω]; split <;> omega
 have hbyx:bl y<=bl x:=q0r hyx;have hnn:m<=n:=by rw [<- hn,<- hm]; exact q0b hyx
 have hm1:1<=m:=by rw [<- hm]; exact (q0K (n:=y)).2 hy0
 have hlast:=q3a hy0;have hbl:=q6O hy0;rw [hm] at hlast hbl;obtain ⟨vt,hvt⟩:∃ vt,vt=(lim y).getD (m-1) 0:=⟨_,rfl⟩;have e0:=q1J (l:=lim y) (i:=m-1) Oq;rw [<- hvt] at hlast hbl e0;have hvt2:vt < 4294967296:=by rw [hvt]; exact (q0C y).get (m-1)
 have hvb:bl vt<=32:=q0O hvt2;have hvb0:=q3s hlast;obtain ⟨s,hs⟩:∃ s,s=32-bl vt:=⟨_,rfl⟩;have C2:=qeJ hvt2;rw [<- hs] at C2;have hs32:s / 32=0:=ω
 obtain ⟨V,hV⟩:∃ V,V=y*2 ^ s:=⟨_,rfl⟩;obtain ⟨X,hX⟩:∃ X,X=x*2 ^ s:=⟨_,rfl⟩;have S1:=qra (m:=s) hn Oq Oq;have S2:=qjl (m:=s) hm Oq Oq;rw [hs32,zH,<- hX] at S1;rw [hs32,zH,<- hV] at S2;have hblV:bl V=32*m:=by rw [hV,q1F hy0]; omega
 have hV0:V≠0:=by rw [hV]; exact uS (wS ω (q0E s))
 have hlV:(lim V).length=m:=by rw [q8B,hblV]; omega
 have hVB:V < B ^ m:=by have:=q00 V; rw [hlV] at this; exact this
 have hvs:slP (some 1) none (some (iv (m:Int))) (pW (dgs (m+1) V))=some (pW (lim V)):=by rw [qmO (by rw [q0x]; omega),qaz ω,<- q3l (q0C V) hlV (q0D V)]
 have hyp:B ^ (m-1)<=y:=by have:=q2v hy0; rw [hm] at this; exact this
 have hv1:(lim V).getD (m-1) 0≠0:=by have:=q3a hV0; rwa [hlV] at this
 obtain ⟨lq,hlq⟩:∃ lq,lq=n-m+1:=⟨_,rfl⟩;have e1:(m:Int)-1=(m-1:Nat):=ω
 have e2:(n:Int)-(m:Int)=(n-m:Nat):=ω
 have e3:((n-m:Nat):Int)+1=(lq:Int):=ω
 refine ac0 Tryz.func296 Tryz.ntmps296 [.tmp 4,.tmp 5] ?_;refine wk1 (x4 q hm e1 e0) ?_;have hxn:x < B ^ n:=by rw [<- hn]; exact q00 x
 have hXB:X < B ^ (n+1):=by
  have:2 ^ s<=B:=by rw [q9r]; exact zI ω ω
  rw [hX,xN];exact zJ (yX hxn (q0E s)) (zX _ this)
 have hXV:X < V*B ^ lq:=by
  refine zJ (m:=2 ^ s*B ^ n) ?_ ?_
  .rw [hX,zD];exact uQ hxn (q0E s)
  .have h2:B ^ n=B ^ (m-1)*B ^ lq:=by rw [<- zW]; congr 1; omega
   rw [hV,h2,<- zV];refine zQ _ ?_;rw [zD y];exact zX _ hyp
 rw [show (dgs (n+1) X).map (λz:Nat=>wv z)=(dgs (n+1) X).map λz:Nat=>wv z from rfl] at S1;have hdl:(dgs (n+1) X).length=n+1:=q0x;have hd0:val ((dgs (n+1) X).drop lq) < V:=by
  rw [q2V q1q,q1p hXB];exact yK (by rw [zD]; exact hXV)
 have q3:¬ ((n+1:Nat):Int)=n:=ω
 refine A_dj q5m (.one 0 (.one 1 (.one 3 (.one 4 (.one 6 (.one 2 (.one 5 (.one 7 (.one 8 (.one 9 .fin)))))))))) κ λK hK=>?_;refine Zz ?_;refine jmF S1 Wn_0 ?_
 try refine Zz ?_
 refine jc ?_
 try refine Zz ?_
 refine q0T S2 ?_
 try simp -implicitDefEqProofs (disch:=omega) only [go_sem,Nat.reduceEqDiff,Nat.reduceAdd,↓reduceIte,hvs,hdl]
 refine hK _ _ ?_; clear hK K;refine wk1 (x5 hn q3 e2 e3 hdl) ?_;refine q0B (λp:Nat × List Nat × List Nat=>p.1<=lq/\q0Y p.2.1/\p.2.1.length=n+1/\q0Y p.2.2/\p.2.2.length=lq/\val p.2.1+V*val p.2.2=X/\val (p.2.1.drop p.1) < V/\∀ k,k < p.1->p.2.2.getD k 0=0) [0,6,7,8,9,10] [] Lk Lk (λp=>[(11,iv ((p.1:Int)-1))]) (λp=>[(5000,⟨142,none,p.2.1.map λz:Nat=>wv z,false⟩),(50,⟨142,none,p.2.2.map λz:Nat=>wv z,false⟩)]) (λp=>p.1) (lq,dgs (n+1) X,List.replicate lq 0) ⟨z7 _,q1q,q0x,q0Y.replicate _,σ,by rw [q1p hXB,q11,yM,z9],hd0,λk _=>qqB⟩ ?_ ?_
 .refine LeM [] rfl rfl ?_;refine Zz ?_;omega
 .rintro ⟨t,o,qs⟩ ⟨ht,ho,hol,hqa,hql,hinv,hdr,hz⟩;simp only at ht ho hol hqa hql hinv hdr hz
  rcases zK t with h0 | h0
  .subst h0;have c0:¬ (0:Int)<=((0:Nat):Int)-1:=ω
   rw [yC] at hdr;have eR:val o=X % V:=by rw [<- hinv,y6,zB hdr]
   have eQ:val qs=X / V:=by rw [<- hinv,xH _ _ (uO hV0),yO hdr,zH]
   rw [hX,hV,wH] at eR;rw [hX,hV,wI _ _ (q0E s)] at eQ;obtain ⟨R,hR⟩:∃ R,R=x % y*2 ^ s:=⟨_,rfl⟩;have hRl:(lim R).length<=m:=by
    rw [<- hlV];refine q0b ?_;rw [hR,hV];exact zQ _ (uR (zF _ Oq))
   have T1:=q1Q (l:=o) ho Oq;have T2:=qdR (l:=lim R) (m:=s) (q0C R) rfl Oq Oq;rw [eR,<- hR] at T1;rw [q0D,hR,xR _ (q0E s),<- hR,hs32,Nat.sub_zero] at T2;have T3:=q1Q (l:=dgs (lim R).length (x % y)) q1q (by rw [q0x]; omega);rw [q1p (zG (m:=R) (by rw [hR]; exact Nat.le_mul_of_pos_right _ (q0E s)) (q00 R))] at T3;have T4:=q1Q (l:=qs) hqa Oq;rw [eQ] at T4;have tk1:((o.map λz:Nat=>wv z).take (n+1))=o.map λz:Nat=>wv z:=qgb Oq;have tk2:((qs.map λz:Nat=>wv z).take lq)=qs.map λz:Nat=>wv z:=qgb Oq;refine wk1 c0 ?_;refine q4B 1 5000 λK hK=>?_
   try refine Zz ?_
   refine q1b ?_
   try refine Zz1 tk1 ?_
   refine q0T T1 ?_
   try refine Zz ?_
   refine q0T T2 ?_
   try refine Zz ?_
   refine hK _ _ ?_; clear hK K;refine q4B 1 50 λK hK=>?_
   try refine Zz ?_
   refine q1b ?_
   try refine Zz1 tk2 ?_
   refine q0T T4 ?_
   try refine Zz ?_
   refine q0T T3 ?_
   try refine Zz ?_
   refine hK _ _ ?_; clear hK K;exact wk trivial
  obtain ⟨j,rfl⟩:∃ j,t=j+1:=⟨t-1,ω⟩;have ej:((j+1:Nat):Int)-1=(j:Int):=ω
  have c0:(0:Int)<=(j:Int):=ω
  have f1:(j:Int)+(m:Int)=((j+m:Nat):Int):=ω
  have f2:((j+m:Nat):Int)-1=((j+(m-1):Nat):Int):=ω
  obtain ⟨lu,hlu1,hlu2⟩:∃ low,low < B ^ (m-1)/\val ((o.drop j).take (m+1))=low+B ^ (m-1)*(o.getD (j+(m-1)) 0+B*o.getD (j+m) 0):=by
   obtain ⟨low,h1,h2⟩:=top2 (l:=o.drop j) (n:=m+1) (ho.drop j) Oq;have e:∀ i,(o.drop j).getD i 0=o.getD (j+i) 0:=λi=>by rw [zA,y9,<- zA]
   exact ⟨low,h1,by rw [h2,e,e]; rfl⟩
  have hVlo:(lim V).getD (m-1) 0*B ^ (m-1)<=V:=by
   have h1:=vts (lim V) (m-1);rw [xQ hm1,q0F (lim V) m ω,q0D] at h1;rw [zD]; omega
  obtain ⟨hpre,-,-⟩:=q5P ho hVB hdr;have x0:=q1J (l:=o) (i:=j+m) Oq;have x1:=q1J (l:=o) (i:=j+(m-1)) Oq;have y1:=q1J (l:=lim V) (i:=m-1) Oq;have b0:=ho.get (j+m);have b1:=ho.get (j+(m-1));have c1:=(q0C V).get (m-1);obtain ⟨U,hU⟩:∃ U,val ((o.drop j).take (m+1))=U:=⟨_,rfl⟩;have hpost:=λo' h1 h2 h3=>q6B (o':=o') (qs:=qs) ho (uO hV0) hVB h1 hdr h2 h3 Oq (hz j Oq) Oq hinv;have hTa:=λgg hgg=>qlt (q:=gg) ho (q0C V) hlV (j:=j) Oq Oq hm1 hgg;rw [hU] at hlu2 hpre hpost hTa;rw [hol,q0D] at hTa;generalize hu0:o.getD (j+m) 0=u0 at *;generalize hu1:o.getD (j+(m-1)) 0=u1 at *;generalize hv1e:(lim V).getD (m-1) 0=v1 at *;obtain ⟨top,htp⟩:∃ top,top=u0*4294967296+u1:=⟨_,rfl⟩;have hBB:B=4294967296:=rfl;have qN:(u0*4294967296 % 18446744073709551616 ||| u1)=top:=by
   rw [zB ω,wK,show (4294967296:Nat)=2 ^ 32 from rfl,q1z ω,htp,x8]
  have htop64:top < 18446744073709551616:=ω
  have hUhi:U < (top+1)*B ^ (m-1):=by
   rw [hlu2,yV,xI,zD];have:u1+B*u0=top:=by rw [htp,hBB]; omega
   rw [this]; omega
  have hest:=est1 hUhi hVlo Oq;obtain ⟨g0,hg0⟩:∃ g0,g0=min (top / v1) 4294967295:=⟨_,rfl⟩;have hg0lt:U < (g0+1)*V:=by
   by_cases hc:top / v1<=4294967295
   .rw [hg0,Nat.min_eq_left hc]; exact hest
   .rw [hg0,Nat.min_eq_right ω]; exact zJ hpre (by rw [hBB]; exact z7 _)
  have hd1:top / v1 < 18446744073709551616:=zG (yF _ _) htop64;have e5:Int.tdiv (top:Int) (v1:Int)=((top / v1:Nat):Int):=rfl;have e6:IntKind.u64.wrap ((top / v1:Nat):Int)=((top / v1:Nat):Int):=u64_in Oq Oq;have e7:((v1:Int)=0)=False:=eq_false Oq;have em:min ((top / v1:Nat):Int) 4294967295=(g0:Int):=by rw [hg0]; omega
  have e8:(v1=0)=False:=eq_false hv1;refine wk1 (x6 ej c0 f1 f2 x0 (x6 x1 hol qN e1 y1 (x5 e5 e6 e7 e8 em))) ?_;refine q0B (λgg:Nat=>gg < 4294967296/\U < (gg+1)*V) [0,6,7,8,9,10,11] [5000,50] Lk Lk (λgg=>[(13,uv gg)]) (λ_=>[]) (λgg=>gg) g0 ⟨ω,hg0lt⟩ ?_ ?_
  .refine LeM [] rfl rfl ?_;exact Zy
  .rintro gg ⟨hgg,hUg⟩;have T1:=hTa gg hgg
   by_cases hle:gg*V<=U
   .have hdiv:U / V=gg:=Nat.div_eq_of_lt_le hle hUg;have hmod:U-gg*V=U % V:=by
     have h1:=uP U V;rw [hdiv,zD] at h1;omega
    have hkl:=qjW (us:=o) (n:=m) (V:=gg*V) (j:=j) Oq;have hkv:=qqr (us:=o) (n:=m) (V:=gg*V) (j:=j) ho ω (by rw [hU]; exact hle);rw [hU,hmod] at hkv;have hp:=hpost _ hkl (λk hk=>tk_un Oq hk) hkv;rw [hdiv] at hp;rw [decide_eq_true hle] at T1;refine wk ?_;refine qqX λK hK=>?_;refine Zz ?_;refine jmF T1 (Wn_1 rfl λi h1 h2=>by simp only [hpM,hpV]; rw [if_neg ω,if_neg ω]) ?_
    try refine Zz ?_
    refine hK _ _ ?_; clear hK K;refine wk1 (x2 (zB hgg) hql) ?_;refine ⟨(j,tkS o m (gg*V) j,qs.set j gg),⟨ω,qqt ho,hkl.trans hol,hqa.set _ _ hgg,by simp [hql],hp.1,hp.2,λk hk=>by rw [q0j ω]; exact hz k ω⟩,by simp only; omega,?_⟩;refine LeM [] rfl rfl ?_;exact Zy
   .have hg1:0 < gg:=by
     rcases zK gg with h0 | h0
     .subst h0; rw [xD] at hle; omega
     .exact h0
    have tk0:tkS o m (gg*V) j=o:=by unfold tkS; rw [hU,if_neg hle]
    rw [decide_eq_false hle,tk0] at T1;have em1:IntKind.u64.wrap ((gg:Int)-1)=((gg-1:Nat):Int):=by rw [u64_in ω ω]; omega
    refine wk ?_;refine qqX λK hK=>?_;refine Zz ?_;refine jmF T1 (Wn_1 rfl λi h1 h2=>by simp only [hpM,hpV]; rw [if_neg ω,if_neg ω]) ?_
    try refine Zz ?_
    refine hK _ _ ?_; clear hK K;refine wk1 em1 ?_;refine ⟨gg-1,⟨ω,by rw [xQ hg1]; omega⟩,ω,?_⟩;refine LeM [] rfl rfl ?_;exact Zy
end
def LE (x y:PV):Prop:=∀ (w:World) (D:Nat->Prop) (v:Value),Rd w D x (λ_=>none) h0 v ↔ @Rd lNL w D y (λ_=>none) h0 v
def LEl:List PV->List PV->Prop
 | [],[]=>True
 | x :: l,y :: m=>LE x y/\LEl l m
 | _,_=>False
def qwp:LEl [] []:=trivial
def qwq {x y:PV} {l m:List PV} (h1:LE x y) (h2:LEl l m):LEl (x :: l) (y :: m):=⟨h1,h2⟩
def q5g:∀ {l m:List PV},LEl l m->∀ (w:World) (D:Nat->Prop) (vs:List Value),RdL w D l (λ_=>none) h0 vs ↔ @RdL lNL w D m (λ_=>none) h0 vs
 | [],[],_,w,D,vs=>by unfold RdL; exact Iff.rfl
 | x :: l,y :: m,⟨h1,h2⟩,w,D,vs=>by
  unfold RdL;exact ⟨λ⟨a,b,e,q1,q2⟩=>⟨a,b,e,(h1 w D a).1 q1,(q5g h2 w D b).1 q2⟩,λ⟨a,b,e,q1,q2⟩=>⟨a,b,e,(h1 w D a).2 q1,(q5g h2 w D b).2 q2⟩⟩
def qwr {x:Value}:LE (.vl x) (.vl x):=λw D v=>by unfold Rd; exact Iff.rfl
def qwt {l m:List PV} (h:LEl l m):LE (.ag l) (.ag m):=λw D v=>by
 unfold Rd;exact ⟨λ⟨vs,e,q⟩=>⟨vs,e,(q5g h w D vs).1 q⟩,λ⟨vs,e,q⟩=>⟨vs,e,(q5g h w D vs).2 q⟩⟩
def qws {l m:List PV} (h:LEl l m):LE (.tu l) (.tu m):=λw D v=>by
 unfold Rd;exact ⟨λ⟨vs,e,q⟩=>⟨vs,e,(q5g h w D vs).1 q⟩,λ⟨vs,e,q⟩=>⟨vs,e,(q5g h w D vs).2 q⟩⟩
def LE_L {z:Int}:LE (.fm (fL z)) (pW (lim z.natAbs)):=λw D v=>by
 constructor
 .intro h;obtain ⟨A,n,c,rfl,h1⟩:=q8z h;exact @qrm w D _ _ lNL _ (λz:Nat=>Value.int .u32 z) _ _ (λ_=>⟨rfl,rfl⟩) ⟨A,n,c,rfl,h1.1⟩
 .intro h;obtain ⟨A,n,c,rfl,h1⟩:=@rd_sc w D _ _ lNL _ (λz:Nat=>Value.int .u32 z) _ _ h;exact qdb ⟨A,n,c,rfl,h1.sc_row,q0C _⟩
def q3F {f:FuncId} {al al':List PV} {r r':PV} (hc:@AC lNL Tryz.prog q5i f al r) (ha:LEl al' al:=by repeat (first | exact qwp | exact qwr | exact LE_L | refine qwq ?_ ?_ | refine qwt ?_ | refine qws ?_)) (hr:LE r' r:=by repeat (first | exact qwp | exact qwr | exact LE_L | refine qwq ?_ ?_ | refine qwt ?_ | refine qws ?_)):ACt f al' r' :=
 ⟨hc.1,λD w vs hT hF hR=>(hc.2 D w vs hT hF ((q5g ha w D vs).1 hR)).mono λx w' ⟨v,h1,h2,h3⟩=>⟨v,h1,h2,(hr w' D v).2 h3⟩⟩
section
variable {a b z m:Int} {s t:Bool}
abbrev sT (s:Bool) (z:Int):PV:=.ag [bv s,.fm (fL z)]
def qh3 (hs:s=decide (a < 0)) (ha:bl a.natAbs<=20000000):ACt 231 [sT s a] (bT a):=q3F (qe1 hs ha)
def q6o (hs:s=decide (a < 0)) (ha:bl a.natAbs<=20000000):ACt 194 [sT s a] (bT (-a)):=q3F (qh4 hs ha)
def q6q (_:s=decide (a < 0)) (ha:bl a.natAbs<=20000000):ACt 191 [sT s a] (bT a.natAbs):=q3F (qh9 ha)
def q1n (h1 : -9223372036854775808<=z) (h2:z<=9223372036854775807):ACt 132 [iv z] (bT z):=q3F (q8G h1 h2)
def q6p (hs:s=decide (a < 0)) (ht:t=decide (b < 0)) (ha:bl a.natAbs<=19000000) (hb:bl b.natAbs<=19000000):ACt 202 [sT s a,sT t b] (bT (a+b)):=q3F (qh8 hs ht Oq Oq)
def qnY (hs:s=decide (a < 0)) (ht:t=decide (b < 0)) (ha:bl a.natAbs<=19000000) (hb:bl b.natAbs<=19000000):ACt 292 [sT s a,sT t b] (bT (a-b)):=q3F (qh2 hs ht Oq Oq)
def qnZ (hs:s=decide (a < 0)) (ht:t=decide (b < 0)) (ha:bl a.natAbs<=9000000) (hb:bl b.natAbs<=9000000):ACt 201 [sT s a,sT t b] (bT (a*b)):=q3F (qh5 hs ht Oq Oq)
def q3b (hs:s=decide (a < 0)) (ha:bl a.natAbs<=20000000):ACt 222 [sT s a] (iv a.sign):=q3F (q5Y hs ha)
def q2y (_:s=decide (a < 0)) (ha:bl a.natAbs<=20000000):ACt 233 [sT s a] (iv (bl a.natAbs:Nat)):=q3F (q9Q ha)
def qk7 (_:s=decide (a < 0)) (ha:bl a.natAbs<=20000000):ACt 232 [sT s a] (iv (tz a.natAbs:Nat)):=q3F (qnX ha)
def qe3 (hs:s=decide (a < 0)) (ht:t=decide (b < 0)) (ha:bl a.natAbs<=19000000) (hb:bl b.natAbs<=19000000):ACt 197 [sT s a,sT t b] (iv (a-b).sign):=q3F (qh7 hs ht Oq Oq)
def q8F (hs:s=decide (a < 0)) (ha:bl a.natAbs<=10000000) (h1 : -1048576<=m) (h2:m<=1048576):ACt 243 [sT s a,iv m] (.tu [bT (shI a m),iv 0]):=q3F (qbs hs Oq h1 h2)
def qbt {x y:Nat} (hs:s=decide ((x:Int) < 0)) (ht:t=decide ((y:Int) < 0)) (hb:bl x<=20000000) (hd0:y≠0) (hby:bl y<=20000000):ACt 251 [sT s x,sT t y] (.tu [bT (x / y:Nat),bT (x % y:Nat),iv 0]):=q3F (q9P (a:=x) (b:=y) hs ht (by rwa [zC]) (by rwa [zC]) Oq)
end
section
variable {a b z m:Int} {s t:Bool}
def q3i (hs:s=decide (a < 0)) (ha:bl a.natAbs<=20000000):ACt 106 [sT s a] (iv a.sign):=q3F (qdd hs ha)
def quD (_:s=decide (a < 0)) (ha:bl a.natAbs<=20000000):ACt 140 [sT s a] (iv (tz a.natAbs:Nat)):=q3F (qdc ha)
def qfJ (hs:s=decide (a < 0)) (ht:t=decide (b < 0)) (ha:bl a.natAbs<=20000000) (hb:bl b.natAbs<=20000000):ACt 75 [sT s a,sT t b] (bT (a+b)):=q3F (qa0 hs ht ha hb)
def q8O (h1 : -9223372036854775808<=z) (h2:z<=9223372036854775807):ACt 70 [iv z] (bT z):=q3F (q41 h1 h2)
def qi1 {n:Nat} (_:s=decide (a < 0)) (ha:bl a.natAbs<=20000000) (hn:n<=1000000000):ACt 255 [sT s a,iv n] (bv (decide (a.natAbs % 2 ^ n≠0))):=q3F (qdg (m:=n) ha Oq)
def q3j (hs:s=decide (a < 0)) (ha:bl a.natAbs<=20000000) (h1 : -1000000000<=m) (h2:m<=1000000000):ACt 107 [sT s a,iv m] (bT (shI a m)):=q3F (q6D hs ha h1 h2)
def qi2 {N:Nat} (hs:s=decide (a < 0)) (ha:bl a.natAbs<=20000000) (hn:N<=1048576):ACt 141 [sT s a,iv N] (bT (shI a (-(N:Int)))):=by
 have C1:=@q3j;refine ac0 Tryz.func141 Tryz.ntmps141 [.cell 4 42] ?_;refine wk ?_;refine q0B (λ_:Unit=>True) [1,2,4] [2,4] Lk Lk (λ_=>[]) (λ_=>[]) (λ_=>0) () trivial ?_ ?_
 .refine LeM [] rfl rfl ?_;exact Zy
 .intro _ _;exact wk1 @Int.zero_sub trivial
end
def quC {neg odd:Bool} {half mode:Int}:ACt 256 [bv neg,iv half,bv odd,iv mode] (bv (upS mode neg half odd)):=by
 unfold upS;refine ac0 Tryz.func256 Tryz.ntmps256 [.tmp 8] ?_
 by_cases m1:mode=1
 .rw [if_pos m1];exact wk trivial
 rw [if_neg m1]
 by_cases m2:mode=2
 .rw [if_pos m2];exact wk trivial
 rw [if_neg m2]
 by_cases m3:mode=3
 .rw [if_pos m3];exact wk trivial
 rw [if_neg m3]
 by_cases h1:0 < half
 .rw [decide_eq_true h1,Bool.true_or];exact wk trivial
 rw [decide_eq_false h1,Bool.false_or]
 by_cases h2:half=0
 .rw [decide_eq_true h2,uI];exact wk trivial
 .rw [decide_eq_false h2,zR];exact wk trivial
def qoL {N M k:Nat} {neg more s:Bool} {mode:Int} (hs:s=decide (((N / M:Nat):Int) < 0)) (hM:0 < M) (hm:more=decide (N % M≠0)) (hk:more=true->0 < k) (hb:bl (N / M)<=1000000) (hkb:k<=1000000) :
  ACt 218 [bv neg,sT s (N / M:Nat),iv k,bv more,iv mode] (bT (rq mode neg N (M*2 ^ k):Nat)):=by
 obtain rfl:s=false:=hs.trans negN;have hrq:=qm1 (mode:=mode) (neg:=neg) (k:=k) hM (λh=>hk (by rw [hm]; simpa using h));have C1:=@qi2;have C2:=@qi1;have C3:=@quD;have C4:=@q3i;have C5:=@quC;have C6:=@q8O;have C7:=@qfJ;have hb2:bl (1:Int).natAbs<=1:=by show bl 1<=_; rw [q59]; omega
 rw [hrq];have hH:q9R N M k=if 0 < k/\N / M / 2 ^ (k-1) % 2=1 then (if N % M≠0\/N / M % 2 ^ (k-1)≠0 then 1 else 0) else -1:=rfl
 generalize N / M=m at *;have hbq:bl (m / 2 ^ k)<=1000000:=z8 (q0r (yF _ _)) hb;have hbb:bl (m / 2 ^ (k-1))<=1000000:=z8 (q0r (yF _ _)) hb;have f1:=qdT m k;have f2:=qdT m (k-1);generalize q9R N M k=H at *;generalize hz:m % 2 ^ k=r at *;generalize m / 2 ^ k=q at *;generalize hb1:m / 2 ^ (k-1)=b at *;refine ac0 Tryz.func218 Tryz.ntmps218 [.cell 10 42] ?_
 by_cases hex:r=0/\more=false
 .obtain ⟨hr,hmo⟩:=hex;have hnm:N % M=0:=by rw [hmo] at hm; simpa using hm.symm
  have q1:decide (r≠0)=false:=by simp [hr]
  rw [if_neg (by rw [hr,hnm]; simp),z9];exact wk1 (x4 f1 hz q1 hmo) trivial
 .have hnex:r≠0\/N % M≠0:=by
   by_cases h0:N % M=0
   .left; intro h1; exact hex ⟨h1,by rw [hm,h0]; rfl⟩
   .exact .inr h0
  refine wk1 (x2 f1 hz) ?_;refine A_jn λK hK=>?_;have fin0:∀ (s:Nat->PV) (h:Hp),s 0=bv neg->s 2=iv k->s 3=bv more->s 4=iv mode->s 6=.pt 6 0 0->s 10=.pt 10 0 0->s 11=.pt 11 0 0->h 6=some ⟨42,some 2,[.ag [bv false,.fm (fL m)]],false⟩->h 10=some ⟨42,some 2,[.ag [bv false,q05]],false⟩->h 11=some ⟨42,some 2,[bT q],false⟩->h 14=none->K s h:=by
   intro s h s0 s2 s3 s4 s6 s10 s11 h6 h10 h11 h14;refine hK _ _ ?_; clear hK K;refine wk1 s2 ?_;refine A_jn λK hK=>?_;have fin1:∀ (s:Nat->PV) (h:Hp),s 0=bv neg->s 4=iv mode->s 10=.pt 10 0 0->s 11=.pt 11 0 0->s 13=iv H->h 10=some ⟨42,some 2,[.ag [bv false,q05]],false⟩->h 11=some ⟨42,some 2,[bT q],false⟩->K s h:=by
    clear s0 s2 s3 s4 s6 s10 s11 h6 h10 h11 h14;intro s h s0 s4 s10 s11 s13 h10 h11;refine hK _ _ ?_; clear hK K;have e2:((q+1:Nat):Int)=(q:Int)+1:=rfl;have hbz:bl ((q:Int)+1).natAbs<=1000001:=q5a (k:=1000000) (a:=q) (b:=1) ω (by rw [q59]; omega);obtain ⟨o,ho⟩:∃ o,o=decide (q % 2=1):=⟨_,rfl⟩;rw [<- ho];have hq:(q=0/\o=false)\/(q≠0/\(((tz q:Nat):Int) == 0)=o):=by
     by_cases hq0:q=0
     .exact .inl ⟨hq0,by rw [ho,hq0]; rfl⟩
     .refine .inr ⟨hq0,?_⟩;rw [beq0,ho];exact decide_eq_decide.2 ⟨λh=>q3L.1 ⟨h,hq0⟩,λh=>(q3L.2 h).1⟩
    by_cases hu:upS mode neg H o=true
    .rw [if_pos ⟨hnex,hu⟩]
     rcases hq with ⟨h0,h1⟩ | ⟨h0,h1⟩
     .have q1:(((q:Nat):Int).sign != 0)=false:=by rw [h0]; rfl
      subst h1;exact wk1 (x6 s0 s4 s10 s11 s13 (x5 h10 h11 q1 hu e2)) trivial
     .have q1:(((q:Nat):Int).sign != 0)=true:=by rw [zM ω]; rfl
      exact wk1 (x6 s0 s4 s10 s11 s13 (x6 h10 h11 q1 h1 hu e2)) trivial
    .rw [if_neg λh=>hu h.2,z9];rw [Bool.not_eq_true] at hu
     rcases hq with ⟨h0,h1⟩ | ⟨h0,h1⟩
     .have q1:(((q:Nat):Int).sign != 0)=false:=by rw [h0]; rfl
      subst h1;exact wk1 (x6 s0 s4 s10 s11 s13 (x4 h10 h11 q1 hu)) trivial
     .have q1:(((q:Nat):Int).sign != 0)=true:=by rw [zM ω]; rfl
      exact wk1 (x6 s0 s4 s10 s11 s13 (x5 h10 h11 q1 h1 hu)) trivial
   by_cases hk0:0 < k
   .have e1:(k:Int)-1=((k-1:Nat):Int):=ω
    by_cases ho:b % 2=1
    .have q2:(((tz b:Nat):Int) == 0)=true:=by rw [qaA ho]; rfl
     have q3:(((b:Nat):Int).sign != 0)=true:=by rw [zM ω]; rfl
     rw [if_pos ⟨hk0,ho⟩] at hH
     by_cases hmo:more=true
     .rw [if_pos (.inl (by rw [hmo] at hm; simpa using hm.symm))] at hH;refine wk1 (x6 s0 s2 s3 s4 s6 (x6 s10 s11 h6 h10 h11 (x6 h14 e1 f2 q2 q3 hmo))) ?_;refine fin1 _ _ ?_ ?_ ?_ ?_ ?_ ?_ ?_ <;> simp -implicitDefEqProofs (disch:=omega) only [go_sem,Nat.reduceEqDiff,Nat.reduceAdd,↓reduceIte,s0,s2,s3,s4,s6,s10,s11,h6,h10,h11,hH]
     .rw [Bool.not_eq_true] at hmo;have hnm:N % M=0:=by rw [hmo] at hm; simpa using hm.symm
      by_cases hl:m % 2 ^ (k-1)=0
      .have q4:decide (m % 2 ^ (k-1)≠0)=false:=by simp [hl]
       rw [if_neg (by rw [hl,hnm]; simp)] at hH;refine wk1 (x6 s0 s2 s3 s4 s6 (x6 s10 s11 h6 h10 h11 (x6 h14 e1 f2 q2 q3 (x2 hmo q4)))) ?_;refine fin1 _ _ ?_ ?_ ?_ ?_ ?_ ?_ ?_ <;> simp -implicitDefEqProofs (disch:=omega) only [go_sem,Nat.reduceEqDiff,Nat.reduceAdd,↓reduceIte,s0,s2,s3,s4,s6,s10,s11,h6,h10,h11,hH]
      .have q4:decide (m % 2 ^ (k-1)≠0)=true:=by simp [hl]
       rw [if_pos (.inr hl)] at hH;refine wk1 (x6 s0 s2 s3 s4 s6 (x6 s10 s11 h6 h10 h11 (x6 h14 e1 f2 q2 q3 (x2 hmo q4)))) ?_;refine fin1 _ _ ?_ ?_ ?_ ?_ ?_ ?_ ?_ <;> simp -implicitDefEqProofs (disch:=omega) only [go_sem,Nat.reduceEqDiff,Nat.reduceAdd,↓reduceIte,s0,s2,s3,s4,s6,s10,s11,h6,h10,h11,hH]
    .rw [if_neg λh=>ho h.2] at hH
     by_cases hb0:b=0
     .have q2:(((tz b:Nat):Int) == 0)=true:=by rw [hb0]; rfl
      have q3:(((b:Nat):Int).sign != 0)=false:=by rw [hb0]; rfl
      refine wk1 (x6 s0 s2 s3 s4 s6 (x6 s10 s11 h6 h10 h11 (x5 h14 e1 f2 q2 q3))) ?_;refine fin1 _ _ ?_ ?_ ?_ ?_ ?_ ?_ ?_ <;> simp -implicitDefEqProofs (disch:=omega) only [go_sem,Nat.reduceEqDiff,Nat.reduceAdd,↓reduceIte,s0,s2,s3,s4,s6,s10,s11,h6,h10,h11,hH]
     .have q2:(((tz b:Nat):Int) == 0)=false:=by
       rw [beq0]; refine decide_eq_false λh=>ho (q3L.1 ⟨h,hb0⟩)
      refine wk1 (x6 s0 s2 s3 s4 s6 (x6 s10 s11 h6 h10 h11 (x4 h14 e1 f2 q2))) ?_;refine fin1 _ _ ?_ ?_ ?_ ?_ ?_ ?_ ?_ <;> simp -implicitDefEqProofs (disch:=omega) only [go_sem,Nat.reduceEqDiff,Nat.reduceAdd,↓reduceIte,s0,s2,s3,s4,s6,s10,s11,h6,h10,h11,hH]
   .rw [if_neg λh=>hk0 h.1] at hH;refine wk1 (x6 s0 s2 s3 s4 s6 (x6 s10 s11 h6 h10 h11 h14)) ?_;refine fin1 _ _ ?_ ?_ ?_ ?_ ?_ ?_ ?_ <;> simp -implicitDefEqProofs (disch:=omega) only [go_sem,Nat.reduceEqDiff,Nat.reduceAdd,↓reduceIte,s0,s2,s3,s4,s6,s10,s11,h6,h10,h11,hH]
  by_cases hr:r=0
  .have hmo:more=true:=by
    cases more
    .exact (hex ⟨hr,rfl⟩).elim
    .rfl
   have q1:decide (r≠0)=false:=by simp [hr]
   refine wk1 (x2 q1 hmo) ?_;refine fin0 _ _ ?_ ?_ ?_ ?_ ?_ ?_ ?_ ?_ ?_ ?_ ?_ <;> simp -implicitDefEqProofs (disch:=omega) only [go_sem,Nat.reduceEqDiff,Nat.reduceAdd,↓reduceIte,hmo]
  .have q1:decide (r≠0)=true:=by simp [hr]
   refine wk1 q1 ?_;refine fin0 _ _ ?_ ?_ ?_ ?_ ?_ ?_ ?_ ?_ ?_ ?_ ?_ <;> simp -implicitDefEqProofs (disch:=omega) only [go_sem,Nat.reduceEqDiff,Nat.reduceAdd,↓reduceIte]
section
attribute [local instance] lNL
def lBD:alB Tryz.prog 46=some ⟨46,some 4,[.ag [bv false,bv false,q05,iv 0]],false⟩:=κ
attribute [go_sem] lBD
abbrev yD (V:Int):PV:=.ag [bv false,bv (decide (od V < 0)),pW (lim (od V).natAbs),iv (dyE V)]
def qi4 {a:Int} {s:Bool} {N:Nat} (hs:s=decide (a < 0)) (ha:bl a.natAbs<=20000000) (hn:N<=1048576):ACt 141 [yT s a,iv N] (zT (shI a (-(N:Int)))):=by
 have C1:=q6D (m := -(N:Int)) hs ha Oq Oq;refine ac0 Tryz.func141 Tryz.ntmps141 [.cell 4 42] ?_;refine wk ?_;refine q0B (λ_:Unit=>True) [1,2,4] [2,4] Lk Lk (λ_=>[]) (λ_=>[]) (λ_=>0) () trivial ?_ ?_
 .refine LeM [] rfl rfl ?_;exact Zy
 .intro _ _;exact wk1 @Int.zero_sub trivial
def qhJ {s:Bool} {l:List Nat} (ha:q0Y l) (hb:l.length<=1000000000):ACt 139 [.ag [bv s,pW l]] (zT (sgn s (val l))):=by
 have C1:=@q1T s _ ha hb;refine ac0 Tryz.func139 Tryz.ntmps139 [.cell 2 42] ?_;exact wk trivial
def qab {s:Bool} {l:List Nat} {e V:Int} (ha:q0Y l) (hl:l.length<=1000000000) (hb:bl (val l)<=1000000) (he1 : -1000000<=e) (he2:e<=1000000) (hv:mkV (sgn s (val l)) e=some V):ACt 74 [.ag [bv s,pW l],iv e] (yD V):=by
 have C0:=@qhJ s _ ha hl;obtain ⟨m,hm⟩:∃ m,m=sgn s (val l):=⟨_,rfl⟩;have hmb:bl m.natAbs<=1000000:=by rw [hm,q0h]; exact hb
 have hp:=@q0K m.natAbs;have hs:m≠0->s=decide (m < 0):=λhz=>by
  rw [hm,q8u];have:0 < val l:=by
   rcases zK (val l) with h0 | h0
   .exfalso; apply hz; rw [hm,h0]; cases s <;> rfl
   .exact h0
  simp [this]
 rw [<- hm] at C0 hv;clear hm
 by_cases hz:m=0
 .have q:((lim m.natAbs).length:Int)=0:=by rw [hz]; rfl
  have hV:V=0:=by rw [hz,q1R] at hv; exact (Option.some.inj hv).symm
  subst hV;have e1:od 0=0:=q18;have e2:dyE 0=0:=rfl;rw [show yD 0=.ag [bv false,bv false,pW (lim 0),iv 0] by unfold yD; rw [e1,e2]; rfl];refine ac0 Tryz.func74 Tryz.ntmps74 [.cell 4 46] ?_;exact wk1 (x2 q q2C) trivial
 .have q:¬ ((lim m.natAbs).length:Int)=0:=ω
  replace hs:=hs hz;obtain ⟨hv1,hv2,hv3⟩:=q4t hz hv;obtain ⟨hv4,hv5,_,hv6⟩:=q43 hv;have htl:=qg8 (n:=m.natAbs) Oq;have hbo:=q9g hz;have C1:=qdc (a:=m) (s:=decide (m < 0)) Oq;have C2:=q6e (a:=m) (s:=decide (m < 0)) Oq;have C3:=qi4 (a:=m.natAbs) (N:=tz m.natAbs) rfl (by rw [zC]; omega) ω;rw [qrb] at C3;have C4:=q3P (a:=((od m).natAbs:Nat)) (s:=decide (((od m).natAbs:Int) < 0)) (by rw [zC]; omega);have e1:¬ (65536:Int) < e:=ω
  have e3:¬ (e+((tz m.natAbs:Nat):Int) < -65536):=ω
  have e5:¬ (65536:Int) < e+((tz m.natAbs:Nat):Int)+((bl (od m).natAbs:Nat):Int):=ω
  have e6:dyE V=e+(tz m.natAbs:Nat):=(hv5 hz).2;unfold yD;rw [hv4,q21,<- hs,e6];clear hv hv5 hv6 hv1 hv2 hv3;generalize tz m.natAbs=z at *;simp only [zC] at C2 C3 C4;refine ac0 Tryz.func74 Tryz.ntmps74 [.cell 4 46] ?_;exact wk1 (x4 q e1 e3 e5) trivial
def qoB {f:Nat} (hf:f < 18446744073709551616):ACt 31 [uv f] (bv (decide (q0I f))):=by
 have h1:=q3u (a:=f / 4503599627370496) Oq;have h2:(((f / 4503599627370496 % 2048:Nat):Int) != 2047)=decide (q0I f):=bneN (b:=2047);refine ac0 Tryz.func31 Tryz.ntmps31 [.tmp 2] ?_;exact wk1 (x2 h1 h2) trivial
def qeH {f:Nat} (hf:f < 18446744073709551616):ACt 96 [uv f] (bv (decide (9223372036854775808<=f))):=by
 have h2:=qdv hf;refine ac0 Tryz.func96 Tryz.ntmps96 [.tmp 2] ?_;exact wk1 h2 trivial
def qs7 {f:Nat} {V:Int} (hf:f < 18446744073709551616) (hv:ofF f=some V):ACt 33 [uv f] (yD V):=by
 have hfin:q0I f:=λh=>by unfold ofF at hv; rw [if_pos h] at hv; cases hv
 obtain ⟨V',hv',hmk⟩:=q9G hfin;rw [hv] at hv'; cases hv';have C1:=qoB hf;have C2:=qeH hf;have h1:=q3u (a:=f / 4503599627370496) Oq;have h2:=q7J (a:=f) (by assumption);have hxm:=zF (f / 4503599627370496) (show 0 < 2048 by omega);have hm:=zF f (show 0 < 4503599627370496 by omega);rw [decide_eq_true hfin] at C1;obtain ⟨x,hxe⟩:∃ x,x=f / 4503599627370496 % 2048:=⟨_,rfl⟩;obtain ⟨m,hme⟩:∃ m,m=f % 4503599627370496:=⟨_,rfl⟩;rw [<- hxe] at hxm h1 hmk;rw [<- hme] at hm h2 hmk;have C3:=λ(M:Nat) (E:Int) (hM:M < 9007199254740992) (hE1 : -1074<=E) (hE2:E<=2000) (hmk:mkV (sgn (decide (9223372036854775808<=f)) M) E=some V) =>
  have hval:val [M % 4294967296,M / 4294967296 % 4294967296]=M:=by simp only [val,B]; omega
  qab (s:=decide (9223372036854775808<=f)) (l:=[M % 4294967296,M / 4294967296 % 4294967296]) (e:=E) (V:=V) (λd hd=>by simp at hd; unfold B; omega) σ (by rw [hval]; have:=q0O (show M < 2 ^ 53 by omega); omega) ω ω (by rw [hval]; exact hmk)
 clear hv hfin hf;generalize decide (9223372036854775808<=f)=sg at *;refine ac0 Tryz.func33 Tryz.ntmps33 [.cell 2 46] ?_;refine wk1 (x2 h1 h2) ?_;refine qjM (λp:Nat × Int=>p.1 < 9007199254740992 /\ -1074<=p.2/\p.2<=2000/\mkV (sgn sg p.1) p.2=some V) (λp=>[(0,uv f),(2,.pt 2 0 0),(4,uv p.1),(5,iv p.2)]) (λ_=>[(2,⟨46,some 4,[.ag [bv false,bv false,q05,iv 0]],false⟩)]) ?_ λK fin=>?_
 .rintro ⟨M,E⟩ ⟨a1,a2,a3,a4⟩;have C4:=C3 M E a1 a2 a3 a4;have em:=yG M 4294967296;refine q4B 8 29 λK hK=>?_
  try refine Zz ?_
  refine q0T C2 ?_
  try refine Zz ?_
  refine q1b ?_
  try refine Zz ?_
  refine q0T C4 ?_
  try refine Zz ?_
  refine hK _ _ ?_;exact wk trivial
 .by_cases hx0:x=0
  .have q:¬ (0:Int) < x:=ω
   rw [if_pos hx0,if_pos hx0] at hmk;refine wk1 q ?_;refine fin (m,-1074) _ _ ⟨by simp only; omega,by simp only; omega,by simp only; omega,hmk⟩ ?_;refine LeM [] rfl rfl ?_;exact Zy
  .have q:(0:Int) < x:=ω
   have h4:=qkD hm;rw [if_neg hx0,if_neg hx0] at hmk;refine wk1 (x2 q h4) ?_;refine fin (_,(x:Int)-1075) _ _ ⟨?_,by simp only; omega,by simp only; omega,hmk⟩ ?_
   .simp only; omega
   refine LeM [] rfl rfl ?_;exact Zy
end
section
variable {m e V:Int} {f:FuncId} {al:List PV}
def q1u (h:ACt f al (dT V)) (ho:q0Z V):ACt f al (pV V):=qlH (r:=dT V) (λD w v h=>qdb (q3C.1 ⟨h,ho⟩)) h
def qfH {s:Bool} (hs:s=decide (m < 0)) (hb:bl m.natAbs<=1000000) (he1 : -1000000<=e) (he2:e<=1000000) (hv:mkV m e=some V):ACt 74 [sT s m,iv e] (dT V):=by
 have C:=qab (s:=s) (l:=lim m.natAbs) (e:=e) (V:=V) (q0C _) (q3G ω) (by rwa [q0D]) he1 he2 (by rw [q0D,hs,q07]; exact hv);exact q3F C
def q3k {s:Bool} (hs:s=decide (m < 0)) (hb:bl m.natAbs<=1000000) (he1 : -1000000<=e) (he2:e<=1000000) (hv:mkV m e=some V):ACt 74 [sT s m,iv e] (pV V):=q1u (qfH hs hb he1 he2 hv) (q43 hv).2.2.2
end
def q0t {V:Int} (ho:q0Z V):ACt 78 [dT V] (dT V):=by
 obtain ⟨h1,h2,h3⟩:=q1B ho;have C1:=qfH (m:=od V) (e:=dyE V) rfl Oq Oq Oq (qa9 ho);refine ac0 Tryz.func78 Tryz.ntmps78 [.cell 2 46] ?_;exact wk trivial
def qoJ {l:List Int} (hn:l.length<=1000) (ho:∀ x ∈ l,q0Z x) (hv:q0Z (q1M l)):ACt 45 [.sl (some 4) (l.map λV=>pV V)] (pV (q1M l)):=by
 have C2:=@q3i;refine ac0 Tryz.func45 Tryz.ntmps45 [.cell 2 46] ?_;refine wk ?_;refine q0B (λq:Nat × Int × Int=>q.1<=l.length /\ -65536<=q.2.2/\q.2.2<=65536/\q.2.1*(2:Int) ^ (q.2.2+65536).toNat=q1M (l.take q.1)) [0,2,3,7] [2] Lk Lk (λq=>[(5,iv q.1),(4,iv q.2.2)]) (λq=>[(3,⟨42,some 2,[bT q.2.1],false⟩)]) (λq=>l.length-q.1) (0,0,0) ⟨zE _,by decide,by decide,by rw [Int.zero_mul]; rfl⟩ ?_ ?_
 .refine LeM [] rfl rfl ?_;refine Zz ?_;exact ⟨rfl,rfl⟩
 .rintro ⟨i,tot,e⟩ ⟨hi,he1,he2,hs⟩;simp only at hi he1 he2 hs ⊢;have hbs:=qj3 (i:=i) ho Oq;have hbt:=q3r hs
  by_cases hlt:i < l.length
  .obtain ⟨x,hxi⟩:∃ x,l[i]?=some x:=⟨_,yJ Oq⟩;have hox:=ho x (yY hxi);obtain ⟨hd1,hd2,hd3⟩:=q1B hox;have hst:=q5K l i x hxi;have hbx:bl x.natAbs<=131072:=hox;have C1:=qjD κ λh=>q0t h (V:=x)
   by_cases hx0:x=0
   .have q1:((od x).sign == 0)=true:=by rw [hx0]; rfl
    refine wk1 (x2 hxi q1) ?_;refine ⟨(i+1,tot,e),⟨by simp only; omega,he1,he2,by simp only; rw [hst,hx0,Int.add_zero]; exact hs⟩,by simp only; omega,?_⟩;simp only;refine LeM [] rfl rfl ?_;refine Zz ?_
    rfl
   .have q1:((od x).sign == 0)=false:=by
     have hod:=q39 hx0
     rcases xA hod with h | h
     .rw [uK h]; rfl
     .rw [zM h]; rfl
    have hdx:dyE x=(tz x.natAbs:Int)-65536:=by unfold dyE; rw [if_neg hx0]
    have hodx:od x*(2:Int) ^ (dyE x+65536).toNat=x:=by
     rw [hdx,show ((tz x.natAbs:Int)-65536+65536).toNat=tz x.natAbs by omega,q1K]
    by_cases ht0:tot=0
    .have q2:(Int.sign tot == 0)=true:=by rw [ht0]; rfl
     refine wk1 (x3 hxi q1 q2) ?_;refine ⟨(i+1,od x,dyE x),⟨by simp only; omega,hd1,hd2,by simp only; rw [hst,hodx,<- hs,ht0]; simp⟩,by simp only; omega,?_⟩;simp only;refine LeM [] rfl rfl ?_;refine Zz ?_
     rfl
    .have q2:(Int.sign tot == 0)=false:=by
      rcases xA ht0 with h | h
      .rw [uK h]; rfl
      .rw [zM h]; rfl
     have C3:=@q3j;have C4:=@qfJ
     by_cases hge:e<=dyE x
     .have hsh:shI (od x) (dyE x-e)=od x*(2:Int) ^ (dyE x-e).toNat:=by unfold shI; rw [if_pos ω]
      have hlf:od x*(2:Int) ^ (dyE x-e).toNat*(2:Int) ^ (e+65536).toNat=x:=by
       rw [Int.mul_assoc,<- Int.pow_add,show (dyE x-e).toNat+(e+65536).toNat=(dyE x+65536).toNat by omega,hodx]
      have hb11:=q3r hlf;refine wk1 (x4 hxi q1 q2 hsh) ?_;refine ⟨(i+1,tot+od x*(2:Int) ^ (dyE x-e).toNat,e),⟨by simp only; omega,he1,he2,by simp only; rw [hst,Int.add_mul,hs,hlf]⟩,by simp only; omega,?_⟩;simp only;refine LeM [] rfl rfl ?_;refine Zz ?_
      rfl
     .have hsh:shI tot (e-dyE x)=tot*(2:Int) ^ (e-dyE x).toNat:=by unfold shI; rw [if_pos ω]
      have hlf:tot*(2:Int) ^ (e-dyE x).toNat*(2:Int) ^ (dyE x+65536).toNat=q1M (l.take i):=by
       rw [Int.mul_assoc,<- Int.pow_add,show (e-dyE x).toNat+(dyE x+65536).toNat=(e+65536).toNat by omega,hs]
      have hb11:=q3r hlf;refine wk1 (x4 hxi q1 q2 hsh) ?_;refine ⟨(i+1,tot*(2:Int) ^ (e-dyE x).toNat+od x,dyE x),⟨by simp only; omega,hd1,hd2,by simp only; rw [hst,Int.add_mul,hlf,hodx]⟩,by simp only; omega,?_⟩;simp only;refine LeM [] rfl rfl ?_;refine Zz ?_
      rfl
  .obtain rfl:i=l.length:=ω
   rw [List.take_length] at hs hbs hbt;have C1:=@q3k;have hmk:mkV tot e=some (q1M l):=by rw [q4u ω hs]; exact q23 hv
   exact wk trivial
section
attribute [local instance] lNL
def qk5 {l:List Nat} {i:Nat} (ha:q0Y l) (hi:i < l.length) (h2:l.length<=2):(val (l.take i) ||| l.getD i 0*2 ^ (32*i) % 18446744073709551616)=val (l.take (i+1)):=by
 have hd:=ha.get i;unfold B at hd;have h1:=q12 (ha.take i);rw [ltk ω] at h1;have hb:B ^ i=2 ^ (32*i):=by rw [q9r,<- yZ]
 rw [hb] at h1;have hm:l.getD i 0*2 ^ (32*i) < 18446744073709551616:=by
  have:l.getD i 0*2 ^ (32*i) < 2 ^ 32*2 ^ (32*i):=yX hd (q0E _);rw [<- zW] at this;exact zJ this (zI (n:=2) Oq (show 32+32*i<=64 by omega))
 rw [zB hm,q1z h1,vts,hb,zD]
section
variable {a:Int} {s:Bool}
def qh6 (hs:s=decide (a < 0)) (h0:0<=a) (ha:a<=9223372036854775807):ACt 247 [yT s a] (.tu [iv a,bv true]):=by
 obtain rfl:s=false:=by rw [hs]; exact decide_eq_false ω
 clear hs;obtain ⟨x,rfl⟩:∃ x:Nat,a=x:=⟨a.toNat,ω⟩;change ACt 247 [.ag [bv false,pW (lim x)]] (.tu [iv (x:Nat),bv true]);have hl:(lim x).length<=2:=q0e (show x < B ^ 2 by unfold B; omega);obtain ⟨n,hn⟩:∃ n,(lim x).length=n:=⟨_,rfl⟩;have T1:=q0W (q0C x) Oq;rw [q0D] at T1;have q:¬ (2:Int) < n:=ω
 refine ac0 Tryz.func247 Tryz.ntmps247 [.tmp 2,.tmp 3] ?_;refine wk1 (x2 hn q) ?_;refine q0B (λi:Nat=>i<=n) [1,14,15] [1] Lk Lk (λi=>[(16,iv i),(5,uv (val ((lim x).take i)))]) (λ_=>[]) (λi=>n-i) 0 (zE _) ?_ ?_
 .refine LeM [] rfl rfl ?_;refine Zz ?_;exact ⟨rfl,rfl⟩
 .intro i hi
  by_cases hlt:i < n
  .have q1:(i:Int) < n:=ω
   have e1:=q1J (l:=lim x) (i:=i) Oq;have hd:(lim x).getD i 0 < 4294967296:=(q0C x).get i;have hv:val ((lim x).take i) < 18446744073709551616:=by rw [q1v (q0C x),q0D]; exact zG (Nat.mod_le _ _) ω
   have e2:=qk5 (q0C x) (i:=i) Oq hl;have e3:IntKind.i64.wrap (32*(i:Int))=((32*i:Nat):Int):=by rw [i64_in ω ω]; omega
   refine wk1 (x4 q1 e1 e3 e2) ?_;refine ⟨i+1,ω,ω,?_⟩;refine LeM [] rfl rfl ?_;refine Zz ?_
   rfl
  .have q1:¬ (i:Int) < n:=ω
   have e1:val ((lim x).take i)=x:=by rw [q0F _ _ ω,q0D]
   rw [e1];have q2:(x:Int) < 9223372036854775808:=ω
   exact wk1 (x2 q1 q2) trivial
def qhC (hs:s=decide (a < 0)) (h0:0<=a) (ha:a<=9223372036854775807):ACt 219 [yT s a] (.tu [iv a,bv true]):=by
 have hb:bl a.natAbs<=64:=q0O (show a.natAbs < 2 ^ 64 by omega);have C1:=q36 hs Oq;clear hb;obtain rfl:s=false:=by rw [hs]; exact decide_eq_false ω
 clear hs;obtain ⟨x,rfl⟩:∃ x:Nat,a=x:=⟨a.toNat,ω⟩;unfold zT at C1;rw [show decide ((x:Int) < 0)=false from decide_eq_false ω] at C1;change ACt 139 [.ag [bv false,pW (lim x)]] (.ag [bv false,pW (lim x)]) at C1;change ACt 219 [.ag [bv false,pW (lim x)]] (.tu [iv (x:Nat),bv true]);have hl:(lim x).length<=2:=q0e (show x < B ^ 2 by unfold B; omega);obtain ⟨n,hn⟩:∃ n,(lim x).length=n:=⟨_,rfl⟩;have q:¬ (2:Int) < n:=ω
 refine ac0 Tryz.func219 Tryz.ntmps219 [.tmp 2,.tmp 3] ?_;refine wk1 (x2 hn q) ?_;refine q0B (λi:Nat=>i<=n) [1] [1] Lk Lk (λi=>[(5,iv i),(4,uv (val ((lim x).take i)))]) (λ_=>[]) (λi=>n-i) 0 (zE _) ?_ ?_
 .refine LeM [] rfl rfl ?_;refine Zz ?_;exact ⟨rfl,rfl⟩
 .intro i hi
  by_cases hlt:i < n
  .have q1:(i:Int) < n:=ω
   have e1:=q1J (l:=lim x) (i:=i) Oq;have hd:(lim x).getD i 0 < 4294967296:=(q0C x).get i;have hv:val ((lim x).take i) < 18446744073709551616:=by rw [q1v (q0C x),q0D]; exact zG (Nat.mod_le _ _) ω
   have e2:=qk5 (q0C x) (i:=i) Oq hl;have e3:IntKind.i64.wrap (32*(i:Int))=((32*i:Nat):Int):=by rw [i64_in ω ω]; omega
   refine wk1 (x5 hn q1 e1 e3 e2) ?_;refine ⟨i+1,ω,ω,?_⟩;refine LeM [] rfl rfl ?_;refine Zz ?_
   rfl
  .have q1:¬ (i:Int) < n:=ω
   have e1:val ((lim x).take i)=x:=by rw [q0F _ _ ω,q0D]
   rw [e1];have q2:¬ (9223372036854775807:Int) < x:=ω
   exact wk1 (x3 hn q1 q2) trivial
end
end
section
variable {a b m e V:Int} {f:FuncId} {al:List PV}
def qi0 {s t:Bool} (hs:s=decide (a < 0)) (ht:t=decide (b < 0)) (ha:bl a.natAbs<=20000000) (hb:bl b.natAbs<=20000000):ACt 80 [sT s a,sT t b] (bT (a*b)):=q3F (qhB hs ht ha hb)
def qcC {s:Bool} (_:s=decide (a < 0)) (ha:bl a.natAbs<=20000000):ACt 142 [sT s a] (iv (bl a.natAbs:Nat)):=q3F (q3P ha)
def qoN {s:Bool} (_:s=decide (a < 0)) (ha:bl a.natAbs<=20000000):ACt 76 [sT s a] (bT a.natAbs):=q3F (q6e ha)
def qoK {s:Bool} (hs:s=decide (a < 0)) (h0:0<=a) (ha:a<=9223372036854775807):ACt 219 [sT s a] (.tu [iv a,bv true]):=q3F (qhC hs h0 ha)
def q37 {z:Int} (h1 : -9223372036854775808<=z) (h2:z<=9223372036854775807) (hv:mkV z 0=some V):ACt 50 [iv z] (pV V):=by
 have hz:bl z.natAbs<=64:=q0O (zG (show z.natAbs<=9223372036854775808 by omega) (by decide));have C1:=@q8O;have C2:=@q3k;refine ac0 Tryz.func50 Tryz.ntmps50 [.cell 2 46] ?_;exact wk trivial
def q9B (hv:mkV (a*b) (-131072)=some V):ACt 22 [pV a,pV b] (pV V):=qlI κ λ⟨ha,hb⟩=>by
 obtain ⟨ha1,ha2,ha3⟩:=q1B ha;obtain ⟨hb1,hb22,hb33⟩:=q1B hb;have hmul:=q1s (od a).natAbs (od b).natAbs;rw [<- Int.natAbs_mul] at hmul;have C1:=q0t ha;have C4:=q0t hb;have C2:=@qi0;have C3:=q3k (m:=od a*od b) (e:=dyE a+dyE b) rfl Oq Oq Oq ((qeF a b).trans hv);refine ac0 Tryz.func22 Tryz.ntmps22 [.cell 4 46] ?_;exact wk trivial
def qs9 {V:Int} (hz:V≠0):((od V).sign == 0)=false:=by
 have hod:=q39 hz
 rcases xA hod with h | h
 .rw [uK h]; rfl
 .rw [zM h]; rfl
def qcy {j V':Int} (ho:q0Z V) (h1 : -200000<=j) (h2:j<=200000) (hv:mkV (od V) (dyE V+j)=some V'):ACt 49 [dT V,iv j] (dT V'):=by
 obtain ⟨hd1,hd2,hd3⟩:=q1B ho;have C1:=q0t ho;have C2:=@q3i;have C3:=qfH (s:=decide (od V < 0)) rfl Oq Oq Oq hv;refine ac0 Tryz.func49 Tryz.ntmps49 [.cell 4 46] ?_
 by_cases hz:V=0
 .have q1:((od V).sign == 0)=true:=by rw [hz]; rfl
  rw [hz,q18,q1R] at hv;obtain rfl:V=V':=by rw [hz]; exact Option.some.inj hv
  exact wk1 q1 trivial
 .have q1:=qs9 hz;exact wk1 q1 trivial
def qvw {x r:PV} (hc:q0J Tryz.prog f=true) (ha:q0Z V->ACt f [dT V,x] r):ACt f [pV V,x] r:=q6P hc (λD w vs hR=>by
 obtain ⟨a,b,rfl,h1,h2⟩:=rd_2 hR;obtain ⟨h3,h4⟩:=q3C.2 (q8z h1);refine ⟨?_,h4⟩;unfold RdL;exact ⟨_,_,rfl,h3,RdL.one h2⟩) ha
end
section
variable {f:Nat} {neg:Bool}
def q4M (hf:f < 9223372036854775808):ACt 220 [bv neg,uv f] (uv (sb neg f:Nat)):=by
 have h:=qdq hf;refine ac0 Tryz.func220 Tryz.ntmps220 [.tmp 4] ?_;cases neg
 .exact wk1 (show sb false f=f from rfl) trivial
 .exact wk1 (x2 h (show sb true f=f+9223372036854775808 from rfl)) trivial
def qhA {mode:Int}:ACt 217 [bv neg,iv mode] (uv (q6f mode neg:Nat)):=by
 have C1:=q4M (f:=9218868437227405312) (neg:=neg) Oq;have C2:=q4M (f:=9218868437227405311) (neg:=neg) Oq;have e:q6f mode neg=sb neg (if mode=3\/mode=1/\neg=false\/mode=2/\neg=true then 9218868437227405311 else 9218868437227405312):=by
  unfold q6f;cases neg <;> simp <;> split <;> rfl
 rw [e];clear e;refine ac0 Tryz.func217 Tryz.ntmps217 [.tmp 4] ?_
 by_cases m3:mode=3
 .rw [if_pos (.inl m3)];exact wk trivial
 .by_cases m1:mode=1
  .have m2:mode≠2:=ω
   cases neg
   .rw [if_pos (.inr (.inl ⟨m1,rfl⟩))];exact wk trivial
   .rw [if_neg (by simp [m1])];exact wk trivial
  .by_cases m2:mode=2
   .cases neg
    .rw [if_neg (by simp [m2])];exact wk trivial
    .rw [if_pos (.inr (.inr ⟨m2,rfl⟩))];exact wk trivial
   .rw [if_neg (by simp [m1,m2,m3])];exact wk trivial
def q2F (hf:f < 18446744073709551616):ACt 31 [uv f] (bv (decide (q0I f))):=by
 have h1:=q3u (a:=f / 4503599627370496) Oq;have h2:(((f / 4503599627370496 % 2048:Nat):Int) != 2047)=decide (q0I f):=bneN (b:=2047);refine ac0 Tryz.func31 Tryz.ntmps31 [.tmp 2] ?_;exact wk1 (x2 h1 h2) trivial
end
def qaq (q:Int) (n:Nat) (h1:0<=q+1075) (h2:¬ 2047<=q+1075) (h3:4503599627370496<=n) (h4:n < 9007199254740992):∃ x:Nat,q+1075=x/\(q+1075).toNat=x/\IntKind.u64.wrap (x:Int)=x/\(q0q Tryz.prog .shl 32 (.int .u64 (x:Int)) (.int .u64 52)=some (.int .u64 ((x*4503599627370496:Nat):Int)))/\IntKind.u64.wrap ((n:Int)-4503599627370496)=((n-4503599627370496:Nat):Int)/\q0d .or .u64 ((x*4503599627370496:Nat):Int) ((n-4503599627370496:Nat):Int)=((x*4503599627370496+(n-4503599627370496):Nat):Int)/\x*4503599627370496+(n-4503599627370496) < 9223372036854775808 :=
 ⟨(q+1075).toNat,ω,rfl,u64_in ω ω,q68 ω,by rw [u64_in ω ω]; omega,qdr ω ω,ω⟩
def q5Q {N M:Nat} {neg more s:Bool} {mode e:Int} (hs:s=decide (((N / M:Nat):Int) < 0)) (hM:0 < M) (hN:M<=N) (hm:more=decide (N % M≠0)) (hmb:more=true->55<=bl (N / M)) (hb:bl (N / M)<=200000) (he1 : -200000<=e) (he2:e<=200000) :
  ACt 149 [bv neg,sT s (N / M:Nat),iv e,bv more,iv mode] (uv (rE mode neg N M e:Nat)):=by
 obtain rfl:s=false:=hs.trans negN;have hp:=Nat.div_pos hN hM;have hL1:=q3s (n:=N / M) Oq;have C1:=@qcC;have C3:=@q3j;have C4:=@qoK;have C5:=@q4M;have C6:=@qhA
 by_cases ht:1024<=e+(bl (N / M):Int)-1
 .rw [qm9 (mode:=mode) (neg:=neg) hM hN (e:=e) ht];obtain ⟨L,hL⟩:∃ L,bl (N / M)=L:=⟨_,rfl⟩;rw [hL] at ht hb hL1;refine ac0 Tryz.func149 Tryz.ntmps149 [.tmp 10] ?_;exact wk1 hL trivial
 .have hval:=qbj (mode:=mode) (neg:=neg) (e:=e) hM hN;have hnle:=qhD (mode:=mode) (neg:=neg) (e:=e) (q:=max (e+(bl (N / M):Int)-53) (-1074)) hM hN Oq;obtain ⟨L,hL⟩:∃ L,bl (N / M)=L:=⟨_,rfl⟩;rw [hL] at hmb hb hval hnle hL1 ht;obtain ⟨q,hq⟩:∃ q,max (e+(L:Int)-53) (-1074)=q:=⟨_,rfl⟩;rw [hq] at hval hnle;have hq':max (e+(L:Int)-1-52) (-1074)=q:=by omega
  have C2:=λh:e<=q=>qoL (neg:=neg) (mode:=mode) (k:=(q-e).toNat) negN.symm hM hm (λh=>by have:=hmb h; omega) Oq Oq;have hr2:q < e->shI ((N / M:Nat):Int) (e-q)=(rq mode neg (N*2 ^ (e-q).toNat) (M*2 ^ (q-e).toNat):Nat):=λhqe=>by
   have hmo:N % M=0:=by
    cases more
    .simpa using hm.symm
    .have:=hmb rfl; omega
   have hd:N=N / M*M:=by have:=uP N M; rw [zD] at this; omega
   rw [show (q-e).toNat=0 by omega,Nat.pow_zero,xK];unfold shI;rw [if_pos ω,q34 (by rw [hd,xO]; exact Nat.mul_mod_left _ _)]
   conv=>rhs; rw [hd,xO,xR _ hM]
   rw [wE,q0N]
  have hr3:e<=q->N*2 ^ (e-q).toNat=N:=λh=>by rw [show (e-q).toNat=0 by omega,Nat.pow_zero,xK]
  obtain ⟨r,hr⟩:∃ r,rq mode neg (N*2 ^ (e-q).toNat) (M*2 ^ (q-e).toNat)=r:=⟨_,rfl⟩;rw [hr] at hval hnle hr2;have hbr:bl r<=54:=q0O (zG hnle (by decide));have C2':e<=q->ACt _ _ (bT r):=λh=>by
   have:=C2 h;rw [<- hr3 h,hr] at this
   rwa [hr3 h] at this
  rw [hval];generalize N / M=d at *;clear hval hr hr3 C2 hm hmb;unfold Go.Sp.fin Go.Sp.q4g;refine ac0 Tryz.func149 Tryz.ntmps149 [.tmp 10] ?_;refine wk1 (x2 hL hq') ?_;refine A_jn λK hK=>?_;have fin0:∀ (s:Nat->PV) (h:Hp),s 0=bv neg->s 4=iv mode->s 12=iv q->s 13=.pt 13 0 0->h 13=some ⟨42,some 2,[bT r],false⟩->K s h:=by
   intro s h s0 s4 s12 s13 h13;refine hK _ _ ?_; clear hK K;have e2:IntKind.u64.wrap ((r:Nat):Int)=r:=u64_in Oq Oq
   by_cases h53:r=9007199254740992
   .rw [if_pos h53,if_neg ω]
    by_cases hov:2047<=q+1+1075
    .rw [if_pos hov];exact wk1 (x6 s0 s4 s12 s13 h13 h53) trivial
    .rw [if_neg hov];obtain ⟨x,f1,f2,f3,f4,f5,f6,f7⟩:=qaq (q+1) 4503599627370496 Oq hov Oq Oq;rw [f2,Nat.sub_self,z9];rw [Nat.sub_self,z9] at f6 f7;replace f6:q0d .or .u64 ((x*4503599627370496:Nat):Int) 0=((x*4503599627370496:Nat):Int):=f6;replace f5:IntKind.u64.wrap 0=0:=f5;have f8:IntKind.i64.wrap (4503599627370496-4503599627370496)=0:=rfl;exact wk1 (x6 s0 s4 s12 s13 h13 (x6 h53 f1 f3 f4 f5 (x2 f6 f8))) trivial
   .rw [if_neg h53]
    by_cases h52:r < 4503599627370496
    .rw [if_pos h52];exact wk1 (x6 s0 s4 s12 s13 h13 e2) trivial
    .rw [if_neg h52]
     by_cases hov:2047<=q+1075
     .rw [if_pos hov];exact wk1 (x6 s0 s4 s12 s13 h13 e2) trivial
     .rw [if_neg hov];obtain ⟨x,f1,f2,f3,f4,f5,f6,f7⟩:=qaq q r Oq hov Oq Oq;rw [f2];exact wk1 (x6 s0 s4 s12 s13 h13 (x6 e2 f1 f3 f4 f5 f6)) trivial
  by_cases hqe:e<=q
  .have C2:=C2' hqe;obtain ⟨k,f0⟩:∃ k:Nat,q-e=(k:Int):=⟨(q-e).toNat,ω⟩;rw [show (q-e).toNat=k by omega] at C2;refine wk1 f0 ?_;refine fin0 _ _ ?_ ?_ ?_ ?_ ?_ <;> simp -implicitDefEqProofs (disch:=omega) only [go_sem,Nat.reduceEqDiff,Nat.reduceAdd,↓reduceIte,f0]
  .have f0:=hr2 Oq;refine wk1 f0 ?_;refine fin0 _ _ ?_ ?_ ?_ ?_ ?_ <;> simp -implicitDefEqProofs (disch:=omega) only [go_sem,Nat.reduceEqDiff,Nat.reduceAdd,↓reduceIte,f0]
def qcz {V mode:Int} (ho:q0Z V):ACt 83 [dT V,iv mode] (uv (fR mode V:Nat)):=by
 obtain ⟨hd1,hd2,hd3⟩:=q1B ho;have C1:=q0t ho;have C2:=@q3i;have C3:=@qoN;refine ac0 Tryz.func83 Tryz.ntmps83 [.tmp 4] ?_
 by_cases hz:V=0
 .have q1:((od V).sign == 0)=true:=by rw [hz]; rfl
  rw [show ((fR mode V:Nat):Int)=0 by rw [show fR mode V=0 from if_pos hz]; rfl];exact wk1 q1 trivial
 .have q1:=qs9 hz;have hod:=q39 hz;have C4:=q5Q (N:=(od V).natAbs) (M:=1) (neg:=decide (od V < 0)) (more:=false) (s:=false) (mode:=mode) (e:=dyE V) negN.symm Nat.one_pos ω (by rw [Nat.mod_one]; rfl) (λh=>by cases h) (by rw [Nat.div_one]; omega) ω ω;rw [Nat.div_one,rE_V hz,q21,show rF mode (decide (V < 0)) V.natAbs (2 ^ 65536)=fR mode V from (if_neg hz).symm] at C4;rw [<- q21] at C4;exact wk1 q1 trivial
def q35 {V mode:Int}:ACt 83 [pV V,iv mode] (uv (fR mode V:Nat)):=qvw κ λho=>qcz ho
def q6E {z V mode:Int} (h1 : -9223372036854775808<=z) (h2:z<=9223372036854775807) (hv:mkV z 0=some V):ACt 68 [iv z,iv mode] (uv (fR mode V:Nat)):=by
 have C1:=q37 h1 h2 hv;have C2:=q35 (V:=V) (mode:=mode);refine ac0 Tryz.func68 Tryz.ntmps68 [.tmp 4] ?_;exact wk trivial
def qaY {f:Nat} (hf:f < 18446744073709551616):ACt 82 [uv f] (iv (q2P f:Nat)):=by
 have h1:=q3u (a:=f / 4503599627370496) Oq;have h2:=q7J (a:=f) hf;unfold q2P;generalize f / 4503599627370496 % 2048=x at *;generalize f % 4503599627370496=m at *;refine ac0 Tryz.func82 Tryz.ntmps82 [.tmp 2] ?_
 by_cases hx2:x=2047
 .by_cases hm0:m=0
  .rw [if_neg (by simp [hm0]),if_pos hx2];exact wk1 (x3 h1 h2 (show ((2:Nat):Int)=2 from rfl)) trivial
  .rw [if_pos ⟨hx2,hm0⟩];exact wk1 (x3 h1 h2 (show ((3:Nat):Int)=3 from rfl)) trivial
 .rw [if_neg λh=>hx2 h.1,if_neg hx2]
  by_cases hx0:x=0
  .by_cases hm0:m=0
   .rw [if_pos ⟨hx0,hm0⟩];exact wk1 (x3 h1 h2 (show ((0:Nat):Int)=0 from rfl)) trivial
   .rw [if_neg λh=>hm0 h.2];exact wk1 (x3 h1 h2 (show ((1:Nat):Int)=1 from rfl)) trivial
  .rw [if_neg λh=>hx0 h.1];exact wk1 (x3 h1 h2 (show ((1:Nat):Int)=1 from rfl)) trivial
def qm8 {f:Nat} (hf:f < 18446744073709551616):ACt 81 [uv f] (bv (decide (q2P f=3))):=by
 have C1:=qaY hf;have q:(((q2P f:Nat):Int) == 3)=decide (q2P f=3):=beqN (b:=3);refine ac0 Tryz.func81 Tryz.ntmps81 [.tmp 2] ?_;exact wk1 q trivial
def q5U {a:Int} {n:Nat} (h1 : -9223372036854775808<=a) (h2:a<=9223372036854775807) (hn:0 < n) (hn2:n<=9223372036854775807):ACt 23 [iv a,iv n] (iv (q06 a n:Nat)):=by
 have e1:IntKind.u64.wrap a=a % 18446744073709551616:=q0s a;have e2:IntKind.u64.wrap (n:Int)=n:=u64_in Oq Oq;have e3:¬ ((n:Int)=0):=ω
 have hlt:=qeC (a:=a) hn;have e4:(a % 18446744073709551616).tmod (n:Int)=((q06 a n:Nat):Int):=by
  unfold q06;rw [Int.tmod_eq_emod_of_nonneg ω,Int.natCast_emod]
  congr 1; omega
 refine ac0 Tryz.func23 Tryz.ntmps23 [.tmp 4] ?_;exact wk1 (x4 e1 e2 e3 e4) trivial
def qch {raw:List Nat} {k:Int} (hr:raw.length<=9223372036854775807) (h1 : -9223372036854775808<=k) (h2:k<=9223372036854775807):ACt 52 [pF raw,iv k] (uv (q5s raw k:Nat)):=by
 rw [q7Z raw k];unfold q8j qla qlb;have q1:∀ x:Int,q0q Tryz.prog .shr 31 (.int .u64 x) (.int .u64 31)=some (.int .u64 (x.fdiv (2 ^ 31))):=λx=>by rw [q1t,if_neg ω]; rfl
 have q2:∀ x:Int,q0q Tryz.prog .shr 31 (.int .u64 x) (.int .u64 29)=some (.int .u64 (x.fdiv (2 ^ 29))):=λx=>by rw [q1t,if_neg ω]; rfl
 refine ac0 Tryz.func52 Tryz.ntmps52 [.tmp 4] ?_
 by_cases h0:raw.length=0
 .rw [if_pos h0];exact wk1 (x2 q1 q2) trivial
 .rw [if_neg h0];have C1:=q5U (n:=raw.length) h1 h2 Oq hr;have hlt:=qeC (a:=k) (n:=raw.length) Oq;have hx:raw[q06 k raw.length]?=some (raw.getD (q06 k raw.length) 0):=by rw [zA,yJ hlt]; rfl
  generalize raw.getD (q06 k raw.length) 0=x at *;generalize q06 k raw.length=m at *;exact wk1 (x3 hx q1 q2) trivial
def qgh {x:Nat} (hx:x < 18446744073709551616):ACt 150 [uv x] (uv (flz (q31 x):Nat)):=by
 have hs:=q4p x;have e1:((x:Nat):Int).tmod 19=((x % 19:Nat):Int):=rfl;have e3:IntKind.i64.wrap (((x % 19:Nat):Int)-9)=q31 x:=by rw [i64_in ω ω]; rfl
 have hb:bl (q31 x).natAbs<=4:=q0O (show (q31 x).natAbs < 2 ^ 4 by omega);have C1:=q6E (z:=q31 x) (mode:=0) Oq Oq (q6h Oq);rw [show fR 0 (q31 x*2 ^ 65536)=flz (q31 x) from rfl] at C1;generalize flz (q31 x)=y at *;refine ac0 Tryz.func150 Tryz.ntmps150 [.tmp 2] ?_;exact wk1 (x2 e1 e3) trivial
def qse {x:Nat} {st:Int} (hx:x < 18446744073709551616) (h1 : -9223372036854775808<=st) (h2:st<=9223372036854775807):ACt 84 [uv x,iv st] (uv (q2J (q06 st 4) x:Nat)):=by
 have C1:=q5U (n:=4) h1 h2 Oq Oq;have hm4:q06 st 4 < 4:=by unfold q06; omega
 generalize q06 st 4=m at *
 rcases (by omega:m=1\/m=2\/m=3\/m=0) with h | h | h | h <;> subst h
 .have a1:q0d .and .u64 (x:Int) 9227875636482146303=((x &&& 9227875636482146303:Nat):Int):=q3w hx (b:=9227875636482146303) Oq;have a2:q0d .and .u64 ((x / 4503599627370496:Nat):Int) 7=((x / 4503599627370496 % 8:Nat):Int):=by
   have:=q3w (a:=x / 4503599627370496) (b:=7) Oq Oq;rw [show x / 4503599627370496 &&& 7=x / 4503599627370496 % 8 from yU _ 3] at this;exact this
  obtain ⟨e,he⟩:∃ e,e=x / 4503599627370496 % 8:=⟨_,rfl⟩;rw [<- he] at a2;have a3:IntKind.u64.wrap (1019+(e:Int))=((1019+e:Nat):Int):=by rw [u64_in (by omega) (by omega)]; omega
  have a4':IntKind.u64.wrap (((1019+e:Nat):Int)*2 ^ min (xY 52) 64)=(((1019+e)*4503599627370496:Nat):Int):=by
   rw [show (2:Int) ^ min (xY 52) 64=4503599627370496 from rfl,u64_in ω ω]; omega
  have ha:x &&& 9227875636482146303 < 18446744073709551616:=zG Nat.and_le_left hx;have a5:q0d .or .u64 ((x &&& 9227875636482146303:Nat):Int) (((1019+e)*4503599627370496:Nat):Int)=((q2J 1 x:Nat):Int):=by
   rw [qbl ha ω,he,num_1 hx]
  generalize q2J 1 x=r at *;generalize x &&& 9227875636482146303=y at *;refine ac0 Tryz.func84 Tryz.ntmps84 [.tmp 4] ?_;exact wk1 (x5 a1 a2 a3 a4' a5) trivial
 .have a1:q0d .and .u64 (x:Int) 9225623836668461056=((x &&& 9225623836668461056:Nat):Int):=q3w hx (b:=9225623836668461056) Oq;obtain ⟨e,he⟩:∃ e,e=x / 256 % 81:=⟨_,rfl⟩;have a0:Int.fdiv (x:Int) (2 ^ min (xY 8) 64)=((x / 256:Nat):Int):=by
   rw [show (2:Int) ^ min (xY 8) 64=((256:Nat):Int) from rfl,Int.fdiv_eq_ediv_of_nonneg _ ω]; rfl
  have a2:Int.tmod ((x / 256:Nat):Int) 81=(e:Int):=by rw [he]; rfl
  have a3:IntKind.u64.wrap (983+(e:Int))=((983+e:Nat):Int):=by rw [u64_in (by omega) (by omega)]; omega
  have a4:IntKind.u64.wrap (((983+e:Nat):Int)*2 ^ min (xY 52) 64)=(((983+e)*4503599627370496:Nat):Int):=by
   rw [show (2:Int) ^ min (xY 52) 64=4503599627370496 from rfl,u64_in ω ω]; omega
  have ha:x &&& 9225623836668461056 < 18446744073709551616:=zG Nat.and_le_left hx;have a5:q0d .or .u64 ((x &&& 9225623836668461056:Nat):Int) (((983+e)*4503599627370496:Nat):Int)=((q2J 2 x:Nat):Int):=by
   rw [qbl ha ω,he,num_2 hx]
  generalize q2J 2 x=r at *;generalize x &&& 9225623836668461056=y at *;generalize x / 256=z at *;refine ac0 Tryz.func84 Tryz.ntmps84 [.tmp 4] ?_;exact wk1 (x6 a0 a1 a2 a3 a4 a5) trivial
 .have C2:=q2F hx;refine ac0 Tryz.func84 Tryz.ntmps84 [.tmp 4] ?_
  by_cases hfi:q0I x
  .rw [show q2J 3 x=x by unfold q0I at hfi; simp [q2J,hfi]];rw [decide_eq_true hfi] at C2;exact wk trivial
  .rw [show ((q2J 3 x:Nat):Int)=0 by rw [show q2J 3 x=0 by unfold q0I at hfi; simp [q2J]; omega]; rfl];rw [decide_eq_false hfi] at C2;exact wk trivial
 .have C2:=qgh hx;rw [show flz (q31 x)=q2J 0 x by simp [q2J]] at C2;generalize q2J 0 x=r at *;refine ac0 Tryz.func84 Tryz.ntmps84 [.tmp 4] ?_;exact wk trivial
end Go.Proofs.YtbjoghfmhgadkaaGreatDoor
