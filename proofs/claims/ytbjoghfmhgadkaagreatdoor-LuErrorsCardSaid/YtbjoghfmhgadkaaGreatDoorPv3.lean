/- LuBounded and LuErrors are proved. 3/6. -/
import Derived.Laws.CopyRow
import Derived.Laws.IdiomRangeMap
import Derived.Test.YtbjoghfmhgadkaaGreatDoorPv2
open Array renaming getElem?_setIfInBounds->xJ,length_toList->wM
open Bool renaming not_false->zM,false_and->zQ,and_false->zR,not_true->zS,false_eq_true->zV,true_and->uE,and_true->uF
open Int renaming natAbs_natCast->zB,sign_eq_one_of_pos->zH,sign_eq_neg_one_of_neg->zW,reduceLT->z8,reduceEq->z9,lt_or_gt_of_ne->yZ,lt_trichotomy->xV,ediv_eq_zero_of_lt->uG,neg_mul->wI,sub_zero->wP,mul_neg->wV
open List renaming getD_eq_getElem?_getD->zA,length_range->zG,drop_of_length_le->zI,getElem?_set_self->zP,mem_cons_self->z6,mem_cons_of_mem->yF,drop_zero->yG,take_of_length_le->yL,drop_eq_getElem_cons->yN,mem_of_getElem?->yO,getElem?_eq_getElem->yP,length_take->yW,mem_append->yY,append_assoc->y6,mem_append_right->y9,take_append_drop->xA,length_cons->xC,map_cons->xF,map_append->xK,take_succ_cons->xL,drop_succ_cons->xM,map_set->xN,take_zero->xQ,mem_cons->xW,length_eq_zero_iff->xX,all_eq_true->xY,getElem?_replicate->xZ,length_drop->x7,mem_map->x8,append_nil->wC,getElem?_eq_none->wF,getElem?_append->wJ,mem_of_mem_drop->wL,length_append->wN,getElem?_drop->wO
open Nat renaming mod_eq_of_lt->zC,zero_le->zD,mod_lt->zE,mul_comm->zF,pow_le_pow_right->zJ,lt_of_lt_of_le->zK,le_refl->zL,zero_add->zN,eq_zero_or_pos->zO,le_trans->zU,pow_add->zX,lt_of_le_of_lt->zY,mul_assoc->uH,mul_add->yA,mod_mod->yB,pos_of_ne_zero->yC,lt_or_ge->yE,mul_le_mul_right->yH,div_add_mod->yI,div_le_self->yJ,mul_le_mul_left->yK,add_zero->yM,mul_zero->yQ,div_lt_iff_lt_mul->yR,mul_le_mul->yS,pow_mul->yU,div_lt_of_lt_mul->yV,add_mul->uI,mul_left_comm->y7,le_of_lt->y8,div_eq_of_lt->xD,and_two_pow_sub_one_eq_mod->xE,add_assoc->xG,pow_lt_pow_right->xH,zero_mul->xO,mul_lt_mul_of_pos_right->xP,mul_lt_mul_of_pos_left->uJ,lt_of_mul_lt_mul_right->xS,add_mul_mod_self_left->xT,mul_lt_mul''->uK,pow_succ->x9,div_div_eq_div_mul->uL,mod_add_div->wD,mul_eq_zero->wE,add_mul_div_left->wG,one_mul->wH,mul_one->wK,ne_of_gt->wQ,add_comm->wR,lt_trans->wS,or_comm->wU,beq->wW
open Option renaming some_ne_none->uM,ne_none_iff_exists'->z7,isSome_iff_exists->yX,bind_some->xB,map_some->xI,some->xU,bind_eq_some_iff->uN,getD_none->wT
set_option linter.unusedSimpArgs false
set_option linter.unusedVariables false
set_option maxRecDepth 20000
set_option maxHeartbeats 2000000
set_option linter.defProp false
namespace Go.E
open Go Go.RowKit
def nos:Nat->PV:=λ_=>.un
abbrev win (i:Nat):Prop:=5000<=i/\i < 1000000
def q0x (hw h:Hp):Hp:=λi=>if win i then hw i else h i
mutual
def IdP (p:Nat->Prop):PV->Prop
 | .ow id _ _ _=>p id
 | .pt id _ _=>p id
 | .mp id=>p id
 | .ag l=>IdL p l
 | .tu l=>IdL p l
 | _=>True
def IdL (p:Nat->Prop):List PV->Prop
 | []=>True
 | x :: l=>IdP p x/\IdL p l
end
def IdL.mem {p:Nat->Prop}:∀ {l:List PV},IdL p l->∀ x ∈ l,IdP p x
 | y :: l,h,x,hx=>by
  unfold IdL at h
  rcases xW.1 hx with rfl | hx
  .exact h.1
  .exact h.2.mem x hx
def IdL.of {p:Nat->Prop}:∀ {l:List PV},(∀ x ∈ l,IdP p x)->IdL p l
 | [],_=>by unfold IdL; trivial
 | y :: l,h=>by unfold IdL; exact ⟨h y z6,IdL.of λx hx=>h x (yF _ hx)⟩
section
variable {w:World} {D D':Nat->Prop} {ρ:Nat->Option Nat} {h h':Hp} {p:Nat->Prop}
mutual
def Rd.only [NL] (hd:∀ k,D k->D' k) (hp:∀ i,p i->h' i=h i):∀ (x:PV) (y:Value),IdP p x->Rd w D x ρ h y->Rd w D' x ρ h' y
 | .un,_,_,_=>by unfold Rd; trivial
 | .vl x,y,_,hr=>by unfold Rd at hr ⊢; exact hr
 | .fm G,y,_,hr=>by unfold Rd at hr ⊢; exact hr.sub λk _ hk=>hd k hk
 | .sl k l,y,_,hr=>((q2J (x:=.sl k l) trivial hr).sub λk _ hk=>hd k hk).cl
 | .qt k x,y,_,hr=>((q2J (x:=.qt k x) trivial hr).sub λk _ hk=>hd k hk).cl
 | .ow id k off n,y,hi,hr=>by
  unfold IdP at hi;unfold Rd at hr ⊢;rw [hp id hi];exact hr
 | .pt id i j,y,hi,hr=>by
  unfold IdP at hi;unfold Rd at hr ⊢;rw [hp id hi];exact hr
 | .mp id,y,hi,hr=>by
  unfold IdP at hi;unfold Rd at hr ⊢;rw [hp id hi];exact hr
 | .ag l,y,hi,hr=>by
  unfold IdP at hi;unfold Rd at hr ⊢;obtain ⟨vs,h1,h2⟩:=hr;exact ⟨vs,h1,RdL.only hd hp l vs hi h2⟩
 | .tu l,y,hi,hr=>by
  unfold IdP at hi;unfold Rd at hr ⊢;obtain ⟨vs,h1,h2⟩:=hr;exact ⟨vs,h1,RdL.only hd hp l vs hi h2⟩
def RdL.only [NL] (hd:∀ k,D k->D' k) (hp:∀ i,p i->h' i=h i):∀ (l:List PV) (vs:List Value),IdL p l->RdL w D l ρ h vs->RdL w D' l ρ h' vs
 | [],vs,_,hr=>by unfold RdL at hr ⊢; exact hr
 | x :: l,vs,hi,hr=>by
  unfold IdL at hi;unfold RdL at hr ⊢;obtain ⟨y,ys,h1,h2,h3⟩:=hr;exact ⟨y,ys,h1,Rd.only hd hp x y hi.1 h2,RdL.only hd hp l ys hi.2 h3⟩
end
end
structure ACm [NL] (P:Program) (Tb:World->Prop) (f:FuncId) (al:List PV) (hin:Hp) (x:PV) (hout:Hp):Prop where
 ca:q0H P f=true
 hi:∀ i b,hin i=some b->win i/\b.st=false/\IdL win b.xs/\∃ b',hout i=some b'/\b'.k=b.k/\b.xs.length<=b'.xs.length
 ho:∀ i b,hout i=some b->win i
 ids:IdL win al
 run:∀ (D0:Nat->Prop) (B:Base) (ρ:Nat->Option Nat) (w:World) (vs:List Value),(∀ w',Kp B.F B.w w'->Tb w')->(∀ i r,B.J i r->hin i≠none)->Fr D0 B.w->vs.length=al.length->Sat D0 B (enP al) hin ρ (q3Y vs) w ->
  Calls P f vs.toArray w λr w'=>∃ v ρ',r=.returned v/\Sat D0 B nos hout ρ' (λ_=>v) w'/\Rd w' (dm D0 ρ' hout) x ρ' hout v
structure ACx [NL] (P:Program) (Tb:World->Prop) (f:FuncId) (al:List PV) (hin:Hp) (x:PV) (hout:Hp):Prop where
 ca:q0H P f=true
 hi:∀ i b,hin i=some b->win i/\b.st=false/\IdL win b.xs/\(hout i=none\/∃ b',hout i=some b'/\b'.k=b.k/\b.xs.length<=b'.xs.length)
 ho:∀ i b,hout i=some b->win i
 ids:IdL win al
 run:∀ (D0:Nat->Prop) (B:Base) (ρ:Nat->Option Nat) (w:World) (vs:List Value),(∀ w',Kp B.F B.w w'->Tb w')->(∀ i r,B.J i r->hin i≠none/\hout i≠none)->Fr D0 B.w->vs.length=al.length->Sat D0 B (enP al) hin ρ (q3Y vs) w ->
  Calls P f vs.toArray w λr w'=>∃ v ρ',r=.returned v/\Sat D0 B nos hout ρ' (λ_=>v) w'/\Rd w' (dm D0 ρ' hout) x ρ' hout v
def ACm.x [NL] {P:Program} {Tb:World->Prop} {f:FuncId} {al:List PV} {hin hout:Hp} {x:PV} (h:ACm P Tb f al hin x hout):ACx P Tb f al hin x hout :=
 ⟨h.ca,λi b hb=>⟨(h.hi i b hb).1,(h.hi i b hb).2.1,(h.hi i b hb).2.2.1,.inr (h.hi i b hb).2.2.2⟩,h.ho,h.ids,λD0 B ρ w vs h1 h2=>h.run D0 B ρ w vs h1 λi r hr=>(h2 i r hr).1⟩
def retX [NL] (P:Program) (fn:Func) (J:Nat->Prop) (x:PV) (hout:Hp):SQ:=λe s h=>(e=.ret\/e=.normal)/\fn.results.toList.length<=4/\∃ l,rsL P h s fn.results.toList=some l/\Le J (λ_=>mkR l) h (λ_=>x) hout
abbrev retM [NL] (P:Program) (fn:Func) (hin:Hp) (x:PV) (hout:Hp):SQ:=retX P fn (λi=>hin i≠none) x hout
section
variable {P:Program} {Tb:World->Prop} {n:Nat} {s:Nat->PV} {h hin hout:Hp} {D0:Nat->Prop} {w0:Base} {w:World} {ρ:Nat->Option Nat} {e:Env}
def qrV [NL] {D:Nat->Prop} {l:List PV} {us:List Value} (hr:RdL w D l ρ h us):Rd w D (mkR l) ρ h (mkV us):=by
 cases l with
 | nil=>unfold RdL at hr; subst hr; unfold mkR mkV Rd; exact ⟨[],rfl,by unfold RdL; rfl⟩
 | cons c cl =>
  cases cl with
  | nil =>
   unfold RdL at hr;obtain ⟨y,ys,rfl,e1,e2⟩:=hr;unfold RdL at e2;subst e2;exact e1
  | cons d cl =>
   have u5:=hr;unfold RdL at u5;obtain ⟨y,ys,rfl,e1,e2⟩:=u5;unfold RdL at e2;obtain ⟨z,zs,rfl,e3,e4⟩:=e2
   show Rd w D (.tu (c :: d :: cl)) _ _ (.tuple ⟨y :: z :: zs⟩)
   unfold Rd;exact ⟨_,rfl,hr⟩
def qju [NL] {f:FuncId} {fn:Func} {c:Code} {al:List PV} {x:PV} (hc:q0H P f=true) (hf:P.funcs[f]?=some fn) (hb:fn.body=some c) (hn:fn.ntmps=n) (hd:(decide (al.length<=n) && q5m n c)=true)
  (hi:∀ i b,hin i=some b->win i/\b.st=false/\IdL win b.xs/\(hout i=none\/∃ b',hout i=some b'/\b'.k=b.k/\b.xs.length<=b'.xs.length)) (ho:∀ i b,hout i=some b->win i) (hal:IdL win al)
  (hw:AW P Tb (λi=>hin i≠none/\hout i≠none) n c (retX P fn (λi=>hin i≠none/\hout i≠none) x hout) (enP al) hin):ACx P Tb f al hin x hout:=by
 refine ⟨hc,hi,ho,hal,λD0 B ρ w vs hT hJ hF hlen S=>?_⟩;refine q3C hf hb hn (by rw [List.size_toArray,hlen]; exact hd) ?_;refine q4H (λy e' w' hx=>?_) (hw D0 B ρ _ w ⟨hT,hJ⟩ hF S);obtain ⟨s',h',ρ',S',hy,h4,l,h1,hle⟩:=hx;obtain ⟨us,u1,u2⟩:=qcC S' h1;have S2:Sat D0 B (λ_=>mkR l) h' ρ' (λ_=>mkV us) w':=⟨S'.inj,S'.own,S'.vir,λ_=>qrV u2,S'.ext,S'.fr,S'.imp,S'.pin⟩;obtain ⟨ρ2,S3⟩:=hle _ _ _ _ _ hJ S2;have fin:∃ v ρ',Ending.returned (mkV us)=.returned v/\Sat D0 B nos hout ρ' (λ_=>v) w'/\Rd w' (dm D0 ρ' hout) x ρ' hout v :=
  ⟨_,ρ2,rfl,⟨S3.inj,S3.own,S3.vir,λ_=>by unfold nos Rd; trivial,S3.ext,S3.fr,S3.imp,S3.pin⟩,S3.rd 0⟩
 have key:qej P fn (λr w'=>∃ v ρ',r=.returned v/\Sat D0 B nos hout ρ' (λ_=>v) w'/\Rd w' (dm D0 ρ' hout) x ρ' hout v) .ret e' w':=by
  cases hrs:fn.results with
  | mk rs =>
  rw [hrs] at u1 h4;simp only at u1 h4;clear u2 h1 S2 hle S3
  rcases rs with _ | ⟨a,_ | ⟨b,_ | ⟨c,_ | ⟨d,_ | ⟨f,rs⟩⟩⟩⟩⟩ <;> rcases us with _ | ⟨x,_ | ⟨y,_ | ⟨z,_ | ⟨t,_ | ⟨t',us⟩⟩⟩⟩⟩ <;> simp at u1 h4
  .exact ret0 hrs fin
  .exact qqa hrs u1 fin
  .exact qq9 hrs u1.1 u1.2 fin
  .exact qq8 hrs u1.1 u1.2.1 u1.2.2 fin
  .exact qq7 hrs u1.1 u1.2.1 u1.2.2.1 u1.2.2.2 fin
 rcases hy with rfl | rfl
 .exact key
 .exact key
def qvx [NL] {f:FuncId} {fn:Func} {c:Code} {al:List PV} {x:PV} (hc:q0H P f=true) (hf:P.funcs[f]?=some fn) (hb:fn.body=some c) (hn:fn.ntmps=n) (hd:(decide (al.length<=n) && q5m n c)=true)
  (hi:∀ i b,hin i=some b->win i/\b.st=false/\IdL win b.xs/\∃ b',hout i=some b'/\b'.k=b.k/\b.xs.length<=b'.xs.length) (ho:∀ i b,hout i=some b->win i) (hal:IdL win al)
  (hw:AW P Tb (λi=>hin i≠none) n c (retM P fn hin x hout) (enP al) hin):ACm P Tb f al hin x hout:=by
 have e:(λi=>hin i≠none/\hout i≠none)=λi=>hin i≠none:=funext λi=>propext ⟨λh=>h.1,λh=>⟨h,by
  obtain ⟨b,hb⟩:=z7.1 h;obtain ⟨b',hb',_⟩:=(hi i b hb).2.2.2;rw [hb']; exact uM _⟩⟩
 have hX:ACx P Tb f al hin x hout:=qju hc hf hb hn hd (λi b hb=>⟨(hi i b hb).1,(hi i b hb).2.1,(hi i b hb).2.2.1,.inr (hi i b hb).2.2.2⟩) ho hal (by rw [e]; exact hw);exact ⟨hc,hi,ho,hal,λD0 B ρ w vs h1 h2=>hX.run D0 B ρ w vs h1 λi r hr=>(congrFun e i).mpr (h2 i r hr)⟩
def q0Q {hw:Hp} {i:Nat} (hi:win i):q0x hw h i=hw i:=if_pos hi
def q1I {hw:Hp} {i:Nat} (hi:¬ win i):q0x hw h i=h i:=if_neg hi
def Blk.uniq {g:Nat} {T T':TypeId} {c c':Array Value} (h1:Blk w g T c) (h2:Blk w g T' c'):c=c'/\T=T':=by
 have h5:=h1.symm.trans h2
 injection h5 with h5
 injection h5 with h5 h6
 exact ⟨h5,h6⟩
def q9n (hin hout:Hp) (i:Nat):Prop:=win i/\hin i≠none/\hout i=none
def Dd (hin hout:Hp) (s:Nat->PV) (h:Hp):Prop:=(∀ i,¬ q9n hin hout i)\/((∀ t,IdP (λi=>¬ q9n hin hout i) (s t))/\∀ i b,h i=some b->¬ win i->b.st=false/\IdL (λi=>¬ q9n hin hout i) b.xs)
mutual
def q3d {p q:Nat->Prop} (h:∀ i,p i->q i):∀ x:PV,IdP p x->IdP q x
 | .ow _ _ _ _,hp=>by unfold IdP at hp ⊢; exact h _ hp
 | .pt _ _ _,hp=>by unfold IdP at hp ⊢; exact h _ hp
 | .mp _,hp=>by unfold IdP at hp ⊢; exact h _ hp
 | .ag l,hp=>by unfold IdP at hp ⊢; exact IdL_mono h l hp
 | .tu l,hp=>by unfold IdP at hp ⊢; exact IdL_mono h l hp
 | .un,_=>by unfold IdP; trivial
 | .vl _,_=>by unfold IdP; trivial
 | .fm _,_=>by unfold IdP; trivial
 | .sl _ _,_=>by unfold IdP; trivial
 | .qt _ _,_=>by unfold IdP; trivial
def IdL_mono {p q:Nat->Prop} (h:∀ i,p i->q i):∀ l:List PV,IdL p l->IdL q l
 | [],_=>by unfold IdL; trivial
 | x :: l,hp=>by unfold IdL at hp ⊢; exact ⟨q3d h x hp.1,IdL_mono h l hp.2⟩
end
mutual
def qec {p:Nat->Prop} (h:∀ i,p i):∀ x:PV,IdP p x
 | .ow _ _ _ _=>by unfold IdP; exact h _
 | .pt _ _ _=>by unfold IdP; exact h _
 | .mp _=>by unfold IdP; exact h _
 | .ag l=>by unfold IdP; exact IdL_all h l
 | .tu l=>by unfold IdP; exact IdL_all h l
 | .un=>by unfold IdP; trivial
 | .vl _=>by unfold IdP; trivial
 | .fm _=>by unfold IdP; trivial
 | .sl _ _=>by unfold IdP; trivial
 | .qt _ _=>by unfold IdP; trivial
def IdL_all {p:Nat->Prop} (h:∀ i,p i):∀ l:List PV,IdL p l
 | []=>by unfold IdL; trivial
 | x :: l=>by unfold IdL; exact ⟨qec h x,IdL_all h l⟩
end
def Sat.callx [NL] {J:Nat->Prop} (S:Sat D0 w0 s h ρ e w) (hT:∀ w,Kp w0.F w0.w w->Tb w) (hF:Fr D0 w0.w) (hJ:∀ i r,w0.J i r->J i) {f:FuncId} {args:List Operand} {al:List PV} {x:PV} (ha:args.map (pe s)=al) (hC:ACx P Tb f al hin x hout) (hh:∀ i,win i->h i=hin i) (hn:∀ i,J i->hout i≠none->hin i≠none) (hd:Dd hin hout s h) {K:Value->World->Prop}
  (hK:∀ v w' ρ',Sat D0 w0 s (q0x hout h) ρ' e w'->Rd w' (dm D0 ρ' (q0x hout h)) x ρ' (q0x hout h) v->K v w'):q0H P f=true/\Calls P f (args.map (ev e)).toArray w λr w'=>match r with | .returned v=>K v w' | _=>False:=by
 classical
 refine ⟨hC.ca,?_⟩;subst ha;have hg1:∀ t,IdP (λi=>¬ q9n hin hout i) (s t):=λt=>hd.elim (λh=>qec h _) λh=>h.1 t;have hg2:∀ i b,h i=some b->¬ win i->IdL (λi=>¬ q9n hin hout i) b.xs:=λi b hb hw=>hd.elim (λh=>IdL_all h _) λh=>(h.2 i b hb hw).2;have hg3:∀ i b j,h i=some b->¬ win i->q9n hin hout j->b.st=false:=λi b j hb hw hj=>hd.elim (λh=>(h j hj).elim) λh=>(h.2 i b hb hw).1
 let hd:Nat->Prop:=λg=>∃ i b,win i/\h i=some b/\ρ i=some g
 let h1:Hp:=λi=>if q9n hin hout i then none else h i
 have hh1:∀ i,¬ q9n hin hout i->h1 i=h i:=λi hi=>if_neg hi
 let B:Base:=⟨w,λk=>k < w.heap.size/\¬ hd k,λg T m=>∃ cs,Blk w g T cs/\cs.size=m/\∀ u ∈ cs.toList,q3f u=true,λi r=>((∃ b,hin i=some b)/\hout i≠none)/\ρ i=r,λk hk=>hk.1,λi r ⟨⟨⟨b,hb⟩,_⟩,_⟩=>(hC.hi i b hb).1⟩
 let D1:Nat->Prop:=λk=>D0 k/\(hd k\/∀ i b,h i=some b->¬ win i->ρ i≠some k)
 have toh:∀ {i b},hin i=some b->h i=some b:=λ{i b} hb=>(hh i (hC.hi i b hb).1).trans hb;have hno:∀ i b g,h i=some b->¬ win i->b.st=false->ρ i=some g->¬ hd g:=λi b g hi hw hs hr ⟨j,c,wj,hj,rj⟩=>by
  have hcs:=(hC.hi j c ((hh j wj).symm.trans hj)).2.1
  rcases S.inj i j b c g hi hj hcs hr rj with e | e
  .subst e; exact hw wj
  .rw [hs] at e; cases e
 have e1:∀ k,dm D1 ρ hin k ↔ dm D0 ρ h k:=λk=>by
  constructor
  .rintro ⟨⟨q1,q2⟩,q3⟩;refine ⟨q1,λi b hi hr=>?_⟩
   by_cases hw:win i
   .exact q3 i b ((hh i hw).symm.trans hi) hr
   .rcases q2 with ⟨j,c,wj,hj,rj⟩ | q2
    .exact q3 j c ((hh j wj).symm.trans hj) rj
    .exact q2 i b hi hw hr
  .rintro ⟨q1,q2⟩;exact ⟨⟨q1,.inr λi b hi _=>q2 i b hi⟩,λi b hi=>q2 i b (toh hi)⟩
 have S0:Sat D1 B (enP (args.map (pe s))) hin ρ (q3Y (args.map (ev e))) w:=by
  refine ⟨λi j b c g hi hj hs ri rj=>S.inj i j b c g (toh hi) (toh hj) hs ri rj,λi b g hi ri=>?_,λi b hi ri=>S.vir i b (toh hi) ri,λt=>?_,Kp.refl _ _,λk hk=>?_,λg T m hi=>hi,λi r hi=>hi.2⟩
  .have hg:hd g:=⟨i,b,(hC.hi i b hi).1,toh hi,ri⟩;obtain ⟨a1,⟨m1,m2,es,cl,ps,m3,m4,m5,m6⟩ | ⟨cs,c1,c2,c3⟩⟩:=S.own i b g (toh hi) ri
   .exact ⟨⟨λhf=>hf.2 hg,a1.2,.inl hg⟩,.inl ⟨m1,m2,es,cl,ps,m3,m4,RdL.only (λk hk=>(e1 k).2 hk) (λi hi=>(hh i hi).symm) _ _ (hC.hi i b hi).2.2.1 m5,m6⟩⟩
   refine ⟨⟨λhf=>hf.2 hg,a1.2,.inl hg⟩,.inr ⟨cs,c1,c2,λhs=>?_⟩⟩;obtain ⟨vs,v1,v2,v3⟩:=c3 hs;exact ⟨vs,v1,RdL.only (λk hk=>(e1 k).2 hk) (λi hi=>(hh i hi).symm) _ _ (hC.hi i b hi).2.2.1 v2,v3⟩
  .unfold enP q3Y;rw [zA,zA,List.getElem?_map,List.getElem?_map];cases ht:args[t]? with
   | none=>simp only [Option.map_none,wT]; unfold Rd; trivial
   | some x =>
    simp only [xI,Option.getD_some];exact Rd.only (λk hk=>(e1 k).2 hk) (λi hi=>(hh i hi).symm) _ _ (hC.ids.mem _ (List.mem_map_of_mem (yO ht))) (S.pex x)
  .exact ⟨hF k (zU S.ext.size hk),.inr λi b hi _ hr=>by have:=(S.own i b k hi hr).2.lt; have:w.heap.size<=k:=hk; omega⟩
 have hFB:∀ k,w0.F k->B.F k:=λk hk=>⟨zK (w0.lt k hk) S.ext.size,λ⟨i,b,_,hi,hr⟩=>(S.own i b k hi hr).1.1 hk⟩;have hFr:Fr D1 B.w:=S0.fr;refine (hC.run D1 B ρ w _ (λw' hk=>hT w' (S.ext.trans (hk.mono λk _ hq=>hFB k hq))) (λi r ⟨⟨⟨b,hb⟩,ho⟩,_⟩=>⟨by rw [hb]; exact uM b,ho⟩) hFr σ S0).mono λr w' hx=>?_;obtain ⟨v,ρ',rfl,S',hx⟩:=hx
 let ρ2:Nat->Option Nat:=λi=>if win i then (if hout i=none then ρ i else ρ' i) else ρ i
 have p1:∀ {i b},hin i=some b->hout i≠none->ρ' i=ρ i:=λ{i b} hb ho=>S'.pin i _ ⟨⟨⟨b,hb⟩,ho⟩,rfl⟩;have p2:∀ {i b},hout i=some b->ρ2 i=ρ' i:=λ{i b} hb=>by simp only [ρ2,if_pos (hC.ho i b hb),hb]; rfl
 have p3:∀ {i},¬ win i->ρ2 i=ρ i:=λ{i} hw=>by simp only [ρ2,if_neg hw]
 have hk:Kp B.F w w':=S'.ext;have bold:∀ i b g,h i=some b->ρ i=some g->¬ qbJ w (dm D0 ρ h) ρ h g b->∃ cs,Blk w' g b.T cs/\(∀ u ∈ cs.toList,q3f u=true)/\∀ m,BSz w g m->cs.size=m:=λi b g hi hr hno=>by
  obtain ⟨cs,c1,c2,_⟩:=(S.own i b g hi hr).2.resolve_left hno;obtain ⟨cs',d1,d2,d3⟩:=S'.imp g b.T cs.size ⟨cs,c1,rfl,c2⟩;refine ⟨cs',d1,d3,λm ⟨c0,T0,f1,f2⟩=>?_⟩;have:=(Blk.uniq c1 f1).1;subst this;omega
 have hdn:∀ {k},dm D0 ρ h k->¬ hd k:=λ{k} hq ⟨i,b,_,hi,hr⟩=>hq.2 i b hi hr;have cA:Cpt w w' ρ h1 ρ2 (q0x hout h):=λi b hi1=>by
  have hng:¬ q9n hin hout i:=λhg=>by
   have:h1 i=none:=if_pos hg;rw [hi1] at this; cases this
  have hi:h i=some b:=(hh1 i hng).symm.trans hi1;refine ⟨?_,?_,λg m hr hb=>?_⟩
  .by_cases hw:win i
   .have hb:=(hh i hw).symm.trans hi
    rcases (hC.hi i b hb).2.2.2 with ho | ⟨b',hb',_⟩
    .exact (hng ⟨hw,by rw [hb]; exact uM _,ho⟩).elim
    .rw [p2 hb',p1 hb (by rw [hb']; exact uM _)]
   .exact p3 hw
  .by_cases hw:win i
   .have hb:=(hh i hw).symm.trans hi
    rcases (hC.hi i b hb).2.2.2 with ho | ⟨b',hb',h1,h2⟩
    .exact (hng ⟨hw,by rw [hb]; exact uM _,ho⟩).elim
    .exact ⟨b',by rw [q0Q hw]; exact hb',h1,h2⟩
   .exact ⟨b,by rw [q1I hw]; exact hi,rfl,zL _⟩
  .obtain ⟨cs,c1,_,c3⟩:=bold i b g hi hr λhm=>hm.noS hb;exact ⟨cs,_,c1,c3 m hb⟩
 have cB:Cpt w' w' ρ' hout ρ2 (q0x hout h):=λi b hi=>⟨p2 hi,⟨b,by rw [q0Q (hC.ho i b hi)]; exact hi,rfl,zL _⟩,λ_ _ _ hb=>hb⟩;have nF:∀ {i b g},hout i=some b->ρ' i=some g->g < w.heap.size->hd g:=λ{i b g} hi hr hlt=>by
  have:=(S'.own i b g hi hr).1.1;exact Classical.byContradiction λhn=>this ⟨hlt,hn⟩
 have e2:∀ k,dm D1 ρ' hout k->dm D0 ρ2 (q0x hout h) k:=λk ⟨⟨q1,q2⟩,q3⟩=>⟨q1,λi b hi hr=>by
  by_cases hw:win i
  .rw [q0Q hw] at hi;rw [p2 hi] at hr;exact q3 i b hi hr
  .rw [q1I hw] at hi;rw [p3 hw] at hr
   rcases q2 with ⟨j,c,wj,hj,rj⟩ | q2
   .have hb:=(hh j wj).symm.trans hj
    rcases (hC.hi j c hb).2.2.2 with ho | ⟨b',hb',_⟩
    .exact hno i b k hi hw (hg3 i b j hi hw ⟨wj,by rw [hb]; exact uM _,ho⟩) hr ⟨j,c,wj,hj,rj⟩
    .exact q3 j b' hb' ((p1 hb (by rw [hb']; exact uM _)).trans rj)
   .exact q2 i b hi hw hr⟩
 have hd1:∀ k,k < w.heap.size->dm D0 ρ h k->dm D0 ρ2 (q0x hout h) k:=λk hlt hq=>⟨hq.1,λi b hi hr=>by
  by_cases hw:win i
  .rw [q0Q hw] at hi;rw [p2 hi] at hr;exact hdn hq (nF hi hr hlt)
  .rw [q1I hw] at hi;rw [p3 hw] at hr;exact hq.2 i b hi hr⟩
 have kpd:Kp (dm D0 ρ h) w w':=hk.mono λk hlt hq=>⟨hlt,hdn hq⟩;refine hK v w' ρ2 ⟨λi j b c g hi hj hs ri rj=>?_,λi b g hi ri=>?_,λi b hi ri=>?_,λt=>Rd.mv kpd hd1 _ _ _ _ _ _ cA (Rd.only (λ_ h=>h) hh1 _ _ (hg1 t) (S.rd t)),S.ext.trans (hk.mono λk _ hq=>hFB k hq),S.fr,λg T m hi=>?_,λi r hj=>?_⟩ (Rd.mv (Kp.refl _ _) (λk _ hq=>e2 k hq) _ _ _ _ _ _ cB hx)
 .by_cases wi:win i <;> by_cases wj:win j
  .rw [q0Q wi] at hi; rw [q0Q wj] at hj;rw [p2 hi] at ri; rw [p2 hj] at rj;exact S'.inj i j b c g hi hj hs ri rj
  .rw [q0Q wi] at hi; rw [q1I wj] at hj;rw [p2 hi] at ri; rw [p3 wj] at rj;exact (hno j c g hj wj hs rj (nF hi ri (S.own j c g hj rj).2.lt)).elim
  .rw [q1I wi] at hi; rw [q0Q wj] at hj;rw [p3 wi] at ri; rw [p2 hj] at rj;cases hb:b.st
   .exact (hno i b g hi wi hb ri (nF hj rj (S.own i b g hi ri).2.lt)).elim
   .exact .inr rfl
  .rw [q1I wi] at hi; rw [q1I wj] at hj;rw [p3 wi] at ri; rw [p3 wj] at rj;exact S.inj i j b c g hi hj hs ri rj
 .by_cases wi:win i
  .rw [q0Q wi] at hi;rw [p2 hi] at ri;obtain ⟨⟨a1,a2⟩,a3⟩:=S'.own i b g hi ri;exact ⟨⟨λhf=>a1 (hFB g hf),a2.1⟩,a3.mv rfl (Kp.refl _ _) (λk _ hq=>e2 k hq) cB⟩
  .rw [q1I wi] at hi;rw [p3 wi] at ri;obtain ⟨a1,a2⟩:=S.own i b g hi ri;refine ⟨a1,?_⟩;cases hb:b.st
   .have a4:qee w (dm D0 ρ h) ρ h1 g b:=by
     rcases a2 with ⟨m1,m2,es,cl,ps,m3,m4,m5,m6⟩ | ⟨cs,c1,c2,c3⟩
     .exact .inl ⟨m1,m2,es,cl,ps,m3,m4,RdL.only (λ_ h=>h) hh1 _ _ (hg2 i b hi wi) m5,m6⟩
     exact .inr ⟨cs,c1,c2,λhs=>by
      obtain ⟨vs,v1,v2,v3⟩:=c3 hs;exact ⟨vs,v1,RdL.only (λ_ h=>h) hh1 _ _ (hg2 i b hi wi) v2,v3⟩⟩
    exact a4.mv (hk.block g a4.lt ⟨a4.lt,hno i b g hi wi hb ri⟩) kpd hd1 cA
   .obtain ⟨cs,c1,c2,_⟩:=bold i b g hi ri λhm=>by have:=hm.2.1; rw [hb] at this; cases this
    exact .inr ⟨cs,c1,c2,λhf=>by rw [hb] at hf; cases hf⟩
 .by_cases wi:win i
  .rw [q0Q wi] at hi;rw [p2 hi] at ri;exact S'.vir i b hi ri
  .rw [q1I wi] at hi;rw [p3 wi] at ri;exact S.vir i b hi ri
 .obtain ⟨cs,c1,c2,c3⟩:=S.imp g T m hi;exact S'.imp g T m ⟨cs,c1,c2,c3⟩
 .have h1:ρ i=r:=S.pin i r hj
  show (if win i then (if hout i=none then ρ i else ρ' i) else ρ i)=r
  split
  .split
   .exact h1
   .rename_i ho;have:=hn i (hJ i r hj) ho;obtain ⟨b,hb⟩:=z7.1 this;rw [p1 hb ho]; exact h1
  .exact h1
def q1u {α:Type} {o:Option α} {A B:α->Prop} (hk:∀ a,A a->B a) (h:q2E o A):q2E o B:=by
 cases o with
 | none=>exact h.elim
 | some a=>exact hk a h
def qkE {o:Oper} {A B:Value->World->Prop} (hk:∀ v w,A v w->B v w) (h:wo P o e w A):wo P o e w B:=by
 obtain ⟨dst,op,ty,pos,af,gd⟩:=o;have hWO:WO P ⟨dst,op,ty,pos,af,gd⟩ e w A->WO P ⟨dst,op,ty,pos,af,gd⟩ e w B:=λh=>qe6 hk h;unfold wo at h ⊢;cases op <;> simp only at h ⊢ <;> (try (first | exact hk _ _ h | exact q1u (λ_ hq=>hk _ _ hq) h | exact hWO h))
 case pick c a b=>split at h <;> first | exact hk _ _ h | exact h
 case store t a x =>
  split at h
  .exact ⟨h.1,h.2.1,hk _ _ h.2.2⟩
  .exact h
 case fieldAddr t x f =>
  split at h
  .exact q1u (λ_ hq=>hk _ _ hq) h
  .exact h
 case slice t x lo hi mx=>cases mx <;> first | exact q1u (λ_ hq=>hk _ _ hq) h | exact hWO h
 case makeSlice t l c =>
  split at h
  .exact q1u (λ_ hq=>⟨hq.1,hk _ _ hq.2⟩) h
  .exact h
 case nilCheck x =>
  split at h
  .exact hk _ _ h
  .exact h
 case call c =>
  obtain ⟨callee,args,tys⟩:=c;cases callee
  case builtin b =>
   cases b <;> simp only at h ⊢ <;> (try (first | exact q1u (λ_ hq=>hk _ _ hq) h | exact hWO h))
   split at h
   .exact q1u (λ_ hq=>hk _ _ hq) h
   .exact h
  case value f =>
   cases f <;> simp only at h ⊢ <;> (try exact hWO h);exact ⟨h.1,h.2.mono λx w' hq=>by cases x <;> first | exact hk _ _ hq | exact hq⟩
  case invoke r m=>exact hWO h
def qkJ {ops:Array Oper} {o:Oper} {A B:Value->World->Prop} (hk:∀ v w,A v w->B v w) (h:wg P ops o e w A):wg P ops o e w B:=by
 unfold wg at h ⊢
 split
 .rename_i hw; rw [if_pos hw] at h; exact qkE hk h
 .rename_i hw; rw [if_neg hw] at h; exact hk _ _ h
def Sj [NL] (P:Program) (Tb:World->Prop) (J:Nat->Prop) (ops:List Oper) (o:Oper) (s:Nat->PV) (h:Hp) (K:(Nat->PV)->Hp->Prop):Prop :=
 (∃ x h' fp,q6m P Tb ops o s h x h' fp/\K (q2b s o.dst x) h') \/
  (o.guard=none/\∃ f args ts hin x hout,o.op=.call ⟨.value (.func f),args,ts⟩/\ACx P Tb f (args.toList.map (pe s)) hin x hout/\(∀ i,win i->h i=hin i)/\((∀ i,J i->hout i≠none->hin i≠none)/\Dd hin hout s h)/\K (q2b s o.dst x) (q0x hout h))
def ALj [NL] (P:Program) (Tb:World->Prop) (J:Nat->Prop) (ops:List Oper) (K:(Nat->PV)->Hp->Prop):List Oper->(Nat->PV)->Hp->Prop
 | [],s,h=>K s h
 | o :: l,s,h=>Sj P Tb J ops o s h (ALj P Tb J ops K l)
def ASj [NL] (P:Program) (Tb:World->Prop) (J:Nat->Prop) (ops:List Oper) (K:(Nat->PV)->Hp->Prop):Sch->(Nat->PV)->Hp->Prop
 | .fin,s,h=>K s h
 | .one i t,s,h=>Sj P Tb J ops (qae ops i) s h (ASj P Tb J ops K t)
 | .alt t u,s,h=>ASj P Tb J ops K t s h/\ASj P Tb J ops K u s h
def qup [NL] {J:Nat->Prop} {ops:List Oper} (hT:∀ w,Kp w0.F w0.w w->Tb w) (hJ:∀ i r,w0.J i r->J i) (hF:Fr D0 w0.w) {o:Oper} {K:(Nat->PV)->Hp->Prop} {K':Env->World->Prop} (S:Sat D0 w0 s h ρ e w) (hs:Sj P Tb J ops o s h K) (hk:∀ s h ρ e w,Sat D0 w0 s h ρ e w->K s h->K' e w):wg P ops.toArray o e w λv w'=>K' (E.put e o.dst v) w':=by
 rcases hs with ⟨x,h',fp,h1,h2⟩ | ⟨hg,f,args,ts,hin,x,hout,ho,hC,hh,hn,h2⟩
 .exact qkJ (λv w' ⟨ρ',S'⟩=>hk _ _ ρ' _ _ S' h2) (q8g S (hT _ S.ext) hF h1)
 .have:=S.callx (K:=λv w'=>K' (E.put e o.dst v) w') hT hF hJ rfl hC hh hn.1 hn.2 λv w' ρ' S' hr=>hk _ _ ρ' _ _ (S'.puto o.dst hr) h2;have he:args.map (ev e)=(args.toList.map (ev e)).toArray:=by cases args; simp
  rw [<- he] at this;obtain ⟨dst,op,ty,pos,af,gd⟩:=o;simp only at ho hg;subst ho;subst hg;rw [q5v];exact this
def qjt [NL] {J:Nat->Prop} {ops:List Oper} {K:(Nat->PV)->Hp->Prop} (hT:∀ w,Kp w0.F w0.w w->Tb w) (hJ:∀ i r,w0.J i r->J i) (hF:Fr D0 w0.w) {K':Env->World->Prop} (hk:∀ s h ρ e w,Sat D0 w0 s h ρ e w->K s h->K' e w):∀ (l:List Oper) (s:Nat->PV) (h:Hp) (ρ:Nat->Option Nat) (e:Env) (w:World),Sat D0 w0 s h ρ e w->ALj P Tb J ops K l s h->WL P ops.toArray K' l e w
 | [],s,h,ρ,e,w,S,hal=>hk s h ρ e w S hal
 | o :: l,s,h,ρ,e,w,S,hal=>q2h (qup hT hJ hF S hal λs h ρ e w S' hq=>qjt hT hJ hF hk l s h ρ e w S' hq)
def qaY [NL] {J:Nat->Prop} {ops:List Oper} {K:(Nat->PV)->Hp->Prop} (hT:∀ w,Kp w0.F w0.w w->Tb w) (hJ:∀ i r,w0.J i r->J i) (hF:Fr D0 w0.w) {K':Env->World->Prop} (hk:∀ s h ρ e w,Sat D0 w0 s h ρ e w->K s h->K' e w):∀ (t:Sch) (s:Nat->PV) (h:Hp) (ρ:Nat->Option Nat) (e:Env) (w:World),Sat D0 w0 s h ρ e w->ASj P Tb J ops K t s h->WS P ops K' t e w
 | .fin,s,h,ρ,e,w,S,hal=>hk s h ρ e w S hal
 | .one i t,s,h,ρ,e,w,S,hal=>qup hT hJ hF S hal λs h ρ e w S' hq=>qaY hT hJ hF hk t s h ρ e w S' hq
 | .alt t u,s,h,ρ,e,w,S,hal=>⟨qaY hT hJ hF hk t s h ρ e w S hal.1,qaY hT hJ hF hk u s h ρ e w S hal.2⟩
def q9C [NL] {J:Nat->Prop} {Q:SQ} {id:Nat} {l:List Oper} (hw:∀ K:(Nat->PV)->Hp->Prop,(∀ s h,Q .normal s h->K s h)->ALj P Tb J l K l s h):AW P Tb J n (.region id l.toArray false) Q s h:=λD0 w0 ρ e w hT hF S=>by
 refine q1E ?_;exact qjt (K':=λe' w'=>∃ s' h' ρ',Sat D0 w0 s' h' ρ' e' w'/\Q .normal s' h') hT.1 hT.2 hF (λs h ρ e w S hq=>⟨s,h,ρ,S,hq⟩) l s h ρ e w S (hw _ λ_ _ h=>h)
def qvt [NL] {J:Nat->Prop} {Q:SQ} {id:Nat} {l:List Oper} (hm:P.follows .mixedOrders=true) (t:Sch) (hok:(Region.noSelect l.toArray && q5Q l t false l.length (Array.replicate l.length false))=true) (hw:∀ K:(Nat->PV)->Hp->Prop,(∀ s h,Q .normal s h->K s h)->ASj P Tb J l K t s h):AW P Tb J n (.region id l.toArray true) Q s h:=λD0 w0 ρ e w hT hF S=>by
 refine W_dA hm t hok λK w1 hK hx=>?_;exact qaY (K':=K) hT.1 hT.2 hF (λs h ρ e w S hq=>hK _ _ ⟨s,h,ρ,S,hq⟩) t s h ρ e w1 (S.extend hx) (hw (λs h=>Q .normal s h) λ_ _ h=>h)
def qbS [NL] {J:Nat->Prop} {Q:SQ} {id:Nat} {l:List Oper} {b:Code} (hw:∀ K:(Nat->PV)->Hp->Prop,(∀ s h,AW P Tb J n b Q s h->K s h)->ALj P Tb J l K l s h):AW P Tb J n (.seq (.region id l.toArray false) b) Q s h :=
 q4I λK hK=>q9C λK1 hK1=>hw K1 λs h hb=>hK1 s h (hK s h hb)
end
def q7W [NL] (P:Program) (Tb:World->Prop) (J:Nat->Prop) (f:FuncId) (h:Hp) (xs:List PV) [s:Cn (Nat->PV)] [K:Cn (PV->Hp->Prop)]:Prop :=
 @q4K _ P Tb f (q2P h xs) ⟨λx _=>K.k x h⟩\/∃ hin x hout,ACx P Tb f xs hin x hout/\(∀ i,win i->h i=hin i)/\((∀ i,J i->hout i≠none->hin i≠none)/\Dd hin hout s.k h)/\K.k x (q0x hout h)
def aoj [NL] (P:Program) (Tb:World->Prop) (J:Nat->Prop) (d:Option Nat) (op:Op) (s:Nat->PV) (h:Hp) (K:PV->Hp->Prop):Prop :=
 match op with
 | .call ⟨.value (.func f),args,_⟩=>@q7W _ P Tb J f h (args.toList.map (pe s)) ⟨s⟩ ⟨K⟩
 | op=>ao P Tb d op s h λx h' _=>K x h'
section
variable {P:Program} {Tb:World->Prop} {J:Nat->Prop} {d:Option Nat} {ty t:TypeId} {pos:String} {af:Array Edge} {s:Nat->PV} {h:Hp} {K:PV->Hp->Prop} {ops r:List Oper} {KL:(Nat->PV)->Hp->Prop}
@[congr] theorem qty [NL] {op:Op}:aoj P Tb J d op s h K=aoj P Tb J d op s h K:=rfl
@[congr] theorem qvv [NL] {l:List Oper}:ALj P Tb J ops KL l s h=ALj P Tb J ops KL l s h:=rfl
@[congr] theorem qvu [NL] {t:Sch}:ASj P Tb J ops KL t s h=ASj P Tb J ops KL t s h:=rfl
@[congr] theorem Sj_congr [NL] {o o':Oper} (ho:o=o'):Sj P Tb J ops o s h KL=Sj P Tb J ops o' s h KL:=by rw [ho]
def qoH [NL]:ALj P Tb J ops KL [] s h=KL s h:=rfl
def qhx [NL] {o:Oper}:ALj P Tb J ops KL (o :: r) s h=Sj P Tb J ops o s h (ALj P Tb J ops KL r):=rfl
def qoF [NL]:ASj P Tb J ops KL .fin s h=KL s h:=rfl
def qoE [NL] {i:Nat} {t:Sch}:ASj P Tb J ops KL (.one i t) s h=Sj P Tb J ops (qae ops i) s h (ASj P Tb J ops KL t):=rfl
def qoG [NL] {t u:Sch}:ASj P Tb J ops KL (.alt t u) s h=(ASj P Tb J ops KL t s h/\ASj P Tb J ops KL u s h):=rfl
def qeW [NL] {op : Op} {K : PV -> Hp -> FP -> Prop} : ao P Tb d op s h K = ∃ x h' fp, Stp P Tb ⟨d, op, 0, "", #[], none⟩ s h x h' fp /\ K x h' fp := by
 unfold ao; rfl
def qeL [NL] {f:FuncId} {o:Option (List PV × List Nat)} {K:PV->List Nat->Prop}:@q4K _ P Tb f o ⟨K⟩=∃ al ids x,o=some (al,ids)/\AC P Tb f al x/\(ids=[]\/Nz x)/\K x ids:=by
 unfold q4K; rfl
def noC:Op->Bool
 | .call ⟨.value (.func _),_,_⟩=>false
 | _=>true
def q1k [NL] {op:Op} (ho:noC op=true):aoj P Tb J d op s h K=ao P Tb d op s h λx h' _=>K x h':=by
 unfold aoj
 split
 .cases ho
 .rfl
def qh6 [NL] {f:FuncId} {xs:List Operand} {ts:Array TypeId}:aoj P Tb J d (.call ⟨.value (.func f),xs.toArray,ts⟩) s h K=@q7W _ P Tb J f h (xs.map (pe s)) ⟨s⟩ ⟨K⟩:=rfl
def qn6 [NL] {op : Op} : aoj P Tb J d op s h K ↔ (∃ x h' fp, Stp P Tb ⟨d, op, 0, "", #[], none⟩ s h x h' fp /\ K x h') \/ (∃ f args ts hin x hout, op = .call ⟨.value (.func f), args, ts⟩ /\ ACx P Tb f (args.toList.map (pe s)) hin x hout /\ (∀ i, win i -> h i = hin i) /\ ((∀ i, J i -> hout i ≠ none -> hin i ≠ none) /\ Dd hin hout s h) /\ K x (q0x hout h)) := by
 unfold aoj
 split
 .rename_i f args ts;unfold q7W;rw [qeL]
  constructor
  .rintro (⟨al,ids,x,h1,h2,h3,h4⟩ | ⟨hin,x,hout,h1,h2,h3,h4⟩)
   .exact .inl ⟨x,h,(ids,[]),⟨al,ids,h1,h2,h3,rfl,rfl⟩,h4⟩
   .exact .inr ⟨_,_,_,hin,x,hout,rfl,h1,h2,h3,h4⟩
  .rintro (⟨x,h',fp,⟨al,ids,h1,h2,h3,rfl,_⟩,h4⟩ | ⟨f,args,ts,hin,x,hout,he,h1,h2,h3,h4⟩)
   .exact .inl ⟨al,ids,x,h1,h2,h3,h4⟩
   .cases he;exact .inr ⟨hin,x,hout,h1,h2,h3,h4⟩
 .rename_i hno;rw [qeW]
  constructor
  .rintro ⟨x,h',fp,h1,h2⟩;exact .inl ⟨x,h',fp,h1,h2⟩
  .rintro (⟨x,h',fp,h1,h2⟩ | ⟨f,args,ts,hin,x,hout,he,_⟩)
   .exact ⟨x,h',fp,h1,h2⟩
   .exact (hno _ _ _ he).elim
def Sj_n [NL] {op:Op}:Sj P Tb J ops ⟨d,op,ty,pos,af,none⟩ s h KL=aoj P Tb J d op s h λx h'=>KL (q2b s d x) h':=by
 rw [qn6];refine propext ⟨?_,?_⟩
 .rintro (⟨x,h',fp,h1,h2⟩ | ⟨_,f,args,ts,hin,x,hout,ho,h1,h2,h3,h4⟩)
  .exact .inl ⟨x,h',fp,h1,h2⟩
  .exact .inr ⟨f,args,ts,hin,x,hout,ho,h1,h2,h3,h4⟩
 .rintro (⟨x,h',fp,h1,h2⟩ | ⟨f,args,ts,hin,x,hout,ho,h1,h2,h3,h4⟩)
  .exact .inl ⟨x,h',fp,h1,h2⟩
  .exact .inr ⟨rfl,f,args,ts,hin,x,hout,ho,h1,h2,h3,h4⟩
def Sj_g [NL] {op:Op} {j:Nat} {b:Bool}:Sj P Tb J ops ⟨d,op,ty,pos,af,some (j,b)⟩ s h KL=@pgA (q2Z ops s j b) b ⟨ao P Tb d op s h λx h' _=>KL (q2b s d x) h'⟩ ⟨KL (q2b s d (.vl undef)) h⟩:=by
 unfold pgA;refine propext ⟨?_,λhp=>?_⟩
 .rintro (⟨x,h',fp,hg,hk⟩ | ⟨hg,_⟩)
  .unfold q6m at hg;simp only at hg;obtain ⟨c,hc,hg⟩:=hg;rw [hc];simp only
   split at hg
   .rename_i hcb; rw [if_pos hcb,qeW]; exact ⟨x,h',fp,hg,hk⟩
   .rename_i hcb; rw [if_neg hcb]; obtain ⟨rfl,rfl,rfl⟩:=hg; exact hk
  .cases hg
 .split at hp
  .rename_i c hc
   split at hp
   .rename_i hcb;rw [qeW] at hp;obtain ⟨x,h',fp,hg,hk⟩:=hp;exact .inl ⟨x,h',fp,by unfold q6m; exact ⟨c,hc,by rw [if_pos hcb]; exact hg⟩,hk⟩
   .rename_i hcb;exact .inl ⟨.vl undef,h,([],[]),by unfold q6m; exact ⟨c,hc,by rw [if_neg hcb]; exact ⟨rfl,rfl,rfl⟩⟩,hp⟩
  .exact hp.elim
section
variable {x a b:Operand} {i f:Nat}
def qnf [NL]:aoj P Tb J d (.move x) s h K=ao P Tb d (.move x) s h λx h' _=>K x h':=q1k rfl
def qe1 [NL]:aoj P Tb J d (.assign x) s h K=ao P Tb d (.assign x) s h λx h' _=>K x h':=q1k rfl
def qne [NL] {c}:aoj P Tb J d (.pick c a b) s h K=ao P Tb d (.pick c a b) s h λx h' _=>K x h':=q1k rfl
def quY [NL] {op t'}:aoj P Tb J d (.binOp op t a b t') s h K=ao P Tb d (.binOp op t a b t') s h λx h' _=>K x h':=q1k rfl
def aj_un [NL] {op}:aoj P Tb J d (.unOp op t x) s h K=ao P Tb d (.unOp op t x) s h λx h' _=>K x h':=q1k rfl
def qni [NL] {u v}:aoj P Tb J d (.convert u v x) s h K=ao P Tb d (.convert u v x) s h λx h' _=>K x h':=q1k rfl
def quU [NL]:aoj P Tb J d (.fieldAddr t x f) s h K=ao P Tb d (.fieldAddr t x f) s h λx h' _=>K x h':=q1k rfl
def quV [NL]:aoj P Tb J d (.extract x i) s h K=ao P Tb d (.extract x i) s h λx h' _=>K x h':=q1k rfl
def quR [NL]:aoj P Tb J d (.nilCheck x) s h K=ao P Tb d (.nilCheck x) s h λx h' _=>K x h':=q1k rfl
def quS [NL]:aoj P Tb J d (.indexAddr t a b) s h K=ao P Tb d (.indexAddr t a b) s h λx h' _=>K x h':=q1k rfl
def qhh [NL] {lo hi mx}:aoj P Tb J d (.slice t x lo hi mx) s h K=ao P Tb d (.slice t x lo hi mx) s h λx h' _=>K x h':=q1k rfl
def quT [NL] {fn first cap}:aoj P Tb J d (.makeFunc fn first cap) s h K=ao P Tb d (.makeFunc fn first cap) s h λx h' _=>K x h':=q1k rfl
def qhj [NL] {ps}:aoj P Tb J d (.build t ps) s h K=ao P Tb d (.build t ps) s h λx h' _=>K x h':=q1k rfl
def qnh [NL]:aoj P Tb J d (.load t x) s h K=ao P Tb d (.load t x) s h λx h' _=>K x h':=q1k rfl
def qhk [NL]:aoj P Tb J d (.alloc t) s h K=ao P Tb d (.alloc t) s h λx h' _=>K x h':=q1k rfl
def quW [NL]:aoj P Tb J d (.box t x) s h K=ao P Tb d (.box t x) s h λx h' _=>K x h':=q1k rfl
def aj_bs [NL] {n ps}:aoj P Tb J d (.buildSlice t n ps) s h K=ao P Tb d (.buildSlice t n ps) s h λx h' _=>K x h':=q1k rfl
def qng [NL]:aoj P Tb J d (.makeSlice t a b) s h K=ao P Tb d (.makeSlice t a b) s h λx h' _=>K x h':=q1k rfl
def qhg [NL]:aoj P Tb J d (.store t a b) s h K=ao P Tb d (.store t a b) s h λx h' _=>K x h':=q1k rfl
def quX [NL] {u xs ts}:aoj P Tb J d (.call ⟨.builtin u,xs,ts⟩) s h K=ao P Tb d (.call ⟨.builtin u,xs,ts⟩) s h λx h' _=>K x h':=q1k rfl
def qhi [NL] {t:Nat} {xs:List Operand} {ts}:aoj P Tb J d (.call ⟨.value (.tmp t),xs.toArray,ts⟩) s h K=@qdf _ P Tb h (s t) (xs.map (pe s)) ⟨λx ids=>K x h⟩:=(q1k rfl).trans qaO
end
def jc [NL] {f:FuncId} {xs:List PV} {S:Cn (Nat->PV)} (hc:@q4K _ P Tb f (q2P h xs) ⟨λx _=>K x h⟩):@q7W _ P Tb J f h xs S ⟨K⟩:=.inl hc
def ACm.ng [NL] {f:FuncId} {xs:List PV} {hin hout:Hp} {x:PV} (hc:ACm P Tb f xs hin x hout):∀ i,¬ q9n hin hout i:=λi ⟨_,h1,h2⟩=>by
 obtain ⟨b,hb⟩:=z7.1 h1;obtain ⟨b',hb',_⟩:=(hc.hi i b hb).2.2.2;rw [hb'] at h2; cases h2
def jm [NL] {f:FuncId} {xs:List PV} {hin hout:Hp} {x:PV} {S:Cn (Nat->PV)} (hc:ACm P Tb f xs hin x hout) (hw:∀ i,win i->h i=hin i) (hj:∀ i,J i->hout i≠none->hin i≠none) (hk:K x (q0x hout h)):@q7W _ P Tb J f h xs S ⟨K⟩:=.inr ⟨hin,x,hout,hc.x,hw,⟨hj,.inl hc.ng⟩,hk⟩
def jx [NL] {f:FuncId} {xs:List PV} {hin hout:Hp} {x:PV} {s:Nat->PV} (hc:ACx P Tb f xs hin x hout) (hw:∀ i,win i->h i=hin i) (hj:∀ i,J i->hout i≠none->hin i≠none) (hd:Dd hin hout s h) (hk:K x (q0x hout h)):@q7W _ P Tb J f h xs ⟨s⟩ ⟨K⟩:=.inr ⟨hin,x,hout,hc,hw,⟨hj,hd⟩,hk⟩
def Wn (h hw:Hp):Prop:=∀ i,win i->h i=hw i
def Wn_lo {i:Nat} {b:Bk} {hw:Hp} (hi:¬ win i):Wn (q0R h i b) hw=Wn h hw:=by
 refine propext ⟨λhq j hj=>?_,λhq j hj=>?_⟩
 .rw [<- hq j hj,q0A λe=>hi (by rw [<- e]; exact hj)]
 .rw [<- hq j hj,q0A λe=>hi (by rw [<- e]; exact hj)]
def q2j {hw:Hp}:Wn (q0x hw h) hw:=λ_ hi=>q0Q hi
def qnm {i:Nat} {b:Bk} {hw:Hp} (hq:Wn h hw):Wn (q0R h i b) (q0R hw i b):=λj hj=>by
 unfold q0R
 split
 .rfl
 .exact hq j hj
def qnn {hw hw':Hp} (hq:Wn h hw) (he:hw=hw'):Wn h hw':=he ▸ hq
def qli {hw:Hp} {i:Nat} (hi:i < 5000):q0x hw h i=h i:=q1I λhw=>by unfold win at hw; omega
def qlj {hw:Hp} {i:Nat} (h1:5000<=i) (h2:i < 1000000):q0x hw h i=hw i:=q0Q ⟨h1,h2⟩
structure WfH (hw:Hp):Prop where
 wf:∀ i b,hw i=some b->b.st=false/\IdL (λj=>win j/\hw j≠none) b.xs
section
variable {τ:Nat->Option Nat} {h':Hp} {p:Nat->Prop}
mutual
def qhq (hp:∀ j,p j->τ j=some j/\∃ b,h' j=some b):∀ (x:PV),IdP p x->LeV τ h h' x x
 | .un,_=>.un
 | .vl _,_=>.cl trivial
 | .fm _,_=>.cl trivial
 | .sl _ _,_=>.cl trivial
 | .qt _ _,_=>.cl trivial
 | .ow id k a b,hi=>by
  unfold IdP at hi;obtain ⟨h1,c,h2⟩:=hp id hi;exact .ow h1 h2
 | .pt id a b,hi=>by
  unfold IdP at hi;obtain ⟨h1,c,h2⟩:=hp id hi;exact .pt h1 h2
 | .mp id,hi=>by
  unfold IdP at hi;obtain ⟨h1,c,h2⟩:=hp id hi;exact .mp h1 h2
 | .ag l,hi=>by
  unfold IdP at hi;obtain ⟨h1,h2⟩:=LeL_self hp l hi;exact .ag h1 h2
 | .tu l,hi=>by
  unfold IdP at hi;obtain ⟨h1,h2⟩:=LeL_self hp l hi;exact .tu h1 h2
def LeL_self (hp:∀ j,p j->τ j=some j/\∃ b,h' j=some b):∀ (l:List PV),IdL p l->LeL τ h h' l l
 | [],_=>⟨rfl,λi a b ha hb=>by simp at ha⟩
 | x :: l,hi=>by
  unfold IdL at hi;obtain ⟨h1,h2⟩:=LeL_self hp l hi.2;refine ⟨rfl,λi a b ha hb=>?_⟩;cases i with
  | zero=>simp at ha hb; subst ha; subst hb; exact qhq hp x hi.1
  | succ i=>exact h2 i a b (by simpa using ha) (by simpa using hb)
end
def q2A (τ:Nat->Option Nat):List Nat->Prop
 | []=>True
 | i :: l=>(¬ win i/\∀ j,τ i=some j->¬ win j)/\q2A τ l
def q6C:∀ {l:List Nat},q2A τ l->∀ i ∈ l,¬ win i/\∀ j,τ i=some j->¬ win j
 | i :: l,h,j,hj=>by
  rcases xW.1 hj with rfl | hj
  .exact h.1
  .exact q6C h.2 j hj
def LeW [NL] (l:List (Nat × Option Nat)) (hl:qpT l=true) (hlt:q04 l=τ) {hw:Hp} {xs kv:List (Nat × PV)} {bs:List (Nat × Bk)} {kb:List (Nat × Option Bk)} (hq:Wn h hw) (wf:WfH hw) (hx:q2A τ (bs.map (·.1) ++ kb.map (·.1)))
  (hh:q6j τ h (q0x hw (hpM bs kb)) s xs/\q6j τ h (q0x hw (hpM bs kb)) s kv/\q9B τ h (q0x hw (hpM bs kb)) bs/\qbM τ h (q0x hw (hpM bs kb)) kb/\q46 τ (bs.map (·.1) ++ kb.map (·.1))):Le J s h (stM xs kv) (q0x hw (hpM bs kb)):=by
 obtain ⟨h1,h2,h3,h4,h5⟩:=hh;have ht:∀ i,win i->τ i=some i:=λi hi=>by rw [<- hlt]; exact q8L hl i hi.1 hi.2
 have hm:∀ i b,q0x hw (hpM bs kb) i=some b->(win i/\hw i=some b)\/(¬ win i/\LeB τ h (q0x hw (hpM bs kb)) i b/\i ∈ bs.map (·.1) ++ kb.map (·.1)):=λi b hb=>by
  by_cases hi:win i
  .rw [q0Q hi] at hb; exact .inl ⟨hi,hb⟩
  .rw [q1I hi] at hb; exact .inr ⟨hi,q2o h4 h3 i b hb⟩
 refine q8y τ (λi b hb=>?_) (λi j k b c hi hj ti tj=>?_) (λt=>q5p h2 h1 t) λi _ q1 q2=>ht i ⟨q1,q2⟩
 .rcases hm i b hb with ⟨hi,hb⟩ | ⟨_,hb,_⟩
  .unfold LeB;rw [ht i hi];obtain ⟨q1,q2⟩:=wf.wf i b hb;refine ⟨b,(hq i hi).trans hb,rfl,rfl,⟨q1,q1⟩,LeL_self (λj hj=>⟨ht j hj.1,?_⟩) _ q2⟩;obtain ⟨c,hc⟩:=z7.1 hj.2;exact ⟨c,by rw [q0Q hj.1]; exact hc⟩
  .exact hb
 .rcases hm i b hi with ⟨wi,_⟩ | ⟨wi,_,mi⟩ <;> rcases hm j c hj with ⟨wj,_⟩ | ⟨wj,_,mj⟩
  .rw [ht i wi] at ti; rw [ht j wj] at tj;cases ti; cases tj; rfl
  .rw [ht i wi] at ti;cases ti;exact ((q6C hx j mj).2 _ tj wi).elim
  .rw [ht j wj] at tj;cases tj;exact ((q6C hx i mi).2 _ ti wj).elim
  .rcases q2U h5 i mi j mj with h | h | h
   .exact h
   .rw [ti] at h; cases h
   .rw [ti,tj] at h; exact absurd rfl h
end
def q0l [NL] {n:Nat} {Q:SQ} {ι:Type} {c:Code} (I:ι->Prop) (ks kb:List Nat) {kv:List (Nat × PV)} {kbv:List (Nat × Option Bk)} (hk:(ks.map λt=>(t,s t))=kv) (hb:(kb.map λi=>(i,h i))=kbv) (xs:ι->List (Nat × PV)) (bs:ι->List (Nat × Bk)) (hw:ι->Hp) (μ:ι->Nat) (i0:ι) (hI:I i0) (hl:Le J s h (stM (xs i0) kv) (q0x (hw i0) (hpM (bs i0) kbv)))
  (round:∀ i,I i->AW P Tb J n c (thA (λs' h'=>∃ j,I j/\μ j < μ i/\Le J s' h' (stM (xs j) kv) (q0x (hw j) (hpM (bs j) kbv))) Q) (stM (xs i) kv) (q0x (hw i) (hpM (bs i) kbv))):AW P Tb J n (.loop c) Q s h :=
 qef (ι:={i:ι // I i}) (λi=>stM (xs i.1) kv) (λi=>q0x (hw i.1) (hpM (bs i.1) kbv)) (λi=>μ i.1) ⟨i0,hI⟩ hl λi=>by
  intro D0 w0 ρ e w hT hF S;refine q4H (λx e' w' hx=>?_) (round i.1 i.2 D0 w0 ρ e w hT hF S);obtain ⟨s',h',ρ',S',q⟩:=hx;refine ⟨s',h',ρ',S',?_⟩;cases x
  case normal=>obtain ⟨j,h1,h2,h3⟩:=q; exact ⟨⟨j,h1⟩,h3,h2⟩
  all_goals exact q
end
attribute [irreducible] aoj q7W
attribute [go_sem ↓] qli qlj qoH qhx qoF qoE qoG Sj_n Sj_g qnf qe1 qne quY aj_un qni quU quV quR quS qhh quT qhj qnh qhk quW aj_bs qng qhg quX qhi qh6 qig qrH
section
variable {P:Program} {J:Nat->Prop} {s:Nat->PV} {h hin hout hw:Hp} {τ:Nat->Option Nat}
def mkR_1 {x:PV}:mkR [x]=x:=rfl
def mkR_0:mkR []=.tu []:=rfl
attribute [go_sem] mkR_1 mkR_0
def rtM [NL] {fn:Func} {x:PV} {rs:List ResultVar} {l:List PV} (hr:fn.results.toList=rs) (hlen:(decide (rs.length<=4))=true) (hl:rsL P h s rs=some l) (hle:Le J (λ_=>mkR l) h (λ_=>x) hout) {e:Exit} (he:e=.ret\/e=.normal):retX P fn J x hout e s h :=
 ⟨he,by rw [hr]; simpa using hlen,l,by rw [hr]; exact hl,hle⟩
def jmF [NL] {P:Program} {Tb:World->Prop} {K:PV->Hp->Prop} {f:FuncId} {xs:List PV} {x:PV} {S:Cn (Nat->PV)} (hc:ACm P Tb f xs hin x hout) (hw:Wn h hin) (hk:K x (q0x hout h)):@q7W _ P Tb (λ_=>False) f h xs S ⟨K⟩:=jm hc hw (λ_ hi=>hi.elim) hk
def Sns (q:Nat->Prop) (s:Nat->PV):Prop:=∀ t,IdP q (s t)
def Hns (q:Nat->Prop) (h:Hp):Prop:=∀ i b,h i=some b->¬ win i->b.st=false/\IdL q b.xs
section
variable {q:Nat->Prop} {d:Nat} {x:PV} {xs kv:List (Nat × PV)} {bs:List (Nat × Bk)} {kb:List (Nat × Option Bk)} {b:Bk} {i:Nat}
def qaS (hs:Sns q s) (hx:IdP q x):Sns q (pu s d x):=λt=>by
 unfold pu
 split
 .exact hx
 .exact hs t
def qun:∀ {kv:List (Nat × PV)},IdL q (kv.map (·.2))->Sns q (stV kv)
 | [],_,t=>by unfold stV IdP; trivial
 | p :: l,h,t=>by
  rw [xF] at h;unfold IdL at h;unfold stV
  split
  .exact h.1
  .exact qun h.2 t
def qe7 (hk:IdL q (kv.map (·.2))):∀ {xs:List (Nat × PV)},IdL q (xs.map (·.2))->Sns q (stM xs kv)
 | [],_,t=>qun hk t
 | p :: l,h,t=>by
  rw [xF] at h;unfold IdL at h;unfold stM
  split
  .exact h.1
  .exact qe7 hk h.2 t
def qhv (hh:Hns q h):Hns q (q0x hw h):=λi b hb hi=>hh i b (by rw [q1I hi] at hb; exact hb) hi
def qaU (hh:Hns q h) (h1:b.st=false) (h2:IdL q b.xs):Hns q (q0R h i b):=λj c hc hj=>by
 unfold q0R at hc
 split at hc
 .cases hc; exact ⟨h1,h2⟩
 .exact hh j c hc hj
def qvg:∀ {kb:List (Nat × Option Bk)},(∀ p ∈ kb,∀ b,p.2=some b->b.st=false/\IdL q b.xs)->Hns q (hpV kb)
 | [],_,i,b,hb,_=>by cases hb
 | p :: l,h,i,b,hb,hi=>by
  unfold hpV at hb
  split at hb
  .exact h p z6 b hb
  .exact qvg (λp hp=>h p (yF _ hp)) i b hb hi
def qed (hk:∀ p ∈ kb,∀ b,p.2=some b->b.st=false/\IdL q b.xs):∀ {bs:List (Nat × Bk)},(∀ p ∈ bs,p.2.st=false/\IdL q p.2.xs)->Hns q (hpM bs kb)
 | [],_=>qvg hk
 | p :: l,h=>λi b hb hi=>by
  unfold hpM at hb
  split at hb
  .cases hb; exact h p z6
  .exact qed hk (λp hp=>h p (yF _ hp)) i b hb hi
end
def nmW (o r:Nat):List Nat->Prop
 | []=>True
 | i :: l=>(i < 5000/\i≠o/\i≠r)/\nmW o r l
def qc4 {o r:Nat}:∀ {l:List Nat},nmW o r l->∀ i ∈ l,i < 5000/\i≠o/\i≠r
 | i :: l,h,j,hj=>by
  rcases xW.1 hj with rfl | hj
  .exact h.1
  .exact qc4 h.2 j hj
def tabH (T1 T2:TypeId) (N R n m:Nat) (g:Nat->Nat->Bool):Hp:=λi =>
 if i=N then some ⟨T1,none,(List.range n).map λj=>.ow (j+R) none 0 m,false⟩
 else if R<=i/\i < R+n then some ⟨T2,none,(List.range m).map λc=>.vl (.bool (g (i-R) c)),false⟩ else none
variable {T1 T2:TypeId} {N R n m:Nat} {g:Nat->Nat->Bool}
def qpZ:tabH T1 T2 N R n m g N=some ⟨T1,none,(List.range n).map λj=>.ow (j+R) none 0 m,false⟩:=if_pos rfl
def qpY {j:Nat} (hN:N < R) (hj:j < n):tabH T1 T2 N R n m g (j+R)=some ⟨T2,none,(List.range m).map λc=>.vl (.bool (g j c)),false⟩:=by
 unfold tabH;rw [if_neg ω,if_pos ω,Nat.add_sub_cancel]
attribute [go_sem ↓] qpZ qpY
def qhm {i:Nat} {b:Bk} (hi:i < 5000) (hq:Wn h hw):Wn (q0R h i b) hw:=by
 rw [Wn_lo λw=>by unfold win at w; omega]; exact hq
def qeo:Wn h h:=λ_ _=>rfl
def Wn_0:Wn h0 h0:=λ_ _=>rfl
def Wn_V:∀ {kb:List (Nat × Option Bk)},nmW 0 0 (kb.map λp=>p.1+1)->Wn (hpV kb) h0
 | [],_=>Wn_0
 | p :: l,hk=>λi hi=>by
  unfold hpV;have:p.1+1 < 5000:=hk.1.1;rw [if_neg (by unfold win at hi; omega)];exact Wn_V hk.2 i hi
def Wn_M:∀ {bs:List (Nat × Bk)} {kb:List (Nat × Option Bk)},nmW 0 0 (bs.map λp=>p.1+1)->nmW 0 0 (kb.map λp=>p.1+1)->Wn (hpM bs kb) h0
 | [],_,_,hk=>Wn_V hk
 | p :: l,_,hb,hk=>λi hi=>by
  unfold hpM;have:p.1+1 < 5000:=hb.1.1;rw [if_neg (by unfold win at hi; omega)];exact Wn_M hb.2 hk i hi
theorem Ow {h hw:Hp} (e:Wn h hw:=by repeat (first | exact q2j | exact Wn_0 | exact qeo | exact Wn_M (by simp [nmW]) (by simp [nmW]) | refine qhm (by omega) ?_)):Wn h hw:=e
def tn (N:Nat):Nat->Option Nat:=λi=>if i=N then none else some i
def tn_ap {i:Nat}:tn N i=if i=N then none else some i:=rfl
def tp (N K o r:Nat):Nat->Option Nat:=λi=>if i=N then some o else if i=K then some r else some i
def tp_ap {K o r i:Nat}:tp N K o r i=if i=N then some o else if i=K then some r else some i:=rfl
attribute [go_sem ↓] tn_ap tp_ap
end
end Go.E
namespace Go.Proofs.YtbjoghfmhgadkaaGreatDoor
open Go Go.E Go.Sp
abbrev ACxt [NL] (f:FuncId) (al:List PV) (hin:Hp) (x:PV) (hout:Hp):Prop:=ACx Tryz.prog q5Y f al hin x hout
def actx [NL] {f:FuncId} {fn:Func} {c:Code} {al:List PV} {x:PV} {hin hout:Hp} (hc:q0H Tryz.prog f=true) (hf:Tryz.prog.funcs[f]?=some fn) (hb:fn.body=some c) {n:Nat} (hn:fn.ntmps=n) (hd:(decide (al.length<=n) && q5m n c)=true)
  (hi:∀ i b,hin i=some b->win i/\b.st=false/\IdL win b.xs/\(hout i=none\/∃ b',hout i=some b'/\b'.k=b.k/\b.xs.length<=b'.xs.length)) (ho:∀ i b,hout i=some b->win i) (hal:IdL win al)
  (hw:AW Tryz.prog q5Y (λi=>hin i≠none/\hout i≠none) n c (retX Tryz.prog fn (λi=>hin i≠none/\hout i≠none) x hout) (enP al) hin):ACxt f al hin x hout:=qju hc hf hb hn hd hi ho hal hw
abbrev qeh [NL] (f:FuncId) (al:List PV) (hin:Hp) (x:PV) (hout:Hp):Prop:=ACm Tryz.prog q5Y f al hin x hout
def qen [NL] {f:FuncId} {fn:Func} {c:Code} {al:List PV} {x:PV} {hin hout:Hp} (hc:q0H Tryz.prog f=true) (hf:Tryz.prog.funcs[f]?=some fn) (hb:fn.body=some c) {n:Nat} (hn:fn.ntmps=n) (hd:(decide (al.length<=n) && q5m n c)=true)
  (hi:∀ i b,hin i=some b->win i/\b.st=false/\IdL win b.xs/\∃ b',hout i=some b'/\b'.k=b.k/\b.xs.length<=b'.xs.length) (ho:∀ i b,hout i=some b->win i) (hal:IdL win al)
  (hw:AW Tryz.prog q5Y (λi=>hin i≠none) n c (retM Tryz.prog fn hin x hout) (enP al) hin):qeh f al hin x hout:=qvx hc hf hb hn hd hi ho hal hw
end Go.Proofs.YtbjoghfmhgadkaaGreatDoor
namespace Go.E
open Go Go.RowKit
section
variable {w w':World} {w0:Base} {D D' D0:Nat->Prop} {ρ ρ':Nat->Option Nat} {h h':Hp} {s:Nat->PV} {e:Env} {P:Program} {J:Nat->Prop} {l l':List (Int × PV)} {el:List MapEntry}
def q1F.mv [NL] (hk:Kp D w w') (hd:∀ k,k < w.heap.size->D k->D' k) (hc:Cpt w w' ρ h ρ' h') (hm:q1F w D ρ h l el):q1F w' D' ρ' h' l el:=⟨hm.1,λi p e hp he=>⟨(hm.2 i p e hp he).1,Rd.mv hk hd _ _ _ _ _ _ hc (hm.2 i p e hp he).2⟩⟩
def qcg {g:Nat} {es:Array MapEntry} {cl:Nat} (h:w.heap[g]?=some (.map es cl)):g < w.heap.size:=by
 rcases yE g w.heap.size with h1 | h1
 .exact h1
 .rw [Array.getElem?_eq_none h1] at h; cases h
def q9x [NL] (l:List (Int × PV)):Fam:=⟨λD v w=>∃ g es cl el,v=.map (some g)/\D g/\w.heap[g]?=some (.map es cl)/\MapWf es cl/\q1F w D (λ_=>none) h0 l el/\es.toList.Perm el,
 λk ⟨g,es,cl,el,h1,h2,h3,h4,h5,h6⟩=>⟨g,es,cl,el,h1,h2,(k.block g (qcg h3) h2).trans h3,h4,h5.mv k (λ_ _ h=>h) Cpt.h0,h6⟩,
 λk ⟨g,es,cl,el,h1,h2,h3,h4,h5,h6⟩=>⟨g,es,cl,el,h1,k g (qcg h3) h2,h3,h4,h5.mv (Kp.refl _ _) k Cpt.h0,h6⟩⟩
def qgw [NL] {A:Prop}:q1K none (.fm (q9x l)) A=A:=by
 unfold q1K;refine propext ⟨λh=>h.2,λh=>⟨λD v w hv=>?_,h⟩⟩;obtain ⟨g,es,cl,el,rfl,_⟩:=hv;exact ⟨rfl,rfl,nlo⟩
attribute [go_sem] qgw
def q1F.perm [NL] (hp:l.Perm l'):∀ {el:List MapEntry},q1F w D ρ h l el->∃ el',el.Perm el'/\q1F w D ρ h l' el':=by
 induction hp with
 | nil=>exact λ{el} hm=>⟨el,.refl _,hm⟩
 | cons x _ ih =>
  intro el hm;cases el with
  | nil=>have:=hm.1; simp at this
  | cons en el =>
   obtain ⟨h1,h2⟩:=q1F.cons.1 hm;obtain ⟨el',h3,h4⟩:=ih h2;exact ⟨en :: el',h3.cons en,q1F.cons.2 ⟨h1,h4⟩⟩
 | swap x y l =>
  intro el hm
  match el,hm with
  | [],hm=>have:=hm.1; simp at this
  | [_],hm=>have:=hm.1; simp at this
  | a :: b :: el,hm =>
   obtain ⟨h1,h2⟩:=q1F.cons.1 hm;obtain ⟨h3,h4⟩:=q1F.cons.1 h2;exact ⟨b :: a :: el,List.Perm.swap _ _ _,q1F.cons.2 ⟨h3,q1F.cons.2 ⟨h1,h4⟩⟩⟩
 | trans _ _ ih1 ih2 =>
  intro el hm;obtain ⟨e1,h1,h2⟩:=ih1 hm;obtain ⟨e2,h3,h4⟩:=ih2 h2;exact ⟨e2,h1.trans h3,h4⟩
def Sat.rho [NL] (S:Sat D0 w0 s h ρ e w) {id T:Nat} (hi:h id=some ⟨T,some 0,[.tu (mpL l)],false⟩):∃ g,ρ id=some g:=by
 cases hr:ρ id with
 | none=>have:=S.vir id _ hi hr; cases this
 | some g=>exact ⟨g,rfl⟩
def Le_mp [NL] {id T:Nat} (hi:h id=some ⟨T,some 0,[.tu (mpL l)],false⟩) (hp:l.Perm l'):Le J s h s (q0R h id ⟨T,some 0,[.tu (mpL l')],false⟩):=λD0 w0 ρ e w _ S=>by
 obtain ⟨g,hr⟩:=S.rho hi;obtain ⟨g',es,cl,el,q1,q2,q3,q4,q5,q6⟩:=S.map hi (y:=.map (some g)) (by unfold Rd; exact ⟨_,g,hi,hr,rfl⟩);obtain rfl:g=g':=by rw [hr] at q2; exact xU.inj q2
 obtain ⟨el',p1,p2⟩:=q5.perm hp;exact ⟨ρ,S.mwr hi hr q3 (Kp.refl _ _) q3 q4 p2 (q6.trans p1)⟩
def hdl (h:Hp) (d:Nat):Hp:=λi=>if i=d then none else h i
def qur [NL] {t d T:Nat} (ht:s t=.mp d) (hi:h d=some ⟨T,some 0,[.tu (mpL l)],false⟩) (hc:∀ p ∈ l,Cld p.2) (hs:∀ t',t'≠t->IdP (λi=>i≠d) (s t')) (hb:∀ i b,i≠d->h i=some b->IdL (λj=>j≠d) b.xs):Le J s h (pu s t (.fm (q9x l))) (hdl h d):=λD0 w0 ρ e w _ S=>by
 have ho:∀ i b,hdl h d i=some b->i≠d/\h i=some b:=λi b hb=>by
  unfold hdl at hb
  split at hb
  .cases hb
  .exact ⟨by assumption,hb⟩
 have hn:∀ i,i≠d->hdl h d i=h i:=λi hd=>if_neg hd;have hdd:∀ k,dm D0 ρ h k->dm D0 ρ (hdl h d) k:=λk hq=>⟨hq.1,λi b hb=>hq.2 i b (ho i b hb).2⟩;obtain ⟨g,hr⟩:=S.rho hi;obtain ⟨g',es,cl,el,q1,q2,q3,q4,q5,q6⟩:=S.map hi (y:=.map (some g)) (by unfold Rd; exact ⟨_,g,hi,hr,rfl⟩);obtain rfl:g=g':=by rw [hr] at q2; exact xU.inj q2
 refine ⟨ρ,λi j b c g hi hj hs ri rj=>S.inj i j b c g (ho i b hi).2 (ho j c hj).2 hs ri rj,λi b g hi ri=>?_,λi b hi ri=>S.vir i b (ho i b hi).2 ri,λt'=>?_,S.ext,S.fr,S.imp,S.pin⟩
 .obtain ⟨h1,h2⟩:=ho i b hi;obtain ⟨a1,a2⟩:=S.own i b g h2 ri;refine ⟨a1,?_⟩
  rcases a2 with ⟨m1,m2,es,cl,ps,m3,m4,m5,m6⟩ | ⟨cs,c1,c2,c3⟩
  .exact .inl ⟨m1,m2,es,cl,ps,m3,m4,RdL.only hdd hn _ _ (hb i b h1 h2) m5,m6⟩
  .exact .inr ⟨cs,c1,c2,λhst=>by
    obtain ⟨vs,v1,v2,v3⟩:=c3 hst;exact ⟨vs,v1,RdL.only hdd hn _ _ (hb i b h1 h2) v2,v3⟩⟩
 .by_cases he:t'=t
  .subst he;have:=S.rd t';rw [ht] at this;unfold Rd at this;obtain ⟨b,g2,k1,k2,k3⟩:=this;obtain rfl:g=g2:=by rw [hr] at k2; exact xU.inj k2
   rw [k3];unfold pu;rw [if_pos rfl];unfold Rd;refine ⟨g,es,cl,el,rfl,⟨(S.own d _ g hi hr).1.2,λi b' hb' hr'=>?_⟩,q3,q4,⟨q5.1,λi p e hp he=>?_⟩,q6⟩
   .obtain ⟨h1,h2⟩:=ho i b' hb'
    rcases S.inj i d b' _ g h2 hi rfl hr' hr with h | h
    .exact h1 h
    .rcases (S.own i b' g h2 hr').2 with hm | ⟨cs,c1,_⟩
     .rw [hm.2.1] at h; cases h
     .have:=q3.symm.trans c1; cases this
   .obtain ⟨u1,u2⟩:=q5.2 i p e hp he;exact ⟨u1,(q33 (hc p (yO hp)) u2).sub λk _ hk=>hdd k hk⟩
  .unfold pu;rw [if_neg he];exact Rd.only hdd hn _ _ (hs t' he) (S.rd t')
end
section
variable {P:Program} {w:World} {g bm since c0 clock:Nat} {seen:Array Nat} {es:Array MapEntry}
def q8S (ty:TypeId) (hi:w.heap[g]?=some (.mapIter (some bm) since seen c0)) (hb:w.heap[bm]?=some (.map es clock)) (hold:∀ x ∈ es.toList,x.born < since) (hsc:since<=c0) :
  ((leftOf es seen).size=0/\(Instr.next (.pointer (some ⟨g,0,none⟩)) false ty).run P w=.ok (.tuple #[.bool false]) w) \/
  ∃ e ∈ (leftOf es seen).toList,∃ k:Nat,(Instr.next (.pointer (some ⟨g,0,none⟩)) false ty).run P w=.ok (.tuple #[.bool true,e.key,e.val]) { w with drawn:=k,heap:=w.heap.setIfInBounds g (.mapIter (some bm) since (seen.push e.born) clock) }:=by
 simp only [Instr.next,getObj,Sem.run_bind,Sem.run,hi,hb,Result.andThen,next_test_false seen es since c0 hold hsc,zV,if_false];unfold leftOf;have hmem:∀ x ∈ (Array.filter (λe=>!seen.contains e.born) es).toList,x.born < since:=λx hx=>hold x (by simp at hx ⊢; exact hx.1);generalize Array.filter (λe=>!seen.contains e.born) es=L at hmem ⊢;have e1:L.filter (λx=>decide (x.born < since))=L:=Array.filter_eq_self.2 (λx hx=>by simpa using hmem x (by simpa using hx));have e2:L.filter (λx=>decide (x.born ≥ since))=#[]:=by
  rw [Array.filter_eq_empty_iff];intro x hx;have:=hmem x (by simpa using hx);simp;omega
 simp only [e1,e2,Array.append_empty]
 by_cases h0:L.size=0
 .left
  have:L=#[]:=Array.eq_empty_of_size_eq_zero h0;subst this;refine ⟨rfl,?_⟩;simp [choose,Sem.run,Question.forced]
 .right
  have hne:L.isEmpty=false:=by simp [Array.isEmpty,h0]
  simp only [hne,zV,if_false,Array.empty_append,Array.size_map];have hch:∃ (j k:Nat),j < L.size/\(choose (Question.mapNext L.size)).run P w=.ok j { w with drawn:=k }:=by
   by_cases hf:L.size<=1
   .exact ⟨0,w.drawn,ω,by simp [choose,Sem.run,Question.forced,hf]⟩
   .exact ⟨_,w.drawn+1,zE _ Oq,by
     simp only [choose,Sem.run,Question.forced,decide_eq_true_eq,hf,if_false,Question.cut]
     rfl⟩
  obtain ⟨j,k,hj,hrun⟩:=hch;refine ⟨L[j],σ,k,?_⟩;have hset:∀ (o':Obj),(setObj g o').run P { w with drawn:=k }=.ok () { w with drawn:=k,heap:=w.heap.setIfInBounds g o' }:=λo'=>by
   simp only [setObj,Sem.run];rw [show ({ w with drawn:=k }:World).heap[g]?=_ from hi]
  simp only [hrun,Array.getElem?_map,Array.getElem?_eq_getElem hj,xI,Sem.run_bind,hset,Result.andThen]
  rfl
def q7H {e:MapEntry} (hi:w.heap[g]?=some (.mapIter (some bm) since (seen.push e.born) clock)) (hb:w.heap[bm]?=some (.map es clock)) (he:e ∈ es.toList) (hn:(es.toList.map (·.born)).Nodup) :
  (Instr.entry (.pointer (some ⟨g,0,none⟩))).run P w=.ok (.tuple #[e.key,e.val]) w:=by
 have hf:es.find? (·.born == e.born)=some e:=by rw [<- Array.find?_toList]; exact find_born e es.toList hn he
 simp only [Instr.entry,getObj,Sem.run_bind,Sem.run,hi,hb,Result.andThen,Array.back?_push,bne_self_eq_false,zV,if_false,hf]
 rfl
end
section
variable {w w':World} {w0 w0':Base} {D D' D0:Nat->Prop} {ρ ρ':Nat->Option Nat} {h h':Hp} {s:Nat->PV} {e:Env} {P:Program} {Tb:World->Prop} {J:Nat->Prop} {n:Nat} {Q:SQ}
def Sat.chg [NL] (S:Sat D w0 s h ρ e w) (hk:Kp (dm D ρ h) w w') (hdd:∀ k,k < w.heap.size->dm D ρ h k->dm D' ρ h k) (hown:∀ i b g,h i=some b->ρ i=some g->w'.heap[g]?=w.heap[g]?) (hF:∀ i b g,h i=some b->ρ i=some g->¬ w0'.F g/\D' g) (hext:Kp w0'.F w0'.w w') (hfr:Fr D' w0'.w)
  (himp:∀ g T m,w0'.I g T m->∃ cs,Blk w' g T cs/\cs.size=m/\∀ u ∈ cs.toList,q3f u=true) (hpin:∀ i r,w0'.J i r->ρ i=r):Sat D' w0' s h ρ e w':=by
 have hc:Cpt w w' ρ h ρ h:=λi b hi=>⟨rfl,⟨b,hi,rfl,zL _⟩,λg m hr hb=>by
  obtain ⟨cs,T,h1,h2⟩:=hb;exact ⟨cs,T,(hown i b g hi hr).trans h1,h2⟩⟩
 exact ⟨S.inj,λi b g hi hr=>⟨hF i b g hi hr,(S.own i b g hi hr).2.mv (hown i b g hi hr) hk hdd hc⟩,S.vir,λt=>Rd.mv hk hdd _ _ _ _ _ _ hc (S.rd t),hext,hfr,himp,hpin⟩
def mkB (w0:Base) (F:Nat->Prop) (w:World) (hF:∀ k,F k->k < w.heap.size):Base:=⟨w,F,w0.I,w0.J,hF,w0.lo⟩
def Sat.heap_lt [NL] (S:Sat D0 w0 s h ρ e w) {i:Nat} {b:Bk} {g:Nat} (hi:h i=some b) (hr:ρ i=some g):g < w.heap.size:=(S.own i b g hi hr).2.lt
def qbY {P:Program} {e:Env} {w:World} {K:Value->World->Prop} {dst:Option Nat} {t:Nat} {ty:TypeId} {pos:String} {af:Array Edge} {gd:Option (Nat × Bool)} {v:Value} {w':World} (h:(Instr.next (e t) false ty).run P w=.ok v w') (hk:K v w'):WO P ⟨dst,.next (.tmp t) false,ty,pos,af,gd⟩ e w K:=by
 have key:(execOp (ev e) ⟨dst,.next (.tmp t) false,ty,pos,af,gd⟩).run P w=.ok (.value v) w':=by
  show (do let x <- Instr.next (e t) false ty; pure (Next.value x):Sem Next).run P w=_
  simp [h]
 show RO P K _
 rw [key]; exact hk
def qfA {P:Program} {e:Env} {w:World} {K:Value->World->Prop} {dst:Option Nat} {t:Nat} {T ty:TypeId} {pos:String} {af:Array Edge} {gd:Option (Nat × Bool)} {v:Value} {w':World} (h:(Instr.range T (e t)).run P w=.ok v w') (hk:K v w'):WO P ⟨dst,.range T (.tmp t),ty,pos,af,gd⟩ e w K:=by
 have key:(execOp (ev e) ⟨dst,.range T (.tmp t),ty,pos,af,gd⟩).run P w=.ok (.value v) w':=by
  show (do let x <- Instr.range T (e t); pure (Next.value x):Sem Next).run P w=_
  simp [h]
 show RO P K _
 rw [key]; exact hk
def qfB {P:Program} {e:Env} {w:World} {K:Value->World->Prop} {dst:Option Nat} {t:Nat} {ty:TypeId} {pos:String} {af:Array Edge} {gd:Option (Nat × Bool)} {v:Value} {w':World} (h:(Instr.entry (e t)).run P w=.ok v w') (hk:K v w'):WO P ⟨dst,.entry (.tmp t),ty,pos,af,gd⟩ e w K:=by
 have key:(execOp (ev e) ⟨dst,.entry (.tmp t),ty,pos,af,gd⟩).run P w=.ok (.value v) w':=by
  show (do let x <- Instr.entry (e t); pure (Next.value x):Sem Next).run P w=_
  simp [h]
 show RO P K _
 rw [key]; exact hk
def qbZ {P:Program} {e:Env} {w:World} {K:Value->World->Prop} {dst:Option Nat} {t:Nat} {ty:TypeId} {pos:String} {af:Array Edge} {gd:Option (Nat × Bool)} {v:Value} {r:Array Value} (h:e t=.tuple r) (hv:r[0]?=some v) (hk:K v w):WO P ⟨dst,.extract (.tmp t) 0,ty,pos,af,gd⟩ e w K:=by
 have key:(execOp (ev e) ⟨dst,.extract (.tmp t) 0,ty,pos,af,gd⟩).run P w=.ok (.value v) w:=by
  show (do let x <- Instr.extract (e t) 0; pure (Next.value x):Sem Next).run P w=_
  rw [h];simp [Instr.extract,hv]
 show RO P K _
 rw [key]; exact hk
def q1F.app [NL] {D:Nat->Prop} {ρ:Nat->Option Nat} {h:Hp} {w:World}:∀ {a:List (Int × PV)} {c:List MapEntry} {b:List (Int × PV)} {d:List MapEntry},a.length=c.length->(q1F w D ρ h (a ++ b) (c ++ d) ↔ q1F w D ρ h a c/\q1F w D ρ h b d)
 | [],[],b,d,_=>⟨λhm=>⟨⟨rfl,λi p e hp=>by simp at hp⟩,hm⟩,λhm=>hm.2⟩
 | [],_ :: _,_,_,hl=>by simp at hl
 | _ :: _,[],_,_,hl=>by simp at hl
 | x :: a,y :: c,b,d,hl=>by
  rw [List.cons_append,List.cons_append,q1F.cons,q1F.cons,q1F.app (by simpa using hl)];exact ⟨λhm=>⟨⟨hm.1,hm.2.1⟩,hm.2.2⟩,λhm=>⟨hm.1.1,hm.1.2,hm.2⟩⟩
def q8w {P:Program} {ops:Array Oper} {K:Env->World->Prop} {dst:Option Nat} {op:Op} {ty:TypeId} {pos:String} {af:Array Edge} {r:List Oper} {e:Env} {w:World} (h:WO P ⟨dst,op,ty,pos,af,none⟩ e w λv w'=>WL P ops K r (E.put e dst v) w'):WL P ops K (⟨dst,op,ty,pos,af,none⟩ :: r) e w:=h
def qoC [NL] {m d1 d d8 d9 d10 b0 b1 i2 i3 i4:Nat} {T kt et y1 y2 y3 y4 y5:TypeId} {p1 p2 p3 p4 p5:String} {a1 a2 a3 a4 a5:Array Edge} {l:List (Int × PV)} {body:Code} {r4:List Oper}
  (hm:s m=.fm (q9x l)) (ht:P.underlying T=some (.map kt et)) (hne:d1≠d/\d8≠d9/\d8≠d/\d9≠d)
  (hwr:wr d (.seq (.region i3 #[⟨some d8,.next (.tmp d) false,y3,p3,a3,none⟩,⟨some d9,.extract (.tmp d8) 0,y4,p4,a4,none⟩] false) (.seq (.cond (.tmp d9) .skip (.exit b0)) (.block b1 (.seq (.region i4 (⟨some d10,.entry (.tmp d),y5,p5,a5,none⟩ :: r4).toArray false) body))))=false)
  (Ss:List (Int × PV)->Nat->PV) (Hs:List (Int × PV)->Hp) (hst:Le J (pu (pu s d1 (s m)) d .un) h (Ss []) (Hs []))
  (round:∀ dn k x rs,(dn ++ (k,x) :: rs).Perm l->AL P Tb (⟨some d10,.entry (.tmp d),y5,p5,a5,none⟩ :: r4) (λs h _=>AW P Tb J n body (inA b1 (thA (λs' h'=>Le J s' h' (Ss (dn ++ [(k,x)])) (Hs (dn ++ [(k,x)]))) (inA b0 Q))) s h) r4 (pu (pu (pu (Ss dn) d8 .un) d9 .un) d10 (.tu [.vl (.int .i64 k),x])) (Hs dn) [([],[])])
  (fin:∀ dn,dn.Perm l->Q .normal (pu (pu (Ss dn) d8 .un) d9 .un) (Hs dn)) :
  AW P Tb J n (.seq (.region i2 #[⟨some d1,.move (.tmp m),y1,p1,a1,none⟩,⟨some d,.range T (.tmp d1),y2,p2,a2,none⟩] false) (.block b0 (.loop (.seq (.region i3 #[⟨some d8,.next (.tmp d) false,y3,p3,a3,none⟩,⟨some d9,.extract (.tmp d8) 0,y4,p4,a4,none⟩] false) (.seq (.cond (.tmp d9) .skip (.exit b0)) (.block b1 (.seq (.region i4 (⟨some d10,.entry (.tmp d),y5,p5,a5,none⟩ :: r4).toArray false) body))))))) Q s h:=by
 intro D0 w0 ρ e w hT hF S;have hmv:=S.rd m;rw [hm] at hmv;unfold Rd at hmv;have hmv':In (q9x l) (dm D0 ρ h) (e m) w:=hmv;obtain ⟨gm,es,cl,el,q1,q2,q3,q4,q5,q6⟩:=hmv;have hgm:=qcg q3;have hold:∀ x ∈ es.toList,x.born < cl:=q4.st.1;have hnod:=q4.st.2.1;refine q5H (q1E (q8w (show RO P _ _ from ?_)));refine q8w (qfA (t:=d1) (w':=w.alloc (.mapIter (some gm) cl #[] cl)) (v:=.pointer (some ⟨w.heap.size,0,none⟩)) ?_ ?_)
 .rw [show E.put e (some d1) (ev e (.tmp m)) d1=e m by simp [E.put,upd,ev],q1];exact run_range_map w T kt et gm es cl ht q3
 generalize he2:E.put (E.put e (some d1) (ev e (.tmp m))) (some d) (.pointer (some ⟨w.heap.size,0,none⟩))=e2;have hed:e2 d=.pointer (some ⟨w.heap.size,0,none⟩):=by rw [<- he2]; simp [E.put,upd]
 have hx2:Ext w (w.alloc (.mapIter (some gm) cl #[] cl)):=Kp.alloc w _;have hit:(w.alloc (.mapIter (some gm) cl #[] cl)).heap[w.heap.size]?=some (.mapIter (some gm) cl #[] cl):=heap_alloc_new w _;have hsz:(w.alloc (.mapIter (some gm) cl #[] cl)).heap.size=w.heap.size+1:=σ
 generalize hw2:w.alloc (.mapIter (some gm) cl #[] cl)=w2 at hx2 hit hsz ⊢;have hfrD:∀ k,w.heap.size<=k->D0 k:=λk hk=>S.fr k (zU S.ext.size hk);obtain ⟨F1,hF1⟩:∃ F1:Nat->Prop,F1=λk=>w0.F k\/k=w.heap.size\/(k < w.heap.size/\dm D0 ρ h k):=⟨_,rfl⟩;obtain ⟨D1,hD1⟩:∃ D1:Nat->Prop,D1=λk=>D0 k/\k≠w.heap.size:=⟨_,rfl⟩;have f1:∀ k,w0.F k->F1 k:=λk hk=>by rw [hF1]; exact .inl hk
 have f2:F1 w.heap.size:=by rw [hF1]; exact .inr (.inl rfl)
 have f3:∀ k,k < w.heap.size->dm D0 ρ h k->F1 k:=λk h1 h2=>by rw [hF1]; exact .inr (.inr ⟨h1,h2⟩)
 have f0:∀ k,w0.F k->k < w.heap.size:=λk hk=>zK (w0.lt k hk) S.ext.size;have f4:∀ k,F1 k->k < w2.heap.size:=λk hk=>by
  rw [hF1] at hk
  rcases hk with hk | hk | hk
  .have:=f0 k hk; omega
  .omega
  .have:=hk.1; omega
 have f5:∀ (w':World),w2.heap.size<=w'.heap.size->∀ k,F1 k->k < w'.heap.size:=λw' hs k hk=>zK (f4 k hk) hs;have d1':∀ k,D1 k->D0 k/\k≠w.heap.size:=λk hk=>by rw [hD1] at hk; exact hk
 have d2':∀ k,D0 k->k≠w.heap.size->D1 k:=λk h1 h2=>by rw [hD1]; exact ⟨h1,h2⟩
 have frD1:∀ (w':World),w2.heap.size<=w'.heap.size->Fr D1 w':=λw' hs k hk=>d2' k (hfrD k Oq) Oq;have hTn:∀ (wa:World) (hs:w2.heap.size<=wa.heap.size),Kp (λk=>F1 k/\k≠w.heap.size) w2 wa->∀ w',Kp (mkB w0 F1 wa (f5 wa hs)).F (mkB w0 F1 wa (f5 wa hs)).w w'->Tb w':=λwa hs ka w' hk =>
  hT.1 w' ((S.ext.trans (Kp.of_ext hx2)).trans ((ka.mono λk h1 h2=>⟨f1 k h2,by have:=f0 k h2; omega⟩).trans (hk.mono λk _ h2=>f1 k h2)))
 have leave:∀ {s':Nat->PV} {h':Hp} {ρ':Nat->Option Nat} {e':Env} {wa w':World} (hs:w2.heap.size<=wa.heap.size),Kp (λk=>F1 k/\k≠w.heap.size) w2 wa->Sat D1 (mkB w0 F1 wa (f5 wa hs)) s' h' ρ' e' w'->Sat D0 w0 s' h' ρ' e' w':=λhs ka S' =>
  S'.chg (Kp.refl _ _) (λk _ hk=>⟨(d1' k hk.1).1,hk.2⟩) (λ_ _ _ _ _=>rfl) (λi b g hi hr=>⟨λhf=>(S'.own i b g hi hr).1.1 (f1 g hf),(d1' g (S'.own i b g hi hr).1.2).1⟩)
   ((S.ext.trans (Kp.of_ext hx2)).trans ((ka.mono λk h1 h2=>⟨f1 k h2,by have:=f0 k h2; omega⟩).trans (S'.ext.mono λk _ h2=>f1 k h2))) S.fr S'.imp S'.pin
 have S1:Sat D0 w0 (pu (pu s d1 (s m)) d .un) h ρ e2 w:=by
  rw [<- he2];exact (S.put d1 (by rw [hm]; unfold Rd; exact hmv')).put d (by unfold Rd; trivial)
 have S2:Sat D1 (mkB w0 F1 w2 (f5 w2 (zL _))) (pu (pu s d1 (s m)) d .un) h ρ e2 w2 :=
  S1.chg (Kp.of_ext hx2) (λk hk hd=>⟨d2' k hd.1 Oq,hd.2⟩) (λi b g hi hr=>hx2.block g (S.heap_lt hi hr) trivial)
   (λi b g hi hr=>⟨λhf=>by
    have hf':F1 g:=hf;rw [hF1] at hf'
    rcases hf' with hf' | hf' | hf'
    .exact (S.own i b g hi hr).1.1 hf'
    .have:=S.heap_lt hi hr; omega
    .exact hf'.2.2 i b hi hr,d2' g (S.own i b g hi hr).1.2 (by have:=S.heap_lt hi hr; omega)⟩)
   (Kp.refl _ _) (frD1 w2 (zL _)) (S.impx hx2) S.pin
 obtain ⟨ρ0,S0⟩:=hst D1 (mkB w0 F1 w2 (f5 w2 (zL _))) ρ e2 w2 hT.2 S2
 show W P n (.block b0 _) _ e2 w2
 refine q8u (quh (λe' w'=>∃ (dn rs:List (Int × PV)) (ed er:List MapEntry) (seen:Array Nat) (ρ':Nat->Option Nat) (hs:w2.heap.size<=w'.heap.size),(dn ++ rs).Perm l/\dn.length=ed.length/\q1F w (dm D0 ρ h) (λ_=>none) h0 (dn ++ rs) (ed ++ er)/\es.toList.Perm (ed ++ er)/\(∀ x ∈ ed,seen.contains x.born=true)/\(∀ x ∈ er,seen.contains x.born=false) /\
   w'.heap[w.heap.size]?=some (.mapIter (some gm) cl seen cl)/\Kp (λk=>F1 k/\k≠w.heap.size) w2 w'/\Sat D1 (mkB w0 F1 w' (f5 w' hs)) (Ss dn) (Hs dn) ρ' e' w') (λ_ w'=>(leftOf es (w'.iterSeen w.heap.size)).size) ?_ ?_)
 .exact ⟨[],l,[],el,#[],ρ0,zL _,.refl _,rfl,q5,q6,λx hx=>(by cases hx),λx _=>σ,hit,Kp.refl _ _,S0⟩
 .rintro e' w' ⟨dn,rs,ed,er,seen,ρ',hs,p1',p2',p3',p4',p5',p6',p7',p8',S'⟩ hfr;have he'd:e' d=.pointer (some ⟨w.heap.size,0,none⟩):=(hfr d hwr).trans hed;have hmapw:w'.heap[gm]?=some (.map es cl):=(p8'.block gm Oq ⟨f3 gm hgm q2,ω⟩).trans ((hx2.block gm hgm trivial).trans q3);have hlen:rs.length=er.length:=by have:=p3'.1; simp only [wN] at this; omega
  rcases q8S (P:=P) y3 p7' hmapw hold (zL _) with ⟨z0,hrun⟩ | ⟨en,hen,kk,hrun⟩
  .refine q5H (q1E (q8w (qbY (t:=d) (by rw [he'd]; exact hrun) (q8w (qbZ (t:=d8) (r:=#[.bool false]) (v:=.bool false) (by simp [E.put,upd]) rfl ?_)))))
   show W P n (.seq (.cond _ _ _) _) _ _ w'
   refine q5H (q5I (t:=false) (by simp [ev,E.put,upd]) (λhc=>by cases hc) λ_=>qjg ?_);have her:er=[]:=by
    cases er with
    | nil=>rfl
    | cons x er =>
     exfalso
     have hx:x ∈ (leftOf es seen).toList:=by
      unfold leftOf;have h1:x ∈ es.toList:=p4'.mem_iff.2 (y9 _ z6);have h2:=p6' x z6;simp only [Array.toList_filter,List.mem_filter];exact ⟨h1,by rw [h2]; rfl⟩
     have hl:(leftOf es seen).toList.length=0:=by simpa using z0
     rw [xX.1 hl] at hx;cases hx
   subst her;have hrs:rs=[]:=xX.1 (by simpa using hlen);subst hrs;rw [wC] at p1';simp only [q8K,inB,if_true];exact ⟨_,_,ρ',leave hs p8' ((S'.put d8 (x:=.un) (by unfold Rd; trivial)).put d9 (x:=.un) (by unfold Rd; trivial)),fin dn p1'⟩
  .obtain ⟨hen1,hen2⟩:=mem_left hen;have hener:en ∈ er:=by
    rcases yY.1 (p4'.mem_iff.1 hen1) with h1 | h1
    .have:=p5' en h1; rw [hen2] at this; cases this
    .exact h1
   obtain ⟨er1,er2,rfl⟩:=List.append_of_mem hener;obtain ⟨rs1,kx,rs2,rfl,hl1⟩:∃ rs1 kx rs2,rs=rs1 ++ kx :: rs2/\rs1.length=er1.length:=by
    have hlt:er1.length < rs.length:=by rw [hlen]; simp
    exact ⟨rs.take er1.length,rs[er1.length],rs.drop (er1.length+1),by rw [List.getElem_cons_drop,xA],by simp; omega⟩
   obtain ⟨k,x⟩:=kx;have m1:=(q1F.app p2').1 p3';have m2:=(q1F.app hl1).1 m1.2;have m3:=q1F.cons.1 m2.2;have hkey:en.key=.int .i64 k:=m3.1.1;have hperm:(dn ++ (k,x) :: (rs1 ++ rs2)).Perm l:=(List.Perm.append_left dn List.perm_middle.symm).trans p1';have hm':q1F w (dm D0 ρ h) (λ_=>none) h0 ((dn ++ [(k,x)]) ++ (rs1 ++ rs2)) ((ed ++ [en]) ++ (er1 ++ er2)):=by
    refine (q1F.app (by simp [p2'])).2 ⟨(q1F.app p2').2 ⟨m1.1,q1F.cons.2 ⟨m3.1,q1F.nil⟩⟩,(q1F.app hl1).2 ⟨m2.1,m3.2⟩⟩
   have hpe:es.toList.Perm ((ed ++ [en]) ++ (er1 ++ er2)):=by
    refine p4'.trans ?_;rw [y6];exact List.Perm.append_left ed List.perm_middle
   have hgl:w.heap.size < w'.heap.size:=ω
   obtain ⟨wn,hwn⟩:∃ wn:World,wn={ w' with drawn:=kk,heap:=w'.heap.setIfInBounds w.heap.size (.mapIter (some gm) cl (seen.push en.born) cl) }:=⟨_,rfl⟩;rw [<- hwn] at hrun;have kn:Kp (λk=>k≠w.heap.size) w' wn:=by
    rw [hwn];exact ⟨rfl,rfl,rfl,σ,λk _ hk=>by
     show (w'.heap.setIfInBounds w.heap.size _)[k]?=_
     rw [xJ,if_neg λe=>hk e.symm]⟩
   have itn:wn.heap[w.heap.size]?=some (.mapIter (some gm) cl (seen.push en.born) cl):=by
    rw [hwn]
    show (w'.heap.setIfInBounds w.heap.size _)[w.heap.size]?=_
    rw [xJ,if_pos rfl,if_pos hgl]
   have hsn:w2.heap.size<=wn.heap.size:=zU hs kn.size;have kan:Kp (λk=>F1 k/\k≠w.heap.size) w2 wn:=p8'.trans (kn.mono λk _ hk=>hk.2);have mapn:wn.heap[gm]?=some (.map es cl):=(kn.block gm Oq Oq).trans hmapw;have Sn:Sat D1 (mkB w0 F1 wn (f5 wn hsn)) (Ss dn) (Hs dn) ρ' e' wn :=
    S'.chg (kn.mono λk _ hk=>(d1' k hk.1).2) (λ_ _ hk=>hk) (λi b g hi hr=>kn.block g (S'.heap_lt hi hr) λe=>by subst e; exact (S'.own i b _ hi hr).1.1 f2)
     (λi b g hi hr=>(S'.own i b g hi hr).1) (Kp.refl _ _) (frD1 wn hsn) (λg T m hi=>by
      obtain ⟨cs,c1,c2⟩:=S'.imp g T m hi;exact ⟨cs,(kn.block g c1.lt λe=>by subst e; have:=c1.symm.trans p7'; cases this).trans c1,c2⟩) S'.pin
   have hwn0:Kp (dm D0 ρ h) w wn:=((Kp.of_ext (D:=λk=>k < w.heap.size/\dm D0 ρ h k) hx2).trans (kan.mono λk _ hk=>⟨f3 k hk.1 hk.2,ω⟩)).mono λk h1 h2=>⟨h1,h2⟩;have rdx:Rd wn (dm D1 ρ' (Hs dn)) x ρ' (Hs dn) en.val:=Rd.mv hwn0 (λk h1 h2=>⟨d2' k h2.1 Oq,λi b hi hr=>(S'.own i b k hi hr).1.1 (f3 k h1 h2)⟩) _ _ _ _ _ _ Cpt.h0 m3.1.2;refine q5H (q1E (q8w (qbY (t:=d) (by rw [he'd]; exact hrun) (q8w (qbZ (t:=d8) (r:=#[.bool true,en.key,en.val]) (v:=.bool true) (by simp [E.put,upd]) rfl ?_)))))
   show W P n (.seq (.cond _ _ _) _) _ _ wn
   refine q5H (q5I (t:=true) (by simp [ev,E.put,upd]) (λ_=>q4G ?_) (λhc=>by cases hc))
   show W P n (.block b1 _) _ _ wn
   refine q8u (q5H (q1E (q8w (qfB (t:=d) (w':=wn) (v:=.tuple #[en.key,en.val]) ?_ ?_))))
   .rw [show E.put (E.put e' (some d8) (.tuple #[.bool true,en.key,en.val])) (some d9) (.bool true) d=e' d by simp [E.put,upd,hne.2.2.1.symm,hne.2.2.2.symm],he'd];exact q7H itn mapn hen1 hnod
   .have S4:Sat D1 (mkB w0 F1 wn (f5 wn hsn)) (pu (pu (pu (Ss dn) d8 .un) d9 .un) d10 (.tu [.vl (.int .i64 k),x])) (Hs dn) ρ' (E.put (E.put (E.put e' (some d8) (.tuple #[.bool true,en.key,en.val])) (some d9) (.bool true)) (some d10) (.tuple #[en.key,en.val])) wn:=by
     refine ((Sn.put d8 (x:=.un) (by unfold Rd; trivial)).put d9 (x:=.un) (by unfold Rd; trivial)).put d10 ?_;rw [hkey];unfold Rd;refine ⟨_,rfl,?_⟩;unfold RdL;refine ⟨_,_,rfl,by unfold Rd; rfl,?_⟩;unfold RdL;exact ⟨_,_,rfl,rdx,by unfold RdL; rfl⟩
    refine qbO (D0:=D1) (w0:=mkB w0 F1 wn (f5 wn hsn)) (hTn wn hsn kan) (frD1 wn hsn) r4 _ _ _ ρ' _ _ ?_ (round dn k x (rs1 ++ rs2) hperm) S4;intro s5 h5 acc5 ρ5 e5 w5 S5 hA;have nxt:∀ (s6:Nat->PV) (h6:Hp) (ρ6:Nat->Option Nat) (e6:Env) (w6:World),Sat D1 (mkB w0 F1 wn (f5 wn hsn)) s6 h6 ρ6 e6 w6->Le J s6 h6 (Ss (dn ++ [(k,x)])) (Hs (dn ++ [(k,x)]))->(∃ (dn rs:List (Int × PV)) (ed er:List MapEntry) (seen:Array Nat) (ρ':Nat->Option Nat) (hs:w2.heap.size<=w6.heap.size),(dn ++ rs).Perm l/\dn.length=ed.length/\q1F w (dm D0 ρ h) (λ_=>none) h0 (dn ++ rs) (ed ++ er)/\es.toList.Perm (ed ++ er)/\(∀ x ∈ ed,seen.contains x.born=true)/\(∀ x ∈ er,seen.contains x.born=false) /\
      w6.heap[w.heap.size]?=some (.mapIter (some gm) cl seen cl)/\Kp (λk=>F1 k/\k≠w.heap.size) w2 w6/\Sat D1 (mkB w0 F1 w6 (f5 w6 hs)) (Ss dn) (Hs dn) ρ' e6 w6)/\(leftOf es (w6.iterSeen w.heap.size)).size < (leftOf es (w'.iterSeen w.heap.size)).size:=by
     intro s6 h6 ρ6 e6 w6 S6 hle;obtain ⟨ρ7,S7⟩:=hle D1 (mkB w0 F1 wn (f5 wn hsn)) ρ6 e6 w6 hT.2 S6;have k6:Kp F1 wn w6:=S6.ext;have hs6:w2.heap.size<=w6.heap.size:=zU hsn k6.size;have it6:w6.heap[w.heap.size]?=some (.mapIter (some gm) cl (seen.push en.born) cl):=(k6.block _ Oq f2).trans itn;have hnb:∀ y ∈ er1 ++ er2,y.born≠en.born:=λy hy he=>by
      have hy':y ∈ es.toList:=hpe.mem_iff.2 (y9 _ hy);have:=born_inj hnod hy' hen1 he;subst this;have hn2:(((ed ++ [y]) ++ (er1 ++ er2)).map (·.born)).Nodup:=(hpe.map _).nodup_iff.1 hnod;rw [xK,List.nodup_append] at hn2;exact hn2.2.2 _ (x8.2 ⟨y,σ,rfl⟩) _ (x8.2 ⟨y,hy,rfl⟩) rfl
     refine ⟨⟨dn ++ [(k,x)],rs1 ++ rs2,ed ++ [en],er1 ++ er2,seen.push en.born,ρ7,hs6,by rw [y6]; exact hperm,by simp [p2'],hm',hpe,λy hy=>?_,λy hy=>?_,it6,kan.trans (k6.mono λk _ hk=>hk.1),?_⟩,?_⟩
     .rw [contains_push]
      rcases yY.1 hy with h1 | h1
      .rw [p5' y h1]; rfl
      .rw [List.mem_singleton.1 h1]; simp
     .rw [contains_push,p6' y (by
       rcases yY.1 hy with h1 | h1
       .exact List.mem_append_left _ h1
       .exact y9 _ (yF _ h1))]
      simp [hnb y hy]
     .exact S7.chg (Kp.refl _ _) (λ_ _ hk=>hk) (λ_ _ _ _ _=>rfl) (λi b g hi hr=>(S7.own i b g hi hr).1) (Kp.refl _ _) (frD1 w6 hs6) S7.imp S7.pin
     .have e1:w6.iterSeen w.heap.size=seen.push en.born:=by unfold World.iterSeen; rw [it6]
      have e2:w'.iterSeen w.heap.size=seen:=by unfold World.iterSeen; rw [p7']
      rw [e1,e2];exact left_shrinks es seen en hen
    refine q4H ?_ (hA D1 (mkB w0 F1 wn (f5 wn hsn)) ρ5 e5 w5 ⟨hTn wn hsn kan,hT.2⟩ (frD1 wn hsn) S5);rintro x6 e6 w6 ⟨s6,h6,ρ6,S6,q6⟩;cases x6 with
    | normal=>exact nxt s6 h6 ρ6 e6 w6 S6 q6
    | exit id =>
     simp only [inA,thA] at q6;simp only [inB,q8K]
     by_cases hid:id=b1
     .rw [if_pos hid] at q6 ⊢;exact nxt s6 h6 ρ6 e6 w6 S6 q6
     .rw [if_neg hid] at q6 ⊢
      by_cases hid0:id=b0
      .rw [if_pos hid0] at q6 ⊢;exact ⟨s6,h6,ρ6,leave hsn kan S6,q6⟩
      .rw [if_neg hid0] at q6 ⊢;exact ⟨s6,h6,ρ6,leave hsn kan S6,q6⟩
    | _=>exact ⟨s6,h6,ρ6,leave hsn kan S6,q6⟩
end
section
variable {w:World} {D:Nat->Prop} {ρ:Nat->Option Nat} {h:Hp} {vs:List Value} {x y z t:PV}
def qkq [NL] (hr:RdL w D [x] ρ h vs):∃ a,vs=[a]/\Rd w D x ρ h a:=by
 unfold RdL at hr;obtain ⟨a,l,rfl,h1,h2⟩:=hr;unfold RdL at h2;subst h2;exact ⟨a,rfl,h1⟩
def rd_2 [NL] (hr:RdL w D [x,y] ρ h vs):∃ a b,vs=[a,b]/\Rd w D x ρ h a/\Rd w D y ρ h b:=by
 unfold RdL at hr;obtain ⟨a,l,rfl,h1,h2⟩:=hr;obtain ⟨b,rfl,h3⟩:=qkq h2;exact ⟨a,b,rfl,h1,h3⟩
def rd_3 [NL] (hr:RdL w D [x,y,z] ρ h vs):∃ a b c,vs=[a,b,c]/\Rd w D x ρ h a/\Rd w D y ρ h b/\Rd w D z ρ h c:=by
 unfold RdL at hr;obtain ⟨a,l,rfl,h1,h2⟩:=hr;obtain ⟨b,c,rfl,h3,h4⟩:=rd_2 h2;exact ⟨a,b,c,rfl,h1,h3,h4⟩
def rd_4 [NL] (hr:RdL w D [x,y,z,t] ρ h vs):∃ a b c d,vs=[a,b,c,d]/\Rd w D x ρ h a/\Rd w D y ρ h b/\Rd w D z ρ h c/\Rd w D t ρ h d:=by
 unfold RdL at hr;obtain ⟨a,l,rfl,h1,h2⟩:=hr;obtain ⟨b,c,d,rfl,h3,h4,h5⟩:=rd_3 h2;exact ⟨a,b,c,d,rfl,h1,h3,h4,h5⟩
def q9S [NL] {v a:Value} (hr:Rd w D (.vl v) ρ h a):a=v:=by unfold Rd at hr; exact hr
def qf3 [NL] {G:Fam} {a:Value} (hr:Rd w D (.fm G) ρ h a):In G D a w:=by unfold Rd at hr; exact hr
def qcH [NL] {G:Fam} {a:Value} (hr:In G D a w):Rd w D (.fm G) ρ h a:=by unfold Rd; exact hr
def q5R [NL] {v:Value}:Rd w D (.vl v) ρ h v:=by unfold Rd; rfl
def rd_sc [NL] {α:Type} {f:α->Value} {l:List α} {a:Value} (hr:Rd w D (.sl none (l.map λx=>.vl (f x))) ρ h a):∃ A n c,a=.slice A n c/\In (fSc f l) D (.slice A n c) w:=by
 unfold Rd at hr;obtain ⟨A,n,c,vs,rfl,h1,h2,h3,h4⟩:=hr;have:vs=l.map f:=by
  obtain ⟨q1,q2⟩:=RdL.iff.1 h3
  apply List.ext_getElem?
  intro i
  rcases yE i l.length with hi | hi
  .obtain ⟨u,hv⟩:∃ u,vs[i]?=some u:=⟨_,yP (by simp at q1; omega)⟩;have:=q2 i (.vl (f l[i])) u (by simp [hi]) hv;rw [hv,q9S this]; simp [hi]
  .rw [wF (by simp at q1; omega),wF (by simpa using hi)]
 subst this;refine ⟨A,n,c,rfl,A,n,c,rfl,?_⟩;have hf:q0X (l.map f)=l.map f:=by
  have:∀ v ∈ l.map f,v.cells=#[v]:=λv hv=>(h4 v hv).1;clear h1 h2 h3 h4
  induction l with
  | nil=>rfl
  | cons x l ih =>
   have e:=ih λv hv=>this v (yF _ hv);unfold q0X at e ⊢;rw [xF,List.flatMap_cons,e,this _ z6]
   rfl
 rw [hf] at h1;exact h1
def qqV [NL] {α:Type} {f:α->Value} {l:List α} {a:Value} (hf:∀ x,qid (f x)) (hr:In (fSc f l) D a w):Rd w D (.sl none (l.map λx=>.vl (f x))) ρ h a:=by
 obtain ⟨A,n,c,rfl,h1⟩:=hr;unfold Rd;have hfl:q0X (l.map f)=l.map f:=by
  clear h1
  induction l with
  | nil=>rfl
  | cons x l ih =>
   unfold q0X at ih ⊢;rw [xF,List.flatMap_cons,ih,q1Q (hf x).1]
   rfl
 refine ⟨A,n,c,l.map f,rfl,by rw [hfl]; exact h1,by have:=h1.len; simpa [ksz] using this,?_,λv hv=>?_⟩
 .have:=q3c (w:=w) (D:=D) (ρ:=λ_=>none) (h:=h0) (l.map f);rw [List.map_map] at this;exact this
 .obtain ⟨x,_,rfl⟩:=x8.1 hv;exact ⟨q1Q (hf x).1,hf x⟩
end
end Go.E
namespace Go.Proofs.YtbjoghfmhgadkaaGreatDoor
open Go Go.E Go.Sp
def nz_v [NL] {v:Value}:Nz (.vl v):=λw D B x _ h=>by unfold Rd at h ⊢; exact h
def fitV [NL] {V:Int}:∀ D v w,In (fV V) D v w->q1z (some 4) v:=λD v w h=>by
 obtain ⟨s,A,n,c,rfl,_⟩:=h;exact ⟨_,rfl,rfl,λu hu=>by simp at hu; rcases hu with rfl | rfl | rfl | rfl <;> exact ⟨rfl,nlo⟩⟩
def fitKV [NL] {V:Int} {A:Prop}:q1K (some 4) (pV V) A=A:=qsY fitV
attribute [go_sem] fitKV
def ac_c [NL] {f:FuncId} {al:List PV} {v:Value} (hc:q0H Tryz.prog f=true) (h:∀ (D:Nat->Prop) (w:World) (vs:List Value),q5Y w->Fr D w->RdL w D al (λ_=>none) h0 vs->Calls Tryz.prog f vs.toArray w λx w'=>x=.returned v/\Ext w w'):ACt f al (.vl v) :=
 ⟨hc,λD w vs hT hF hR=>(h D w vs hT hF hR).mono λx w' ⟨h1,h2⟩=>⟨v,h1,h2,q5R⟩⟩
def ac_x [NL] {f:FuncId} {al:List PV} {v:Value} (hc:q0H Tryz.prog f=true) (h:∀ (D:Nat->Prop) (w:World) (vs:List Value),q5Y w->Fr D w->RdL w D al (λ_=>none) h0 vs->Calls Tryz.prog f vs.toArray w λx w'=>x=.returned v/\w=w'):ACt f al (.vl v) :=
 ac_c hc λD w vs hT hF hR=>(h D w vs hT hF hR).mono λx w' ⟨h1,h2⟩=>⟨h1,by subst h2; exact Kp.refl _ _⟩
end Go.Proofs.YtbjoghfmhgadkaaGreatDoor
namespace Go.E
open Go Go.RowKit
section
variable {P:Program} {Tb:World->Prop} {J:Nat->Prop} {n:Nat} {Q Q':SQ} {s:Nat->PV} {h:Hp}
def q6p [NL] {c:Code} (hq:∀ x s h,Q x s h->Q' x s h) (hw:AW P Tb J n c Q s h):AW P Tb J n c Q' s h:=λD0 w0 ρ e w hT hF S=>q4H (λx e' w' ⟨s',h',ρ',S',q⟩=>⟨s',h',ρ',S',hq _ _ _ q⟩) (hw D0 w0 ρ e w hT hF S)
def qvo [NL] {a b:Code} (hw:AW P Tb J n a (thA (AW P Tb J n b Q) Q) s h):AW P Tb J n (.seq a b) Q s h:=q4I λK hK=>q6p (λx s h q=>by cases x <;> first | exact hK _ _ q | exact q) hw
def A_sqc [NL] {c:Operand} {x y b:Code} (hw:AW P Tb J n (.cond c x y) (thA (AW P Tb J n b Q) Q) s h):AW P Tb J n (.seq (.cond c x y) b) Q s h:=qvo hw
def A_sqb [NL] {id:Nat} {a b:Code} (hw:AW P Tb J n (.block id a) (thA (AW P Tb J n b Q) Q) s h):AW P Tb J n (.seq (.block id a) b) Q s h:=qvo hw
def A_sql [NL] {a b:Code} (hw:AW P Tb J n (.loop a) (thA (AW P Tb J n b Q) Q) s h):AW P Tb J n (.seq (.loop a) b) Q s h:=qvo hw
def qvn [NL] {a b c:Code} (hw:AW P Tb J n (.seq a b) (thA (AW P Tb J n c Q) Q) s h):AW P Tb J n (.seq (.seq a b) c) Q s h:=qvo hw
structure Hid (p:Prop):Prop where
 o:p
def A_jn [NL] {a b:Code} (hw:∀ K:(Nat->PV)->Hp->Prop,(∀ s h,AW P Tb J n b Q s h->K s h)->AW P Tb J n a (thA K Q) s h):AW P Tb J n a (thA (AW P Tb J n b Q) Q) s h:=hw _ λ_ _ h=>h
def x2 {A B:Prop} (a:A) (b:B):A/\B:=⟨a,b⟩
def x3 {A B C:Prop} (a:A) (b:B) (c:C):A/\B/\C:=⟨a,b,c⟩
def x4 {A B C D:Prop} (a:A) (b:B) (c:C) (d:D):A/\B/\C/\D:=⟨a,b,c,d⟩
def x5 {A B C D E:Prop} (a:A) (b:B) (c:C) (d:D) (e:E):A/\B/\C/\D/\E:=⟨a,b,c,d,e⟩
def x6 {A B C D E F:Prop} (a:A) (b:B) (c:C) (d:D) (e:E) (f:F):A/\B/\C/\D/\E/\F:=⟨a,b,c,d,e,f⟩
def qcU (ops:List Oper):List (Nat × Nat) :=
 (List.range ops.length).flatMap λi=>match ops[i]? with
  | none=>[]
  | some o=>(List.range i).filterMap λj=>match ops[j]? with
   | none=>none
   | some p=>if ((qoV [] ops).getD i 0).testBit j || harm (cls p) (cls o) then none else some (j,i)
def djB (a b:FP):Bool:=(a.2.all λx=>!(b.1.any λy=>wW x y) && !(b.2.any λy=>wW x y)) && b.2.all λx=>!(a.1.any λy=>wW x y)
def chkB (prs:List (Nat × Nat)) (fps:List FP):Bool:=prs.all λp=>djB (fps.getD p.1 ([],[])) (fps.getD p.2 ([],[]))
def nbq {x:Nat} {l:List Nat} (hx:(!(l.any λy=>wW x y))=true):x ∉ l:=λhm=>by
 have:(l.any λy=>wW x y)=true:=List.any_eq_true.2 ⟨x,hm,Nat.beq_refl x⟩;rw [this] at hx; cases hx
def qmp {prs:List (Nat × Nat)} {fps:List FP} (hc:chkB prs fps=true):chk prs fps:=λp hp=>by
 have:=xY.1 hc p hp;unfold djB at this;rw [Bool.and_eq_true] at this;refine ⟨λx hx=>?_,λx hx=>nbq (xY.1 this.2 x hx)⟩;have q:=xY.1 this.1 x hx;rw [Bool.and_eq_true] at q;exact ⟨nbq q.1,nbq q.2⟩
def cB (l:List Oper) (acc:List FP):Prop:=chkB (qcU l) acc.reverse=true
def qbB {l:List Oper} {acc:List FP} (hc:chkB (qcU l) acc.reverse=true):cB l acc:=hc
@[congr] theorem cB_congr {l:List Oper} {acc acc':List FP} (he:acc=acc'):cB l acc=cB l acc':=by rw [he]
def q5L [NL] {ops:List Oper} {K K':(Nat->PV)->Hp->List FP->Prop} (hk:∀ s h acc,K s h acc->K' s h acc):∀ {l:List Oper} {s:Nat->PV} {h:Hp} {acc:List FP},AL P Tb ops K l s h acc->AL P Tb ops K' l s h acc
 | [],_,_,_,hq=>hk _ _ _ hq
 | _ :: _,_,_,_,⟨x,h',fp,h1,h2⟩=>⟨x,h',fp,h1,q5L hk h2⟩
def qaX [NL] {id:Nat} {l:List Oper} (hm:P.follows .mixedOrders=true) (hok:qdp l (qoV [] l) (qcU l)=true) (hw:∀ K:(Nat->PV)->Hp->Prop,(∀ s h,Q .normal s h->K s h)->AL P Tb l (λs h acc=>cB l acc/\K s h) l s h []):AW P Tb J n (.region id l.toArray true) Q s h :=
 qvs (qcU l) hm hok λK hK=>q5L (λ_ _ _ q=>⟨qmp q.1,q.2⟩) (hw K hK)
def qvp [NL] {id:Nat} {l:List Oper} {b:Code} (hm:P.follows .mixedOrders=true) (hok:qdp l (qoV [] l) (qcU l)=true) (hw:∀ K:(Nat->PV)->Hp->Prop,(∀ s h,AW P Tb J n b Q s h->K s h)->AL P Tb l (λs h acc=>cB l acc/\K s h) l s h []):AW P Tb J n (.seq (.region id l.toArray true) b) Q s h :=
 q4I λK hK=>qaX hm hok λK1 hK1=>hw K1 λs h hb=>hK1 s h (hK s h hb)
variable {K:(Nat->PV)->Hp->Prop} {i id:Nat}
def q_n (hq:K s h):thA K Q .normal s h:=hq
def q_r (hq:Q .ret s h):thA K Q .ret s h:=hq
def q_e (hq:Q (.exit i) s h):thA K Q (.exit i) s h:=hq
def i_n (hq:Q .normal s h):inA id Q .normal s h:=hq
def i_r (hq:Q .ret s h):inA id Q .ret s h:=hq
def i_e (hq:Q .normal s h):inA id Q (.exit id) s h:=by simpa [inA] using hq
def i_o (hi:i≠id) (hq:Q (.exit i) s h):inA id Q (.exit i) s h:=by simpa [inA,hi] using hq
def retQ (P:Program) (rs:List ResultVar) (r:PV):SQ:=λx s h=>(x=.ret\/x=.normal)/\qko ((rsL P h s rs).bind (q2P h)) r
def qrt {rs:List ResultVar} {r:PV} (hq:qko ((rsL P h s rs).bind (q2P h)) r):retQ P rs r .ret s h:=⟨.inl rfl,hq⟩
def qrn {rs:List ResultVar} {r:PV} (hq:qko ((rsL P h s rs).bind (q2P h)) r):retQ P rs r .normal s h:=⟨.inr rfl,hq⟩
section
variable {a b:Int}
def d_lt {i:Decidable (a < b)} (h:a < b):@decide _ i=true:=decide_eq_true h
def qtD {i:Decidable (a < b)} (h:¬ a < b):@decide _ i=false:=decide_eq_false h
def d_le {i:Decidable (a<=b)} (h:a<=b):@decide _ i=true:=decide_eq_true h
def qtE {i:Decidable (a<=b)} (h:¬ a<=b):@decide _ i=false:=decide_eq_false h
def b_t (h:a=b):(a == b)=true:=by simpa using h
def b_f (h:a≠b):(a == b)=false:=by simpa using h
def n_t (h:a≠b):(a != b)=true:=by simpa using h
def n_f (h:a=b):(a != b)=false:=by simpa using h
variable {p:Prop} {i:Decidable p} {x y:PV}
def q52 (h:p):some (@decide p i)=some true:=by rw [decide_eq_true h]
def q53 (h:¬ p):some (@decide p i)=some false:=by rw [decide_eq_false h]
def q57 (h:a=b):some (a == b)=some true:=by rw [b_t h]
def q58 (h:a≠b):some (a == b)=some false:=by rw [b_f h]
def q54 (h:a≠b):some (a != b)=some true:=by rw [n_t h]
def q55 (h:a=b):some (a != b)=some false:=by rw [n_f h]
def q1p (h:p):pkP (.vl (.bool (@decide p i))) x y=some x:=by rw [decide_eq_true h]; rfl
def q1q (h:¬ p):pkP (.vl (.bool (@decide p i))) x y=some y:=by rw [decide_eq_false h]; rfl
def q1r (h:a=b):pkP (.vl (.bool (a == b))) x y=some x:=by rw [b_t h]; rfl
def q1s (h:a≠b):pkP (.vl (.bool (a == b))) x y=some y:=by rw [b_f h]; rfl
def q1n (h:a≠b):pkP (.vl (.bool (a != b))) x y=some x:=by rw [n_t h]; rfl
def q1o (h:a=b):pkP (.vl (.bool (a != b))) x y=some y:=by rw [n_f h]; rfl
end
end
end Go.E
namespace Go.Proofs.YtbjoghfmhgadkaaGreatDoor
open Go Go.E Go.Sp
def ac0 [NL] {f:FuncId} {fn:Func} {c:Code} {al:List PV} {r:PV} {n:Nat} (hf:Tryz.prog.funcs[f]?=some fn) (hn:fn.ntmps=n) (rs:List ResultVar) (hw:AW Tryz.prog q5Y (λ_=>False) n c (retQ Tryz.prog rs r) (enP al) h0)
  (hb:fn.body=some c:=by rfl) (hr:fn.results.toList=rs:=by rfl) (hl:(decide (rs.length<=4))=true:=by rfl) (hd:(decide (al.length<=n) && q5m n c)=true:=by kernel_rfl) (hc:q0H Tryz.prog f=true:=by kernel_rfl):ACt f al r :=
 act hc hf hb hn hd (q6p (λx s h q=>rt hr hl q.2 q.1) hw)
def wk1 {G p q:Prop} (g:G) (k:q) (e:G→Hid q→p:=by
 intro g k
 repeat (first
  | (refine qbR fun K hK=>?_; simp -implicitDefEqProofs (maxSteps:=50000) (disch:=omega) only [go_sem,Nat.reduceEqDiff,Nat.reduceAdd,↓reduceIte,i64_in,Bool.not_true,Bool.not_false,List.length_range,Nat.zero_add,Int.reduceLT,Int.reduceEq,Int.natAbs_natCast,Bool.true_and,Bool.false_and,Bool.and_true,Bool.and_false,q52,q53,q57,q58,q54,q55,q1p,q1q,q1r,q1s,q1n,q1o,g]; (repeat ((first | (apply q0K; focus (first | with_reducible assumption | (apply_assumption -exfalso -symm <;> first | assumption | omega | rfl | exact negN.symm | (simp only [Int.natAbs_natCast]; omega) | (apply_assumption -exfalso -symm <;> first | assumption | omega)))) | (apply q34; (focus with_reducible assumption); (focus with_reducible assumption))); try simp -implicitDefEqProofs (maxSteps:=50000) (disch:=omega) only [go_sem,Nat.reduceEqDiff,Nat.reduceAdd,↓reduceIte,i64_in,Bool.not_true,Bool.not_false,List.length_range,Nat.zero_add,Int.reduceLT,Int.reduceEq,Int.natAbs_natCast,Bool.true_and,Bool.false_and,Bool.and_true,Bool.and_false,q52,q53,q57,q58,q54,q55,q1p,q1q,q1r,q1s,q1n,q1o,g])); refine hK _ _ ?_; clear hK K)
  | (refine qvp q83 (by kernel_rfl) fun K hK=>?_; simp -implicitDefEqProofs (maxSteps:=50000) (disch:=omega) only [go_sem,Nat.reduceEqDiff,Nat.reduceAdd,↓reduceIte,i64_in,Bool.not_true,Bool.not_false,List.length_range,Nat.zero_add,Int.reduceLT,Int.reduceEq,Int.natAbs_natCast,Bool.true_and,Bool.false_and,Bool.and_true,Bool.and_false,q52,q53,q57,q58,q54,q55,q1p,q1q,q1r,q1s,q1n,q1o,g]; (repeat ((first | (apply q0K; focus (first | with_reducible assumption | (apply_assumption -exfalso -symm <;> first | assumption | omega | rfl | exact negN.symm | (simp only [Int.natAbs_natCast]; omega) | (apply_assumption -exfalso -symm <;> first | assumption | omega)))) | (apply q34; (focus with_reducible assumption); (focus with_reducible assumption))); try simp -implicitDefEqProofs (maxSteps:=50000) (disch:=omega) only [go_sem,Nat.reduceEqDiff,Nat.reduceAdd,↓reduceIte,i64_in,Bool.not_true,Bool.not_false,List.length_range,Nat.zero_add,Int.reduceLT,Int.reduceEq,Int.natAbs_natCast,Bool.true_and,Bool.false_and,Bool.and_true,Bool.and_false,q52,q53,q57,q58,q54,q55,q1p,q1q,q1r,q1s,q1n,q1o,g])); refine ⟨qbB (by kernel_rfl),hK _ _ ?_⟩; clear hK K)
  | (refine q5q fun K hK=>?_; simp -implicitDefEqProofs (maxSteps:=50000) (disch:=omega) only [go_sem,Nat.reduceEqDiff,Nat.reduceAdd,↓reduceIte,i64_in,Bool.not_true,Bool.not_false,List.length_range,Nat.zero_add,Int.reduceLT,Int.reduceEq,Int.natAbs_natCast,Bool.true_and,Bool.false_and,Bool.and_true,Bool.and_false,q52,q53,q57,q58,q54,q55,q1p,q1q,q1r,q1s,q1n,q1o,g]; (repeat ((first | (apply q0K; focus (first | with_reducible assumption | (apply_assumption -exfalso -symm <;> first | assumption | omega | rfl | exact negN.symm | (simp only [Int.natAbs_natCast]; omega) | (apply_assumption -exfalso -symm <;> first | assumption | omega)))) | (apply q34; (focus with_reducible assumption); (focus with_reducible assumption))); try simp -implicitDefEqProofs (maxSteps:=50000) (disch:=omega) only [go_sem,Nat.reduceEqDiff,Nat.reduceAdd,↓reduceIte,i64_in,Bool.not_true,Bool.not_false,List.length_range,Nat.zero_add,Int.reduceLT,Int.reduceEq,Int.natAbs_natCast,Bool.true_and,Bool.false_and,Bool.and_true,Bool.and_false,q52,q53,q57,q58,q54,q55,q1p,q1q,q1r,q1s,q1n,q1o,g])); refine hK _ _ ?_; clear hK K)
  | (refine qaX q83 (by kernel_rfl) fun K hK=>?_; simp -implicitDefEqProofs (maxSteps:=50000) (disch:=omega) only [go_sem,Nat.reduceEqDiff,Nat.reduceAdd,↓reduceIte,i64_in,Bool.not_true,Bool.not_false,List.length_range,Nat.zero_add,Int.reduceLT,Int.reduceEq,Int.natAbs_natCast,Bool.true_and,Bool.false_and,Bool.and_true,Bool.and_false,q52,q53,q57,q58,q54,q55,q1p,q1q,q1r,q1s,q1n,q1o,g]; (repeat ((first | (apply q0K; focus (first | with_reducible assumption | (apply_assumption -exfalso -symm <;> first | assumption | omega | rfl | exact negN.symm | (simp only [Int.natAbs_natCast]; omega) | (apply_assumption -exfalso -symm <;> first | assumption | omega)))) | (apply q34; (focus with_reducible assumption); (focus with_reducible assumption))); try simp -implicitDefEqProofs (maxSteps:=50000) (disch:=omega) only [go_sem,Nat.reduceEqDiff,Nat.reduceAdd,↓reduceIte,i64_in,Bool.not_true,Bool.not_false,List.length_range,Nat.zero_add,Int.reduceLT,Int.reduceEq,Int.natAbs_natCast,Bool.true_and,Bool.false_and,Bool.and_true,Bool.and_false,q52,q53,q57,q58,q54,q55,q1p,q1q,q1r,q1s,q1n,q1o,g])); refine ⟨qbB (by kernel_rfl),hK _ _ ?_⟩; clear hK K)
  | refine A_sqc ?_
  | refine A_sqb ?_
  | refine A_sql ?_
  | refine qvn ?_
  | refine qhw ?_
  | (refine A_t ?_ ?_; focus (simp -implicitDefEqProofs (disch:=omega) only [go_sem,Nat.reduceEqDiff,↓reduceIte,Bool.not_true,Bool.not_false,d_lt,qtD,d_le,qtE,b_t,b_f,n_t,n_f,g]; done))
  | (refine A_f ?_ ?_; focus (simp -implicitDefEqProofs (disch:=omega) only [go_sem,Nat.reduceEqDiff,↓reduceIte,Bool.not_true,Bool.not_false,d_lt,qtD,d_le,qtE,b_t,b_f,n_t,n_f,g]; done))
  | refine qoB ?_
  | refine qoD ?_
  | refine qvr ?_
  | refine q_n ?_
  | refine q_r ?_
  | refine q_e ?_
  | refine i_n ?_
  | refine i_r ?_
  | refine i_e ?_
  | refine i_o (by decide) ?_
  | (have t:True:=k.o; refine qrt ?_; simp -implicitDefEqProofs (maxSteps:=50000) (disch:=omega) only [go_sem,Nat.reduceEqDiff,Nat.reduceAdd,↓reduceIte,i64_in,Bool.not_true,Bool.not_false,List.length_range,Nat.zero_add,Int.reduceLT,Int.reduceEq,Int.natAbs_natCast,Bool.true_and,Bool.false_and,Bool.and_true,Bool.and_false,q52,q53,q57,q58,q54,q55,q1p,q1q,q1r,q1s,q1n,q1o,g]; done)
  | (refine qrt ?_; simp -implicitDefEqProofs (maxSteps:=50000) (disch:=omega) only [go_sem,Nat.reduceEqDiff,Nat.reduceAdd,↓reduceIte,i64_in,Bool.not_true,Bool.not_false,List.length_range,Nat.zero_add,Int.reduceLT,Int.reduceEq,Int.natAbs_natCast,Bool.true_and,Bool.false_and,Bool.and_true,Bool.and_false,q52,q53,q57,q58,q54,q55,q1p,q1q,q1r,q1s,q1n,q1o,g]; exact k.o)
  | (have t:True:=k.o; refine qrn ?_; simp -implicitDefEqProofs (maxSteps:=50000) (disch:=omega) only [go_sem,Nat.reduceEqDiff,Nat.reduceAdd,↓reduceIte,i64_in,Bool.not_true,Bool.not_false,List.length_range,Nat.zero_add,Int.reduceLT,Int.reduceEq,Int.natAbs_natCast,Bool.true_and,Bool.false_and,Bool.and_true,Bool.and_false,q52,q53,q57,q58,q54,q55,q1p,q1q,q1r,q1s,q1n,q1o,g]; done)
  | (refine qrn ?_; simp -implicitDefEqProofs (maxSteps:=50000) (disch:=omega) only [go_sem,Nat.reduceEqDiff,Nat.reduceAdd,↓reduceIte,i64_in,Bool.not_true,Bool.not_false,List.length_range,Nat.zero_add,Int.reduceLT,Int.reduceEq,Int.natAbs_natCast,Bool.true_and,Bool.false_and,Bool.and_true,Bool.and_false,q52,q53,q57,q58,q54,q55,q1p,q1q,q1r,q1s,q1n,q1o,g]; exact k.o))
 first | done | exact k.o):p:=e g ⟨k⟩
def wk {p q:Prop} (k:q) (e:Hid q->p:=by intro k; exact wk1 @Nat.zero_add k.o):p:=e ⟨k⟩
def fL (z:Int):Fam:=⟨λD v w=>∃ A n c,v=.slice A n c/\U32 w D A n c (lim z.natAbs),λk ⟨A,n,c,e,h⟩=>⟨A,n,c,e,h.kp k⟩,λk ⟨A,n,c,e,h⟩=>⟨A,n,c,e,h.sub k⟩⟩
def fitLz {z:Int}:∀ D v w,In (fL z) D v w->q1z none v:=λD v w h=>by
 obtain ⟨A,n,c,rfl,_⟩:=h;exact ⟨rfl,rfl,rfl⟩
def qsX {z:Int} {A:Prop}:q1K none (.fm (fL z)) A=A:=by simp only [q1K,q4D,qau]; exact propext ⟨λh=>h.2,λh=>⟨fitLz,h⟩⟩
abbrev bT (z:Int):PV:=.ag [bv (decide (z < 0)),.fm (fL z)]
abbrev dT (V:Int):PV:=.ag [bv false,bv (decide (od V < 0)),.fm (fL (od V)),iv (dyE V)]
section
variable {w:World} {D:Nat->Prop} {ρ:Nat->Option Nat} {h:Hp} {v:Value} {z V:Int}
def q6J:Rd w D (dT V) ρ h v/\q00 V ↔ In (fV V) D v w:=by
 unfold dT
 constructor
 .rintro ⟨hr,ho⟩;unfold Rd at hr;obtain ⟨vs,rfl,h1⟩:=hr;obtain ⟨a,b,c,d,rfl,h2,h3,h4,h5⟩:=rd_4 h1;rw [q9S h2,q9S h3,q9S h5];obtain ⟨A,n,c,rfl,h6⟩:=qf3 h4;exact ⟨_,A,n,c,rfl,⟨rfl,h6⟩,ho⟩
 .rintro ⟨s,A,n,c,rfl,⟨h1,h2⟩,ho⟩;subst h1;refine ⟨?_,ho⟩;unfold Rd;refine ⟨_,rfl,?_⟩;unfold RdL;refine ⟨_,_,rfl,q5R,?_⟩;unfold RdL;refine ⟨_,_,rfl,q5R,?_⟩;unfold RdL;refine ⟨_,_,rfl,qcH ⟨A,n,c,rfl,h2⟩,?_⟩;unfold RdL;exact ⟨_,_,rfl,q5R,by unfold RdL; rfl⟩
end
def qe4 {f:FuncId} {al al':List PV} {r:PV} {p:Prop} (hc:q0H Tryz.prog f=true) (h:∀ (D:Nat->Prop) (w:World) (vs:List Value),RdL w D al (λ_=>none) h0 vs->RdL w D al' (λ_=>none) h0 vs/\p) (ha:p->ACt f al' r):ACt f al r :=
 ⟨hc,λD w vs hT hF hR=>(ha (h D w vs hR).2).2 D w vs hT hF (h D w vs hR).1⟩
def qjd {f:FuncId} {al:List PV} {r r':PV} (h:∀ (D:Nat->Prop) (w:World) (v:Value),Rd w D r (λ_=>none) h0 v->Rd w D r' (λ_=>none) h0 v) (ha:ACt f al r):ACt f al r' :=
 ⟨ha.1,λD w vs hT hF hR=>(ha.2 D w vs hT hF hR).mono λx w' ⟨v,h1,h2,h3⟩=>⟨v,h1,h2,h _ _ _ h3⟩⟩
def quf {f:FuncId} {V:Int} {r:PV} (hc:q0H Tryz.prog f=true) (ha:q00 V->ACt f [dT V] r):ACt f [pV V] r:=qe4 hc (λD w vs hR=>by
 obtain ⟨a,rfl,h1⟩:=qkq hR;obtain ⟨h2,h3⟩:=q6J.2 (qf3 h1);exact ⟨RdL.one h2,h3⟩) ha
def ac_2 {f:FuncId} {V U:Int} {r:PV} (hc:q0H Tryz.prog f=true) (ha:q00 V/\q00 U->ACt f [dT V,dT U] r):ACt f [pV V,pV U] r:=qe4 hc (λD w vs hR=>by
 obtain ⟨a,b,rfl,h1,h2⟩:=rd_2 hR;obtain ⟨h3,h4⟩:=q6J.2 (qf3 h1);obtain ⟨h5,h6⟩:=q6J.2 (qf3 h2);refine ⟨?_,h4,h6⟩;unfold RdL;exact ⟨_,_,rfl,h3,RdL.one h5⟩) ha
def nfL {τ:Nat->Option Nat} {h h':Hp} {z:Int} (hz:z=0):LeV τ h h' q1R (.fm (fL z))=True:=eq_true (.nilfm λD w=>by subst hz; exact ⟨none,0,0,rfl,U32.nil⟩)
def negN {n:Nat}:decide ((n:Int) < 0)=false:=decide_eq_false Oq
def ldU_5 {a b c d e:PV}:ldU (some 5) (some 2) 1 (.ag [a,b,c,d,e])=some (.ag [b,c]):=by simp [ldU]
attribute [go_sem] qsX nfL negN ldU_5
end Go.Proofs.YtbjoghfmhgadkaaGreatDoor
namespace Go.E
open Go Go.RowKit
def LeO [NL] {J:Nat->Prop} {h:Hp} {a n:Nat} {T:TypeId} {xs:List PV} (hJ:∀ i,¬ J i) (hb:h a=some ⟨T,none,xs,false⟩) (hc:ClL xs):Le J (λ_=>.ow a none 0 n) h (λ_=>.ow 5000 none 0 n) (q0R h0 5000 ⟨T,none,xs,false⟩):=by
 refine q8y (λi=>if i=5000 then some a else none) (λi b' hb'=>?_) (λi j k b c hi hj ti tj=>?_) (λ_=>.ow (if_pos rfl) q0O) λi hi=>(hJ i hi).elim
 .by_cases hi:i=5000
  .subst hi;rw [q0O] at hb'; cases hb';unfold LeB;exact ⟨_,hb,rfl,rfl,⟨rfl,rfl⟩,q0J rfl hc⟩
  .rw [q0A hi] at hb'; cases hb'
 .split at ti
  .split at tj
   .rename_i e1 e2; rw [e1,e2]
   .cases tj
  .cases ti
def qqz {b:Bk}:∀ i b',q0R h0 5000 b i=some b'->win i:=λi b' hb=>by
 by_cases hi:i=5000
 .subst hi; exact ⟨ω,ω⟩
 .rw [q0A hi] at hb; cases hb
def Wn_1 {h:Hp} {b:Bk} (h5:h 5000=some b) (hn:∀ i,5000 < i->i < 1000000->h i=none):Wn h (q0R h0 5000 b):=λi ⟨h1,h2⟩=>by
 by_cases hi:i=5000
 .subst hi; rw [q0O]; exact h5
 .rw [q0A hi]; exact hn i ω h2
def qvf {p:Nat->Prop} {x:PV} (h:q25 x):IdP p x:=by
 cases x <;> simp only [q25] at h <;> unfold IdP <;> trivial
def qjo {p:Nat->Prop} {l:List PV} (h:ClL l):IdL p l:=IdL.of λx hx=>by
 have:=h x hx;cases x
 case ag l =>
  unfold IdP;exact IdL.of λy hy=>qvf (this y hy)
 all_goals exact qvf this
end Go.E
namespace Go.Proofs.YtbjoghfmhgadkaaGreatDoor
open Go Go.E Go.Sp
def qhy [NL] {f:FuncId} {al:List PV} {x y:PV} {ids:List Nat} {hout:Hp} (hM:ACm Tryz.prog q5Y f al h0 x hout) (hi:∀ i ∈ ids,∃ b,hout i=some b) (hc:∀ (D0:Nat→Prop) (w0:Base) (s:Nat→PV) (ρ:Nat→Option Nat) (e:Env) (w:World) (v:Value),Sat D0 w0 s hout ρ e w→Rd w (dm D0 ρ hout) x ρ hout v→Rd w (fun k=>dm D0 ρ hout k∨∃ i ∈ ids,ρ i=some k) y (fun _=>none) h0 v):ACt f al y:=by
 refine ⟨hM.ca,fun D w vs hT hF hR=>?_⟩;have hlen:=hR.len;have hdm:dm D (fun _=>none) h0=D:=by
  funext k
  exact propext ⟨fun h=>h.1,fun h=>⟨h,fun i b hi=>by cases hi⟩⟩
 have S:Sat D ⟨w,fun k=>k < w.heap.size,fun _ _ _=>False,fun _ _=>False,fun _ h=>h,fun _ _ h=>h.elim⟩ (enP al) h0 (fun _=>none) (q3Y vs) w:=by
  refine ⟨fun i j b c g hi=>(by cases hi),fun i b g hi=>(by cases hi),fun i b hi=>(by cases hi),fun t=>?_,Kp.refl _ _,hF,fun _ _ _ h=>h.elim,fun _ _ h=>h.elim⟩;rw [hdm];obtain ⟨h1,h2⟩:=RdL.iff.1 hR;unfold enP q3Y;rw [List.getD_eq_getElem?_getD,List.getD_eq_getElem?_getD];cases ht:al[t]? with
  | none=>simp only [Option.getD_none]; unfold Rd; trivial
  | some x =>
   have hlt:=(List.getElem?_eq_some_iff.1 ht).1;have hv:=List.getElem?_eq_getElem (l:=vs) (show t < vs.length by omega);rw [hv];exact h2 t x _ ht hv
 refine (hM.run D ⟨w,fun k=>k < w.heap.size,fun _ _ _=>False,fun _ _=>False,fun _ h=>h,fun _ _ h=>h.elim⟩ _ w vs (fun w' hx=>q9J _ _ (hx.mono fun k hk _=>hk) hT) (fun _ _ h=>h.elim) hF Oq S).mono fun x w' ⟨v,ρ',hx,S',hr⟩=>?_;refine ⟨v,hx,S'.ext.mono fun k hk _=>hk,?_⟩;exact (hc _ _ _ _ _ _ _ S' hr).sub (D':=D) fun k _ hq=>by
  rcases hq with hq | ⟨i,hj,hg⟩
  .exact hq.1
  .obtain ⟨b,hb'⟩:=hi i hj;exact (S'.own i b k hb' hg).1.2
def qoI [NL] {f:FuncId} {al:List PV} {x y:PV} {ids:List Nat} {hout:Hp} (hM:ACm Tryz.prog q5Y f al h0 x hout) (hc:q2P hout [x]=some ([y],ids)):ACt f al y :=
 qhy hM (q66 hc) λ_ _ _ _ _ _ _ S hr=>(RdL.iff.1 (qeF S hc (RdL.one hr))).2 0 _ _ rfl rfl
abbrev AO [NL] (f:FuncId) (al:List PV) (T:TypeId) (xs:List PV):Prop:=qeh f al h0 (.ow 5000 none 0 xs.length) (q0R h0 5000 ⟨T,none,xs,false⟩)
def retO (r:ResultVar) (T:TypeId) (xs:List PV):SQ:=λx s h=>(x=.ret\/x=.normal)/\∃ a,rsP Tryz.prog h s r=some (.ow a none 0 xs.length)/\h a=some ⟨T,none,xs,false⟩
def qq3 {T t a m:Nat} {xs:List PV} {s:Nat->PV} {h:Hp} (h1:s t=.ow a none 0 m) (h2:h a=some ⟨T,none,xs,false⟩) (hm:m=xs.length):retO (.tmp t) T xs .ret s h:=⟨.inl rfl,a,by rw [<- hm,<- h1]; rfl,h2⟩
def ao0 [NL] {f:FuncId} {fn:Func} {c:Code} {al:List PV} {n T:Nat} {xs:List PV} (hf:Tryz.prog.funcs[f]?=some fn) (hn:fn.ntmps=n) (r:ResultVar) (hx:ClL xs) (hw:AW Tryz.prog q5Y (λ_=>False) n c (retO r T xs) (enP al) h0)
  (hal:ClL al:=by simp [ClL,Cld,q25]) (hb:fn.body=some c:=by rfl) (hr:fn.results.toList=[r]:=by rfl) (hd:(decide (al.length<=n) && q5m n c)=true:=by kernel_rfl) (hc:q0H Tryz.prog f=true:=by kernel_rfl):AO f al T xs:=by
 have hJ:(λi=>(h0:Hp) i≠none)=λ_=>False:=funext λi=>eq_false λh=>h rfl;refine qen hc hf hb hn hd (λi b h=>by cases h) qqz (qjo hal) ?_;rw [hJ];refine q6p (λx s h q=>?_) hw;obtain ⟨q1,a,q2,q3⟩:=q;refine ⟨q1,by rw [hr]; simp,[.ow a none 0 xs.length],?_,?_⟩
 .rw [hr]; simp only [rsL,q2,xB,xI]
 .rw [hJ]; exact LeO (λ_ h=>h) q3 hx
def AO.ac [NL] {f:FuncId} {al:List PV} {T:TypeId} {xs:List PV} (h:AO f al T xs) (hx:ClL xs):ACt f al (.sl none xs):=qoI (ids:=[5000]) h (by
 have:clo (q0R h0 5000 ⟨T,none,xs,false⟩) (.ow 5000 none 0 xs.length)=some (.sl none xs,[5000]):=by
  simp only [clo,q32];rw [q0O,xB,if_pos ⟨rfl,rfl,hx⟩,yG,List.take_length]
 simp only [q2P,this,xB,xI,wC])
abbrev AI [NL] (f:FuncId) (al:List PV) (T:TypeId) (xs:List PV) (y:PV) (ys:List PV):Prop:=qeh f al (q0R h0 5000 ⟨T,none,xs,false⟩) y (q0R h0 5000 ⟨T,none,ys,false⟩)
def retI (rs:List ResultVar) (T:TypeId) (ys:List PV) (y:PV):SQ:=λx s h=>(x=.ret\/x=.normal)/\∃ l,rsL Tryz.prog h s rs=some l/\mkR l=y/\h 5000=some ⟨T,none,ys,false⟩
def qi4 {T t:Nat} {ys:List PV} {y:PV} {s:Nat->PV} {h:Hp} (h1:s t=y) (h2:h 5000=some ⟨T,none,ys,false⟩):retI [.tmp t] T ys y .ret s h:=⟨.inl rfl,[y],by rw [<- h1]; rfl,rfl,h2⟩
def IdL_5 {xs:List PV} (hx:ClL xs) {T:TypeId}:∀ i b,q0R h0 5000 ⟨T,none,xs,false⟩ i=some b->win i/\b=⟨T,none,xs,false⟩:=λi b hb=>by
 by_cases hi:i=5000
 .subst hi; rw [q0O] at hb; cases hb; exact ⟨⟨ω,ω⟩,rfl⟩
 .rw [q0A hi] at hb; cases hb
def LeI [NL] {J:Nat->Prop} {h:Hp} {T:TypeId} {ys:List PV} {y:PV} (hb:h 5000=some ⟨T,none,ys,false⟩) (hc:ClL ys) (hy:Cld y):Le J (λ_=>y) h (λ_=>y) (q0R h0 5000 ⟨T,none,ys,false⟩):=by
 refine q8y some (λi b' hb'=>?_) (λi j k b c hi hj ti tj=>by cases ti; cases tj; rfl) (λ_=>.cl hy) λi _ _ _=>rfl
 by_cases hi:i=5000
 .subst hi;rw [q0O] at hb'; cases hb';exact ⟨_,hb,rfl,rfl,⟨rfl,rfl⟩,q0J rfl hc⟩
 .rw [q0A hi] at hb'; cases hb'
def ai0 [NL] {f:FuncId} {fn:Func} {c:Code} {al:List PV} {n T:Nat} {xs ys:List PV} {y:PV} (hf:Tryz.prog.funcs[f]?=some fn) (hn:fn.ntmps=n) (rs:List ResultVar) (hx:ClL xs) (hx':ClL ys) (hl:xs.length<=ys.length) (hw:AW Tryz.prog q5Y (λi=>i=5000) n c (retI rs T ys y) (enP al) (q0R h0 5000 ⟨T,none,xs,false⟩))
  (hal:IdL win al:=by simp [IdL,IdP,win]) (hy:Cld y:=by simp [Cld,q25]) (hb:fn.body=some c:=by rfl) (hr:fn.results.toList=rs:=by rfl) (hl4:(decide (rs.length<=4))=true:=by rfl) (hd:(decide (al.length<=n) && q5m n c)=true:=by kernel_rfl) (hc:q0H Tryz.prog f=true:=by kernel_rfl):AI f al T xs y ys:=by
 have hJ:(λi=>(q0R h0 5000 ⟨T,none,xs,false⟩:Hp) i≠none)=λi=>i=5000:=funext λi=>propext ⟨λh=>by
  obtain ⟨b,hb⟩:=z7.1 h;exact Classical.byContradiction λhi=>(by rw [q0A hi] at hb; cases hb),λh=>by subst h; rw [q0O]; exact uM _⟩
 refine qen hc hf hb hn hd (λi b h=>?_) qqz hal ?_
 .obtain ⟨h1,rfl⟩:=IdL_5 hx i b h;have hi:i=5000:=Classical.byContradiction λhi=>by rw [q0A hi] at h; cases h
  subst hi;exact ⟨h1,rfl,qjo hx,_,q0O,rfl,hl⟩
 rw [hJ];refine q6p (λx s h q=>?_) hw;obtain ⟨q1,l,q2,q3,q4⟩:=q;refine ⟨q1,by rw [hr]; simpa using hl4,l,by rw [hr]; exact q2,?_⟩;rw [q3];exact LeI q4 hx' hy
end Go.Proofs.YtbjoghfmhgadkaaGreatDoor
namespace Go.E
section
@[reducible] def lNL:NL:=⟨λ_=>true,λ_ _=>rfl⟩
def pe_fu {s:Nat->PV} {f:FuncId}:pe s (.func f)=.vl (.func (.func f) #[] #[]):=rfl
attribute [go_sem] pe_fu
section
variable {P:Program} {Tb:World->Prop} {J:Nat->Prop} {n id:Nat} {Q Q':SQ} {s:Nat->PV} {h:Hp}
def qjs [NL] {ι:Type} {a b:Code} (I:ι->Prop) (xs:ι->List (Nat × PV)) (bs:ι->List (Nat × Bk)) (hb:∀ i,I i->AW P Tb J n b Q (stM (xs i) []) (hpM (bs i) []))
  (ha:∀ K:(Nat->PV)->Hp->Prop,(∀ i s h,I i->Le J s h (stM (xs i) []) (hpM (bs i) [])->K s h)->AW P Tb J n a (thA K Q') s h):AW P Tb J n a (thA (AW P Tb J n b Q) Q') s h:=ha _ λi s h hi hl=>q2k hl (hb i hi)
def A_jx [NL] {ι:Type} {a b:Code} (I:ι->Prop) (xs:ι->List (Nat × PV)) (bs:ι->List (Nat × Bk)) (hb:∀ i,I i->AW P Tb J n b Q (stM (xs i) []) (hpM (bs i) []))
  (ha:∀ K:(Nat->PV)->Hp->Prop,(∀ i s h,I i->Le J s h (stM (xs i) []) (hpM (bs i) [])->K s h)->AW P Tb J n a (inA id (thA K Q')) s h):AW P Tb J n a (inA id (thA (AW P Tb J n b Q) Q')) s h:=ha _ λi s h hi hl=>q2k hl (hb i hi)
end
end
end Go.E
namespace Go.Proofs.YtbjoghfmhgadkaaGreatDoor
open Go Go.E Go.Sp
section
attribute [local instance] lNL
abbrev wv (z:Int):PV:=.vl (.int .u32 z)
abbrev pW (l:List Nat):PV:=.sl none (l.map λz:Nat=>wv z)
def lK32:elK Tryz.prog 40=some (142,none,4):=κ
def lZ32:elZ Tryz.prog 40=some (142,none,4,wv 0):=κ
def lBB:alB Tryz.prog 42=some ⟨42,some 2,[.ag [bv false,q1R]],false⟩:=κ
def lfK {z:Int} {A:Prop}:q1K none (wv z) A=A:=by rw [qd9]; exact qt4 rfl
attribute [go_sem] lK32 lZ32 lBB lfK
section
variable {τ:Nat->Option Nat} {h h':Hp} {l m:List Nat} {x k n:Nat}
def inj_w:∀ a b:Nat,Value.int .u32 a=Value.int .u32 b->a=b:=λa b h=>by injection h with _ h; omega
def q9A:LeL τ h h' (l.map λz:Nat=>wv z) (m.map λz:Nat=>wv z)=(l=m):=q6k (f:=λz:Nat=>Value.int .u32 z) inj_w
def qvL:LeL τ h h' [] (m.map λz:Nat=>wv z)=([]=m):=q9A (l:=[])
def qvM:LeL τ h h' ((l.map λz:Nat=>wv z) ++ [wv x]) (m.map λz:Nat=>wv z)=(l ++ [x]=m):=by
 have:=q9A (τ:=τ) (h:=h) (h':=h') (l:=l ++ [x]) (m:=m)
 rwa [xK] at this
def qvJ:LeL τ h h' ((l.map λz:Nat=>wv z).set k (wv x)) (m.map λz:Nat=>wv z)=(l.set k x=m):=by
 have:=q9A (τ:=τ) (h:=h) (h':=h') (l:=l.set k x) (m:=m)
 rwa [xN] at this
def qnr {j y:Nat}:LeL τ h h' (((l.map λz:Nat=>wv z).set k (wv x)).set j (wv y)) (m.map λz:Nat=>wv z)=((l.set k x).set j y=m):=by
 have:=q9A (τ:=τ) (h:=h) (h':=h') (l:=(l.set k x).set j y) (m:=m)
 rwa [xN,xN] at this
def qvK:LeL τ h h' (List.replicate n (wv 0)) (m.map λz:Nat=>wv z)=(List.replicate n 0=m):=by
 have:=q9A (τ:=τ) (h:=h) (h':=h') (l:=List.replicate n 0) (m:=m)
 rwa [List.map_replicate] at this
def qnx:ClL []:=λ_ h=>by cases h
def clW:ClL (l.map λz:Nat=>wv z):=λx hx=>by
 obtain ⟨z,_,rfl⟩:=x8.1 hx; simp [Cld,q25]
def tka {α β:Type} {f:α->β} {l:List α} {x:β}:(l.map f ++ [x]).take (l.length+1)=l.map f ++ [x]:=yL σ
attribute [go_sem] tka q9A qvL qvM qvJ qnr qvK
end
abbrev yT (s:Bool) (z:Int):PV:=.ag [bv s,pW (lim z.natAbs)]
abbrev zT (z:Int):PV:=yT (decide (z < 0)) z
def q2w {n:Nat} (h:bl n<=20000000):(lim n).length<=1000000000:=by rw [q9d]; omega
def q6r {n:Nat} (h:bl n<=20000000):(lim n).length<=700000:=by rw [q9d]; omega
def q8Q {n:Nat}:sgn false n=n:=rfl
def q8O {a:Int}:sgn (!decide (a < 0)) a.natAbs = -a:=by by_cases h:a < 0 <;> simp [sgn,h] <;> omega
def qpt {l:List Nat} {m:Nat} (h:m<=l.length):slP (some 1) none (some (iv (m:Int))) (pW l)=some (pW (l.take m)):=by simp [slP,qbC,ksz,List.map_take]; omega
def slO_b {id m a b:Nat} (h1:a<=b) (h2:b<=m):slP (some 1) (some (iv (a:Int))) (some (iv (b:Int))) (.ow id none 0 m)=some (.ow id none a (b-a)):=by simp [slP,qbC,ksz]; omega
def slO_h {id m b:Nat} (h2:b<=m):slP (some 1) none (some (iv (b:Int))) (.ow id none 0 m)=some (.ow id none 0 b):=by simp [slP,qbC,ksz]; omega
def qqd {n k:Nat}:(List.replicate n 0).getD k 0=0:=by simp [zA,xZ]; split <;> rfl
def ltk {l:List Nat} {i:Nat} (h:i<=l.length):(l.take i).length=i:=by rw [yW]; omega
def q1J {l:List Nat} {i:Nat} (h:i < l.length):l[i]?=some (l.getD i 0):=by rw [yP h,q0d h]
end
section
attribute [local instance] lNL
def q1c {l:List Nat} (ha:q0Z l) (hb:l.length<=1000000000):ACt 143 [pW l] (pW (lim (val l))):=by
 refine ac0 Tryz.func143 Tryz.ntmps143 [.tmp 2] ?_;refine wk ?_;refine A_jx (λm=>m<=l.length/\l.take m=lim (val l)) (λm:Nat=>[(0,pW l),(3,iv m)]) (λ_=>[]) ?_ λK fin=>?_
 .rintro m ⟨hm,ht⟩;refine wk ?_;refine q0C (λi=>i<=m) [0,3] [] Lk Lk (λi:Nat=>[(5,iv i),(4,.ow 1001 none 0 i)]) (λi=>[(1001,⟨142,none,(l.take i).map λz:Nat=>wv z,false⟩)]) (λi=>m-i) 0 (zD _) ?_ ?_
  .refine LeM [(1001,none)] rfl rfl ?_;refine Zz ?_
   rfl
  .intro i hi;have e2:=ltk (l:=l) (i:=i) Oq;refine wk ?_
   by_cases hlt:i < m
   .have hlt':(i:Int) < m:=ω
    have e1:=q1J (l:=l) (i:=i) Oq;refine wk1 (x3 hlt' e1 e2) ?_;refine ⟨i+1,ω,ω,?_⟩;refine LeM [(1001,some 31)] rfl rfl ?_;refine Zz ?_;exact ⟨ω,(q2a _ _ Oq).symm⟩
   .have hlt':¬ (i:Int) < m:=ω
    obtain rfl:i=m:=ω
    refine wk1 hlt' ?_;rw [ht]
 refine q0C (λn=>n<=l.length/\∀ i,n<=i->i < l.length->l.getD i 0=0) [0] [] Lk Lk (λn:Nat=>[(3,iv n)]) (λ_=>[]) (λn=>n) l.length ⟨zL _,ω⟩ ?_ ?_
 .refine LeM [] rfl rfl ?_;exact Zy
 .rintro n ⟨hn,hz⟩;refine wk ?_
  rcases zO n with h0 | h0
  .subst h0;refine wk ?_;refine fin 0 _ _ ⟨ω,q6A ha hn hz (.inl rfl)⟩ ?_;refine LeM [] rfl rfl ?_;exact Zy
  .have e1:=q1J (l:=l) (i:=n-1) Oq;have e2:(n:Int)-1=(n-1:Nat):=ω
   have e3:(0:Int) < n:=ω
   by_cases hd:l.getD (n-1) 0=0
   .have q:((l.getD (n-1) 0:Nat):Int)=0:=ω
    refine wk1 (x4 e1 e2 e3 q) ?_;refine ⟨n-1,⟨ω,λi h1 h2=>?_⟩,ω,?_⟩
    .by_cases hi:i=n-1
     .rw [hi]; exact hd
     .exact hz i Oq h2
    .refine LeM [] rfl rfl ?_;exact Zy
   .have q:((l.getD (n-1) 0:Nat):Int)≠0:=ω
    refine wk1 (x4 e1 e2 e3 q) ?_;refine fin n _ _ ⟨hn,q6A ha hn hz (.inr hd)⟩ ?_;refine LeM [] rfl rfl ?_;exact Zy
def q1N {s:Bool} {l:List Nat} (ha:q0Z l) (hb:l.length<=1000000000):ACt 134 [bv s,pW l] (zT (sgn s (val l))):=by
 have C1:=@q1c;have hp:=@q0I (val l);rw [zT,yT,q8P,q0z];refine ac0 Tryz.func134 Tryz.ntmps134 [.cell 4 42] ?_;cases s
 .exact wk trivial
 .by_cases h0:val l=0
  .have q:¬ ((0:Int) < (lim (val l)).length):=ω
   have q2:decide (0 < val l)=false:=decide_eq_false Oq;rw [q2];exact wk1 q trivial
  .have q:(0:Int) < (lim (val l)).length:=ω
   have q2:decide (0 < val l)=true:=decide_eq_true Oq;rw [q2];exact wk1 q trivial
section
variable {a b:Int} {s t:Bool}
def q4c (hs:s=decide (a < 0)) (ha:bl a.natAbs<=20000000):ACt 139 [yT s a] (zT a):=by
 have C1:=@q1N s _ (q0B a.natAbs) (q2w ha);rw [q0D,hs,q02] at C1;subst hs;refine ac0 Tryz.func139 Tryz.ntmps139 [.cell 2 42] ?_;exact wk trivial
def q6M (ha:bl a.natAbs<=20000000):ACt 76 [yT s a] (zT a.natAbs):=by
 have C1:=@q1N false _ (q0B a.natAbs) (q2w ha);rw [q0D,q8Q] at C1;refine ac0 Tryz.func76 Tryz.ntmps76 [.cell 2 42] ?_;exact wk trivial
def q9U (hs:s=decide (a < 0)) (ha:bl a.natAbs<=20000000):ACt 105 [yT s a] (zT (-a)):=by
 have C1:=@q1N (!s) _ (q0B a.natAbs) (q2w ha);rw [q0D,hs,q8O] at C1;subst hs;refine ac0 Tryz.func105 Tryz.ntmps105 [.cell 2 42] ?_;exact wk trivial
def qcJ (hs:s=decide (a < 0)) (ha:bl a.natAbs<=20000000):ACt 106 [yT s a] (iv a.sign):=by
 have C1:=q4c hs ha;have hp:=@q0I a.natAbs;subst hs
 rcases xV a 0 with h | h | h
 .have q1:¬ (((lim a.natAbs).length:Int)=0):=ω
  have q2:decide (a < 0)=true:=decide_eq_true h;rw [zW h];rw [q2] at C1 ⊢;refine ac0 Tryz.func106 Tryz.ntmps106 [.tmp 2] ?_;exact wk1 q1 trivial
 .subst h;rw [show Int.sign 0=0 from rfl];refine ac0 Tryz.func106 Tryz.ntmps106 [.tmp 2] ?_;exact wk trivial
 .have q1:¬ (((lim a.natAbs).length:Int)=0):=ω
  have q2:decide (a < 0)=false:=decide_eq_false Oq;rw [zH h];rw [q2] at C1 ⊢;refine ac0 Tryz.func106 Tryz.ntmps106 [.tmp 2] ?_;exact wk1 q1 trivial
end
end
end Go.Proofs.YtbjoghfmhgadkaaGreatDoor
namespace Go.Sp
open Go.E
section
def dgs:Nat->Nat->List Nat
 | 0,_=>[]
 | n+1,X=>X % B :: dgs n (X / B)
def q1j:∀ {n X:Nat},(dgs n X).length=n
 | 0,_=>rfl
 | n+1,X=>by rw [dgs,xC,q1j]
def q2z:∀ {n X:Nat},q0Z (dgs n X)
 | 0,_=>q0Z.nil
 | n+1,X=>λd hd=>by
  rcases xW.1 hd with rfl | hd
  .exact zE _ q0q
  .exact q2z d hd
def q4y:∀ {o:List Nat} {n X:Nat},q0Z o->o.length=n->val o=X->o=dgs n X
 | [],n,X,_,hn,_=>by subst hn; rfl
 | d :: o,n,X,ha,hn,hv=>by
  subst hn; subst hv;have hd:=ha d z6;have e1:val (d :: o)=d+B*val o:=rfl;rw [xC,dgs,e1,xT,zC hd,wG _ _ q0q,xD hd,zN,<- q4y (λx hx=>ha x (yF _ hx)) rfl rfl]
def q2y : ∀ {n X : Nat}, X < B ^ n -> val (dgs n X) = X
  | 0, X, h => by have : X = 0 := by simpa using h
                  subst this; rfl
  | n + 1, X, h => by
    have h1 : X / B < B ^ n := by rw [yR q0q, <- x9]; exact h
    show X % B + B * val (dgs n (X / B)) = X
    rw [q2y h1, wD]
end
end Go.Sp
namespace Go.Proofs.YtbjoghfmhgadkaaGreatDoor
open Go Go.E Go.Sp
section
attribute [local instance] lNL
def qe3 {l l':List Nat} (ha:q0Z l) (ha':q0Z l') (hb:l.length<=1000000000) (hb':l'.length<=1000000000):ACt 144 [pW l,pW l'] (pW (dgs (max l.length l'.length+1) (val l+val l'))):=by
 refine ac0 Tryz.func144 Tryz.ntmps144 [.tmp 4] ?_;refine wk ?_;refine q0C (λp:Nat × Nat × List Nat=>p.1<=max l.length l'.length/\p.2.1<=1/\q0Z p.2.2/\p.2.2.length=p.1/\val p.2.2+B ^ p.1*p.2.1=val (l.take p.1)+val (l'.take p.1)) [0,1] [] Lk Lk (λp=>[(7,iv p.1),(6,uv p.2.1),(5,.ow 1001 none 0 p.1)]) (λp=>[(1001,⟨142,none,p.2.2.map λz:Nat=>wv z,false⟩)]) (λp=>max l.length l'.length-p.1) (0,0,[]) ⟨zD _,zD _,.nil,rfl,by simp [val]⟩ ?_ ?_
 .refine LeM [(1001,none)] rfl rfl ?_;refine Zz ?_
  rfl
 .rintro ⟨k,cr,o⟩ ⟨hk,hc,ho,hl,hv⟩;simp only at hk hc ho hl hv;refine wk ?_;have hd:=ha.get k;have hd':=ha'.get k;unfold B at hd hd'
  by_cases hlt:k < max l.length l'.length
  .have hlt':(k:Int) < max (l.length:Int) l'.length:=ω
   have key:∀ c,c=cr+l.getD k 0+l'.getD k 0->k+1<=max l.length l'.length/\c / 4294967296<=1/\q0Z (o ++ [c % 4294967296])/\(o ++ [c % 4294967296]).length=k+1/\val (o ++ [c % 4294967296])+B ^ (k+1)*(c / 4294967296)=val (l.take (k+1))+val (l'.take (k+1)):=λc e=>⟨ω,ω,ho.snoc (zE _ q0q),by simp [hl],by
    have:=q6e (x:=l.getD k 0) (y:=l'.getD k 0) hl hv;rw [<- e] at this;rw [vts,vts];unfold B at this ⊢;omega⟩
   rcases yE k l.length with h1 | h1 <;> rcases yE k l'.length with h2 | h2
   .have q1:(k:Int) < l.length:=ω
    have q2:(k:Int) < l'.length:=ω
    refine wk1 (x6 hlt' q1 q2 (q1J h1) (q1J h2) hl) ?_;refine ⟨(k+1,_,_),key (cr+l.getD k 0+l'.getD k 0) ω,by simp only; omega,?_⟩;refine LeM [(1001,some 43)] rfl rfl ?_;refine Zz ?_;omega
   .have q1:(k:Int) < l.length:=ω
    have q2:¬ (k:Int) < l'.length:=ω
    refine wk1 (x5 hlt' q1 q2 (q1J h1) hl) ?_;refine ⟨(k+1,_,_),key (cr+l.getD k 0) (by rw [q5V h2]; omega),by simp only; omega,?_⟩;refine LeM [(1001,some 43)] rfl rfl ?_;refine Zz ?_;omega
   .have q1:¬ (k:Int) < l.length:=ω
    have q2:(k:Int) < l'.length:=ω
    refine wk1 (x5 hlt' q1 q2 (q1J h2) hl) ?_;refine ⟨(k+1,_,_),key (cr+l'.getD k 0) (by rw [q5V h1]; omega),by simp only; omega,?_⟩;refine LeM [(1001,some 43)] rfl rfl ?_;refine Zz ?_;omega
   .omega
  .have hlt':¬ (k:Int) < max (l.length:Int) l'.length:=ω
   subst hl;refine wk1 hlt' ?_;rw [<- q4y (n:=max l.length l'.length+1) (ho.snoc (zE cr q0q)) (by simp; omega) (by rw [q2B,zC (by unfold B; omega),hv,q0G l _ ω,q0G l' _ ω]),xK]
   rfl
def q7D {l l':List Nat} (ha:q0Z l) (ha':q0Z l') (hb:l.length<=1000000000) (hn:l'.length<=l.length) (hle:val l'<=val l):ACt 146 [pW l,pW l'] (pW (dgs l.length (val l-val l'))):=by
 refine ac0 Tryz.func146 Tryz.ntmps146 [.tmp 4] ?_;refine wk ?_;refine q0C (λp:Nat × Nat × List Nat=>p.1<=l.length/\p.2.1<=1/\q0Z p.2.2/\p.2.2.length=p.1/\val p.2.2+val (l'.take p.1)=val (l.take p.1)+B ^ p.1*p.2.1) [0,1] [] Lk Lk (λp=>[(7,iv p.1),(6,uv p.2.1),(5,.ow 1001 none 0 p.1)]) (λp=>[(1001,⟨142,none,p.2.2.map λz:Nat=>wv z,false⟩)]) (λp=>l.length-p.1) (0,0,[]) ⟨zD _,zD _,.nil,rfl,by simp [val]⟩ ?_ ?_
 .refine LeM [(1001,none)] rfl rfl ?_;refine Zz ?_
  rfl
 .rintro ⟨k,br,o⟩ ⟨hk,hc,ho,hl,hv⟩;simp only at hk hc ho hl hv;refine wk ?_;have hd:=ha.get k;have hd':=ha'.get k;unfold B at hd hd'
  by_cases hlt:k < l.length
  .have hlt':(k:Int) < l.length:=ω
   have key:∀ t,t=((l.getD k 0+(18446744073709551616-br)) % 18446744073709551616+(18446744073709551616-l'.getD k 0)) % 18446744073709551616->k+1<=l.length/\t / 9223372036854775808<=1/\q0Z (o ++ [t % 4294967296])/\(o ++ [t % 4294967296]).length=k+1/\val (o ++ [t % 4294967296])+val (l'.take (k+1))=val (l.take (k+1))+B ^ (k+1)*(t / 9223372036854775808):=λt e=>by
    have:=q9M hl hv hc hd hd' e;exact ⟨ω,this.2,ho.snoc (zE _ q0q),by simp [hl],by rw [vts,vts]; exact this.1⟩
   rcases yE k l'.length with h2 | h2
   .have q2:(k:Int) < l'.length:=ω
    refine wk1 (x6 hlt' q2 (q1J hlt) (q1J h2) hl @q48) ?_;refine ⟨(k+1,_,_),key _ rfl,by simp only; omega,?_⟩;refine LeM [(1001,some 37)] rfl rfl ?_;refine Zz ?_;omega
   .have q2:¬ (k:Int) < l'.length:=ω
    refine wk1 (x5 hlt' q2 (q1J hlt) hl @q48) ?_;refine ⟨(k+1,_,_),key ((l.getD k 0+(18446744073709551616-br)) % 18446744073709551616) (by rw [q5V h2]; omega),by simp only; omega,?_⟩;refine LeM [(1001,some 37)] rfl rfl ?_;refine Zz ?_;omega
  .have hlt':¬ (k:Int) < l.length:=ω
   obtain rfl:k=l.length:=ω
   refine wk1 hlt' ?_;rw [q0G l _ ω,q0G l' _ ω] at hv;have hlt2:=q1a ho;rw [hl] at hlt2;have h0:br=0:=by
    rcases zO br with h0 | h0
    .exact h0
    .have:br=1:=ω
     rw [this] at hv; omega
   rw [h0] at hv;rw [<- q4y ho hl ω]
def qeB {x y:Nat} (hb:(lim x).length<=1000000000) (hb':(lim y).length<=1000000000):ACt 145 [pW (lim x),pW (lim y)] (iv (q2m x y)):=by
 refine ac0 Tryz.func145 Tryz.ntmps145 [.tmp 4] ?_
 by_cases hne:(lim x).length=(lim y).length
 .have q:((lim x).length:Int)=(lim y).length:=ω
  refine wk1 q ?_;refine q0C (λk=>k<=(lim x).length/\(lim x).drop k=(lim y).drop k) [0,1] [] Lk Lk (λk:Nat=>[(5,iv ((k:Int)-1))]) (λ_=>[]) (λk=>k) (lim x).length ⟨zL _,by rw [zI ω,zI ω]⟩ ?_ ?_
  .refine LeM [] rfl rfl ?_;refine Zz ?_;omega
  .rintro k ⟨hk,hdr⟩
   rcases zO k with h0 | h0
   .subst h0;have c:q2m x y=0:=by
     have:=congrArg val hdr;simp only [yG,q0D] at this;simp [q2m,this]
    have q1:¬ (0:Int)<=((0:Nat):Int)-1:=ω
    exact wk1 (x2 q1 c) trivial
   .have e2:(k:Int)-1=(k-1:Nat):=ω
    have e1:=q1J (l:=lim x) (i:=k-1) Oq;have e1':=q1J (l:=lim y) (i:=k-1) Oq;have tops:∀ {a b:Nat},(lim a).length=(lim b).length->k<=(lim a).length->(lim a).drop k=(lim b).drop k->(lim a).getD (k-1) 0 < (lim b).getD (k-1) 0->a < b:=λ{a b} h1 h2 h3 h4=>by
     have:=q3J (i:=k-1) (q0B a) h1 ω (by rw [show k-1+1=k by omega]; exact h3) h4;simpa [q0D] using this
    rcases Nat.lt_trichotomy ((lim x).getD (k-1) 0) ((lim y).getD (k-1) 0) with h | h | h
    .have c:q2m x y = -1:=by have:=tops hne hk hdr h; simp [q2m,this]
     have q2:(((lim x).getD (k-1) 0:Nat):Int) < (lim y).getD (k-1) 0:=ω
     exact wk1 (x5 e2 e1 e1' q2 c) trivial
    .refine wk1 (x4 e2 e1 e1' h) ?_;refine ⟨k-1,⟨ω,?_⟩,ω,?_⟩
     .rw [yN (l:=lim x) (i:=k-1) ω,yN (l:=lim y) (i:=k-1) ω,show k-1+1=k by omega,hdr];rw [q0d ω,q0d ω] at h;rw [h]
     .refine LeM [] rfl rfl ?_;exact Zy
    .have c:q2m x y=1:=by have:=tops hne.symm ω hdr.symm h; simp [q2m,show ¬ x < y by omega,show ¬ x=y by omega]
     have q2:¬ (((lim x).getD (k-1) 0:Nat):Int) < (lim y).getD (k-1) 0:=ω
     exact wk1 (x5 e2 e1 e1' q2 c) trivial
 .rcases yE (lim x).length (lim y).length with h | h
  .have q2:((lim x).length:Int) < (lim y).length:=ω
   have c:q2m x y = -1:=by have:=q1e h; simp [q2m,this]
   exact wk1 (x2 q2 c) trivial
  .have q2:¬ ((lim x).length:Int) < (lim y).length:=ω
   have c:q2m x y=1:=by have:=q1e (m:=y) (n:=x) ω; simp [q2m,show ¬ x < y by omega,show ¬ x=y by omega]
   exact wk1 (x2 q2 c) trivial
end
section
attribute [local instance] lNL
def qc8 {x y n n':Nat} (hn:(lim x).length=n) (hn':(lim y).length=n') (hb:n<=400000000) (hb':n'<=400000000):ACt 148 [pW (lim x),pW (lim y)] (pW (dgs (n+n') (x*y))):=by
 have hs:(n:Int)+(n':Int)=((n+n':Nat):Int):=ω
 refine ac0 Tryz.func148 Tryz.ntmps148 [.tmp 4] ?_;refine wk1 (x3 hn hn' hs) ?_;refine q0C (λp:Nat × List Nat=>p.1<=n/\q0Z p.2/\p.2.length=n+n'/\val p.2=val ((lim x).take p.1)*y/\∀ q,p.1+n'<=q->p.2.getD q 0=0) [0,1] [] Lk Lk (λp=>[(6,iv p.1),(5,.ow 1001 none 0 (n+n'))]) (λp=>[(1001,⟨142,none,p.2.map λz:Nat=>wv z,false⟩)]) (λp=>n-p.1) (0,List.replicate (n+n') 0) ⟨zD _,q0Z.replicate _,σ,by simp [val,q11],λq _=>by simp [zA,xZ]; split <;> rfl⟩ ?_ ?_
 .refine LeM [(1001,some 14)] rfl rfl ?_;refine Zz ?_
  rfl
 .rintro ⟨i,o⟩ ⟨hi,ho,hl,hv,hz⟩;simp only at hi ho hl hv hz;have hd1:=(q0B x).get i
  by_cases hlt:i < n
  .have hlt':(i:Int) < n:=ω
   refine wk1 (x2 hlt' hn) ?_;refine q0C (λp:Nat × Nat × List Nat=>p.1<=n'/\p.2.1 < 4294967296/\q0Z p.2.2/\p.2.2.length=n+n'/\val p.2.2+B ^ (i+p.1)*p.2.1=val ((lim x).take i)*y+B ^ i*((lim x).getD i 0*val ((lim y).take p.1))/\∀ q,i+n'<=q->p.2.2.getD q 0=0) [0,1,5,6] [] Lk Lk (λp=>[(8,iv p.1),(7,uv p.2.1)]) (λp=>[(1001,⟨142,none,p.2.2.map λz:Nat=>wv z,false⟩)]) (λp=>n'-p.1) (0,0,o) ⟨zD _,σ,ho,hl,by simp [hv,val],hz⟩ ?_ ?_
   .refine LeM [] rfl rfl ?_;refine Zz ?_
    rfl
   .clear hv hz hl ho;rintro ⟨j,cr,u⟩ ⟨hj,hc,ho,hl,hv,hz⟩;simp only at hj hc ho hl hv hz;have hd2:=(q0B y).get j
    by_cases hjt:j < n'
    .have hjt':(j:Int) < n':=ω
     obtain ⟨q,hq⟩:∃ q,q=i+j:=⟨_,rfl⟩;have e1:(i:Int)+(j:Int)=(q:Int):=ω
     have hd3:=ho.get q;have hbd:=q7Q hc hd1 hd2 hd3;unfold B at hd1 hd2 hd3;rw [<- hq] at hv;have key:∀ c,c=cr+(lim x).getD i 0*(lim y).getD j 0+u.getD q 0->j+1<=n'/\c / 4294967296 < 4294967296/\q0Z (u.set q (c % 4294967296))/\(u.set q (c % 4294967296)).length=n+n'/\val (u.set q (c % 4294967296))+B ^ (i+(j+1))*(c / 4294967296)=val ((lim x).take i)*y+B ^ i*((lim x).getD i 0*val ((lim y).take (j+1)))/\∀ r,i+n'<=r->(u.set q (c % 4294967296)).getD r 0=0:=λc e=>by
      have key:=q92 (x:=(lim x).getD i 0) (y:=(lim y).getD j 0) (by omega:q < u.length) hv;rw [<- e] at key;refine ⟨ω,ω,ho.set _ _ (zE _ q0q),by simp [hl],?_,λr hr=>by rw [q0j ω]; exact hz r hr⟩;rw [<- xG,<- hq,vts];refine key.trans ?_;rw [hq,zX,yA,yA,xG]
      congr 2
      rw [uH,y7 (B ^ j)]
     refine wk1 (x6 hjt' hn' e1 (q1J (l:=lim x) (i:=i) Oq) (q1J (l:=lim y) (i:=j) Oq) (x2 (q1J (l:=u) (i:=q) Oq) hl)) ?_;refine ⟨(j+1,_,_),key _ rfl,by simp only; omega,?_⟩;refine LeM [] rfl rfl ?_;refine Zz ?_;omega
    .have hjt':¬ (j:Int) < n':=ω
     obtain rfl:j=n':=ω
     have e1:(i:Int)+(j:Int)=((i+j:Nat):Int):=ω
     refine wk1 (x5 hjt' hn' e1 hl (zC hc)) ?_;refine ⟨(i+1,u.set (i+j) cr),⟨ω,ho.set _ _ hc,by simp [hl],?_,?_⟩,by simp only; omega,?_⟩
     rotate_left 2
     .refine LeM [] rfl rfl ?_;refine Zz ?_;omega
     .have h1:=q2p (o:=u) (p:=i+j) cr Oq;rw [hz (i+j) ω,yQ,yM] at h1;rw [q0G (lim y) _ ω,q0D] at hv;rw [h1,hv,vts,uI,uH]
     .intro r hr;rw [q0j ω]; exact hz r ω
  .have hlt':¬ (i:Int) < n:=ω
   obtain rfl:i=n:=ω
   rw [q0G _ _ ω,q0D] at hv;refine wk1 (x2 hlt' hn) ?_;rw [<- q4y ho hl hv]
def shl_m {x n m:Nat} (hn:(lim x).length=n) (hb:n<=1000000000) (hm:m<=1000000000):AO 185 [pW (lim x),iv m] 142 ((dgs (m / 32+n+1) (x*2 ^ m)).map λz:Nat=>wv z):=by
 obtain ⟨w,hw⟩:∃ w,m / 32=w:=⟨_,rfl⟩;obtain ⟨p,hp⟩:∃ p,m % 32=p:=⟨_,rfl⟩;have hp31:p < 32:=ω
 have hpp:2 ^ p<=2147483648:=zJ (n:=2) Oq (show p<=31 by omega);have hmm:32*w+p=m:=by rw [<- hw,<- hp]; exact yI m 32
 rw [hw];refine ao0 Tryz.func185 Tryz.ntmps185 (.tmp 4) clW ?_;refine wk1 hw ?_;refine q0C (λq:Nat × Nat × List Nat=>q.1<=n/\q.2.1 < 2 ^ p/\q0Z q.2.2/\q.2.2.length=w+q.1/\val q.2.2+B ^ (w+q.1)*q.2.1=2 ^ p*(B ^ w*val ((lim x).take q.1))) [0,1] [] Lk Lk (λq=>[(7,iv q.1),(6,uv q.2.1),(5,.ow 1001 none 0 (w+q.1))]) (λq=>[(1001,⟨142,none,q.2.2.map λz:Nat=>wv z,false⟩)]) (λq=>n-q.1) (0,0,List.replicate w 0) ⟨zD _,q0F p,q0Z.replicate _,σ,by simp [val,q11]⟩ ?_ ?_
 .refine LeM [(1001,some 10)] rfl rfl ?_;refine Zz ?_
  rfl
 .rintro ⟨k,cr,u⟩ ⟨hk,hc,ho,hl,hv⟩;simp only at hk hc ho hl hv;have hd:=(q0B x).get k;unfold B at hd
  by_cases hlt:k < n
  .have hlt':(k:Int) < n:=ω
   have hpr:(lim x).getD k 0*2 ^ p<=4294967295*2147483648:=yS Oq hpp;have e3:(lim x).getD k 0*2 ^ p % 18446744073709551616=(lim x).getD k 0*2 ^ p:=zC Oq;have e4:cr ||| (lim x).getD k 0*2 ^ p=cr+(lim x).getD k 0*2 ^ p:=q1t hc;have key:=qfU (x:=(lim x).getD k 0) hl hv;rw [show B ^ (w+k)=B ^ w*B ^ k from zX _ _ _,uH,<- yA,<- vts] at key;refine wk1 (x6 hlt' hn (q1J (l:=lim x) (i:=k) Oq) hp e3 (x2 e4 hl)) ?_;refine ⟨(k+1,_,_),⟨ω,?_,ho.snoc (zE (cr+(lim x).getD k 0*2 ^ p) q0q),by simp [hl]; omega,key⟩,by simp only; omega,?_⟩
   .show _ / 4294967296 < _
    rw [yR ω];have:((lim x).getD k 0+1)*2 ^ p<=4294967296*2 ^ p:=yH _ Oq;rw [uI,wH] at this;rw [zF _ 4294967296];omega
   .refine LeM [(1001,some 31)] rfl rfl ?_;refine Zz ?_;exact ⟨ω,rfl⟩
  .have hlt':¬ (k:Int) < n:=ω
   obtain rfl:k=n:=ω
   rw [q0G _ _ ω,q0D] at hv;refine wk1 (x3 hlt' hn hl) ?_;refine qq3 (a:=38) rfl ?_ (by simp [q1j,hl]);rw [<- q4y (o:=u ++ [cr % 4294967296]) (n:=w+k+1) (ho.snoc (zE cr q0q)) (by simp [hl]) (by rw [q2B,zC ω,hl,hv,qaW,<- yU,<- uH,<- zX,zF,show p+32*w=m by omega])];simp [q0R]
def qqJ {x n m:Nat} (hn:(lim x).length=n) (hb:n<=1000000000) (hm:m<=1000000000):ACt 185 [pW (lim x),iv m] (pW (dgs (m / 32+n+1) (x*2 ^ m))):=(shl_m hn hb hm).ac clW
def qiW {l:List Nat} {n m:Nat} (ha:q0Z l) (hn:l.length=n) (hb:n<=1000000000) (hm:m<=1000000000000):ACt 186 [pW l,iv m] (.tu [pW (dgs (n-m / 32) (val l / 2 ^ m)),bv (decide (val l % 2 ^ m≠0))]):=by
 obtain ⟨w,hw⟩:∃ w,m / 32=w:=⟨_,rfl⟩;obtain ⟨p,hp⟩:∃ p,m % 32=p:=⟨_,rfl⟩;have hp31:p < 32:=ω
 have hpp:2 ^ p<=2147483648:=zJ (n:=2) Oq (show p<=31 by omega);have hp0:=q0F p;have hmm:32*w+p=m:=by rw [<- hw,<- hp]; exact yI m 32
 have hlo:=q9a ha w p Oq;have hla:=q9b ha w p;rw [hmm] at hlo hla;rw [hw];refine ac0 Tryz.func186 Tryz.ntmps186 [.tmp 4,.tmp 5] ?_;refine wk ?_;refine A_jx (λ_:Unit=>True) (λ_=>[(0,pW l),(1,iv m),(6,bv (decide (val (l.take w)≠0)))]) (λ_=>[]) (λ_ _=>?_) λK fin=>?_
 .refine wk1 (x2 hw hp) ?_;refine q0C (λq:Nat × List Nat=>(q.1=0\/w+q.1<=n)/\q0Z q.2/\q.2.length=q.1/\val q.2+B ^ q.1*(val (l.drop (w+q.1)) / 2 ^ p)=val (l.drop w) / 2 ^ p) [0,1,9] [] Lk Lk (λq=>[(10,iv (w+q.1:Nat)),(8,.ow 1001 none 0 q.1),(6,bv (if q.1=0 then decide (val (l.take w)≠0) else decide (val l % 2 ^ m≠0)))]) (λq=>[(1001,⟨142,none,q.2.map λz:Nat=>wv z,false⟩)]) (λq=>n-(w+q.1)) (0,[]) ⟨.inl rfl,.nil,rfl,by simp [val]⟩ ?_ ?_
  .refine LeM [(1001,none)] rfl rfl ?_;exact Zy
  .rintro ⟨j,o⟩ ⟨hj,ho,hl,hv⟩;simp only at hj ho hl hv;obtain ⟨i,hi⟩:∃ i,i=w+j:=⟨_,rfl⟩;rw [<- hi] at hv hj;have hd:=ha.get i;have hd2:=ha.get (i+1);unfold B at hd hd2
   by_cases hlt:i < n
   .have hlt':(i:Int) < n:=ω
    have key:=q9P (y8 hp31) ha hl hv;have e1:=q1J (l:=l) (i:=i) Oq;refine wk1 (x4 hi.symm hlt' hn e1) ?_;refine qjs (λ_:Unit=>True) (λ_=>[(0,pW l),(1,iv m),(6,bv (if j=0 then decide (val (l.take w)≠0) else decide (val l % 2 ^ m≠0))),(8,.ow 1001 none 0 j),(9,iv p),(10,iv i),(11,uv (l.getD i 0+l.getD (i+1) 0*4294967296:Nat))]) (λ_=>[(1001,⟨142,none,o.map λz:Nat=>wv z,false⟩)]) (λ_ _=>?_) λK1 fin1=>?_
    .refine wk ?_;refine qjs (λ_:Unit=>True) (λ_=>[(0,pW l),(1,iv m),(6,bv (decide (val l % 2 ^ m≠0))),(8,.ow 1001 none 0 j),(9,iv p),(10,iv i),(11,uv (l.getD i 0+l.getD (i+1) 0*4294967296:Nat))]) (λ_=>[(1001,⟨142,none,o.map λz:Nat=>wv z,false⟩)]) (λ_ _=>?_) λK2 q5M=>?_
     .refine wk1 hl ?_;refine ⟨(j+1,_),⟨.inr ω,ho.snoc (zE ((l.getD i 0+l.getD (i+1) 0*4294967296) / 2 ^ p) q0q),by simp [hl],?_⟩,by simp only; omega,?_⟩
      .show _+B ^ (j+1)*(val (l.drop (w+(j+1))) / 2 ^ p)=_
       rw [show w+(j+1)=i+1 by omega];exact key
      .refine LeM [(1001,some 82)] rfl rfl ?_;refine Zz ?_;exact ⟨ω,rfl⟩
     by_cases hj0:j=0
     .subst hj0;obtain rfl:i=w:=hi;have q1:IntKind.u32.wrap (((2 ^ p:Nat):Int)-1)=((2 ^ p-1:Nat):Int):=qbo hp0 Oq;have q2:q0g .and .u32 ((l.getD i 0:Nat):Int) ((2 ^ p-1:Nat):Int)=((l.getD i 0 % 2 ^ p:Nat):Int):=by rw [qaR hd ω,xE]
      by_cases hz:l.getD i 0 % 2 ^ p=0
      .have q3:((l.getD i 0 % 2 ^ p:Nat):Int)=0:=ω
       refine wk1 (x6 hw e1 q1 q2 q3 hn) ?_;refine q5M () _ _ trivial ?_;refine LeM [] rfl rfl ?_;refine Zz ?_;refine decide_eq_decide.2 ?_;simp only [hz,and_true] at hlo;omega
      .have q3:((l.getD i 0 % 2 ^ p:Nat):Int)≠0:=ω
       refine wk1 (x6 hw e1 q1 q2 q3 hn) ?_;refine q5M () _ _ trivial ?_;refine LeM [] rfl rfl ?_;refine Zz ?_;exact (decide_eq_true (p:=¬ val l % 2 ^ m=0) λh0=>hz (hlo.1 h0).2).symm
     .have q3:(i:Int)≠w:=ω
      refine wk1 (x2 hw q3) ?_;refine q5M () _ _ trivial ?_;refine LeM [] rfl rfl ?_;refine Zz ?_;rw [if_neg hj0]
    by_cases hn1:i+1 < n
    .have q1:(i:Int)+1=(i+1:Nat):=rfl;have q2:((i+1:Nat):Int) < n:=ω
     have e6:l.getD (i+1) 0*4294967296 % 18446744073709551616=l.getD (i+1) 0*4294967296:=zC Oq;have e7:l.getD i 0 ||| l.getD (i+1) 0*4294967296=l.getD i 0+l.getD (i+1) 0*4294967296:=q1t (k:=32) hd;refine wk1 (x6 q1 q2 hn (q1J (l:=l) (i:=i+1) Oq) e6 e7) ?_;refine fin1 () _ _ trivial ?_;refine LeM [] rfl rfl ?_;exact Zy
    .have q1:(i:Int)+1=(i+1:Nat):=rfl;have q2:¬ ((i+1:Nat):Int) < n:=ω
     refine wk1 (x3 q1 q2 hn) ?_;refine fin1 () _ _ trivial ?_;refine LeM [] rfl rfl ?_;refine Zz ?_;rw [q5V (i:=i+1) ω]; omega
   .have hlt':¬ (i:Int) < n:=ω
    refine wk1 (x3 hi.symm hlt' hn) ?_;have hd0:val (l.drop i)=0:=by rw [zI ω]; rfl
    rw [hd0,Nat.zero_div,yQ,yM,q29 ha,uL,qaW,<- yU,<- zX,hmm] at hv;rw [<- q4y (n:=n-w) ho ω hv];refine ⟨rfl,?_⟩
    split
    .rw [hla ω,q0G l _ ω]
    .rfl
 refine q0C (λi=>i<=w/\i<=n) [0,1] [] Lk Lk (λi:Nat=>[(7,iv i),(6,bv (decide (val (l.take i)≠0)))]) (λ_=>[]) (λi=>n-i) 0 ⟨zD _,zD _⟩ ?_ ?_
 .refine LeM [] rfl rfl ?_;refine Zz ?_;exact ⟨rfl,rfl⟩
 .rintro i ⟨h1,h2⟩
  by_cases h3:i < w
  .have q1:(i:Int) < w:=ω
   by_cases h4:i < n
   .have q2:(i:Int) < n:=ω
    have hpB:=q3e i
    by_cases hz:val (l.take i)=0
    .have q3:decide (val (l.take i)≠0)=false:=by simp [hz]
     refine wk1 (x6 hw hn q1 q2 q3 (q1J (l:=l) (i:=i) Oq)) ?_;refine ⟨i+1,⟨ω,ω⟩,ω,?_⟩;refine LeM [] rfl rfl ?_;refine Zz ?_;rw [vts,hz,zN,bne0];refine ⟨ω,decide_eq_decide.2 ?_⟩;simp only [ne_eq,wE,not_or];omega
    .have q3:decide (val (l.take i)≠0)=true:=by simp [hz]
     refine wk1 (x5 hw hn q1 q2 q3) ?_;refine ⟨i+1,⟨ω,ω⟩,ω,?_⟩;refine LeM [] rfl rfl ?_;refine Zz ?_;rw [vts];exact ⟨ω,(decide_eq_true Oq).symm⟩
   .have q2:¬ (i:Int) < n:=ω
    refine wk1 (x4 hw hn q1 q2) ?_;refine fin () _ _ trivial ?_;refine LeM [] rfl rfl ?_;refine Zz ?_;rw [q0G l i ω,q0G l w ω]
  .have q1:¬ (i:Int) < w:=ω
   obtain rfl:i=w:=ω
   refine wk1 (x3 hw hn q1) ?_;refine fin () _ _ trivial ?_;refine LeM [] rfl rfl ?_;exact Zy
end
end Go.Proofs.YtbjoghfmhgadkaaGreatDoor
namespace Go.Sp
open Go.E
section
def bpw {x n:Nat} (h:(lim x).length<=n):x < B ^ n:=zK (q08 x) (zJ q0q h)
def qjc {x y n:Nat} (hx:x < B ^ n) (hy:y < B ^ n):x+y < B ^ (n+1):=by
 have:=q7z;have h2:B ^ n*2<=B ^ n*B:=yK _ q7z;rw [x9]; omega
end
end Go.Sp
namespace Go.Proofs.YtbjoghfmhgadkaaGreatDoor
open Go Go.E Go.Sp
section
attribute [local instance] lNL
section
variable {a b:Int} {s t:Bool}
def qeD {x y:Nat} (h:y<=x):(0:Int)<=q2m x y:=by unfold q2m; split <;> (try split) <;> omega
def qeC {x y:Nat} (h:¬ y<=x):¬ (0:Int)<=q2m x y:=by unfold q2m; split <;> (try split) <;> omega
def q6L (hs:s=decide (a < 0)) (ht:t=decide (b < 0)) (ha:bl a.natAbs<=20000000) (hb:bl b.natAbs<=20000000):ACt 75 [yT s a,yT t b] (zT (a+b)):=by
 have ma:=q6r ha;have mb:=q6r hb;have la:=q2w ha;have lb:=q2w hb;have T1:=q1c (q0B a.natAbs) la;have T2:=q1c (q0B b.natAbs) lb;rw [q0D] at T1 T2
 by_cases hst:s=t
 .have C1:=qe3 (q0B a.natAbs) (q0B b.natAbs) la lb;rw [q0D,q0D] at C1;have h1:a.natAbs+b.natAbs < B ^ (max (lim a.natAbs).length (lim b.natAbs).length+1):=qjc (bpw (Nat.le_max_left _ _)) (bpw (Nat.le_max_right _ _));have C2:=q1N (s:=s) (q2z (n:=max (lim a.natAbs).length (lim b.natAbs).length+1) (X:=a.natAbs+b.natAbs)) (by rw [q1j]; omega);rw [q2y h1,show sgn s (a.natAbs+b.natAbs)=a+b by
   rw [hs,ht,decide_eq_decide] at hst;rw [hs]
   by_cases h:a < 0
   .rw [decide_eq_true h]; simp only [sgn,if_true]; omega
   .rw [decide_eq_false h,q8Q]; omega] at C2
  subst hst;refine ac0 Tryz.func75 Tryz.ntmps75 [.cell 4 42] ?_;refine wk ?_;cases s
  .exact wk trivial
  .exact wk trivial
 .have C1:=qeB la lb;have hts:(s == t)=false:=by cases s <;> cases t <;> simp_all
  have key:∀ (u:Bool) (x y:Nat),y<=x->(lim x).length<=1000000000->sgn u (x-y)=a+b->ACt 134 [bv u,pW (dgs (lim x).length (x-y))] (zT (a+b)):=λu x y hle hl he=>by
   have C2:=q1N (s:=u) (q2z (n:=(lim x).length) (X:=x-y)) (by rw [q1j]; exact hl)
   rwa [q2y (zY (Nat.sub_le _ _) (q08 x)),he] at C2
  have hab:(s=true/\a < 0/\t=false/\¬ b < 0)\/(s=false/\¬ a < 0/\t=true/\b < 0):=by
   by_cases h1:a < 0 <;> by_cases h2:b < 0 <;> simp [h1,h2] at hs ht <;> subst hs <;> subst ht <;> simp_all
  by_cases hle:b.natAbs<=a.natAbs
  .have q:=qeD hle;have C3:=q7D (q0B a.natAbs) (q0B b.natAbs) la (q0i hle) (by rw [q0D,q0D]; exact hle);rw [q0D,q0D] at C3;have C4:=key s a.natAbs b.natAbs hle la (by rcases hab with ⟨h1,h2,_,h3⟩ | ⟨h1,h2,_,h3⟩ <;> rw [h1] <;> simp only [sgn,if_true,zV,if_false] <;> omega);clear hs ht;refine ac0 Tryz.func75 Tryz.ntmps75 [.cell 4 42] ?_;refine wk ?_
   rcases hab with ⟨rfl,_,rfl,_⟩ | ⟨rfl,_,rfl,_⟩
   .exact wk1 (x2 hts q) trivial
   .exact wk1 (x2 hts q) trivial
  .have q:=qeC hle;have C3:=q7D (q0B b.natAbs) (q0B a.natAbs) lb (q0i ω) (by rw [q0D,q0D]; omega);rw [q0D,q0D] at C3;have C4:=key t b.natAbs a.natAbs ω lb (by rcases hab with ⟨_,h2,h1,h3⟩ | ⟨_,h2,h1,h3⟩ <;> rw [h1] <;> simp only [sgn,if_true,zV,if_false] <;> omega);clear hs ht;refine ac0 Tryz.func75 Tryz.ntmps75 [.cell 4 42] ?_;refine wk ?_
   rcases hab with ⟨rfl,_,rfl,_⟩ | ⟨rfl,_,rfl,_⟩
   .exact wk1 (x2 hts q) trivial
   .exact wk1 (x2 hts q) trivial
def q9T (hs:s=decide (a < 0)) (ht:t=decide (b < 0)) (ha:bl a.natAbs<=20000000) (hb:bl b.natAbs<=20000000):ACt 147 [yT s a,yT t b] (zT (a-b)):=by
 have C1:=q9U ht hb;have C2:=q6L (b := -b) hs rfl ha (by rwa [Int.natAbs_neg]);rw [<- Int.sub_eq_add_neg] at C2;refine ac0 Tryz.func147 Tryz.ntmps147 [.cell 4 42] ?_;exact wk trivial
def qf6 (hs:s=decide (a < 0)) (ht:t=decide (b < 0)) (ha:bl a.natAbs<=20000000) (hb:bl b.natAbs<=20000000):ACt 80 [yT s a,yT t b] (zT (a*b)):=by
 have ma:=q6r ha;have mb:=q6r hb;have T1:=q1c (q0B a.natAbs) (q2w ha);have T2:=q1c (q0B b.natAbs) (q2w hb);rw [q0D] at T1 T2;have C1:=qc8 (x:=a.natAbs) (y:=b.natAbs) rfl rfl Oq Oq;have C2:=q1N (s:=s != t) (q2z (n:=(lim a.natAbs).length+(lim b.natAbs).length) (X:=a.natAbs*b.natAbs)) (by rw [q1j]; omega);rw [q2y (by rw [zX]; exact uK (q08 _) (q08 _)),hs,ht,<- qbx,q02,q02] at C2;subst hs ht;refine ac0 Tryz.func80 Tryz.ntmps80 [.cell 4 42] ?_;exact wk trivial
end
end
end Go.Proofs.YtbjoghfmhgadkaaGreatDoor
namespace Go.E
open Go Go.RowKit
def qbP (h:Hp) (id:Nat):Hp:=λi=>if i=id then none else (h i).bind λb=>if b.st then none else some b
mutual
def fzP (h:Hp) (id:Nat) (xs:List PV):PV->PV
 | .ow i k off n=>if i=id then .sl k ((xs.drop off).take n) else if (h i).isSome then .ow i k off n else .un
 | .pt i a b=>if (h i).isSome then .pt i a b else .un
 | .mp i=>if (h i).isSome then .mp i else .un
 | .ag l=>.ag (fzL h id xs l)
 | .tu l=>.tu (fzL h id xs l)
 | .un=>.un
 | .vl v=>.vl v
 | .fm G=>.fm G
 | .sl k l=>.sl k l
 | .qt k x=>.qt k x
def fzL (h:Hp) (id:Nat) (xs:List PV):List PV->List PV
 | []=>[]
 | x :: l=>fzP h id xs x :: fzL h id xs l
end
def fzS (h:Hp) (id:Nat) (xs:List PV) (s:Nat->PV):Nat->PV:=λt=>fzP h id xs (s t)
def ClH (h:Hp):Prop:=∀ i b,h i=some b->ClL b.xs
def ClH_0:ClH h0:=λ_ _ h=>by cases h
def ClH_u {h:Hp} {i:Nat} {b:Bk} (hb:ClL b.xs) (hh:ClH h):ClH (q0R h i b):=λj c hc=>by
 unfold q0R at hc
 split at hc
 .cases hc; exact hb
 .exact hh j c hc
def ClH_m {i:Nat} {b:Bk} {bs:List (Nat × Bk)} (hb:ClL b.xs) (hh:ClH (hpM bs [])):ClH (hpM ((i,b) :: bs) []):=λj c hc=>by
 unfold hpM at hc
 split at hc
 .cases hc; exact hb
 .exact hh j c hc
def ClH_v {i:Nat} {b:Bk} {kb:List (Nat × Option Bk)} (hb:ClL b.xs) (hh:ClH (hpM [] kb)):ClH (hpM [] ((i,some b) :: kb)):=λj c hc=>by
 unfold hpM hpV at hc
 split at hc
 .cases hc; exact hb
 .exact hh j c (by unfold hpM; exact hc)
def ClH_d {h:Hp} {id:Nat} (hh:ClH h):ClH (qbP h id):=λj c hc=>by
 unfold qbP at hc
 split at hc
 .cases hc
 .obtain ⟨b,hb,hc⟩:=uN.1 hc
  split at hc
  .cases hc
  .cases hc; exact hh j _ hb
def ClH_n:ClH (hpM [] []):=λ_ _ h=>by cases h
section
variable {w:World} {w0:Base} {D0:Nat->Prop} {ρ:Nat->Option Nat} {h h':Hp} {s:Nat->PV} {e:Env} {P:Program} {Tb:World->Prop} {J:Nat->Prop} {n:Nat} {Q:SQ} {id:Nat} {xs:List PV}
mutual
def qsJ [NL] (hdd:∀ k,k < w.heap.size->dm D0 ρ h k->dm D0 ρ h' k) (hs:∀ i b,h' i=some b->h i=some b) (hid:∀ k off n v,Rd w (dm D0 ρ h) (.ow id k off n) ρ h v->Rd w (dm D0 ρ h') (.sl k ((xs.drop off).take n)) ρ h' v):∀ (x:PV) (v:Value),Rd w (dm D0 ρ h) x ρ h v->Rd w (dm D0 ρ h') (fzP h' id xs x) ρ h' v
 | .ow i k off n,v,hr=>by
  unfold fzP
  split
  .rename_i hi; subst hi; exact hid k off n v hr
  .split
   .rename_i hi;obtain ⟨b',hb'⟩:=yX.1 hi;have h1:=hs i b' hb';unfold Rd at hr ⊢;obtain ⟨b,A,c,q1,q2⟩:=hr;rw [h1] at q1; cases q1;exact ⟨b',A,c,hb',q2⟩
   .unfold Rd; trivial
 | .pt i a b,v,hr=>by
  unfold fzP
  split
  .rename_i hi;obtain ⟨b',hb'⟩:=yX.1 hi;have h1:=hs i b' hb';unfold Rd at hr ⊢;obtain ⟨b,g,q1,q2⟩:=hr;rw [h1] at q1; cases q1;exact ⟨b',g,hb',q2⟩
  .unfold Rd; trivial
 | .mp i,v,hr=>by
  unfold fzP
  split
  .rename_i hi;obtain ⟨b',hb'⟩:=yX.1 hi;have h1:=hs i b' hb';unfold Rd at hr ⊢;obtain ⟨b,g,q1,q2⟩:=hr;rw [h1] at q1; cases q1;exact ⟨b',g,hb',q2⟩
  .unfold Rd; trivial
 | .ag l,v,hr=>by
  unfold fzP;unfold Rd at hr ⊢;obtain ⟨vs,h1,h2⟩:=hr;exact ⟨vs,h1,fz_rdL hdd hs hid l vs h2⟩
 | .tu l,v,hr=>by
  unfold fzP;unfold Rd at hr ⊢;obtain ⟨vs,h1,h2⟩:=hr;exact ⟨vs,h1,fz_rdL hdd hs hid l vs h2⟩
 | .un,v,hr=>by unfold fzP Rd; trivial
 | .vl x,v,hr=>by unfold fzP; unfold Rd at hr ⊢; exact hr
 | .fm G,v,hr=>by unfold fzP; exact ((q2J (x:=.fm G) trivial hr).sub λk hk hq=>hdd k hk hq).cl
 | .sl k l,v,hr=>by unfold fzP; exact ((q2J (x:=.sl k l) trivial hr).sub λk hk hq=>hdd k hk hq).cl
 | .qt k x,v,hr=>by unfold fzP; exact ((q2J (x:=.qt k x) trivial hr).sub λk hk hq=>hdd k hk hq).cl
def fz_rdL [NL] (hdd:∀ k,k < w.heap.size->dm D0 ρ h k->dm D0 ρ h' k) (hs:∀ i b,h' i=some b->h i=some b) (hid:∀ k off n v,Rd w (dm D0 ρ h) (.ow id k off n) ρ h v->Rd w (dm D0 ρ h') (.sl k ((xs.drop off).take n)) ρ h' v):∀ (l:List PV) (vs:List Value),RdL w (dm D0 ρ h) l ρ h vs->RdL w (dm D0 ρ h') (fzL h' id xs l) ρ h' vs
 | [],vs,hr=>by unfold fzL; unfold RdL at hr ⊢; exact hr
 | x :: l,vs,hr=>by
  unfold fzL;unfold RdL at hr ⊢;obtain ⟨y,ys,h1,h2,h3⟩:=hr;exact ⟨y,ys,h1,qsJ hdd hs hid x y h2,fz_rdL hdd hs hid l ys h3⟩
end
def qus [NL] {T:TypeId} {k:Kd} (hh:h id=some ⟨T,k,xs,false⟩) (hc:ClH h):Le J s h (fzS (qbP h id) id xs s) (qbP h id):=λD0 w0 ρ e w _ S=>by
 have hs:∀ i b,qbP h id i=some b->i≠id/\h i=some b/\b.st=false:=λi b hi=>by
  unfold qbP at hi
  split at hi
  .cases hi
  .obtain ⟨c,hc,hi⟩:=uN.1 hi
   split at hi
   .cases hi
   .cases hi; exact ⟨by assumption,hc,by simp_all⟩
 have hdd:∀ k,k < w.heap.size->dm D0 ρ h k->dm D0 ρ (qbP h id) k:=λk _ hq=>⟨hq.1,λi b hi=>hq.2 i b (hs i b hi).2.1⟩;refine ⟨ρ,λi j b c g hi hj hst ri rj=>?_,λi b g hi ri=>?_,λi b hi ri=>S.vir i b (hs i b hi).2.1 ri,λt=>?_,S.ext,S.fr,S.imp,S.pin⟩
 .exact S.inj i j b c g (hs i b hi).2.1 (hs j c hj).2.1 hst ri rj
 .obtain ⟨a1,⟨m1,m2,es,cl,ps,m3,m4,m5,m6⟩ | ⟨cs,c1,c2,c3⟩⟩:=S.own i b g (hs i b hi).2.1 ri
  .obtain ⟨q4,q5⟩:=RdL.iff.1 m5;exact ⟨a1,.inl ⟨m1,m2,es,cl,ps,m3,m4,RdL.iff.2 ⟨q4,λi' z v hz hv=>((q33 (hc i b (hs i b hi).2.1 z (yO hz)) (q5 i' z v hz hv)).sub λk hk hq=>hdd k hk hq).cl⟩,m6⟩⟩
  refine ⟨a1,.inr ⟨cs,c1,c2,λhst=>?_⟩⟩;obtain ⟨vs,v1,v2,v3⟩:=c3 hst;obtain ⟨q4,q5⟩:=RdL.iff.1 v2;exact ⟨vs,v1,RdL.iff.2 ⟨q4,λi' z v hz hv=>((q33 (hc i b (hs i b hi).2.1 z (yO hz)) (q5 i' z v hz hv)).sub λk hk hq=>hdd k hk hq).cl⟩,v3⟩
 .refine qsJ hdd (λi b hi=>(hs i b hi).2.1) (λk' off n v hr=>?_) (s t) (e t) (S.rd t);have hk:k'=k:=by
   unfold Rd at hr;obtain ⟨b,_,_,q1,q2,_⟩:=hr;rw [hh] at q1; cases q1; exact q2.symm
  subst hk;have hcl:q32 h (.ow id k' off n)=some (.sl k' ((xs.drop off).take n),[id]):=by
   unfold q32;simp only [hh,xB];rw [if_pos ⟨rfl,rfl,hc id _ hh⟩]
  refine ((qmm S hcl hr).sub λg hg hq=>?_).cl
  rcases hq with hq | ⟨i,hi,hr2⟩
  .exact hdd g hg hq
  .simp at hi;subst hi;refine ⟨(S.own i _ g hh hr2).1.2,λj c hj rj=>?_⟩;obtain ⟨j1,j2,j3⟩:=hs j c hj
   rcases S.inj i j _ c g hh j2 j3 hr2 rj with h | h
   .exact j1 h.symm
   .cases h
def q8v {ops:Array Oper} {K:Env->World->Prop}:∀ (k:Nat) (l:List Oper) (e:Env) (w:World),WL P ops (λe w=>WL P ops K (l.drop k) e w) (l.take k) e w->WL P ops K l e w
 | 0,_,_,_,h=>h
 | k+1,[],_,_,h=>h
 | k+1,o :: l,e,w,h=>q8x (λv w' h=>q8v k l _ _ h) h
def q9D [NL] {id:Nat} {l:List Oper} (k:Nat) (hw:∀ K:(Nat->PV)->Hp->Prop,(∀ s h,Q .normal s h->K s h)->AL P Tb l (λs1 h1 acc=>∃ s' h',Le J s1 h1 s' h'/\AL P Tb l (λs h _=>K s h) (l.drop k) s' h' acc) (l.take k) s h []):AW P Tb J n (.region id l.toArray false) Q s h:=λD0 w0 ρ e w hT hF S=>by
 have h1:=hw _ λ_ _ h=>h;refine q1E (q8v k _ _ _ ?_);refine qbO (K':=λe' w'=>WL P l.toArray (λe' w'=>∃ s' h' ρ',Sat D0 w0 s' h' ρ' e' w'/\Q .normal s' h') (l.drop k) e' w') hT.1 hF _ s h [] ρ e w (λs h acc ρ e w S hq=>?_) h1 S;obtain ⟨s',h',hl,hq⟩:=hq;obtain ⟨ρ',S'⟩:=hl D0 w0 ρ e w hT.2 S;exact qbO hT.1 hF _ s' h' acc ρ' e w (λs h _ ρ e w S hq=>⟨s,h,ρ,S,hq⟩) hq S'
def fzK (id:Nat) (s:Nat->PV) (h:Hp) (C:(Nat->PV)->Hp->Prop):Prop:=∃ T k xs,h id=some ⟨T,k,xs,false⟩/\ClH h/\C (fzS (qbP h id) id xs s) (qbP h id)
def q1g {C:(Nat->PV)->Hp->Prop} {T:TypeId} {k:Kd} (hC:C (fzS (qbP h id) id xs s) (qbP h id)) (hh:h id=some ⟨T,k,xs,false⟩:=by rfl) (hc:ClH h:=by repeat (first | exact ClH_0 | exact ClH_n | refine ClH_u ?_ ?_ | refine ClH_m ?_ ?_ | refine ClH_v ?_ ?_ | refine ClH_d ?_ | (focus (simp only [qvl,qaV,qvk,qvj,qnw,qjp,qjr,qjq,or_true,and_self]; done)) | (focus (simp [ClL,Cld,q25]; done)))):fzK id s h C:=⟨T,k,xs,hh,hc,hC⟩
def q4L [NL] {i:Nat} {l:List Oper} {b:Code} (k id:Nat) {l1 l2:List Oper} (hw:∀ K:(Nat->PV)->Hp->Prop,(∀ s h,AW P Tb J n b Q s h->K s h)->AL P Tb l (λs1 h1 acc=>fzK id s1 h1 λs' h'=>AL P Tb l (λs h _=>K s h) l2 s' h' acc) l1 s h [])
  (e1:l.take k=l1:=by simp only [xL,xQ]; rfl) (e2:l.drop k=l2:=by simp only [xM,yG]; rfl):AW P Tb J n (.seq (.region i l.toArray false) b) Q s h:=by
 subst e1 e2;refine q4I λK hK=>q9D k λK1 hK1=>?_;refine q5L (λs h acc hq=>?_) (hw K1 λs h hb=>hK1 s h (hK s h hb));obtain ⟨T,kd,xs,h1,h2,h3⟩:=hq;exact ⟨_,_,qus h1 h2,h3⟩
def qvq [NL] {i:Nat} {l:List Oper} (k id:Nat) {l1 l2:List Oper} (hw:∀ K:(Nat->PV)->Hp->Prop,(∀ s h,Q .normal s h->K s h)->AL P Tb l (λs1 h1 acc=>fzK id s1 h1 λs' h'=>AL P Tb l (λs h _=>K s h) l2 s' h' acc) l1 s h [])
  (e1:l.take k=l1:=by simp only [xL,xQ]; rfl) (e2:l.drop k=l2:=by simp only [xM,yG]; rfl):AW P Tb J n (.region i l.toArray false) Q s h:=by
 subst e1 e2;refine q9D k λK1 hK1=>?_;refine q5L (λs h acc hq=>?_) (hw K1 hK1);obtain ⟨T,kd,xs,h1,h2,h3⟩:=hq;exact ⟨_,_,qus h1 h2,h3⟩
end
section
variable {h:Hp} {id i a b n off:Nat} {k:Kd} {xs l:List PV} {x:PV} {v:Value} {G:Fam}
def fz_vl:fzP h id xs (.vl v)=.vl v:=by unfold fzP; rfl
def fz_un:fzP h id xs .un=.un:=by unfold fzP; rfl
def fz_fm:fzP h id xs (.fm G)=.fm G:=by unfold fzP; rfl
def fz_sl:fzP h id xs (.sl k l)=.sl k l:=by unfold fzP; rfl
def fz_qt:fzP h id xs (.qt k x)=.qt k x:=by unfold fzP; rfl
def fz_ow:fzP h id xs (.ow i k off n)=if i=id then .sl k ((xs.drop off).take n) else if (h i).isSome then .ow i k off n else .un:=by unfold fzP; rfl
def fz_pt:fzP h id xs (.pt i a b)=if (h i).isSome then .pt i a b else .un:=by unfold fzP; rfl
def fz_mp:fzP h id xs (.mp i)=if (h i).isSome then .mp i else .un:=by unfold fzP; rfl
def fz_ag:fzP h id xs (.ag l)=.ag (fzL h id xs l):=by unfold fzP; rfl
def fz_n:fzL h id xs []=[]:=by unfold fzL; rfl
def fz_c:fzL h id xs (x :: l)=fzP h id xs x :: fzL h id xs l:=by rw [fzL]
def qsK {s:Nat->PV} {t:Nat}:fzS h id xs s t=fzP h id xs (s t):=rfl
def qln:qbP h id i=if i=id then none else (h i).bind λb=>if b.st then none else some b:=rfl
attribute [go_sem] fz_vl fz_un fz_fm fz_sl fz_qt fz_ow fz_pt fz_mp fz_ag fz_n fz_c Option.isSome_some Option.isSome_none zV
attribute [go_sem ↓] qsK qln
end
end Go.E
namespace Go.Proofs.YtbjoghfmhgadkaaGreatDoor
open Go Go.E Go.Sp
section
attribute [local instance] lNL
def q4B {z:Int} (h1 : -9223372036854775808<=z) (h2:z<=9223372036854775807):ACt 70 [iv z] (zT z):=by
 have hv:val [z.natAbs % 4294967296,z.natAbs / 4294967296 % 4294967296]=z.natAbs:=by simp only [val,B]; omega
 have C1:=q1N (s:=decide (z < 0)) (l:=[z.natAbs % 4294967296,z.natAbs / 4294967296 % 4294967296]) (λd hd=>by simp at hd; unfold B; omega) σ;rw [hv,q02] at C1;refine ac0 Tryz.func70 Tryz.ntmps70 [.cell 2 42] ?_;refine wk ?_;refine qjs (λ_:Unit=>True) (λ_=>[(0,iv z),(2,.pt 2 0 0),(3,uv (z.natAbs:Nat))]) (λ_=>[(2,⟨42,some 2,[.ag [bv false,q1R]],false⟩)]) (λ_ _=>?_) λK fin=>?_
 .refine q4L 8 20 λK hK=>?_
  try refine Zz ?_
  refine q1g ?_
  try refine Zz ?_
  refine q0K C1 ?_
  try refine Zz ?_
  refine hK _ _ ?_;exact wk trivial
 by_cases hn:z < 0
 .have e1:IntKind.u64.wrap (IntKind.u64.wrap (0-(z+1))+1)=((z.natAbs:Nat):Int):=by rw [u64_in (n:=0-(z+1)) ω ω,u64_in ω ω]; omega
  refine wk1 hn ?_;refine fin () _ _ trivial ?_;refine LeM [] rfl rfl ?_;refine Zz ?_;exact e1
 .have e1:IntKind.u64.wrap z=((z.natAbs:Nat):Int):=by rw [u64_in ω ω]; omega
  refine wk1 hn ?_;refine fin () _ _ trivial ?_;refine LeM [] rfl rfl ?_;refine Zz ?_;exact e1
section
variable {a:Int} {s:Bool}
def qiY (k:Nat):shI a k=sgn (decide (a < 0)) (a.natAbs*2 ^ k):=by
 unfold shI;rw [if_pos ω,Int.toNat_natCast]
 by_cases h:a < 0
 .rw [decide_eq_true h]; simp only [sgn,if_true];rw [Int.natCast_mul,show ((a.natAbs:Nat):Int) = -a by omega,wI,Int.neg_neg,q0V]
 .rw [decide_eq_false h,q8Q,Int.natCast_mul,show ((a.natAbs:Nat):Int)=a by omega,q0V]
def qiZ (k:Nat):shI a (-(k:Int))=sgn (decide (a < 0)) (a.natAbs / 2 ^ k)-(if decide (a < 0)=true/\decide (a.natAbs % 2 ^ k≠0)=true then 1 else 0):=by
 unfold shI
 by_cases hk0:(0:Int) <= -(k:Int)
 .have:k=0:=ω
  subst this;simp [Nat.mod_one,q02]
 .rw [if_neg hk0,show (- -(k:Int)).toNat=k by omega]
  by_cases h:a < 0
  .have:=qki a.natAbs k;rw [show -((a.natAbs:Nat):Int)=a by omega] at this;rw [this,decide_eq_true h];simp [sgn]
  .rw [decide_eq_false h,q8Q];simp only [zV,false_and,if_false,wP,Int.natCast_ediv,q0V];rw [show ((a.natAbs:Nat):Int)=a by omega]
def q5d {m:Int} (hs:s=decide (a < 0)) (ha:bl a.natAbs<=20000000) (h1 : -1000000000<=m) (h2:m<=1000000000):ACt 107 [yT s a,iv m] (zT (shI a m)):=by
 have T1:=q4c hs ha;rw [zT,<- hs] at T1;have mb:=q6r ha;obtain ⟨n,hn⟩:∃ n,(lim a.natAbs).length=n:=⟨_,rfl⟩;have hlt:a.natAbs < B ^ n:=by rw [<- hn]; exact q08 _
 by_cases hm:0<=m
 .obtain ⟨k,rfl⟩:∃ k:Nat,m=k:=⟨m.toNat,ω⟩;have C1:=qqJ (m:=k) hn Oq Oq;have hq:k / 32*32+k % 32=k:=ω
  have C2:=q1N (s:=s) (q2z (n:=k / 32+n+1) (X:=a.natAbs*2 ^ k)) (by rw [q1j]; omega);rw [q2y (by
   rw [zF,Nat.add_right_comm,zX];refine uK ?_ hlt;rw [qaW,<- yU];exact xH Oq Oq),hs,<- qiY,<- hs] at C2
  have C3:=C1;refine ac0 Tryz.func107 Tryz.ntmps107 [.cell 4 42] ?_;exact wk1 hm trivial
 .obtain ⟨k,rfl⟩:∃ k:Nat,m = -(k:Int):=⟨(-m).toNat,ω⟩;have C1:=qiW (m:=k) (q0B a.natAbs) hn Oq Oq;have hlt2:a.natAbs / 2 ^ k < B ^ (n-k / 32):=by
   rw [yR (q0F k)];refine zK hlt ?_;rw [qaW,<- yU,<- yU,<- zX];exact zJ Oq Oq
  have C2:=q1N (s:=s) (q2z (n:=n-k / 32) (X:=a.natAbs / 2 ^ k)) (by rw [q1j]; omega);rw [q2y hlt2] at C2;rw [q0D] at C1;have C4:=q4B (z:=1) Oq Oq;have hbo:bl (sgn s (a.natAbs / 2 ^ k)).natAbs<=20000000:=by rw [q0z]; exact zU (q1T (yJ _ _)) ha
  have C5:=q9T (a:=sgn s (a.natAbs / 2 ^ k)) (b:=1) rfl rfl hbo (by show bl 1<=_; rw [show bl 1=1 from rfl]; omega);rw [qiZ,<- hs];have e1:(0:Int) - -(k:Int)=k:=ω
  cases hd:decide (a.natAbs % 2 ^ k≠0) <;> rw [hd] at C1 <;> clear hs <;> cases s <;> simp only [zV,false_and,and_false,and_self,if_false,if_true,wP]
  .refine ac0 Tryz.func107 Tryz.ntmps107 [.cell 4 42] ?_;exact wk1 (x2 hm e1) trivial
  .refine ac0 Tryz.func107 Tryz.ntmps107 [.cell 4 42] ?_;exact wk1 (x2 hm e1) trivial
  .refine ac0 Tryz.func107 Tryz.ntmps107 [.cell 4 42] ?_;exact wk1 (x2 hm e1) trivial
  .refine ac0 Tryz.func107 Tryz.ntmps107 [.cell 4 42] ?_;exact wk1 (x2 hm e1) trivial
end
end
section
attribute [local instance] lNL
def q9g {x:Nat} (hx:x < 4294967296):ACt 216 [wv x] (iv (bl x:Nat)):=ac_x κ λD w vs hT hF hR=>by
 obtain ⟨_,rfl,h⟩:=qkq hR;rw [q9S h];exact q9f hx
def qb7 {x:Nat} (h0:0 < x) (hx:x < 4294967296):ACt 215 [wv x] (iv (tz x:Nat)):=ac_x κ λD w vs hT hF hR=>by
 obtain ⟨_,rfl,h⟩:=qkq hR;rw [q9S h];exact qkN hT h0 hx
def qlX {x:Nat} (hx:x < 4294967296):ACt 294 [wv x] (iv (32-bl x:Nat)):=ac_x κ λD w vs hT hF hR=>by
 obtain ⟨_,rfl,h⟩:=qkq hR;rw [q9S h];exact lz_ok hx
end
section
attribute [local instance] lNL
section
variable {a:Int} {s:Bool}
def qcL {m:Nat} (ha:bl a.natAbs<=20000000) (hm:m<=1000000000000):ACt 255 [yT s a,iv m] (bv (decide (a.natAbs % 2 ^ m≠0))):=by
 have T1:=q1c (q0B a.natAbs) (q2w ha);have C1:=qiW (m:=m) (q0B a.natAbs) rfl (q2w ha) hm;rw [q0D] at T1 C1;refine ac0 Tryz.func255 Tryz.ntmps255 [.tmp 4] ?_;exact wk trivial
def q4e (ha:bl a.natAbs<=20000000):ACt 142 [yT s a] (iv (bl a.natAbs:Nat)):=by
 have T1:=q1c (q0B a.natAbs) (q2w ha);rw [q0D] at T1;have hp:=@q0I a.natAbs;have mb:=q6r ha;obtain ⟨n,hn⟩:∃ n,(lim a.natAbs).length=n:=⟨_,rfl⟩
 by_cases h0:a.natAbs=0
 .have q:((lim a.natAbs).length:Int)=0:=by rw [h0]; rfl
  have q2:((bl a.natAbs:Nat):Int)=0:=by rw [h0]; rfl
  refine ac0 Tryz.func142 Tryz.ntmps142 [.tmp 2] ?_;exact wk1 (x2 q q2) trivial
 .have hd:=(q0B a.natAbs).get (n-1);have e1:=q1J (l:=lim a.natAbs) (i:=n-1) Oq;have e2:(n:Int)-1=(n-1:Nat):=ω
  have q:(n:Int)≠0:=ω
  have hb:=q7s h0;have hb2:=q0M (n:=(lim a.natAbs).getD (n-1) 0) (k:=32) hd;have C1:=q9g (x:=(lim a.natAbs).getD (n-1) 0) hd;rw [hn] at hb;have e3:(32:Int)*((n-1:Nat):Int)=((32*(n-1):Nat):Int):=ω
  have e4:((32*(n-1):Nat):Int)+(bl ((lim a.natAbs).getD (n-1) 0):Nat)=(bl a.natAbs:Nat):=ω
  refine ac0 Tryz.func142 Tryz.ntmps142 [.tmp 2] ?_;exact wk1 (x6 hn q e1 e2 e3 e4) trivial
def qcI (ha:bl a.natAbs<=20000000):ACt 140 [yT s a] (iv (tz a.natAbs:Nat)):=by
 have T1:=q1c (q0B a.natAbs) (q2w ha);rw [q0D] at T1;have mb:=q6r ha;obtain ⟨n,hn⟩:∃ n,(lim a.natAbs).length=n:=⟨_,rfl⟩;refine ac0 Tryz.func140 Tryz.ntmps140 [.tmp 2] ?_;refine wk ?_;refine q0C (λk=>k<=n/\val ((lim a.natAbs).take k)=0) [3] [] Lk Lk (λk:Nat=>[(4,iv k)]) (λ_=>[]) (λk=>n-k) 0 ⟨zD _,rfl⟩ ?_ ?_
 .refine LeM [] rfl rfl ?_;refine Zz ?_
  rfl
 .rintro k ⟨hk,hv⟩
  by_cases hlt:k < n
  .have q1:(k:Int) < n:=ω
   have e1:=q1J (l:=lim a.natAbs) (i:=k) Oq;have hd:=(q0B a.natAbs).get k
   by_cases hz:(lim a.natAbs).getD k 0=0
   .have q2:(((lim a.natAbs).getD k 0:Nat):Int)=0:=ω
    refine wk1 (x4 hn q1 e1 q2) ?_;refine ⟨k+1,⟨ω,q3y.2 ⟨hv,hz⟩⟩,ω,?_⟩;refine LeM [] rfl rfl ?_;refine Zz ?_;omega
   .have q2:(((lim a.natAbs).getD k 0:Nat):Int)≠0:=ω
    have htv:=qiF (q0B a.natAbs) Oq hv hz;rw [q0D] at htv;have hlt32:=q5z hz hd;have C1:=qb7 (x:=(lim a.natAbs).getD k 0) Oq hd;have e3:(32:Int)*(k:Int)=((32*k:Nat):Int):=ω
    have e4:((32*k:Nat):Int)+(tz ((lim a.natAbs).getD k 0):Nat)=(tz a.natAbs:Nat):=ω
    exact wk1 (x6 hn q1 e1 q2 e3 e4) trivial
  .have q1:¬ (k:Int) < n:=ω
   rw [q0G _ _ ω,q0D] at hv;have q2:((tz a.natAbs:Nat):Int)=0:=by rw [hv]; rfl
   exact wk1 (x3 hn q1 q2) trivial
end
end
section
attribute [local instance] lNL
def q0T {l:List Nat} (ha:q0Z l) (hb:l.length<=1000000000):ACt 237 [pW l] (pW (lim (val l))):=by
 refine ac0 Tryz.func237 Tryz.ntmps237 [.tmp 2] ?_;refine wk ?_;refine A_jx (λm=>m<=l.length/\l.take m=lim (val l)) (λm:Nat=>[(0,pW l),(3,iv m)]) (λ_=>[]) ?_ λK fin=>?_
 .rintro m ⟨hm,ht⟩;have es:=qpt hm;rw [ht] at es;exact wk1 es trivial
 refine q0C (λn=>n<=l.length/\∀ i,n<=i->i < l.length->l.getD i 0=0) [0] [] Lk Lk (λn:Nat=>[(3,iv n)]) (λ_=>[]) (λn=>n) l.length ⟨zL _,ω⟩ ?_ ?_
 .refine LeM [] rfl rfl ?_;exact Zy
 .rintro n ⟨hn,hz⟩;refine wk ?_
  rcases zO n with h0 | h0
  .subst h0;refine wk ?_;refine fin 0 _ _ ⟨ω,q6A ha hn hz (.inl rfl)⟩ ?_;refine LeM [] rfl rfl ?_;exact Zy
  .have e1:=q1J (l:=l) (i:=n-1) Oq;have e2:(n:Int)-1=(n-1:Nat):=ω
   have e3:(0:Int) < n:=ω
   by_cases hd:l.getD (n-1) 0=0
   .have q:((l.getD (n-1) 0:Nat):Int)=0:=ω
    refine wk1 (x4 e1 e2 e3 q) ?_;refine ⟨n-1,⟨ω,λi h1 h2=>?_⟩,ω,?_⟩
    .by_cases hi:i=n-1
     .rw [hi]; exact hd
     .exact hz i Oq h2
    .refine LeM [] rfl rfl ?_;exact Zy
   .have q:((l.getD (n-1) 0:Nat):Int)≠0:=ω
    refine wk1 (x4 e1 e2 e3 q) ?_;refine fin n _ _ ⟨hn,q6A ha hn hz (.inr hd)⟩ ?_;refine LeM [] rfl rfl ?_;exact Zy
def q1h {s:Bool} {l:List Nat} (ha:q0Z l) (hb:l.length<=1000000000):ACt 212 [bv s,pW l] (zT (sgn s (val l))):=by
 have C1:=@q0T;have hp:=@q0I (val l);rw [zT,yT,q8P,q0z]
 by_cases h0:val l=0
 .have q:((lim (val l)).length:Int)=0:=ω
  rw [show decide (0 < val l)=false from decide_eq_false ω,zR];have e:lim (val l)=[]:=by rw [h0]; rfl
  refine ac0 Tryz.func212 Tryz.ntmps212 [.cell 4 42] ?_;exact wk1 (x2 q e) trivial
 .have q:¬ ((lim (val l)).length:Int)=0:=ω
  rw [show decide (0 < val l)=true from decide_eq_true ω,uF];refine ac0 Tryz.func212 Tryz.ntmps212 [.cell 4 42] ?_;exact wk1 q trivial
def q31 {l:List Nat} (hb:l.length<=1000000000):ACt 235 [pW l] (pW l):=by
 have hu:=bn_n (P:=Tryz.prog) (k:=none) (l:=l.map λz:Nat=>wv z) (t:=40) (E:=142) (c:=0) (d:=0) κ (by decide);refine ac0 Tryz.func235 Tryz.ntmps235 [.tmp 2] ?_;refine wk1 hu ?_;refine A_u rfl (λh=>?_) ?_
 .have e:l=[]:=List.eq_nil_of_length_eq_zero (by simpa using h);exact wk1 e trivial
 .exact wk trivial
def cpI (a b:Int):Int:=if a < b then -1 else if a=b then 0 else 1
def qeE {a b:Int}:ACt 181 [iv a,iv b] (iv (cpI a b)):=by
 have C1:∀ x:Int,ACt 229 [iv x] (bv false):=λx=>by
  have q:(x != x)=false:=σ
  refine ac0 Tryz.func229 Tryz.ntmps229 [.tmp 2] ?_;exact wk1 q trivial
 refine ac0 Tryz.func181 Tryz.ntmps181 [.tmp 4] ?_
 by_cases h1:a < b
 .have c:cpI a b = -1:=if_pos h1;exact wk1 c trivial
 .by_cases h2:b < a
  .have c:cpI a b=1:=by unfold cpI; rw [if_neg h1,if_neg ω]
   exact wk1 c trivial
  .have c:cpI a b=0:=by unfold cpI; rw [if_neg h1,if_pos ω]
   exact wk1 c trivial
def qmc {a b:Nat}:ACt 272 [wv a,wv b] (iv (cpI a b)):=by
 have C1:∀ x:Nat,ACt 289 [wv x] (bv false):=λx=>by
  have q:((x:Int) != x)=false:=σ
  refine ac0 Tryz.func289 Tryz.ntmps289 [.tmp 2] ?_;exact wk1 q trivial
 refine ac0 Tryz.func272 Tryz.ntmps272 [.tmp 4] ?_
 by_cases h1:(a:Int) < b
 .have c:cpI a b = -1:=if_pos h1;exact wk1 c trivial
 .by_cases h2:(b:Int) < a
  .have c:cpI a b=1:=by unfold cpI; rw [if_neg h1,if_neg ω]
   exact wk1 c trivial
  .have c:cpI a b=0:=by unfold cpI; rw [if_neg h1,if_pos ω]
   exact wk1 c trivial
def q3s {x y:Nat} (hb:(lim x).length<=1000000000) (hb':(lim y).length<=1000000000):ACt 236 [pW (lim x),pW (lim y)] (iv (q2m x y)):=by
 have C1:=@qeE;have C2:=@qmc;refine ac0 Tryz.func236 Tryz.ntmps236 [.tmp 4] ?_
 by_cases hne:(lim x).length=(lim y).length
 .have q:((lim x).length:Int)=(lim y).length:=ω
  refine wk1 q ?_;refine q0C (λk=>k<=(lim x).length/\(lim x).drop k=(lim y).drop k) [0,1] [] Lk Lk (λk:Nat=>[(5,iv ((k:Int)-1))]) (λ_=>[]) (λk=>k) (lim x).length ⟨zL _,by rw [zI ω,zI ω]⟩ ?_ ?_
  .refine LeM [] rfl rfl ?_;refine Zz ?_;omega
  .rintro k ⟨hk,hdr⟩
   rcases zO k with h0 | h0
   .subst h0;have c:q2m x y=0:=by
     have:=congrArg val hdr;simp only [yG,q0D] at this;simp [q2m,this]
    have q1:¬ (0:Int)<=((0:Nat):Int)-1:=ω
    exact wk1 (x2 q1 c) trivial
   .have e2:(k:Int)-1=(k-1:Nat):=ω
    have e1:=q1J (l:=lim x) (i:=k-1) Oq;have e1':=q1J (l:=lim y) (i:=k-1) Oq;have tops:∀ {a b:Nat},(lim a).length=(lim b).length->k<=(lim a).length->(lim a).drop k=(lim b).drop k->(lim a).getD (k-1) 0 < (lim b).getD (k-1) 0->a < b:=λ{a b} h1 h2 h3 h4=>by
     have:=q3J (i:=k-1) (q0B a) h1 ω (by rw [show k-1+1=k by omega]; exact h3) h4;simpa [q0D] using this
    by_cases h:(lim x).getD (k-1) 0=(lim y).getD (k-1) 0
    .refine wk1 (x4 e2 e1 e1' h) ?_;refine ⟨k-1,⟨ω,?_⟩,ω,?_⟩
     .rw [yN (l:=lim x) (i:=k-1) ω,yN (l:=lim y) (i:=k-1) ω,show k-1+1=k by omega,hdr];rw [q0d ω,q0d ω] at h;rw [h]
     .refine LeM [] rfl rfl ?_;exact Zy
    .have c:cpI ((lim x).getD (k-1) 0:Nat) ((lim y).getD (k-1) 0:Nat)=q2m x y:=by
      unfold cpI q2m
      rcases Nat.lt_or_gt_of_ne h with h | h
      .have:=tops hne hk hdr h;rw [if_pos ω,if_pos this]
      .have:=tops hne.symm Oq hdr.symm h;rw [if_neg ω,if_neg ω,if_neg ω,if_neg ω]
     exact wk1 (x4 e2 e1 e1' c) trivial
 .have c:cpI ((lim x).length:Nat) ((lim y).length:Nat)=q2m x y:=by
   unfold cpI q2m
   rcases Nat.lt_or_gt_of_ne hne with h | h
   .have:=q1e h;rw [if_pos ω,if_pos this]
   .have:=q1e h;rw [if_neg ω,if_neg ω,if_neg ω,if_neg ω]
  have q2:((lim x).length:Int)≠(lim y).length:=ω
  exact wk1 (x2 q2 c) trivial
section
variable {a b:Int} {s t:Bool}
def qdF (hs:s=decide (a < 0)) (ha:bl a.natAbs<=20000000):ACt 231 [yT s a] (zT a):=by
 have C1:=@q1h s _ (q0B a.natAbs) (q2w ha);have C2:=q31 (l:=lim a.natAbs) (q2w ha);rw [q0D,hs,q02] at C1;subst hs;refine ac0 Tryz.func231 Tryz.ntmps231 [.cell 2 42] ?_;exact wk trivial
def qgM (ha:bl a.natAbs<=20000000):ACt 191 [yT s a] (zT a.natAbs):=by
 have C1:=@q1h false _ (q0B a.natAbs) (q2w ha);have C2:=q31 (l:=lim a.natAbs) (q2w ha);rw [q0D,q8Q] at C1;refine ac0 Tryz.func191 Tryz.ntmps191 [.cell 2 42] ?_;exact wk trivial
def qgH (hs:s=decide (a < 0)) (ha:bl a.natAbs<=20000000):ACt 194 [yT s a] (zT (-a)):=by
 have C1:=@q1h (!s) _ (q0B a.natAbs) (q2w ha);have C2:=q31 (l:=lim a.natAbs) (q2w ha);rw [q0D,hs,q8O] at C1;subst hs;refine ac0 Tryz.func194 Tryz.ntmps194 [.cell 2 42] ?_;exact wk trivial
def q4r (hs:s=decide (a < 0)) (ha:bl a.natAbs<=20000000):ACt 222 [yT s a] (iv a.sign):=by
 have C1:=q0T (q0B a.natAbs) (q2w ha);rw [q0D] at C1;have hp:=@q0I a.natAbs
 rcases xV a 0 with h | h | h
 .have q1:¬ (((lim a.natAbs).length:Int)=0):=ω
  rw [decide_eq_true h] at hs;rw [zW h];subst hs;refine ac0 Tryz.func222 Tryz.ntmps222 [.tmp 2] ?_;exact wk1 q1 trivial
 .have q1:(((lim a.natAbs).length:Int)=0):=by rw [h]; rfl
  rw [show a.sign=0 by rw [h]; rfl];refine ac0 Tryz.func222 Tryz.ntmps222 [.tmp 2] ?_;exact wk1 q1 trivial
 .have q1:¬ (((lim a.natAbs).length:Int)=0):=ω
  rw [decide_eq_false ω] at hs;rw [zH h];subst hs;refine ac0 Tryz.func222 Tryz.ntmps222 [.tmp 2] ?_;exact wk1 q1 trivial
end
end
section
attribute [local instance] lNL
def q8U {l l':List Nat} (ha:q0Z l) (ha':q0Z l') (hb:l.length<=100000000) (hb':l'.length<=100000000):ACt 241 [pW l,pW l'] (pW (lim (val l+val l'))):=by
 refine ac0 Tryz.func241 Tryz.ntmps241 [.tmp 4] ?_;refine wk ?_;refine qjs (λp:List Nat × List Nat=>q0Z p.1/\q0Z p.2/\p.1.length<=100000000/\p.2.length<=p.1.length/\val p.1+val p.2=val l+val l') (λp=>[(0,pW p.1),(1,pW p.2)]) (λ_=>[]) ?_ λK fin=>?_
 .clear ha ha' hb hb';rintro ⟨u,v⟩ ⟨hu,hv,hb,hvu,hs⟩;simp only at hu hv hb hvu hs;obtain ⟨n,hn⟩:∃ n,u.length=n:=⟨_,rfl⟩;have q0:(n:Int)+1=((n+1:Nat):Int):=rfl;refine wk1 (x3 hn q0 (@List.replicate_zero PV (wv 0))) ?_;refine q0C (λp:Nat × Nat × List Nat=>p.1<=n/\p.2.1<=1/\q0Z p.2.2/\p.2.2.length=p.1/\val p.2.2+B ^ p.1*p.2.1=val (u.take p.1)+val (v.take p.1)) [1,21,22] [] Lk Lk (λp=>[(23,iv p.1),(6,uv p.2.1),(5,.ow 1001 none 0 p.1)]) (λp=>[(1001,⟨142,none,p.2.2.map λz:Nat=>wv z,false⟩)]) (λp=>n-p.1) (0,0,[]) ⟨zD _,zD _,.nil,rfl,by simp [val]⟩ ?_ ?_
  .refine LeM [(1001,some 20)] rfl rfl ?_;refine Zz ?_;exact ⟨rfl,q0J rfl qnx⟩
  .rintro ⟨k,cr,o⟩ ⟨hk,hc,ho,hl,hw⟩;simp only at hk hc ho hl hw;have hd:=hu.get k;have hd':=hv.get k;unfold B at hd hd'
   by_cases hlt:k < n
   .have hlt':(k:Int) < n:=ω
    have key:∀ c,c=u.getD k 0+cr+v.getD k 0->k+1<=n/\c / 4294967296<=1/\q0Z (o ++ [c % 4294967296])/\(o ++ [c % 4294967296]).length=k+1/\val (o ++ [c % 4294967296])+B ^ (k+1)*(c / 4294967296)=val (u.take (k+1))+val (v.take (k+1)):=λc e=>⟨ω,ω,ho.snoc (zE _ q0q),by simp [hl],by
     have:=q6e (x:=u.getD k 0) (y:=v.getD k 0) hl hw;rw [show cr+u.getD k 0+v.getD k 0=c by omega] at this;rw [vts,vts];unfold B at this ⊢;omega⟩
    rcases yE k v.length with h2 | h2
    .have q2:(k:Int) < v.length:=ω
     have ap:=q1U (a:=u.getD k 0+cr+v.getD k 0) Oq;refine wk1 (x6 hlt' q2 (q1J (l:=u) (i:=k) Oq) (q1J h2) hl ap) ?_;refine ⟨(k+1,_,_),key _ rfl,by simp only; omega,?_⟩;refine LeM [(1001,some 48)] rfl rfl ?_;refine Zz ?_;exact ⟨ω,by rw [yB]⟩
    .have q2:¬ (k:Int) < v.length:=ω
     have ap:=q1U (a:=u.getD k 0+cr) Oq;refine wk1 (x5 hlt' q2 (q1J (l:=u) (i:=k) Oq) hl ap) ?_;refine ⟨(k+1,_,_),key (u.getD k 0+cr) (by rw [q5V h2]; omega),by simp only; omega,?_⟩;refine LeM [(1001,some 48)] rfl rfl ?_;refine Zz ?_;exact ⟨ω,by rw [yB]⟩
   .have hlt':¬ (k:Int) < n:=ω
    obtain rfl:k=n:=ω
    subst hl;have T1:=q0T (l:=o ++ [cr]) (ho.snoc (by unfold B; omega)) (by simp; omega);rw [q2B,hw,q0G u _ ω,q0G v _ ω,hs] at T1;have e3:cr % 4294967296=cr:=zC Oq;refine wk1 hlt' ?_;refine q4L 5 56 λK hK=>?_
    try refine Zz1 e3 ?_
    refine q1g ?_;have T2:=T1;rw [pW,xK] at T2
    try refine Zz ?_
    refine q0K T2 ?_
    try refine Zz ?_
    refine hK _ _ ?_;exact wk trivial
 by_cases h:l.length < l'.length
 .have q:(l.length:Int) < l'.length:=ω
  refine wk1 q ?_;refine fin (l',l) _ _ ⟨ha',ha,hb',by simp only; omega,by simp only; omega⟩ ?_;refine LeM [] rfl rfl ?_;exact Zy
 .have q:¬ (l.length:Int) < l'.length:=ω
  refine wk1 q ?_;refine fin (l,l') _ _ ⟨ha,ha',hb,by simp only; omega,rfl⟩ ?_;refine LeM [] rfl rfl ?_;exact Zy
def q6T {l l':List Nat} (ha:q0Z l) (ha':q0Z l') (hb:l.length<=1000000000) (hn:l'.length<=l.length) (hle:val l'<=val l):ACt 242 [pW l,pW l'] (pW (lim (val l-val l'))):=by
 refine ac0 Tryz.func242 Tryz.ntmps242 [.tmp 4] ?_;refine wk ?_;refine q0C (λp:Nat × Nat × List Nat=>p.1<=l.length/\p.2.1<=1/\q0Z p.2.2/\p.2.2.length=l.length/\val (p.2.2.take p.1)+val (l'.take p.1)=val (l.take p.1)+B ^ p.1*p.2.1) [1,5,13,14] [] Lk Lk (λp=>[(15,iv p.1),(6,uv p.2.1)]) (λp=>[(12,⟨142,none,p.2.2.map λz:Nat=>wv z,false⟩)]) (λp=>l.length-p.1) (0,0,List.replicate l.length 0) ⟨zD _,zD _,q0Z.replicate _,σ,by simp [val]⟩ ?_ ?_
 .refine LeM [] rfl rfl ?_;refine Zz ?_
  rfl
 .rintro ⟨k,br,o⟩ ⟨hk,hc,ho,hl,hw⟩;simp only at hk hc ho hl hw;have hd:=ha.get k;have hd':=ha'.get k;unfold B at hd hd'
  by_cases hlt:k < l.length
  .have hlt':(k:Int) < l.length:=ω
   have key:∀ t,t=((l.getD k 0+(18446744073709551616-br)) % 18446744073709551616+(18446744073709551616-l'.getD k 0)) % 18446744073709551616->k+1<=l.length/\t / 4294967296 % 2<=1/\q0Z (o.set k (t % 4294967296))/\(o.set k (t % 4294967296)).length=l.length/\val ((o.set k (t % 4294967296)).take (k+1))+val (l'.take (k+1))=val (l.take (k+1))+B ^ (k+1)*(t / 4294967296 % 2):=λt e=>by
    have hs:=q9M (o:=o.take k) (ltk Oq) hw hc hd hd' e;have he:t / 9223372036854775808=t / 4294967296 % 2:=ω
    refine ⟨ω,ω,ho.set _ _ (zE _ q0q),by simp [hl],?_⟩;rw [q2a _ _ (by simp; omega),q3K,zA,zP ω,vts,vts,<- he];exact hs.1
   rcases yE k l'.length with h2 | h2
   .have q2:(k:Int) < l'.length:=ω
    obtain ⟨t,ht⟩:∃ t,t=((l.getD k 0+(18446744073709551616-br)) % 18446744073709551616+(18446744073709551616-l'.getD k 0)) % 18446744073709551616:=⟨_,rfl⟩;have ap:=q1U (a:=t) Oq;have a1:=q6c (a:=t / 4294967296) Oq;rw [ht] at ap a1;refine wk1 (x6 hlt' q2 (q1J hlt) (q1J h2) hl (x3 @q48 ap a1)) ?_;refine ⟨(k+1,_,_),key _ rfl,by simp only; omega,?_⟩;refine LeM [] rfl rfl ?_;refine Zz ?_;exact ⟨ω,by rw [yB]⟩
   .have q2:¬ (k:Int) < l'.length:=ω
    have ap:=q1U (a:=(l.getD k 0+(18446744073709551616-br)) % 18446744073709551616) Oq;have a1:=q6c (a:=(l.getD k 0+(18446744073709551616-br)) % 18446744073709551616 / 4294967296) Oq;refine wk1 (x6 hlt' q2 (q1J hlt) hl @q48 (x2 ap a1)) ?_;refine ⟨(k+1,_,_),key ((l.getD k 0+(18446744073709551616-br)) % 18446744073709551616) (by rw [q5V h2]; omega),by simp only; omega,?_⟩;refine LeM [] rfl rfl ?_;refine Zz ?_;exact ⟨ω,by rw [yB]⟩
  .have hlt':¬ (k:Int) < l.length:=ω
   obtain rfl:k=l.length:=ω
   rw [q0G l _ ω,q0G l' _ ω,q0G o _ ω] at hw;have hlt2:=q1a ho;rw [hl] at hlt2;have h0:br=0:=by
    rcases zO br with h0 | h0
    .exact h0
    .have:br=1:=ω
     rw [this] at hw; omega
   rw [h0] at hw;have T1:=q0T (l:=o) ho Oq;rw [show val o=val l-val l' by omega] at T1;have tk1:((o.map λz:Nat=>wv z).take l.length)=o.map λz:Nat=>wv z:=qkO Oq;refine wk1 hlt' ?_;refine q4L 1 12 λK hK=>?_
   try refine Zz ?_
   refine q1g ?_
   try refine Zz1 tk1 ?_
   refine q0K T1 ?_
   try refine Zz ?_
   refine hK _ _ ?_;exact wk trivial
def qfJ {x y n n':Nat} (hn:(lim x).length=n) (hn':(lim y).length=n') (hb:n<=400000000) (hb':n'<=400000000):ACt 240 [pW (lim x),pW (lim y)] (pW (lim (x*y))):=by
 have hp1:=@q0I x;have hp2:=@q0I y;have hs:(n:Int)+(n':Int)=((n+n':Nat):Int):=ω
 refine ac0 Tryz.func240 Tryz.ntmps240 [.tmp 4] ?_
 by_cases h0:n=0
 .have q:(n:Int)=0:=ω
  have e:lim (x*y)=[]:=by rw [show x=0 by omega,xO]; rfl
  exact wk1 (x3 hn q e) trivial
 have q1:¬ (n:Int)=0:=ω
 by_cases h0':n'=0
 .have q:(n':Int)=0:=ω
  have e:lim (x*y)=[]:=by rw [show y=0 by omega,yQ]; rfl
  exact wk1 (x5 hn hn' q1 q e) trivial
 have q2:¬ (n':Int)=0:=ω
 refine wk1 (x5 hn hn' q1 q2 hs) ?_;refine q0C (λp:Nat × List Nat=>p.1<=n/\q0Z p.2/\p.2.length=n+n'/\val p.2=val ((lim x).take p.1)*y/\∀ q,p.1+n'<=q->p.2.getD q 0=0) [1,5,26,27] [] Lk Lk (λp=>[(28,iv p.1)]) (λp=>[(25,⟨142,none,p.2.map λz:Nat=>wv z,false⟩)]) (λp=>n-p.1) (0,List.replicate (n+n') 0) ⟨zD _,q0Z.replicate _,σ,by simp [val,q11],λq _=>qqd⟩ ?_ ?_
 .refine LeM [] rfl rfl ?_;refine Zz ?_
  rfl
 .rintro ⟨i,o⟩ ⟨hi,ho,hl,hv,hz⟩;simp only at hi ho hl hv hz;have hd1:=(q0B x).get i
  by_cases hlt:i < n
  .have hlt':(i:Int) < n:=ω
   refine wk1 (x3 hlt' hn' (q1J (l:=lim x) (i:=i) Oq)) ?_;refine q0C (λp:Nat × Nat × List Nat=>p.1<=n'/\p.2.1 < 4294967296/\q0Z p.2.2/\p.2.2.length=n+n'/\val p.2.2+B ^ (i+p.1)*p.2.1=val ((lim x).take i)*y+B ^ i*((lim x).getD i 0*val ((lim y).take p.1))/\∀ q,i+n'<=q->p.2.2.getD q 0=0) [1,5,6,7,26,27,28,33,34] [] Lk Lk (λp=>[(35,iv p.1),(8,uv p.2.1)]) (λp=>[(25,⟨142,none,p.2.2.map λz:Nat=>wv z,false⟩)]) (λp=>n'-p.1) (0,0,o) ⟨zD _,σ,ho,hl,by simp [hv,val],hz⟩ ?_ ?_
   .refine LeM [] rfl rfl ?_;refine Zz ?_
    rfl
   .clear hv hz hl ho;rintro ⟨j,cr,u⟩ ⟨hj,hc,ho,hl,hv,hz⟩;simp only at hj hc ho hl hv hz;have hd2:=(q0B y).get j
    by_cases hjt:j < n'
    .have hjt':(j:Int) < n':=ω
     obtain ⟨q,hq⟩:∃ q,q=i+j:=⟨_,rfl⟩;have e1:(i:Int)+(j:Int)=(q:Int):=ω
     have hd3:=ho.get q;have hbd:=q7Q hc hd1 hd2 hd3;unfold B at hd1 hd2 hd3;rw [<- hq] at hv;have key:∀ c,c=(lim x).getD i 0*(lim y).getD j 0+u.getD q 0+cr->j+1<=n'/\c / 4294967296 < 4294967296/\q0Z (u.set q (c % 4294967296))/\(u.set q (c % 4294967296)).length=n+n'/\val (u.set q (c % 4294967296))+B ^ (i+(j+1))*(c / 4294967296)=val ((lim x).take i)*y+B ^ i*((lim x).getD i 0*val ((lim y).take (j+1)))/\∀ r,i+n'<=r->(u.set q (c % 4294967296)).getD r 0=0:=λc e=>by
      have key:=q92 (x:=(lim x).getD i 0) (y:=(lim y).getD j 0) (by omega:q < u.length) hv;rw [show cr+(lim x).getD i 0*(lim y).getD j 0+u.getD q 0=c by omega] at key;refine ⟨ω,ω,ho.set _ _ (zE _ q0q),by simp [hl],?_,λr hr=>by rw [q0j ω]; exact hz r hr⟩;rw [<- xG,<- hq,vts];refine key.trans ?_;rw [hq,zX,yA,yA,xG]
      congr 2
      rw [uH,y7 (B ^ j)]
     have ap:=q1U (a:=(lim x).getD i 0*(lim y).getD j 0+u.getD q 0+cr) Oq;refine wk1 (x6 hjt' e1 (q1J (l:=lim y) (i:=j) Oq) (q1J (l:=u) (i:=q) Oq) hl ap) ?_;refine ⟨(j+1,_,_),key _ rfl,by simp only; omega,?_⟩;refine LeM [] rfl rfl ?_;refine Zz ?_;exact ⟨ω,by rw [yB]⟩
    .have hjt':¬ (j:Int) < n':=ω
     obtain rfl:j=n':=ω
     have e1:(i:Int)+(j:Int)=((i+j:Nat):Int):=ω
     refine wk1 (x5 hjt' hn' e1 hl (zC hc)) ?_;refine ⟨(i+1,u.set (i+j) cr),⟨ω,ho.set _ _ hc,by simp [hl],?_,?_⟩,by simp only; omega,?_⟩
     rotate_left 2
     .refine LeM [] rfl rfl ?_;refine Zz ?_;omega
     .have h1:=q2p (o:=u) (p:=i+j) cr Oq;rw [hz (i+j) ω,yQ,yM] at h1;rw [q0G (lim y) _ ω,q0D] at hv;rw [h1,hv,vts,uI,uH]
     .intro r hr;rw [q0j ω]; exact hz r ω
  .have hlt':¬ (i:Int) < n:=ω
   obtain rfl:i=n:=ω
   rw [q0G _ _ ω,q0D] at hv;have T1:=q0T (l:=o) ho Oq;rw [hv] at T1;have tk1:((o.map λz:Nat=>wv z).take (i+n'))=o.map λz:Nat=>wv z:=qkO Oq;refine wk1 hlt' ?_;refine q4L 1 25 λK hK=>?_
   try refine Zz ?_
   refine q1g ?_
   try refine Zz1 tk1 ?_
   refine q0K T1 ?_
   try refine Zz ?_
   refine hK _ _ ?_;exact wk trivial
end
section
attribute [local instance] lNL
def qkL {x n m:Nat} (hn:(lim x).length=n) (hb:n<=400000000) (hm:m<=1000000000):ACt 273 [pW (lim x),iv m] (pW (lim (x*2 ^ m))):=by
 have hp1:=@q0I x;obtain ⟨w,hw⟩:∃ w,m / 32=w:=⟨_,rfl⟩;obtain ⟨p,hp⟩:∃ p,m % 32=p:=⟨_,rfl⟩;have hp31:p < 32:=ω
 have hpp:2 ^ p<=2147483648:=zJ (n:=2) Oq (show p<=31 by omega);have hp0:=q0F p;have hmm:32*w+p=m:=by rw [<- hw,<- hp]; exact yI m 32
 refine ac0 Tryz.func273 Tryz.ntmps273 [.tmp 4] ?_
 by_cases h0:n=0
 .have q:(n:Int)=0:=ω
  have e:lim (x*2 ^ m)=[]:=by rw [show x=0 by omega,xO]; rfl
  exact wk1 (x3 hn q e) trivial
 have q1:¬ (n:Int)=0:=ω
 have e1:(w:Int)+(n:Int)=((w+n:Nat):Int):=ω
 have e2:((w+n:Nat):Int)+1=((w+n+1:Nat):Int):=ω
 have eu:IntKind.u64.wrap (p:Int)=p:=u64_in Oq Oq;refine wk1 (x6 hn q1 hw hp eu (x2 e1 e2)) ?_;refine q0C (λq:Nat × List Nat=>q.1<=n/\q0Z q.2/\q.2.length=w+n+1/\val q.2=B ^ w*(2 ^ p*val ((lim x).take q.1))/\q.2.getD (w+q.1) 0 < 2 ^ p/\∀ r,w+q.1 < r->q.2.getD r 0=0) [5,6,7,25,26] [] Lk Lk (λq=>[(27,iv q.1)]) (λq=>[(24,⟨142,none,q.2.map λz:Nat=>wv z,false⟩)]) (λq=>n-q.1) (0,List.replicate (w+n+1) 0) ⟨zD _,q0Z.replicate _,σ,by simp [val,q11],by rw [qqd]; exact hp0,λ_ _=>qqd⟩ ?_ ?_
 .refine LeM [] rfl rfl ?_;refine Zz ?_
  rfl
 .rintro ⟨i,o⟩ ⟨hi,ho,hl,hv,hlo,hz⟩;simp only at hi ho hl hv hlo hz
  by_cases hlt:i < n
  .have hlt':(i:Int) < n:=ω
   have hd:=(q0B x).get i;obtain ⟨d,hde⟩:∃ d,d=(lim x).getD i 0:=⟨_,rfl⟩;have ex:=q1J (l:=lim x) (i:=i) Oq;rw [<- hde] at ex hd;unfold B at hd;have hpr:d*2 ^ p<=4294967295*2 ^ p:=yH _ Oq;obtain ⟨t,hte⟩:∃ t,t=d*2 ^ p:=⟨_,rfl⟩;have ht64:t < 18446744073709551616:=ω
   have e3:d*2 ^ p % 18446744073709551616=t:=by rw [<- hte]; exact zC ht64
   obtain ⟨q,hq⟩:∃ q,q=w+i:=⟨_,rfl⟩;rw [<- hq] at hlo hz;have e4:(w:Int)+(i:Int)=(q:Int):=ω
   have e5:(q:Int)+1=((q+1:Nat):Int):=rfl;have hlow:o.getD q 0+t % 4294967296 < 4294967296/\o.getD q 0 ||| t % 4294967296=o.getD q 0+t % 4294967296:=by
    have e:4294967296=2 ^ p*2 ^ (32-p):=by rw [<- zX,show p+(32-p)=32 by omega]
    have hmul:t % 4294967296=2 ^ p*(d % 2 ^ (32-p)):=by rw [hte,zF d,e,Nat.mul_mod_mul_left]
    have hlt:=zE d (q0F (32-p));have h2:2 ^ p*(d % 2 ^ (32-p))+2 ^ p<=4294967296:=by rw [<- Nat.mul_succ,e]; exact yK _ hlt
    refine ⟨ω,?_⟩;rw [hmul,zF];exact q1t hlo
   have ap:=q1U (a:=t) ht64;have em:t % 4294967296 % 4294967296=t % 4294967296:=yB _ _;have hq1:t / 4294967296 < 4294967296:=ω
   have hq2:=zC hq1;have hd2:=hlow.1;refine wk1 (x6 hlt' ex e3 e4 e5 (x6 (q1J (l:=o) (i:=q) Oq) hl ap em hlow.2 hq2)) ?_;refine ⟨(i+1,(o.set q (o.getD q 0+t % 4294967296)).set (q+1) (t / 4294967296)),⟨ω,(ho.set _ _ hd2).set _ _ hq1,by simp [hl],?_,?_,?_⟩,by simp only; omega,?_⟩
   rotate_left 3
   .refine LeM [] rfl rfl ?_;refine Zz ?_;omega
   .have v1:=q2p (o:=o) (p:=q) (o.getD q 0+t % 4294967296) Oq;have v2:=q2p (o:=o.set q (o.getD q 0+t % 4294967296)) (p:=q+1) (t / 4294967296) (by simp; omega);rw [q0j ω,hz (q+1) ω,yQ,yM] at v2;rw [v2,vts,<- hde];have hB:B ^ (q+1)*(t / 4294967296)=B ^ q*(4294967296*(t / 4294967296)):=by rw [x9,uH]; rfl
    have hB2:B ^ q*(t % 4294967296)+B ^ q*(4294967296*(t / 4294967296))=B ^ q*t:=by rw [<- yA,wD]
    have hB3:B ^ q*t=B ^ w*(2 ^ p*(B ^ i*d)):=by
     rw [hq,hte,zX,uH]
     congr 1
     rw [zF d,y7]
    rw [yA (B ^ q)] at v1;rw [yA,yA,<- hv,<- hB3,<- hB2,hB];omega
   .show ((o.set q (o.getD q 0+t % 4294967296)).set (q+1) (t / 4294967296)).getD (w+(i+1)) 0 < _
    rw [show w+(i+1)=q+1 by omega,zA,zP (by simp; omega)]
    show t / 4294967296 < 2 ^ p
    rw [yR ω];have:4294967295*2 ^ p < 2 ^ p*4294967296:=by rw [zF]; exact uJ ω hp0
    omega
   .intro r hr;rw [q0j ω,q0j ω]; exact hz r ω
  .have hlt':¬ (i:Int) < n:=ω
   obtain rfl:i=n:=ω
   rw [q0G _ _ ω,q0D] at hv;have T1:=q0T (l:=o) ho Oq;rw [show val o=x*2 ^ m by rw [hv,qaW,<- yU,<- uH,<- zX,hmm,zF]] at T1;have tk1:((o.map λz:Nat=>wv z).take (w+i+1))=o.map λz:Nat=>wv z:=qkO Oq;refine wk1 hlt' ?_;refine q4L 1 24 λK hK=>?_
   try refine Zz ?_
   refine q1g ?_
   try refine Zz1 tk1 ?_
   refine q0K T1 ?_
   try refine Zz ?_
   refine hK _ _ ?_;exact wk trivial
def q9r:∀ l:List Nat,∃ k,k<=l.length/\(∀ i,i < k->l.getD i 0=0)/\(k < l.length->l.getD k 0≠0)/\(k < l.length ↔ val l≠0)
 | []=>⟨0,zL _,λ_ h=>by omega,λh=>by simp at h,by simp [val]⟩
 | d :: l=>by
  by_cases hd:d=0
  .obtain ⟨k,h1,h2,h3,h4⟩:=q9r l;subst hd;refine ⟨k+1,by simpa using h1,λi hi=>?_,λh=>by simpa using h3 (by simpa using h),?_⟩
   .cases i with
    | zero=>rfl
    | succ i=>simpa using h2 i ω
   .have:val (0 :: l)=B*val l:=by simp [val]
    rw [this,xC];have:=q0q;simp only [ne_eq,wE];omega
  .refine ⟨0,zD _,λ_ h=>by omega,λ_=>by simpa using hd,?_⟩;have:val (d :: l)=d+B*val l:=rfl;rw [this,xC];omega
def qld {l:List Nat} (hb:l.length<=1000000000):∃ r:Int,(0<=r ↔ val l≠0)/\ACt 299 [pW l,.vl (.func (.func 291) #[] #[])] (iv r):=by
 obtain ⟨k,hk,hz,hnz,hiff⟩:=q9r l;have C1:∀ x:Nat,ACt 291 [wv x] (bv (decide (x≠0))):=λx=>by
  have q:((x:Int) != 0)=decide (x≠0):=bne0;refine ac0 Tryz.func291 Tryz.ntmps291 [.tmp 2] ?_;exact wk1 q trivial
 obtain ⟨n,hn⟩:∃ n,l.length=n:=⟨_,rfl⟩;refine ⟨if k < n then (k:Int) else -1,by split <;> omega,?_⟩;refine ac0 Tryz.func299 Tryz.ntmps299 [.tmp 4] ?_;refine wk1 hn ?_;refine q0C (λi=>i<=k) [0,1,7] [] Lk Lk (λi:Nat=>[(8,iv i)]) (λ_=>[]) (λi=>n-i) 0 (zD _) ?_ ?_
 .refine LeM [] rfl rfl ?_;refine Zz ?_
  rfl
 .intro i hi
  by_cases hlt:i < n
  .have hlt':(i:Int) < n:=ω
   have e1:=q1J (l:=l) (i:=i) Oq;refine wk1 hlt' ?_;refine qbR λK hK=>?_;refine Zz1 e1 ?_;refine q4X qnv ?_;simp only [wC]
   try refine Zz ?_
   refine q0K (C1 _) ?_
   try refine Zz ?_
   refine hK _ _ ?_; clear hK K
   by_cases hik:i < k
   .have q:decide (l.getD i 0≠0)=false:=by simp only [hz i hik]; rfl
    refine wk1 q ?_;refine ⟨i+1,ω,ω,?_⟩;refine LeM [] rfl rfl ?_;refine Zz ?_;omega
   .obtain rfl:i=k:=ω
    have q:decide (l.getD i 0≠0)=true:=decide_eq_true (hnz Oq);rw [if_pos hlt];exact wk1 q trivial
  .have hlt':¬ (i:Int) < n:=ω
   rw [if_neg ω];exact wk1 hlt' trivial
def qdq {x n m:Nat} (hn:(lim x).length=n) (hb:n<=1000000000) (hm:m<=1000000000):ACt 274 [pW (lim x),iv m] (.tu [pW (lim (x / 2 ^ m)),bv (decide (x % 2 ^ m≠0))]):=by
 obtain ⟨w,hw⟩:∃ w,m / 32=w:=⟨_,rfl⟩;obtain ⟨p,hp⟩:∃ p,m % 32=p:=⟨_,rfl⟩;have hp31:p < 32:=ω
 have hpp:2 ^ p<=2147483648:=zJ (n:=2) Oq (show p<=31 by omega);have hp0:=q0F p;have hmm:32*w+p=m:=by rw [<- hw,<- hp]; exact yI m 32
 have ha:=q0B x;have hlo:=q9a ha w p Oq;have hla:=q9b ha w p;have hlp:=@q0I x;rw [hmm,q0D] at hlo hla;have eu:IntKind.u64.wrap (p:Int)=p:=u64_in Oq Oq;refine ac0 Tryz.func274 Tryz.ntmps274 [.tmp 4,.tmp 5] ?_
 by_cases hwn:n<=w
 .have q:(n:Int)<=w:=ω
  have hr:=hla Oq;have e1:lim (x / 2 ^ m)=[]:=by rw [q87]; have:=yI x (2 ^ m); rw [hr] at this; exact (wE.1 (by omega:2 ^ m*(x / 2 ^ m)=0)).resolve_left (wQ (q0F m))
  rw [hr,e1]
  by_cases hx:x=0
  .have q2:¬ (0:Int) < n:=ω
   have q3:decide (x≠0)=false:=by simp [hx]
   exact wk1 (x6 hn hw hp eu q (x2 q2 q3)) trivial
  .have q2:(0:Int) < n:=ω
   have q3:decide (x≠0)=true:=by simp [hx]
   exact wk1 (x6 hn hw hp eu q (x2 q2 q3)) trivial
 have q1:¬ (n:Int)<=w:=ω
 refine wk1 (x5 hn hw hp eu q1) ?_;refine qvo ?_;refine qjs (λ_:Unit=>True) (λ_=>[(0,pW (lim x)),(6,iv w),(7,uv p),(8,bv (decide (x % 2 ^ m≠0)))]) (λ_=>[]) (λ_ _=>?_) λK fin=>?_
 .obtain ⟨k,hk⟩:∃ k,k=n-w:=⟨_,rfl⟩;have e1:(n:Int)-(w:Int)=(k:Int):=ω
  refine wk1 (x2 hn e1) ?_;refine q0C (λq:Nat × List Nat=>q.1<=k/\q0Z q.2/\q.2.length=k/\val (q.2.take q.1)+B ^ q.1*(val ((lim x).drop (w+q.1)) / 2 ^ p)=val ((lim x).drop w) / 2 ^ p) [0,6,7,8,9,44,45] [] Lk Lk (λq=>[(46,iv q.1)]) (λq=>[(43,⟨142,none,q.2.map λz:Nat=>wv z,false⟩)]) (λq=>k-q.1) (0,List.replicate k 0) ⟨zD _,q0Z.replicate _,σ,by simp [val]⟩ ?_ ?_
  .refine LeM [] rfl rfl ?_;refine Zz ?_
   rfl
  .rintro ⟨i,o⟩ ⟨hi,ho,hl,hv⟩;simp only at hi ho hl hv;obtain ⟨j,hj⟩:∃ j,j=w+i:=⟨_,rfl⟩;rw [<- hj] at hv
   by_cases hlt:i < k
   .have q2:(i:Int) < k:=ω
    have f1:(w:Int)+(i:Int)=(j:Int):=ω
    have f2:(j:Int)+1=((j+1:Nat):Int):=rfl;have hd:=ha.get j;have hd2:=ha.get (j+1);unfold B at hd hd2;obtain ⟨X,hX⟩:∃ X,X=(lim x).getD j 0+(lim x).getD (j+1) 0*4294967296:=⟨_,rfl⟩;have key:=q9P (o:=o.take i) (y8 hp31) ha (ltk Oq) hv;rw [<- hX] at key;refine wk1 (x3 q2 f1 (q1J (l:=lim x) (i:=j) Oq)) ?_;refine qjs (λ_:Unit=>True) (λ_=>[(0,pW (lim x)),(6,iv w),(7,uv p),(8,bv (decide (x % 2 ^ m≠0))),(9,.ow 43 none 0 k),(10,iv i),(11,uv X),(44,.ow 43 none 0 k),(45,iv k),(46,iv i)]) (λ_=>[(43,⟨142,none,o.map λz:Nat=>wv z,false⟩)]) (λ_ _=>?_) λK1 fin1=>?_
    .have hX64:X / 2 ^ p < 18446744073709551616:=zY (yJ _ _) Oq;have ap:=q1U hX64;refine wk1 (x2 ap hl) ?_;refine ⟨(i+1,o.set i (X / 2 ^ p % 4294967296)),⟨ω,ho.set _ _ (zE _ q0q),by simp [hl],?_⟩,by simp only; omega,?_⟩
     .show val ((o.set i (X / 2 ^ p % 4294967296)).take (i+1))+B ^ (i+1)*(val ((lim x).drop (w+(i+1))) / 2 ^ p)=_
      rw [q2a _ _ (by simp; omega),q3K,zA,zP ω,show w+(i+1)=j+1 by omega];exact key
     .refine LeM [] rfl rfl ?_;refine Zz ?_;exact ⟨ω,by rw [yB]⟩
    by_cases hn1:j+1 < n
    .have q3:((j+1:Nat):Int) < n:=ω
     have e6:(lim x).getD (j+1) 0*4294967296 % 18446744073709551616=(lim x).getD (j+1) 0*4294967296:=zC Oq;have e7:(lim x).getD j 0 ||| (lim x).getD (j+1) 0*4294967296=X:=by rw [hX]; exact q1t (k:=32) hd
     refine wk1 (x6 f1 f2 q3 hn (q1J (l:=lim x) (i:=j+1) Oq) (x2 e6 e7)) ?_;refine fin1 () _ _ trivial ?_;refine LeM [] rfl rfl ?_;exact Zy
    .have q3:¬ ((j+1:Nat):Int) < n:=ω
     refine wk1 (x4 f1 f2 q3 hn) ?_;refine fin1 () _ _ trivial ?_;refine LeM [] rfl rfl ?_;refine Zz ?_;rw [hX,q5V (i:=j+1) ω]; omega
   .have q2:¬ (i:Int) < k:=ω
    obtain rfl:i=k:=ω
    have hd0:val ((lim x).drop j)=0:=by rw [zI ω]; rfl
    rw [hd0,Nat.zero_div,yQ,yM,q29 ha,q0D,uL,qaW,<- yU,<- zX,hmm,q0G _ _ ω] at hv;have T1:=q0T (l:=o) ho Oq;rw [hv] at T1;have tk1:((o.map λz:Nat=>wv z).take i)=o.map λz:Nat=>wv z:=qkO Oq;refine wk1 q2 ?_;refine q4L 1 43 λK hK=>?_
    try refine Zz ?_
    refine q1g ?_
    try refine Zz1 tk1 ?_
    refine q0K T1 ?_
    try refine Zz ?_
    refine hK _ _ ?_;exact wk trivial
 .obtain ⟨r,hr,C1⟩:=qld (l:=(lim x).take w) (by rw [yW]; omega);have C2:ACt 290 [pW ((lim x).take w),.vl (.func (.func 291) #[] #[])] (bv (decide (val ((lim x).take w)≠0))):=by
   by_cases h:val ((lim x).take w)≠0
   .have q:=hr.2 h;rw [decide_eq_true h];refine ac0 Tryz.func290 Tryz.ntmps290 [.tmp 4] ?_;exact wk1 q trivial
   .have q:¬ 0<=r:=λh2=>h (hr.1 h2);rw [decide_eq_false h];refine ac0 Tryz.func290 Tryz.ntmps290 [.tmp 4] ?_;exact wk1 q trivial
  have es:=qpt (l:=lim x) (m:=w) Oq;have hd:=ha.get w
  by_cases hz:val ((lim x).take w)=0
  .have q2:decide (val ((lim x).take w)≠0)=false:=by simp [hz]
   rw [q2] at C2;have p1:IntKind.u32.wrap (((2 ^ p:Nat):Int)-1)=((2 ^ p-1:Nat):Int):=qbo hp0 Oq;have p2:q0g .and .u32 (((lim x).getD w 0:Nat):Int) ((2 ^ p-1:Nat):Int)=(((lim x).getD w 0 % 2 ^ p:Nat):Int):=by rw [qaR hd ω,xE]
   have p3:((((lim x).getD w 0 % 2 ^ p:Nat):Int) != 0)=decide (x % 2 ^ m≠0):=by
    rw [bne0];refine decide_eq_decide.2 ?_;simp only [hz,true_and] at hlo;omega
   refine wk1 (x5 es (q1J (l:=lim x) (i:=w) Oq) p1 p2 p3) ?_;refine fin () _ _ trivial ?_;refine LeM [] rfl rfl ?_;exact Zy
  .have q2:decide (val ((lim x).take w)≠0)=true:=by simp [hz]
   rw [q2] at C2;have q3:decide (x % 2 ^ m≠0)=true:=decide_eq_true λh=>hz (hlo.1 h).1;refine wk1 es ?_;refine fin () _ _ trivial ?_;refine LeM [] rfl rfl ?_;refine Zz ?_;exact q3.symm
end
section
attribute [local instance] lNL
def q7Z {z:Int} (h1 : -9223372036854775808<=z) (h2:z<=9223372036854775807):ACt 132 [iv z] (zT z):=by
 have hv:val [z.natAbs % 4294967296,z.natAbs / 4294967296 % 4294967296]=z.natAbs:=by simp only [val,B]; omega
 have C1:=q1h (s:=decide (z < 0)) (l:=[z.natAbs % 4294967296,z.natAbs / 4294967296 % 4294967296]) (λd hd=>by simp at hd; unfold B; omega) σ;rw [hv,q02] at C1;have ap:=q1U (a:=z.natAbs) Oq;have em:=yB z.natAbs 4294967296;refine ac0 Tryz.func132 Tryz.ntmps132 [.cell 2 42] ?_;refine wk ?_;refine qjs (λ_:Unit=>True) (λ_=>[(0,iv z),(2,.pt 2 0 0),(3,uv (z.natAbs:Nat))]) (λ_=>[(2,⟨42,some 2,[.ag [bv false,q1R]],false⟩)]) (λ_ _=>?_) λK fin=>?_
 .refine q4L 9 18 λK hK=>?_
  try refine Zz2 ap em ?_
  refine q1g ?_
  try refine Zz ?_
  refine q0K C1 ?_
  try refine Zz ?_
  refine hK _ _ ?_;exact wk trivial
 by_cases hn:z < 0
 .have e1:IntKind.u64.wrap (0-IntKind.u64.wrap z)=((z.natAbs:Nat):Int):=by rw [q0o z,q0o]; omega
  refine wk1 hn ?_;refine fin () _ _ trivial ?_;refine LeM [] rfl rfl ?_;refine Zz ?_;exact e1
 .have e1:IntKind.u64.wrap z=((z.natAbs:Nat):Int):=by rw [u64_in ω ω]; omega
  refine wk1 hn ?_;refine fin () _ _ trivial ?_;refine LeM [] rfl rfl ?_;refine Zz ?_;exact e1
section
variable {a b:Int} {s t:Bool}
def q9m {x y:Nat} (hx:bl x<=20000000) (hy:bl y<=20000000):ACt 202 [.ag [bv s,pW (lim x)],.ag [bv t,pW (lim y)]] (zT (sgn s x+sgn t y)):=by
 have ma:=q6r hx;have mb:=q6r hy;have la:=q2w hx;have lb:=q2w hy;have T1:=q0T (q0B x) la;have T2:=q0T (q0B y) lb;rw [q0D] at T1 T2
 by_cases hst:s=t
 .have C1:=q8U (q0B x) (q0B y) Oq Oq;rw [q0D,q0D] at C1;have h1:(lim (x+y)).length<=max (lim x).length (lim y).length+1:=q0c (qjc (bpw (Nat.le_max_left _ _)) (bpw (Nat.le_max_right _ _)));have C2:=q1h (s:=s) (q0B (x+y)) Oq;rw [q0D] at C2;subst hst;rw [show sgn s x+sgn s y=sgn s (x+y) by cases s <;> simp [sgn] <;> omega];refine ac0 Tryz.func202 Tryz.ntmps202 [.cell 4 42] ?_;refine wk ?_;cases s
  .exact wk trivial
  .exact wk trivial
 .have C1:=q3s la lb;have w1:(false == true)=false:=rfl;have w2:(true == false)=false:=rfl;have key:∀ (u:Bool) (x y:Nat),(lim x).length<=1000000000->ACt 212 [bv u,pW (lim (x-y))] (zT (sgn u (x-y))):=λu x y hl=>by
   have C2:=q1h (s:=u) (q0B (x-y)) (zU (q0i (Nat.sub_le x y)) hl)
   rwa [q0D] at C2
  obtain rfl:t=!s:=by cases s <;> cases t <;> simp_all
  by_cases hle:y<=x
  .have q:=qeD hle;have C3:=q6T (q0B x) (q0B y) la (q0i hle) (by rw [q0D,q0D]; exact hle);rw [q0D,q0D] at C3;have C4:=key s x y la;rw [show sgn s x+sgn (!s) y=sgn s (x-y) by cases s <;> simp [sgn] <;> omega];refine ac0 Tryz.func202 Tryz.ntmps202 [.cell 4 42] ?_;refine wk ?_;cases s
   .exact wk1 (x3 w1 w2 q) trivial
   .exact wk1 (x3 w1 w2 q) trivial
  .have q:=qeC hle;have C3:=q6T (q0B y) (q0B x) lb (q0i ω) (by rw [q0D,q0D]; omega);rw [q0D,q0D] at C3;have C4:=key (!s) y x lb;rw [show sgn s x+sgn (!s) y=sgn (!s) (y-x) by cases s <;> simp [sgn] <;> omega];refine ac0 Tryz.func202 Tryz.ntmps202 [.cell 4 42] ?_;refine wk ?_;cases s
   .exact wk1 (x3 w1 w2 q) trivial
   .exact wk1 (x3 w1 w2 q) trivial
def qgL (hs:s=decide (a < 0)) (ht:t=decide (b < 0)) (ha:bl a.natAbs<=20000000) (hb:bl b.natAbs<=20000000):ACt 202 [yT s a,yT t b] (zT (a+b)):=by
 have:=q9m (s:=s) (t:=t) ha hb
 rwa [hs,ht,q02,q02,<- hs,<- ht] at this
def qgF (hs:s=decide (a < 0)) (ht:t=decide (b < 0)) (ha:bl a.natAbs<=20000000) (hb:bl b.natAbs<=20000000):ACt 292 [yT s a,yT t b] (zT (a-b)):=by
 have C2:=q9m (s:=s) (t:=!t) ha hb;rw [hs,ht,q02,q8O,<- Int.sub_eq_add_neg,<- hs,<- ht] at C2;refine ac0 Tryz.func292 Tryz.ntmps292 [.cell 4 42] ?_;exact wk trivial
def qgK (hs:s=decide (a < 0)) (ht:t=decide (b < 0)) (ha:bl a.natAbs<=20000000) (hb:bl b.natAbs<=20000000):ACt 197 [yT s a,yT t b] (iv (a-b).sign):=by
 have T1:=q0T (q0B a.natAbs) (q2w ha);have T2:=q0T (q0B b.natAbs) (q2w hb);rw [q0D] at T1 T2;have C1:=q4r hs ha;have C2:=q4r ht hb;have C3:=q3s (q2w ha) (q2w hb);have hsg:∀ z:Int,(z < 0/\z.sign = -1)\/(z=0/\z.sign=0)\/(0 < z/\z.sign=1):=λz=>by
  rcases xV z 0 with h | h | h
  .exact .inl ⟨h,zW h⟩
  .exact .inr (.inl ⟨h,by rw [h]; rfl⟩)
  .exact .inr (.inr ⟨h,zH h⟩)
 have hc:∀ x y:Nat,(x < y/\q2m x y = -1)\/(x=y/\q2m x y=0)\/(y < x/\q2m x y=1):=λx y=>by
  unfold q2m; split
  .exact .inl ⟨by assumption,rfl⟩
  .split
   .exact .inr (.inl ⟨by assumption,rfl⟩)
   .exact .inr (.inr ⟨ω,rfl⟩)
 by_cases h1:a.sign < b.sign
 .have q:(a-b).sign = -1:=by rcases hsg a with h | h | h <;> rcases hsg b with h' | h' | h' <;> rcases hsg (a-b) with h2 | h2 | h2 <;> omega
  refine ac0 Tryz.func197 Tryz.ntmps197 [.tmp 4] ?_;exact wk1 (x2 h1 q) trivial
 by_cases h2:b.sign < a.sign
 .have q:(a-b).sign=1:=by rcases hsg a with h | h | h <;> rcases hsg b with h' | h' | h' <;> rcases hsg (a-b) with h2 | h2 | h2 <;> omega
  refine ac0 Tryz.func197 Tryz.ntmps197 [.tmp 4] ?_;exact wk1 (x3 h1 h2 q) trivial
 have q0:a.sign*q2m a.natAbs b.natAbs=(a-b).sign:=by
  rcases hsg a with h | h | h <;> rcases hsg b with h' | h' | h' <;> rcases hsg (a-b) with h2 | h2 | h2 <;> rcases hc a.natAbs b.natAbs with h3 | h3 | h3 <;> rw [h.2,h2.2,h3.2] <;> omega
 have q:IntKind.i64.wrap (a.sign*q2m a.natAbs b.natAbs)=(a-b).sign:=by
  rw [q0]
  rcases hsg (a-b) with h | h | h <;> rw [h.2] <;> rfl
 refine ac0 Tryz.func197 Tryz.ntmps197 [.tmp 4] ?_;exact wk1 (x3 h1 h2 q) trivial
def qgI (hs:s=decide (a < 0)) (ht:t=decide (b < 0)) (ha:bl a.natAbs<=20000000) (hb:bl b.natAbs<=20000000):ACt 201 [yT s a,yT t b] (zT (a*b)):=by
 have ma:=q6r ha;have mb:=q6r hb;have T1:=q0T (q0B a.natAbs) (q2w ha);have T2:=q0T (q0B b.natAbs) (q2w hb);rw [q0D] at T1 T2;have C1:=qfJ (x:=a.natAbs) (y:=b.natAbs) rfl rfl Oq Oq;have hl:(lim (a.natAbs*b.natAbs)).length<=(lim a.natAbs).length+(lim b.natAbs).length:=q0c (by rw [zX]; exact uK (q08 _) (q08 _));have C2:=q1h (s:=s != t) (q0B (a.natAbs*b.natAbs)) Oq;rw [q0D,hs,ht,<- qbx,q02,q02] at C2;subst hs ht;refine ac0 Tryz.func201 Tryz.ntmps201 [.cell 4 42] ?_;exact wk trivial
def q8e (ha:bl a.natAbs<=20000000):ACt 233 [yT s a] (iv (bl a.natAbs:Nat)):=by
 have T1:=q0T (q0B a.natAbs) (q2w ha);rw [q0D] at T1;have hp:=@q0I a.natAbs;have mb:=q6r ha;obtain ⟨n,hn⟩:∃ n,(lim a.natAbs).length=n:=⟨_,rfl⟩;have T2:ACt 271 [pW (lim a.natAbs)] (iv (bl a.natAbs:Nat)):=by
  by_cases h0:a.natAbs=0
  .have q:((lim a.natAbs).length:Int)=0:=by rw [h0]; rfl
   have q2:((bl a.natAbs:Nat):Int)=0:=by rw [h0]; rfl
   refine ac0 Tryz.func271 Tryz.ntmps271 [.tmp 2] ?_;exact wk1 (x2 q q2) trivial
  .have hd:=(q0B a.natAbs).get (n-1);have e1:=q1J (l:=lim a.natAbs) (i:=n-1) Oq;have e2:(n:Int)-1=(n-1:Nat):=ω
   have q:(n:Int)≠0:=ω
   have hb:=q7s h0;have hb2:=q0M (n:=(lim a.natAbs).getD (n-1) 0) (k:=32) hd;have C1:=q9g (x:=(lim a.natAbs).getD (n-1) 0) hd;rw [hn] at hb;have e3:((n-1:Nat):Int)*32=((32*(n-1):Nat):Int):=ω
   have e4:((32*(n-1):Nat):Int)+(bl ((lim a.natAbs).getD (n-1) 0):Nat)=(bl a.natAbs:Nat):=ω
   refine ac0 Tryz.func271 Tryz.ntmps271 [.tmp 2] ?_;exact wk1 (x6 hn q e1 e2 e3 e4) trivial
 refine ac0 Tryz.func233 Tryz.ntmps233 [.tmp 2] ?_;exact wk trivial
def qle (ha:bl a.natAbs<=20000000):ACt 232 [yT s a] (iv (tz a.natAbs:Nat)):=by
 have mb:=q6r ha;obtain ⟨n,hn⟩:∃ n,(lim a.natAbs).length=n:=⟨_,rfl⟩;refine ac0 Tryz.func232 Tryz.ntmps232 [.tmp 2] ?_;refine wk1 hn ?_;refine q0C (λk=>k<=n/\val ((lim a.natAbs).take k)=0) [6,7] [] Lk Lk (λk:Nat=>[(8,iv k)]) (λ_=>[]) (λk=>n-k) 0 ⟨zD _,rfl⟩ ?_ ?_
 .refine LeM [] rfl rfl ?_;refine Zz ?_
  rfl
 .rintro k ⟨hk,hv⟩
  by_cases hlt:k < n
  .have q1:(k:Int) < n:=ω
   have e1:=q1J (l:=lim a.natAbs) (i:=k) Oq;have hd:=(q0B a.natAbs).get k
   by_cases hz:(lim a.natAbs).getD k 0=0
   .have q2:(((lim a.natAbs).getD k 0:Nat):Int)=0:=ω
    refine wk1 (x3 q1 e1 q2) ?_;refine ⟨k+1,⟨ω,q3y.2 ⟨hv,hz⟩⟩,ω,?_⟩;refine LeM [] rfl rfl ?_;refine Zz ?_;omega
   .have q2:(((lim a.natAbs).getD k 0:Nat):Int)≠0:=ω
    have htv:=qiF (q0B a.natAbs) Oq hv hz;rw [q0D] at htv;have hlt32:=q5z hz hd;have C1:=qb7 (x:=(lim a.natAbs).getD k 0) Oq hd;have e3:(k:Int)*32=((32*k:Nat):Int):=ω
    have e4:((32*k:Nat):Int)+(tz ((lim a.natAbs).getD k 0):Nat)=(tz a.natAbs:Nat):=ω
    exact wk1 (x5 q1 e1 q2 e3 e4) trivial
  .have q1:¬ (k:Int) < n:=ω
   rw [q0G _ _ ω,q0D] at hv;have q2:((tz a.natAbs:Nat):Int)=0:=by rw [hv]; rfl
   exact wk1 (x2 q1 q2) trivial
def qam {m:Int} (hs:s=decide (a < 0)) (ha:bl a.natAbs<=20000000) (h1 : -1048576<=m) (h2:m<=1048576):ACt 243 [yT s a,iv m] (.tu [zT (shI a m),iv 0]):=by
 have T1:=q0T (q0B a.natAbs) (q2w ha);rw [q0D] at T1;have mb:=q6r ha;have q1:¬ m < -1048576:=ω
 have q2:¬ 1048576 < m:=ω
 by_cases hm:0<=m
 .obtain ⟨k,rfl⟩:∃ k:Nat,m=k:=⟨m.toNat,ω⟩;have C1:=qkL (x:=a.natAbs) (m:=k) rfl Oq Oq;have hbl:bl (a.natAbs*2 ^ k)<=30000000:=by
   by_cases h0:a.natAbs=0
   .rw [h0,xO]; simp [q0m]
   .rw [q1X h0]; omega
  have C2:=q1h (s:=s) (q0B (a.natAbs*2 ^ k)) (by rw [q9d]; omega);rw [q0D,hs,<- qiY,<- hs] at C2;clear hs;refine ac0 Tryz.func243 Tryz.ntmps243 [.cell 4 42,.tmp 5] ?_;exact wk1 (x3 q1 q2 hm) trivial
 .obtain ⟨k,rfl⟩:∃ k:Nat,m = -(k:Int):=⟨(-m).toNat,ω⟩;have C1:=qdq (x:=a.natAbs) (m:=k) rfl Oq Oq;have hle:(lim (a.natAbs / 2 ^ k)).length<=700000:=zU (q0i (yJ _ _)) mb;have C3:=q8U (l:=lim (a.natAbs / 2 ^ k)) (l':=[1]) (q0B _) (.one q7z) ω σ;rw [q0D,q45] at C3;have hle2:(lim (a.natAbs / 2 ^ k+1)).length<=700001:=zU (q0c (zY (q08 _) (xH q7z (Nat.lt_succ_self _)))) (Nat.succ_le_succ hle);have C2:=q1h (s:=s) (q0B (a.natAbs / 2 ^ k)) Oq;have C4:=q1h (s:=s) (q0B (a.natAbs / 2 ^ k+1)) Oq;rw [q0D] at C2 C4;have e1:(0:Int) - -(k:Int)=k:=ω
  rw [qiZ,<- hs];cases hd:decide (a.natAbs % 2 ^ k≠0) <;> rw [hd] at C1 <;> clear hs <;> cases s <;> simp only [zV,false_and,and_false,and_self,if_false,if_true,wP]
  .refine ac0 Tryz.func243 Tryz.ntmps243 [.cell 4 42,.tmp 5] ?_;exact wk1 (x4 q1 q2 hm e1) trivial
  .refine ac0 Tryz.func243 Tryz.ntmps243 [.cell 4 42,.tmp 5] ?_;exact wk1 (x4 q1 q2 hm e1) trivial
  .refine ac0 Tryz.func243 Tryz.ntmps243 [.cell 4 42,.tmp 5] ?_;exact wk1 (x4 q1 q2 hm e1) trivial
  .rw [show sgn true (a.natAbs / 2 ^ k+1)=sgn true (a.natAbs / 2 ^ k)-1 by simp only [sgn,if_true]; omega] at C4;refine ac0 Tryz.func243 Tryz.ntmps243 [.cell 4 42,.tmp 5] ?_;refine wk1 (x4 q1 q2 hm e1) ?_;refine qvq 2 40 λK hK=>?_
   try refine Zz ?_
   refine q1g ?_
   try refine Zz ?_
   refine q0K C3 ?_
   try refine Zz ?_
   refine hK _ _ ?_;exact wk trivial
end
end
end Go.Proofs.YtbjoghfmhgadkaaGreatDoor
namespace Go.Sp
open Go.E
section
def cpS (us o:List Nat) (j i:Nat):List Nat:=us.take j ++ o.take i ++ us.drop (j+i)
def qjK {us o:List Nat} {j i:Nat} (h:j+i<=us.length) (ho:i<=o.length):(cpS us o j i).length=us.length:=by
 simp [cpS]; omega
section
variable {us:List Nat} {n V j:Nat}
def qpQ (h:j+n+1<=us.length) {o:List Nat} (ho:o.length=n+1):((cpS us o j (n+1)).drop j).take (n+1)=o:=by
 unfold cpS;rw [y6,List.drop_append_of_le_length (by simp; omega),zI (by simp; omega),List.nil_append,yL (l:=o) ω,List.take_append_of_le_length ω,yL ω]
end
end
end Go.Sp
namespace Go.Proofs.YtbjoghfmhgadkaaGreatDoor
open Go Go.E Go.Sp
section
attribute [local instance] lNL
end
end Go.Proofs.YtbjoghfmhgadkaaGreatDoor
namespace Go.Sp
open Go.E
section
def cp_un {us o:List Nat} {n j k:Nat} (h:j+n+1<=us.length) (ho:o.length=n+1) (hk:k < j\/j+n < k):(cpS us o j (n+1)).getD k 0=us.getD k 0:=by
 unfold cpS;rw [zA,zA,wJ,wJ];have e1:(us.take j ++ o.take (n+1)).length=j+n+1:=by simp; omega
 have e2:(us.take j).length=j:=by simp; omega
 rw [e1,e2]
 rcases hk with hk | hk
 .rw [if_pos ω,if_pos hk,List.getElem?_take,if_pos hk]
 .rw [if_neg ω,wO,show j+(n+1)+(k-(j+n+1))=k by omega]
def cp_of {us o:List Nat} {j n W:Nat} (hj:j+n+1<=us.length) (hl:o.length=us.length) (ho:q0Z o) (hun:∀ k,k < j\/j+n < k->o.getD k 0=us.getD k 0) (hW:val ((o.drop j).take (n+1))=W):o=cpS us (dgs (n+1) W) j (n+1):=by
 have h1:(o.drop j).take (n+1)=dgs (n+1) W:=q4y ((ho.drop j).take _) (by simp; omega) hW;have e1:o.take j=us.take j:=q9y hl λk hk=>hun k (.inl hk);have e2:o.drop (j+(n+1))=us.drop (j+(n+1)):=q61 hl λk hk=>hun k (.inr Oq);unfold cpS;rw [yL (l:=dgs _ _) (by rw [q1j]; omega),<- h1,<- e1,<- e2,y6,<- List.drop_drop,xA,xA]
end
end Go.Sp
namespace Go.Proofs.YtbjoghfmhgadkaaGreatDoor
open Go Go.E Go.Sp
section
attribute [local instance] lNL
def qfT {x d:Nat} (hm:(lim x).length<=1000000) (hd0:d≠0) (hd:d < 4294967296):ACt 293 [pW (lim x),wv d] (.tu [pW (lim (x / d)),wv (x % d:Nat)]):=by
 obtain ⟨n,hn⟩:∃ n,(lim x).length=n:=⟨_,rfl⟩;have T1:=λ(o:List Nat) (h1:q0Z o) (h2:o.length=n)=>q0T h1 Oq;have e7:((d:Int)=0)=False:=eq_false Oq;have e8:(d=0)=False:=eq_false hd0;have hX:val ((lim x).drop n)=0:=by rw [zI ω]; rfl
 refine ac0 Tryz.func293 Tryz.ntmps293 [.tmp 4,.tmp 5] ?_;refine wk1 hn ?_;refine q0C (λp:Nat × Nat × List Nat=>p.1<=n/\p.2.1 < d/\q0Z p.2.2/\p.2.2.length=n/\d*val (p.2.2.drop p.1)+p.2.1=val ((lim x).drop p.1)/\∀ k,k < p.1->p.2.2.getD k 0=0) [0,1,6] [] Lk Lk (λp=>[(8,iv ((p.1:Int)-1)),(7,uv p.2.1)]) (λp=>[(12,⟨142,none,p.2.2.map λz:Nat=>wv z,false⟩)]) (λp=>p.1) (n,0,List.replicate n 0) ⟨zL _,by simp only; omega,q0Z.replicate _,σ,by rw [hX,zI σ]; simp [val],λk _=>qqd⟩ ?_ ?_
 .refine LeM [] rfl rfl ?_;refine Zz ?_
  rfl
 .rintro ⟨t,r,o⟩ ⟨ht,hr,ho,hl,hv,hz⟩;simp only at ht hr ho hl hv hz
  rcases zO t with h0 | h0
  .subst h0;have c0:¬ (0:Int)<=((0:Nat):Int)-1:=ω
   rw [yG,yG,q0D] at hv;have eQ:val o=x / d:=by rw [<- hv,Nat.mul_add_div ω,xD hr,yM]
   have eR:r=x % d:=by rw [<- hv,Nat.mul_add_mod,zC hr]
   have C1:=T1 o ho hl;rw [eQ] at C1;have mr:r % 4294967296=x % d:=by rw [zC ω,eR]
   have tk1:(o.map λz:Nat=>wv z).take n=o.map λz:Nat=>wv z:=qkO Oq;refine wk1 c0 ?_;refine q4L 1 12 λK hK=>?_
   try refine Zz ?_
   refine q1g ?_
   try refine Zz1 tk1 ?_
   refine q0K C1 ?_
   try refine Zz1 mr ?_
   refine hK _ _ ?_; clear hK K;exact wk trivial
  obtain ⟨j,rfl⟩:∃ j,t=j+1:=⟨t-1,ω⟩;have ej:((j+1:Nat):Int)-1=(j:Int):=ω
  have c0:(0:Int)<=(j:Int):=ω
  obtain ⟨u,hu⟩:∃ u,u=(lim x).getD j 0:=⟨_,rfl⟩;have hdu:u < 4294967296:=by rw [hu]; exact (q0B x).get j
  have ex:=q1J (l:=lim x) (i:=j) Oq;rw [<- hu] at ex;obtain ⟨top,htp⟩:∃ top,top=r*4294967296+u:=⟨_,rfl⟩;have qN:(r*4294967296 % 18446744073709551616 ||| u)=top:=by
   rw [zC ω,wU,show (4294967296:Nat)=2 ^ 32 from rfl,q1t ω,htp,wR]
  have htd:top < d*4294967296:=by
   have:(r+1)*4294967296<=d*4294967296:=yH _ hr;omega
  have hq:top / d < 4294967296:=yV htd;have htl:top < 18446744073709551616:=ω
  have w64:∀ x:Nat,x < 18446744073709551616->IntKind.u64.wrap (x:Int)=(x:Int):=λx h=>u64_in Oq Oq;have e1:Int.tdiv (top:Int) (d:Int)=((top / d:Nat):Int):=rfl;have e2:Int.tmod (top:Int) (d:Int)=((top % d:Nat):Int):=rfl;have e3:=w64 (top / d) Oq;have hmd:=zE top (show 0 < d by omega);have em:(top / d) % 4294967296=top / d:=zC hq;have hdm:=yI top d;refine wk1 (x6 ej c0 ex qN e1 (x6 e2 e3 e7 e8 em hl)) ?_;refine ⟨(j,top % d,o.set j (top / d)),⟨ω,hmd,ho.set _ _ hq,by simp [hl],?_,λk hk=>by rw [q0j ω]; exact hz k ω⟩,by simp only; omega,?_⟩
  .have hset:(o.set j (top / d)).getD j 0=top / d:=by rw [zA,zP ω]; rfl
   have hdr:(o.set j (top / d)).drop (j+1)=o.drop (j+1):=q61 σ λk hk=>q0j ω;rw [q1P _ j,q1P (lim x) j,hset,hdr,<- hu];simp only [val];rw [<- hv];have hBB:B=4294967296:=rfl;rw [hBB,yA,y7 d,yA];omega
  .refine LeM [] rfl rfl ?_;exact Zy
def qhM {us vs:List Nat} {n j:Nat} (ha:q0Z us) (hv:q0Z vs) (hn:vs.length=n) (hj:j+n+1<=us.length) (hm:us.length<=1000000000) (hn2:2<=n) (htop:2147483648<=vs.getD (n-1) 0) (hlt:val ((us.drop j).take (n+1)) < B*val vs) :
  AI 295 [.ow 5000 none j (n+1),pW vs] 142 (us.map λz:Nat=>wv z) (wv (val ((us.drop j).take (n+1)) / val vs:Nat)) ((cpS us (dgs (n+1) (val ((us.drop j).take (n+1)) % val vs)) j (n+1)).map λz:Nat=>wv z):=by
 have hcl:=qjK (us:=us) (o:=dgs (n+1) (val ((us.drop j).take (n+1)) % val vs)) (j:=j) (i:=n+1) ω (by rw [q1j]; omega);have hfin:=λ(o:List Nat) (h1:o.length=us.length) (h2:q0Z o) (h3:∀ k,k < j\/j+n < k->o.getD k 0=us.getD k 0) (h4:val ((o.drop j).take (n+1))=val ((us.drop j).take (n+1)) % val vs)=>cp_of hj h1 h2 h3 h4;have en1:(n:Int)-1=((n-1:Nat):Int):=ω
 have en2:(n:Int)-2=((n-2:Nat):Int):=ω
 have ux0:=q1J (l:=us) (i:=j+n) Oq;have ux1:=q1J (l:=us) (i:=j+(n-1)) Oq;have ux2:=q1J (l:=us) (i:=j+(n-2)) Oq;have y1:=q1J (l:=vs) (i:=n-1) Oq;have y2:=q1J (l:=vs) (i:=n-2) Oq;have b0:=ha.get (j+n);have b1:=ha.get (j+(n-1));have b2:=ha.get (j+(n-2));have c1:=hv.get (n-1);have c2:=hv.get (n-2);obtain ⟨lv,hlv1,hlv2⟩:∃ low,low < B ^ (n-2)/\val vs=low+B ^ (n-2)*(vs.getD (n-2) 0+B*vs.getD (n-1) 0):=by
  obtain ⟨low,h1,h2⟩:=top2 (n:=n) hv hn2;rw [q0G vs n ω] at h2;exact ⟨low,h1,h2⟩
 obtain ⟨lu,hlu1,hlu2⟩:∃ low,low < B ^ (n-2)/\val ((us.drop j).take (n+1))=low+B ^ (n-2)*(us.getD (j+(n-2)) 0+B*us.getD (j+(n-1)) 0+B*B*us.getD (j+n) 0):=by
  obtain ⟨low,h1,h2⟩:=top2 (l:=us.drop j) (n:=n) (ha.drop j) hn2;refine ⟨low,h1,?_⟩;rw [q2D,h2];have e:∀ i,(us.drop j).getD i 0=us.getD (j+i) 0:=λi=>by rw [zA,wO,<- zA]
  rw [e,e,show B ^ n=B ^ (n-2)*(B*B) by rw [<- Nat.pow_two,<- zX]; congr 1; omega,uH,xG,<- yA]
 have hUs:=q2D us j n;have hVM:val vs<=B ^ (n+1):=by
  have h1:=q1a hv;rw [hn] at h1;exact zU (y8 h1) (zJ q0q (Nat.le_succ n))
 refine ai0 Tryz.func295 Tryz.ntmps295 [.tmp 4] clW clW (by simp [hcl]) ?_;clear hcl;generalize hU:val ((us.drop j).take (n+1))=U at *;generalize hV:val vs=V at *;generalize hu0:us.getD (j+n) 0=u0 at *;generalize hu1:us.getD (j+(n-1)) 0=u1 at *;generalize hu2:us.getD (j+(n-2)) 0=u2 at *;generalize hv1:vs.getD (n-1) 0=v1 at *;generalize hv0:vs.getD (n-2) 0=v0 at *;obtain ⟨top,htp⟩:∃ top,top=u0*4294967296+u1:=⟨_,rfl⟩;have hBB:B=4294967296:=rfl;rw [hBB] at b0 b1 b2 c1 c2;have qN:(u0*4294967296 % 18446744073709551616 ||| u1)=top:=by
  rw [zC ω,wU,show (4294967296:Nat)=2 ^ 32 from rfl,q1t ω,htp,wR]
 obtain ⟨p,hp⟩:∃ p,p=B ^ (n-2):=⟨_,rfl⟩;rw [<- hp] at hlu1 hlu2 hlv1 hlv2;have hp0:0 < p:=ω
 have hT:u2+B*u1+B*B*u0=top*B+u2:=by
  rw [htp,<- hBB,uI,zF u0 B,Nat.mul_right_comm,zF u1 B]; omega
 rw [hT] at hlu2;have hUlo:(top*B+u2)*p<=U:=by rw [hlu2,zF]; omega
 have hUhi:U < (top*B+u2+1)*p:=by rw [hlu2,uI (top*B+u2),wH,zF p]; omega
 have hVe:v0+B*v1=v1*B+v0:=by rw [zF]; omega
 rw [hVe] at hlv2;have hVlo:(v1*B+v0)*p<=V:=by rw [hlv2,zF]; omega
 have hVhi:V<=(v1*B+v0+1)*p:=by rw [hlv2,uI (v1*B+v0),wH,zF p]; omega
 have htt:top < v1*B+B:=by
  have h1:(top*B+u2)*p < B*((v1*B+v0+1)*p):=zY hUlo (zK hlt (yK B hVhi));rw [<- uH] at h1;have h2:=xS h1;have h3:top*B < (v1*B+v0+1)*B:=by rw [zF B] at h2; omega
  have:=xS h3;omega
 have hBv:B<=v1*B:=Nat.le_mul_of_pos_left B Oq;have hV0:0 < V:=by
  have h1:1*1<=(v1*B+v0)*p:=yS Oq hp0;omega
 have htop64:top < 18446744073709551616:=ω
 have hd1:top / v1 < 18446744073709551616:=zY (yJ _ _) htop64;have hd2:=zE top (show 0 < v1 by omega);have e1:Int.tdiv (top:Int) (v1:Int)=((top / v1:Nat):Int):=rfl;have e2:Int.tmod (top:Int) (v1:Int)=((top % v1:Nat):Int):=rfl;have w64:∀ x:Nat,x < 18446744073709551616->IntKind.u64.wrap (x:Int)=(x:Int):=λx h=>u64_in Oq Oq;have e3:=w64 _ hd1;have e4:((v1:Int)=0)=False:=eq_false Oq;have e5:(v1=0)=False:=eq_false Oq;refine wk1 (x6 hn en1 ux0 ux1 y1 (x6 qN e1 e2 e3 e4 e5)) ?_;refine A_jx (λq:Nat=>U < (q+1)*V/\(q-1)*V<=U/\q < B) (λq=>[(0,.ow 5000 none j (n+1)),(1,pW vs),(5,iv n),(7,uv q)]) (λ_=>[(5000,⟨142,none,us.map λz:Nat=>wv z,false⟩)]) ?_ λK fin=>?_
 rotate_left
 .refine q0C (λp:Nat × Nat=>p.2+p.1*v1=top/\p.2 < B/\U < (p.1+1)*V) [0,1,5] [5000] Lk Lk (λp=>[(7,uv p.1),(8,uv p.2)]) (λ_=>[]) (λp=>p.1) (top / v1,top % v1) ⟨by rw [zF]; exact wD top v1,by show top % v1 < B; omega,qdh hUhi hVlo rfl b2 ω⟩ ?_ ?_
  .refine LeM [] rfl rfl ?_;exact Zy
  .rintro ⟨q,rest⟩ ⟨hr,hrB,hqU⟩;simp only at hr hrB hqU;have hqv:q<=top:=by
    have:q*1<=q*v1:=yK q Oq;omega
   have gN:(rest*4294967296 % 18446744073709551616 ||| u2)=rest*B+u2:=by
    rw [zC ω,wU,show (4294967296:Nat)=2 ^ 32 from rfl,q1t ω,wR]; rfl
   by_cases hst:q < B/\¬ rest*B+u2 < q*v0
   .obtain ⟨hqB,hc⟩:=hst;have hqv0:q*v0<=4294967295*4294967295:=yS Oq Oq;have q1:¬ (4294967295:Int) < q:=ω
    have q2:¬ ((rest*B+u2:Nat):Int) < ((q*v0:Nat):Int):=ω
    refine wk1 (x6 en2 ux2 y2 gN q1 q2) ?_;refine fin q _ _ ⟨hqU,qdi hUlo hVhi rfl hr Oq Oq,hqB⟩ ?_;refine LeM [] rfl rfl ?_;exact Zy
   .have hUq:U < q*V:=by
     by_cases hqB:q < B
     .exact qmS hUhi hVlo rfl hr Oq
     .exact zK hlt (yH V Oq)
    have hq0:0 < q:=by
     rcases zO q with h | h
     .subst h; rw [xO] at hUq; omega
     .exact h
    have d1:IntKind.u64.wrap ((q:Int)-1)=((q-1:Nat):Int):=by rw [u64_in ω ω]; omega
    have hq1:(rest+v1)+(q-1)*v1=top:=by
     obtain ⟨k,rfl⟩:∃ k,q=k+1:=⟨q-1,ω⟩;rw [uI,wH] at hr;rw [Nat.add_sub_cancel]; omega
    have hq2:U < (q-1+1)*V:=by rw [Nat.sub_add_cancel hq0]; exact hUq
    have q5M:B<=rest+v1->q-1 < B/\(q-1-1)*V<=U:=λhb=>by
     obtain ⟨z1,z2⟩:=qhD (u0:=u2) hq1 htt hb c2;exact ⟨z1,qdi hUlo hVhi rfl hq1 z2 Oq⟩
    rcases yE (rest+v1) B with hb | hb
    .have q3:¬ (4294967295:Int) < ((rest+v1:Nat):Int):=ω
     rcases yE q B with hqB | hqB
     .have hqv0:q*v0<=4294967295*4294967295:=yS Oq Oq;have q1:¬ (4294967295:Int) < q:=ω
      have q2:((rest*B+u2:Nat):Int) < ((q*v0:Nat):Int):=ω
      refine wk1 (x6 en1 en2 ux2 y1 y2 (x5 gN q1 q2 d1 q3)) ?_;refine ⟨(q-1,rest+v1),⟨hq1,hb,hq2⟩,by simp only; omega,?_⟩;refine LeM [] rfl rfl ?_;exact Zy
     .have q1:(4294967295:Int) < q:=ω
      refine wk1 (x6 en1 en2 ux2 y1 y2 (x4 gN q1 d1 q3)) ?_;refine ⟨(q-1,rest+v1),⟨hq1,hb,hq2⟩,by simp only; omega,?_⟩;refine LeM [] rfl rfl ?_;exact Zy
    .have q3:(4294967295:Int) < ((rest+v1:Nat):Int):=ω
     obtain ⟨f1,f2⟩:=q5M hb
     rcases yE q B with hqB | hqB
     .have hqv0:q*v0<=4294967295*4294967295:=yS Oq Oq;have q1:¬ (4294967295:Int) < q:=ω
      have q2:((rest*B+u2:Nat):Int) < ((q*v0:Nat):Int):=ω
      refine wk1 (x6 en1 en2 ux2 y1 y2 (x5 gN q1 q2 d1 q3)) ?_;refine fin (q-1) _ _ ⟨hq2,f2,f1⟩ ?_;refine LeM [] rfl rfl ?_;exact Zy
     .have q1:(4294967295:Int) < q:=ω
      refine wk1 (x6 en1 en2 ux2 y1 y2 (x4 gN q1 d1 q3)) ?_;refine fin (q-1) _ _ ⟨hq2,f2,f1⟩ ?_;refine LeM [] rfl rfl ?_;exact Zy
 .rintro q ⟨hqU,hqL,hqB⟩;rw [hBB] at hqB;refine wk1 hn ?_;refine q0C (λp:Nat × Nat × Nat × List Nat=>p.1<=n/\p.2.1 < 4294967296/\p.2.2.1<=1/\q0Z p.2.2.2/\p.2.2.2.length=us.length/\(∀ k,k < j\/j+p.1<=k->p.2.2.2.getD k 0=us.getD k 0)/\val ((p.2.2.2.drop j).take p.1)+q*val (vs.take p.1)=val ((us.drop j).take p.1)+B ^ p.1*(p.2.1+p.2.2.1)) [0,1,5,7,84,85] [] Lk Lk (λp=>[(86,iv p.1),(9,uv p.2.1),(10,uv p.2.2.1)]) (λp=>[(5000,⟨142,none,p.2.2.2.map λz:Nat=>wv z,false⟩)]) (λp=>n-p.1) (0,0,0,us) ⟨zD _,σ,zD _,ha,rfl,λ_ _=>rfl,by simp [val]⟩ ?_ ?_
  .refine LeM [] rfl rfl ?_;refine Zz ?_
   rfl
  .rintro ⟨i,cr,br,o⟩ ⟨hi,hc,hb,ho,hl,hun,hw⟩;simp only at hi hc hb ho hl hun hw
   by_cases hin:i < n
   .have q1:(i:Int) < n:=ω
    obtain ⟨x,hx⟩:∃ x,x=vs.getD i 0:=⟨_,rfl⟩;have hdx:x < 4294967296:=by rw [hx]; exact hv.get i
    have hqx:q*x<=4294967295*4294967295:=yS Oq Oq;obtain ⟨P,hP⟩:∃ P,P=q*x+cr:=⟨_,rfl⟩;have hdu:us.getD (j+i) 0 < 4294967296:=ha.get (j+i);have ex:=q1J (l:=vs) (i:=i) Oq;have eo:=q1J (l:=o) (i:=j+i) Oq;rw [<- hx] at ex;rw [hun _ (.inr (zL _))] at eo;have ap:=q1U (a:=P) Oq;have hP2:=hP.symm;have key:∀ t,t=((us.getD (j+i) 0+(18446744073709551616-P % 4294967296)) % 18446744073709551616+(18446744073709551616-br)) % 18446744073709551616->i+1<=n/\P / 4294967296 < 4294967296/\t / 4294967296 % 2<=1/\q0Z (o.set (j+i) (t % 4294967296))/\(o.set (j+i) (t % 4294967296)).length=us.length/\(∀ k,k < j\/j+(i+1)<=k->(o.set (j+i) (t % 4294967296)).getD k 0=us.getD k 0)/\val (((o.set (j+i) (t % 4294967296)).drop j).take (i+1))+q*val (vs.take (i+1))=val ((us.drop j).take (i+1))+B ^ (i+1)*(P / 4294967296+t / 4294967296 % 2):=λt ht=>by
     have ht1:t=(us.getD (j+i) 0+18446744073709551616-P % 4294967296-br) % 18446744073709551616:=ω
     rw [hP] at ht1;have key:=qc9 hw hdu hb ht1;have hset:(o.set (j+i) (t % 4294967296)).getD (j+i) 0=t % 4294967296:=by rw [zA,zP ω]; rfl
     refine ⟨ω,yV ω,ω,ho.set _ _ (zE _ q0q),by simp [hl],λk hk=>?_,?_⟩
     .rw [q0j ω]; exact hun k ω
     .rw [q2D,q9R,hset,vts vs,q2D us,<- hx,hP];exact key
    refine wk1 (x6 q1 ex eo hP2 ap (x5 @q48 @q1U @q6c yB hl)) ?_;refine ⟨(i+1,_,_,_),key _ rfl,by simp only; omega,?_⟩;refine LeM [] rfl rfl ?_;refine Zz ?_;omega
   .have q1:¬ (i:Int) < n:=ω
    obtain rfl:n=i:=ω
    rw [q0G vs n ω,hV] at hw;have en:=q1J (l:=o) (i:=j+n) Oq;rw [hun _ (.inr (zL _)),hu0] at en;obtain ⟨t,ht⟩:∃ t,t=((u0+(18446744073709551616-cr)) % 18446744073709551616+(18446744073709551616-br)) % 18446744073709551616:=⟨_,rfl⟩;have htl:t < 18446744073709551616:=ω
    have ht1:t=(u0+18446744073709551616-cr-br) % 18446744073709551616:=ω
    obtain ⟨o1,ho1⟩:∃ o1,o1=o.set (j+n) (t % 4294967296):=⟨_,rfl⟩;have ho1a:q0Z o1:=by rw [ho1]; exact ho.set _ _ (zE _ q0q)
    have ho1l:o1.length=us.length:=by rw [ho1]; simp [hl]
    have hun1:∀ k,k < j\/j+n < k->o1.getD k 0=us.getD k 0:=λk hk=>by rw [ho1,q0j ω]; exact hun k ω
    have hset:o1.getD (j+n) 0=t % 4294967296:=by rw [ho1,zA,zP ω]; rfl
    have hpre:(o1.drop j).take n=(o.drop j).take n:=by rw [ho1,q9R]
    obtain ⟨ng,hng⟩:∃ ng,ng=t / 4294967296 % 2:=⟨_,rfl⟩;obtain ⟨key,hng1⟩:=qfl hw b0 Oq ht1;rw [<- hng] at key hng1;obtain ⟨W1,hW1⟩:∃ W1,W1=val ((o1.drop j).take (n+1)):=⟨_,rfl⟩;have hW1':W1=val ((o.drop j).take n)+B ^ n*(t % 4294967296):=by rw [hW1,q2D,hset,hpre]
    rw [<- hW1',<- hUs] at key;have hWM:W1 < B ^ (n+1):=by
     have:=q1a (ho1a.drop j |>.take (n+1));rw [yW,x7,show min (n+1) (o1.length-j)=n+1 by omega] at this;rw [hW1]; exact this
    obtain ⟨hd0,hd1'⟩:=qds hV0 hqL hqU hWM hVM key hng1;have am:=q1U (a:=t) htl;have aon:=q6c (a:=t / 4294967296) Oq;have mq:=zC hqB;have ht2:=ht.symm
    by_cases hz:ng=0
    .obtain ⟨r1,r2⟩:=hd0 hz;rw [r1,<- hfin o1 ho1l ho1a hun1 (by rw [<- hW1,r2])];have qz:((t / 4294967296 % 2:Nat):Int)=0:=ω
     have qz2:t / 4294967296 % 2=0:=ω
     refine wk1 (x6 q1 en @q48 ht2 am (x6 aon yB hl qz qz2 mq)) ?_;refine qi4 rfl (by rw [ho1,xN]; exact q0O)
    .have hz1:ng=1:=ω
     obtain ⟨r0,r1,r2,r3⟩:=hd1' hz1;have qz:((t / 4294967296 % 2:Nat):Int)=1:=ω
     have qz2:t / 4294967296 % 2=1:=ω
     refine wk1 (x6 q1 en @q48 ht2 am (x6 aon yB hl qz qz2 hn)) ?_;clear hun hw;refine q0C (λp:Nat × Nat × List Nat=>p.1<=n/\p.2.1<=1/\q0Z p.2.2/\p.2.2.length=us.length/\(∀ k,k < j\/j+p.1<=k->p.2.2.getD k 0=o1.getD k 0)/\val ((p.2.2.drop j).take p.1)+B ^ p.1*p.2.1=val ((o1.drop j).take p.1)+val (vs.take p.1)) [0,5,7,140,141] [] Lk Lk (λp=>[(142,iv p.1),(9,uv p.2.1)]) (λp=>[(5000,⟨142,none,p.2.2.map λz:Nat=>wv z,false⟩)]) (λp=>n-p.1) (0,0,o1) ⟨zD _,zD _,ho1a,ho1l,λ_ _=>rfl,by simp [val]⟩ ?_ ?_
     .refine LeM [] rfl rfl ?_;refine Zz ?_;exact ⟨rfl,ho1.symm⟩
     .rintro ⟨i,c4,o4⟩ ⟨hi4,hc4,ho4,hl4,hun4,hw4⟩;simp only at hi4 hc4 ho4 hl4 hun4 hw4
      by_cases hin4:i < n
      .have q1:(i:Int) < n:=ω
       obtain ⟨x,hx⟩:∃ x,x=vs.getD i 0:=⟨_,rfl⟩;have hdx:x < 4294967296:=by rw [hx]; exact hv.get i
       obtain ⟨a,hae⟩:∃ a,a=o1.getD (j+i) 0:=⟨_,rfl⟩;have hda:a < 4294967296:=by rw [hae]; exact ho1a.get (j+i)
       have ex:=q1J (l:=vs) (i:=i) Oq;have eo:=q1J (l:=o4) (i:=j+i) Oq;rw [<- hx] at ex;rw [hun4 _ (.inr (zL _)),<- hae] at eo;obtain ⟨s,hs⟩:∃ s,s=a+x+c4:=⟨_,rfl⟩;have asl:=q1U (a:=s) Oq;have key:=qnk (a:=a) (x:=x) hw4;rw [<- hs] at key;refine wk1 (x6 q1 ex eo hs.symm asl (x2 yB hl4)) ?_;refine ⟨(i+1,s / 4294967296,o4.set (j+i) (s % 4294967296)),⟨ω,(show s / 4294967296<=1 by omega),ho4.set _ _ (zE _ q0q),by simp [hl4],λk hk9=>?_,?_⟩,by simp only; omega,?_⟩
       .rw [q0j ω]; exact hun4 k ω
       .have hset4:(o4.set (j+i) (s % 4294967296)).getD (j+i) 0=s % 4294967296:=by rw [zA,zP ω]; rfl
        show val (((o4.set (j+i) (s % 4294967296)).drop j).take (i+1))+B ^ (i+1)*(s / 4294967296)=val ((o1.drop j).take (i+1))+val (vs.take (i+1))
        rw [q2D,q9R,hset4,vts vs,q2D o1,<- hx,<- hae];omega
       .refine LeM [] rfl rfl ?_;refine Zz ?_;omega
      .have q1:¬ (i:Int) < n:=ω
       obtain rfl:n=i:=ω
       rw [q0G vs n ω,hV] at hw4;have en4:=q1J (l:=o4) (i:=j+n) Oq;rw [hun4 _ (.inr (zL _))] at en4;have hda:o1.getD (j+n) 0 < 4294967296:=ho1a.get (j+n);have hs1:=q2D o1 j n;rw [<- hW1] at hs1;generalize o1.getD (j+n) 0=a at *;have hZ:val ((o4.drop j).take n) < B ^ n:=by
        have:=q1a (ho4.drop j |>.take n);rw [yW,x7,show min n (o4.length-j)=n by omega] at this;exact this
       have hf:=qex (a:=a) (cr:=c4) (S:=W1+V) hZ (by rw [yA,hs1]; omega);rw [r2] at hf;have u1':IntKind.u32.wrap ((a:Int)+((c4:Nat):Int))=(((a+c4) % 4294967296:Nat):Int):=by
        rw [<- Int.natCast_add]; exact w32N
       have hcm:c4 % 4294967296=c4:=zC Oq;have d1':IntKind.u64.wrap ((q:Int)-1)=((q-1:Nat):Int):=by rw [u64_in ω ω]; omega
       have hqm1:(q-1) % 4294967296=q-1:=zC Oq;have hset4:(o4.set (j+n) ((a+c4) % 4294967296)).getD (j+n) 0=(a+c4) % 4294967296:=by rw [zA,zP ω]; rfl
       rw [r1,<- hfin (o4.set (j+n) ((a+c4) % 4294967296)) (by simp [hl4]) (ho4.set _ _ (zE _ q0q)) (λk hk=>by rw [q0j ω,hun4 k ω]; exact hun1 k hk) (by rw [q2D,q9R,hset4]; exact hf)];refine wk1 (x6 q1 en4 hcm u1' d1' (x2 hqm1 hl4)) ?_;refine qi4 rfl (by rw [xN]; exact q0O)
end
end Go.Proofs.YtbjoghfmhgadkaaGreatDoor
namespace Go.E
open Go Go.RowKit
section
variable {P:Program} {D0:Nat->Prop} {w0:Base} {s:Nat->PV} {h:Hp} {ρ:Nat->Option Nat} {e:Env} {w:World}
def Sat.copy [NL] (S:Sat D0 w0 s h ρ e w) {a b:Operand} {id n:Nat} {T ty dT elem:TypeId} {xs ys:List PV} (ha:pe s a=.ow id none 0 n) (hi:h id=some ⟨T,none,xs,false⟩) (hn:n=xs.length) (hb:pe s b=.sl none ys) (h0:0 < ys.length) (hle:ys.length<=n)
  (hu:P.underlying dT=some (.slice elem)) (hs:(P.info? elem).map (·.size)=some 1):∃ w',(Builtin.copy_ #[dT,dT] ty #[ev e a,ev e b]).run P w=.ok (goInt ys.length) w'/\Sat D0 w0 s (q0R h id ⟨T,none,ys ++ xs.drop ys.length,false⟩) ρ e w':=by
 have hra:=S.pex a;rw [ha] at hra;unfold Rd at hra;obtain ⟨b',A,c,h1,_,hA,h3,h4,h5,h6,-⟩:=hra;rw [hi] at h1; cases h1;have hrb:=S.pex b;rw [hb] at hrb;unfold Rd at hrb;obtain ⟨A2,n2,c2,vs2,hB,⟨r1,r2,r3⟩,hl2,hv2,hf2⟩:=hrb
 rcases h6 with h6 | ⟨g,g1,g2,-⟩
 .omega
 rw [xO] at g2;subst g2;obtain ⟨cs,c1,c2',c3⟩:=(S.own id _ g hi g1).2.reg (by intro h; cases h);obtain ⟨vs,v1,v2,v3⟩:=c3 rfl;have hfl:(q0X vs2).length=n2:=by rw [r2]; exact wK n2
 have hlv:vs.length=xs.length:=v2.len;change (0:Nat)+n<=xs.length at h5;simp only [show ksz none=1 from rfl,wK] at v1;have hcs:∀ v ∈ vs,v.cells.size=1:=λv hv=>(v3 v hv).size;have hcz:xs.length<=cs.size:=by
  have:=congrArg List.length v1;rw [yW,q0e hcs,hlv,wK] at this;have e:cs.toList.length=cs.size:=wM;omega
 obtain ⟨ad,rfl,hD,hcell⟩:=r3 Oq;have hrun:=run_copy_row (P:=P) w dT dT ty elem g 0 n c ad n2 c2 cs T (q0X vs2) hu hs c1 (by rw [hfl]; exact (Nat.min_eq_left ω).symm) hcell (by rw [hfl]; omega) (λv hv=>by
  unfold q0X at hv;obtain ⟨u,hu1,hu2⟩:=List.mem_flatMap.1 hv;exact ((hf2 u hu1).one v hu2).1)
 rw [hA,hB];refine ⟨_,by rw [hfl] at hrun; rw [hl2]; exact hrun,?_⟩;rw [xQ,List.nil_append,zN];refine (S.write (w':=w.setRow g (q0X vs2 ++ cs.toList.drop n2).toArray) (b:=⟨T,none,xs,false⟩) (b':=⟨T,none,ys ++ xs.drop ys.length,false⟩) (cs':=(q0X vs2 ++ cs.toList.drop n2).toArray) (vs:=vs2 ++ vs.drop n2) hi g1 rfl ⟨rfl,rfl,rfl,σ,λk _ hk=>setRow_other w g k _ hk⟩ c1 ?_ (setRow_heap w g _ _ _ _ c1) ?_ rfl rfl rfl ?_ ?_ ?_ ?_).1
 .rw [List.size_toArray,wN,hfl,x7,wM]; omega
 .intro u hu1;simp only [yY] at hu1
  rcases hu1 with hu1 | hu1
  .unfold q0X at hu1;obtain ⟨v,q1,q2⟩:=List.mem_flatMap.1 hu1;exact ((hf2 v q1).one u q2).2
  .exact c2' u (wL hu1)
 .simp; omega
 .have e1:(ys ++ xs.drop ys.length).length*ksz none=xs.length:=by simp [ksz]; omega
  rw [e1,q3W,q3V hcs,<- v1,wK,List.take_append,yL ω,hfl,<- List.drop_take]
 .rw [hl2]; exact hv2.cl.app (v2.drop n2)
 .intro v hv
  rcases yY.1 hv with hv | hv
  .exact hf2 v hv
  .exact v3 v (wL hv)
def cpK (P:Program) (s:Nat->PV) (h:Hp) (a b:Operand) (d dT:Nat) (C:(Nat->PV)->Hp->Prop):Prop:=∃ id n T xs ys elem,pe s a=.ow id none 0 n/\h id=some ⟨T,none,xs,false⟩/\n=xs.length/\pe s b=.sl none ys/\(0 < ys.length/\ys.length<=n)/\(P.underlying dT=some (.slice elem)/\(P.info? elem).map (·.size)=some 1)/\C (pu s d (.vl (.int .i64 (ys.length:Nat)))) (q0R h id ⟨T,none,ys ++ xs.drop ys.length,false⟩)
def qtG {a b:Operand} {d dT id n T elem:Nat} {xs ys:List PV} {C:(Nat->PV)->Hp->Prop} (ha:pe s a=.ow id none 0 n) (hh:h id=some ⟨T,none,xs,false⟩) (hn:n=xs.length) (hb:pe s b=.sl none ys) (h0:0 < ys.length) (hle:ys.length<=n) (hu:P.underlying dT=some (.slice elem)) (hs:(P.info? elem).map (·.size)=some 1)
  (hC:C (pu s d (.vl (.int .i64 (ys.length:Nat)))) (q0R h id ⟨T,none,ys ++ xs.drop ys.length,false⟩)):cpK P s h a b d dT C:=⟨id,n,T,xs,ys,elem,ha,hh,hn,hb,⟨h0,hle⟩,⟨hu,hs⟩,hC⟩
variable {Tb:World->Prop} {J:Nat->Prop} {n:Nat} {Q:SQ}
def A_cpr [NL] {i d dT ty:Nat} {a b:Operand} {pos:String} {af:Array Edge} {l:List Oper} {c:Code} (k:Nat) {l1:List Oper} (hw:∀ K:(Nat->PV)->Hp->Prop,(∀ s h,AW P Tb J n c Q s h->K s h)->AL P Tb l (λs1 h1 _=>cpK P s1 h1 a b d dT K) l1 s h [])
  (e1:l.take k=l1:=by simp only [xL,xQ]; rfl) (e2:l.drop k=[⟨some d,.call ⟨.builtin .copy,#[a,b],#[dT,dT]⟩,ty,pos,af,none⟩]:=by simp only [xM,yG]; rfl):AW P Tb J n (.seq (.region i l.toArray false) c) Q s h:=by
 subst e1;refine q4I λK hK D0 w0 ρ e w hT hF S=>?_;refine q1E (q8v k _ _ _ ?_);rw [e2];refine qbO (K':=λe' w'=>WL P l.toArray (λe' w'=>∃ s' h' ρ',Sat D0 w0 s' h' ρ' e' w'/\thA K Q .normal s' h') [⟨some d,.call ⟨.builtin .copy,#[a,b],#[dT,dT]⟩,ty,pos,af,none⟩] e' w') hT.1 hF _ s h [] ρ e w (λs h acc ρ e w S hq=>?_) (hw K λs h hb=>hK s h hb) S;obtain ⟨id,m,T,xs,ys,elem,q1,q2,q3,q4,⟨q5,q6⟩,⟨q7,q8⟩,hC⟩:=hq;obtain ⟨w',hr,S'⟩:=S.copy (ty:=ty) q1 q2 q3 q4 q5 q6 q7 q8;have hwt:q5N l.toArray e ⟨some d,.call ⟨.builtin .copy,#[a,b],#[dT,dT]⟩,ty,pos,af,none⟩=true:=rfl;unfold WL WG;rw [if_pos hwt];unfold WO;simp only [execOp,resolve,invoke,builtin,Sem.run_bind,Sem.run_pure,Result.andThen_ok,List.map_toArray,xF,List.map_nil];rw [hr];simp only [Result.andThen_ok,Sem.run_pure,RO];unfold WL;refine ⟨_,_,ρ,S'.put d ?_,hC⟩;unfold Rd; rfl
end
section
def LeMF [NL] {h:Hp} {s:Nat->PV} {xs kv:List (Nat × PV)} {bs:List (Nat × Bk)} {kb:List (Nat × Option Bk)} (l:List (Nat × Option Nat)) {τ:Nat->Option Nat} (hlt:q04 l=τ) (hh:q6j τ h (hpM bs kb) s xs/\q6j τ h (hpM bs kb) s kv/\q9B τ h (hpM bs kb) bs/\qbM τ h (hpM bs kb) kb/\q46 τ (bs.map (·.1) ++ kb.map (·.1))):Le (λ_=>False) s h (stM xs kv) (hpM bs kb):=by
 obtain ⟨h1,h2,h3,h4,h5⟩:=hh;refine q8y τ (λi b hb=>(q2o h4 h3 i b hb).1) (λi j k b c hi hj ti tj=>?_) (λt=>q5p h2 h1 t) λ_ hi=>hi.elim
 rcases q2U h5 i (q2o h4 h3 i b hi).2 j (q2o h4 h3 j c hj).2 with h | h | h
 .exact h
 .rw [ti] at h; cases h
 .rw [ti,tj] at h; exact absurd rfl h
end
end Go.E
namespace Go.Proofs.YtbjoghfmhgadkaaGreatDoor
open Go Go.E Go.Sp
section
attribute [local instance] lNL
def q7e {x y:Nat} (hb:bl x<=20000000) (hby:bl y<=20000000) (hy0:y≠0):ACt 276 [pW (lim x),pW (lim y)] (.tu [pW (lim (x / y)),pW (lim (x % y))]):=by
 have hlx:=q6r hb;have hly:=q6r hby;obtain ⟨n,hn⟩:∃ n,(lim x).length=n:=⟨_,rfl⟩;obtain ⟨m,hm⟩:∃ m,(lim y).length=m:=⟨_,rfl⟩;have C1:=q3s (x:=x) (y:=y) Oq Oq
 by_cases hlt:x < y
 .have q:q2m x y < 0:=by unfold q2m; rw [if_pos hlt]; omega
  have C2:=q31 (l:=lim x) Oq;rw [xD hlt,zC hlt];refine ac0 Tryz.func276 Tryz.ntmps276 [.tmp 4,.tmp 5] ?_;exact wk1 (x2 q q2G) trivial
 have hyx:y<=x:=ω
 have q:¬ q2m x y < 0:=by unfold q2m; rw [if_neg ω]; split <;> omega
 have hbyx:bl y<=bl x:=q1T hyx;have hnn:m<=n:=by rw [<- hn,<- hm]; exact q0i hyx
 have hm1:1<=m:=by rw [<- hm]; exact (q0I (n:=y)).2 hy0
 by_cases hmm:m=1
 .obtain ⟨d,hd⟩:∃ d,lim y=[d]:=List.length_eq_one_iff.1 Oq;have hdy:d=y:=by have:=q0D y; rw [hd,q45] at this; exact this
  subst hdy;have hdB:d < 4294967296:=by have:=q0B d; rw [hd] at this; exact this d z6
  have C2:=qfT (x:=x) Oq hy0 hdB;have hrB:x % d < 4294967296:=wS (zE _ Oq) hdB;have T1:=q0T (l:=[x % d]) (.one hrB) σ;rw [q45] at T1;have q2:(m:Int)=1:=ω
  rw [hd] at C1 ⊢;refine ac0 Tryz.func276 Tryz.ntmps276 [.tmp 4,.tmp 5] ?_;refine wk1 q ?_;refine q4L 3 32 λK hK=>?_
  try refine Zz ?_
  refine q1g ?_
  try refine Zz ?_
  refine q0K T1 ?_
  try refine Zz ?_
  refine hK _ _ ?_;exact wk trivial
 have hlast:=q6U hy0;have hbl:=q7s hy0;rw [hm] at hlast hbl;obtain ⟨vt,hvt⟩:∃ vt,vt=(lim y).getD (m-1) 0:=⟨_,rfl⟩;have e0:=q1J (l:=lim y) (i:=m-1) Oq;rw [<- hvt] at hlast hbl e0;have hvt2:vt < 4294967296:=by rw [hvt]; exact (q0B y).get (m-1)
 have hvb:bl vt<=32:=q0M hvt2;have hvb0:=q5D hlast;obtain ⟨s,hs⟩:∃ s,s=32-bl vt:=⟨_,rfl⟩;have C2:=qlX hvt2;rw [<- hs] at C2;obtain ⟨V,hV⟩:∃ V,V=y*2 ^ s:=⟨_,rfl⟩;obtain ⟨X,hX⟩:∃ X,X=x*2 ^ s:=⟨_,rfl⟩;have S1:=qkL (x:=x) (m:=s) hn Oq Oq;have S2:=qkL (x:=y) (m:=s) hm Oq Oq;rw [<- hX] at S1;rw [<- hV] at S2;have hblV:bl V=32*m:=by rw [hV,q1X hy0]; omega
 have hV0:V≠0:=by rw [hV]; exact wQ (Nat.mul_pos ω (q0F s))
 have hlV:(lim V).length=m:=by rw [q9d,hblV]; omega
 have hVB:V < B ^ m:=by have:=q08 V; rw [hlV] at this; exact this
 have hyp:B ^ (m-1)<=y:=by have:=q3l hy0; rw [hm] at this; exact this
 have htopV:2147483648<=(lim V).getD (m-1) 0:=by
  have h1:=q7s hV0;rw [hlV,hblV] at h1;have h2:=q6a (q6U hV0);rw [hlV,show bl ((lim V).getD (m-1) 0)=32 by omega] at h2;exact h2
 obtain ⟨lq,hlq⟩:∃ lq,lq=n+1-m:=⟨_,rfl⟩;have e1:(m:Int)-1=(m-1:Nat):=ω
 have e2:((n+1:Nat):Int)-(m:Int)=(lq:Int):=ω
 have e3:(n:Int)+1=((n+1:Nat):Int):=rfl;have q2:¬ (m:Int)=1:=ω
 have hxn:x < B ^ n:=by rw [<- hn]; exact q08 x
 have hXB:X < B ^ (n+1):=by
  have:2 ^ s<=B:=by rw [qaW]; exact zJ ω ω
  rw [hX,x9];exact zK (xP hxn (q0F s)) (yK _ this)
 have hXV:X < V*B ^ lq:=by
  refine zK (m:=2 ^ s*B ^ n) ?_ ?_
  .rw [hX,zF];exact uJ hxn (q0F s)
  .have h2:B ^ n=B ^ (m-1)*B ^ lq:=by rw [<- zX]; congr 1; omega
   rw [hV,h2,<- uH];refine yH _ ?_;rw [zF y];exact yK _ hyp
 have hX0:X≠0:=by rw [hX]; exact wQ (Nat.mul_pos ω (q0F s))
 have hXl:(lim X).length<=n+1:=q0c hXB;have hXl0:=(q0I (n:=X)).2 hX0;obtain ⟨o0,ho0⟩:∃ o0,o0=lim X ++ List.replicate (n+1-(lim X).length) 0:=⟨_,rfl⟩;have ho0a:q0Z o0:=by rw [ho0]; exact (q0B X).append (q0Z.replicate _)
 have ho0l:o0.length=n+1:=by rw [ho0]; simp; omega
 have ho0v:val o0=X:=by rw [ho0,q3g,q11,yQ,yM,q0D]
 have ho0m:(lim X).map (λz:Nat=>wv z) ++ (List.replicate (n+1) (wv 0)).drop (lim X).length=o0.map λz:Nat=>wv z:=by rw [ho0]; simp
 have hd0:val (o0.drop lq) < V:=by
  rw [q29 ho0a,ho0v];exact yV (by rw [zF]; exact hXV)
 clear ho0;refine ac0 Tryz.func276 Tryz.ntmps276 [.tmp 4,.tmp 5] ?_;refine wk1 (x6 q hm q2 e1 e0 (x2 hn e3)) ?_;refine A_cpr 4 λK hK=>?_
 try refine Zz ?_
 refine q0K S1 ?_
 try refine Zz ?_
 refine qtG (elem:=142) rfl rfl σ rfl (by simpa using hXl0) (by simpa using hXl) κ κ (hK _ _ ?_); clear hK K;refine wk1 (x2 hlV e2) ?_;refine q0C (λp:Nat × List Nat × List Nat=>p.1<=lq/\q0Z p.2.1/\p.2.1.length=n+1/\q0Z p.2.2/\p.2.2.length=lq/\val p.2.1+V*val p.2.2=X/\val (p.2.1.drop p.1) < V/\∀ k,k < p.1->p.2.2.getD k 0=0) [8,9,11] [] Lk Lk (λp=>[(12,iv ((p.1:Int)-1)),(10,.ow 5000 none 0 (n+1)),(4,.ow 59 none 0 lq)]) (λp=>[(5000,⟨142,none,p.2.1.map λz:Nat=>wv z,false⟩),(59,⟨142,none,p.2.2.map λz:Nat=>wv z,false⟩)]) (λp=>p.1) (lq,o0,List.replicate lq 0) ⟨zL _,ho0a,ho0l,q0Z.replicate _,σ,by rw [ho0v,q11,yQ,yM],hd0,λk _=>qqd⟩ ?_ ?_
 .refine LeMF [(5000,some 47)] rfl ?_
  try refine Zz ?_
  rw [ho0m,q9A]
 .rintro ⟨t,o,qs⟩ ⟨ht,ho,hol,hqa,hql,hinv,hdr,hz⟩;simp only at ht ho hol hqa hql hinv hdr hz;clear hd0 ho0a ho0l ho0v ho0m
  rcases zO t with h0 | h0
  .subst h0;have c0:¬ (0:Int)<=((0:Nat):Int)-1:=ω
   rw [yG] at hdr;have eR:val o=X % V:=by rw [<- hinv,xT,zC hdr]
   have eQ:val qs=X / V:=by rw [<- hinv,wG _ _ (yC hV0),xD hdr,zN]
   have eT:val (o.take m)=val o:=by rw [q19 ho,zC (wS hdr hVB)]
   rw [hX,hV,Nat.mul_mod_mul_right] at eR;rw [hX,hV,Nat.mul_div_mul_right _ _ (q0F s)] at eQ;obtain ⟨R,hR⟩:∃ R,R=x % y*2 ^ s:=⟨_,rfl⟩;have T1:=q0T (l:=o.take m) (ho.take m) (by simp; omega);have hRl:(lim R).length<=m:=by
    rw [<- hlV];refine q0i ?_;rw [hR,hV];exact yH _ (y8 (zE _ Oq))
   have T2:=qdq (x:=R) (m:=s) rfl Oq Oq;rw [eT,eR,<- hR] at T1;have T4:=q0T (l:=qs) hqa Oq;rw [eQ] at T4;rw [show R / 2 ^ s=x % y by rw [hR,Nat.mul_div_cancel _ (q0F s)]] at T2;have tk1:(o.map λz:Nat=>wv z).take m=(o.take m).map λz:Nat=>wv z:=List.map_take.symm;have tk2:(qs.map λz:Nat=>wv z).take lq=qs.map λz:Nat=>wv z:=qkO Oq;have sl1:=slO_h (id:=5000) (m:=n+1) (b:=m) Oq;refine wk1 c0 ?_;refine q4L 3 5000 λK hK=>?_
   try refine Zz1 sl1 ?_
   refine q1g ?_
   try refine Zz1 tk1 ?_
   refine q0K T1 ?_
   try refine Zz ?_
   refine q0K T2 ?_
   try refine Zz ?_
   refine hK _ _ ?_; clear hK K;refine q4L 1 59 λK hK=>?_
   try refine Zz ?_
   refine q1g ?_
   try refine Zz1 tk2 ?_
   refine q0K T4 ?_
   try refine Zz ?_
   refine hK _ _ ?_; clear hK K;exact wk trivial
  obtain ⟨j,rfl⟩:∃ j,t=j+1:=⟨t-1,ω⟩;have ej:((j+1:Nat):Int)-1=(j:Int):=ω
  have c0:(0:Int)<=(j:Int):=ω
  have f1:(j:Int)+(m:Int)=((j+m:Nat):Int):=ω
  have f2:((j+m:Nat):Int)+1=((j+m+1:Nat):Int):=ω
  have g1:IntKind.i64.wrap ((j+m:Nat):Int)=((j+m:Nat):Int):=i64_in Oq Oq;have g2:IntKind.i64.wrap ((j+m+1:Nat):Int)=((j+m+1:Nat):Int):=i64_in Oq Oq;obtain ⟨hpre,-,-⟩:=q7I ho hVB hdr;have hpost:=λo' h1 h2 h3=>qa7 (o':=o') (qs:=qs) ho (yC hV0) hVB h1 hdr h2 h3 Oq (hz j Oq) Oq hinv;have T1:=qhM (us:=o) (vs:=lim V) (n:=m) (j:=j) ho (q0B V) hlV ω ω ω htopV (by rw [q0D]; exact hpre);rw [q0D] at T1;have sl1:=slO_b (id:=5000) (m:=n+1) (a:=j) (b:=j+m+1) Oq Oq;rw [show j+m+1-j=m+1 by omega] at sl1;obtain ⟨D,hD⟩:∃ D,D=dgs (m+1) (val ((o.drop j).take (m+1)) % V):=⟨_,rfl⟩;have hDl:D.length=m+1:=by rw [hD]; exact q1j
  have hDa:q0Z D:=by rw [hD]; exact q2z
  have hDv:val D=val ((o.drop j).take (m+1)) % V:=by
   rw [hD];exact q2y (wS (zE _ (yC hV0)) (zK hVB (zJ q0q (Nat.le_succ m))))
  rw [<- hD] at T1;have hcl:=qjK (us:=o) (o:=D) (j:=j) (i:=m+1) Oq Oq;have hcm:=qpQ (us:=o) (n:=m) (j:=j) Oq hDl;have hp:=hpost (cpS o D j (m+1)) hcl (λk hk=>cp_un ω hDl hk) (by rw [hcm,hDv]);have hg:val ((o.drop j).take (m+1)) / V < 4294967296:=yV (by rw [zF]; exact hpre);generalize val ((o.drop j).take (m+1)) / V=gg at *;refine wk1 (x2 ej c0) ?_;refine q9C λK9 hK9=>?_;refine Zz5 f1 g1 f2 g2 sl1 ?_;refine jmF T1 (Wn_1 rfl λi h1 h2=>by simp only [hpM,hpV]; rw [if_neg ω,if_neg ω]) ?_
  try refine Zz1 hql ?_
  refine hK9 _ _ ?_; clear hK9 K9;refine wk ?_;refine ⟨(j,cpS o D j (m+1),qs.set j gg),⟨ω,((ho.take j).append (hDa.take _)).append (ho.drop _),hcl.trans hol,hqa.set _ _ hg,by simp [hql],hp.1,hp.2,λk hk=>by rw [q0j ω]; exact hz k ω⟩,by simp only; omega,?_⟩;refine LeM [] rfl rfl ?_;exact Zy
end
end Go.Proofs.YtbjoghfmhgadkaaGreatDoor
namespace Go.Sp
section
def q4x {a b q r:Int} (hb:b≠0) (h:a=r+b*q) (h0:0<=r) (hr:r < b.natAbs):a / b=q/\a % b=r:=by
 subst h;rw [Int.add_mul_ediv_left _ _ hb,Int.add_mul_emod_self_left]
 rcases yZ hb with h | h
 .obtain ⟨c,rfl⟩:∃ c,b = -c:=⟨-b,ω⟩;rw [Int.ediv_neg,Int.emod_neg,uG h0 ω,Int.emod_eq_of_lt h0 ω];omega
 .rw [uG h0 ω,Int.emod_eq_of_lt h0 ω];omega
end
end Go.Sp
namespace Go.Proofs.YtbjoghfmhgadkaaGreatDoor
open Go Go.E Go.Sp
section
def qhL {s t:Bool} {x y:Nat} (hy:y≠0) (hc:s=false\/x % y=0):sgn s x / sgn t y=sgn (s != t) (x / y)/\sgn s x % sgn t y=(x % y:Nat):=by
 have h:=yI x y;have hr:=zE x (yC hy);generalize x / y=q at *;generalize x % y=r at *;subst h;refine q4x (by cases t <;> simp [sgn] <;> omega) ?_ ω (by cases t <;> simp [sgn] <;> omega)
 rcases hc with rfl | rfl
 .cases t <;> simp [sgn,wI,wV] <;> omega
 .cases s <;> cases t <;> simp [sgn,wI,wV]
def qhK {t:Bool} {x y:Nat} (hy:y≠0) (hc:x % y≠0):sgn true x / sgn t y=sgn (true != t) (x / y+1)/\sgn true x % sgn t y=(y-x % y:Nat):=by
 have h:=yI x y;have hr:=zE x (yC hy);generalize x / y=q at *;generalize x % y=r at *;subst h;refine q4x (by cases t <;> simp [sgn] <;> omega) ?_ ω (by cases t <;> simp [sgn] <;> omega);have e:((y-r:Nat):Int)=y-r:=ω
 cases t <;> simp [sgn,Int.mul_add,wI,wV] <;> omega
attribute [local instance] lNL
section
variable {s t:Bool} {x y:Nat}
def qap (hx:bl x<=20000000) (hy:bl y<=20000000) (hy0:y≠0) (hc:s=false\/x % y=0):ACt 251 [.ag [bv s,pW (lim x)],.ag [bv t,pW (lim y)]] (.tu [zT (sgn (s != t) (x / y)),zT (x % y:Nat),iv 0]):=by
 have la:=q2w hx;have lb:=q2w hy;have T1:=q0T (q0B x) la;have T2:=q0T (q0B y) lb;rw [q0D] at T1 T2;have C1:=q7e hx hy hy0;have C2:=q1h (s:=s != t) (q0B (x / y)) (zU (q0i (yJ _ _)) la);have C3:=q1h (s:=false) (q0B (x % y)) (zU (q0i (Nat.mod_le _ _)) la);rw [q0D] at C2 C3;rw [q8Q] at C3;have q:((lim y).length:Int)≠0:=by have:=(q0I (n:=y)).2 hy0; omega
 rcases hc with rfl | h0
 .refine ac0 Tryz.func251 Tryz.ntmps251 [.cell 4 42,.cell 5 42,.tmp 6] ?_;exact wk1 q trivial
 .rw [h0,q2G] at C1 C3;rw [h0];refine ac0 Tryz.func251 Tryz.ntmps251 [.cell 4 42,.cell 5 42,.tmp 6] ?_;cases s
  .exact wk1 q trivial
  .exact wk1 q trivial
def qao (hx:bl x<=20000000) (hy:bl y<=20000000) (hy0:y≠0) (hc:x % y≠0):ACt 251 [.ag [bv true,pW (lim x)],.ag [bv t,pW (lim y)]] (.tu [zT (sgn (true != t) (x / y+1)),zT (y-x % y:Nat),iv 0]):=by
 have la:=q6r hx;have lb:=q6r hy;have T1:=q0T (q0B x) Oq;have T2:=q0T (q0B y) Oq;rw [q0D] at T1 T2;have C1:=q7e hx hy hy0;have hlq:=q0i (yJ x y);have hlr:=q0i (y8 (zE x (yC hy0)));have P1:=q8U (l:=lim (x / y)) (l':=[1]) (q0B _) (.one q7z) ω σ;have M1:=q6T (l:=lim y) (l':=lim (x % y)) (q0B _) (q0B _) ω hlr (by rw [q0D,q0D]; exact y8 (zE x (yC hy0)));rw [q0D,q45] at P1;rw [q0D,q0D] at M1;have hle2:(lim (x / y+1)).length<=700001:=zU (q0c (zY (q08 _) (xH q7z (Nat.lt_succ_self _)))) Oq;have C2:=q1h (s:=true != t) (q0B (x / y+1)) Oq;have C3:=q1h (s:=false) (q0B (y-x % y)) (zU (q0i (Nat.sub_le _ _)) Oq);rw [q0D] at C2 C3;rw [q8Q] at C3;have q:((lim y).length:Int)≠0:=by have:=(q0I (n:=y)).2 hy0; omega
 have q2:(0:Int) < (lim (x % y)).length:=by have:=(q0I (n:=x % y)).2 hc; omega
 refine ac0 Tryz.func251 Tryz.ntmps251 [.cell 4 42,.cell 5 42,.tmp 6] ?_;refine wk1 (x2 q q2) ?_;refine qvq 2 34 λK hK=>?_
 try refine Zz ?_
 refine q1g ?_
 try refine Zz ?_
 refine q0K P1 ?_
 try refine Zz ?_
 refine q0K M1 ?_
 try refine Zz ?_
 refine hK _ _ ?_;exact wk trivial
end
def q8d {a b:Int} {s t:Bool} (hs:s=decide (a < 0)) (ht:t=decide (b < 0)) (ha:bl a.natAbs<=20000000) (hb:bl b.natAbs<=20000000) (hb0:b≠0):ACt 251 [yT s a,yT t b] (.tu [zT (a / b),zT (a % b),iv 0]):=by
 have hy0:b.natAbs≠0:=ω
 by_cases hc:s=false\/a.natAbs % b.natAbs=0
 .have C:=qap (t:=t) ha hb hy0 hc;obtain ⟨h1,h2⟩:=qhL (s:=s) (t:=t) (x:=a.natAbs) hy0 hc;rw [<- h1,<- h2,hs,ht,q02,q02,<- hs,<- ht] at C;exact C
 .obtain rfl:s=true:=by cases s <;> simp_all
  have hc2:a.natAbs % b.natAbs≠0:=λh=>hc (.inr h);have C:=qao (t:=t) ha hb hy0 hc2;obtain ⟨h1,h2⟩:=qhK (t:=t) (x:=a.natAbs) hy0 hc2;rw [<- h1,<- h2,ht,q02] at C;have e:sgn true a.natAbs=a:=by rw [hs,q02]
  rw [e,<- ht] at C;exact C
end
end Go.Proofs.YtbjoghfmhgadkaaGreatDoor
namespace Go.Sp
open Go.E
end Go.Sp
namespace Go.Proofs.YtbjoghfmhgadkaaGreatDoor
open Go Go.E Go.Sp
section
attribute [local instance] lNL
end
def LE (x y:PV):Prop:=∀ (w:World) (D:Nat->Prop) (v:Value),Rd w D x (λ_=>none) h0 v ↔ @Rd lNL w D y (λ_=>none) h0 v
def LEl:List PV->List PV->Prop
 | [],[]=>True
 | x :: l,y :: m=>LE x y/\LEl l m
 | _,_=>False
def qva:LEl [] []:=trivial
def qvb {x y:PV} {l m:List PV} (h1:LE x y) (h2:LEl l m):LEl (x :: l) (y :: m):=⟨h1,h2⟩
def q5K:∀ {l m:List PV},LEl l m->∀ (w:World) (D:Nat->Prop) (vs:List Value),RdL w D l (λ_=>none) h0 vs ↔ @RdL lNL w D m (λ_=>none) h0 vs
 | [],[],_,w,D,vs=>by unfold RdL; exact Iff.rfl
 | x :: l,y :: m,⟨h1,h2⟩,w,D,vs=>by
  unfold RdL;exact ⟨λ⟨a,b,e,q1,q2⟩=>⟨a,b,e,(h1 w D a).1 q1,(q5K h2 w D b).1 q2⟩,λ⟨a,b,e,q1,q2⟩=>⟨a,b,e,(h1 w D a).2 q1,(q5K h2 w D b).2 q2⟩⟩
def qvc {x:Value}:LE (.vl x) (.vl x):=λw D v=>by unfold Rd; exact Iff.rfl
def qve {l m:List PV} (h:LEl l m):LE (.ag l) (.ag m):=λw D v=>by
 unfold Rd;exact ⟨λ⟨vs,e,q⟩=>⟨vs,e,(q5K h w D vs).1 q⟩,λ⟨vs,e,q⟩=>⟨vs,e,(q5K h w D vs).2 q⟩⟩
def qvd {l m:List PV} (h:LEl l m):LE (.tu l) (.tu m):=λw D v=>by
 unfold Rd;exact ⟨λ⟨vs,e,q⟩=>⟨vs,e,(q5K h w D vs).1 q⟩,λ⟨vs,e,q⟩=>⟨vs,e,(q5K h w D vs).2 q⟩⟩
def LE_L {z:Int}:LE (.fm (fL z)) (pW (lim z.natAbs)):=λw D v=>by
 constructor
 .intro h;obtain ⟨A,n,c,rfl,h1⟩:=qf3 h;exact @qqV w D _ _ lNL _ (λz:Nat=>Value.int .u32 z) _ _ (λ_=>⟨rfl,rfl⟩) ⟨A,n,c,rfl,h1.1⟩
 .intro h;obtain ⟨A,n,c,rfl,h1⟩:=@rd_sc w D _ _ lNL _ (λz:Nat=>Value.int .u32 z) _ _ h;exact qcH ⟨A,n,c,rfl,h1.sc_row,q0B _⟩
def q3E {f:FuncId} {al al':List PV} {r r':PV} (hc:@AC lNL Tryz.prog q5Y f al r) (ha:LEl al' al:=by repeat (first | exact qva | exact qvc | exact LE_L | refine qvb ?_ ?_ | refine qve ?_ | refine qvd ?_)) (hr:LE r' r:=by repeat (first | exact qva | exact qvc | exact LE_L | refine qvb ?_ ?_ | refine qve ?_ | refine qvd ?_)):ACt f al' r' :=
 ⟨hc.1,λD w vs hT hF hR=>(hc.2 D w vs hT hF ((q5K ha w D vs).1 hR)).mono λx w' ⟨v,h1,h2,h3⟩=>⟨v,h1,h2,(hr w' D v).2 h3⟩⟩
section
variable {a b z m:Int} {s t:Bool}
abbrev sT (s:Bool) (z:Int):PV:=.ag [bv s,.fm (fL z)]
def qgG (hs:s=decide (a < 0)) (ha:bl a.natAbs<=20000000):ACt 231 [sT s a] (bT a):=q3E (qdF hs ha)
def q8c (hs:s=decide (a < 0)) (ha:bl a.natAbs<=20000000):ACt 194 [sT s a] (bT (-a)):=q3E (qgH hs ha)
def q8f (_:s=decide (a < 0)) (ha:bl a.natAbs<=20000000):ACt 191 [sT s a] (bT a.natAbs):=q3E (qgM ha)
def q2H (h1 : -9223372036854775808<=z) (h2:z<=9223372036854775807):ACt 132 [iv z] (bT z):=q3E (q7Z h1 h2)
def qdH (hs:s=decide (a < 0)) (ht:t=decide (b < 0)) (ha:bl a.natAbs<=19000000) (hb:bl b.natAbs<=19000000):ACt 202 [sT s a,sT t b] (bT (a+b)):=q3E (qgL hs ht Oq Oq)
def qlf (hs:s=decide (a < 0)) (ht:t=decide (b < 0)) (ha:bl a.natAbs<=19000000) (hb:bl b.natAbs<=19000000):ACt 292 [sT s a,sT t b] (bT (a-b)):=q3E (qgF hs ht Oq Oq)
def qlg (hs:s=decide (a < 0)) (ht:t=decide (b < 0)) (ha:bl a.natAbs<=9000000) (hb:bl b.natAbs<=9000000):ACt 201 [sT s a,sT t b] (bT (a*b)):=q3E (qgI hs ht Oq Oq)
def q3R (hs:s=decide (a < 0)) (ha:bl a.natAbs<=20000000):ACt 222 [sT s a] (iv a.sign):=q3E (q4r hs ha)
def q2f (_:s=decide (a < 0)) (ha:bl a.natAbs<=20000000):ACt 233 [sT s a] (iv (bl a.natAbs:Nat)):=q3E (q8e ha)
def qjB (_:s=decide (a < 0)) (ha:bl a.natAbs<=20000000):ACt 232 [sT s a] (iv (tz a.natAbs:Nat)):=q3E (qle ha)
def qdG (hs:s=decide (a < 0)) (ht:t=decide (b < 0)) (ha:bl a.natAbs<=19000000) (hb:bl b.natAbs<=19000000):ACt 197 [sT s a,sT t b] (iv (a-b).sign):=q3E (qgK hs ht Oq Oq)
def q7Y (hs:s=decide (a < 0)) (ha:bl a.natAbs<=10000000) (h1 : -1048576<=m) (h2:m<=1048576):ACt 243 [sT s a,iv m] (.tu [bT (shI a m),iv 0]):=q3E (qam hs Oq h1 h2)
def qan {x y:Nat} (hs:s=decide ((x:Int) < 0)) (ht:t=decide ((y:Int) < 0)) (hb:bl x<=20000000) (hd0:y≠0) (hby:bl y<=20000000):ACt 251 [sT s x,sT t y] (.tu [bT (x / y:Nat),bT (x % y:Nat),iv 0]):=q3E (q8d (a:=x) (b:=y) hs ht (by rwa [zB]) (by rwa [zB]) Oq)
end
section
variable {a b z m:Int} {s t:Bool}
def q3Z (hs:s=decide (a < 0)) (ha:bl a.natAbs<=20000000):ACt 106 [sT s a] (iv a.sign):=q3E (qcJ hs ha)
def qsu (_:s=decide (a < 0)) (ha:bl a.natAbs<=20000000):ACt 140 [sT s a] (iv (tz a.natAbs:Nat)):=q3E (qcI ha)
def qdn (hs:s=decide (a < 0)) (ht:t=decide (b < 0)) (ha:bl a.natAbs<=20000000) (hb:bl b.natAbs<=20000000):ACt 75 [sT s a,sT t b] (bT (a+b)):=q3E (q6L hs ht ha hb)
def q7a (h1 : -9223372036854775808<=z) (h2:z<=9223372036854775807):ACt 70 [iv z] (bT z):=q3E (q4B h1 h2)
def qhG {n:Nat} (_:s=decide (a < 0)) (ha:bl a.natAbs<=20000000) (hn:n<=1000000000):ACt 255 [sT s a,iv n] (bv (decide (a.natAbs % 2 ^ n≠0))):=q3E (qcL (m:=n) ha Oq)
def q30 (hs:s=decide (a < 0)) (ha:bl a.natAbs<=20000000) (h1 : -1000000000<=m) (h2:m<=1000000000):ACt 107 [sT s a,iv m] (bT (shI a m)):=q3E (q5d hs ha h1 h2)
def qhH {N:Nat} (hs:s=decide (a < 0)) (ha:bl a.natAbs<=20000000) (hn:N<=1048576):ACt 141 [sT s a,iv N] (bT (shI a (-(N:Int)))):=by
 have C1:=@q30;refine ac0 Tryz.func141 Tryz.ntmps141 [.cell 4 42] ?_;refine wk ?_;refine q0C (λ_:Unit=>True) [1,2,4] [2,4] Lk Lk (λ_=>[]) (λ_=>[]) (λ_=>0) () trivial ?_ ?_
 .refine LeM [] rfl rfl ?_;exact Zy
 .intro _ _;exact wk1 @Int.zero_sub trivial
end
def qst {neg odd:Bool} {half mode:Int}:ACt 256 [bv neg,iv half,bv odd,iv mode] (bv (upS mode neg half odd)):=by
 unfold upS;refine ac0 Tryz.func256 Tryz.ntmps256 [.tmp 8] ?_
 by_cases m1:mode=1
 .rw [if_pos m1];exact wk trivial
 rw [if_neg m1]
 by_cases m2:mode=2
 .rw [if_pos m2];exact wk trivial
 rw [if_neg m2]
 by_cases m3:mode=3
 .rw [if_pos m3];exact wk trivial
 rw [if_neg m3]
 by_cases h1:0 < half
 .rw [decide_eq_true h1,Bool.true_or];exact wk trivial
 rw [decide_eq_false h1,Bool.false_or]
 by_cases h2:half=0
 .rw [decide_eq_true h2,uE];exact wk trivial
 .rw [decide_eq_false h2,zQ];exact wk trivial
def qmV {N M k:Nat} {neg more s:Bool} {mode:Int} (hs:s=decide (((N / M:Nat):Int) < 0)) (hM:0 < M) (hm:more=decide (N % M≠0)) (hk:more=true->0 < k) (hb:bl (N / M)<=1000000) (hkb:k<=1000000) :
  ACt 218 [bv neg,sT s (N / M:Nat),iv k,bv more,iv mode] (bT (rq mode neg N (M*2 ^ k):Nat)):=by
 obtain rfl:s=false:=hs.trans negN;have hrq:=qqY (mode:=mode) (neg:=neg) (k:=k) hM (λh=>hk (by rw [hm]; simpa using h));have C1:=@qhH;have C2:=@qhG;have C3:=@qsu;have C4:=@q3Z;have C5:=@qst;have C6:=@q7a;have C7:=@qdn;have hb2:bl (1:Int).natAbs<=1:=by show bl 1<=_; rw [q7q]; omega
 rw [hrq];have hH:qaq N M k=if 0 < k/\N / M / 2 ^ (k-1) % 2=1 then (if N % M≠0\/N / M % 2 ^ (k-1)≠0 then 1 else 0) else -1:=rfl
 generalize N / M=m at *;have hbq:bl (m / 2 ^ k)<=1000000:=zU (q1T (yJ _ _)) hb;have hbb:bl (m / 2 ^ (k-1))<=1000000:=zU (q1T (yJ _ _)) hb;have f1:=qbw m k;have f2:=qbw m (k-1);generalize qaq N M k=H at *;generalize hz:m % 2 ^ k=r at *;generalize m / 2 ^ k=q at *;generalize hb1:m / 2 ^ (k-1)=b at *;refine ac0 Tryz.func218 Tryz.ntmps218 [.cell 10 42] ?_
 by_cases hex:r=0/\more=false
 .obtain ⟨hr,hmo⟩:=hex;have hnm:N % M=0:=by rw [hmo] at hm; simpa using hm.symm
  have q1:decide (r≠0)=false:=by simp [hr]
  rw [if_neg (by rw [hr,hnm]; simp),yM];exact wk1 (x4 f1 hz q1 hmo) trivial
 .have hnex:r≠0\/N % M≠0:=by
   by_cases h0:N % M=0
   .left; intro h1; exact hex ⟨h1,by rw [hm,h0]; rfl⟩
   .exact .inr h0
  refine wk1 (x2 f1 hz) ?_;refine A_jn λK hK=>?_;have fin0:∀ (s:Nat->PV) (h:Hp),s 0=bv neg->s 2=iv k->s 3=bv more->s 4=iv mode->s 6=.pt 6 0 0->s 10=.pt 10 0 0->s 11=.pt 11 0 0->h 6=some ⟨42,some 2,[.ag [bv false,.fm (fL m)]],false⟩->h 10=some ⟨42,some 2,[.ag [bv false,q1R]],false⟩->h 11=some ⟨42,some 2,[bT q],false⟩->h 14=none->K s h:=by
   intro s h s0 s2 s3 s4 s6 s10 s11 h6 h10 h11 h14;refine hK _ _ ?_; clear hK K;refine wk1 s2 ?_;refine A_jn λK hK=>?_;have fin1:∀ (s:Nat->PV) (h:Hp),s 0=bv neg->s 4=iv mode->s 10=.pt 10 0 0->s 11=.pt 11 0 0->s 13=iv H->h 10=some ⟨42,some 2,[.ag [bv false,q1R]],false⟩->h 11=some ⟨42,some 2,[bT q],false⟩->K s h:=by
    clear s0 s2 s3 s4 s6 s10 s11 h6 h10 h11 h14;intro s h s0 s4 s10 s11 s13 h10 h11;refine hK _ _ ?_; clear hK K;have e2:((q+1:Nat):Int)=(q:Int)+1:=rfl;have hbz:bl ((q:Int)+1).natAbs<=1000001:=q5E (k:=1000000) (a:=q) (b:=1) ω (by rw [q7q]; omega);obtain ⟨o,ho⟩:∃ o,o=decide (q % 2=1):=⟨_,rfl⟩;rw [<- ho];have hq:(q=0/\o=false)\/(q≠0/\(((tz q:Nat):Int) == 0)=o):=by
     by_cases hq0:q=0
     .exact .inl ⟨hq0,by rw [ho,hq0]; rfl⟩
     .refine .inr ⟨hq0,?_⟩;rw [beq0,ho];exact decide_eq_decide.2 ⟨λh=>q2q.1 ⟨h,hq0⟩,λh=>(q2q.2 h).1⟩
    by_cases hu:upS mode neg H o=true
    .rw [if_pos ⟨hnex,hu⟩]
     rcases hq with ⟨h0,h1⟩ | ⟨h0,h1⟩
     .have q1:(((q:Nat):Int).sign != 0)=false:=by rw [h0]; rfl
      subst h1;exact wk1 (x6 s0 s4 s10 s11 s13 (x5 h10 h11 q1 hu e2)) trivial
     .have q1:(((q:Nat):Int).sign != 0)=true:=by rw [zH ω]; rfl
      exact wk1 (x6 s0 s4 s10 s11 s13 (x6 h10 h11 q1 h1 hu e2)) trivial
    .rw [if_neg λh=>hu h.2,yM];rw [Bool.not_eq_true] at hu
     rcases hq with ⟨h0,h1⟩ | ⟨h0,h1⟩
     .have q1:(((q:Nat):Int).sign != 0)=false:=by rw [h0]; rfl
      subst h1;exact wk1 (x6 s0 s4 s10 s11 s13 (x4 h10 h11 q1 hu)) trivial
     .have q1:(((q:Nat):Int).sign != 0)=true:=by rw [zH ω]; rfl
      exact wk1 (x6 s0 s4 s10 s11 s13 (x5 h10 h11 q1 h1 hu)) trivial
   by_cases hk0:0 < k
   .have e1:(k:Int)-1=((k-1:Nat):Int):=ω
    by_cases ho:b % 2=1
    .have q2:(((tz b:Nat):Int) == 0)=true:=by rw [q9F ho]; rfl
     have q3:(((b:Nat):Int).sign != 0)=true:=by rw [zH ω]; rfl
     rw [if_pos ⟨hk0,ho⟩] at hH
     by_cases hmo:more=true
     .rw [if_pos (.inl (by rw [hmo] at hm; simpa using hm.symm))] at hH;refine wk1 (x6 s0 s2 s3 s4 s6 (x6 s10 s11 h6 h10 h11 (x6 h14 e1 f2 q2 q3 hmo))) ?_;refine fin1 _ _ ?_ ?_ ?_ ?_ ?_ ?_ ?_ <;> simp -implicitDefEqProofs (disch:=omega) only [go_sem,Nat.reduceEqDiff,Nat.reduceAdd,↓reduceIte,s0,s2,s3,s4,s6,s10,s11,h6,h10,h11,hH]
     .rw [Bool.not_eq_true] at hmo;have hnm:N % M=0:=by rw [hmo] at hm; simpa using hm.symm
      by_cases hl:m % 2 ^ (k-1)=0
      .have q4:decide (m % 2 ^ (k-1)≠0)=false:=by simp [hl]
       rw [if_neg (by rw [hl,hnm]; simp)] at hH;refine wk1 (x6 s0 s2 s3 s4 s6 (x6 s10 s11 h6 h10 h11 (x6 h14 e1 f2 q2 q3 (x2 hmo q4)))) ?_;refine fin1 _ _ ?_ ?_ ?_ ?_ ?_ ?_ ?_ <;> simp -implicitDefEqProofs (disch:=omega) only [go_sem,Nat.reduceEqDiff,Nat.reduceAdd,↓reduceIte,s0,s2,s3,s4,s6,s10,s11,h6,h10,h11,hH]
      .have q4:decide (m % 2 ^ (k-1)≠0)=true:=by simp [hl]
       rw [if_pos (.inr hl)] at hH;refine wk1 (x6 s0 s2 s3 s4 s6 (x6 s10 s11 h6 h10 h11 (x6 h14 e1 f2 q2 q3 (x2 hmo q4)))) ?_;refine fin1 _ _ ?_ ?_ ?_ ?_ ?_ ?_ ?_ <;> simp -implicitDefEqProofs (disch:=omega) only [go_sem,Nat.reduceEqDiff,Nat.reduceAdd,↓reduceIte,s0,s2,s3,s4,s6,s10,s11,h6,h10,h11,hH]
    .rw [if_neg λh=>ho h.2] at hH
     by_cases hb0:b=0
     .have q2:(((tz b:Nat):Int) == 0)=true:=by rw [hb0]; rfl
      have q3:(((b:Nat):Int).sign != 0)=false:=by rw [hb0]; rfl
      refine wk1 (x6 s0 s2 s3 s4 s6 (x6 s10 s11 h6 h10 h11 (x5 h14 e1 f2 q2 q3))) ?_;refine fin1 _ _ ?_ ?_ ?_ ?_ ?_ ?_ ?_ <;> simp -implicitDefEqProofs (disch:=omega) only [go_sem,Nat.reduceEqDiff,Nat.reduceAdd,↓reduceIte,s0,s2,s3,s4,s6,s10,s11,h6,h10,h11,hH]
     .have q2:(((tz b:Nat):Int) == 0)=false:=by
       rw [beq0]; refine decide_eq_false λh=>ho (q2q.1 ⟨h,hb0⟩)
      refine wk1 (x6 s0 s2 s3 s4 s6 (x6 s10 s11 h6 h10 h11 (x4 h14 e1 f2 q2))) ?_;refine fin1 _ _ ?_ ?_ ?_ ?_ ?_ ?_ ?_ <;> simp -implicitDefEqProofs (disch:=omega) only [go_sem,Nat.reduceEqDiff,Nat.reduceAdd,↓reduceIte,s0,s2,s3,s4,s6,s10,s11,h6,h10,h11,hH]
   .rw [if_neg λh=>hk0 h.1] at hH;refine wk1 (x6 s0 s2 s3 s4 s6 (x6 s10 s11 h6 h10 h11 h14)) ?_;refine fin1 _ _ ?_ ?_ ?_ ?_ ?_ ?_ ?_ <;> simp -implicitDefEqProofs (disch:=omega) only [go_sem,Nat.reduceEqDiff,Nat.reduceAdd,↓reduceIte,s0,s2,s3,s4,s6,s10,s11,h6,h10,h11,hH]
  by_cases hr:r=0
  .have hmo:more=true:=by
    cases more
    .exact (hex ⟨hr,rfl⟩).elim
    .rfl
   have q1:decide (r≠0)=false:=by simp [hr]
   refine wk1 (x2 q1 hmo) ?_;refine fin0 _ _ ?_ ?_ ?_ ?_ ?_ ?_ ?_ ?_ ?_ ?_ ?_ <;> simp -implicitDefEqProofs (disch:=omega) only [go_sem,Nat.reduceEqDiff,Nat.reduceAdd,↓reduceIte,hmo]
  .have q1:decide (r≠0)=true:=by simp [hr]
   refine wk1 q1 ?_;refine fin0 _ _ ?_ ?_ ?_ ?_ ?_ ?_ ?_ ?_ ?_ ?_ ?_ <;> simp -implicitDefEqProofs (disch:=omega) only [go_sem,Nat.reduceEqDiff,Nat.reduceAdd,↓reduceIte]
section
attribute [local instance] lNL
def lBD:alB Tryz.prog 46=some ⟨46,some 4,[.ag [bv false,bv false,q1R,iv 0]],false⟩:=κ
attribute [go_sem] lBD
abbrev yD (V:Int):PV:=.ag [bv false,bv (decide (od V < 0)),pW (lim (od V).natAbs),iv (dyE V)]
def qhJ {a:Int} {s:Bool} {N:Nat} (hs:s=decide (a < 0)) (ha:bl a.natAbs<=20000000) (hn:N<=1048576):ACt 141 [yT s a,iv N] (zT (shI a (-(N:Int)))):=by
 have C1:=q5d (m := -(N:Int)) hs ha Oq Oq;refine ac0 Tryz.func141 Tryz.ntmps141 [.cell 4 42] ?_;refine wk ?_;refine q0C (λ_:Unit=>True) [1,2,4] [2,4] Lk Lk (λ_=>[]) (λ_=>[]) (λ_=>0) () trivial ?_ ?_
 .refine LeM [] rfl rfl ?_;exact Zy
 .intro _ _;exact wk1 @Int.zero_sub trivial
def qfi {s:Bool} {l:List Nat} (ha:q0Z l) (hb:l.length<=1000000000):ACt 139 [.ag [bv s,pW l]] (zT (sgn s (val l))):=by
 have C1:=@q1N s _ ha hb;refine ac0 Tryz.func139 Tryz.ntmps139 [.cell 2 42] ?_;exact wk trivial
def q95 {s:Bool} {l:List Nat} {e V:Int} (ha:q0Z l) (hl:l.length<=1000000000) (hb:bl (val l)<=1000000) (he1 : -1000000<=e) (he2:e<=1000000) (hv:mkV (sgn s (val l)) e=some V):ACt 74 [.ag [bv s,pW l],iv e] (yD V):=by
 have C0:=@qfi s _ ha hl;obtain ⟨m,hm⟩:∃ m,m=sgn s (val l):=⟨_,rfl⟩;have hmb:bl m.natAbs<=1000000:=by rw [hm,q0z]; exact hb
 have hp:=@q0I m.natAbs;have hs:m≠0->s=decide (m < 0):=λhz=>by
  rw [hm,q8P];have:0 < val l:=by
   rcases zO (val l) with h0 | h0
   .exfalso; apply hz; rw [hm,h0]; cases s <;> rfl
   .exact h0
  simp [this]
 rw [<- hm] at C0 hv;clear hm
 by_cases hz:m=0
 .have q:((lim m.natAbs).length:Int)=0:=by rw [hz]; rfl
  have hV:V=0:=by rw [hz,q10] at hv; exact (xU.inj hv).symm
  subst hV;have e1:od 0=0:=q14;have e2:dyE 0=0:=rfl;rw [show yD 0=.ag [bv false,bv false,pW (lim 0),iv 0] by unfold yD; rw [e1,e2]; rfl];refine ac0 Tryz.func74 Tryz.ntmps74 [.cell 4 46] ?_;exact wk1 (x2 q q2G) trivial
 .have q:¬ ((lim m.natAbs).length:Int)=0:=ω
  replace hs:=hs hz;obtain ⟨hv1,hv2,hv3⟩:=q6R hz hv;obtain ⟨hv4,hv5,_,hv6⟩:=q4j hv;have htl:=qfI (n:=m.natAbs) Oq;have hbo:=q7r hz;have C1:=qcI (a:=m) (s:=decide (m < 0)) Oq;have C2:=q6M (a:=m) (s:=decide (m < 0)) Oq;have C3:=qhJ (a:=m.natAbs) (N:=tz m.natAbs) rfl (by rw [zB]; omega) ω;rw [qqK] at C3;have C4:=q4e (a:=((od m).natAbs:Nat)) (s:=decide (((od m).natAbs:Int) < 0)) (by rw [zB]; omega);have e1:¬ (65536:Int) < e:=ω
  have e3:¬ (e+((tz m.natAbs:Nat):Int) < -65536):=ω
  have e5:¬ (65536:Int) < e+((tz m.natAbs:Nat):Int)+((bl (od m).natAbs:Nat):Int):=ω
  have e6:dyE V=e+(tz m.natAbs:Nat):=(hv5 hz).2;unfold yD;rw [hv4,q21,<- hs,e6];clear hv hv5 hv6 hv1 hv2 hv3;generalize tz m.natAbs=z at *;simp only [zB] at C2 C3 C4;refine ac0 Tryz.func74 Tryz.ntmps74 [.cell 4 46] ?_;exact wk1 (x4 q e1 e3 e5) trivial
def qmM {f:Nat} (hf:f < 18446744073709551616):ACt 31 [uv f] (bv (decide (q0L f))):=by
 have h1:=q39 (a:=f / 4503599627370496) Oq;have h2:(((f / 4503599627370496 % 2048:Nat):Int) != 2047)=decide (q0L f):=bneN (b:=2047);refine ac0 Tryz.func31 Tryz.ntmps31 [.tmp 2] ?_;exact wk1 (x2 h1 h2) trivial
def qcf {f:Nat} (hf:f < 18446744073709551616):ACt 96 [uv f] (bv (decide (9223372036854775808<=f))):=by
 have h2:=qc5 hf;refine ac0 Tryz.func96 Tryz.ntmps96 [.tmp 2] ?_;exact wk1 h2 trivial
def qrD {f:Nat} {V:Int} (hf:f < 18446744073709551616) (hv:ofF f=some V):ACt 33 [uv f] (yD V):=by
 have hfin:q0L f:=λh=>by unfold ofF at hv; rw [if_pos h] at hv; cases hv
 obtain ⟨V',hv',hmk⟩:=q8Y hfin;rw [hv] at hv'; cases hv';have C1:=qmM hf;have C2:=qcf hf;have h1:=q39 (a:=f / 4503599627370496) Oq;have h2:=q6d (a:=f) (by assumption);have hxm:=zE (f / 4503599627370496) (show 0 < 2048 by omega);have hm:=zE f (show 0 < 4503599627370496 by omega);rw [decide_eq_true hfin] at C1;obtain ⟨x,hxe⟩:∃ x,x=f / 4503599627370496 % 2048:=⟨_,rfl⟩;obtain ⟨m,hme⟩:∃ m,m=f % 4503599627370496:=⟨_,rfl⟩;rw [<- hxe] at hxm h1 hmk;rw [<- hme] at hm h2 hmk;have C3:=λ(M:Nat) (E:Int) (hM:M < 9007199254740992) (hE1 : -1074<=E) (hE2:E<=2000) (hmk:mkV (sgn (decide (9223372036854775808<=f)) M) E=some V) =>
  have hval:val [M % 4294967296,M / 4294967296 % 4294967296]=M:=by simp only [val,B]; omega
  q95 (s:=decide (9223372036854775808<=f)) (l:=[M % 4294967296,M / 4294967296 % 4294967296]) (e:=E) (V:=V) (λd hd=>by simp at hd; unfold B; omega) σ (by rw [hval]; have:=q0M (show M < 2 ^ 53 by omega); omega) ω ω (by rw [hval]; exact hmk)
 clear hv hfin hf;generalize decide (9223372036854775808<=f)=sg at *;refine ac0 Tryz.func33 Tryz.ntmps33 [.cell 2 46] ?_;refine wk1 (x2 h1 h2) ?_;refine qjs (λp:Nat × Int=>p.1 < 9007199254740992 /\ -1074<=p.2/\p.2<=2000/\mkV (sgn sg p.1) p.2=some V) (λp=>[(0,uv f),(2,.pt 2 0 0),(4,uv p.1),(5,iv p.2)]) (λ_=>[(2,⟨46,some 4,[.ag [bv false,bv false,q1R,iv 0]],false⟩)]) ?_ λK fin=>?_
 .rintro ⟨M,E⟩ ⟨a1,a2,a3,a4⟩;have C4:=C3 M E a1 a2 a3 a4;have em:=yB M 4294967296;refine q4L 8 29 λK hK=>?_
  try refine Zz ?_
  refine q0K C2 ?_
  try refine Zz ?_
  refine q1g ?_
  try refine Zz ?_
  refine q0K C4 ?_
  try refine Zz ?_
  refine hK _ _ ?_;exact wk trivial
 .by_cases hx0:x=0
  .have q:¬ (0:Int) < x:=ω
   rw [if_pos hx0,if_pos hx0] at hmk;refine wk1 q ?_;refine fin (m,-1074) _ _ ⟨by simp only; omega,by simp only; omega,by simp only; omega,hmk⟩ ?_;refine LeM [] rfl rfl ?_;exact Zy
  .have q:(0:Int) < x:=ω
   have h4:=qib hm;rw [if_neg hx0,if_neg hx0] at hmk;refine wk1 (x2 q h4) ?_;refine fin (_,(x:Int)-1075) _ _ ⟨?_,by simp only; omega,by simp only; omega,hmk⟩ ?_
   .simp only; omega
   refine LeM [] rfl rfl ?_;exact Zy
end
section
variable {m e V:Int} {f:FuncId} {al:List PV}
def q7M (h:ACt f al (dT V)) (ho:q00 V):ACt f al (pV V):=qjd (r:=dT V) (λD w v h=>qcH (q6J.1 ⟨h,ho⟩)) h
def qdm {s:Bool} (hs:s=decide (m < 0)) (hb:bl m.natAbs<=1000000) (he1 : -1000000<=e) (he2:e<=1000000) (hv:mkV m e=some V):ACt 74 [sT s m,iv e] (dT V):=by
 have C:=q95 (s:=s) (l:=lim m.natAbs) (e:=e) (V:=V) (q0B _) (q2w ω) (by rwa [q0D]) he1 he2 (by rw [q0D,hs,q02]; exact hv);exact q3E C
def q2g {s:Bool} (hs:s=decide (m < 0)) (hb:bl m.natAbs<=1000000) (he1 : -1000000<=e) (he2:e<=1000000) (hv:mkV m e=some V):ACt 74 [sT s m,iv e] (pV V):=q7M (qdm hs hb he1 he2 hv) (q4j hv).2.2.2
end
def q0y {V:Int} (ho:q00 V):ACt 78 [dT V] (dT V):=by
 obtain ⟨h1,h2,h3⟩:=q0s ho;have C1:=qdm (m:=od V) (e:=dyE V) rfl Oq Oq Oq (q94 ho);refine ac0 Tryz.func78 Tryz.ntmps78 [.cell 2 46] ?_;exact wk trivial
def qmT {l:List Int} (hn:l.length<=1000) (ho:∀ x ∈ l,q00 x) (hv:q00 (q1Z l)):ACt 45 [.sl (some 4) (l.map λV=>pV V)] (pV (q1Z l)):=by
 have C2:=@q3Z;refine ac0 Tryz.func45 Tryz.ntmps45 [.cell 2 46] ?_;refine wk ?_;refine q0C (λq:Nat × Int × Int=>q.1<=l.length /\ -65536<=q.2.2/\q.2.2<=65536/\q.2.1*(2:Int) ^ (q.2.2+65536).toNat=q1Z (l.take q.1)) [0,2,3,7] [2] Lk Lk (λq=>[(5,iv q.1),(4,iv q.2.2)]) (λq=>[(3,⟨42,some 2,[bT q.2.1],false⟩)]) (λq=>l.length-q.1) (0,0,0) ⟨zD _,by decide,by decide,by rw [Int.zero_mul]; rfl⟩ ?_ ?_
 .refine LeM [] rfl rfl ?_;refine Zz ?_;exact ⟨rfl,rfl⟩
 .rintro ⟨i,tot,e⟩ ⟨hi,he1,he2,hs⟩;simp only at hi he1 he2 hs ⊢;have hbs:=qiO (i:=i) ho Oq;have hbt:=q36 hs
  by_cases hlt:i < l.length
  .obtain ⟨x,hxi⟩:∃ x,l[i]?=some x:=⟨_,yP Oq⟩;have hox:=ho x (yO hxi);obtain ⟨hd1,hd2,hd3⟩:=q0s hox;have hst:=q47 l i x hxi;have hbx:bl x.natAbs<=131072:=hox;have C1:=quf κ λh=>q0y h (V:=x)
   by_cases hx0:x=0
   .have q1:((od x).sign == 0)=true:=by rw [hx0]; rfl
    refine wk1 (x2 hxi q1) ?_;refine ⟨(i+1,tot,e),⟨by simp only; omega,he1,he2,by simp only; rw [hst,hx0,Int.add_zero]; exact hs⟩,by simp only; omega,?_⟩;simp only;refine LeM [] rfl rfl ?_;refine Zz ?_
    rfl
   .have q1:((od x).sign == 0)=false:=by
     have hod:=q3P hx0
     rcases yZ hod with h | h
     .rw [zW h]; rfl
     .rw [zH h]; rfl
    have hdx:dyE x=(tz x.natAbs:Int)-65536:=by unfold dyE; rw [if_neg hx0]
    have hodx:od x*(2:Int) ^ (dyE x+65536).toNat=x:=by
     rw [hdx,show ((tz x.natAbs:Int)-65536+65536).toNat=tz x.natAbs by omega,q1W]
    by_cases ht0:tot=0
    .have q2:(Int.sign tot == 0)=true:=by rw [ht0]; rfl
     refine wk1 (x3 hxi q1 q2) ?_;refine ⟨(i+1,od x,dyE x),⟨by simp only; omega,hd1,hd2,by simp only; rw [hst,hodx,<- hs,ht0]; simp⟩,by simp only; omega,?_⟩;simp only;refine LeM [] rfl rfl ?_;refine Zz ?_
     rfl
    .have q2:(Int.sign tot == 0)=false:=by
      rcases yZ ht0 with h | h
      .rw [zW h]; rfl
      .rw [zH h]; rfl
     have C3:=@q30;have C4:=@qdn
     by_cases hge:e<=dyE x
     .have hsh:shI (od x) (dyE x-e)=od x*(2:Int) ^ (dyE x-e).toNat:=by unfold shI; rw [if_pos ω]
      have hlf:od x*(2:Int) ^ (dyE x-e).toNat*(2:Int) ^ (e+65536).toNat=x:=by
       rw [Int.mul_assoc,<- Int.pow_add,show (dyE x-e).toNat+(e+65536).toNat=(dyE x+65536).toNat by omega,hodx]
      have hb11:=q36 hlf;refine wk1 (x4 hxi q1 q2 hsh) ?_;refine ⟨(i+1,tot+od x*(2:Int) ^ (dyE x-e).toNat,e),⟨by simp only; omega,he1,he2,by simp only; rw [hst,Int.add_mul,hs,hlf]⟩,by simp only; omega,?_⟩;simp only;refine LeM [] rfl rfl ?_;refine Zz ?_
      rfl
     .have hsh:shI tot (e-dyE x)=tot*(2:Int) ^ (e-dyE x).toNat:=by unfold shI; rw [if_pos ω]
      have hlf:tot*(2:Int) ^ (e-dyE x).toNat*(2:Int) ^ (dyE x+65536).toNat=q1Z (l.take i):=by
       rw [Int.mul_assoc,<- Int.pow_add,show (e-dyE x).toNat+(dyE x+65536).toNat=(e+65536).toNat by omega,hs]
      have hb11:=q36 hlf;refine wk1 (x4 hxi q1 q2 hsh) ?_;refine ⟨(i+1,tot*(2:Int) ^ (e-dyE x).toNat+od x,dyE x),⟨by simp only; omega,hd1,hd2,by simp only; rw [hst,Int.add_mul,hlf,hodx]⟩,by simp only; omega,?_⟩;simp only;refine LeM [] rfl rfl ?_;refine Zz ?_
      rfl
  .obtain rfl:i=l.length:=ω
   rw [List.take_length] at hs hbs hbt;have C1:=@q2g;have hmk:mkV tot e=some (q1Z l):=by rw [q4U ω hs]; exact q2e hv
   exact wk trivial
section
attribute [local instance] lNL
def qjA {l:List Nat} {i:Nat} (ha:q0Z l) (hi:i < l.length) (h2:l.length<=2):(val (l.take i) ||| l.getD i 0*2 ^ (32*i) % 18446744073709551616)=val (l.take (i+1)):=by
 have hd:=ha.get i;unfold B at hd;have h1:=q1a (ha.take i);rw [ltk ω] at h1;have hb:B ^ i=2 ^ (32*i):=by rw [qaW,<- yU]
 rw [hb] at h1;have hm:l.getD i 0*2 ^ (32*i) < 18446744073709551616:=by
  have:l.getD i 0*2 ^ (32*i) < 2 ^ 32*2 ^ (32*i):=xP hd (q0F _);rw [<- zX] at this;exact zK this (zJ (n:=2) Oq (show 32+32*i<=64 by omega))
 rw [zC hm,q1t h1,vts,hb,zF]
section
variable {a:Int} {s:Bool}
def qgJ (hs:s=decide (a < 0)) (h0:0<=a) (ha:a<=9223372036854775807):ACt 247 [yT s a] (.tu [iv a,bv true]):=by
 obtain rfl:s=false:=by rw [hs]; exact decide_eq_false ω
 clear hs;obtain ⟨x,rfl⟩:∃ x:Nat,a=x:=⟨a.toNat,ω⟩;change ACt 247 [.ag [bv false,pW (lim x)]] (.tu [iv (x:Nat),bv true]);have hl:(lim x).length<=2:=q0c (show x < B ^ 2 by unfold B; omega);obtain ⟨n,hn⟩:∃ n,(lim x).length=n:=⟨_,rfl⟩;have T1:=q0T (q0B x) Oq;rw [q0D] at T1;have q:¬ (2:Int) < n:=ω
 refine ac0 Tryz.func247 Tryz.ntmps247 [.tmp 2,.tmp 3] ?_;refine wk1 (x2 hn q) ?_;refine q0C (λi:Nat=>i<=n) [1,14,15] [1] Lk Lk (λi=>[(16,iv i),(5,uv (val ((lim x).take i)))]) (λ_=>[]) (λi=>n-i) 0 (zD _) ?_ ?_
 .refine LeM [] rfl rfl ?_;refine Zz ?_;exact ⟨rfl,rfl⟩
 .intro i hi
  by_cases hlt:i < n
  .have q1:(i:Int) < n:=ω
   have e1:=q1J (l:=lim x) (i:=i) Oq;have hd:(lim x).getD i 0 < 4294967296:=(q0B x).get i;have hv:val ((lim x).take i) < 18446744073709551616:=by rw [q19 (q0B x),q0D]; exact zY (Nat.mod_le _ _) ω
   have e2:=qjA (q0B x) (i:=i) Oq hl;have e3:IntKind.i64.wrap (32*(i:Int))=((32*i:Nat):Int):=by rw [i64_in ω ω]; omega
   refine wk1 (x4 q1 e1 e3 e2) ?_;refine ⟨i+1,ω,ω,?_⟩;refine LeM [] rfl rfl ?_;refine Zz ?_
   rfl
  .have q1:¬ (i:Int) < n:=ω
   have e1:val ((lim x).take i)=x:=by rw [q0G _ _ ω,q0D]
   rw [e1];have q2:(x:Int) < 9223372036854775808:=ω
   exact wk1 (x2 q1 q2) trivial
def qf9 (hs:s=decide (a < 0)) (h0:0<=a) (ha:a<=9223372036854775807):ACt 219 [yT s a] (.tu [iv a,bv true]):=by
 have hb:bl a.natAbs<=64:=q0M (show a.natAbs < 2 ^ 64 by omega);have C1:=q4c hs Oq;clear hb;obtain rfl:s=false:=by rw [hs]; exact decide_eq_false ω
 clear hs;obtain ⟨x,rfl⟩:∃ x:Nat,a=x:=⟨a.toNat,ω⟩;unfold zT at C1;rw [show decide ((x:Int) < 0)=false from decide_eq_false ω] at C1;change ACt 139 [.ag [bv false,pW (lim x)]] (.ag [bv false,pW (lim x)]) at C1;change ACt 219 [.ag [bv false,pW (lim x)]] (.tu [iv (x:Nat),bv true]);have hl:(lim x).length<=2:=q0c (show x < B ^ 2 by unfold B; omega);obtain ⟨n,hn⟩:∃ n,(lim x).length=n:=⟨_,rfl⟩;have q:¬ (2:Int) < n:=ω
 refine ac0 Tryz.func219 Tryz.ntmps219 [.tmp 2,.tmp 3] ?_;refine wk1 (x2 hn q) ?_;refine q0C (λi:Nat=>i<=n) [1] [1] Lk Lk (λi=>[(5,iv i),(4,uv (val ((lim x).take i)))]) (λ_=>[]) (λi=>n-i) 0 (zD _) ?_ ?_
 .refine LeM [] rfl rfl ?_;refine Zz ?_;exact ⟨rfl,rfl⟩
 .intro i hi
  by_cases hlt:i < n
  .have q1:(i:Int) < n:=ω
   have e1:=q1J (l:=lim x) (i:=i) Oq;have hd:(lim x).getD i 0 < 4294967296:=(q0B x).get i;have hv:val ((lim x).take i) < 18446744073709551616:=by rw [q19 (q0B x),q0D]; exact zY (Nat.mod_le _ _) ω
   have e2:=qjA (q0B x) (i:=i) Oq hl;have e3:IntKind.i64.wrap (32*(i:Int))=((32*i:Nat):Int):=by rw [i64_in ω ω]; omega
   refine wk1 (x5 hn q1 e1 e3 e2) ?_;refine ⟨i+1,ω,ω,?_⟩;refine LeM [] rfl rfl ?_;refine Zz ?_
   rfl
  .have q1:¬ (i:Int) < n:=ω
   have e1:val ((lim x).take i)=x:=by rw [q0G _ _ ω,q0D]
   rw [e1];have q2:¬ (9223372036854775807:Int) < x:=ω
   exact wk1 (x3 hn q1 q2) trivial
end
end
section
variable {a b m e V:Int} {f:FuncId} {al:List PV}
def qhF {s t:Bool} (hs:s=decide (a < 0)) (ht:t=decide (b < 0)) (ha:bl a.natAbs<=20000000) (hb:bl b.natAbs<=20000000):ACt 80 [sT s a,sT t b] (bT (a*b)):=q3E (qf6 hs ht ha hb)
def qaw {s:Bool} (_:s=decide (a < 0)) (ha:bl a.natAbs<=20000000):ACt 142 [sT s a] (iv (bl a.natAbs:Nat)):=q3E (q4e ha)
def qmW {s:Bool} (_:s=decide (a < 0)) (ha:bl a.natAbs<=20000000):ACt 76 [sT s a] (bT a.natAbs):=q3E (q6M ha)
def qmU {s:Bool} (hs:s=decide (a < 0)) (h0:0<=a) (ha:a<=9223372036854775807):ACt 219 [sT s a] (.tu [iv a,bv true]):=q3E (qf9 hs h0 ha)
def q4d {z:Int} (h1 : -9223372036854775808<=z) (h2:z<=9223372036854775807) (hv:mkV z 0=some V):ACt 50 [iv z] (pV V):=by
 have hz:bl z.natAbs<=64:=q0M (zY (show z.natAbs<=9223372036854775808 by omega) (by decide));have C1:=@q7a;have C2:=@q2g;refine ac0 Tryz.func50 Tryz.ntmps50 [.cell 2 46] ?_;exact wk trivial
def qcK (hv:mkV (a*b) (-131072)=some V):ACt 22 [pV a,pV b] (pV V):=ac_2 κ λ⟨ha,hb⟩=>by
 obtain ⟨ha1,ha2,ha3⟩:=q0s ha;obtain ⟨hb1,hb22,hb33⟩:=q0s hb;have hmul:=q1y (od a).natAbs (od b).natAbs;rw [<- Int.natAbs_mul] at hmul;have C1:=q0y ha;have C4:=q0y hb;have C2:=@qhF;have C3:=q2g (m:=od a*od b) (e:=dyE a+dyE b) rfl Oq Oq Oq ((qcd a b).trans hv);refine ac0 Tryz.func22 Tryz.ntmps22 [.cell 4 46] ?_;exact wk trivial
def qrF {V:Int} (hz:V≠0):((od V).sign == 0)=false:=by
 have hod:=q3P hz
 rcases yZ hod with h | h
 .rw [zW h]; rfl
 .rw [zH h]; rfl
def qbg {j V':Int} (ho:q00 V) (h1 : -200000<=j) (h2:j<=200000) (hv:mkV (od V) (dyE V+j)=some V'):ACt 49 [dT V,iv j] (dT V'):=by
 obtain ⟨hd1,hd2,hd3⟩:=q0s ho;have C1:=q0y ho;have C2:=@q3Z;have C3:=qdm (s:=decide (od V < 0)) rfl Oq Oq Oq hv;refine ac0 Tryz.func49 Tryz.ntmps49 [.cell 4 46] ?_
 by_cases hz:V=0
 .have q1:((od V).sign == 0)=true:=by rw [hz]; rfl
  rw [hz,q14,q10] at hv;obtain rfl:V=V':=by rw [hz]; exact xU.inj hv
  exact wk1 q1 trivial
 .have q1:=qrF hz;exact wk1 q1 trivial
def que {x r:PV} (hc:q0H Tryz.prog f=true) (ha:q00 V->ACt f [dT V,x] r):ACt f [pV V,x] r:=qe4 hc (λD w vs hR=>by
 obtain ⟨a,b,rfl,h1,h2⟩:=rd_2 hR;obtain ⟨h3,h4⟩:=q6J.2 (qf3 h1);refine ⟨?_,h4⟩;unfold RdL;exact ⟨_,_,rfl,h3,RdL.one h2⟩) ha
def q6H {j V':Int} (h1 : -200000<=j) (h2:j<=200000) (hv:mkV (od V) (dyE V+j)=some V'):ACt 49 [pV V,iv j] (pV V'):=que κ λho=>q7M (qbg ho h1 h2 hv) (q4j hv).2.2.2
end
section
variable {f:Nat} {neg:Bool}
def q3j (hf:f < 9223372036854775808):ACt 220 [bv neg,uv f] (uv (sb neg f:Nat)):=by
 have h:=qcZ hf;refine ac0 Tryz.func220 Tryz.ntmps220 [.tmp 4] ?_;cases neg
 .exact wk1 (show sb false f=f from rfl) trivial
 .exact wk1 (x2 h (show sb true f=f+9223372036854775808 from rfl)) trivial
def qf4 {mode:Int}:ACt 217 [bv neg,iv mode] (uv (qcY mode neg:Nat)):=by
 have C1:=q3j (f:=9218868437227405312) (neg:=neg) Oq;have C2:=q3j (f:=9218868437227405311) (neg:=neg) Oq;have e:qcY mode neg=sb neg (if mode=3\/mode=1/\neg=false\/mode=2/\neg=true then 9218868437227405311 else 9218868437227405312):=by
  unfold qcY;cases neg <;> simp <;> split <;> rfl
 rw [e];clear e;refine ac0 Tryz.func217 Tryz.ntmps217 [.tmp 4] ?_
 by_cases m3:mode=3
 .rw [if_pos (.inl m3)];exact wk trivial
 .by_cases m1:mode=1
  .have m2:mode≠2:=ω
   cases neg
   .rw [if_pos (.inr (.inl ⟨m1,rfl⟩))];exact wk trivial
   .rw [if_neg (by simp [m1])];exact wk trivial
  .by_cases m2:mode=2
   .cases neg
    .rw [if_neg (by simp [m2])];exact wk trivial
    .rw [if_pos (.inr (.inr ⟨m2,rfl⟩))];exact wk trivial
   .rw [if_neg (by simp [m1,m2,m3])];exact wk trivial
def qcM (hf:f < 18446744073709551616):ACt 31 [uv f] (bv (decide (q0L f))):=by
 have h1:=q39 (a:=f / 4503599627370496) Oq;have h2:(((f / 4503599627370496 % 2048:Nat):Int) != 2047)=decide (q0L f):=bneN (b:=2047);refine ac0 Tryz.func31 Tryz.ntmps31 [.tmp 2] ?_;exact wk1 (x2 h1 h2) trivial
end
end Go.Proofs.YtbjoghfmhgadkaaGreatDoor
