/- LuBounded and LuErrors are proved. 2/6. -/
import Derived.LoopN
import Derived.Test.YtbjoghfmhgadkaaGreatDoorPv1
open Array renaming length_toList->zG,getElem?_toList->zH,getD_eq_getD_getElem?->zY,getElem?_setIfInBounds->z8,size_setIfInBounds->yC,getElem?_replicate->yL,mem_toList_iff->vW,replicate->vX,getElem?_eq_getElem->y8,toList_push->xC,toList_map->xE,toList_zipIdx->xO,foldl_toList->xQ
open Bool renaming and_eq_true->zX,or_eq_true->vY,false_eq_true->xU
open Int renaming toNat_natCast->xD
open List renaming getElem?_eq_some_iff->zC,getElem?_eq_getElem->zD,mem_of_getElem?->zE,getElem?_take->zI,mem_of_mem_drop->zK,mem_of_mem_take->zL,mem_cons_of_mem->zM,length_cons->zN,mem_append->zO,eq_nil_of_length_eq_zero->zP,getElem?_drop->zQ,mem_append_right->zR,mem_cons_self->vZ,getElem?_eq_none->zU,mem_append_left->zW,map_congr_left->v5,map_cons->v6,mem_cons->z6,getElem?_append->z7,length_append->z9,getElem?_toArray->yA,ext_getElem?->yB,getElem?_cons_succ->v7,mem_replicate->yE,length_nil->yF,getD_eq_getElem?_getD->yH,length_take->yI,all_eq_true->yJ,mem_map->yK,cons->yP,set_eq_take_append_cons_drop->yQ,take_of_length_le->yS,getElem?_map->v8,mem_range->yV,mem_flatMap->yW,perm_middle->yX,range_eq_range'->yY,length_map->v9,map_map->uA,map_replicate->y6,mem_or_eq_of_mem_set->y7,append_assoc->xA,size_toArray->xB,getElem?_replicate->xG,getElem?_cons_zero->xH,append_nil->xJ,length_replicate->xL,getElem?_of_mem->xM,range'->xN,zip_cons_cons->uB,mem_singleton->xS,countP_append->xT,map_set->xW
open Nat renaming eq_of_beq_eq_true->zJ,le_refl->zS,zero_add->zV,add_mul->yG,eq_zero_or_pos->yN,mul_pos->yO,add_zero->yR,beq->yU,mul_le_mul_right->yZ,succ_mul->uC,lt_or_ge->uD,le_mul_of_pos_right->xF,zero_mul->xI,strongRecOn->xK,add_assoc->xP,le_trans->xV,one_pos->xX
open Option renaming map_eq_some_iff->zA,bind_eq_some_iff->zB,bind_some->zF,map_some->yM,some->y9
set_option linter.unusedSimpArgs false
set_option linter.unusedVariables false
set_option maxRecDepth 20000
set_option maxHeartbeats 2000000
set_option linter.defProp false
namespace Go.E
open Go Go.RowKit
def pe (s:Nat->PV):Operand->PV
 | .tmp t=>s t
 | .const v=>.vl v
 | .global g=>.vl (.pointer (some ⟨g,0,none⟩))
 | .func f=>.vl (.func (.func f) #[] #[])
def qid [NL] (v:Value):Prop:=v.oneCell'=true/\q3f v=true
def qau [NL]:PV->Prop
 | .vl x=>qid x
 | .fm G=>∀ D v w,In G D v w->q1z none v
 | .sl _ _ | .ow _ _ _ _ | .pt _ _ _ | .qt _ _ | .mp _=>True
 | _=>False
def q4D [NL]:Kd->PV->Prop
 | none,x=>qau x
 | some n,.ag l=>(l.length=n/\n≠0)/\∀ x ∈ l,qau x
 | some n,.fm G=>n≠0/\∀ D v w,In G D v w->q1z (some n) v
 | some _,_=>False
def q1x (P:Program) (t:TypeId) (f:Nat):Option (Nat × Kd) :=
 match P.underlying t with
 | some (.struct fs)=>match fs[f]? with
  | some d=>match q0S P t f,q0Y P d.type with | some off,some k=>some (off,k) | _,_=>none
  | none=>none
 | _=>none
def ldU (bk k:Kd) (j:Nat) (u:PV):Option PV :=
 if bk=k/\j=0 then some u else
  match bk,k,u with
  | some _,none,.ag l=>l[j]?
  | some _,some m,.ag l=>if j+m<=l.length then some (.ag ((l.drop j).take m)) else none
  | _,_,_=>none
def qo2 (P:Program) (t:TypeId) (f:Nat):PV->Option PV
 | .pt id i j=>(q1x P t f).map λr=>.pt id i (j+r.1)
 | .qt (some _) (.ag l)=>(q1x P t f).bind λr=>match r.2 with
  | none=>(l[r.1]?).map (.qt none)
  | some m=>if r.1+m<=l.length/\0 < m then some (.qt (some m) (.ag ((l.drop r.1).take m))) else none
 | _=>none
def q9l (sz:Option Nat):PV->PV->Option PV
 | .sl k l,.vl (.int _ z)=>if sz=some (ksz k)/\0 < ksz k/\0<=z then (l[z.toNat]?).map (.qt k) else none
 | .ow id k off n,.vl (.int _ z)=>if sz=some (ksz k)/\0<=z/\z < n then some (.pt id (off+z.toNat) 0) else none
 | _,_=>none
def qbC (d:Nat):Option PV->Option Nat
 | none=>some d
 | some (.vl (.int _ z))=>if 0<=z then some z.toNat else none
 | _=>none
def slP (sz:Option Nat) (lo hi:Option PV):PV->Option PV
 | .sl k l=>(qbC l.length hi).bind λb=>(qbC 0 lo).bind λa=>if sz=some (ksz k)/\a<=b/\b<=l.length then some (.sl k ((l.take b).drop a)) else none
 | .ow id k off n=>(qbC n hi).bind λb=>(qbC 0 lo).bind λa=>if sz=some (ksz k)/\a<=b/\b<=n then some (.ow id k (off+a) (b-a)) else none
 | _=>none
def qo0 (sz:Option Nat):PV->Option PV
 | .sl _ l=>sz.map λ_=>.vl (.int .i64 l.length)
 | .ow _ _ _ n=>sz.map λ_=>.vl (.int .i64 n)
 | .vl x=>(qsB sz x).map .vl
 | _=>none
def val?:PV->Option Value | .vl x=>some x | _=>none
def q8I:List PV->Option (List Value)
 | []=>some []
 | x :: l=>match x,q8I l with | .vl a,some r=>some (a :: r) | _,_=>none
def pkP (c a b:PV):Option PV:=match c with | .vl (.bool true)=>some a | .vl (.bool false)=>some b | _=>none
def fNil (n:Nat):Fam:=⟨λ_ v _=>∃ b,v=.bool b/\(b=true->n=0),λ_ h=>h,λ_ h=>h⟩
def bnP (P:Program) (op:BinOp) (t:TypeId):PV->PV->Option PV
 | .vl a,.vl b=>(q0k P op t a b).map .vl
 | .sl k l,.vl (.slice none _ _)=>match op,P.underlying t with | .eql,some (.slice _)=>if 0 < ksz k then some (.fm (fNil l.length)) else none | _,_=>none
 | .ag l,.ag m=>match q8I l,q8I m with | some xs,some ys=>(q0k P op t (.agg ⟨xs⟩) (.agg ⟨ys⟩)).map .vl | _,_=>none
 | _,_=>none
def unP (op:UnOp):PV->Option PV | .vl a=>(unV op a).map .vl | _=>none
def cvP (s d:Option TypeDesc):PV->Option PV | .vl a=>(qax s d a).map .vl | _=>none
def fdP (P:Program) (t:TypeId) (f:Nat):PV->Option PV
 | .ag l=>match P.underlying t with
  | some (.struct fs)=>match fs[f]? with
   | some d=>match P.underlying d.type with
    | some (.int _)=>l[d.offset]?
    | _=>none
   | none=>none
  | _=>none
 | _=>none
def exP (i:Nat):PV->Option PV | .tu l=>l[i]? | _=>none
def nlP:PV->Option PV | .pt id i j=>some (.pt id i j) | .qt k x=>some (.qt k x) | _=>none
def mmP (b:Bool) (l:List PV):Option PV:=(q8I l).bind λr=>(mmV b r).map .vl
def fFun (f:FuncId) (z:Int):Fam:=⟨λD v w=>∃ ad,v=.func (.func f) #[] #[.pointer (some ad)]/\D ad.block/\w.cell? ad=some (.int .i64 z),λk ⟨ad,h1,h2,h3⟩=>⟨ad,h1,h2,k.cell h2 h3⟩,λ{_ _ w _} k ⟨ad,h1,h2,h3⟩=>⟨ad,h1,k _ (World.block_lt_of_cell? w _ h3) h2,h3⟩⟩
def qhB [NL] (f:FuncId) (l:List PV):Fam:=⟨λD v w=>∃ vs,v=.func (.func f) #[] ⟨vs⟩/\RdL w D l (λ_=>none) h0 vs,λk ⟨vs,h1,h2⟩=>⟨vs,h1,RdL.mv k (λ_ _ h=>h) _ _ _ _ _ _ Cpt.h0 h2⟩,λk ⟨vs,h1,h2⟩=>⟨vs,h1,RdL.mv (Kp.refl _ _) k _ _ _ _ _ _ Cpt.h0 h2⟩⟩
def fnP [NL] (fn:Fn) (first:Array Operand):List PV->Option PV
 | [.qt none (.vl (.int .i64 z))]=>match fn with | .func f=>if first.isEmpty then some (.fm (fFun f z)) else none | _=>none
 | [.qt k x,.qt k' y]=>match fn with | .func f=>if first.isEmpty then some (.fm (qhB f [.qt k x,.qt k' y])) else none | _=>none
 | _=>none
def flP (pl:List (Nat × Nat)):List PV->List (Nat × PV)->Option (List PV)
 | cs,[]=>some cs
 | cs,(i,x) :: r=>match pl[i]? with
  | some (off,1)=>match x with
   | .vl y=>if y.oneCell'=true/\off < cs.length then flP pl (cs.set off (.vl y)) r else none
   | .sl k l=>if off < cs.length then flP pl (cs.set off (.sl k l)) r else none
   | .ow id k a n=>if off < cs.length then flP pl (cs.set off (.ow id k a n)) r else none
   | .pt id a n=>if off < cs.length then flP pl (cs.set off (.pt id a n)) r else none
   | .mp id=>if off < cs.length then flP pl (cs.set off (.mp id)) r else none
   | _=>none
  | some (off,m)=>match x with
   | .ag l=>if l.length=m/\off+m<=cs.length then flP pl (cs.take off ++ l ++ cs.drop (off+m)) r else none
   | _=>none
  | none=>none
def plc (P:Program) (t:TypeId):Option (List (Nat × Nat) × List Value) :=
 match P.info? t,P.underlying t with
 | some it,some (.struct fields) =>
  match it.zero,fields.toList.mapM (λf=>(P.info? f.type).map λi=>(f.offset,i.size)) with
  | some z,some places=>some (places,z.cells.toList)
  | _,_=>none
 | _,_=>none
def blP (P:Program) (t:TypeId) (ps:List (Nat × PV)):Option PV:=(plc P t).bind λr=>(flP r.1 (r.2.map .vl) ps).map .ag
def q4J [NL] (P:Program) (o:Op) (e:Operand->PV):Option PV :=
 match o with
 | .move x=>some (e x)
 | .assign x=>some (e x)
 | .pick c a b=>pkP (e c) (e a) (e b)
 | .binOp op t x y _=>bnP P op t (e x) (e y)
 | .unOp op _ x=>unP op (e x)
 | .convert s d x=>cvP (P.underlying s) (P.underlying d) (e x)
 | .fieldAddr t x f=>qo2 P t f (e x)
 | .extract x i=>exP i (e x)
 | .field t x f=>fdP P t f (e x)
 | .nilCheck x=>nlP (e x)
 | .indexAddr t x i=>q9l (q0b P t) (e x) (e i)
 | .slice t x lo hi mx=>match mx with | none=>slP (q0b P t) (lo.map e) (hi.map e) (e x) | some _=>none
 | .build t ps=>blP P t (ps.toList.map λp=>(p.1,e p.2))
 | .makeFunc fn first cap=>fnP fn first (cap.toList.map e)
 | .call c=>match c.callee with
  | .builtin .len=>match c.args.toList,c.argTypes.toList with
   | [x],[t]=>qo0 (q0b P t) (e x)
   | _,_=>none
  | .builtin .max=>mmP true (c.args.toList.map e)
  | .builtin .min=>mmP false (c.args.toList.map e)
  | _=>none
 | _=>none
section
variable {w:World} {w0:Base} {D D0:Nat->Prop} {ρ:Nat->Option Nat} {h:Hp} {s:Nat->PV} {e:Env} {P:Program}
def Sat.pex [NL] (S:Sat D0 w0 s h ρ e w) (x:Operand):Rd w (dm D0 ρ h) (pe s x) ρ h (ev e x):=by
 cases x <;> simp only [E.pe,ev]
 case tmp t=>exact S.rd t
 all_goals (unfold Rd; rfl)
def q1z.cell [NL] {n:Nat} {cs:List Value} (hf:q1z (some n) (.agg ⟨cs⟩)) {j:Nat} {u:Value} (hu:cs[j]?=some u):q1z none u:=by
 obtain ⟨c,h1,h2,h3⟩:=hf;cases h1;have:=h3 u (by simpa using zE hu);refine ⟨?_,this.1,this.2⟩;obtain ⟨h4,_⟩:=this;cases u <;> first | rfl | cases h4
def q1Q {u:Value} (h:u.oneCell'=true):u.cells=#[u]:=by cases u <;> first | rfl | cases h
def q1z.part [NL] {n j m:Nat} {cs:List Value} (hf:q1z (some n) (.agg ⟨cs⟩)) (hj:j+m<=cs.length):q1z (some m) (.agg ⟨(cs.drop j).take m⟩):=by
 obtain ⟨c,h1,h2,h3⟩:=hf;cases h1;refine ⟨_,rfl,by simp; omega,λu hu=>h3 u ?_⟩;simp only at hu;exact zK (zL hu)
def qix [NL] {bk k:Kd} {j:Nat} {u x:PV} {y:Value} (hl:ldU bk k j u=some x) (hr:Rd w D u ρ h y) (hf:q1z bk y) (hk:0 < ksz k):∃ z,Rd w D x ρ h z/\q1z k z/\∀ i v,z.cells.toList[i]?=some v->y.cells.toList[j+i]?=some v:=by
 unfold ldU at hl
 split at hl
 .rename_i hh;obtain ⟨rfl,rfl⟩:=hh;cases hl;exact ⟨y,hr,hf,λi v hv=>by rw [zV]; exact hv⟩
 .split at hl
  .rename_i n l _;unfold Rd at hr;obtain ⟨vs,rfl,h1⟩:=hr;obtain ⟨z,h2,h3⟩:=h1.get hl;have h4:=hf.cell h2;refine ⟨z,h3,h4,λi v hv=>?_⟩;rw [h4.1] at hv;cases i with
   | zero=>simp at hv; subst hv; simpa [Value.cells] using h2
   | succ i=>simp at hv
  .rename_i n m l _
   split at hl
   .rename_i hjm;cases hl;unfold Rd at hr;obtain ⟨vs,rfl,h1⟩:=hr;have:=h1.len;refine ⟨.agg ⟨(vs.drop j).take m⟩,by unfold Rd; exact ⟨_,rfl,(h1.drop j).take m⟩,hf.part Oq,λi v hv=>?_⟩;simp only [Value.cells,zI] at hv ⊢
    split at hv
    .rw [zQ] at hv; exact hv
    .cases hv
   .cases hl
  .cases hl
def q9q {t f:Nat} {r:Nat × Kd} (hh:q1x P t f=some r):q0S P t f=some r.1:=by
 unfold q1x at hh
 split at hh
 .split at hh
  .split at hh
   .rename_i h1 _; cases hh; exact h1
   .cases hh
  .cases hh
 .cases hh
def q44 [NL]:∀ {l:List PV} {r:List Value} {ys:List Value},q8I l=some r->RdL w D l ρ h ys->ys=r
 | [],r,ys,hv,hr=>by unfold RdL at hr; unfold q8I at hv; cases hv; exact hr
 | x :: l,r,ys,hv,hr=>by
  unfold RdL at hr;obtain ⟨y,zs,rfl,h1,h2⟩:=hr;unfold q8I at hv
  split at hv
  .rename_i a r' hx;cases hv;unfold Rd at h1;rw [h1,q44 hx h2]
  .cases hv
def q3w [NL] {f:Operand->PV} {g:Operand->Value} (hfg:∀ x,Rd w D (f x) ρ h (g x)):∀ (l:List Operand),RdL w D (l.map f) ρ h (l.map g)
 | []=>by unfold RdL; rfl
 | x :: l=>by unfold RdL; exact ⟨_,_,rfl,hfg x,q3w hfg l⟩
def q3c [NL] (l:List Value):RdL w D (l.map .vl) ρ h l:=by
 induction l with
 | nil=>unfold RdL; rfl
 | cons x l ih=>rw [v6]; unfold RdL; exact ⟨_,_,rfl,by unfold Rd; rfl,ih⟩
def q2x (off:Nat):∀ (l:List Value) (k:Nat) (cs:Array Value),off+k+l.length<=cs.size->∃ r,(l.zipIdx k).foldl (λcs p=>cs.setIfInBounds (off+p.2) p.1) cs=r/\r.size=cs.size/\∀ i:Nat,r[i]?=if off+k<=i/\i < off+k+l.length then l[i-(off+k)]? else cs[i]?
 | [],k,cs,_=>⟨cs,rfl,rfl,λi=>by rw [if_neg σ]⟩
 | v :: l,k,cs,hl=>by
  rw [zN] at hl;obtain ⟨r,h1,h2,h3⟩:=q2x off l (k+1) (cs.setIfInBounds (off+k) v) (by rw [yC]; omega);refine ⟨r,by rw [List.zipIdx_cons,List.foldl_cons]; exact h1,by rw [h2,yC],λi=>?_⟩;rw [h3 i,z8,zN]
  by_cases c1:off+(k+1)<=i/\i < off+(k+1)+l.length
  .rw [if_pos c1,if_pos ω,show i-(off+k)=(i-(off+(k+1)))+1 by omega,v7]
  .rw [if_neg c1]
   by_cases c2:off+k=i
   .subst c2;rw [if_pos rfl,if_pos ω,if_pos ω,Nat.sub_self]
    rfl
   .rw [if_neg c2,if_neg ω]
def q8h [NL] {pl:List (Nat × Nat)}:∀ (ps:List (Nat × Operand)) {f:Operand->PV} {g:Operand->Value} (hfg:∀ x,Rd w D (f x) ρ h (g x)) (cs:List PV) (vs:Array Value) (r:List PV),flP pl cs (ps.map λp=>(p.1,f p.2))=some r->RdL w D cs ρ h vs.toList ->
  ∃ us,Instr.fill (pl.toArray[·]?) vs (ps.map λp=>(p.1,g p.2))=some us/\RdL w D r ρ h us.toList
 | [],f,g,hfg,cs,vs,r,hf,hr=>by
  rw [List.map_nil] at hf;unfold flP at hf;cases hf;exact ⟨vs,rfl,hr⟩
 | (i,x) :: ps,f,g,hfg,cs,vs,r,hf,hr=>by
  have hlen:=hr.len;rw [v6] at hf ⊢;unfold flP at hf;simp only at hf;have key:∀ off,pl[i]?=some (off,1)->(g x).oneCell'=true->off < cs.length->flP pl (cs.set off (f x)) (ps.map λp=>(p.1,f p.2))=some r->∃ us,Instr.fill (pl.toArray[·]?) vs ((i,g x) :: ps.map λp=>(p.1,g p.2))=some us/\RdL w D r ρ h us.toList:=λoff ho h1 h2 h3=>by
   obtain ⟨us,e1,e2⟩:=q8h ps hfg (cs.set off (f x)) (vs.setIfInBounds off (g x)) r h3 (by rw [Array.toList_setIfInBounds]; exact hr.set (hfg x) off);refine ⟨us,?_,e2⟩;unfold Instr.fill;rw [yA,ho];simp only [q1Q h1];rw [if_neg (by simp at hlen ⊢; omega)];simpa using e1
  split at hf
  .rename_i off ho;have hx:=hfg x
   split at hf <;> rename_i hfx
   .split at hf
    .rename_i hc;have hx':=hx;rw [hfx] at hx';unfold Rd at hx';exact key off ho (by rw [hx']; exact hc.1) hc.2 (by rw [hfx]; exact hf)
    .cases hf
   .split at hf
    .rename_i hc;have hx':=hx;rw [hfx] at hx';unfold Rd at hx';obtain ⟨_,_,_,_,e,_⟩:=hx';exact key off ho (by rw [e]; rfl) hc (by rw [hfx]; exact hf)
    .cases hf
   .split at hf
    .rename_i hc;have hx':=hx;rw [hfx] at hx';unfold Rd at hx';obtain ⟨_,_,_,_,_,e,_⟩:=hx';exact key off ho (by rw [e]; rfl) hc (by rw [hfx]; exact hf)
    .cases hf
   .split at hf
    .rename_i hc;have hx':=hx;rw [hfx] at hx';unfold Rd at hx';obtain ⟨_,_,_,_,_,e⟩:=hx';exact key off ho (by rw [e]; rfl) hc (by rw [hfx]; exact hf)
    .cases hf
   .split at hf
    .rename_i hc;have hx':=hx;rw [hfx] at hx';unfold Rd at hx';obtain ⟨_,_,_,_,e⟩:=hx';exact key off ho (by rw [e]; rfl) hc (by rw [hfx]; exact hf)
    .cases hf
   .cases hf
  .rename_i off m _ ho
   split at hf
   .rename_i l hfx
    split at hf
    .rename_i hc;have hx:=hfg x;rw [hfx] at hx;unfold Rd at hx;obtain ⟨rs,e,hr2⟩:=hx;have hrl:=hr2.len;have hvs:vs.toList.length=cs.length:=hlen;obtain ⟨q,q1,q2,q3⟩:=q2x off rs 0 vs (by rw [zG] at hvs; omega);have hq:q.toList=vs.toList.take off ++ rs ++ vs.toList.drop (off+m):=by
      apply yB
      intro n;rw [zH,q3 n,z7,z7,zI,zQ];have ht:(List.take off vs.toList).length=off:=by rw [yI]; omega
      rw [z9,ht]
      by_cases c1:n < off
      .rw [if_neg ω,if_pos ω,if_pos c1,if_pos c1,zH]
      .by_cases c2:n < off+rs.length
       .rw [if_pos ω,if_pos c2,if_neg c1,yR]
       .rw [if_neg ω,if_neg c2,zH,show off+m+(n-(off+rs.length))=n by omega]
     obtain ⟨us,e1,e2⟩:=q8h ps hfg _ q r hf (by rw [hq]; exact ((hr.take off).app hr2).app (hr.drop (off+m)));refine ⟨us,?_,e2⟩;unfold Instr.fill;rw [yA,ho];simp only [e,Value.cells];rw [if_neg (by rw [zG] at hvs; simp; omega)];rw [<- xQ,xO];rw [q1];exact e1
    .cases hf
   .cases hf
  .cases hf
def qaJ [NL] {d y:Nat} {o:Option PV} {b:Nat} {ov:Option Value} (hb:qbC d o=some b) (ho:(o=none/\ov=none)\/∃ x v,o=some x/\ov=some v/\Rd w D x ρ h v) (hy:b<=y):q2n y ov d=some b:=by
 rcases ho with ⟨rfl,rfl⟩ | ⟨x,v,rfl,rfl,hr⟩
 .exact hb
 .unfold qbC at hb
  split at hb
  .rename_i hx; cases hx
  .rename_i hx;cases hx;unfold Rd at hr;subst hr
   split at hb
   .cases hb;simp only [q2n];rw [if_pos ω]
   .cases hb
  .cases hb
def sl_ok [NL] {sz:Option Nat} {lo hi:Option Operand} {x:Operand} {r:PV} {f:Operand->PV} {g:Operand->Value} (hfg:∀ x,Rd w D (f x) ρ h (g x)) (hp:slP sz (lo.map f) (hi.map f) (f x)=some r):∃ v,q1b sz (lo.map g) (hi.map g) (g x)=some v/\Rd w D r ρ h v:=by
 have hlo:∀ o:Option Operand,(o.map f=none/\o.map g=none)\/∃ x v,o.map f=some x/\o.map g=some v/\Rd w D x ρ h v:=λo=>by
  cases o with
  | none=>exact .inl ⟨rfl,rfl⟩
  | some o=>exact .inr ⟨_,_,rfl,rfl,hfg o⟩
 have hx:=hfg x;unfold slP at hp
 split at hp
 .rename_i k l hfx;rw [hfx] at hx;unfold Rd at hx;obtain ⟨A,n,c,vs,e,h1,h2,h3,h4⟩:=hx;obtain ⟨b,hb,hp1⟩:=zB.1 hp;obtain ⟨a,ha,hp2⟩:=zB.1 hp1;clear hp hp1
  split at hp2
  .rename_i hc;obtain ⟨hsz,hab,hbn⟩:=hc;subst hsz;obtain rfl:=y9.inj hp2;have hvl:=h3.len;have hcap:=h1.cap;rw [h2] at hb;have q1:=qaJ (y:=c) hb (hlo hi) Oq;have q2:=qaJ (y:=b) ha (hlo lo) Oq;rw [e];refine ⟨_,by unfold q1b; simp only [q1,q2]; rfl,?_⟩;unfold Rd;have hcs:∀ v ∈ vs,v.cells.size=ksz k:=λv hv=>(h4 v hv).size;have r1:=(h1.take (m:=b) Oq).drop (m:=a) Oq;rw [<- q3U hcs,<- q3V (λv hv=>hcs v (zL hv))] at r1;exact ⟨_,_,_,(vs.take b).drop a,rfl,r1,by simp; omega,(h3.take b).drop a,λv hv=>h4 v (zL (zK hv))⟩
  .cases hp2
 .rename_i id k off n hfx;rw [hfx] at hx;unfold Rd at hx;obtain ⟨bk,A,c,e1,e2,e,hn,hm,hl,h6,h7⟩:=hx;obtain ⟨b,hb,hp1⟩:=zB.1 hp;obtain ⟨a,ha,hp2⟩:=zB.1 hp1;clear hp hp1
  split at hp2
  .rename_i hc;obtain ⟨hsz,hab,hbn⟩:=hc;subst hsz;obtain rfl:=y9.inj hp2;have q1:=qaJ (y:=c) hb (hlo hi) Oq;have q2:=qaJ (y:=b) ha (hlo lo) Oq;rw [e];refine ⟨_,by unfold q1b; simp only [q1,q2]; rfl,?_⟩;unfold Rd;have mv:∀ {A:Option Addr},AtO w (ρ id) A (off*ksz k) ((off+c)*ksz k)->¬ c=a->AtO w (ρ id) (if c=a then A else A.map (·.add (a*ksz k))) ((off+a)*ksz k) ((off+a+(c-a))*ksz k):=λ⟨g,g1,g2,g3⟩ hca=>by
    refine ⟨g,g1,?_,by rw [show off+a+(c-a)=off+c by omega]; exact g3⟩;rw [if_neg hca,g2];simp only [yM,q1V,yG]
   refine ⟨bk,_,c-a,e1,e2,rfl,ω,ω,ω,?_,λh0=>?_⟩
   .by_cases hca:c=a
    .exact .inl Oq
    .rcases h6 with h6 | h6
     .omega
     .exact .inr (mv h6 hca)
   .have h0a:a=0:=ω
    have h00:off=0:=ω
    subst h0a;subst h00;simp only [xI,Nat.sub_zero,yR,zV] at h7 ⊢;have hA:(if c=0 then A else A.map (·.add 0))=A:=by
     split
     .rfl
     .cases A <;> simp [Addr.add]
    rw [hA];exact h7 trivial
  .cases hp2
 .cases hp
def qsG [NL] {sz:Option Nat} {ar:Option (Nat × Nat)} {x i r:PV} {a b:Value} (ha:Rd w D x ρ h a) (hb:Rd w D i ρ h b) (hp:q9l sz x i=some r):∃ v,qgE sz ar a b=some v/\Rd w D r ρ h v:=by
 unfold q9l at hp
 split at hp
 .rename_i k l kk z
  split at hp
  .rename_i hc;obtain ⟨rfl,hk,hz⟩:=hc;obtain ⟨y,hy,hp⟩:=zA.1 hp;subst hp;unfold Rd at ha hb;subst hb;obtain ⟨A,n,c,vs,rfl,h1,h2,h3,h4⟩:=ha;obtain ⟨u,hu,hur⟩:=h3.get hy;have hlt:=(zC.1 hy).1;have hcs:∀ v ∈ vs,v.cells.size=ksz k:=λv hv=>(h4 v hv).size;have hfl:=q0e hcs;have hvl:=h3.len;have hpos:0 < (q0X vs).length:=by rw [hfl]; exact yO ω hk
   obtain ⟨ad,rfl,hd,hcell⟩:=h1.at_ hpos;have hcl:∀ (ρ':Nat->Option Nat) (h':Hp),Rd w D y ρ' h' u:=λρ' h'=>Rd.mv (Kp.refl _ _) (λ_ _ h=>h) _ _ _ _ _ _ Cpt.h0 hur;refine ⟨.pointer (some (ad.add (z.toNat*ksz k))),?_,?_⟩
   .simp only [qgE];rw [if_pos ω]
   .unfold Rd;refine ⟨_,u,rfl,by rw [q0t]; exact hd,hcl _ _,⟨h4 u (zE hu),hk⟩,λj t ht=>?_⟩;rw [q6g];refine hcell _ t ?_;have hj:j < ksz k:=by
     have:=(zC.1 ht).1;rw [zG,hcs u (zE hu)] at this;exact this
    rw [q4V hcs hu hj];simpa using ht
  .cases hp
 .rename_i id k off n kk z
  split at hp
  .rename_i hc;obtain ⟨rfl,hz,hzn⟩:=hc;cases hp;unfold Rd at ha hb;subst hb;obtain ⟨bk,A,c,e1,e2,rfl,hn,hm,hl,h6,h7⟩:=ha;have hc0:c≠0:=ω
   rcases h6 with h6 | ⟨g,g1,g2,g3⟩
   .exact absurd h6 hc0
   .subst g2;refine ⟨.pointer (some ⟨g,off*ksz k+z.toNat*ksz k,none⟩),?_,?_⟩
    .simp only [qgE,q1V];rw [if_pos ω]
    .unfold Rd;exact ⟨bk,g,e1,g1,ω,by rw [e2,yG,yR]⟩
  .cases hp
 .cases hp
def qkx [NL] (S:Sat D0 w0 s h ρ e w) {o:Oper} {x:PV} (hp:q4J P o.op (pe s)=some x) {K:Value->World->Prop} (hK:∀ v,Rd w (dm D0 ρ h) x ρ h v->K v w):wo P o e w K:=by
 obtain ⟨dst,op,ty,pos,af,gd⟩:=o;have hS:=S.pex;unfold q4J at hp;unfold wo;cases op <;> (try (cases hp; done)) <;> simp only at hp ⊢
 case move=>cases hp; exact hK _ (hS _)
 case assign=>cases hp; exact hK _ (hS _)
 case pick c a b =>
  unfold pkP at hp;have hc:=hS c
  split at hp
  .rename_i hx; rw [hx] at hc; unfold Rd at hc; cases hp; rw [hc]; exact hK _ (hS _)
  .rename_i hx; rw [hx] at hc; unfold Rd at hc; cases hp; rw [hc]; exact hK _ (hS _)
  .cases hp
 case binOp op t a b _ =>
  unfold bnP at hp;have ha:=hS a;have hb:=hS b
  split at hp
  .rename_i h1 h2;rw [h1] at ha; rw [h2] at hb;unfold Rd at ha hb;obtain ⟨v,hv,rfl⟩:=zA.1 hp;rw [ha,hb,hv];exact hK _ (by unfold Rd; rfl)
  .rename_i k l _ _ h1 h2;rw [h1] at ha; rw [h2] at hb;unfold Rd at ha hb;obtain ⟨A,n,c,vs,q1,q2,q3,q4,q5⟩:=ha
   split at hp
   .rename_i hu
    split at hp
    .rename_i hk;cases hp;rw [hb,q1,q8r hu];refine hK _ ?_;unfold Rd;refine ⟨_,rfl,λh=>?_⟩
     rcases yN n with h0 | h0
     .omega
     .obtain ⟨ad,e,_⟩:=q2.at_ (by rw [q2.len]; exact yO h0 hk);rw [e] at h; cases h
    .cases hp
   .cases hp
  .rename_i l m h1 h2;rw [h1] at ha; rw [h2] at hb;unfold Rd at ha hb
   split at hp
   .rename_i xs ys hx hy;obtain ⟨vs,q1,q2⟩:=ha;obtain ⟨us,q3,q4⟩:=hb;have e1:=q44 hx q2;have e2:=q44 hy q4;subst e1; subst e2;obtain ⟨v,hv,rfl⟩:=zA.1 hp;rw [q1,q3,hv];exact hK _ (by unfold Rd; rfl)
   .cases hp
  .cases hp
 case unOp op t a =>
  unfold unP at hp;have ha:=hS a
  split at hp
  .rename_i h1;rw [h1] at ha;unfold Rd at ha;obtain ⟨v,hv,rfl⟩:=zA.1 hp;rw [ha,hv];exact hK _ (by unfold Rd; rfl)
  .cases hp
 case convert a b c =>
  unfold cvP at hp;have ha:=hS c
  split at hp
  .rename_i h1;rw [h1] at ha;unfold Rd at ha;obtain ⟨v,hv,rfl⟩:=zA.1 hp;rw [ha,hv];exact hK _ (by unfold Rd; rfl)
  .cases hp
 case fieldAddr t a f =>
  unfold qo2 at hp;have ha:=hS a
  split at hp
  .rename_i id i j h1;rw [h1] at ha;unfold Rd at ha;obtain ⟨b,g,g1,g2,g3,g4⟩:=ha;obtain ⟨r,hr,rfl⟩:=zA.1 hp;rw [g4];simp only [q9q hr,q20,q1V];exact hK _ (by unfold Rd; exact ⟨b,g,g1,g2,g3,by rw [xP]⟩)
  .rename_i n l h1;rw [h1] at ha;unfold Rd at ha;obtain ⟨ad,z,q1,q2,q3,q4,q5⟩:=ha;obtain ⟨r,hr,hp⟩:=zB.1 hp;rw [q1];simp only [q9q hr,q20];unfold Rd at q3;obtain ⟨vs,rfl,q6⟩:=q3
   split at hp
   .obtain ⟨y,hy,rfl⟩:=zA.1 hp;obtain ⟨u,hu,hur⟩:=q6.get hy;have hfu:=q4.1.cell hu;refine hK _ ?_;unfold Rd;refine ⟨_,u,rfl,by rw [q0t]; exact q2,hur,⟨hfu,xX⟩,λj t ht=>?_⟩;rw [hfu.1] at ht;rw [q6g];cases j with
    | zero=>simp at ht; subst ht; exact q5 _ _ (by simpa [Value.cells] using hu)
    | succ j=>simp at ht
   .rename_i m _
    split at hp
    .rename_i hrm;cases hp;have:=q6.len;refine hK _ ?_;unfold Rd;refine ⟨_,.agg ⟨(vs.drop r.1).take m⟩,rfl,by rw [q0t]; exact q2,by unfold Rd; exact ⟨_,rfl,(q6.drop _).take _⟩,⟨q4.1.part ω,hrm.2⟩,λj t ht=>?_⟩;rw [q6g];refine q5 _ t ?_;simp only [Value.cells,zI] at ht ⊢
     split at ht
     .rw [zQ] at ht; exact ht
     .cases ht
    .cases hp
  .cases hp
 case field t a f =>
  unfold fdP at hp;have ha:=hS a
  split at hp
  .rename_i l h1
   split at hp
   .rename_i fs hu
    split at hp
    .rename_i d hd
     split at hp
     .rename_i k hk;rw [h1] at ha;unfold Rd at ha;obtain ⟨vs,q1,q2⟩:=ha;obtain ⟨v,hv,hr⟩:=q2.get hp;have key:(Instr.field t (ev e a) f).run P w=.ok v w:=by
       rw [q1];simp [Instr.field,run_underlying hu,hd,asAgg,part,isAgg,run_underlying hk,hv]
      unfold WO;simp only [execOp,Sem.run_bind,key];exact hK _ hr
     .cases hp
    .cases hp
   .cases hp
  .cases hp
 case extract a i =>
  unfold exP at hp;have ha:=hS a
  split at hp
  .rename_i l h1;rw [h1] at ha;unfold Rd at ha;obtain ⟨vs,q1,q2⟩:=ha;obtain ⟨v,hv,hr⟩:=q2.get hp;rw [q1];simp only [qjG];rw [yA,hv];exact hK _ hr
  .cases hp
 case nilCheck a =>
  unfold nlP at hp;have ha:=hS a
  split at hp
  .rename_i h1;cases hp;rw [h1] at ha;have ha':=ha;unfold Rd at ha';obtain ⟨b,g,g1,g2,g3,g4⟩:=ha';rw [g4] at ha ⊢;exact hK _ ha
  .rename_i h1;cases hp;rw [h1] at ha;have ha':=ha;unfold Rd at ha';obtain ⟨ad,z,q1,_⟩:=ha';rw [q1] at ha ⊢;exact hK _ ha
  .cases hp
 case indexAddr t a i =>
  obtain ⟨v,h1,h2⟩:=qsG (ar:=qbE P t) (hS a) (hS i) hp;rw [h1];exact hK _ h2
 case slice t a lo hi mx =>
  cases mx with
  | some _=>cases hp
  | none =>
   obtain ⟨v,h1,h2⟩:=sl_ok hS hp;simp only;rw [h1];exact hK _ h2
 case build t ps =>
  unfold blP at hp;obtain ⟨r,hr,hp⟩:=zB.1 hp;obtain ⟨cs,hcs,rfl⟩:=zA.1 hp;unfold plc at hr;unfold Program.built
  split at hr
  .rename_i it fs h1 h2
   split at hr
   .rename_i z pl h3 h4;cases hr;rw [h1,h2];simp only [h3,h4];rw [xE];obtain ⟨us,e1,e2⟩:=q8h (w:=w) (D:=dm D0 ρ h) (ρ:=ρ) (h:=h) (g:=ev e) ps.toList hS (z.cells.toList.map .vl) z.cells cs hcs (q3c _);rw [e1];exact hK _ (by unfold Rd; exact ⟨us.toList,rfl,e2⟩)
   .cases hr
  .cases hr
 case makeFunc fn first cap =>
  unfold fnP at hp
  split at hp
  .rename_i z hz
   split at hp
   .rename_i f
    split at hp
    .rename_i hf;cases hp;have hf:first=#[]:=by cases first with | mk fl=>cases fl with | nil=>rfl | cons a b=>cases hf
     obtain ⟨c,hc,hcz⟩:∃ c,cap.toList=[c]/\pe s c=.qt none (.vl (.int .i64 z)):=by
      obtain ⟨cl⟩:=cap
      match cl,hz with
      | [],hz=>cases hz
      | [a],hz=>exact ⟨a,rfl,(yP.inj hz).1⟩
      | a :: a' :: b',hz=>cases (yP.inj hz).2
     have hr:=hS c;rw [hcz] at hr;unfold Rd at hr;obtain ⟨ad,z',q1,q2,q3,q4,q5⟩:=hr;unfold Rd at q3;subst q3;have hcv:cap.map (ev e)=#[.pointer (some ad)]:=by
      cases cap;simp only at hc;subst hc;simp [q1]
     unfold WO;subst hf;simp only [execOp,Instr.makeFunc,hcv];refine hK _ ?_;unfold Rd;refine ⟨ad,σ,q2,?_⟩;have:=q5 0 (.int .i64 z) rfl
     rwa [add_zero] at this
    .cases hp
   .cases hp
  .rename_i k x k' y hz
   split at hp
   .rename_i f
    split at hp
    .rename_i hf;cases hp;have hf:first=#[]:=by cases first with | mk fl=>cases fl with | nil=>rfl | cons a b=>cases hf
     obtain ⟨a,b,hc,ha,hb⟩:∃ a b,cap.toList=[a,b]/\pe s a=.qt k x/\pe s b=.qt k' y:=by
      obtain ⟨cl⟩:=cap
      match cl,hz with
      | [],hz=>cases hz
      | [a],hz=>cases (yP.inj hz).2
      | [a,b],hz=>exact ⟨a,b,rfl,(yP.inj hz).1,(yP.inj (yP.inj hz).2).1⟩
      | a :: b :: c :: r,hz=>cases (yP.inj (yP.inj hz).2).2
     have ra:=hS a;have rb:=hS b;rw [ha] at ra;rw [hb] at rb;have hcv:cap.map (ev e)=#[ev e a,ev e b]:=by
      cases cap;simp only at hc;subst hc;simp
     unfold WO;subst hf;simp only [execOp,Instr.makeFunc,hcv];refine hK _ ?_;unfold Rd;refine ⟨[ev e a,ev e b],σ,?_⟩;unfold RdL;refine ⟨_,_,rfl,by unfold Rd at ra ⊢; exact ra,?_⟩;unfold RdL;exact ⟨_,_,rfl,by unfold Rd at rb ⊢; exact rb,by unfold RdL; rfl⟩
    .cases hp
   .cases hp
  .cases hp
 case call c =>
  obtain ⟨callee,args,tys⟩:=c;simp only at hp ⊢
  split at hp
  .split at hp
   .rename_i a t hat htt;simp only [hat,htt];have ha:=hS a;unfold qo0 at hp
    split at hp
    .rename_i h1;rw [h1] at ha;unfold Rd at ha;obtain ⟨A,n,c,vs,e1,_,e2,_⟩:=ha;obtain ⟨q,hq,rfl⟩:=zA.1 hp;rw [e1,hq];refine hK _ ?_;unfold Rd;rw [e2]
    .rename_i h1;rw [h1] at ha;unfold Rd at ha;obtain ⟨b,A,c,_,_,e1,_⟩:=ha;obtain ⟨q,hq,rfl⟩:=zA.1 hp;rw [e1,hq];exact hK _ (by unfold Rd; rfl)
    .rename_i h1;rw [h1] at ha;unfold Rd at ha;obtain ⟨v,hv,rfl⟩:=zA.1 hp;rw [ha,hv];exact hK _ (by unfold Rd; rfl)
    .cases hp
   .cases hp
  .unfold mmP at hp;obtain ⟨r,hr,hp⟩:=zB.1 hp;obtain ⟨v,hv,rfl⟩:=zA.1 hp;have:=q44 hr (q3w (g:=ev e) hS args.toList);simp only [this,hv];exact hK _ (by unfold Rd; rfl)
  .unfold mmP at hp;obtain ⟨r,hr,hp⟩:=zB.1 hp;obtain ⟨v,hv,rfl⟩:=zA.1 hp;have:=q44 hr (q3w (g:=ev e) hS args.toList);simp only [this,hv];exact hK _ (by unfold Rd; rfl)
  .cases hp
end
instance  [NL]{v:Value}:Decidable (qid v):=inferInstanceAs (Decidable (_/\_))
def qiw [NL] {w:World} {k:Kd} {z:Value} {p:Addr} (hf:q1z k z) (hc:∀ (i:Nat) (v:Value),z.cells.toList[i]?=some v->w.cell? (p.add i)=some v):ldV w (some k) (.pointer (some p))=some z:=by
 cases k with
 | none =>
  have:=hc 0 z (by rw [hf.1]; rfl);rw [add_zero] at this;exact this
 | some n =>
  obtain ⟨cs,rfl,h1,_⟩:=hf;have:=qi6 (w:=w) (p:=p) cs.toList 0 λj u hu=>by rw [zV]; exact hc j u hu
  rw [zG,h1] at this;simp only [ldV,this];simp
def q6Y [NL] {k:Kd} {x:PV} {w:World} {D:Nat->Prop} {ρ:Nat->Option Nat} {h:Hp} {y:Value} (hf:q4D k x) (hr:Rd w D x ρ h y):q1z k y:=by
 have one:∀ {x:PV} {y:Value},qau x->Rd w D x ρ h y->q1z none y:=λ{x y} hf hr=>by
  cases x <;> simp only [qau] at hf <;> unfold Rd at hr
  case vl v=>subst hr; exact ⟨q1Q hf.1,hf⟩
  case fm G=>exact hf _ _ _ hr
  case sl k l=>obtain ⟨_,_,_,_,rfl,_⟩:=hr; exact ⟨rfl,rfl,nlo⟩
  case ow=>obtain ⟨_,_,_,_,_,rfl,_⟩:=hr; exact ⟨rfl,rfl,nlo⟩
  case pt=>obtain ⟨_,_,_,_,_,rfl⟩:=hr; exact ⟨rfl,rfl,nlo⟩
  case qt=>obtain ⟨_,_,rfl,_⟩:=hr; exact ⟨rfl,rfl,nlo⟩
  case mp=>obtain ⟨_,_,_,_,rfl⟩:=hr; exact ⟨rfl,rfl,nlo⟩
 cases k with
 | none=>exact one hf hr
 | some n =>
  cases x <;> simp only [q4D] at hf
  case fm G=>unfold Rd at hr; exact hf.2 _ _ _ hr
  case ag l =>
   unfold Rd at hr;obtain ⟨vs,rfl,h1⟩:=hr;refine ⟨⟨vs⟩,rfl,by simp [h1.len,hf.1.1],λu hu=>?_⟩;simp only at hu;obtain ⟨i,hi⟩:=xM hu;obtain ⟨h2,h3⟩:=RdL.iff.1 h1;have hlt:=(zC.1 hi).1;have hx:l[i]?=some l[i]:=zD Oq;exact (one (hf.2 _ (zE hx)) (h3 i _ _ hx hi)).2
def ldP (h:Hp) (k:Option Kd):PV->Option (PV × List Nat)
 | .pt id i j=>match k,h id with
  | some k,some b=>if b.st=true\/ksz k=0 then none else ((b.xs[i]?).bind (ldU b.k k j)).map λx=>(x,[id])
  | _,_=>none
 | .qt bk x=>match k with
  | some k=>if ksz k=0 then none else (ldU bk k 0 x).map λy=>(y,[])
  | none=>none
 | _=>none
def alB [NL] (P:Program) (t:TypeId):Option Bk :=
 match q1O P t,q0Y P t with
 | some z,some none=>match z.toList with
  | [v]=>if qid v then some ⟨t,none,[.vl v],false⟩ else none
  | _=>none
 | some z,some (some n)=>if z.size=n/\(z.toList.all λv=>v.oneCell' && q3f v)=true then some ⟨t,some n,[.ag (z.toList.map .vl)],false⟩ else none
 | _,_=>none
def elK [NL] (P:Program) (t:TypeId):Option (TypeId × Kd × Nat) :=
 match q06 P t with
 | some (E,sz,bytes,z)=>match q0Y P E with
  | some k=>if ksz k=sz/\0 < sz/\z.size=sz/\(z.toList.all λv=>v.oneCell' && q3f v)=true then some (E,k,bytes) else none
  | none=>none
 | none=>none
def elZ [NL] (P:Program) (t:TypeId):Option (TypeId × Kd × Nat × PV) :=
 match q06 P t,elK P t with
 | some (_,_,_,z),some (E,none,b)=>match z.toList with | [v]=>some (E,none,b,.vl v) | _=>none
 | some (_,_,_,z),some (E,some n,b)=>some (E,some n,b,.ag (z.toList.map .vl))
 | _,_=>none
section
variable {w w':World} {w0:Base} {D D0:Nat->Prop} {ρ:Nat->Option Nat} {h:Hp} {s:Nat->PV} {e:Env} {P:Program}
def qbJ.noA [NL] {g:Nat} {b:Bk} (hm:qbJ w D ρ h g b) {i:Nat} {l:List PV} (hy:b.xs[i]?=some (.ag l)):False:=by
 obtain ⟨_,_,es,cl,ps,_,_,m5,_⟩:=hm;obtain ⟨v,hv,hr⟩:=m5.get hy;unfold Rd at hr;obtain ⟨vs,rfl,_⟩:=hr
 rcases i with _ | i
 .cases hv
 .simp at hv
def qbJ.noL [NL] {g:Nat} {b:Bk} (hm:qbJ w D ρ h g b) {i j:Nat} {k:Kd} {y x:PV} (hy:b.xs[i]?=some y) (hl:ldU b.k k j y=some x) (hk:0 < ksz k):False:=by
 rw [hm.1] at hl;unfold ldU at hl
 split at hl
 .rename_i hc;rw [<- hc.1] at hk;simp [ksz] at hk
 .split at hl
  .exact hm.noA hy
  .exact hm.noA hy
  .cases hl
def qee.unit [NL] {g:Nat} {b:Bk} (hb:qee w D ρ h g b) (hm:¬ qbJ w D ρ h g b) (hst:b.st=false) {i:Nat} {x:PV} (hx:b.xs[i]?=some x) :
  ∃ v,Rd w D x ρ h v/\q1z b.k v/\∀ (j:Nat) (u:Value),v.cells.toList[j]?=some u->w.cell? ⟨g,i*ksz b.k+j,none⟩=some u:=by
 obtain ⟨cs,h1,h2,h3⟩:=hb.resolve_left hm;obtain ⟨vs,h4,h5,h6⟩:=h3 hst;obtain ⟨v,hv,hr⟩:=h5.get hx;have hf:=h6 v (zE hv);refine ⟨v,hr,hf,λj t ht=>?_⟩;have hcs:∀ v ∈ vs,v.cells.size=ksz b.k:=λv hv=>(h6 v hv).size;have hj:j < ksz b.k:=by
  have:=(zC.1 ht).1;rw [zG,hf.size] at this;exact this
 have q:=q4V hcs hv hj;rw [<- h4,zI] at q;rw [h1.cell]
 split at q
 .rw [zH] at q ht; rw [q]; exact ht
 .rw [zH] at ht; rw [ht] at q; cases q
def qcl [NL] (S:Sat D0 w0 s h ρ e w) {t:TypeId} {a:Operand} {r:PV × List Nat} (hp:ldP h (q0Y P t) (pe s a)=some r):∃ v,ldV w (q0Y P t) (ev e a)=some v/\Rd w (dm D0 ρ h) r.1 ρ h v:=by
 have ha:=S.pex a;unfold ldP at hp
 split at hp
 .rename_i id i j hx;rw [hx] at ha;unfold Rd at ha;obtain ⟨b,g,g1,g2,g3,g4⟩:=ha
  split at hp
  .rename_i k b' hk hb;rw [g1] at hb;cases hb
   split at hp
   .cases hp
   .rename_i hc;obtain ⟨x,hx1,rfl⟩:=zA.1 hp;obtain ⟨y,hy,hl⟩:=zB.1 hx1;have hst:b.st=false:=by
     cases hq:b.st
     .rfl
     .exact absurd (Or.inl hq) hc
    obtain ⟨v,q1,q2,q3⟩:=(S.own id b g g1 g2).2.unit (λhm=>hm.noL hy hl Oq) hst hy;obtain ⟨z,z1,z2,z3⟩:=qix hl q1 q2 Oq;rw [hk,g4];refine ⟨z,qiw z2 λi' u hu=>?_,z1⟩;rw [q1V,xP];exact q3 _ u (z3 i' u hu)
  .cases hp
 .rename_i bk x hx;rw [hx] at ha;unfold Rd at ha;obtain ⟨ad,z,q1,q2,q3,q4,q5⟩:=ha
  split at hp
  .rename_i k hk
   split at hp
   .cases hp
   .obtain ⟨y,hy,rfl⟩:=zA.1 hp;obtain ⟨z',z1,z2,z3⟩:=qix hy q3 q4.1 Oq;rw [q1,hk];refine ⟨z',qiw z2 λi' u hu=>?_,Rd.mv (Kp.refl _ _) (λ_ _ h=>h) _ _ _ _ _ _ Cpt.h0 z1⟩;have:=z3 i' u hu;rw [zV] at this;exact q5 _ u this
  .cases hp
 .cases hp
def Sat.newP [NL] (S:Sat D0 w0 s h ρ e w) {d:Nat} (hd:h d=none) (hd5:d < 5000) {b:Bk} {z:Value} {x:PV} (hb:b=⟨b.T,b.k,[x],false⟩) (hz:Rd w (dm D0 ρ h) x ρ h z) (hf:q1z b.k z) :
  ∃ ρ',Sat D0 w0 (pu s d (.pt d 0 0)) (q0R h d b) ρ' (upd e d (.pointer (some ⟨w.heap.size,0,none⟩))) (w.alloc (.cells z.cells b.T)):=by
 have hsz:=hf.size;obtain ⟨S1,_,_⟩:=S.alloc (w':=w.alloc (.cells z.cells b.T)) (b:=b) (g:=w.heap.size) hd hd5 (Kp.alloc w _) (zS _) (cs:=z.cells) (Blk.new w b.T z.cells) (λu hu=>(hf.one u hu).2) (by rw [hb]) (vs:=[z]) (by
  rw [hb];simp only [zN,yF,zV,Nat.one_mul];rw [yS (by rw [zG,hsz]; exact zS _)];simp [q0X]) (by rw [hb]; exact RdL.one hz) (by intro v hv; simp at hv; subst hv; exact hf)
 refine ⟨_,S1.put d ?_⟩;unfold Rd;exact ⟨b,w.heap.size,q0O,q0f,by rw [hb]; simp,σ⟩
def Sat.newS [NL] (S:Sat D0 w0 s h ρ e w) {d n:Nat} (hd:h d=none) (hd5:d < 5000) {b:Bk} {cs:Array Value} {vs:List Value} (hx:Ext w w') (hb:Blk w' w.heap.size b.T cs) (hn:∀ u ∈ cs.toList,q3f u=true) (hst:b.st=false) (hln:b.xs.length=n) {c:Nat} (hc:n<=c) (hcm:c<=maxLen) (hcs:cs.size=c*ksz b.k)
  (h1:cs.toList.take (n*ksz b.k)=q0X vs) (h2:RdL w (dm D0 ρ h) b.xs ρ h vs) (h3:∀ v ∈ vs,q1z b.k v) :
  ∃ ρ',Sat D0 w0 (pu s d (.ow d b.k 0 n)) (q0R h d b) ρ' (upd e d (.slice (some ⟨w.heap.size,0,none⟩) n c)) w':=by
 obtain ⟨S1,_,_⟩:=S.alloc (w':=w') (b:=b) (g:=w.heap.size) hd hd5 hx (zS _) (cs:=cs) hb hn hst (vs:=vs) (by rw [hln]; exact h1) h2 h3;refine ⟨_,S1.put d ?_⟩;have hat:AtO w' (upo ρ d (some w.heap.size) d) (some ⟨w.heap.size,0,none⟩) (0*ksz b.k) ((0+c)*ksz b.k):=⟨_,q0f,by rw [xI],cs,b.T,hb,by rw [zV]; exact hcs⟩;unfold Rd;exact ⟨b,_,c,q0O,rfl,rfl,hc,hcm,ω,.inr hat,λ_=>.inr hat⟩
def allB [NL] {z:Array Value} (ha:(z.toList.all λv=>v.oneCell' && q3f v)=true):∀ u ∈ z.toList,u.oneCell'=true/\q3f u=true:=λu hu=>by
 have:=yJ.1 ha u hu;simpa using this
def qhf [NL] (S:Sat D0 w0 s h ρ e w) {d t:Nat} {b:Bk} (hd:h d=none) (hd5:d < 5000) (hb:alB P t=some b):∃ z,q1O P t=some z/\∃ ρ',Sat D0 w0 (pu s d (.pt d 0 0)) (q0R h d b) ρ' (upd e d (.pointer (some ⟨w.heap.size,0,none⟩))) (w.alloc (.cells z t)):=by
 unfold alB at hb
 split at hb
 .rename_i z hz hk;refine ⟨z,hz,?_⟩
  split at hb
  .rename_i v hv
   split at hb
   .rename_i ho;cases hb;have hzz:z=#[v]:=by cases z; simp at hv; rw [hv]
    have hcc:=q1Q ho.1;have:=S.newP (b:=⟨t,none,[.vl v],false⟩) (z:=v) (x:=.vl v) hd hd5 rfl (by unfold Rd; rfl) ⟨hcc,ho⟩;rw [hcc,<- hzz] at this;exact this
   .cases hb
  .cases hb
 .rename_i z n hz hk;refine ⟨z,hz,?_⟩
  split at hb
  .rename_i hc;cases hb;exact S.newP (b:=⟨t,some n,[.ag (z.toList.map .vl)],false⟩) (z:=.agg z) (x:=.ag (z.toList.map .vl)) hd hd5 rfl (by unfold Rd; exact ⟨z.toList,rfl,q3c _⟩) ⟨z,rfl,hc.1,allB hc.2⟩
  .cases hb
 .cases hb
def qaA [NL] {t:TypeId} {E:TypeId} {k:Kd} {bytes:Nat} (hk:elK P t=some (E,k,bytes)):∃ z:Array Value,q06 P t=some (E,ksz k,bytes,z)/\0 < ksz k/\z.size=ksz k/\q0Y P E=some k/\∀ u ∈ z.toList,u.oneCell'=true/\q3f u=true:=by
 unfold elK at hk
 split at hk
 .rename_i E' sz by' z he
  split at hk
  .rename_i k' hk'
   split at hk
   .rename_i hc;cases hk;obtain ⟨rfl,h1,h2,h3⟩:=hc;exact ⟨z,he,h1,h2,hk',allB h3⟩
   .cases hk
  .cases hk
 .cases hk
def q9v {sz:Nat}:∀ (vs:List Value) (a:Nat) (cs:Array Value),(∀ v ∈ vs,v.cells.size=sz)->(a+vs.length)*sz<=cs.size->∃ r,Instr.fill (λi=>some (i*sz,sz)) cs ((xN a vs.length).zip vs)=some r/\r.size=cs.size/\∀ i:Nat,r[i]?=if a*sz<=i/\i < (a+vs.length)*sz then (q0X vs)[i-a*sz]? else cs[i]?
 | [],a,cs,_,_=>⟨cs,rfl,rfl,λi=>by rw [if_neg σ]⟩
 | v :: vs,a,cs,hv,hl=>by
  rw [zN] at hl;have h1:=hv v vZ;have e0:(a+(vs.length+1))*sz=a*sz+sz+vs.length*sz:=by rw [yG,uC]; omega
  have e1:(a+1+vs.length)*sz=a*sz+sz+vs.length*sz:=by rw [yG,uC]
  have e2:(a+1)*sz=a*sz+sz:=uC _ _;have hl':a*sz+sz+vs.length*sz<=cs.size:=by rw [<- e0]; exact hl
  clear hl;have hvl:v.cells.toList.length=sz:=by rw [zG,h1]
  obtain ⟨r1,q1,q2,q3⟩:=q2x (a*sz) v.cells.toList 0 cs (by rw [hvl]; clear e0 e1 e2; omega);obtain ⟨r,p1,p2,p3⟩:=q9v vs (a+1) r1 (λx hx=>hv x (zM _ hx)) (by rw [q2,e1]; exact hl');refine ⟨r,?_,by rw [p2,q2],λi=>?_⟩
  .rw [zN,List.range'_succ,uB];unfold Instr.fill;simp only;rw [if_neg (by rw [h1]; clear e0 e1 e2; simp only [vY,decide_eq_true_eq]; omega)];rw [<- xQ,xO];rw [q1];exact p1
  .rw [p3 i,q3 i,hvl,zN];have hfl:q0X (v :: vs)=v.cells.toList ++ q0X vs:=by simp [q0X]
   rw [hfl,e0,e1,e2]
   by_cases c1:a*sz+sz<=i/\i < a*sz+sz+vs.length*sz
   .rw [if_pos c1,if_pos ω,List.getElem?_append_right ω,hvl,show i-a*sz-sz=i-(a*sz+sz) by omega]
   .rw [if_neg c1]
    by_cases c2:a*sz+0<=i/\i < a*sz+0+sz
    .rw [if_pos c2,if_pos ω,List.getElem?_append_left ω]
     rfl
    .rw [if_neg c2,if_neg ω]
def bs_ok [NL] (S:Sat D0 w0 s h ρ e w) {d t len E bytes:Nat} {k:Kd} {ps:List (Nat × Operand)} (hd:h d=none) (hd5:d < 5000) (hk:elK P t=some (E,k,bytes)) (hps:ps.map (·.1)=List.range len) (hl:len*ksz k<=16777216) (hf:∀ p ∈ ps,q4D k (pe s p.2)) :
  ∃ cs,bsV P t len (ps.map λp=>(p.1,ev e p.2))=some (E,cs)/\∃ ρ',Sat D0 w0 (pu s d (.ow d k 0 len)) (q0R h d ⟨E,k,ps.map λp=>pe s p.2,false⟩) ρ' (upd e d (.slice (some ⟨w.heap.size,0,none⟩) len len)) (w.alloc (.cells cs E)):=by
 obtain ⟨z,he,hsz,hzs,_,_⟩:=qaA hk;have hlen:ps.length=len:=by have:=congrArg List.length hps; simpa using this
 have hvs:RdL w (dm D0 ρ h) (ps.map λp=>pe s p.2) ρ h (ps.map λp=>ev e p.2):=by
  have:=q3w (w:=w) (D:=dm D0 ρ h) (ρ:=ρ) (h:=h) (f:=pe s) (g:=ev e) S.pex (ps.map (·.2));rw [uA,uA] at this;exact this
 have hfit:∀ v ∈ ps.map (λp=>ev e p.2),q1z k v:=λv hv=>by
  obtain ⟨p,hp,rfl⟩:=yK.1 hv;exact q6Y (hf p hp) (S.pex p.2)
 have key:∃ cs,bsV P t len (ps.map λp=>(p.1,ev e p.2))=some (E,cs)/\cs.toList=q0X (ps.map λp=>ev e p.2):=by
  unfold bsV;rw [he];simp only
  by_cases h0:len=0
  .subst h0;have:ps=[]:=zP hlen;subst this;rw [if_pos σ];exact ⟨#[],σ,by simp [q0X]⟩
  .have hpos:0 < len*ksz k:=yO Oq hsz;rw [if_neg ω,if_neg ω];have hz:(ps.map λp=>(p.1,ev e p.2))=(xN 0 (ps.map λp=>ev e p.2).length).zip (ps.map λp=>ev e p.2):=by
    rw [v9,hlen,<- yY,<- hps];clear hf hps hlen hvs hfit
    induction ps with
    | nil=>rfl
    | cons p ps ih=>simp only [v6,uB,ih]
   rw [hz];obtain ⟨r,r1,r2,r3⟩:=q9v (sz:=ksz k) (ps.map λp=>ev e p.2) 0 ((Array.range (len*ksz k)).map (z[· % z.size]!)) (λv hv=>(hfit v hv).size) (by simp [hlen]);rw [r1];refine ⟨r,rfl,?_⟩;have hfl:(q0X (ps.map λp=>ev e p.2)).length=len*ksz k:=by rw [q0e λv hv=>(hfit v hv).size]; simp [hlen]
   apply yB
   intro i;rw [zH,r3 i]
   split
   .simp
   .rename_i hc;simp [hlen] at hc;rw [zU ω,Array.getElem?_eq_none (by simp; omega)]
 obtain ⟨cs,h1,h2⟩:=key;refine ⟨cs,h1,?_⟩;have hfl:(q0X (ps.map λp=>ev e p.2)).length=len*ksz k:=by rw [q0e λv hv=>(hfit v hv).size]; simp [hlen]
 have hcs:cs.size=len*ksz k:=by rw [<- zG,h2,hfl]
 have hml:len<=maxLen:=by
  have:len<=len*ksz k:=xF _ hsz;simp only [maxLen]; omega
 exact S.newS (b:=⟨E,k,ps.map λp=>pe s p.2,false⟩) hd hd5 (Kp.alloc w _) (Blk.new w E cs) (λu hu=>by
  rw [h2] at hu;unfold q0X at hu;obtain ⟨v,hv,hu⟩:=yW.1 hu;exact ((hfit v hv).one u hu).2) rfl (by simp [hlen]) (zS _) hml hcs (by rw [<- hcs,<- zG,List.take_length]; exact h2) hvs hfit
def qch {z:Array Value} {zv:Value} (hz:zv.cells=z) (hp:0 < z.size) (n:Nat):(madeCells z (n*z.size)).toList=q0X (List.replicate n zv):=by
 have hcs:∀ v ∈ List.replicate n zv,v.cells.size=z.size:=λv hv=>by rw [(yE.1 hv).2,hz]
 have hfl:=q0e hcs;rw [xL] at hfl
 apply yB
 intro i
 rcases uD i (n*z.size) with hi | hi
 .have hq:i / z.size < n:=by rw [Nat.div_lt_iff_lt_mul hp]; exact hi
  have hm:=Nat.mod_lt i hp;have:=q4V hcs (i:=i / z.size) (j:=i % z.size) (v:=zv) (by rw [xG,if_pos hq]) hm;rw [Nat.mul_comm,Nat.div_add_mod] at this;rw [this,hz];simp [madeCells,hi,hm]
 .rw [zU (by rw [zG,size_madeCells]; exact hi),zU ω]
def mk_ok [NL] (S:Sat D0 w0 s h ρ e w) {d t E bytes n m:Nat} {k:Kd} {x:PV} (hd:h d=none) (hd5:d < 5000) (hk:elZ P t=some (E,k,bytes,x)) (hnm:n<=m) (hn:m<=maxLen) :
  ∃ z,q06 P t=some (E,ksz k,bytes,z)/\∃ ρ',Sat D0 w0 (pu s d (.ow d k 0 n)) (q0R h d ⟨E,k,List.replicate n x,false⟩) ρ' (upd e d (.slice (some ⟨w.heap.size,0,none⟩) n m)) (w.alloc (.cells (madeCells z (m*ksz k)) E)):=by
 have key:∃ (z:Array Value) (zv:Value),elK P t=some (E,k,bytes)/\q06 P t=some (E,ksz k,bytes,z)/\0 < ksz k/\z.size=ksz k/\zv.cells=z/\q1z k zv/\Rd w (dm D0 ρ h) x ρ h zv:=by
  unfold elZ at hk
  split at hk
  .rename_i E1 s1 b1 z' E2 b2 he hkk
   split at hk
   .rename_i v hv;cases hk;obtain ⟨z2,q1,q2,q3,_,q4⟩:=qaA hkk;have hz2:z2=z':=by rw [q1] at he; cases he; rfl
    subst hz2;have ho:=q4 v (by rw [hv]; simp);have hzz:z2=#[v]:=by cases z2; simp at hv; rw [hv]
    exact ⟨z2,v,hkk,q1,q2,q3,by rw [hzz]; exact q1Q ho.1,⟨q1Q ho.1,ho⟩,by unfold Rd; rfl⟩
   .cases hk
  .rename_i E1 s1 b1 z' E2 n2 b2 he hkk;cases hk;obtain ⟨z2,q1,q2,q3,_,q4⟩:=qaA hkk;have hz2:z2=z':=by rw [q1] at he; cases he; rfl
   subst hz2;exact ⟨z2,.agg z2,hkk,q1,q2,q3,rfl,⟨z2,rfl,q3,q4⟩,by unfold Rd; exact ⟨z2.toList,rfl,q3c _⟩⟩
  .cases hk
 obtain ⟨z,zv,_,he,hp,hzs,hzc,hfit,hr⟩:=key;refine ⟨z,he,?_⟩;have hfl:=qch hzc Oq m;rw [hzs] at hfl;exact S.newS (b:=⟨E,k,List.replicate n x,false⟩) (n:=n) hd hd5 (Kp.alloc w _) (Blk.new w E _) (λu hu=>by
  rw [hfl] at hu;unfold q0X at hu;obtain ⟨v,hv,hu⟩:=yW.1 hu;rw [(yE.1 hv).2] at hu;exact (hfit.one u hu).2) rfl σ hnm hn (size_madeCells _ _) (by
   rw [hfl,<- q3U λv hv=>by rw [(yE.1 hv).2,hzc,hzs],List.take_replicate,Nat.min_eq_left hnm]) (vs:=List.replicate n zv) (RdL.iff.2 ⟨σ,λi y v hy hv=>by
   rw [xG] at hy hv
   split at hy
   .rw [if_pos ‹_›] at hv; cases hy; cases hv; exact hr
   .cases hy⟩) (λv hv=>by rw [(yE.1 hv).2]; exact hfit)
end
def stU (bk k:Kd) (j:Nat) (old x:PV):Option PV :=
 if bk=k/\j=0 then some x else
  match bk,k,old,x with
  | some _,none,.ag l,x=>if j < l.length then some (.ag (l.set j x)) else none
  | some _,some m,.ag l,.ag r=>if r.length=m/\j+m<=l.length then some (.ag (l.take j ++ r ++ l.drop (j+m))) else none
  | _,_,_,_=>none
def qiT {bk k:Kd} {j:Nat} {old x u':PV} (h:stU bk k j old x=some u'):(bk=k/\j=0/\u'=x)\/(∃ n l,bk=some n/\k=none/\old=.ag l/\j < l.length/\u'=.ag (l.set j x))\/∃ n m l r,bk=some n/\k=some m/\old=.ag l/\x=.ag r/\r.length=m/\j+m<=l.length/\u'=.ag (l.take j ++ r ++ l.drop (j+m)):=by
 unfold stU at h
 split at h
 .rename_i hh; cases h; exact .inl ⟨hh.1,hh.2,rfl⟩
 .split at h
  .split at h
   .cases h; exact .inr (.inl ⟨_,_,rfl,rfl,rfl,‹_›,rfl⟩)
   .cases h
  .split at h
   .rename_i hc; cases h; exact .inr (.inr ⟨_,_,_,_,rfl,rfl,rfl,rfl,hc.1,hc.2,rfl⟩)
   .cases h
  .cases h
def stl (h:Hp):Option Nat->Hp
 | none=>h
 | some i=>match h i with | some b=>q0R h i { b with st:=true } | none=>h
def apS (h:Hp) (E:TypeId) (k:Kd):PV->Option (List PV × Option Nat)
 | .vl (.slice none 0 0)=>some ([],none)
 | .ow id k' off n=>(h id).bind λb=>if b.st=false/\b.T=E/\b.k=k/\k'=k/\off=0/\n=b.xs.length then some (b.xs,some id) else none
 | _=>none
def apX (h:Hp) (k:Kd):PV->Option (List PV × List Nat)
 | .vl (.slice none 0 0)=>some ([],[])
 | .sl k' l=>if k'=k then some (l,[]) else none
 | .ow id k' off n=>(h id).bind λb=>if b.st=false/\b.k=k/\k'=k then some ((b.xs.drop off).take n,[id]) else none
 | _=>none
def ClP [NL] (x:PV) (k:Kd) (xs:List PV):Prop:=∀ w D ρ h v,Rd w D x ρ h v->∃ A vs,v=.slice A xs.length xs.length/\Row w D (ksz k) A xs.length xs.length (q0X vs)/\RdL w D xs (λ_=>none) h0 vs/\∀ u ∈ vs,q1z k u
def qgC:PV->Prop
 | .fm _=>True
 | _=>False
def apW [NL] (h:Hp) (E:TypeId) (k:Kd) (p:PV) (ys xs:List PV) (i0:Option Nat):Prop:=apS h E k p=some (xs,i0)\/(i0=none/\ys≠[]/\qgC p/\ClP p k xs)
def q25:PV->Prop
 | .ow _ _ _ _ | .pt _ _ _ | .mp _ | .ag _ | .tu _=>False
 | _=>True
def Cld:PV->Prop
 | .ag l=>∀ x ∈ l,q25 x
 | x=>q25 x
open Classical in
noncomputable def qaz (h:Hp):PV->Option (PV × List Nat)
 | .ow id k off n=>(h id).bind λb=>if b.st=false/\b.k=k/\∀ x ∈ b.xs,Cld x then some (.sl k ((b.xs.drop off).take n),[id]) else none
 | x=>if q25 x then some (x,[]) else none
noncomputable def q1L (h:Hp):List PV->Option (List PV × List Nat)
 | []=>some ([],[])
 | x :: l=>(qaz h x).bind λa=>(q1L h l).map λb=>(a.1 :: b.1,a.2 ++ b.2)
open Classical in
noncomputable def q32 (h:Hp):PV->Option (PV × List Nat)
 | .ow id k off n=>(h id).bind λb=>if b.st=false/\b.k=k/\∀ x ∈ b.xs,Cld x then some (.sl k ((b.xs.drop off).take n),[id]) else if b.st=false/\b.k=k then (q1L h b.xs).map λr=>(.sl k ((r.1.drop off).take n),id :: r.2) else none
 | x=>if q25 x then some (x,[]) else none
noncomputable def q3B (h:Hp):List PV->Option (List PV × List Nat)
 | []=>some ([],[])
 | x :: l=>(q32 h x).bind λa=>(q3B h l).map λb=>(a.1 :: b.1,a.2 ++ b.2)
noncomputable def clo (h:Hp):PV->Option (PV × List Nat)
 | .ag l=>(q3B h l).map λr=>(.ag r.1,r.2)
 | x=>q32 h x
noncomputable def q2P (h:Hp):List PV->Option (List PV × List Nat)
 | []=>some ([],[])
 | x :: l=>(clo h x).bind λa=>(q2P h l).map λb=>(a.1 :: b.1,a.2 ++ b.2)
def Nz [NL] (r:PV):Prop:=∀ (w:World) (D B:Nat->Prop) (v:Value),(∀ g,B g->∃ cs T,Blk w g T cs/\∀ u ∈ cs.toList,q3f u=true)->Rd w D r (λ_=>none) h0 v->Rd w (λk=>D k/\¬ B k) r (λ_=>none) h0 v
def AC [NL] (P:Program) (Tb:World->Prop) (f:FuncId) (al:List PV) (r:PV):Prop :=
 q0H P f=true/\∀ (D:Nat->Prop) (w:World) (vs:List Value),Tb w->Fr D w->RdL w D al (λ_=>none) h0 vs->Calls P f vs.toArray w λx w'=>∃ v,x=.returned v/\Ext w w'/\Rd w' D r (λ_=>none) h0 v
section
variable {w w':World} {w0:Base} {D D0:Nat->Prop} {ρ:Nat->Option Nat} {h:Hp} {s:Nat->PV} {e:Env} {P:Program}
def Rd.cl [NL] {x:PV} {y:Value} (hx:Rd w D x (λ_=>none) h0 y):Rd w D x ρ h y:=Rd.mv (Kp.refl _ _) (λ_ _ h=>h) _ _ _ _ _ _ Cpt.h0 hx
def RdL.cl [NL] {l:List PV} {vs:List Value} (hx:RdL w D l (λ_=>none) h0 vs):RdL w D l ρ h vs:=RdL.mv (Kp.refl _ _) (λ_ _ h=>h) _ _ _ _ _ _ Cpt.h0 hx
def Rd.sub [NL] {D':Nat->Prop} {x:PV} {y:Value} (hx:Rd w D x ρ h y) (hd:∀ k,k < w.heap.size->D k->D' k):Rd w D' x ρ h y:=Rd.mv (Kp.refl _ _) hd _ _ _ _ _ _ (Cpt.ext (Kp.refl _ _)) hx
def RdL.sub [NL] {D':Nat->Prop} {x:List PV} {y:List Value} (hx:RdL w D x ρ h y) (hd:∀ k,k < w.heap.size->D k->D' k):RdL w D' x ρ h y:=RdL.mv (Kp.refl _ _) hd _ _ _ _ _ _ (Cpt.ext (Kp.refl _ _)) hx
def q2J [NL] {x:PV} {y:Value} (hc:q25 x) (hx:Rd w D x ρ h y):Rd w D x (λ_=>none) h0 y:=by
 cases x <;> simp only [q25] at hc <;> unfold Rd at hx ⊢ <;> exact hx
def q33 [NL] {x:PV} {y:Value} (hc:Cld x) (hx:Rd w D x ρ h y):Rd w D x (λ_=>none) h0 y:=by
 cases x
 case ag l =>
  simp only [Cld] at hc;unfold Rd at hx ⊢;obtain ⟨vs,h1,h2⟩:=hx;obtain ⟨h3,h4⟩:=RdL.iff.1 h2;exact ⟨vs,h1,RdL.iff.2 ⟨h3,λi z v hz hv=>q2J (hc z (zE hz)) (h4 i z v hz hv)⟩⟩
 all_goals exact q2J hc hx
def isM (w:World) (g:Nat):Prop:=∃ es cl,w.heap[g]?=some (.map es cl)
def qsR [NL] {k:Kd} {x:PV} (hf:q4D k x):k≠some 0:=λe=>by
 subst e;cases x <;> simp [q4D] at hf
def qbJ.noT [NL] {g:Nat} {b:Bk} (hm:qbJ w D ρ h g b) {i j:Nat} {k:Kd} {u x u':PV} (hu:b.xs[i]?=some u) (hs:stU b.k k j u x=some u') (hk:k≠some 0):False:=by
 rcases qiT hs with ⟨e,_,_⟩ | ⟨n,l,_,_,rfl,_⟩ | ⟨n,m,l,r,_,_,rfl,_⟩
 .exact hk (e.symm.trans hm.1)
 .exact hm.noA hu
 .exact hm.noA hu
def Sat.row [NL] (S:Sat D0 w0 s h ρ e w) {id off n:Nat} {b:Bk} {y:Value} (hi:h id=some b) (hst:b.st=false) (hr:Rd w (dm D0 ρ h) (.ow id b.k off n) ρ h y) :
  ∃ A c vs,y=.slice A n c/\Row w (λk=>ρ id=some k/\¬ isM w k) (ksz b.k) A n c (q0X vs)/\RdL w (dm D0 ρ h) ((b.xs.drop off).take n) ρ h vs/\∀ v ∈ vs,q1z b.k v:=by
 unfold Rd at hr;obtain ⟨b',A,c,h1,_,rfl,h3,h4,h5,h6,h7⟩:=hr;rw [hi] at h1;cases h1
 by_cases hn:n=0
 .subst hn;refine ⟨A,c,[],rfl,⟨h3,by simp [q0X],λhx=>by simp [q0X] at hx⟩,by rw [List.take_zero]; unfold RdL; rfl,λv hv=>by cases hv⟩
 .rcases h6 with h6 | ⟨g,g1,g2,g3⟩
  .omega
  .obtain ⟨cs,c1,c2,c3⟩:=(S.own id b g hi g1).2.resolve_left λhm=>hm.noS g3;obtain ⟨vs,v1,v2,v3⟩:=c3 hst;have hcs:∀ v ∈ vs,v.cells.size=ksz b.k:=λv hv=>(v3 v hv).size;have hlen:=v2.len;refine ⟨A,c,(vs.drop off).take n,rfl,⟨h3,?_,λ_=>⟨_,g2,⟨g1,λ⟨es,cl,hm⟩=>by have:=hm.symm.trans c1; cases this⟩,λj u hu=>?_⟩⟩,(v2.drop off).take n,λv hv=>v3 v (zK (zL hv))⟩
   .rw [q0e λv hv=>hcs v (zK (zL hv))]
    congr 1
    simp; omega
   .rw [q3U λv hv=>hcs v (zK hv),q3V hcs,<- v1,zI] at hu
    split at hu
    .rw [zQ,zI] at hu
     split at hu
     .rw [q1V,c1.cell,<- zH]; exact hu
     .cases hu
    .cases hu
def qmi [NL] (S:Sat D0 w0 s h ρ e w) {x:PV} {r:PV × List Nat} {y:Value} (hc:qaz h x=some r) (hx:Rd w (dm D0 ρ h) x ρ h y):Rd w (λk=>dm D0 ρ h k\/∃ i ∈ r.2,ρ i=some k/\¬ isM w k) r.1 (λ_=>none) h0 y:=by
 unfold qaz at hc
 split at hc
 .rename_i id k off n;obtain ⟨b,hb,hc⟩:=zB.1 hc
  split at hc
  .rename_i hh;obtain ⟨hst,rfl,hcl⟩:=hh;cases hc;obtain ⟨A,c,vs,rfl,q1,q2,q3⟩:=S.row hb hst hx;have hb0:off+n<=b.xs.length:=by
    unfold Rd at hx;obtain ⟨b',_,_,h1,_,_,_,_,h5,_⟩:=hx;rw [hb] at h1; cases h1; exact h5
   unfold Rd;refine ⟨A,n,c,vs,rfl,q1.sub λk _ hk=>.inr ⟨id,σ,hk⟩,by simp; omega,?_,q3⟩;obtain ⟨q4,q5⟩:=RdL.iff.1 q2;exact RdL.iff.2 ⟨q4,λi z v hz hv=>(q33 (hcl z (zK (zL (zE hz)))) (q5 i z v hz hv)).sub λk _ hk=>.inl hk⟩
  .cases hc
 .split at hc
  .rename_i hcl;cases hc;exact (q2J hcl hx).sub λk _ hk=>.inl hk
  .cases hc
def qaE [NL] (S:Sat D0 w0 s h ρ e w):∀ {l:List PV} {r:List PV × List Nat},q1L h l=some r->r.1.length=l.length/\∀ (i:Nat) (x:PV),l[i]?=some x->∃ z,r.1[i]?=some z/\∀ y,Rd w (dm D0 ρ h) x ρ h y->Rd w (λk=>dm D0 ρ h k\/∃ i ∈ r.2,ρ i=some k/\¬ isM w k) z (λ_=>none) h0 y
 | [],r,hc=>by unfold q1L at hc; cases hc; exact ⟨rfl,λi x hx=>by simp at hx⟩
 | x :: l,r,hc=>by
  unfold q1L at hc;obtain ⟨a,ha,hc⟩:=zB.1 hc;obtain ⟨b,hb,rfl⟩:=zA.1 hc;obtain ⟨h1,h2⟩:=qaE S hb;refine ⟨by simp [h1],λi x' hx=>?_⟩;cases i with
  | zero=>cases hx; exact ⟨_,rfl,λy hy=>(qmi S ha hy).sub λk _ hk=>hk.imp (λh=>h) λ⟨i,hi,h⟩=>⟨i,zW _ hi,h⟩⟩
  | succ i =>
   obtain ⟨z,q1,q2⟩:=h2 i x' hx;exact ⟨z,q1,λy hy=>(q2 y hy).sub λk _ hk=>hk.imp (λh=>h) λ⟨i,hi,h⟩=>⟨i,zR _ hi,h⟩⟩
def q67 [NL] (S:Sat D0 w0 s h ρ e w) {x:PV} {r:PV × List Nat} {y:Value} (hc:q32 h x=some r) (hx:Rd w (dm D0 ρ h) x ρ h y):Rd w (λk=>dm D0 ρ h k\/∃ i ∈ r.2,ρ i=some k/\¬ isM w k) r.1 (λ_=>none) h0 y:=by
 unfold q32 at hc
 split at hc
 .rename_i id k off n;obtain ⟨b,hb,hc⟩:=zB.1 hc
  split at hc
  .rename_i hh;obtain ⟨hst,rfl,hcl⟩:=hh;cases hc;obtain ⟨A,c,vs,rfl,q1,q2,q3⟩:=S.row hb hst hx;have hb0:off+n<=b.xs.length:=by
    unfold Rd at hx;obtain ⟨b',_,_,h1,_,_,_,_,h5,_⟩:=hx;rw [hb] at h1; cases h1; exact h5
   unfold Rd;refine ⟨A,n,c,vs,rfl,q1.sub λk _ hk=>.inr ⟨id,σ,hk⟩,by simp; omega,?_,q3⟩;obtain ⟨q4,q5⟩:=RdL.iff.1 q2;exact RdL.iff.2 ⟨q4,λi z v hz hv=>(q33 (hcl z (zK (zL (zE hz)))) (q5 i z v hz hv)).sub λk _ hk=>.inl hk⟩
  .split at hc
   .rename_i hh;obtain ⟨hst,rfl⟩:=hh;obtain ⟨r0,hr0,rfl⟩:=zA.1 hc;obtain ⟨A,c,vs,rfl,q1,q2,q3⟩:=S.row hb hst hx;obtain ⟨g1,g2⟩:=qaE S hr0;have hb0:off+n<=b.xs.length:=by
     unfold Rd at hx;obtain ⟨b',_,_,h1,_,_,_,_,h5,_⟩:=hx;rw [hb] at h1; cases h1; exact h5
    unfold Rd;refine ⟨A,n,c,vs,rfl,q1.sub λk _ hk=>.inr ⟨id,σ,hk⟩,by simp; omega,?_,q3⟩;obtain ⟨q4,q5⟩:=RdL.iff.1 q2;refine RdL.iff.2 ⟨by rw [<- q4]; simp [g1],λi z v hz hv=>?_⟩;rw [zI] at hz
    split at hz
    .rename_i hin;rw [zQ] at hz;obtain ⟨x,hx'⟩:∃ x,b.xs[off+i]?=some x:=⟨_,zD Oq⟩;obtain ⟨z',e1,e2⟩:=g2 _ _ hx';rw [e1] at hz; cases hz;refine (e2 v (q5 i x v ?_ hv)).sub λk _ hk=>hk.imp (λh=>h) λ⟨i,hi,h⟩=>⟨i,zM _ hi,h⟩;rw [zI,if_pos hin,zQ]; exact hx'
    .cases hz
   .cases hc
 .split at hc
  .rename_i hcl;cases hc;exact (q2J hcl hx).sub λk _ hk=>.inl hk
  .cases hc
def qaD [NL] (S:Sat D0 w0 s h ρ e w):∀ {l:List PV} {r:List PV × List Nat} {ys:List Value},q3B h l=some r->RdL w (dm D0 ρ h) l ρ h ys->RdL w (λk=>dm D0 ρ h k\/∃ i ∈ r.2,ρ i=some k/\¬ isM w k) r.1 (λ_=>none) h0 ys
 | [],r,ys,hc,hx=>by unfold q3B at hc; cases hc; unfold RdL at hx ⊢; exact hx
 | x :: l,r,ys,hc,hx=>by
  unfold q3B at hc;obtain ⟨a,ha,hc⟩:=zB.1 hc;obtain ⟨b,hb,rfl⟩:=zA.1 hc;unfold RdL at hx ⊢;obtain ⟨y,zs,rfl,h1,h2⟩:=hx;exact ⟨y,zs,rfl,(q67 S ha h1).sub λk _ hk=>hk.imp (λh=>h) λ⟨i,hi,h⟩=>⟨i,zW _ hi,h⟩,(qaD S hb h2).sub λk _ hk=>hk.imp (λh=>h) λ⟨i,hi,h⟩=>⟨i,zR _ hi,h⟩⟩
def qtP [NL] (S:Sat D0 w0 s h ρ e w) {x:PV} {r:PV × List Nat} {y:Value} (hc:clo h x=some r) (hx:Rd w (dm D0 ρ h) x ρ h y):Rd w (λk=>dm D0 ρ h k\/∃ i ∈ r.2,ρ i=some k/\¬ isM w k) r.1 (λ_=>none) h0 y:=by
 unfold clo at hc
 split at hc
 .obtain ⟨b,hb,rfl⟩:=zA.1 hc;unfold Rd at hx ⊢;obtain ⟨vs,h1,h2⟩:=hx;exact ⟨vs,h1,qaD S hb h2⟩
 .exact q67 S hc hx
def q64 [NL] (S:Sat D0 w0 s h ρ e w):∀ {l:List PV} {r:List PV × List Nat} {ys:List Value},q2P h l=some r->RdL w (dm D0 ρ h) l ρ h ys->RdL w (λk=>dm D0 ρ h k\/∃ i ∈ r.2,ρ i=some k/\¬ isM w k) r.1 (λ_=>none) h0 ys
 | [],r,ys,hc,hx=>by unfold q2P at hc; cases hc; unfold RdL at hx ⊢; exact hx
 | x :: l,r,ys,hc,hx=>by
  unfold q2P at hc;obtain ⟨a,ha,hc⟩:=zB.1 hc;obtain ⟨b,hb,rfl⟩:=zA.1 hc;unfold RdL at hx ⊢;obtain ⟨y,zs,rfl,h1,h2⟩:=hx;exact ⟨y,zs,rfl,(qtP S ha h1).sub λk _ hk=>hk.imp (λh=>h) λ⟨i,hi,h⟩=>⟨i,zW _ hi,h⟩,(q64 S hb h2).sub λk _ hk=>hk.imp (λh=>h) λ⟨i,hi,h⟩=>⟨i,zR _ hi,h⟩⟩
def q66:∀ {l:List PV} {r:List PV × List Nat},q2P h l=some r->∀ i ∈ r.2,∃ b,h i=some b:=by
 have k0:∀ {x:PV} {r:PV × List Nat},qaz h x=some r->∀ i ∈ r.2,∃ b,h i=some b:=λ{x r} hc i hi=>by
  unfold qaz at hc
  split at hc
  .obtain ⟨b,hb,hc⟩:=zB.1 hc
   split at hc
   .cases hc; simp at hi; subst hi; exact ⟨b,hb⟩
   .cases hc
  .split at hc
   .cases hc; cases hi
   .cases hc
 have k3:∀ {l:List PV} {r:List PV × List Nat},q1L h l=some r->∀ i ∈ r.2,∃ b,h i=some b:=λ{l}=>by
  induction l with
  | nil=>intro r hc i hi; unfold q1L at hc; cases hc; cases hi
  | cons x l ih =>
   intro r hc i hi;unfold q1L at hc;obtain ⟨a,ha,hc⟩:=zB.1 hc;obtain ⟨b,hb,rfl⟩:=zA.1 hc
   rcases zO.1 hi with hi | hi
   .exact k0 ha i hi
   .exact ih hb i hi
 have k1:∀ {x:PV} {r:PV × List Nat},q32 h x=some r->∀ i ∈ r.2,∃ b,h i=some b:=λ{x r} hc i hi=>by
  unfold q32 at hc
  split at hc
  .obtain ⟨b,hb,hc⟩:=zB.1 hc
   split at hc
   .cases hc; simp at hi; subst hi; exact ⟨b,hb⟩
   .split at hc
    .obtain ⟨r0,hr0,rfl⟩:=zA.1 hc
     rcases z6.1 hi with rfl | hi
     .exact ⟨b,hb⟩
     .exact k3 hr0 i hi
    .cases hc
  .split at hc
   .cases hc; cases hi
   .cases hc
 have k2:∀ {l:List PV} {r:List PV × List Nat},q3B h l=some r->∀ i ∈ r.2,∃ b,h i=some b:=λ{l}=>by
  induction l with
  | nil=>intro r hc i hi; unfold q3B at hc; cases hc; cases hi
  | cons x l ih =>
   intro r hc i hi;unfold q3B at hc;obtain ⟨a,ha,hc⟩:=zB.1 hc;obtain ⟨b,hb,rfl⟩:=zA.1 hc
   rcases zO.1 hi with hi | hi
   .exact k1 ha i hi
   .exact ih hb i hi
 intro l
 induction l with
 | nil=>intro r hc i hi; unfold q2P at hc; cases hc; cases hi
 | cons x l ih =>
  intro r hc i hi;unfold q2P at hc;obtain ⟨a,ha,hc⟩:=zB.1 hc;obtain ⟨b,hb,rfl⟩:=zA.1 hc
  rcases zO.1 hi with hi | hi
  .unfold clo at ha
   split at ha
   .obtain ⟨b',hb',rfl⟩:=zA.1 ha;exact k2 hb' i hi
   .exact k1 ha i hi
  .exact ih hb i hi
def qmm [NL] (S:Sat D0 w0 s h ρ e w) {x:PV} {r:PV × List Nat} {y:Value} (hc:q32 h x=some r) (hx:Rd w (dm D0 ρ h) x ρ h y):Rd w (λk=>dm D0 ρ h k\/∃ i ∈ r.2,ρ i=some k) r.1 (λ_=>none) h0 y:=(q67 S hc hx).sub λ_ _ hk=>hk.imp (λh=>h) λ⟨i,hi,h⟩=>⟨i,hi,h.1⟩
def qeF [NL] (S:Sat D0 w0 s h ρ e w) {l:List PV} {r:List PV × List Nat} {ys:List Value} (hc:q2P h l=some r) (hx:RdL w (dm D0 ρ h) l ρ h ys):RdL w (λk=>dm D0 ρ h k\/∃ i ∈ r.2,ρ i=some k) r.1 (λ_=>none) h0 ys:=(q64 S hc hx).sub λ_ _ hk=>hk.imp (λh=>h) λ⟨i,hi,h⟩=>⟨i,hi,h.1⟩
def Sat.callv [NL] {Tb:World->Prop} (S:Sat D0 w0 s h ρ e w) (hT:Tb w) (hF:Fr D0 w0.w) {f:FuncId} {xs:List PV} {vs:List Value} {al:List PV} {ids:List Nat} {r:PV} (hx:RdL w (dm D0 ρ h) xs ρ h vs) (hc:q2P h xs=some (al,ids)) (hC:AC P Tb f al r) (hz:ids=[]\/Nz r) {K:Value->World->Prop}
  (hK:∀ v w',Sat D0 w0 s h ρ e w'->Rd w' (dm D0 ρ h) r ρ h v->K v w'):q0H P f=true/\Calls P f vs.toArray w λx w'=>match x with | .returned v=>K v w' | _=>False:=by
 refine ⟨hC.1,?_⟩;have ha:=q64 S hc hx;have hFr:Fr (dm D0 ρ h) w:=λk hk=>⟨hF k (xV S.ext.size hk),λi b hi hr=>by have:=(S.own i b k hi hr).2.lt; omega⟩
 rcases hz with rfl | hz
 .have ha':=ha.sub (D':=dm D0 ρ h) λk _ hk=>hk.elim (λh=>h) λ⟨i,hi,_⟩=>by cases hi
  refine (hC.2 _ w _ hT hFr ha').mono λx w' hx=>?_;obtain ⟨v,rfl,hx1,hr⟩:=hx;exact hK v w' (S.extend hx1) hr.cl
 .have hD0:∀ k,w.heap.size<=k->D0 k:=λk hk=>hF k (xV S.ext.size hk);have ha':=ha.sub (D':=λk=>dm D0 ρ h k\/∃ i b,h i=some b/\ρ i=some k/\¬ isM w k) λk hk hq=>by
   rcases hq with hq | ⟨i,hi,hr⟩
   .exact .inl hq
   .by_cases hh:∃ i b,h i=some b/\ρ i=some k/\¬ isM w k
    .exact .inr hh
    .cases hb:h i with
     | none =>
      exfalso
      obtain ⟨b,hb'⟩:=q66 hc i hi;rw [hb] at hb'; cases hb'
     | some b=>exact .inr ⟨i,b,hb,hr⟩
  have hFr':Fr (λk=>dm D0 ρ h k\/∃ i b,h i=some b/\ρ i=some k/\¬ isM w k) w:=λk hk=>.inl (hFr k hk);refine (hC.2 _ w _ hT hFr' ha').mono λx w' hx=>?_;obtain ⟨v,rfl,hx1,hr⟩:=hx;refine hK v w' (S.extend hx1) ?_;have:=hz w' _ (λk=>∃ i b,h i=some b/\ρ i=some k/\¬ isM w k) v (λg ⟨i,b,hi,hr⟩=>by
   obtain ⟨cs,c1,c2,_⟩:=(S.own i b g hi hr.1).2.resolve_left λ⟨_,_,es,cl,_,hm,_⟩=>hr.2 ⟨es,cl,hm⟩;exact ⟨cs,b.T,c1.ext hx1,c2⟩) hr
  exact (this.sub λk _ hk=>hk.1.elim (λh=>h) λh=>absurd h hk.2).cl
def Sat.call [NL] {Tb:World->Prop} (S:Sat D0 w0 s h ρ e w) (hT:Tb w) (hF:Fr D0 w0.w) {f:FuncId} {args:List Operand} {al:List PV} {ids:List Nat} {r:PV} (hc:q2P h (args.map (pe s))=some (al,ids)) (hC:AC P Tb f al r) (hz:ids=[]\/Nz r) {K:Value->World->Prop}
  (hK:∀ v w',Sat D0 w0 s h ρ e w'->Rd w' (dm D0 ρ h) r ρ h v->K v w'):q0H P f=true/\Calls P f (args.map (ev e)).toArray w λx w'=>match x with | .returned v=>K v w' | _=>False :=
 S.callv hT hF (q3w (f:=pe s) (g:=ev e) S.pex args) hc hC hz hK
def Sat.store [NL] (S:Sat D0 w0 s h ρ e w) {t id i j:Nat} {a v:Operand} {b:Bk} {k:Kd} {u u':PV} (ha:pe s a=.pt id i j) (hi:h id=some b) (hst:b.st=false) (hk:q0Y P t=some k) (hs:q0U P t=some (ksz k)) (hf:q4D k (pe s v)) (hu:b.xs[i]?=some u) (hsu:stU b.k k j u (pe s v)=some u')
  {K:World->Prop} (hK:∀ w',Sat D0 w0 s (q0R h id { b with xs:=b.xs.set i u' }) ρ e w'->K w'):∃ p,ev e a=.pointer (some p)/\q0U P t=some (ev e v).cells.size/\qiU w p 0 (ev e v).cells.toList/\K (stN w p 0 (ev e v).cells.toList):=by
 have hra:=S.pex a;rw [ha] at hra;unfold Rd at hra;obtain ⟨b',g,g1,g2,g3,g4⟩:=hra;rw [hi] at g1;cases g1;have hy:=S.pex v;have hfy:=q6Y hf hy;have hk0:=qsR hf;obtain ⟨cs,c1,c2,c3⟩:=(S.own id b g hi g2).2.resolve_left λhm=>hm.noT hu hsu hk0;obtain ⟨vs,v1,v2,v3⟩:=c3 hst;have hcs:∀ v ∈ vs,v.cells.size=ksz b.k:=λv hv=>(v3 v hv).size;have hvl:=v2.len;obtain ⟨o,ho,hor⟩:=v2.get hu;have hfo:=v3 o (zE ho);have hil:i < vs.length:=ω
 have key:∃ z,Rd w (dm D0 ρ h) u' ρ h z/\q1z b.k z/\j+(ev e v).cells.toList.length<=ksz b.k/\z.cells.toList=o.cells.toList.take j ++ (ev e v).cells.toList ++ o.cells.toList.drop (j+(ev e v).cells.toList.length):=by
  rcases qiT hsu with ⟨rfl,rfl,rfl⟩ | ⟨n,l,hbk,rfl,rfl,hjl,rfl⟩ | ⟨n,m,l,r,hbk,rfl,rfl,hx,hrm,hjl,rfl⟩
  .refine ⟨ev e v,hy,hfy,by rw [zG,hfy.size]; omega,?_⟩;rw [List.drop_of_length_le (by rw [zG,hfo.size,zG,hfy.size]; omega)];simp
  .unfold Rd at hor;obtain ⟨us,rfl,r1⟩:=hor;rw [hbk] at hfo;have hul:=r1.len;have hn:us.length=n:=by have:=hfo.size; simpa [Value.cells,ksz] using this
   refine ⟨.agg ⟨us.set j (ev e v)⟩,by unfold Rd; exact ⟨_,rfl,r1.set hy j⟩,?_,?_,?_⟩
   .rw [hbk];refine ⟨_,rfl,by simp [hn],λx hx=>?_⟩;simp only at hx
    rcases y7 hx with hx | hx
    .exact hfo.one x (by simpa [Value.cells] using hx)
    .rw [hx]; exact hfy.2
   .rw [hfy.1,hbk]; simp [ksz]; omega
   .rw [hfy.1];simp only [Value.cells];rw [yQ,if_pos ω];simp
  .unfold Rd at hor;obtain ⟨us,rfl,r1⟩:=hor;rw [hx] at hy;unfold Rd at hy;obtain ⟨rs,hv,r2⟩:=hy;rw [hbk] at hfo;have hul:=r1.len;have hrl:=r2.len;have hn:us.length=n:=by have:=hfo.size; simpa [Value.cells,ksz] using this
   rw [hv] at hfy ⊢;refine ⟨.agg ⟨us.take j ++ rs ++ us.drop (j+m)⟩,by unfold Rd; exact ⟨_,rfl,((r1.take j).app r2).app (r1.drop (j+m))⟩,?_,?_,?_⟩
   .rw [hbk];refine ⟨_,rfl,by simp; omega,λx hx=>?_⟩;simp only [zO] at hx
    rcases hx with (hx | hx) | hx
    .exact hfo.one x (by simpa [Value.cells] using zL hx)
    .exact hfy.one x (by simpa [Value.cells] using hx)
    .exact hfo.one x (by simpa [Value.cells] using zK hx)
   .rw [hbk]; simp [Value.cells,ksz]; omega
   .simp only [Value.cells];rw [hrl,hrm]
 obtain ⟨z,z1,z2,z3,z4⟩:=key;have hsz:(ev e v).cells.size=ksz k:=hfy.size;have hfl:=q0e hcs;have hlt:i*ksz b.k+ksz b.k<=vs.length*ksz b.k:=by
  have:=yZ (ksz b.k) (show i+1<=vs.length by omega);rw [uC] at this; exact this
 have hle:vs.length*ksz b.k<=cs.size:=by
  have:=congrArg List.length v1;rw [yI,hfl,zG,<- hvl] at this;omega
 refine ⟨_,g4,by rw [hsz]; exact hs,?_,?_⟩
 .have hgen:∀ (l:List Value) (m:Nat),i*ksz b.k+j+m+l.length<=cs.size->(∀ u ∈ l,u.oneCell'=true)->qiU w ⟨g,i*ksz b.k+j,none⟩ m l:=by
   intro l
   induction l with
   | nil=>intro _ _ _; trivial
   | cons x l ih =>
    intro m hm h1;rw [zN] at hm;refine ⟨?_,?_,h1 x vZ,ih (m+1) Oq λu hu=>h1 u (zM _ hu)⟩
    .rw [q1V,c1.cell,y8 ω]; rfl
    .rw [q1V]; exact c1.frozen _
  exact hgen _ 0 Oq λu hu=>(hfy.one u hu).1
 .refine hK _ ?_;have hgen:∀ (l:List Value) (m:Nat) (w:World) (cs:Array Value),Blk w g b.T cs->i*ksz b.k+j+m+l.length<=cs.size->∃ cs',Blk (stN w ⟨g,i*ksz b.k+j,none⟩ m l) g b.T cs'/\cs'.size=cs.size/\∀ n:Nat,cs'[n]?=if i*ksz b.k+j+m<=n/\n < i*ksz b.k+j+m+l.length then l[n-(i*ksz b.k+j+m)]? else cs[n]?:=by
   intro l;generalize i*ksz b.k+j=q
   induction l with
   | nil=>intro m w cs hb _; exact ⟨cs,hb,rfl,λn=>by rw [if_neg σ]⟩
   | cons x l ih =>
    intro m w cs hb hm;rw [zN] at hm;have h5:=hb.set (q+m) x;obtain ⟨cs',q1,q2,q3⟩:=ih (m+1) _ _ h5 (by rw [yC]; omega);refine ⟨cs',by rw [stN,q1V]; exact q1,by rw [q2,yC],λn=>?_⟩;rw [q3 n,z8,zN]
    by_cases c1:q+(m+1)<=n/\n < q+(m+1)+l.length
    .rw [if_pos c1,if_pos ω,show n-(q+m)=(n-(q+(m+1)))+1 by omega,v7]
    .rw [if_neg c1]
     by_cases c2:q+m=n
     .subst c2;rw [if_pos rfl,if_pos ω,if_pos ω,Nat.sub_self]
      rfl
     .rw [if_neg c2,if_neg ω]
  obtain ⟨cs',q1,q2,q3⟩:=hgen (ev e v).cells.toList 0 w cs c1 (by rw [zG,hsz]; rw [zG,hsz] at z3; omega);simp only [yR] at q3;have hkp:Kp (λk=>k≠g) w (stN w ⟨g,i*ksz b.k+j,none⟩ 0 (ev e v).cells.toList):=qiV _ _ _ λ_ h=>h rfl;have hoc:∀ m,m < ksz b.k->o.cells.toList[m]?=(q0X vs)[i*ksz b.k+m]?:=λm hm=>by rw [q4V hcs ho hm,zH]
  have hol:o.cells.toList.length=ksz b.k:=by rw [zG,hfo.size]
  have hzl:z.cells.toList.length=ksz b.k:=by rw [zG,z2.size]
  have hzc:∀ m,m < ksz b.k->z.cells.toList[m]?=if j<=m/\m < j+(ev e v).cells.toList.length then (ev e v).cells.toList[m-j]? else (q0X vs)[i*ksz b.k+m]?:=λm hm=>by
   rw [z4,xA,z7];have e1:(o.cells.toList.take j).length=j:=by rw [yI]; omega
   rw [e1]
   by_cases m1:m < j
   .rw [if_pos m1,if_neg ω,zI,if_pos m1,hoc m hm]
   .rw [if_neg m1,z7]
    by_cases m2:m-j < (ev e v).cells.toList.length
    .rw [if_pos m2,if_pos ω]
    .rw [if_neg m2,if_neg ω,zQ,<- hoc m hm]
     congr 1
     omega
  have hflat:cs'.toList.take (vs.length*ksz b.k)=q0X (vs.set i z):=by
   rw [qgu hcs z2.size hil];have hfv:∀ m,m < vs.length*ksz b.k->(q0X vs)[m]?=cs[m]?:=λm hm=>by
    rw [<- v1,hvl.symm,zI,if_pos hm,zH]
   apply yB
   intro m;have e2:(i+1)*ksz b.k=i*ksz b.k+ksz b.k:=uC _ _;have e3:((q0X vs).take (i*ksz b.k)).length=i*ksz b.k:=by rw [yI,hfl]; omega
   rw [zI,zH,q3 m,xA,z7,e3,e2]
   by_cases m0:m < i*ksz b.k
   .rw [if_pos ω,if_neg ω,if_pos m0,zI,if_pos m0,hfv m ω]
   .rw [if_neg m0,z7,hzl]
    by_cases m1:m-i*ksz b.k < ksz b.k
    .rw [if_pos m1,hzc _ m1,if_pos ω]
     by_cases m2:i*ksz b.k+j<=m/\m < i*ksz b.k+j+(ev e v).cells.toList.length
     .rw [if_pos m2,if_pos ω]
      congr 1
      omega
     .rw [if_neg m2,if_neg ω,show i*ksz b.k+(m-i*ksz b.k)=m by omega,hfv m ω]
    .rw [if_neg m1,zQ,show i*ksz b.k+ksz b.k+(m-i*ksz b.k-ksz b.k)=m by omega]
     by_cases m2:m < vs.length*ksz b.k
     .rw [if_pos m2,if_neg ω,hfv m m2]
     .rw [if_neg m2,zU ω]
  have hnl:∀ x ∈ cs'.toList,q3f x=true:=λx hx=>by
   obtain ⟨m,hm⟩:=xM hx;rw [zH,q3 m] at hm
   split at hm
   .exact (hfy.one x (zE hm)).2
   .exact c2 x (vW.2 (Array.mem_of_getElem? hm))
  obtain ⟨S1,_,_⟩:=S.write (b':={ b with xs:=b.xs.set i u' }) hi g2 hst hkp c1 q2 q1 hnl rfl rfl hst σ (vs:=vs.set i z) (by simp only [List.length_set]; rw [<- hvl]; exact hflat) (v2.set z1 i) (λx hx=>by
   rcases y7 hx with hx | hx
   .exact v3 x hx
   .rw [hx]; exact z2)
  exact S1
end
section
variable {w w':World} {w0:Base} {D D0:Nat->Prop} {ρ:Nat->Option Nat} {h:Hp} {s:Nat->PV} {e:Env} {P:Program}
def Sat.stale [NL] (S:Sat D0 w0 s h ρ e w) {id:Nat} {b:Bk} (hi:h id=some b) (hk0:b.k≠some 0):Sat D0 w0 s (q0R h id { b with st:=true }) ρ e w:=by
 have hc:Cpt w w ρ h ρ (q0R h id { b with st:=true }):=λi c hc=>⟨rfl,by
  by_cases he:i=id
  .subst he; rw [hi] at hc; cases hc;exact ⟨_,q0O,rfl,zS _⟩
  .exact ⟨c,by rw [q0A he]; exact hc,rfl,zS _⟩,λg m _ hb=>hb⟩
 have hdd:∀ k,dm D0 ρ h k->dm D0 ρ (q0R h id { b with st:=true }) k:=λk hq=>⟨hq.1,λi c hc=>by
  by_cases he:i=id
  .subst he; exact hq.2 i b hi
  .rw [q0A he] at hc; exact hq.2 i c hc⟩
 have hk:Kp (dm D0 ρ h) w w:=Kp.refl _ _;refine ⟨λi j c c' g' ci cj hs ri rj=>?_,λi c g' ci ri=>?_,λi c ci ri=>?_,λt=>Rd.mv hk (λk _=>hdd k) _ _ _ _ _ _ hc (S.rd t),S.ext,S.fr,S.imp,S.pin⟩
 .by_cases ej:j=id
  .subst ej; rw [q0O] at cj; cases cj; cases hs
  .rw [q0A ej] at cj
   by_cases ei:i=id
   .subst ei; rw [q0O] at ci; cases ci; exact .inr rfl
   .rw [q0A ei] at ci;exact S.inj i j c c' g' ci cj hs ri rj
 .by_cases ei:i=id
  .subst ei;rw [q0O] at ci; cases ci;obtain ⟨a1,a2⟩:=S.own i b g' hi ri;obtain ⟨c1,c2,c3,_⟩:=a2.reg hk0;exact ⟨a1,.inr ⟨c1,c2,c3,λhf=>by cases hf⟩⟩
  .rw [q0A ei] at ci;obtain ⟨a1,a2⟩:=S.own i c g' ci ri;exact ⟨a1,a2.mv rfl hk (λk _=>hdd k) hc⟩
 .by_cases ei:i=id
  .subst ei; rw [q0O] at ci; cases ci; exact S.vir i b hi ri
  .rw [q0A ei] at ci; exact S.vir i c ci ri
def Sat.dup [NL] (S:Sat D0 w0 s h ρ e w) {id d:Nat} {b:Bk} (hi:h id=some b) (hst:b.st=false) (hk0:b.k≠some 0) (hd:h d=none) (hd5:d < 5000) :
  Sat D0 w0 s (q0R (q0R h id { b with st:=true }) d b) (upo ρ d (ρ id)) e w/\(∀ k,dm D0 ρ h k->dm D0 (upo ρ d (ρ id)) (q0R (q0R h id { b with st:=true }) d b) k)/\Cpt w w ρ h (upo ρ d (ρ id)) (q0R (q0R h id { b with st:=true }) d b):=by
 have hne:id≠d:=λe=>by subst e; rw [hd] at hi; cases hi
 have S1:=S.stale hi hk0;have hold:∀ i c,q0R h id { b with st:=true } i=some c->i≠d:=λi c hc e=>by
  subst e;rw [q0A (λe=>hne e.symm),hd] at hc; cases hc
 have hget:∀ i c,q0R (q0R h id { b with st:=true }) d b i=some c->(i=d/\c=b)\/(i≠d/\q0R h id { b with st:=true } i=some c):=λi c hc=>by
  by_cases he:i=d
  .subst he; rw [q0O] at hc; cases hc; exact .inl ⟨rfl,rfl⟩
  .rw [q0A he] at hc; exact .inr ⟨he,hc⟩
 have hc:Cpt w w ρ h (upo ρ d (ρ id)) (q0R (q0R h id { b with st:=true }) d b):=λi c hc=>by
  have hid:i≠d:=λe=>by subst e; rw [hd] at hc; cases hc
  refine ⟨q01 hid,?_,λg m _ hb=>hb⟩;rw [q0A hid]
  by_cases he:i=id
  .subst he; rw [hi] at hc; cases hc;exact ⟨_,q0O,rfl,zS _⟩
  .exact ⟨c,by rw [q0A he]; exact hc,rfl,zS _⟩
 have hdd:∀ k,dm D0 ρ h k->dm D0 (upo ρ d (ρ id)) (q0R (q0R h id { b with st:=true }) d b) k:=λk hq=>⟨hq.1,λi c hc=>by
  rcases hget i c hc with ⟨rfl,rfl⟩ | ⟨h1,h2⟩
  .rw [q0f]; exact hq.2 id c hi
  .rw [q01 h1]
   by_cases he:i=id
   .subst he; exact hq.2 i b hi
   .rw [q0A he] at h2; exact hq.2 i c h2⟩
 have hk:Kp (dm D0 ρ h) w w:=Kp.refl _ _;refine ⟨⟨λi j c c' g' ci cj hs ri rj=>?_,λi c g' ci ri=>?_,λi c ci ri=>?_,λt=>Rd.mv hk (λk _=>hdd k) _ _ _ _ _ _ hc (S.rd t),S.ext,S.fr,S.imp,S.pino hd5⟩,hdd,hc⟩
 .rcases hget i c ci with ⟨rfl,rfl⟩ | ⟨i1,i2⟩ <;> rcases hget j c' cj with ⟨rfl,rfl⟩ | ⟨j1,j2⟩
  .exact .inl rfl
  .rw [q0f] at ri; rw [q01 j1] at rj
   by_cases ej:j=id
   .subst ej; rw [q0O] at j2; cases j2; cases hs
   .rw [q0A ej] at j2
    rcases S.inj j id c' c g' j2 hi hst rj ri with h | h
    .exact absurd h ej
    .rw [hs] at h; cases h
  .rw [q0f] at rj; rw [q01 i1] at ri
   by_cases ei:i=id
   .subst ei; rw [q0O] at i2; cases i2; exact .inr rfl
   .rw [q0A ei] at i2
    rcases S.inj i id c c' g' i2 hi hst ri rj with h | h
    .exact absurd h ei
    .exact .inr h
  .rw [q01 i1] at ri; rw [q01 j1] at rj;exact S1.inj i j c c' g' i2 j2 hs ri rj
 .rcases hget i c ci with ⟨rfl,rfl⟩ | ⟨i1,i2⟩
  .rw [q0f] at ri;obtain ⟨a1,a2⟩:=S.own id c g' hi ri;exact ⟨a1,a2.mv rfl hk (λk _=>hdd k) hc⟩
  .rw [q01 i1] at ri
   by_cases ei:i=id
   .subst ei;rw [q0O] at i2; cases i2;obtain ⟨a1,a2⟩:=S.own i b g' hi ri;obtain ⟨c1,c2,c3,_⟩:=a2.reg hk0;exact ⟨a1,.inr ⟨c1,c2,c3,λhf=>by cases hf⟩⟩
   .rw [q0A ei] at i2;obtain ⟨a1,a2⟩:=S.own i c g' i2 ri;exact ⟨a1,a2.mv rfl hk (λk _=>hdd k) hc⟩
 .rcases hget i c ci with ⟨rfl,rfl⟩ | ⟨i1,i2⟩
  .rw [q0f] at ri; exact S.vir id c hi ri
  .rw [q01 i1] at ri
   by_cases ei:i=id
   .subst ei; rw [q0O] at i2; cases i2; exact S.vir i b hi ri
   .rw [q0A ei] at i2; exact S.vir i c i2 ri
def q70 {i d:Nat} {b c:Bk} (hne:i≠d):q0R (q0R h d b) i c=q0R (q0R h i c) d b:=by
 funext j
 unfold q0R
 by_cases h1:j=i
 .subst h1; rw [if_pos rfl,if_neg hne,if_pos rfl]
 .by_cases h2:j=d
  .subst h2; simp [h1]
  .simp [h1,h2]
def qdI {d:Nat} {b c:Bk}:q0R (q0R h d b) d c=q0R h d c:=by
 funext j
 unfold q0R
 by_cases h1:j=d <;> simp [h1]
def q5F {T ty E:Nat} {i:TypeInfo} (hu:P.underlying T=some (.slice E)) (hi:P.info? E=some i) {A A2:Option Addr} {n c c2:Nat} (hcap:n<=c):(Builtin.append_ #[T,T] ty #[.slice A n c,.slice A2 0 c2]).run P w=.ok (.slice A n c) w:=by
 cases A2 with
 | none=>cases A <;> simp [Builtin.append_,run_underlying hu,Go.sizeOf,typeInfo,hi,Builtin.lenOf,Builtin.firstCells,hcap,storeCells]
 | some ad=>cases A <;> simp [Builtin.append_,run_underlying hu,Go.sizeOf,typeInfo,hi,Builtin.lenOf,Builtin.firstCells,loadCells,loadCellsFrom,hcap,storeCells]
def qav {T E sz bytes:Nat} {z:Array Value} (he:q06 P T=some (E,sz,bytes,z)):∃ (i:TypeInfo) (zv:Value),P.underlying T=some (.slice E)/\P.info? E=some i/\i.zero=some zv/\i.size=sz/\i.bytes=bytes/\zv.cells=z:=by
 unfold q06 at he
 split at he
 case h_2=>cases he
 rename_i e hu;obtain ⟨i,hi,hx⟩:=zB.1 he;obtain ⟨zv,hz,hx⟩:=zA.1 hx;simp only [Prod.mk.injEq] at hx;obtain ⟨rfl,rfl,rfl,rfl⟩:=hx;exact ⟨i,zv,hu,hi,hz,rfl,rfl,rfl⟩
def qjv [NL] {z:Array Value} {n:Nat} (hz:∀ u ∈ z.toList,u.oneCell'=true/\q3f u=true):∀ u ∈ (Builtin.zeroCells z n).toList,q3f u=true:=λu hu=>by
 unfold Builtin.zeroCells at hu;rw [xE] at hu;obtain ⟨i,hi,rfl⟩:=yK.1 hu;simp at hi;have hp:0 < z.size:=by
  rcases yN z.size with h | h
  .rw [h] at hi; omega
  .exact h
 have hm:=Nat.mod_lt i hp;have:z[i % z.size]! = z[i % z.size]:=by simp [hm]
 rw [this];exact (hz _ σ).2
def Sat.append [NL] (S:Sat D0 w0 s h ρ e w) {d T ty E bytes:Nat} {k:Kd} {sx xx:Operand} {xs ys:List PV} {i0:Option Nat} {ids:List Nat} (hd:h d=none) (hd5:d < 5000) (hk:elK P T=some (E,k,bytes)) (hs:apW h E k (pe s sx) ys xs i0) (hx:apX h k (pe s xx)=some (ys,ids)) (hlen:(xs.length+ys.length)*(bytes+1)<=140737488355328) :
  ∃ v w',(Builtin.append_ #[T,T] ty #[ev e sx,ev e xx]).run P w=.ok v w'/\∃ ρ',Sat D0 w0 (pu s d (.ow d k 0 (xs.length+ys.length))) (q0R (stl h i0) d ⟨E,k,xs ++ ys,false⟩) ρ' (upd e d v) w':=by
 obtain ⟨z,he,hsz,hzs,_,hz1⟩:=qaA hk;obtain ⟨i,zv,hu,hi,hz,hsi,hby,hzc⟩:=qav he;have hmb:xs.length+ys.length<=maxLen:=by
  have:xs.length+ys.length<=(xs.length+ys.length)*(bytes+1):=xF _ Oq;simp only [maxLen]; omega
 have hbb:(xs.length+ys.length)*bytes<=140737488355328:=xV (Nat.mul_le_mul_left _ Oq) hlen;have hmb':xs.length+ys.length<=9223372036854775807:=by simp only [maxLen] at hmb; omega
 have hD1:=Kp.refl (λ_=>True) w;have hX:∃ A2 c2 us,ev e xx=.slice A2 ys.length c2/\Row w (λ_=>True) (ksz k) A2 ys.length c2 (q0X us)/\RdL w (dm D0 ρ h) ys ρ h us/\∀ v ∈ us,q1z k v:=by
  have hr:=S.pex xx;unfold apX at hx
  split at hx
  .rename_i hxx;cases hx;rw [hxx] at hr;unfold Rd at hr;exact ⟨none,0,[],hr,Row.nil _ _ _,by unfold RdL; rfl,λv hv=>by cases hv⟩
  .rename_i k' l hxx
   split at hx
   .rename_i hkk;cases hx;rw [hxx,hkk] at hr;unfold Rd at hr;obtain ⟨A,n,c,vs,q1,q2,q3,q4,q5⟩:=hr;rw [<- q3] at q1 q2;exact ⟨A,c,vs,q1,q2.sub λ_ _ _=>trivial,q4.cl,q5⟩
   .cases hx
  .rename_i id k' off n hxx;obtain ⟨b,hb,hx⟩:=zB.1 hx
   split at hx
   .rename_i hc;obtain ⟨c1,c2,c3⟩:=hc;cases hx;subst c3;subst c2;rw [hxx] at hr;obtain ⟨A,c,vs,q1,q2,q3,q4⟩:=S.row hb c1 hr;have hn:((b.xs.drop off).take n).length=n:=by
     unfold Rd at hr;obtain ⟨b',_,_,r1,_,_,_,_,r5,_⟩:=hr;rw [hb] at r1; cases r1;simp; omega
    rw [hn];exact ⟨A,c,vs,q1,q2.sub λ_ _ _=>trivial,q3,q4⟩
   .cases hx
  .cases hx
 obtain ⟨A2,c2,us,hxv,hrow,hus,hfu⟩:=hX;have hul:(q0X us).length=ys.length*ksz k:=hrow.len;have huone:∀ u ∈ q0X us,u.oneCell'=true/\q3f u=true:=λu hu=>by
  unfold q0X at hu;obtain ⟨v,hv,hu⟩:=yW.1 hu;exact (hfu v hv).one u hu
 rw [hxv];have fresh:∀ {xv:List Value} {c:Nat},RdL w (dm D0 ρ h) xs ρ h xv->(∀ v ∈ xv,q1z k v)->xs.length+ys.length<=c->c<=maxLen->∀ w',Ext w w'->Blk w' w.heap.size E ((q0X xv).toArray ++ (q0X us).toArray ++ Builtin.zeroCells z (c-(xs.length+ys.length))) ->
   ∃ ρ',Sat D0 w0 (pu s d (.ow d k 0 (xs.length+ys.length))) (q0R h d ⟨E,k,xs ++ ys,false⟩) ρ' (upd e d (.slice (some ⟨w.heap.size,0,none⟩) (xs.length+ys.length) c)) w':=λ{xv c} hxv hfx h1 h2 w' hx hb=>by
  have hcs:∀ v ∈ xv,v.cells.size=ksz k:=λv hv=>(hfx v hv).size;have hxl:(q0X xv).length=xs.length*ksz k:=by rw [q0e hcs,hxv.len]
  refine S.newS (b:=⟨E,k,xs ++ ys,false⟩) (n:=xs.length+ys.length) hd hd5 hx hb (λu hu=>?_) rfl σ h1 h2 ?_ (vs:=xv ++ us) ?_ (hxv.app hus) (λv hv=>by
   rcases zO.1 hv with hv | hv
   .exact hfx v hv
   .exact hfu v hv)
  .simp only [Array.toList_append,zO] at hu
   rcases hu with (hu | hu) | hu
   .have hu:u ∈ q0X xv:=hu;unfold q0X at hu;obtain ⟨v,hv,hu⟩:=yW.1 hu;exact ((hfx v hv).one u hu).2
   .exact (huone u (by simpa using hu)).2
   .exact qjv hz1 u hu
  .simp only [Array.size_append,xB,hxl,hul,size_zeroCells,hzs,<- yG]
   congr 1
   omega
  .have:((q0X xv).toArray ++ (q0X us).toArray ++ Builtin.zeroCells z (c-(xs.length+ys.length))).toList=q0X (xv ++ us) ++ (Builtin.zeroCells z (c-(xs.length+ys.length))).toList:=by simp [q3W]
   rw [this];have hl:(xs.length+ys.length)*ksz k=(q0X (xv ++ us)).length:=by rw [q3W,z9,hxl,hul,yG]
   rw [hl];exact List.take_left
 have hgc:∀ old,old < xs.length+ys.length->xs.length+ys.length<=grownCap w (xs.length+ys.length) old E/\grownCap w (xs.length+ys.length) old E<=maxLen:=λold ho=>⟨grownCap_ge w _ old E,grownCap_le_maxLen w _ old E hmb⟩;have hdrew:∀ (cs:Array Value),Ext w (w.drew.alloc (.cells cs E)):=λcs=>(Kp.drew w _).trans (Kp.alloc _ _);have nilc:xs=[]->∃ v w',(Builtin.append_ #[T,T] ty #[.slice none 0 0,.slice A2 ys.length c2]).run P w=.ok v w'/\∃ ρ',Sat D0 w0 (pu s d (.ow d k 0 (xs.length+ys.length))) (q0R h d ⟨E,k,xs ++ ys,false⟩) ρ' (upd e d v) w':=λh0=>by
  subst h0;simp only [yF,zV,List.nil_append] at fresh hgc ⊢
  by_cases hm:ys.length=0
  .rw [hm];refine ⟨_,_,q5F hu hi (zS _),?_⟩;have hy:ys=[]:=zP hm;subst hy;obtain ⟨S1,_,_⟩:=S.virt (b:=⟨E,k,[],false⟩) hd hd5 rfl;exact ⟨_,S1.put d (by unfold Rd; exact ⟨_,none,0,q0O,rfl,rfl,zS _,by simp [maxLen],zS _,.inl rfl,λ_=>.inl ⟨rfl,rfl⟩⟩)⟩
  .obtain ⟨ad,rfl,_,hc⟩:=hrow.at_ (by rw [hul]; exact yO ω hsz);have hr:=run_append_nil (P:=P) w T ty E i zv hu hi hz ad ys.length c2 (q0X us) (by rw [hsi]; exact hul) hc ω (by simp only [yF,zV] at hmb'; omega) (by rw [hby]; simp only [yF,zV] at hbb; omega);refine ⟨_,_,hr,?_⟩;have hg:=hgc 0 Oq;have:=fresh (xv:=[]) (c:=grownCap w ys.length 0 E) (by unfold RdL; rfl) (λv hv=>by cases hv) hg.1 hg.2 (w.drew.alloc (.cells ((q0X us).toArray ++ Builtin.zeroCells z (grownCap w ys.length 0 E-ys.length)) E)) (hdrew _) (by
    have:=Blk.new w.drew E ((q0X us).toArray ++ Builtin.zeroCells z (grownCap w ys.length 0 E-ys.length));simpa [q0X] using this)
   rw [hzc];exact this
 have hr:=S.pex sx;unfold apW at hs
 rcases hs with hs | ⟨hi0,hy,_,hcl⟩
 rotate_left
 .subst hi0;obtain ⟨A,vs,v1,v2,v3,v4⟩:=hcl _ _ _ _ _ hr;rw [v1];have hys:0 < ys.length:=List.length_pos_iff.2 hy;have hxl:(q0X vs).length=xs.length*ksz k:=v2.len;cases A with
  | none =>
   have h0:xs.length=0:=by
    rcases yN xs.length with h0 | h0
    .exact h0
    .obtain ⟨ad,hA,_⟩:=v2.at_ (by rw [hxl]; exact yO h0 hsz);cases hA
   rw [h0];have:=nilc (zP h0);rw [h0] at this;exact this
  | some a0 =>
   obtain ⟨ad,rfl,_,hc⟩:=hrow.at_ (by rw [hul]; exact yO hys hsz);have holds:∀ j u,(q0X vs)[j]?=some u->w.cell? (a0.add j)=some u:=λj u hu=>by
    obtain ⟨ad',hA,_,hc'⟩:=v2.at_ (by have:=(zC.1 hu).1; omega);cases hA;exact hc' j u hu
   have hrun:=run_append_grow (P:=P) w T ty E i zv hu hi hz a0 xs.length xs.length (q0X vs) (by rw [hsi]; exact hxl) holds ad ys.length c2 (q0X us) (by rw [hsi]; exact hul) hc ω ω (growslice_fits ω (by rw [hby]; exact hbb));refine ⟨_,_,hrun,?_⟩;have hg:=hgc xs.length Oq;rw [hzc];obtain ⟨ρ',q⟩:=fresh (xv:=vs) (c:=grownCap w (xs.length+ys.length) xs.length E) v3.cl v4 hg.1 hg.2 (w.drew.alloc (.cells ((q0X vs).toArray ++ (q0X us).toArray ++ Builtin.zeroCells z (grownCap w (xs.length+ys.length) xs.length E-(xs.length+ys.length))) E)) (hdrew _) (Blk.new w.drew E _);exact ⟨ρ',q⟩
 unfold apS at hs
 split at hs
 .rename_i hsx;cases hs;rw [hsx] at hr;unfold Rd at hr;rw [hr];exact nilc rfl
 .rename_i id k' off n hsx;obtain ⟨b,hb,hs⟩:=zB.1 hs
  split at hs
  .rename_i hc;obtain ⟨c1,c2',c3,c4,c5,c6⟩:=hc;cases hs;subst c5;subst c6;rw [hsx,c4] at hr;unfold Rd at hr;obtain ⟨b',A,c,r1,_,r3,r4,r5,_,_,r7⟩:=hr;rw [hb] at r1;cases r1;have hne:id≠d:=λe=>by subst e; rw [hd] at hb; cases hb
   have hkn:b.k≠some 0:=λe=>by rw [c3] at e; rw [e] at hsz; simp [ksz] at hsz
   have hbe:b=⟨E,k,b.xs,false⟩:=by cases b; simp_all
   have hstl:stl h (some id)=q0R h id { b with st:=true }:=by simp only [stl,hb]
   rw [r3,hstl]
   rcases r7 rfl with ⟨rfl,rfl⟩ | ⟨g,g1,rfl,hbz⟩
   .have h0:b.xs.length=0:=ω
    obtain ⟨v,w',q1,ρ',q2⟩:=nilc (zP h0);rw [h0];refine ⟨v,w',q1,ρ',?_⟩;have:=q2.stale (id:=id) (b:=b) (by rw [q0A hne]; exact hb) hkn;rw [q70 hne] at this;rw [h0] at this;exact this
   .obtain ⟨cs,k1,k2,k3⟩:=(S.own id b g hb g1).2.reg hkn;obtain ⟨xv,x1,x2,x3⟩:=k3 c1;rw [c3] at x1 x3;rw [c2'] at k1;have hcs:∀ v ∈ xv,v.cells.size=ksz k:=λv hv=>(x3 v hv).size;have hxl:(q0X xv).length=b.xs.length*ksz k:=by rw [q0e hcs,x2.len]
    have hcsz:cs.size=c*ksz k:=by
     obtain ⟨cs',T',q1,q2⟩:=hbz;have h5:=k1.symm.trans q1
     injection h5 with h5
     injection h5 with h5 h6
     subst h5;rw [zV] at q2;exact q2
    by_cases hm:ys.length=0
    .have hy:ys=[]:=zP hm;subst hy;refine ⟨_,_,q5F hu hi r4,?_⟩;obtain ⟨S1,_,_⟩:=S.dup hb c1 hkn hd hd5;rw [xJ,yF,yR];rw [<- hbe];refine ⟨_,S1.put d ?_⟩;unfold Rd;have hat:AtO w (upo ρ d (ρ id) d) (some ⟨g,0*ksz k,none⟩) (0*ksz k) ((0+c)*ksz k):=⟨g,by rw [q0f]; exact g1,rfl,hbz⟩;exact ⟨b,_,c,q0O,c3,rfl,r4,r5,ω,.inr hat,λ_=>.inr hat⟩
    .obtain ⟨ad,rfl,_,hc⟩:=hrow.at_ (by rw [hul]; exact yO ω hsz);rw [xI]
     by_cases hroom:b.xs.length+ys.length<=c
     .have hfit:b.xs.length*i.size+(q0X us).length<=cs.size:=by rw [hul,hcsz,hsi,<- yG]; exact yZ _ hroom
      have hrun:=run_append_room (P:=P) w T ty E i hu hi g b.xs.length c cs k1 ad ys.length c2 (q0X us) (by rw [hsi]; exact hul) hc (λu hu=>(huone u hu).1) hroom hfit;refine ⟨_,_,hrun,?_⟩;rw [hsi];obtain ⟨S1,hd1,hc1⟩:=S.dup hb c1 hkn hd hd5;have hx1:cs.toList.take (b.xs.length*ksz k)=q0X xv:=x1;have hrow2:Blk (w.setRow g (cs.toList.take (b.xs.length*ksz k) ++ q0X us ++ cs.toList.drop (b.xs.length*ksz k+(q0X us).length)).toArray) g E (cs.toList.take (b.xs.length*ksz k) ++ q0X us ++ cs.toList.drop (b.xs.length*ksz k+(q0X us).length)).toArray:=setRow_heap w g cs _ E _ k1;have hkp:Kp (λk=>k≠g) w (w.setRow g (cs.toList.take (b.xs.length*ksz k) ++ q0X us ++ cs.toList.drop (b.xs.length*ksz k+(q0X us).length)).toArray):=⟨rfl,rfl,rfl,σ,λk _ hk=>setRow_other w g k _ hk⟩;have hle:b.xs.length*ksz k<=cs.size:=by rw [hcsz]; exact yZ _ ω
      have hsz2:(cs.toList.take (b.xs.length*ksz k) ++ q0X us ++ cs.toList.drop (b.xs.length*ksz k+(q0X us).length)).toArray.size=cs.size:=by
       rw [hsi] at hfit;simp only [xB,z9,yI,List.length_drop,zG];omega
      obtain ⟨S2,_,_⟩:=S1.write (id:=d) (b:=b) (b':=⟨E,k,b.xs ++ ys,false⟩) q0O (by rw [q0f]; exact g1) c1 hkp (by rw [c2']; exact k1) hsz2 (by rw [c2']; exact hrow2) (λu hu=>by
        simp only [zO] at hu
        rcases hu with (hu | hu) | hu
        .exact k2 u (zL hu)
        .exact (huone u hu).2
        .exact k2 u (zK hu)) c2'.symm c3.symm rfl σ (vs:=xv ++ us) (by
        rw [c3,hx1,q3W];have hl:(b.xs ++ ys).length*ksz k=(q0X xv ++ q0X us).length:=by rw [z9,z9,hxl,hul,yG]
        rw [hl];exact List.take_left) ((RdL.mv (Kp.refl _ _) (λk _=>hd1 k) _ _ _ _ _ _ hc1 x2).app (RdL.mv (Kp.refl _ _) (λk _=>hd1 k) _ _ _ _ _ _ hc1 hus)) (λv hv=>by
        rw [c3]
        rcases zO.1 hv with hv | hv
        .exact x3 v hv
        .exact hfu v hv)
      rw [qdI] at S2;refine ⟨_,S2.put d ?_⟩;unfold Rd;have hat:AtO (w.setRow g (cs.toList.take (b.xs.length*ksz k) ++ q0X us ++ cs.toList.drop (b.xs.length*ksz k+(q0X us).length)).toArray) (upo ρ d (ρ id) d) (some ⟨g,0,none⟩) (0*ksz k) ((0+c)*ksz k):=⟨g,by rw [q0f]; exact g1,by rw [xI],_,E,hrow2,by rw [hsz2,zV]; exact hcsz⟩;exact ⟨_,_,c,q0O,rfl,rfl,hroom,r5,σ,.inr hat,λ_=>.inr hat⟩
     .have holds:∀ j u,(q0X xv)[j]?=some u->w.cell? ((⟨g,0,none⟩:Addr).add j)=some u:=λj u hu=>by
       rw [q1V,zV,k1.cell];rw [<- x1,zI] at hu
       split at hu
       .rw [<- zH]; exact hu
       .cases hu
      have hrun:=run_append_grow (P:=P) w T ty E i zv hu hi hz ⟨g,0,none⟩ b.xs.length c (q0X xv) (by rw [hsi]; exact hxl) holds ad ys.length c2 (q0X us) (by rw [hsi]; exact hul) hc ω ω (growslice_fits ω (by rw [hby]; exact hbb));refine ⟨_,_,hrun,?_⟩;have hg:=hgc c Oq;rw [hzc];obtain ⟨ρ',q⟩:=fresh (xv:=xv) (c:=grownCap w (b.xs.length+ys.length) c E) x2 x3 hg.1 hg.2 (w.drew.alloc (.cells ((q0X xv).toArray ++ (q0X us).toArray ++ Builtin.zeroCells z (grownCap w (b.xs.length+ys.length) c E-(b.xs.length+ys.length))) E)) (hdrew _) (Blk.new w.drew E _);refine ⟨ρ',?_⟩;have:=q.stale (id:=id) (b:=b) (by rw [q0A hne]; exact hb) hkn;rw [q70 hne] at this;exact this
  .cases hs
 .cases hs
end
abbrev mPv (p:Int × PV):PV:=.tu [.vl (.int .i64 p.1),p.2]
def mpL (l:List (Int × PV)):List PV:=l.map mPv
def q05:List (Int × PV)->Int->Option PV
 | [],_=>none
 | p :: l,z=>if p.1=z then some p.2 else q05 l z
def q0v:List (Int × PV)->Int->PV->List (Int × PV)
 | [],z,x=>[(z,x)]
 | p :: l,z,x=>if p.1=z then (z,x) :: l else p :: q0v l z x
section
variable {w w':World} {w0:Base} {D D0:Nat->Prop} {ρ:Nat->Option Nat} {h:Hp} {s:Nat->PV} {e:Env} {P:Program}
def q7P {l:List MapEntry} (hn:(l.map (·.key)).Nodup) {a b:MapEntry} (ha:a ∈ l) (hb:b ∈ l) (hk:a.key=b.key):a=b:=by
 induction l with
 | nil=>cases ha
 | cons x l ih =>
  rw [v6,List.nodup_cons] at hn
  rcases z6.1 ha with e1 | h1 <;> rcases z6.1 hb with e2 | h2
  .rw [e1,e2]
  .exact absurd (yK.2 ⟨b,h2,by rw [<- hk,e1]⟩) hn.1
  .exact absurd (yK.2 ⟨a,h1,by rw [hk,e2]⟩) hn.1
  .exact ih hn.2 h1 h2
def q1F [NL] (w:World) (D:Nat->Prop) (ρ:Nat->Option Nat) (h:Hp) (l:List (Int × PV)) (el:List MapEntry):Prop:=l.length=el.length/\∀ (i:Nat) (p:Int × PV) (e:MapEntry),l[i]?=some p->el[i]?=some e->e.key=.int .i64 p.1/\Rd w D p.2 ρ h e.val
def qfo {e:MapEntry} {a b:Value} (h:qoZ e=.tuple ⟨[a,b]⟩):e.key=a/\e.val=b:=by
 unfold qoZ at h;simp at h;exact h
def q1F.of [NL] {l:List (Int × PV)} {el:List MapEntry} (hr:RdL w D [.tu (mpL l)] ρ h [.tuple ⟨el.map qoZ⟩]):q1F w D ρ h l el:=by
 obtain ⟨v,hv,hr⟩:=hr.get (i:=0) rfl;simp at hv;subst hv;unfold Rd at hr;obtain ⟨vs,h1,h2⟩:=hr;simp at h1;subst h1;obtain ⟨h3,h4⟩:=RdL.iff.1 h2;unfold mpL at h3 h4;rw [v9,v9] at h3;refine ⟨h3,λi p e hp he=>?_⟩;have:=h4 i (mPv p) (qoZ e) (by rw [v8,hp]; rfl) (by rw [v8,he]; rfl);unfold mPv Rd at this;obtain ⟨us,h5,h6⟩:=this;unfold RdL at h6;obtain ⟨a,as',rfl,h7,h8⟩:=h6;unfold RdL at h8;obtain ⟨b,bs,rfl,h9,h10⟩:=h8;unfold RdL at h10;subst h10;obtain ⟨rfl,rfl⟩:=qfo h5;unfold Rd at h7;exact ⟨h7,h9⟩
def q1F.to [NL] {l:List (Int × PV)} {el:List MapEntry} (hr:q1F w D ρ h l el):RdL w D [.tu (mpL l)] ρ h [.tuple ⟨el.map qoZ⟩]:=by
 refine RdL.one ?_;unfold Rd;refine ⟨_,rfl,RdL.iff.2 ⟨by unfold mpL; simp [hr.1],λi x v hx hv=>?_⟩⟩;unfold mpL at hx;rw [v8] at hx hv;obtain ⟨p,hp,rfl⟩:=zA.1 hx;obtain ⟨e,he,rfl⟩:=zA.1 hv;obtain ⟨h1,h2⟩:=hr.2 i p e hp he;unfold mPv Rd;exact ⟨[e.key,e.val],rfl,by
  unfold RdL;refine ⟨_,_,rfl,by unfold Rd; exact h1,?_⟩;unfold RdL;exact ⟨_,_,rfl,h2,by unfold RdL; rfl⟩⟩
def q1F.nil [NL]:q1F w D ρ h [] []:=⟨rfl,λi p e hp=>by simp at hp⟩
def q1F.cons [NL] {p:Int × PV} {l:List (Int × PV)} {en:MapEntry} {el:List MapEntry}:q1F w D ρ h (p :: l) (en :: el) ↔ (en.key=.int .i64 p.1/\Rd w D p.2 ρ h en.val)/\q1F w D ρ h l el:=by
 constructor
 .rintro ⟨h1,h2⟩;exact ⟨h2 0 p en rfl rfl,by simpa using h1,λi q f hq hf=>h2 (i+1) q f (by simpa using hq) (by simpa using hf)⟩
 .rintro ⟨h1,h2,h3⟩;refine ⟨by simp [h2],λi q f hq hf=>?_⟩;cases i with
  | zero=>simp at hq hf; subst hq; subst hf; exact h1
  | succ i=>exact h3 i q f (by simpa using hq) (by simpa using hf)
def q3p [NL] {z:Int} {x:PV}:∀ {l:List (Int × PV)} {el:List MapEntry},q1F w D ρ h l el->q05 l z=some x->∃ en ∈ el,en.key=.int .i64 z/\Rd w D x ρ h en.val
 | [],_,_,hg=>by cases hg
 | p :: l,[],hm,_=>by have:=hm.1; simp at this
 | p :: l,en :: el,hm,hg=>by
  obtain ⟨⟨h1,h2⟩,h3⟩:=q1F.cons.1 hm;unfold q05 at hg
  split at hg
  .rename_i hp;cases hg;exact ⟨en,vZ,by rw [h1,hp],h2⟩
  .obtain ⟨en',h4,h5⟩:=q3p h3 hg;exact ⟨en',zM _ h4,h5⟩
def q3q [NL] {z:Int}:∀ {l:List (Int × PV)} {el:List MapEntry},q1F w D ρ h l el->q05 l z=none->∀ en ∈ el,en.key≠.int .i64 z
 | [],[],_,_=>λen he=>by cases he
 | [],en :: el,hm,_=>by have:=hm.1; simp at this
 | p :: l,[],hm,_=>by have:=hm.1; simp at this
 | p :: l,en :: el,hm,hg=>by
  obtain ⟨⟨h1,h2⟩,h3⟩:=q1F.cons.1 hm;unfold q05 at hg
  split at hg
  .cases hg
  .rename_i hp;intro f hf
   rcases z6.1 hf with rfl | hf
   .rw [h1]; intro e; injection e with _ e; exact hp e
   .exact q3q h3 hg f hf
def q7S [NL] {z:Int} {x:PV} {en:MapEntry} (hk:en.key=.int .i64 z) (hx:Rd w D x ρ h en.val):∀ {l:List (Int × PV)} {el:List MapEntry},q1F w D ρ h l el->q05 l z=none->q1F w D ρ h (q0v l z x) (el ++ [en])
 | [],[],_,_=>q1F.cons.2 ⟨⟨hk,hx⟩,q1F.nil⟩
 | [],f :: el,hm,_=>by have:=hm.1; simp at this
 | p :: l,[],hm,_=>by have:=hm.1; simp at this
 | p :: l,f :: el,hm,hg=>by
  obtain ⟨h1,h3⟩:=q1F.cons.1 hm;unfold q05 at hg;unfold q0v
  split at hg
  .cases hg
  .rename_i hp;rw [if_neg hp];exact q1F.cons.2 ⟨h1,q7S hk hx h3 hg⟩
def q7R [NL] {z:Int} {x y:PV} {v:Value} (hx:Rd w D x ρ h v):∀ {l:List (Int × PV)} {el:List MapEntry},q1F w D ρ h l el->q05 l z=some y->∃ l1 l2 en,el=l1 ++ en :: l2/\en.key=.int .i64 z/\q1F w D ρ h (q0v l z x) (l1 ++ { en with val:=v } :: l2)
 | [],_,_,hg=>by cases hg
 | p :: l,[],hm,_=>by have:=hm.1; simp at this
 | p :: l,f :: el,hm,hg=>by
  obtain ⟨h1,h3⟩:=q1F.cons.1 hm;unfold q05 at hg;unfold q0v
  split at hg
  .rename_i hp;rw [if_pos hp];exact ⟨[],el,f,rfl,by rw [h1.1,hp],q1F.cons.2 ⟨⟨by rw [<- hp]; exact h1.1,hx⟩,h3⟩⟩
  .rename_i hp;rw [if_neg hp];obtain ⟨l1,l2,en,h4,h5,h6⟩:=q7R hx h3 hg;exact ⟨f :: l1,l2,en,by rw [h4]; rfl,h5,q1F.cons.2 ⟨h1,h6⟩⟩
def mpT [NL] (P:Program) (t:TypeId):Option (Kd × PV) :=
 match P.underlying t with
 | some (.map kt et)=>match P.underlying kt with
  | some (.int .i64)=>match (P.info? et).bind (·.zero),q0Y P et with
   | some zv,some none=>if qid zv then some (none,.vl zv) else none
   | some (.agg cs),some (some n)=>if cs.size=n/\n≠0/\(cs.toList.all λv=>v.oneCell' && q3f v)=true then some (some n,.ag (cs.toList.map .vl)) else none
   | _,_=>none
  | _=>none
 | _=>none
def qim [NL] {t:TypeId} {k:Kd} {z:PV} (hT:mpT P t=some (k,z)):∃ kt et zv,P.underlying t=some (.map kt et)/\P.underlying kt=some (.int .i64)/\(∀ w,(zeroValue et).run P w=.ok zv w)/\q1z k zv/\∀ w D ρ h,Rd w D z ρ h zv:=by
 unfold mpT at hT
 split at hT
 case h_2=>cases hT
 rename_i kt et hu
 split at hT
 case h_2=>cases hT
 rename_i hk;have run:∀ {zv:Value},(P.info? et).bind (·.zero)=some zv->∀ w,(zeroValue et).run P w=.ok zv w:=λ{zv} h1 w=>by
  obtain ⟨i,h2,h3⟩:=zB.1 h1;simp [zeroValue,typeInfo,h2,h3]
 split at hT
 .rename_i zv h1 h2
  split at hT
  .rename_i ho;cases hT;exact ⟨kt,et,zv,hu,hk,run h1,⟨q1Q ho.1,ho⟩,λ_ _ _ _=>by unfold Rd; rfl⟩
  .cases hT
 .rename_i cs n h1 h2
  split at hT
  .rename_i hc;cases hT;exact ⟨kt,et,_,hu,hk,run h1,⟨cs,rfl,hc.1,allB hc.2.2⟩,λ_ _ _ _=>by unfold Rd; exact ⟨cs.toList,rfl,q3c _⟩⟩
  .cases hT
 .cases hT
def Sat.map [NL] (S:Sat D0 w0 s h ρ e w) {id:Nat} {T:TypeId} {l:List (Int × PV)} {y:Value} (hi:h id=some ⟨T,some 0,[.tu (mpL l)],false⟩) (hy:Rd w (dm D0 ρ h) (.mp id) ρ h y) :
  ∃ g es clock el,y=.map (some g)/\ρ id=some g/\w.heap[g]?=some (.map es clock)/\MapWf es clock/\q1F w (dm D0 ρ h) ρ h l el/\es.toList.Perm el:=by
 unfold Rd at hy;obtain ⟨b,g,h1,h2,rfl⟩:=hy;rw [hi] at h1;cases h1
 rcases (S.own id _ g hi h2).2 with ⟨_,_,es,cl,el,m3,m4,m5,m6⟩ | ⟨cs,c1,c2,c3⟩
 .exact ⟨g,es,cl,el,rfl,h2,m3,m4,q1F.of m5,m6⟩
 .obtain ⟨vs,v1,v2,v3⟩:=c3 rfl;obtain ⟨v,hv,hr⟩:=v2.get (i:=0) rfl;have hf:=v3 v (zE hv);unfold Rd at hr;obtain ⟨us,rfl,_⟩:=hr;obtain ⟨cs,hc,_⟩:=hf;cases hc
def lkR (z:PV) (o:Option PV) (ok:Bool):PV:=if ok then .tu [o.getD z,.vl (.bool o.isSome)] else o.getD z
def Sat.lookup [NL] (S:Sat D0 w0 s h ρ e w) {id:Nat} {T t:TypeId} {l:List (Int × PV)} {k:Kd} {z:PV} {m:Operand} {i:Operand} {a:Int} {ok:Bool} (hm:pe s m=.mp id) (hi:h id=some ⟨T,some 0,[.tu (mpL l)],false⟩) (ha:pe s i=.vl (.int .i64 a)) (hT:mpT P t=some (k,z)) :
  ∃ v,(Instr.lookup t (ev e m) (ev e i) ok).run P w=.ok v w/\Rd w (dm D0 ρ h) (lkR z (q05 l a) ok) ρ h v:=by
 have hy:=S.pex m;rw [hm] at hy;obtain ⟨g,es,cl,el,q1,q2,q3,q4,q5,q6⟩:=S.map hi hy;have hk:=S.pex i;rw [ha] at hk;unfold Rd at hk;obtain ⟨kt,et,zv,u1,u2,u3,u4,u5⟩:=qim hT;have hkey:MapKept.IsKey (.int .i64) (.int .i64 a):=rfl;rw [q1,hk];have fin:∀ (r:Option (Nat × Value)) (v:Value),Instr.findNow (.int .i64) (.int .i64 a) es.toList 0=some r->(∀ p,r=some p->v=p.2)->(r=none->v=zv)->(Instr.lookup t (.map (some g)) (.int .i64 a) ok).run P w=.ok (if ok then .tuple #[v,.bool r.isSome] else v) w:=λr v h1 h2 h3=>by
  cases r with
  | none =>
   rw [h3 rfl];cases ok <;> simp [Instr.lookup,run_underlying u1,MapKept.run_getObj_map q3,MapKept.run_checkKey u2 hkey,MapKept.run_findKey u2 h1,u3,Result.andThen]
  | some p =>
   rw [h2 p rfl];cases ok <;> simp [Instr.lookup,run_underlying u1,MapKept.run_getObj_map q3,MapKept.run_checkKey u2 hkey,MapKept.run_findKey u2 h1,Result.andThen]
 have rd:∀ (v:Value) (o:Option PV),Rd w (dm D0 ρ h) (o.getD z) ρ h v->Rd w (dm D0 ρ h) (lkR z o ok) ρ h (if ok then .tuple #[v,.bool o.isSome] else v):=λv o hr=>by
  unfold lkR;cases ok
  .exact hr
  .simp only [if_true];unfold Rd;exact ⟨_,rfl,by
    unfold RdL;refine ⟨_,_,rfl,hr,?_⟩;unfold RdL;exact ⟨_,_,rfl,by unfold Rd; rfl,by unfold RdL; rfl⟩⟩
 cases hg:q05 l a with
 | none =>
  have hno:=q3q q5 hg
  rcases MapKept.findNow_spec hkey es.toList 0 q4.key with ⟨h1,_⟩ | ⟨j,en,h1,h2,h3⟩
  .exact ⟨_,fin none zv h1 (λp hp=>by cases hp) λ_=>rfl,rd zv none (u5 _ _ _ _)⟩
  .exact absurd h3 (hno en (q6.mem_iff.1 (zE h2)))
 | some x =>
  obtain ⟨en,h4,h5,h6⟩:=q3p q5 hg
  rcases MapKept.findNow_spec hkey es.toList 0 q4.key with ⟨h1,h2⟩ | ⟨j,en',h1,h2,h3⟩
  .exact absurd h5 (h2 en (q6.mem_iff.2 h4))
  .have he:en'=en:=q7P q4.st.2.2 (zE h2) (q6.mem_iff.2 h4) (h3.trans h5.symm);subst he;refine ⟨_,fin _ en'.val h1 (λp hp=>by cases hp; rfl) (λhn=>by cases hn),?_⟩;exact rd en'.val (some x) h6
def Kp.setB {w:World} {g:Nat} {o:Obj}:Kp (λk=>k≠g) w { w with heap:=w.heap.setIfInBounds g o }:=⟨rfl,rfl,rfl,σ,λk _ hk=>by
 show (w.heap.setIfInBounds g o)[k]?=_
 rw [z8,if_neg λe=>hk e.symm]⟩
def Sat.mwr [NL] (S:Sat D0 w0 s h ρ e w) {id g T:Nat} {l l':List (Int × PV)} {es es':Array MapEntry} {cl cl':Nat} {el':List MapEntry} (hi:h id=some ⟨T,some 0,[.tu (mpL l)],false⟩) (hr:ρ id=some g) (hg:w.heap[g]?=some (.map es cl)) (hk:Kp (λk=>k≠g) w w') (hg':w'.heap[g]?=some (.map es' cl')) (hwf:MapWf es' cl') (hrel:q1F w (dm D0 ρ h) ρ h l' el') (hp:es'.toList.Perm el') :
  Sat D0 w0 s (q0R h id ⟨T,some 0,[.tu (mpL l')],false⟩) ρ e w':=by
 have hnb:∀ {T cs},¬ Blk w g T cs:=λhb=>by have:=hg.symm.trans hb; cases this
 have hbs:∀ g' m,BSz w g' m->BSz w' g' m:=λg' m hq=>by
  by_cases he:g'=g
  .subst he;obtain ⟨c,T,q1,_⟩:=hq;exact (hnb q1).elim
  .exact hq.kp hk he
 have hc:Cpt w w' ρ h ρ (q0R h id ⟨T,some 0,[.tu (mpL l')],false⟩):=λi c hc=>⟨rfl,by
  by_cases he:i=id
  .subst he; rw [hi] at hc; cases hc;exact ⟨_,q0O,rfl,zS _⟩
  .exact ⟨c,by rw [q0A he]; exact hc,rfl,zS _⟩,λg m _ hb=>hbs g m hb⟩
 have hdd:∀ k,dm D0 ρ h k->dm D0 ρ (q0R h id ⟨T,some 0,[.tu (mpL l')],false⟩) k:=λk hq=>⟨hq.1,λi c hc=>by
  by_cases he:i=id
  .subst he; exact hq.2 i _ hi
  .rw [q0A he] at hc; exact hq.2 i c hc⟩
 have hkd:Kp (dm D0 ρ h) w w':=hk.mono λk _ hq e=>hq.2 id _ hi (by rw [hr,e]);have hge:=(S.own id _ g hi hr).1;refine ⟨λi j c c' g' ci cj hs ri rj=>?_,λi c g' ci ri=>?_,λi c ci ri=>?_,λt=>Rd.mv hkd (λk _=>hdd k) _ _ _ _ _ _ hc (S.rd t),S.ext.trans (hk.mono λk _ hF e=>hge.1 (e ▸ hF)),S.fr,λg' T m hi=>?_,S.pin⟩
 .by_cases ei:i=id <;> by_cases ej:j=id
  .exact .inl (ei.trans ej.symm)
  .subst ei;rw [q0A ej] at cj
   rcases S.inj j i c' _ g' cj hi rfl rj ri with h | h
   .exact .inl h.symm
   .rw [hs] at h; cases h
  .subst ej;rw [q0A ei] at ci;exact S.inj i j c _ g' ci hi rfl ri rj
  .rw [q0A ei] at ci; rw [q0A ej] at cj;exact S.inj i j c c' g' ci cj hs ri rj
 .by_cases ei:i=id
  .subst ei;rw [q0O] at ci; cases ci;rw [hr] at ri; cases ri;exact ⟨hge,.inl ⟨rfl,rfl,es',cl',el',hg',hwf,RdL.mv hkd (λk _=>hdd k) _ _ _ _ _ _ hc hrel.to,hp⟩⟩
  .rw [q0A ei] at ci;obtain ⟨a1,a2⟩:=S.own i c g' ci ri
   by_cases eg:g'=g
   .subst eg
    rcases S.inj i id c _ g' ci hi rfl ri hr with h | h
    .exact absurd h ei
    .rcases a2 with hm | ⟨cs,c1,_⟩
     .rw [hm.2.1] at h; cases h
     .exact (hnb c1).elim
   .exact ⟨a1,a2.mv (hk.block g' a2.lt eg) hkd (λk _=>hdd k) hc⟩
 .by_cases ei:i=id
  .subst ei; rw [hr] at ri; cases ri
  .rw [q0A ei] at ci; exact S.vir i c ci ri
 .obtain ⟨c,q1,q2,q3⟩:=S.imp g' T m hi
  by_cases he:g'=g
  .subst he; exact (hnb q1).elim
  .exact ⟨c,q1.kp hk he,q2,q3⟩
def qfd {α:Type} {l a b c d:List α} {x y:α} (h:l.Perm (a ++ x :: b)) (hl:l=c ++ x :: d):(c ++ y :: d).Perm (a ++ y :: b):=by
 subst hl;have h1:=(yX.symm.trans h).trans yX;exact (yX.trans ((List.Perm.cons_inv h1).cons y)).trans yX.symm
def Sat.mset [NL] (S:Sat D0 w0 s h ρ e w) {id T t:Nat} {l:List (Int × PV)} {k:Kd} {z:PV} {m i v:Operand} {a:Int} (hm:pe s m=.mp id) (hi:h id=some ⟨T,some 0,[.tu (mpL l)],false⟩) (ha:pe s i=.vl (.int .i64 a)) (hT:mpT P t=some (k,z)) (hf:q4D k (pe s v)) :
  ∃ w',(Instr.mapUpdate t (ev e m) (ev e i) (ev e v)).run P w=.ok () w'/\Sat D0 w0 s (q0R h id ⟨T,some 0,[.tu (mpL (q0v l a (pe s v)))],false⟩) ρ e w':=by
 have hy:=S.pex m;rw [hm] at hy;obtain ⟨g,es,cl,el,q1,q2,q3,q4,q5,q6⟩:=S.map hi hy;have hk:=S.pex i;rw [ha] at hk;unfold Rd at hk;have hv:=S.pex v;have hfv:=q6Y hf hv;obtain ⟨kt,et,zv,u1,u2,u3,u4,u5⟩:=qim hT;have hkey:MapKept.IsKey (.int .i64) (.int .i64 a):=rfl;rw [q1,hk]
 rcases MapKept.findNow_spec hkey es.toList 0 q4.key with ⟨h1,h2⟩ | ⟨j,en,h1,h2,h3⟩
 .have hno:q05 l a=none:=by
   cases hg:q05 l a with
   | none=>rfl
   | some x =>
    obtain ⟨en,h4,h5,_⟩:=q3p q5 hg;exact absurd h5 (h2 en (q6.mem_iff.2 h4))
  have hrun:(Instr.mapUpdate t (.map (some g)) (.int .i64 a) (ev e v)).run P w=.ok () { w with heap:=w.heap.setIfInBounds g (.map (es.push ⟨.int .i64 a,ev e v,cl⟩) (cl+1)) }:=by
   simp [Instr.mapUpdate,run_underlying u1,MapKept.run_getObj_map q3,MapKept.run_checkKey u2 hkey,MapKept.run_findKey u2 h1,MapKept.run_setObj_map _ q3,Result.andThen]
  refine ⟨_,hrun,S.mwr hi q2 q3 Kp.setB (MapKept.heap_set q3).1 ⟨MapKept.stamped_push q4.st h2,λx hx=>?_,λx hx=>?_⟩ (q7S (en:=⟨.int .i64 a,ev e v,cl⟩) rfl hv q5 hno) ?_⟩
  .simp only [xC,zO,xS] at hx
   rcases hx with hx | rfl
   .exact q4.key x hx
   .rfl
  .simp only [xC,zO,xS] at hx
   rcases hx with hx | rfl
   .exact q4.nl x hx
   .exact λu hu=>(hfv.one u hu).2
  .rw [xC];exact q6.append_right _
 .have hj:es[j]?=some en:=by simpa using h2
  obtain ⟨y,hg⟩:∃ y,q05 l a=some y:=by
   cases hg:q05 l a with
   | none=>exact absurd h3 (q3q q5 hg en (q6.mem_iff.1 (zE h2)))
   | some y=>exact ⟨y,rfl⟩
  obtain ⟨l1,l2,en',e1,e2,e3⟩:=q7R hv q5 hg;have he:en'=en:=q7P q4.st.2.2 (q6.mem_iff.2 (by rw [e1]; simp)) (zE h2) (e2.trans h3.symm);subst he;have hrun:(Instr.mapUpdate t (.map (some g)) (.int .i64 a) (ev e v)).run P w=.ok () { w with heap:=w.heap.setIfInBounds g (.map (es.modify j λe'=>{ e' with key:=.int .i64 a,val:=ev e v }) cl) }:=by
   simp [Instr.mapUpdate,run_underlying u1,MapKept.run_getObj_map q3,MapKept.run_checkKey u2 hkey,MapKept.run_findKey u2 h1,hj,h3,MapKept.run_keyThatStays hkey,MapKept.run_setObj_map _ q3,Result.andThen]
  have hkey':∀ e',es[j]?=some e'->({ e' with key:=.int .i64 a,val:=ev e v }:MapEntry).key=e'.key:=λe' he'=>by rw [hj] at he'; cases he'; exact h3.symm
  have hlt:j < es.toList.length:=(zC.1 h2).1;have hml:(es.modify j λe'=>{ e' with key:=.int .i64 a,val:=ev e v }).toList=es.toList.take j ++ { en' with val:=ev e v } :: es.toList.drop (j+1):=by
   have e5:(es.modify j λe'=>{ e' with key:=.int .i64 a,val:=ev e v }).toList=es.toList.set j { en' with val:=ev e v }:=by
    apply yB
    intro n;rw [zH,Array.getElem?_modify,List.getElem?_set]
    by_cases hn:j=n
    .subst hn;rw [if_pos rfl,if_pos rfl,if_pos hlt,hj];simp [h3]
    .rw [if_neg hn,if_neg hn,zH]
   rw [e5,yQ,if_pos hlt]
  have hsp:es.toList=es.toList.take j ++ en' :: es.toList.drop (j+1):=by
   have e6:es.toList[j]=en':=by have:=zD hlt; rw [h2] at this; exact (y9.inj this).symm
   rw [<- e6,List.getElem_cons_drop,List.take_append_drop]
  refine ⟨_,hrun,S.mwr hi q2 q3 Kp.setB (MapKept.heap_set q3).1 ⟨MapKept.stamped_modify q4.st _ _ (λ_ _=>rfl) (λe' _ he'=>hkey' e' he'),MapKept.isKey_modify q4.key _ _ hkey',λx hx=>?_⟩ e3 ?_⟩
  .rw [hml] at hx
   rcases zO.1 hx with hx | hx
   .exact q4.nl x (zL hx)
   .rcases z6.1 hx with rfl | hx
    .exact λu hu=>(hfv.one u hu).2
    .exact q4.nl x (zK hx)
  .rw [hml];rw [e1] at q6;exact qfd q6 hsp
def Sat.newM [NL] (S:Sat D0 w0 s h ρ e w) {d:Nat} (hd:h d=none) (hd5:d < 5000):∃ ρ',Sat D0 w0 (pu s d (.mp d)) (q0R h d ⟨0,some 0,[.tu (mpL [])],false⟩) ρ' (upd e d (.map (some w.heap.size))) (w.alloc (.map #[] 0)):=by
 have hx:Ext w (w.alloc (.map #[] 0)):=Kp.alloc w _;have hg:=MapKept.heap_alloc w (.map #[] 0);have hne:∀ i c,h i=some c->i≠d:=λi c hi e=>by subst e; rw [hd] at hi; cases hi
 have hc:Cpt w (w.alloc (.map #[] 0)) ρ h (upo ρ d (some w.heap.size)) (q0R h d ⟨0,some 0,[.tu (mpL [])],false⟩):=λi c hi=>⟨q01 (hne i c hi),⟨c,by rw [q0A (hne i c hi)]; exact hi,rfl,zS _⟩,λ_ _ _ hb=>hb.ext hx⟩;have hdd:∀ k,k < w.heap.size->dm D0 ρ h k->dm D0 (upo ρ d (some w.heap.size)) (q0R h d ⟨0,some 0,[.tu (mpL [])],false⟩) k:=λk hk hq=>⟨hq.1,λi c hi=>by
  by_cases hi':i=d
  .subst hi'; rw [q0f]; intro e; cases e; omega
  .rw [q0A hi'] at hi; rw [q01 hi']; exact hq.2 i c hi⟩
 have hk:Kp (dm D0 ρ h) w (w.alloc (.map #[] 0)):=Kp.of_ext hx;have hold:∀ i c,h i=some c->ρ i=some w.heap.size->False:=λi c hi ri=>by
  have:=(S.own i c _ hi ri).2.lt; omega
 refine ⟨upo ρ d (some w.heap.size),Sat.put (x:=.mp d) ⟨λi j c c' g' hi hj hs ri rj=>?_,λi c g' hi ri=>?_,λi c hi ri=>?_,λt=>Rd.mv hk hdd _ _ _ _ _ _ hc (S.rd t),S.ext.trans (Kp.of_ext hx),S.fr,S.impx hx,S.pino hd5⟩ d (by unfold Rd; exact ⟨_,_,q0O,q0f,rfl⟩)⟩
 .by_cases hi':i=d <;> by_cases hj':j=d
  .exact .inl (hi'.trans hj'.symm)
  .subst hi';rw [q0f] at ri; cases ri;rw [q0A hj'] at hj; rw [q01 hj'] at rj;exact (hold j _ hj rj).elim
  .subst hj';rw [q0f] at rj; cases rj;rw [q0A hi'] at hi; rw [q01 hi'] at ri;exact (hold i _ hi ri).elim
  .rw [q0A hi'] at hi; rw [q01 hi'] at ri;rw [q0A hj'] at hj; rw [q01 hj'] at rj;exact S.inj i j c c' g' hi hj hs ri rj
 .by_cases hi':i=d
  .subst hi';rw [q0f] at ri; cases ri;rw [q0O] at hi; cases hi;exact ⟨⟨λhF=>by have:=w0.lt _ hF; have:=S.ext.size; omega,S.fr _ S.ext.size⟩,.inl ⟨rfl,rfl,#[],0,[],hg.1,⟨MapKept.stamped_empty 0,λx hx=>(by simp at hx),λx hx=>(by simp at hx)⟩,q1F.nil.to,List.Perm.refl _⟩⟩
  .rw [q0A hi'] at hi; rw [q01 hi'] at ri;obtain ⟨a1,a2⟩:=S.own i c g' hi ri;exact ⟨a1,a2.mv (hx.block g' a2.lt trivial) hk hdd hc⟩
 .by_cases hi':i=d
  .subst hi'; rw [q0f] at ri; cases ri
  .rw [q0A hi'] at hi; rw [q01 hi'] at ri; exact S.vir i c hi ri
end
abbrev FP:=List Nat × List Nat
def FnP [NL] (x:PV) (f:FuncId) (ys:List PV):Prop:=∀ w D ρ h v,Rd w D x ρ h v->∃ cap,v=.func (.func f) #[] ⟨cap⟩/\RdL w D ys ρ h cap
def Stp [NL] (P:Program) (Tb:World->Prop) (o:Oper) (s:Nat->PV) (h:Hp) (x:PV) (h':Hp) (fp:FP):Prop :=
 match o.op with
 | .load t a=>∃ r,ldP h (q0Y P t) (pe s a)=some r/\x=r.1/\fp=(r.2,[])/\h'=h
 | .alloc t=>∃ d b,o.dst=some d/\(h d=none/\d < 5000)/\alB P t=some b/\x=.pt d 0 0/\h'=q0R h d b/\fp=([],[d])
 | .box t v=>∃ d k,o.dst=some d/\(h d=none/\d < 5000)/\q0Y P t=some k/\q4D k (pe s v)/\x=.pt d 0 0/\h'=q0R h d ⟨t,k,[pe s v],false⟩/\fp=([],[d])
 | .buildSlice t len ps=>∃ d E k bytes,o.dst=some d/\(h d=none/\d < 5000)/\elK P t=some (E,k,bytes)/\ps.toList.map (·.1)=List.range len/\len*ksz k<=16777216/\(∀ p ∈ ps.toList,q4D k (pe s p.2))/\x=.ow d k 0 len/\h'=q0R h d ⟨E,k,ps.toList.map λp=>pe s p.2,false⟩/\fp=([],[d])
 | .makeSlice t l c=>∃ d E k bytes z kl kc,∃ n m:Nat,o.dst=some d/\(h d=none/\d < 5000)/\elZ P t=some (E,k,bytes,z)/\pe s l=.vl (.int kl n)/\pe s c=.vl (.int kc m)/\n<=m/\bytes*m<=281474976710656/\m<=maxLen/\x=.ow d k 0 n/\h'=q0R h d ⟨E,k,List.replicate n z,false⟩/\fp=([],[d])
 | .store t a v=>∃ id i j b k u u',pe s a=.pt id i j/\h id=some b/\b.st=false/\q0Y P t=some k/\q0U P t=some (ksz k)/\q4D k (pe s v)/\b.xs[i]?=some u/\stU b.k k j u (pe s v)=some u'/\x=.vl undef/\h'=q0R h id { b with xs:=b.xs.set i u' }/\fp=([id],[id])
 | .call c=>match c.callee with
  | .builtin .append=>∃ sx xx T d E k bytes xs ys i0 ids,c.args=#[sx,xx]/\c.argTypes=#[T,T]/\o.dst=some d/\(h d=none/\d < 5000)/\elK P T=some (E,k,bytes)/\apW h E k (pe s sx) ys xs i0/\apX h k (pe s xx)=some (ys,ids)/\(xs.length+ys.length)*(bytes+1)<=140737488355328/\x=.ow d k 0 (xs.length+ys.length)/\h'=q0R (stl h i0) d ⟨E,k,xs ++ ys,false⟩/\fp=(ids,d :: i0.toList)
  | .value (.func f)=>∃ al ids,q2P h (c.args.toList.map (pe s))=some (al,ids)/\AC P Tb f al x/\(ids=[]\/Nz x)/\h'=h/\fp=(ids,[])
  | .value (.tmp t)=>∃ f ys al ids,FnP (s t) f ys/\q2P h (c.args.toList.map (pe s) ++ ys)=some (al,ids)/\AC P Tb f al x/\(ids=[]\/Nz x)/\h'=h/\fp=(ids,[])
  | _=>q4J P o.op (pe s)=some x/\h'=h/\fp=([],[])
 | .makeMap _ r=>∃ d,r=none/\o.dst=some d/\(h d=none/\d < 5000)/\x=.mp d/\h'=q0R h d ⟨0,some 0,[.tu (mpL [])],false⟩/\fp=([],[d])
 | .lookup t m i ok=>∃ id T l a k z,pe s m=.mp id/\h id=some ⟨T,some 0,[.tu (mpL l)],false⟩/\pe s i=.vl (.int .i64 a)/\mpT P t=some (k,z)/\x=lkR z (q05 l a) ok/\h'=h/\fp=([id],[])
 | .mapUpdate t m i v=>∃ id T l a k z,pe s m=.mp id/\h id=some ⟨T,some 0,[.tu (mpL l)],false⟩/\pe s i=.vl (.int .i64 a)/\mpT P t=some (k,z)/\q4D k (pe s v)/\x=.vl undef/\h'=q0R h id ⟨T,some 0,[.tu (mpL (q0v l a (pe s v)))],false⟩/\fp=([id],[id])
 | op=>q4J P op (pe s)=some x/\h'=h/\fp=([],[])
def q2Z (ops:List Oper) (s:Nat->PV) (j:Nat) (b:Bool):Option Bool:=match (ops[j]?).bind (·.dst) with | some d=>(match s d with | .vl (.bool c)=>some c | .vl (.tuple _)=>some (!b) | _=>none) | none=>none
def q6m [NL] (P:Program) (Tb:World->Prop) (ops:List Oper) (o:Oper) (s:Nat->PV) (h:Hp) (x:PV) (h':Hp) (fp:FP):Prop :=
 match o.guard with
 | none=>Stp P Tb o s h x h' fp
 | some (j,b)=>∃ c,q2Z ops s j b=some c/\if c=b then Stp P Tb o s h x h' fp else x=.vl undef/\h'=h/\fp=([],[])
section
variable {w w':World} {w0:Base} {D D0:Nat->Prop} {ρ:Nat->Option Nat} {h h':Hp} {s:Nat->PV} {e:Env} {P:Program} {Tb:World->Prop} {x:PV} {fp:FP}
def qfC {dst:Option Nat} {f t:Nat} {cap:List Value} {args:Array Operand} {tys:Array TypeId} {ty:TypeId} {pos:String} {af:Array Edge} {gd:Option (Nat × Bool)} {K:Value->World->Prop} (hv:e t=.func (.func f) #[] ⟨cap⟩)
  (h:q0H P f=true/\Calls P f (args.toList.map (ev e) ++ cap).toArray w λx w'=>match x with | .returned v=>K v w' | _=>False):wo P ⟨dst,.call ⟨.value (.tmp t),args,tys⟩,ty,pos,af,gd⟩ e w K:=by
 obtain ⟨hf,h⟩:=h;have ha:(args.toList.map (ev e) ++ cap).toArray=args.map (ev e) ++ (⟨cap⟩:Array Value):=by
  cases args;simp
 rw [ha] at h;have key:(callFunc f (args.map (ev e) ++ (⟨cap⟩:Array Value))).run P w=.ok (.enter f (args.map (ev e) ++ (⟨cap⟩:Array Value))) w:=by
  unfold q0H at hf;cases hfn:P.funcs[f]? with
  | none=>simp [hfn] at hf
  | some fn =>
   simp only [hfn,zX] at hf;obtain ⟨h1,h2⟩:=hf;obtain ⟨b,hb⟩:=Option.isSome_iff_exists.1 h1;simp only [Bool.not_eq_true',beq_eq_false_iff_ne,ne_eq] at h2;simp [callFunc,hfn,hb,h2]
 have key2:(execOp (ev e) ⟨dst,.call ⟨.value (.tmp t),args,tys⟩,ty,pos,af,gd⟩).run P w=.ok (.enter f (args.map (ev e) ++ (⟨cap⟩:Array Value))) w:=by
  have hv':ev e (.tmp t)=.func (.func f) #[] ⟨cap⟩:=hv;simp only [execOp,resolve,Deferred.ofValue,hv',pure_bind,invoke];simp [key]
 show RO P K _
 rw [key2];exact h
def qiP [NL] (S:Sat D0 w0 s h ρ e w) (hT:Tb w) (hF:Fr D0 w0.w) {o:Oper} (hs:Stp P Tb o s h x h' fp):wo P o e w λv w'=>∃ ρ',Sat D0 w0 (q2b s o.dst x) h' ρ' (E.put e o.dst v) w':=by
 obtain ⟨dst,op,ty,pos,af,gd⟩:=o;have pure:q4J P op (pe s)=some x/\h'=h/\fp=([],[])->wo P ⟨dst,op,ty,pos,af,gd⟩ e w λv w'=>∃ ρ',Sat D0 w0 (q2b s dst x) h' ρ' (E.put e dst v) w':=λ⟨h1,h2,_⟩=>by
  subst h2;exact qkx S (o:=⟨dst,op,ty,pos,af,gd⟩) h1 λv hv=>⟨ρ,S.puto dst hv⟩
 unfold Stp at hs;cases op <;> simp only at hs <;> try (exact pure hs)
 case load t a =>
  obtain ⟨r,h1,rfl,_,rfl⟩:=hs;obtain ⟨v,hv,hr⟩:=qcl S h1;simp only [wo];rw [hv];exact ⟨ρ,S.puto dst hr⟩
 case alloc t =>
  obtain ⟨d,b,rfl,h1,h2,rfl,rfl,_⟩:=hs;obtain ⟨z,hz,ρ',S'⟩:=qhf S h1.1 h1.2 h2;simp only [wo];rw [hz];exact ⟨ρ',S'⟩
 case box t v =>
  obtain ⟨d,k,rfl,h1,_,h2,rfl,rfl,_⟩:=hs;simp only [wo];exact S.newP (b:=⟨t,k,[pe s v],false⟩) h1.1 h1.2 rfl (S.pex v) (q6Y h2 (S.pex v))
 case buildSlice t len ps =>
  obtain ⟨d,E,k,bytes,rfl,h1,h2,h3,h4,h5,rfl,rfl,_⟩:=hs;obtain ⟨cs,hcs,ρ',S'⟩:=bs_ok S h1.1 h1.2 h2 h3 h4 h5;simp only [wo,xE];rw [hcs];exact ⟨ρ',S'⟩
 case makeSlice t l c =>
  obtain ⟨d,E,k,bytes,z,kl,kc,n,m,rfl,h1,h2,h3,h4,h7,h5,h6,rfl,rfl,_⟩:=hs;obtain ⟨z',hz,ρ',S'⟩:=mk_ok S h1.1 h1.2 h2 h7 h6;have hl:=S.pex l;have hc:=S.pex c;rw [h3] at hl;rw [h4] at hc;unfold Rd at hl hc;simp only [wo,hl,hc,hz,q20];refine ⟨⟨ω,ω,?_,by simp only [maxLen] at h6; omega⟩,ρ',by simp only [xD]; exact S'⟩;have:((bytes*m:Nat):Int)<=281474976710656:=ω
  rwa [Int.natCast_mul] at this
 case store t a v =>
  obtain ⟨id,i,j,b,k,u,u',h1,h2,h3,h4,h5,h6,h7,h8,rfl,rfl,_⟩:=hs;obtain ⟨p,hp,q1,q2,q3⟩:=S.store (K:=λw'=>∃ ρ',Sat D0 w0 (q2b s dst (.vl undef)) (q0R h id { b with xs:=b.xs.set i u' }) ρ' (E.put e dst undef) w') h1 h2 h3 h4 h5 h6 h7 h8 λw' S'=>⟨ρ,S'.puto dst (by unfold Rd; rfl)⟩;simp only [wo,hp];exact ⟨q1,q2,q3⟩
 case makeMap t r =>
  obtain ⟨d,rfl,rfl,h1,rfl,rfl,_⟩:=hs;have S':=S.newM h1.1 h1.2;have key:(Instr.makeMap t none).run P w=.ok (.map (some w.heap.size)) (w.alloc (.map #[] 0)):=rfl;simp only [wo];unfold WO;simp only [execOp,Option.map_none,Sem.run_bind,key];exact S'
 case lookup t m i ok =>
  obtain ⟨id,T,l,a,k,z,h1,h2,h3,h4,rfl,rfl,_⟩:=hs;obtain ⟨v,key,hr⟩:=S.lookup (ok:=ok) h1 h2 h3 h4;simp only [wo];unfold WO;simp only [execOp,Sem.run_bind,key];exact ⟨ρ,S.puto dst hr⟩
 case mapUpdate t m i v =>
  obtain ⟨id,T,l,a,k,z,h1,h2,h3,h4,h5,rfl,rfl,_⟩:=hs;obtain ⟨w',key,S'⟩:=S.mset h1 h2 h3 h4 h5;simp only [wo];unfold WO;simp only [execOp,Sem.run_bind,key];exact ⟨ρ,S'.puto dst (by unfold Rd; rfl)⟩
 case call c =>
  obtain ⟨callee,args,tys⟩:=c;simp only at hs
  split at hs
  .obtain ⟨sx,xx,T,d,E,k,bytes,xs,ys,i0,ids,rfl,rfl,rfl,h1,h2,h3,h4,h5,rfl,rfl,_⟩:=hs;obtain ⟨v,w',hrun,ρ',S'⟩:=S.append (ty:=ty) h1.1 h1.2 h2 h3 h4 h5;rw [q43];exact qn1 hrun ⟨ρ',S'⟩
  .rename_i f;obtain ⟨al,ids,h1,h2,h3,rfl,_⟩:=hs;have:=S.call (K:=λv w'=>∃ ρ',Sat D0 w0 (q2b s dst x) h' ρ' (E.put e dst v) w') hT hF h1 h2 h3 λv w' S' hr=>⟨ρ,S'.puto dst hr⟩;have he:args.map (ev e)=(args.toList.map (ev e)).toArray:=by cases args; simp
   rw [<- he] at this;exact this
  .rename_i t;obtain ⟨f,ys,al,ids,g0,h1,h2,h3,rfl,_⟩:=hs;obtain ⟨cap,hv,hr⟩:=g0 _ _ _ _ _ (S.rd t);exact qfC hv (S.callv (K:=λv w'=>∃ ρ',Sat D0 w0 (q2b s dst x) h' ρ' (E.put e dst v) w') hT hF (RdL.app (q3w (f:=pe s) (g:=ev e) S.pex args.toList) hr) h1 h2 h3 λv w' S' hr=>⟨ρ,S'.puto dst hr⟩)
  .exact pure hs
def qcQ [NL] (S:Sat D0 w0 s h ρ e w) {ops:List Oper} {j:Nat} {b c:Bool} (hy:q2Z ops s j b=some c):(q3F ops.toArray e j == some b)=(c == b):=by
 unfold q2Z at hy;unfold q3F;rw [yA]
 split at hy
 .rename_i d hd;rw [hd];have:=S.rd d
  split at hy
  .rename_i b hb;rw [hb] at this;unfold Rd at this;simp only [this];cases hy
   rfl
  .rename_i tv hb;rw [hb] at this;unfold Rd at this;simp only [this];cases hy
   revert b
   intro b;cases b <;> rfl
  .cases hy
 .cases hy
def q8g [NL] (S:Sat D0 w0 s h ρ e w) (hT:Tb w) (hF:Fr D0 w0.w) {ops:List Oper} {o:Oper} (hs:q6m P Tb ops o s h x h' fp):wg P ops.toArray o e w λv w'=>∃ ρ',Sat D0 w0 (q2b s o.dst x) h' ρ' (E.put e o.dst v) w':=by
 unfold q6m at hs;unfold wg q5N
 split at hs
 .rename_i hg;rw [hg];exact qiP S hT hF hs
 .rename_i j b hg;obtain ⟨c,hc,hs⟩:=hs;rw [hg];simp only [qcQ S hc]
  split at hs
  .rename_i hcb;rw [if_pos (by simpa using hcb)];exact qiP S hT hF hs
  .rename_i hcb;rw [if_neg (by simpa using hcb)];obtain ⟨rfl,rfl,_⟩:=hs;exact ⟨ρ,S.puto o.dst (by unfold Rd; rfl)⟩
def qcS [NL] {o:Op} {f g:Operand->PV} (h:∀ x ∈ o.operands,f x=g x):q4J P o f=q4J P o g:=by
 cases o <;> simp only [q4J] <;> (try rfl) <;> simp only [Op.operands] at h
 case move x=>rw [h x σ]
 case assign x=>rw [h x σ]
 case pick c a b=>rw [h c σ,h a σ,h b σ]
 case binOp op t x y _=>rw [h x σ,h y σ]
 case unOp op t x=>rw [h x σ]
 case convert a b x=>rw [h x σ]
 case fieldAddr t x f=>rw [h x σ]
 case extract x i=>rw [h x σ]
 case field t x f=>rw [h x σ]
 case nilCheck x=>rw [h x σ]
 case indexAddr t x i=>rw [h x σ,h i σ]
 case slice t x lo hi mx =>
  cases mx with
  | some _=>rfl
  | none =>
   simp only;have h1:lo.map f=lo.map g:=by cases lo with | none=>rfl | some l=>simp only [yM]; rw [h l σ]
   have h2:hi.map f=hi.map g:=by cases hi with | none=>rfl | some l=>simp only [yM]; rw [h l σ]
   rw [h1,h2,h x σ]
 case build t ps =>
  have:(ps.toList.map λp=>(p.1,f p.2))=ps.toList.map λp=>(p.1,g p.2):=v5 λp hp=>by rw [h p.2 (by simp; exact ⟨p.1,by simpa using hp⟩)]
  rw [this]
 case makeFunc fn first cap =>
  rw [v5 λy hy=>h y (by simp; right; simpa using hy)]
 case call c =>
  obtain ⟨callee,args,tys⟩:=c;have ha:∀ y ∈ args.toList,f y=g y:=λy hy=>h y (by simp [Call.operands]; right; simpa using hy);simp only
  split
  .split
   .rename_i x t hx ht;rw [ha x (by rw [hx]; simp)]
   .rfl
  .rw [v5 ha]
  .rw [v5 ha]
  .rfl
def agr (h h2:Hp) (l:List Nat):Prop:=∀ i ∈ l,h2 i=h i
def ql1 {h2:Hp} {k:Option Kd} {p:PV} {r:PV × List Nat} (hl:ldP h k p=some r) (ha:agr h h2 r.2):ldP h2 k p=some r:=by
 unfold ldP at hl ⊢
 split at hl
 .rename_i id i j;have:r.2=[id]:=by
   split at hl
   .split at hl
    .cases hl
    .obtain ⟨y,_,rfl⟩:=zA.1 hl; rfl
   .cases hl
  simp only [ha id (by rw [this]; simp)];exact hl
 .exact hl
 .cases hl
def qhV {h2:Hp} {y:PV} {r:PV × List Nat} (hl:qaz h y=some r) (ha:agr h h2 r.2):qaz h2 y=some r:=by
 unfold qaz at hl ⊢
 split at hl
 .rename_i id k off n;have:r.2=[id]:=by
   obtain ⟨b,hb,hc⟩:=zB.1 hl
   split at hc
   .cases hc; rfl
   .cases hc
  simp only [ha id (by rw [this]; simp)];exact hl
 .exact hl
def q7h {h2:Hp}:∀ {l:List PV} {r:List PV × List Nat},q1L h l=some r->agr h h2 r.2->q1L h2 l=some r
 | [],r,hl,_=>hl
 | y :: l,r,hl,ha=>by
  unfold q1L at hl ⊢;obtain ⟨a,h1,hc⟩:=zB.1 hl;obtain ⟨b,hb,rfl⟩:=zA.1 hc;rw [qhV h1 λi hi=>ha i (zW _ hi),zF,q7h hb λi hi=>ha i (zR _ hi)]
  rfl
def qaF {h2:Hp} {y:PV} {r:PV × List Nat} (hl:q32 h y=some r) (ha:agr h h2 r.2):q32 h2 y=some r:=by
 unfold q32 at hl ⊢
 split at hl
 .rename_i id k off n;have hm:id ∈ r.2:=by
   obtain ⟨b,hb,hc⟩:=zB.1 hl
   split at hc
   .cases hc; simp
   .split at hc
    .obtain ⟨r0,_,rfl⟩:=zA.1 hc; simp
    .cases hc
  simp only [ha id hm];obtain ⟨b,hb,hc⟩:=zB.1 hl;rw [hb,zF]
  split at hc
  .rename_i hh; rw [if_pos hh]; exact hc
  .rename_i hh;rw [if_neg hh]
   split at hc
   .rename_i hh2;obtain ⟨r0,hr0,rfl⟩:=zA.1 hc;rw [if_pos hh2,q7h hr0 λi hi=>ha i (zM _ hi)]; rfl
   .cases hc
 .exact hl
def q7g {h2:Hp}:∀ {l:List PV} {r:List PV × List Nat},q3B h l=some r->agr h h2 r.2->q3B h2 l=some r
 | [],r,hl,_=>hl
 | y :: l,r,hl,ha=>by
  unfold q3B at hl ⊢;obtain ⟨a,h1,hc⟩:=zB.1 hl;obtain ⟨b,hb,rfl⟩:=zA.1 hc;rw [qaF h1 λi hi=>ha i (zW _ hi),zF,q7g hb λi hi=>ha i (zR _ hi)]
  rfl
def qmh {h2:Hp} {y:PV} {r:PV × List Nat} (hl:clo h y=some r) (ha:agr h h2 r.2):clo h2 y=some r:=by
 unfold clo at hl ⊢
 split at hl
 .obtain ⟨b,hb,rfl⟩:=zA.1 hl;simp only [q7g hb ha,yM]
 .exact qaF hl ha
def q65 {h2:Hp}:∀ {l:List PV} {r:List PV × List Nat},q2P h l=some r->agr h h2 r.2->q2P h2 l=some r
 | [],r,hl,_=>hl
 | y :: l,r,hl,ha=>by
  unfold q2P at hl ⊢;obtain ⟨a,h1,hc⟩:=zB.1 hl;obtain ⟨b,hb,rfl⟩:=zA.1 hc;rw [qmh h1 λi hi=>ha i (zW _ hi),zF,q65 hb λi hi=>ha i (zR _ hi)]
  rfl
def qn5 {h2:Hp} {E:TypeId} {k:Kd} {p:PV} {xs:List PV} {i0:Option Nat} (hl:apS h E k p=some (xs,i0)) (ha:agr h h2 i0.toList):apS h2 E k p=some (xs,i0):=by
 unfold apS at hl ⊢
 split at hl
 .exact hl
 .rename_i id k' off n;have:i0=some id:=by
   obtain ⟨b,hb,hc⟩:=zB.1 hl
   split at hc
   .cases hc; rfl
   .cases hc
  simp only [ha id (by rw [this]; simp)];exact hl
 .cases hl
def qn4 [NL] {h2:Hp} {E:TypeId} {k:Kd} {p:PV} {xs ys:List PV} {i0:Option Nat} (hl:apW h E k p ys xs i0) (ha:agr h h2 i0.toList):apW h2 E k p ys xs i0:=hl.imp (λhl=>qn5 hl ha) λhl=>hl
def qn3 {h2:Hp} {k:Kd} {p:PV} {r:List PV × List Nat} (hl:apX h k p=some r) (ha:agr h h2 r.2):apX h2 k p=some r:=by
 unfold apX at hl ⊢
 split at hl
 .exact hl
 .exact hl
 .rename_i id k' off n;have:r.2=[id]:=by
   obtain ⟨b,hb,hc⟩:=zB.1 hl
   split at hc
   .cases hc; rfl
   .cases hc
  simp only [ha id (by rw [this]; simp)];exact hl
 .cases hl
def Loc (h2 h' h3:Hp) (fp:FP):Prop:=(∀ i ∈ fp.2,h3 i=h' i)/\∀ i,i ∉ fp.2->h3 i=h2 i
def Loc.upd {h2:Hp} {d:Nat} {b:Bk} {l:List Nat}:Loc h2 (q0R h d b) (q0R h2 d b) (l,[d]):=⟨λi hi=>by
  have hi:i ∈ [d]:=hi;simp at hi; subst hi; rw [q0O,q0O],λi hi=>by
  have hi:i ∉ [d]:=hi;simp at hi; rw [q0A hi]⟩
def qbq [NL] {o:Oper} {s2:Nat->PV} {h2:Hp} (hs:Stp P Tb o s h x h' fp) (he:∀ y ∈ o.op.operands,pe s2 y=pe s y) (ha:agr h h2 (fp.1 ++ fp.2)):∃ h3,Stp P Tb o s2 h2 x h3 fp/\Loc h2 h' h3 fp:=by
 obtain ⟨dst,op,ty,pos,af,gd⟩:=o;have ha1:agr h h2 fp.1:=λi hi=>ha i (zW _ hi);have ha2:agr h h2 fp.2:=λi hi=>ha i (zR _ hi);simp only at he;have pure:q4J P op (pe s)=some x/\h'=h/\fp=([],[])->q4J P op (pe s2)=some x/\Loc h2 h' h2 fp:=λ⟨h1,h2,h3⟩=>by
  subst h3;exact ⟨by rw [qcS he]; exact h1,λi hi=>(by cases hi),λi _=>rfl⟩
 unfold Stp at hs ⊢;cases op <;> simp only at hs ⊢ <;> (try (exact ⟨h2,⟨(pure hs).1,rfl,hs.2.2⟩,(pure hs).2⟩)) <;> simp only [Op.operands] at he
 case load t a =>
  obtain ⟨r,h1,rfl,rfl,rfl⟩:=hs;exact ⟨h2,⟨r,by rw [he a σ]; exact ql1 h1 ha1,rfl,rfl,rfl⟩,λi hi=>(by cases hi),λi _=>rfl⟩
 case alloc t =>
  obtain ⟨d,b,rfl,h1,h3,rfl,rfl,rfl⟩:=hs;exact ⟨_,⟨d,b,rfl,⟨by rw [ha2 d σ]; exact h1.1,h1.2⟩,h3,rfl,rfl,rfl⟩,Loc.upd⟩
 case box t v =>
  obtain ⟨d,k,rfl,h1,h3,h4,rfl,rfl,rfl⟩:=hs;rw [<- he v σ] at h4 ⊢;exact ⟨_,⟨d,k,rfl,⟨by rw [ha2 d σ]; exact h1.1,h1.2⟩,h3,h4,rfl,rfl,rfl⟩,Loc.upd⟩
 case buildSlice t len ps =>
  obtain ⟨d,E,k,bytes,rfl,h1,h3,h4,h5,h6,rfl,rfl,rfl⟩:=hs;have hp:∀ p ∈ ps.toList,pe s2 p.2=pe s p.2:=λp hp=>he p.2 (by simp; exact ⟨p.1,by simpa using hp⟩);rw [<- v5 hp];exact ⟨_,⟨d,E,k,bytes,rfl,⟨by rw [ha2 d σ]; exact h1.1,h1.2⟩,h3,h4,h5,λp hpp=>by rw [hp p hpp]; exact h6 p hpp,rfl,rfl,rfl⟩,Loc.upd⟩
 case makeSlice t l c =>
  obtain ⟨d,E,k,bytes,z,kl,kc,n,m,rfl,h1,h3,h4,h5,h8,h6,h7,rfl,rfl,rfl⟩:=hs;exact ⟨_,⟨d,E,k,bytes,z,kl,kc,n,m,rfl,⟨by rw [ha2 d σ]; exact h1.1,h1.2⟩,h3,by rw [he l σ]; exact h4,by rw [he c σ]; exact h5,h8,h6,h7,rfl,rfl,rfl⟩,Loc.upd⟩
 case store t a v =>
  obtain ⟨id,i,j,b,k,u,u',h1,h3,h4,h5,h6,h7,h8,h9,rfl,rfl,rfl⟩:=hs;exact ⟨_,⟨id,i,j,b,k,u,u',by rw [he a σ]; exact h1,by rw [ha1 id σ]; exact h3,h4,h5,h6,by rw [he v σ]; exact h7,h8,by rw [he v σ]; exact h9,rfl,rfl,rfl⟩,Loc.upd⟩
 case makeMap t r =>
  obtain ⟨d,rfl,rfl,h1,rfl,rfl,rfl⟩:=hs;exact ⟨_,⟨d,rfl,rfl,⟨by rw [ha2 d σ]; exact h1.1,h1.2⟩,rfl,rfl,rfl⟩,Loc.upd⟩
 case lookup t m i ok =>
  obtain ⟨id,T,l,a,k,z,h1,h3,h4,h5,rfl,rfl,rfl⟩:=hs;exact ⟨h2,⟨id,T,l,a,k,z,by rw [he m σ]; exact h1,by rw [ha1 id σ]; exact h3,by rw [he i σ]; exact h4,h5,rfl,rfl,rfl⟩,λi hi=>(by cases hi),λi _=>rfl⟩
 case mapUpdate t m i v =>
  obtain ⟨id,T,l,a,k,z,h1,h3,h4,h5,h6,rfl,rfl,rfl⟩:=hs;rw [<- he v σ] at h6 ⊢;exact ⟨_,⟨id,T,l,a,k,z,by rw [he m σ]; exact h1,by rw [ha1 id σ]; exact h3,by rw [he i σ]; exact h4,h5,h6,rfl,rfl,rfl⟩,Loc.upd⟩
 case call c =>
  obtain ⟨callee,args,tys⟩:=c;have hg:∀ y ∈ args.toList,pe s2 y=pe s y:=λy hy=>he y (by simp [Call.operands]; right; simpa using hy);simp only at hs ⊢
  split at hs
  .obtain ⟨sx,xx,T,d,E,k,bytes,xs,ys,i0,ids,rfl,rfl,rfl,h1,h3,h4,h5,h6,rfl,rfl,rfl⟩:=hs;refine ⟨q0R (stl h2 i0) d ⟨E,k,xs ++ ys,false⟩,⟨sx,xx,T,d,E,k,bytes,xs,ys,i0,ids,rfl,rfl,rfl,⟨by rw [ha2 d σ]; exact h1.1,h1.2⟩,h3,by rw [hg sx σ]; exact qn4 h4 λi hi=>ha2 i (zM _ hi),by rw [hg xx σ]; exact qn3 h5 ha1,h6,rfl,rfl,rfl⟩,λi hi=>?_,λi hi=>?_⟩
   .simp only [z6] at hi
    by_cases hd:i=d
    .subst hd; rw [q0O,q0O]
    .rw [q0A hd,q0A hd]
     rcases hi with hi | hi
     .exact absurd hi hd
     .cases i0 with
      | none=>cases hi
      | some j =>
       simp at hi;subst hi;have:=ha2 i σ;simp only [stl,this];cases h i <;> simp [q0O, *]
   .simp only [z6,not_or] at hi;rw [q0A hi.1];cases i0 with
    | none=>rfl
    | some j =>
     have hij:i≠j:=by simpa using hi.2
     unfold stl;simp only;cases h2 j <;> simp [q0A hij]
  .obtain ⟨al,ids,h1,h3,h4,rfl,rfl⟩:=hs;exact ⟨h2,⟨al,ids,by rw [v5 hg]; exact q65 h1 ha1,h3,h4,rfl,rfl⟩,λi hi=>(by cases hi),λi _=>rfl⟩
  .rename_i t;obtain ⟨f,ys,al,ids,g0,h1,h3,h4,rfl,rfl⟩:=hs;have ht:s2 t=s t:=he (.tmp t) (by simp [Call.operands]);exact ⟨h2,⟨f,ys,al,ids,by rw [ht]; exact g0,by rw [v5 hg]; exact q65 h1 ha1,h3,h4,rfl,rfl⟩,λi hi=>(by cases hi),λi _=>rfl⟩
  .exact ⟨h2,⟨(pure hs).1,rfl,hs.2.2⟩,(pure hs).2⟩
def q2I {d:Nat} {b:Bk} {l:List Nat}:∀ i,i ∉ (l,[d]).2->q0R h d b i=h i:=λi hi=>by
 have hi:i ∉ [d]:=hi;simp at hi; rw [q0A hi]
def qbp [NL] {o:Oper} (hs:Stp P Tb o s h x h' fp):∀ i,i ∉ fp.2->h' i=h i:=by
 obtain ⟨dst,op,ty,pos,af,gd⟩:=o;unfold Stp at hs;cases op <;> simp only at hs <;> (try (exact λi _=>by rw [hs.2.1]))
 case load t a=>obtain ⟨r,h1,rfl,rfl,rfl⟩:=hs; exact λ_ _=>rfl
 case alloc t=>obtain ⟨d,b,rfl,h1,h3,rfl,rfl,rfl⟩:=hs; exact q2I
 case box t v=>obtain ⟨d,k,rfl,h1,h3,h4,rfl,rfl,rfl⟩:=hs; exact q2I
 case buildSlice t len ps=>obtain ⟨d,E,k,bytes,rfl,h1,h3,h4,h5,h6,rfl,rfl,rfl⟩:=hs; exact q2I
 case makeSlice t l c=>obtain ⟨d,E,k,bytes,z,kl,kc,n,m,rfl,h1,h3,h4,h5,h8,h6,h7,rfl,rfl,rfl⟩:=hs; exact q2I
 case store t a v=>obtain ⟨id,i,j,b,k,u,u',h1,h3,h4,h5,h6,h7,h8,h9,rfl,rfl,rfl⟩:=hs; exact q2I
 case makeMap t r=>obtain ⟨d,rfl,rfl,h1,rfl,rfl,rfl⟩:=hs; exact q2I
 case lookup t m i ok=>obtain ⟨id,T,l,a,k,z,h1,h3,h4,h5,rfl,rfl,rfl⟩:=hs; exact λ_ _=>rfl
 case mapUpdate t m i v=>obtain ⟨id,T,l,a,k,z,h1,h3,h4,h5,h6,rfl,rfl,rfl⟩:=hs; exact q2I
 case call c =>
  split at hs
  .obtain ⟨sx,xx,T,d,E,k,bytes,xs,ys,i0,ids,_,_,rfl,h1,h3,h4,h5,h6,rfl,rfl,rfl⟩:=hs;intro i hi;simp only [z6,not_or] at hi;rw [q0A hi.1];cases i0 with
   | none=>rfl
   | some j =>
    have hij:i≠j:=by simpa using hi.2
    unfold stl;simp only;cases h j <;> simp [q0A hij]
  .obtain ⟨al,ids,h1,h3,h4,rfl,rfl⟩:=hs;exact λ_ _=>rfl
  .obtain ⟨f,ys,al,ids,g0,h1,h3,h4,rfl,rfl⟩:=hs;exact λ_ _=>rfl
  .exact λi _=>by rw [hs.2.1]
end
def AL [NL] (P:Program) (Tb:World->Prop) (ops:List Oper) (K:(Nat->PV)->Hp->List FP->Prop):List Oper->(Nat->PV)->Hp->List FP->Prop
 | [],s,h,acc=>K s h acc
 | o :: r,s,h,acc=>∃ x h' fp,q6m P Tb ops o s h x h' fp/\AL P Tb ops K r (q2b s o.dst x) h' (fp :: acc)
def sS (ops:List Oper) (X:Nat->PV) (L:Nat->Bool) (s:Nat->PV):Nat->Nat->PV
 | 0=>s
 | k+1=>if L k then (match ops[k]? with | some o=>q2b (sS ops X L s k) o.dst (X k) | none=>sS ops X L s k) else sS ops X L s k
def hS (W:Nat->FP) (H:Nat->Hp) (L:Nat->Bool) (h:Hp):Nat->Hp
 | 0=>h
 | k+1=>if L k then (λi=>if i ∈ (W k).2 then H k i else hS W H L h k i) else hS W H L h k
def tt:Nat->Bool:=λ_=>true
def mkM (M:List Nat) (o:Oper):Nat:=o.after.toList.foldl (λm e=>if Region.binds .any e then m ||| 2 ^ e.on ||| M.getD e.on 0 else m) 0
def qoV:List Nat->List Oper->List Nat
 | M,[]=>M
 | M,o :: r=>qoV (M ++ [mkM M o]) r
def cls (o:Oper):Nat :=
 match o.op with
 | .load _ _=>1
 | .alloc _ | .box _ _ | .buildSlice _ _ _ | .makeSlice _ _ _ | .makeMap _ _=>2
 | .store _ _ _ | .mapUpdate _ _ _ _=>3
 | .lookup _ _ _ _=>1
 | .call c=>match c.callee with | .builtin .append=>3 | .value (.func _) | .value (.tmp _)=>1 | _=>0
 | _=>0
def harm (a b:Nat):Bool:=yU a 0 || yU b 0 || (yU a 1 && yU b 1) || (yU a 2 && yU b 2)
def qqo:List (Nat × Nat)->Nat->Nat->Bool
 | [],_,_=>false
 | p :: l,a,b=>(yU p.1 a && yU p.2 b) || qqo l a b
def dOk1 (o p:Oper):Bool:=match o.dst,p.dst with | some d,some d'=>!yU d d' | _,_=>true
def dOk2 (ops:List Oper) (M:List Nat) (i j:Nat) (o p:Oper):Bool:=match p.dst with | some d=>!looks ops.toArray o d || (M.getD i 0).testBit j || (M.getD j 0).testBit i | none=>true
def dOk3 (M:List Nat) (prs:List (Nat × Nat)) (i j:Nat) (o p:Oper):Bool:=decide (i<=j) || (M.getD i 0).testBit j || harm (cls p) (cls o) || qqo prs j i
def dOk4 (M:List Nat) (i:Nat) (o:Oper):Bool:=(o.after.toList.all λe=>!Region.binds .any e || decide (e.on < i)) && yU (M.getD i 0) (mkM M o)
def qdp (ops:List Oper) (M:List Nat) (prs:List (Nat × Nat)):Bool :=
 (List.range ops.length).all λi=>match ops[i]? with
  | none=>true
  | some o=>dOk4 M i o &&
   (List.range ops.length).all λj=>match ops[j]? with
    | none=>true
    | some p=>yU i j || (dOk1 o p && dOk2 ops M i j o p && dOk3 M prs i j o p)
def dj (a b:FP):Prop:=(∀ x ∈ a.2,x ∉ b.1/\x ∉ b.2)/\∀ x ∈ b.2,x ∉ a.1
def chk (prs:List (Nat × Nat)) (fps:List FP):Prop:=∀ p ∈ prs,dj (fps.getD p.1 ([],[])) (fps.getD p.2 ([],[]))
section
variable {P:Program} {Tb:World->Prop} {n:Nat} {ops:List Oper} {X:Nat->PV} {L L':Nat->Bool} {s:Nat->PV} {h:Hp} {W:Nat->FP} {H:Nat->Hp}
def qkm {o:Oper} {l:List Oper} (k:Nat):sS (o :: l) X tt s (k+1)=sS l (λi=>X (i+1)) tt (q2b s o.dst (X 0)) k:=by
 induction k with
 | zero=>rfl
 | succ k ih =>
  show (if tt (k+1) then (match (o :: l)[k+1]? with | some o'=>q2b (sS (o :: l) X tt s (k+1)) o'.dst (X (k+1)) | none=>sS (o :: l) X tt s (k+1)) else sS (o :: l) X tt s (k+1))=_
  rw [ih,v7]
  rfl
def qlo (k:Nat):hS W H tt h (k+1)=hS (λi=>W (i+1)) (λi=>H (i+1)) tt (λi=>if i ∈ (W 0).2 then H 0 i else h i) k:=by
 induction k with
 | zero=>rfl
 | succ k ih =>
  show (if tt (k+1) then (λi=>if i ∈ (W (k+1)).2 then H (k+1) i else hS W H tt h (k+1) i) else hS W H tt h (k+1))=_
  rw [ih]
  rfl
def qgR [NL] {o:Oper} {x:PV} {h':Hp} {fp:FP} (hs:q6m P Tb ops o s h x h' fp):∀ i,i ∉ fp.2->h' i=h i:=by
 unfold q6m at hs
 split at hs
 .exact qbp hs
 .obtain ⟨c,_,hs⟩:=hs
  split at hs
  .exact qbp hs
  .exact λi _=>by rw [hs.2.1]
def qpL [NL] {K:(Nat->PV)->Hp->List FP->Prop}:∀ (l:List Oper) (s:Nat->PV) (h:Hp) (acc:List FP),AL P Tb ops K l s h acc ->
  ∃ (X:Nat->PV) (H:Nat->Hp) (W:Nat->FP),(∀ k o,l[k]?=some o->q6m P Tb ops o (sS l X tt s k) (hS W H tt h k) (X k) (hS W H tt h (k+1)) (W k))/\K (sS l X tt s l.length) (hS W H tt h l.length) (((List.range l.length).map W).reverse ++ acc)
 | [],s,h,acc,hal=>⟨λ_=>.un,λ_=>h0,λ_=>([],[]),λk o ho=>by simp at ho,hal⟩
 | o :: l,s,h,acc,hal=>by
  obtain ⟨x,h',fp,h1,h2⟩:=hal;obtain ⟨X,H,W,h3,h4⟩:=qpL l _ _ _ h2;have ho:=qgR h1;have he:(λi=>if i ∈ fp.2 then h' i else h i)=h':=by
   funext i
   split
   .rfl
   .rename_i hi; exact (ho i hi).symm
  let X':Nat->PV:=λk=>match k with | 0=>x | k+1=>X k
  let H':Nat->Hp:=λk=>match k with | 0=>h' | k+1=>H k
  let W':Nat->FP:=λk=>match k with | 0=>fp | k+1=>W k
  have es:∀ k,sS (o :: l) X' tt s (k+1)=sS l X tt (q2b s o.dst x) k:=λk=>qkm k;have eh:∀ k,hS W' H' tt h (k+1)=hS W H tt h' k:=λk=>by
   have:=qlo (W:=W') (H:=H') (h:=h) k;rw [this]
   show hS W H tt (λi=>if i ∈ fp.2 then h' i else h i) k=_
   rw [he]
  refine ⟨X',H',W',λk p hp=>?_,?_⟩
  .cases k with
   | zero =>
    simp only [xH,y9.injEq] at hp;subst hp;rw [eh 0];exact h1
   | succ k =>
    rw [es,eh,eh];exact h3 k p (by simpa using hp)
  .rw [zN,es,eh];have:((List.range (l.length+1)).map W').reverse ++ acc=((List.range l.length).map W).reverse ++ (fp :: acc):=by
    rw [List.range_succ_eq_map,v6,uA,List.reverse_cons,xA]
    rfl
   rw [this];exact h4
structure Drw (ops:List Oper) (M:List Nat) (prs:List (Nat × Nat)):Prop where
 down:∀ (i:Nat) (o:Oper) (x:Edge),ops[i]?=some o->x ∈ o.after->Region.binds .any x=true->x.on < i
 anc:∀ (i j:Nat) (o:Oper),ops[i]?=some o->(M.getD i 0).testBit j=true->∃ x ∈ o.after,Region.binds .any x=true/\(x.on=j\/(M.getD x.on 0).testBit j=true)
 dst:∀ (i j:Nat) (o p:Oper) (d:Nat),ops[i]?=some o->ops[j]?=some p->o.dst=some d->p.dst=some d->i=j
 look:∀ (i j:Nat) (o p:Oper) (d:Nat),ops[i]?=some o->ops[j]?=some p->i≠j->p.dst=some d->looks ops.toArray o d=true->(M.getD i 0).testBit j=true\/(M.getD j 0).testBit i=true
 par:∀ (i j:Nat) (o p:Oper),ops[i]?=some o->ops[j]?=some p->j < i->(M.getD i 0).testBit j=true\/harm (cls p) (cls o)=true\/qqo prs j i=true
def qce {M:List Nat} {j:Nat}:∀ (l:List Edge) (m:Nat),(l.foldl (λm e=>if Region.binds .any e then m ||| 2 ^ e.on ||| M.getD e.on 0 else m) m).testBit j=true->m.testBit j=true\/∃ x ∈ l,Region.binds .any x=true/\(x.on=j\/(M.getD x.on 0).testBit j=true)
 | [],m,h=>.inl h
 | e :: l,m,h=>by
  rw [List.foldl_cons] at h
  rcases qce l _ h with h | ⟨x,hx,h⟩
  .split at h
   .rename_i hb;rw [Nat.testBit_or,Nat.testBit_or,vY,vY,Nat.testBit_two_pow] at h
    rcases h with (h | h) | h
    .exact .inl h
    .exact .inr ⟨e,vZ,hb,.inl (by simpa using h)⟩
    .exact .inr ⟨e,vZ,hb,.inr h⟩
   .exact .inl h
  .exact .inr ⟨x,zM _ hx,h⟩
def Drw.of {M:List Nat} {prs:List (Nat × Nat)} (hk:qdp ops M prs=true):Drw ops M prs:=by
 unfold qdp at hk;rw [yJ] at hk;have hi:∀ (i:Nat) (o:Oper),ops[i]?=some o->i ∈ List.range ops.length:=λi o ho=>yV.2 (zC.1 ho).1;have h1:∀ (i:Nat) (o:Oper),ops[i]?=some o->dOk4 M i o=true/\((List.range ops.length).all λj=>match ops[j]? with | none=>true | some p=>yU i j || (dOk1 o p && dOk2 ops M i j o p && dOk3 M prs i j o p))=true:=λi o ho=>by
  have:=hk i (hi i o ho);rw [ho] at this;simp only [zX] at this;exact this
 have h2:∀ (i j:Nat) (o p:Oper),ops[i]?=some o->ops[j]?=some p->i≠j->(dOk1 o p=true/\dOk2 ops M i j o p=true)/\dOk3 M prs i j o p=true:=λi j o p ho hp hij=>by
  have:=(yJ.1 (h1 i o ho).2) j (hi j p hp);rw [hp] at this;simp only [vY] at this
  rcases this with h | h
  .exact absurd (zJ h) hij
  .rw [zX,zX] at h;exact h
 refine ⟨λi o x ho hx hb=>?_,λi j o ho hb=>?_,λi j o p d ho hp hod hpd=>?_,λi j o p d ho hp hij hd hl=>?_,λi j o p ho hp hji=>?_⟩
 .have h4:=(h1 i o ho).1;unfold dOk4 at h4;rw [zX] at h4;have:=yJ.1 h4.1 x (vW.2 hx);rw [hb] at this;simpa using this
 .have h4:=(h1 i o ho).1;unfold dOk4 at h4;rw [zX] at h4;have he:=zJ h4.2;rw [he] at hb;unfold mkM at hb
  rcases qce _ _ hb with h | ⟨x,hx,h⟩
  .simp at h
  .exact ⟨x,vW.1 hx,h⟩
 .by_cases hij:i=j
  .exact hij
  .have:=(h2 i j o p ho hp hij).1.1;unfold dOk1 at this;rw [hod,hpd] at this;simp at this
 .have:=(h2 i j o p ho hp hij).1.2;unfold dOk2 at this;rw [hd] at this;simp only [hl,Bool.not_true,Bool.false_or,vY] at this;exact this
 .have:=(h2 i j o p ho hp Oq).2;unfold dOk3 at this;simp only [vY,decide_eq_true_eq] at this
  rcases this with ((h | h) | h) | h
  .omega
  .exact .inl h
  .exact .inr (.inl h)
  .exact .inr (.inr h)
def qar (i:Nat):∀ (m:Nat),(∀ k,k < m->i ∈ (W k).2->L k=L' k)->hS W H L h m i=hS W H L' h m i
 | 0,_=>rfl
 | m+1,hl=>by
  have ih:=qar i m λk hk=>hl k Oq;unfold hS
  by_cases hi:i ∈ (W m).2
  .rw [hl m ω hi]
   split
   .simp [hi]
   .exact ih
  .split <;> split <;> simp [hi,ih]
def sS_s {k:Nat}:sS ops X L s (k+1)=if L k then (match ops[k]? with | some o=>q2b (sS ops X L s k) o.dst (X k) | none=>sS ops X L s k) else sS ops X L s k:=rfl
def q1A {t:Nat}:∀ (m:Nat),(∀ k o,k < m->ops[k]?=some o->L k=true->o.dst≠some t)->sS ops X L s m t=s t
 | 0,_=>rfl
 | m+1,hl=>by
  have ih:=q1A m λk o hk=>hl k o Oq;rw [sS_s]
  by_cases hL:L m=true
  .rw [if_pos hL];cases ho:ops[m]? with
   | none=>exact ih
   | some o =>
    have:=hl m o Oq ho hL;cases hd:o.dst with
    | none=>simp only [hd,q2b]; exact ih
    | some d=>rw [hd] at this; simp only [hd,q2b,pu]; rw [if_neg (λe=>this (by rw [e]))]; exact ih
  .rw [if_neg hL]; exact ih
def q2Y {t:Nat} (hdd:∀ (i j:Nat) (o p:Oper) (d:Nat),ops[i]?=some o->ops[j]?=some p->o.dst=some d->p.dst=some d->i=j) {k:Nat} {o:Oper} (ho:ops[k]?=some o) (hd:o.dst=some t) (hL:L k=true):∀ (m:Nat),k < m->sS ops X L s m t=X k
 | 0,hm=>by omega
 | m+1,hm=>by
  rw [sS_s]
  by_cases hk:k=m
  .subst hk;rw [if_pos hL,ho];simp only [hd,q2b,pu,if_true]
  .have ih:=q2Y hdd ho hd hL m Oq
   by_cases hLm:L m=true
   .rw [if_pos hLm];cases hp:ops[m]? with
    | none=>exact ih
    | some p =>
     cases hpd:p.dst with
     | none=>simp only [hpd,q2b]; exact ih
     | some d =>
      simp only [hpd,q2b,pu];rw [if_neg λe=>hk (hdd k m o p t ho hp hd (by rw [hpd,e]))];exact ih
   .rw [if_neg hLm]; exact ih
end
section
variable {P:Program} {Tb:World->Prop} {n:Nat} {ops:List Oper} {X:Nat->PV} {s:Nat->PV} {h:Hp} {W:Nat->FP} {H:Nat->Hp} {M:List Nat} {prs:List (Nat × Nat)} {D0:Nat->Prop} {w0:Base} {ρ:Nat->Option Nat} {e:Env} {w:World}
def hS_s {L:Nat->Bool} {k:Nat}:hS W H L h (k+1)=if L k then (λi=>if i ∈ (W k).2 then H k i else hS W H L h k i) else hS W H L h k:=rfl
def Lo (listed:Array Bool):Nat->Bool:=λk=>listed.getD k false
def q5o {listed:Array Bool} {i k:Nat} (hi:i < listed.size):Lo (listed.setIfInBounds i true) k=if i=k then true else Lo listed k:=by
 simp only [Lo,zY,z8]
 split
 .rename_i hk; subst hk; simp [hi]
 .rfl
def qj7 (hD:Drw ops M prs):∀ (i:Nat) (o:Oper) (j:Nat),ops[i]?=some o->(M.getD i 0).testBit j=true->j < i:=by
 intro i
 induction i using xK with
 | _ i ih =>
  intro o j ho hb;obtain ⟨x,hx,hbx,hj⟩:=hD.anc i j o ho hb;have hlt:=hD.down i o x ho hx hbx
  rcases hj with rfl | hj
  .exact hlt
  .have hl:x.on < ops.length:=by have:=(zC.1 ho).1; omega
   have:=ih x.on hlt _ j (zD hl) hj;omega
def qj8 (hD:Drw ops M prs) {L:Nat->Bool} (hc:∀ (k:Nat) (o:Oper) (x:Edge),ops[k]?=some o->L k=true->x ∈ o.after->Region.binds .any x=true->L x.on=true):∀ (i:Nat) (o:Oper) (j:Nat),ops[i]?=some o->(∀ x ∈ o.after,Region.binds .any x=true->L x.on=true)->(M.getD i 0).testBit j=true->L j=true:=by
 intro i
 induction i using xK with
 | _ i ih =>
  intro o j ho hL hb;obtain ⟨x,hx,hbx,hj⟩:=hD.anc i j o ho hb;have hlt:=hD.down i o x ho hx hbx;have hLx:=hL x hx hbx
  rcases hj with rfl | hj
  .exact hLx
  .have hl:x.on < ops.length:=by have:=(zC.1 ho).1; omega
   have ho':=zD hl;exact ih x.on hlt _ j ho' (λy hy hby=>hc x.on _ y ho' hLx hy hby) hj
def q7U {o:Oper} {t:Nat}:looks ops.toArray o t=true ↔ t ∈ o.looksAt ops.toArray:=by
 unfold looks;rw [List.any_eq_true]
 constructor
 .rintro ⟨x,hx,h⟩;rw [zJ h]; exact hx
 .exact λhx=>⟨t,hx,σ⟩
def qgS [NL] {o:Oper} {s2:Nat->PV} {h2 h':Hp} {x:PV} {fp:FP} (hs:q6m P Tb ops o s h x h' fp) (he:∀ t,looks ops.toArray o t=true->s2 t=s t) (ha:agr h h2 (fp.1 ++ fp.2)):∃ h3,q6m P Tb ops o s2 h2 x h3 fp/\Loc h2 h' h3 fp:=by
 have hop:∀ y ∈ o.op.operands,pe s2 y=pe s y:=λy hy=>by
  cases y <;> simp only [pe]
  case tmp t=>exact he t (q7U.2 (by unfold Oper.looksAt; simp; exact .inl ⟨.tmp t,by simpa using hy,rfl⟩))
 unfold q6m at hs ⊢
 split at hs
 .exact qbq hs hop ha
 .rename_i j b hg;obtain ⟨c,hc,hs⟩:=hs;have hy:q2Z ops s2 j b=q2Z ops s j b:=by
   unfold q2Z;cases hd:(ops[j]?).bind (·.dst) with
   | none=>rfl
   | some d =>
    simp only;rw [he d (q7U.2 (by unfold Oper.looksAt; rw [hg]; simp only [yA,hd]; simp))]
  simp only [hy,hc]
  split at hs
  .rename_i hcb;obtain ⟨h3,h4,h5⟩:=qbq hs hop ha;exact ⟨h3,⟨c,rfl,by rw [if_pos hcb]; exact h4⟩,h5⟩
  .rename_i hcb;obtain ⟨rfl,rfl,rfl⟩:=hs;exact ⟨h2,⟨c,rfl,by rw [if_neg hcb]; exact ⟨rfl,rfl,rfl⟩⟩,λi hi=>(by cases hi),λi _=>rfl⟩
def qmX [NL] {Q : Exit -> Act -> World -> Prop} {e0 : Env} (hD : Drw ops M prs) (hd : ops.all (q7d n) = true) (hT : ∀ w, Kp w0.F w0.w w -> Tb w) (hF : Fr D0 w0.w)
    (hG : ∀ k o, ops[k]? = some o -> q6m P Tb ops o (sS ops X tt s k) (hS W H tt h k) (X k) (hS W H tt h (k + 1)) (W k))
    (hdyn : ∀ (i j : Nat) (o p : Oper), ops[i]? = some o -> ops[j]? = some p -> j < i -> (M.getD i 0).testBit j = true \/ dj (W j) (W i))
    (hQ : ∀ a e' w' ρ', Rel n a e' -> Sat D0 w0 (sS ops X tt s ops.length) (hS W H tt h ops.length) ρ' e' w' -> (∀ t, q4q ops.toArray t = false -> e' t = e0 t) -> Q .normal a w') :
    ∀ (fuel : Nat) (listed : Array Bool) (a : Act) (e' : Env) (w' : World) (ρ : Nat -> Option Nat), ops.length <= fuel + (List.range ops.length).countP (λi => listed.getD i true) -> listed.size = ops.length -> (∀ (k : Nat) (o : Oper) (x : Edge), ops[k]? = some o -> Lo listed k = true -> x ∈ o.after -> Region.binds .any x = true -> Lo listed x.on = true) ->
      Rel n a e' -> (∀ t, q4q ops.toArray t = false -> e' t = e0 t) -> Sat D0 w0 (sS ops X (Lo listed) s ops.length) (hS W H (Lo listed) h ops.length) ρ e' w' -> wpAny P .any ops.toArray Q fuel listed a w' := by
  have hft : ∀ {listed : Array Bool} {j : Nat}, listed.size = ops.length -> j < ops.length -> listed.getD j true = Lo listed j := λ{listed j} hsz hj => by
    simp [Lo, zY, y8 (show j < listed.size by omega)]
  have hdone : ∀ (listed : Array Bool) (a : Act) (e' : Env) (w' : World) (ρ : Nat -> Option Nat), listed.size = ops.length -> (∀ i, i < ops.length -> Lo listed i = true) -> Rel n a e' -> (∀ t, q4q ops.toArray t = false -> e' t = e0 t) -> Sat D0 w0 (sS ops X (Lo listed) s ops.length) (hS W H (Lo listed) h ops.length) ρ e' w' -> Q .normal a w' := λlisted a e' w' ρ hsz hall hr ho S => by
    refine hQ a e' w' ρ hr ?_ ho
    have e1 : sS ops X (Lo listed) s ops.length = sS ops X tt s ops.length := by
      have : ∀ m, m <= ops.length -> sS ops X (Lo listed) s m = sS ops X tt s m := λm => by
        induction m with
        | zero => intro _; rfl
        | succ m ih => intro hm; rw [sS_s, sS_s, ih ω, hall m ω]; rfl
      exact this _ (zS _)
    have e2 : hS W H (Lo listed) h ops.length = hS W H tt h ops.length := by
      funext i
      exact qar i _ λk hk _ => by rw [hall k hk]; rfl
    rw [<- e1, <- e2]
    exact S
  have hend : ∀ (listed : Array Bool) (a : Act) (e' : Env) (w' : World) (ρ : Nat -> Option Nat), listed.size = ops.length -> Region.ready .any ops.toArray listed = [] -> Rel n a e' -> (∀ t, q4q ops.toArray t = false -> e' t = e0 t) -> Sat D0 w0 (sS ops X (Lo listed) s ops.length) (hS W H (Lo listed) h ops.length) ρ e' w' -> Q .normal a w' := λlisted a e' w' ρ hsz hnil hr ho S => by
    refine hdone listed a e' w' ρ hsz (λi => ?_) hr ho S
    induction i using xK with
    | _ i ih =>
      intro hi
      cases hb : Lo listed i with
      | true => rfl
      | false =>
        have : i ∈ Region.ready .any ops.toArray listed := by
          unfold Region.ready
          rw [List.mem_filter]
          refine ⟨yV.2 (by simpa using hi), ?_⟩
          have hio : ops.toArray[i]? = some ops[i] := by simp [hi]
          simp only [hft hsz hi, hb, Bool.not_false, Bool.true_and, hio, yM, Option.getD_some]
          rw [Array.all_eq_true']
          intro x hx
          cases hbx : Region.binds .any x with
          | false => rfl
          | true =>
            have hlt := hD.down i ops[i] x (zD hi) hx hbx
            have := ih x.on hlt Oq
            simp only [Lo] at this
            simp [this]
        rw [hnil] at this; cases this
  intro fuel
  induction fuel with
  | zero =>
    intro listed a e' w' ρ hf hsz hcl hr ho S
    have hall : ∀ i, i < ops.length -> listed.getD i true = true := by
      have hle : (List.range ops.length).countP (λi => listed.getD i true) = (List.range ops.length).length := by
        have := List.countP_le_length (p := λi => listed.getD i true) (l := List.range ops.length)
        simp only [List.length_range] at this ⊢; omega
      rw [List.countP_eq_length] at hle
      exact λi hi => hle i (yV.2 hi)
    have hnil : Region.ready .any ops.toArray listed = [] := by
      unfold Region.ready
      rw [List.filter_eq_nil_iff]
      intro i hi
      simp [hall i (by simpa using yV.1 hi)]
    exact ⟨hnil, hend _ _ _ _ _ hsz hnil hr ho S⟩
  | succ fuel ih =>
    intro listed a e' w' ρ hf hsz hcl hr ho S
    refine ⟨λhn => hend _ _ _ _ _ hsz hn hr ho S, λi hi => ?_⟩
    obtain ⟨hlt', hnl, hdeps⟩ := q7J hi
    have hlt : i < ops.length := by simpa using hlt'
    have hli : i < listed.size := by omega
    have hio : ops[i]? = some ops[i] := zD hlt
    have hLi : Lo listed i = false := by rw [<- hft hsz hlt]; exact hnl
    generalize hoi : ops[i] = o at hio
    have hdeps' : ∀ x ∈ o.after, Region.binds .any x = true -> Lo listed x.on = true := λx hx hb => hdeps x (by simpa [hoi] using hx) hb
    -- what is ordered
    have hord : ∀ (k : Nat) (p : Oper), ops[k]? = some p -> k ≠ i -> ((M.getD i 0).testBit k = true \/ (M.getD k 0).testBit i = true) -> Lo listed k = decide (k < i) := λk p hp hki hb => by
      rcases hb with hb | hb
      . have h1 := qj7 hD i o k hio hb
        rw [qj8 hD hcl i o k hio hdeps' hb, decide_eq_true h1]
      . have h1 := qj7 hD k p i hp hb
        rw [decide_eq_false ω]
        cases hL : Lo listed k with
        | false => rfl
        | true =>
          have := qj8 hD hcl k p i hp (λx hx hbx => hcl k p x hp hL hx hbx) hb
          rw [hLi] at this; cases this
    have hwr : ∀ (k : Nat) (p : Oper), ops[k]? = some p -> k ≠ i -> ∀ id, id ∈ (W k).2 -> id ∈ (W i).1 ++ (W i).2 -> Lo listed k = decide (k < i) := λk p hp hki id h1 h2 => by
      refine hord k p hp hki ?_
      rcases uD k i with hk | hk
      . rcases hdyn i k o p hio hp hk with h | h
        . exact .inl h
        . exfalso
          rcases zO.1 h2 with h2 | h2
          . exact (h.1 id h1).1 h2
          . exact (h.1 id h1).2 h2
      . rcases hdyn k i p o hp hio Oq with h | h
        . exact .inr h
        . exfalso
          rcases zO.1 h2 with h2 | h2
          . exact h.2 id h1 h2
          . exact (h.1 id h2).2 h1
    have canS : ∀ k t, k <= ops.length -> sS ops X tt s k t = sS ops X (λj => decide (j < k)) s ops.length t := λk t hk => by
      by_cases hex : ∃ (j : Nat) (p : Oper), ops[j]? = some p /\ p.dst = some t
      . obtain ⟨j, p, hp, hpd⟩ := hex
        have hj := (zC.1 hp).1
        by_cases hjk : j < k
        . rw [q2Y hD.dst hp hpd rfl k hjk, q2Y hD.dst hp hpd (by simp [hjk]) _ hj]
        . rw [q1A k λm q hm hq _ he => hjk (by have := hD.dst m j q p t hq hp he hpd; omega), q1A _ λm q hm hq hL he => hjk (by have := hD.dst m j q p t hq hp he hpd; subst this; simpa using hL)]
      . rw [q1A k λm q _ hq _ he => hex ⟨m, q, hq, he⟩, q1A _ λm q _ hq _ he => hex ⟨m, q, hq, he⟩]
    have canH : ∀ k id, k <= ops.length -> hS W H tt h k id = hS W H (λj => decide (j < k)) h ops.length id := λk id hk => by
      have h1 : ∀ m, k <= m -> hS W H (λj => decide (j < k)) h m id = hS W H (λj => decide (j < k)) h k id := λm hm => by
        induction m with
        | zero => have : k = 0 := by omega
                  subst this; rfl
        | succ m ihm =>
          by_cases hkm : k = m + 1
          . subst hkm; rfl
          . have := ihm Oq
            rw [hS_s, if_neg (by simp; omega)]
            exact this
      rw [h1 _ hk]
      exact qar id k λm hm _ => by simp [tt, hm]
    have hg := hG i o hio
    obtain ⟨h3, g1, g2⟩ := qgS (s2 := sS ops X (Lo listed) s ops.length) (h2 := hS W H (Lo listed) h ops.length) hg (λt ht => by
      rw [canS i t ω]
      by_cases hex : ∃ (j : Nat) (p : Oper), ops[j]? = some p /\ p.dst = some t
      . obtain ⟨j, p, hp, hpd⟩ := hex
        have hj := (zC.1 hp).1
        have hLj : Lo listed j = decide (j < i) := by
          by_cases hji : j = i
          . subst hji; rw [hLi]; simp
          . exact hord j p hp hji (hD.look i j o p t hio hp (λe => hji e.symm) hpd ht)
        by_cases hji : j < i
        . rw [q2Y hD.dst hp hpd (by rw [hLj]; simp [hji]) _ hj, q2Y hD.dst hp hpd (by simp [hji]) _ hj]
        . rw [q1A _ λm q hm hq hL he => by have := hD.dst m j q p t hq hp he hpd; subst this; rw [hLj] at hL; exact hji (by simpa using hL), q1A _ λm q hm hq hL he => by have := hD.dst m j q p t hq hp he hpd; subst this; exact hji (by simpa using hL)]
      . rw [q1A _ λm q _ hq _ he => hex ⟨m, q, hq, he⟩, q1A _ λm q _ hq _ he => hex ⟨m, q, hq, he⟩]) (λid hid => by
      rw [canH i id ω]
      refine qar id _ λk hk hw => ?_
      by_cases hki : k = i
      . subst hki; rw [hLi]; simp
      . exact hwr k _ (zD hk) hki id hw hid)
    have e1 : q2b (sS ops X (Lo listed) s ops.length) o.dst (X i) = sS ops X (Lo (listed.setIfInBounds i true)) s ops.length := by
      funext t
      by_cases hex : ∃ (j : Nat) (p : Oper), ops[j]? = some p /\ p.dst = some t
      . obtain ⟨j, p, hp, hpd⟩ := hex
        have hj := (zC.1 hp).1
        by_cases hji : i = j
        . subst hji
          rw [hio] at hp; cases hp
          rw [q2Y hD.dst hio hpd (by rw [q5o hli]; simp) _ hj, hpd]
          simp [q2b, pu]
        . have hne : o.dst ≠ some t := λhe => hji (hD.dst i j o p t hio hp he hpd)
          have : q2b (sS ops X (Lo listed) s ops.length) o.dst (X i) t = sS ops X (Lo listed) s ops.length t := by
            cases hod : o.dst with
            | none => rfl
            | some d => simp only [q2b, pu]; rw [if_neg λe => hne (by rw [hod, e])]
          rw [this]
          cases hL : Lo listed j with
          | true => rw [q2Y hD.dst hp hpd hL _ hj, q2Y hD.dst hp hpd (by rw [q5o hli, if_neg hji]; exact hL) _ hj]
          | false => rw [q1A _ λm q hm hq hL' he => (by have := hD.dst m j q p t hq hp he hpd; subst this; rw [hL] at hL'; cases hL'), q1A _ λm q hm hq hL' he => (by have := hD.dst m j q p t hq hp he hpd; subst this; rw [q5o hli, if_neg hji, hL] at hL'; cases hL')]
      . have hne : o.dst ≠ some t := λhe => hex ⟨i, o, hio, he⟩
        have : q2b (sS ops X (Lo listed) s ops.length) o.dst (X i) t = sS ops X (Lo listed) s ops.length t := by
          cases hod : o.dst with
          | none => rfl
          | some d => simp only [q2b, pu]; rw [if_neg λe => hne (by rw [hod, e])]
        rw [this, q1A _ λm q _ hq _ he => hex ⟨m, q, hq, he⟩, q1A _ λm q _ hq _ he => hex ⟨m, q, hq, he⟩]
    have e2 : h3 = hS W H (Lo (listed.setIfInBounds i true)) h ops.length := by
      funext id
      by_cases hid : id ∈ (W i).2
      . rw [g2.1 id hid, canH (i + 1) id ω]
        refine (qar id _ λk hk hw => ?_).symm
        rw [q5o hli]
        by_cases hki : i = k
        . subst hki; simp
        . rw [if_neg hki, hwr k _ (zD hk) (λe => hki e.symm) id hw (zR _ hid)]
          congr 1
          exact propext ⟨λh => by omega, λh => by omega⟩
      . rw [g2.2 id hid]
        refine (qar id _ λk hk hw => ?_).symm
        rw [q5o hli, if_neg λe => by subst e; exact hid hw]
    rw [e2] at g1
    have hcount : ops.length <= fuel + (List.range ops.length).countP (λj => (listed.setIfInBounds i true).getD j true) := by
      have : (List.range ops.length).countP (λj => listed.getD j true) + 1 <= (List.range ops.length).countP (λj => (listed.setIfInBounds i true).getD j true) := by
        have hsplit : List.range ops.length = List.range i ++ i :: (xN (i + 1) (ops.length - i - 1)) := by
          rw [yY, yY, show ops.length = i + (1 + (ops.length - i - 1)) by omega, <- List.range'_append_1, zV]
          congr 1
          rw [show i + (1 + (ops.length - i - 1)) - i - 1 = ops.length - i - 1 by omega, Nat.add_comm 1, List.range'_succ]
        rw [hsplit, xT, xT, List.countP_cons, List.countP_cons]
        have hmono : ∀ (L : List Nat), L.countP (λj => listed.getD j true) <= L.countP (λj => (listed.setIfInBounds i true).getD j true) := by
          intro L
          refine List.countP_mono_left (λj _ hj => ?_)
          rw [q3T hli]
          split
          . rfl
          . exact hj
        have h1 := hmono (List.range i)
        have h2 := hmono (xN (i + 1) (ops.length - i - 1))
        simp only [hnl, q3T hli, if_true, if_false, xU] at h1 h2 ⊢
        omega
      omega
    have hdo : q7d n o = true := by rw [yJ] at hd; exact hd _ (zE hio)
    have hput : ∀ v, Rel n (a.put o.dst v) (E.put e' o.dst v) := λv => hr.put o.dst v (by unfold q7d at hdo; cases hx : o.dst <;> simp_all)
    have hstep := q2h (q8g S (hT _ S.ext) hF g1)
    rw [e1] at hstep
    have hnext : ∀ v w'', (∃ ρ', Sat D0 w0 (sS ops X (Lo (listed.setIfInBounds i true)) s ops.length) (hS W H (Lo (listed.setIfInBounds i true)) h ops.length) ρ' (E.put e' o.dst v) w'') -> wpAny P .any ops.toArray Q fuel (listed.setIfInBounds i true) (a.put o.dst v) w'' := λv w'' ⟨ρ', S'⟩ => by
      refine ih _ _ _ _ ρ' hcount (by simpa using hsz) (λk p x hp hL hx hb => ?_) (hput v) (λt ht => ?_) S'
      . rw [q5o hli] at hL ⊢
        split
        . rfl
        . by_cases hki : i = k
          . subst hki
            rw [hio] at hp; cases hp
            exact hdeps' x hx hb
          . rw [if_neg hki] at hL
            exact hcl k p x hp hL hx hb
      . rw [qi8 (q4p ht i o (by simpa using hio))]
        exact ho t ht
    unfold wpOp
    have hio2 : ops.toArray[i]? = some o := by simpa using hio
    simp only [hio2]
    rw [q5w hr (by simpa using hd)]
    unfold WG at hstep
    split
    . rename_i hw
      rw [if_pos hw] at hstep
      exact .inl (q5t hr hstep λv w'' hv => hnext v w'' hv)
    . rename_i hw
      rw [if_neg hw] at hstep
      exact hnext _ _ hstep
end
abbrev SQ:=Exit->(Nat->PV)->Hp->Prop
def AW [NL] (P:Program) (Tb:World->Prop) (J:Nat->Prop) (n:Nat) (c:Code) (Q:SQ) (s:Nat->PV) (h:Hp):Prop :=
 ∀ D0 (w0:Base) ρ e w,((∀ w,Kp w0.F w0.w w->Tb w)/\∀ i r,w0.J i r->J i)->Fr D0 w0.w->Sat D0 w0 s h ρ e w->W P n c (λx e' w'=>∃ s' h' ρ',Sat D0 w0 s' h' ρ' e' w'/\Q x s' h') e w
def thA (K:(Nat->PV)->Hp->Prop) (Q:SQ):SQ
 | .normal,s,h=>K s h
 | x,s,h=>Q x s h
def inA (id:Nat) (Q:SQ):SQ
 | .exit id',s,h=>if id'=id then Q .normal s h else Q (.exit id') s h
 | x,s,h=>Q x s h
def Le [NL] (J:Nat->Prop) (s:Nat->PV) (h:Hp) (s':Nat->PV) (h':Hp):Prop:=∀ D0 (w0:Base) ρ e w,(∀ i r,w0.J i r->J i)->Sat D0 w0 s h ρ e w->∃ ρ',Sat D0 w0 s' h' ρ' e w
section
variable {P:Program} {Tb:World->Prop} {J:Nat->Prop} {n:Nat} {Q:SQ} {s s':Nat->PV} {h h':Hp}
def q2k [NL] {c:Code} (hl:Le J s h s' h') (hw:AW P Tb J n c Q s' h'):AW P Tb J n c Q s h:=λD0 w0 ρ e w hT hF S=>by
 obtain ⟨ρ',S'⟩:=hl D0 w0 ρ e w hT.2 S;exact hw D0 w0 ρ' e w hT hF S'
def q4I [NL] {a b:Code} (hw:∀ K:(Nat->PV)->Hp->Prop,(∀ s h,AW P Tb J n b Q s h->K s h)->AW P Tb J n a (thA K Q) s h):AW P Tb J n (.seq a b) Q s h:=λD0 w0 ρ e w hT hF S=>by
 refine q5H (q4H (λx e' w' hx=>?_) (hw _ (λ_ _ h=>h) D0 w0 ρ e w hT hF S));obtain ⟨s',h',ρ',S',q⟩:=hx;cases x
 case normal=>exact q D0 w0 ρ' e' w' hT hF S'
 all_goals exact ⟨s',h',ρ',S',q⟩
def qeg [NL] {c:Operand} {a b:Code} {t:Bool} (hc:pe s c=.vl (.bool t)) (ha:t=true->AW P Tb J n a Q s h) (hb:t=false->AW P Tb J n b Q s h):AW P Tb J n (.cond c a b) Q s h:=λD0 w0 ρ e w hT hF S=>by
 have:=S.pex c;rw [hc] at this;unfold Rd at this;exact q5I this (λht=>ha ht D0 w0 ρ e w hT hF S) (λht=>hb ht D0 w0 ρ e w hT hF S)
def A_u [NL] {c:Operand} {a b:Code} {k:Nat} (hc:pe s c=.fm (fNil k)) (ha:k=0->AW P Tb J n a Q s h) (hb:AW P Tb J n b Q s h):AW P Tb J n (.cond c a b) Q s h:=λD0 w0 ρ e w hT hF S=>by
 have:=S.pex c;rw [hc] at this;unfold Rd at this;obtain ⟨t,h1,h2⟩:=this;exact q5I h1 (λht=>ha (h2 ht) D0 w0 ρ e w hT hF S) (λ_=>hb D0 w0 ρ e w hT hF S)
def qhw [NL] {id:Nat} {c:Code} (hw:AW P Tb J n c (inA id Q) s h):AW P Tb J n (.block id c) Q s h:=λD0 w0 ρ e w hT hF S=>by
 refine q8u (q4H (λx e' w' hx=>?_) (hw D0 w0 ρ e w hT hF S));obtain ⟨s',h',ρ',S',q⟩:=hx;cases x
 case exit id' =>
  simp only [inA] at q;simp only [inB]
  split
  .rename_i hid; rw [if_pos hid] at q; exact ⟨s',h',ρ',S',q⟩
  .rename_i hid; rw [if_neg hid] at q; exact ⟨s',h',ρ',S',q⟩
 all_goals exact ⟨s',h',ρ',S',q⟩
def qoB [NL] (hq:Q .normal s h):AW P Tb J n .skip Q s h:=λ_ _ ρ _ _ _ _ S=>q4G ⟨s,h,ρ,S,hq⟩
def qoD [NL] {id:Nat} (hq:Q (.exit id) s h):AW P Tb J n (.exit id) Q s h:=λ_ _ ρ _ _ _ _ S=>qjg ⟨s,h,ρ,S,hq⟩
def qvr [NL] (hq:Q .ret s h):AW P Tb J n .ret Q s h:=λ_ _ ρ _ _ _ _ S=>qbI ⟨s,h,ρ,S,hq⟩
def qbO [NL] {ops:List Oper} {K:(Nat->PV)->Hp->List FP->Prop} {D0:Nat->Prop} {w0:Base} (hT:∀ w,Kp w0.F w0.w w->Tb w) (hF:Fr D0 w0.w) {K':Env->World->Prop}:∀ (l:List Oper) (s:Nat->PV) (h:Hp) (acc:List FP) (ρ:Nat->Option Nat) (e:Env) (w:World),(∀ s h acc ρ e w,Sat D0 w0 s h ρ e w->K s h acc->K' e w)->AL P Tb ops K l s h acc->Sat D0 w0 s h ρ e w->WL P ops.toArray K' l e w
 | [],s,h,acc,ρ,e,w,hk,hal,S=>hk s h acc ρ e w S hal
 | o :: l,s,h,acc,ρ,e,w,hk,hal,S=>by
  obtain ⟨x,h',fp,h1,h2⟩:=hal;have:=q2h (q8g S (hT _ S.ext) hF h1);exact q8x (λv w' ⟨ρ',S'⟩=>qbO hT hF l _ _ _ ρ' _ _ hk h2 S') this
def q5q [NL] {id:Nat} {l:List Oper} (hw:∀ K:(Nat->PV)->Hp->Prop,(∀ s h,Q .normal s h->K s h)->AL P Tb l (λs h _=>K s h) l s h []):AW P Tb J n (.region id l.toArray false) Q s h:=λD0 w0 ρ e w hT hF S=>by
 have h1:=hw _ λ_ _ h=>h;refine q1E ?_;exact qbO (K':=λe' w'=>∃ s' h' ρ',Sat D0 w0 s' h' ρ' e' w'/\Q .normal s' h') hT.1 hF l s h [] ρ e w (λs h _ ρ e w S hq=>⟨s,h,ρ,S,hq⟩) h1 S
def Sat.drew [NL] {D0:Nat->Prop} {w0:Base} {ρ:Nat->Option Nat} {e:Env} {w:World} (S:Sat D0 w0 s h ρ e w) (k:Nat):Sat D0 w0 s h ρ e { w with drawn:=k }:=S.extend (Kp.drew w k)
def qbr [NL] {o:Oper} {x:PV} {fp:FP} (hs:Stp P Tb o s h x h' fp):(cls o=0->fp=([],[]))/\(cls o=1->fp.2=[])/\(cls o=2->fp.1=[]/\(fp.2=[]\/∃ d,o.dst=some d/\fp.2=[d])):=by
 obtain ⟨dst,op,ty,pos,af,gd⟩:=o;unfold Stp at hs;unfold cls;cases op <;> simp only at hs ⊢ <;> (try (exact ⟨λ_=>hs.2.2,λh=>(by cases h),λh=>(by cases h)⟩))
 case load t a=>obtain ⟨r,h1,rfl,rfl,rfl⟩:=hs; exact ⟨λh=>(by cases h),λ_=>rfl,λh=>(by cases h)⟩
 case alloc t=>obtain ⟨d,b,rfl,h1,h3,rfl,rfl,rfl⟩:=hs; exact ⟨λh=>(by cases h),λh=>(by cases h),λ_=>⟨rfl,.inr ⟨d,rfl,rfl⟩⟩⟩
 case box t v=>obtain ⟨d,k,rfl,h1,h3,h4,rfl,rfl,rfl⟩:=hs; exact ⟨λh=>(by cases h),λh=>(by cases h),λ_=>⟨rfl,.inr ⟨d,rfl,rfl⟩⟩⟩
 case buildSlice t len ps=>obtain ⟨d,E,k,bytes,rfl,h1,h3,h4,h5,h6,rfl,rfl,rfl⟩:=hs; exact ⟨λh=>(by cases h),λh=>(by cases h),λ_=>⟨rfl,.inr ⟨d,rfl,rfl⟩⟩⟩
 case makeSlice t l c=>obtain ⟨d,E,k,bytes,z,kl,kc,n,m,rfl,h1,h3,h4,h5,h8,h6,h7,rfl,rfl,rfl⟩:=hs; exact ⟨λh=>(by cases h),λh=>(by cases h),λ_=>⟨rfl,.inr ⟨d,rfl,rfl⟩⟩⟩
 case store t a v=>exact ⟨λh=>(by cases h),λh=>(by cases h),λh=>(by cases h)⟩
 case mapUpdate t m i v=>exact ⟨λh=>(by cases h),λh=>(by cases h),λh=>(by cases h)⟩
 case makeMap t r=>obtain ⟨d,rfl,rfl,h1,rfl,rfl,rfl⟩:=hs; exact ⟨λh=>(by cases h),λh=>(by cases h),λ_=>⟨rfl,.inr ⟨d,rfl,rfl⟩⟩⟩
 case lookup t m i ok=>obtain ⟨id,T,l,a,k,z,h1,h3,h4,h5,rfl,rfl,rfl⟩:=hs; exact ⟨λh=>(by cases h),λ_=>rfl,λh=>(by cases h)⟩
 case call c =>
  obtain ⟨callee,args,tys⟩:=c;simp only at hs ⊢;cases callee
  case builtin b=>cases b <;> simp only at hs ⊢ <;> first | exact ⟨λ_=>hs.2.2,λh=>(by cases h),λh=>(by cases h)⟩ | exact ⟨λh=>(by cases h),λh=>(by cases h),λh=>(by cases h)⟩
  case value f =>
   cases f <;> simp only at hs ⊢
   case func f=>obtain ⟨al,ids,h1,h3,h4,rfl,rfl⟩:=hs; exact ⟨λh=>(by cases h),λ_=>rfl,λh=>(by cases h)⟩
   case tmp t=>obtain ⟨f,ys,al,ids,g0,h1,h3,h4,rfl,rfl⟩:=hs; exact ⟨λh=>(by cases h),λ_=>rfl,λh=>(by cases h)⟩
   all_goals exact ⟨λ_=>hs.2.2,λh=>(by cases h),λh=>(by cases h)⟩
  case invoke r m=>exact ⟨λ_=>hs.2.2,λh=>(by cases h),λh=>(by cases h)⟩
def qjO [NL] {o:Oper} {x:PV} {fp:FP} {ops:List Oper} (hs:q6m P Tb ops o s h x h' fp):(cls o=0->fp=([],[]))/\(cls o=1->fp.2=[])/\(cls o=2->fp.1=[]/\(fp.2=[]\/∃ d,o.dst=some d/\fp.2=[d])):=by
 unfold q6m at hs
 split at hs
 .exact qbr hs
 .obtain ⟨c,_,hs⟩:=hs
  split at hs
  .exact qbr hs
  .obtain ⟨_,_,rfl⟩:=hs;exact ⟨λ_=>rfl,λ_=>rfl,λ_=>⟨rfl,.inl rfl⟩⟩
def q9W:∀ {l:List (Nat × Nat)} {a b:Nat},qqo l a b=true->(a,b) ∈ l
 | p :: l,a,b,hp=>by
  simp only [qqo,vY,zX] at hp
  rcases hp with ⟨h1,h2⟩ | h
  .rw [<- zJ h1,<- zJ h2]; exact vZ
  .exact zM _ (q9W h)
 | [],_,_,hp=>by cases hp
def qvs [NL] {id:Nat} {l:List Oper} (prs:List (Nat × Nat)) (hm:P.follows .mixedOrders=true) (hok:qdp l (qoV [] l) prs=true) (hw:∀ K:(Nat->PV)->Hp->Prop,(∀ s h,Q .normal s h->K s h)->AL P Tb l (λs h acc=>chk prs acc.reverse/\K s h) l s h []):AW P Tb J n (.region id l.toArray true) Q s h:=λD0 w0 ρ e w hT hF S=>by
 have h1:=hw _ λ_ _ h=>h;obtain ⟨X,H,W,hG,hck,hq⟩:=qpL l s h [] h1;have hD:=Drw.of hok;rw [xJ,List.reverse_reverse] at hck;intro hd a hr;have hd':l.all (q7d n)=true:=hd;refine wp_mono (Q:=λx a' w'=>x=.normal/\qhp n (.region id l.toArray true) e (λx e' w'=>∃ s' h' ρ',Sat D0 w0 s' h' ρ' e' w'/\Q x s' h') .normal a' w') (wp_region_any hm ?_) λx a' w' hq=>by rw [hq.1]; exact hq.2
 have hdyn:∀ (i j:Nat) (o p:Oper),l[i]?=some o->l[j]?=some p->j < i->((qoV [] l).getD i 0).testBit j=true\/dj (W j) (W i):=λi j o p ho hp hji=>by
  rcases hD.par i j o p ho hp hji with h | h | h
  .exact .inl h
  .refine .inr ?_;have c1:=qjO (hG j p hp);have c2:=qjO (hG i o ho);unfold harm at h;simp only [vY,zX] at h
   rcases h with ((h | h) | h) | h
   .rw [c1.1 (zJ h)]; exact ⟨λx hx=>(by cases hx),λx _ hx=>(by cases hx)⟩
   .rw [c2.1 (zJ h)]; exact ⟨λx _=>⟨λhx=>(by cases hx),λhx=>(by cases hx)⟩,λx hx=>(by cases hx)⟩
   .have e1:=c1.2.1 (zJ h.1);have e2:=c2.2.1 (zJ h.2);exact ⟨λx hx=>(by rw [e1] at hx; cases hx),λx hx=>(by rw [e2] at hx; cases hx)⟩
   .obtain ⟨e1,e2⟩:=c1.2.2 (zJ h.1);obtain ⟨e3,e4⟩:=c2.2.2 (zJ h.2);refine ⟨λx hx=>⟨by rw [e3]; simp,λhx2=>?_⟩,λx _=>by rw [e1]; simp⟩
    rcases e2 with e2 | ⟨d,hd1,e2⟩
    .rw [e2] at hx; cases hx
    .rcases e4 with e4 | ⟨d',hd2,e4⟩
     .rw [e4] at hx2; cases hx2
     .rw [e2] at hx; rw [e4] at hx2;simp at hx hx2;subst hx;subst hx2;have:=hD.dst i j o p x ho hp hd2 hd1;omega
  .have:=hck (j,i) (q9W h);have g:∀ k,k < l.length->((List.range l.length).map W).getD k ([],[])=W k:=λk hk=>by simp [yH,hk]
   simp only [g j (zC.1 hp).1,g i (zC.1 ho).1] at this;exact .inr this
 have:=qmX (P:=P) (Tb:=Tb) (n:=n) (e0:=e) (Q:=λx a' w'=>x=.normal/\qhp n (.region id l.toArray true) e (λx e' w'=>∃ s' h' ρ',Sat D0 w0 s' h' ρ' e' w'/\Q x s' h') .normal a' w') hD hd' hT.1 hF hG hdyn (λa' e' w' ρ' r' S' ho=>⟨rfl,e',r',ho,⟨_,_,ρ',S',hq⟩⟩) l.length (vX l.length false) a e { w with drawn:=w.drawn+1 } ρ ω σ (λk o x ho hl=>by
  simp only [Lo,zY,yL] at hl
  split at hl <;> cases hl) hr (λ_ _=>rfl) (by
  have e1:sS l X (Lo (vX l.length false)) s l.length=s:=by
   funext t
   exact q1A _ λk o _ _ hl=>by
    simp only [Lo,zY,yL] at hl
    split at hl <;> cases hl
  have e2:hS W H (Lo (vX l.length false)) h l.length=h:=by
   have:∀ m,hS W H (Lo (vX l.length false)) h m=h:=λm=>by
    induction m with
    | zero=>rfl
    | succ m ih =>
     rw [hS_s,if_neg,ih];simp only [Lo,zY,yL]
     split <;> simp
   exact this _
  rw [e1,e2];exact S.drew _)
 simpa using this
def qef [NL] {ι:Type} {c:Code} (Ss:ι->Nat->PV) (Hs:ι->Hp) (μ:ι->Nat) (i0:ι) (hl:Le J s h (Ss i0) (Hs i0))
  (round:∀ i,AW P Tb J n c (thA (λs' h'=>∃ j,Le J s' h' (Ss j) (Hs j)/\μ j < μ i) Q) (Ss i) (Hs i)):AW P Tb J n (.loop c) Q s h:=λD0 w0 ρ e w hT hF S=>by
 intro hd a hr;obtain ⟨ρ0,S0⟩:=hl _ _ _ _ _ hT.2 S;have main:∀ (m:Nat) (i:ι) (ρ:Nat->Option Nat) (e':Env) (w':World) (a':Act),μ i < m->Sat D0 w0 (Ss i) (Hs i) ρ e' w'->Rel n a' e'->(∀ t,wr t c=false->e' t=e t)->Code.rounds P c (qhp n (.loop c) e (λx e' w'=>∃ s' h' ρ',Sat D0 w0 s' h' ρ' e' w'/\Q x s' h')) m a' w':=by
  intro m
  induction m with
  | zero=>intro i _ _ _ _ hm; omega
  | succ m ih =>
   intro i ρ e' w' a' hm S' r' f';refine wp_mono (round i D0 w0 ρ e' w' hT hF S' hd a' r') ?_;rintro x a2 w2 ⟨e2,r2,f2,q2⟩;obtain ⟨s2,h2,ρ2,S2,q⟩:=q2;cases x
   case normal =>
    obtain ⟨j,hlj,hmj⟩:=q;obtain ⟨ρ3,S3⟩:=hlj _ _ _ _ _ hT.2 S2;exact ih j ρ3 e2 w2 a2 Oq S3 r2 λt ht=>(f2 t ht).trans (f' t ht)
   all_goals exact ⟨e2,r2,λt ht=>(f2 t ht).trans (f' t ht),s2,h2,ρ2,S2,q⟩
 exact wp_loop_rounds (μ i0+1) (main _ i0 ρ0 e w a Oq S0 hr λ_ _=>rfl)
end
def qe8 [NL] {w:World} {D:Nat->Prop} {ρ:Nat->Option Nat} {h:Hp}:∀ {l vs:List Value},RdL w D (l.map .vl) ρ h vs->vs=l
 | [],vs,hr=>by unfold RdL at hr; exact hr
 | x :: l,vs,hr=>by
  rw [v6] at hr;unfold RdL at hr;obtain ⟨y,ys,rfl,h1,h2⟩:=hr;unfold Rd at h1;rw [h1,qe8 h2]
inductive LeV (τ:Nat->Option Nat) (h h':Hp):PV->PV->Prop
 | un {x:PV}:LeV τ h h' x .un
 | cl {x:PV}:Cld x->LeV τ h h' x x
 | ow {i j:Nat} {k:Kd} {off n:Nat} {b:Bk}:τ i=some j->h' i=some b->LeV τ h h' (.ow j k off n) (.ow i k off n)
 | pt {i j a c:Nat} {b:Bk}:τ i=some j->h' i=some b->LeV τ h h' (.pt j a c) (.pt i a c)
 | mp {i j:Nat} {b:Bk}:τ i=some j->h' i=some b->LeV τ h h' (.mp j) (.mp i)
 | nilow {i:Nat} {k:Kd} {b:Bk}:τ i=none->h' i=some b->b.k=k->LeV τ h h' (.vl (.slice none 0 0)) (.ow i k 0 0)
 | nilsl {k:Kd}:LeV τ h h' (.vl (.slice none 0 0)) (.sl k [])
 | nilfm {G:Fam}:(∀ D w,In G D (.slice none 0 0) w)->LeV τ h h' (.vl (.slice none 0 0)) (.fm G)
 | agv {l:List Value} {G:Fam}:(∀ D w,In G D (.agg ⟨l⟩) w)->LeV τ h h' (.ag (l.map .vl)) (.fm G)
 | fz {j:Nat} {k:Kd} {off n:Nat} {b:Bk}:h j=some b->b.st=false->b.k=k->(∀ x ∈ b.xs,Cld x)->(∀ i,τ i=some j->h' i=none)->LeV τ h h' (.ow j k off n) (.sl k ((b.xs.drop off).take n))
 | fzg {j:Nat} {k:Kd} {off n:Nat} {b:Bk} {ys:List PV}:h j=some b->b.st=false->b.k=k->b.xs.length=ys.length->(∀ (i:Nat) (x y:PV),b.xs[i]?=some x->ys[i]?=some y->LeV τ h h' x y)->(∀ y ∈ ys,Cld y)->(∀ i,τ i=some j->h' i=none)->LeV τ h h' (.ow j k off n) (.sl k ((ys.drop off).take n))
 | pq {j i:Nat} {b:Bk} {u:Value}:h j=some b->b.st=false->b.k=none->b.xs[i]?=some (.vl u)->(∀ i,τ i=some j->h' i=none)->LeV τ h h' (.pt j i 0) (.qt none (.vl u))
 | pqg {j i:Nat} {b:Bk} {x y:PV}:h j=some b->b.st=false->0 < ksz b.k->b.xs[i]?=some x->LeV τ h h' x y->Cld y->(∀ i,τ i=some j->h' i=none)->LeV τ h h' (.pt j i 0) (.qt b.k y)
 | ag {l m:List PV}:l.length=m.length->(∀ (i:Nat) (x y:PV),l[i]?=some x->m[i]?=some y->LeV τ h h' x y)->LeV τ h h' (.ag l) (.ag m)
 | tu {l m:List PV}:l.length=m.length->(∀ (i:Nat) (x y:PV),l[i]?=some x->m[i]?=some y->LeV τ h h' x y)->LeV τ h h' (.tu l) (.tu m)
def LeL (τ:Nat->Option Nat) (h h':Hp) (l m:List PV):Prop:=l.length=m.length/\∀ (i:Nat) (x y:PV),l[i]?=some x->m[i]?=some y->LeV τ h h' x y
def LeB (τ:Nat->Option Nat) (h h':Hp) (i:Nat) (b':Bk):Prop :=
 match τ i with
 | some j=>∃ b,h j=some b/\b'.T=b.T/\b'.k=b.k/\(b'.st=false/\b.st=false)/\LeL τ h h' b.xs b'.xs
 | none=>b'.xs=[]
section
variable {P:Program} {Tb:World->Prop} {J:Nat->Prop} {n:Nat} {Q:SQ} {s s':Nat->PV} {h h':Hp} {τ:Nat->Option Nat}
def q8y [NL] (τ:Nat->Option Nat) (hb:∀ i b',h' i=some b'->LeB τ h h' i b') (hi:∀ i j k b c,h' i=some b->h' j=some c->τ i=some k->τ j=some k->i=j) (hs:∀ t,LeV τ h h' (s t) (s' t)) (hτ:∀ i,J i->5000<=i->i < 1000000->τ i=some i):Le J s h s' h':=λD0 w0 ρ e w hJ S=>by
 let ρ':Nat->Option Nat:=λi=>(τ i).bind ρ
 have hdd:∀ k,dm D0 ρ h k->dm D0 ρ' h' k:=λk hk=>⟨hk.1,λi b' hb' hr=>by
  have:=hb i b' hb';unfold LeB at this;cases ht:τ i with
  | none=>simp only [ρ',ht] at hr; cases hr
  | some j =>
   rw [ht] at this;obtain ⟨b,h1,_⟩:=this;simp only [ρ',ht,zF] at hr;exact hk.2 j b h1 hr⟩
 have key:∀ {x y:PV},LeV τ h h' x y->∀ {v:Value},Rd w (dm D0 ρ h) x ρ h v->Rd w (dm D0 ρ' h') y ρ' h' v:=λ{x y} hl=>by
  induction hl with
  | un=>intro v _; unfold Rd; trivial
  | cl hc=>intro v hr; exact ((q33 hc hr).sub λk _ hk=>hdd k hk).cl
  | @ow i j k off n b' ht hb' =>
   intro v hr;have:=hb i b' hb';unfold LeB at this;rw [ht] at this;obtain ⟨b,h1,_,h2,_,h3,_⟩:=this;unfold Rd at hr ⊢;obtain ⟨b2,A,c,r1,r2,r3,r4,r5,r6,r7,r8⟩:=hr;rw [h1] at r1; cases r1;have mv:∀ {A:Option Addr} {a m:Nat},AtO w (ρ j) A a m->AtO w (ρ' i) A a m:=λ⟨g,a1,a2,a3⟩=>⟨g,by simp only [ρ',ht,zF]; exact a1,a2,a3⟩;exact ⟨b',A,c,hb',by rw [h2,r2],r3,r4,r5,ω,r7.imp (λh=>h) mv,λh0=>(r8 h0).imp (λh=>h) mv⟩
  | @pt i j a c b' ht hb' =>
   intro v hr;have:=hb i b' hb';unfold LeB at this;rw [ht] at this;obtain ⟨b,h1,_,h2,_,h3,_⟩:=this;unfold Rd at hr ⊢;obtain ⟨b2,g,r1,r2,r3,r4⟩:=hr;rw [h1] at r1; cases r1;exact ⟨b',g,hb',by simp only [ρ',ht,zF]; exact r2,ω,by rw [h2]; exact r4⟩
  | @mp i j b' ht hb' =>
   intro v hr;have:=hb i b' hb';unfold LeB at this;rw [ht] at this;obtain ⟨b,h1,_,h2,_,h3,_⟩:=this;unfold Rd at hr ⊢;obtain ⟨b2,g,r1,r2,r3⟩:=hr;rw [h1] at r1; cases r1;exact ⟨b',g,hb',by simp only [ρ',ht,zF]; exact r2,r3⟩
  | @nilow i k b' ht hb' hk =>
   intro v hr;unfold Rd at hr ⊢;exact ⟨b',none,0,hb',hk,hr,zS _,by simp [maxLen],ω,.inl rfl,λ_=>.inl ⟨rfl,rfl⟩⟩
  | nilsl =>
   intro v hr;unfold Rd at hr ⊢;exact ⟨none,0,0,[],hr,Row.nil _ _ _,rfl,by unfold RdL; rfl,λv hv=>by cases hv⟩
  | nilfm hG =>
   intro v hr;unfold Rd at hr ⊢;rw [hr];exact hG _ _
  | @agv l G hG =>
   intro v hr;unfold Rd at hr ⊢;obtain ⟨vs,rfl,hr⟩:=hr;rw [qe8 hr];exact hG _ _
  | @pq j i b u hj hst hk hu hno =>
   intro v hr;unfold Rd at hr;obtain ⟨b2,g,r1,r2,r3,r4⟩:=hr;rw [hj] at r1; cases r1;obtain ⟨v',q1,q2,q3⟩:=(S.own j b g hj r2).2.unit (λhm=>by have:=hm.1; rw [hk] at this; cases this) hst hu;unfold Rd at q1;subst q1;rw [hk] at q2 q3 r4;unfold Rd;refine ⟨_,v',r4,⟨(S.own j b g hj r2).1.2,λi b' hb' hr'=>?_⟩,by unfold Rd; rfl,⟨q2,xX⟩,λj t ht=>by rw [q1V]; exact q3 j t ht⟩;have h7:=hb i b' hb';unfold LeB at h7;cases ht:τ i with
   | none=>simp only [ρ',ht] at hr'; cases hr'
   | some j' =>
    rw [ht] at h7;obtain ⟨b2,e1,_,_,⟨_,e2⟩,_⟩:=h7;simp only [ρ',ht,zF] at hr'
    rcases S.inj j' j b2 b g e1 hj hst hr' r2 with e | e
    .subst e;have:=hno i ht;rw [hb'] at this; cases this
    .rw [e2] at e; cases e
  | @pqg j i b x y hj hst hk hu _ hcl hno ih =>
   intro v hr;unfold Rd at hr;obtain ⟨b2,g,r1,r2,r3,r4⟩:=hr;rw [hj] at r1; cases r1;obtain ⟨v',q1,q2,q3⟩:=(S.own j b g hj r2).2.unit (λhm=>by have:=hm.1; rw [this] at hk; exact absurd hk (by simp [ksz])) hst hu;unfold Rd;refine ⟨_,v',r4,⟨(S.own j b g hj r2).1.2,λi b' hb' hr'=>?_⟩,q33 hcl (ih q1),⟨q2,hk⟩,λj t ht=>by rw [q1V]; exact q3 j t ht⟩;have h7:=hb i b' hb';unfold LeB at h7;cases ht:τ i with
   | none=>simp only [ρ',ht] at hr'; cases hr'
   | some j' =>
    rw [ht] at h7;obtain ⟨b2,e1,_,_,⟨_,e2⟩,_⟩:=h7;simp only [ρ',ht,zF] at hr'
    rcases S.inj j' j b2 b g e1 hj hst hr' r2 with e | e
    .subst e;have:=hno i ht;rw [hb'] at this; cases this
    .rw [e2] at e; cases e
  | @fz j k off n b hj hst hk hcl hno =>
   intro v hr;subst hk;obtain ⟨A,c,vs,rfl,q1,q2,q3⟩:=S.row hj hst hr;have hb0:off+n<=b.xs.length:=by
    unfold Rd at hr;obtain ⟨b',_,_,h1,_,_,_,_,h5,_⟩:=hr;rw [hj] at h1; cases h1; exact h5
   unfold Rd;refine ⟨A,n,c,vs,rfl,q1.sub λk _ hk=>⟨(S.own j b k hj hk.1).1.2,λi b' hb' hr'=>?_⟩,by simp; omega,?_,q3⟩
   .have h7:=hb i b' hb';unfold LeB at h7;cases ht:τ i with
    | none=>simp only [ρ',ht] at hr'; cases hr'
    | some j' =>
     rw [ht] at h7;obtain ⟨b2,e1,_,_,⟨_,e2⟩,_⟩:=h7;simp only [ρ',ht,zF] at hr'
     rcases S.inj j' j b2 b k e1 hj hst hr' hk.1 with e | e
     .subst e;have:=hno i ht;rw [hb'] at this; cases this
     .rw [e2] at e; cases e
   .obtain ⟨q4,q5⟩:=RdL.iff.1 q2;exact RdL.iff.2 ⟨q4,λi z v hz hv=>(q33 (hcl z (zK (zL (zE hz)))) (q5 i z v hz hv)).sub λk _ hk=>hdd k hk⟩
  | @fzg j k off n b ys hj hst hk hly _ hcl hno ih =>
   intro v hr;subst hk;obtain ⟨A,c,vs,rfl,q1,q2,q3⟩:=S.row hj hst hr;have hb0:off+n<=b.xs.length:=by
    unfold Rd at hr;obtain ⟨b',_,_,h1,_,_,_,_,h5,_⟩:=hr;rw [hj] at h1; cases h1; exact h5
   unfold Rd;refine ⟨A,n,c,vs,rfl,q1.sub λk _ hk=>⟨(S.own j b k hj hk.1).1.2,λi b' hb' hr'=>?_⟩,by simp; omega,?_,q3⟩
   .have h7:=hb i b' hb';unfold LeB at h7;cases ht:τ i with
    | none=>simp only [ρ',ht] at hr'; cases hr'
    | some j' =>
     rw [ht] at h7;obtain ⟨b2,e1,_,_,⟨_,e2⟩,_⟩:=h7;simp only [ρ',ht,zF] at hr'
     rcases S.inj j' j b2 b k e1 hj hst hr' hk.1 with e | e
     .subst e;have:=hno i ht;rw [hb'] at this; cases this
     .rw [e2] at e; cases e
   .obtain ⟨q4,q5⟩:=RdL.iff.1 q2;refine RdL.iff.2 ⟨by rw [<- q4]; simp [hly],λi z v hz hv=>?_⟩;have hin:i < n:=by
     rcases uD i n with h | h
     .exact h
     .rw [zU (by simp; omega)] at hz; cases hz
    have hz2:ys[off+i]?=some z:=by rw [zI,if_pos hin,zQ] at hz; exact hz
    obtain ⟨x,hx⟩:∃ x,b.xs[off+i]?=some x:=⟨_,zD Oq⟩;have hx2:((b.xs.drop off).take n)[i]?=some x:=by rw [zI,if_pos hin,zQ]; exact hx
    exact q33 (hcl z (zE hz2)) (ih (off+i) x z hx hz2 (q5 i x v hx2 hv))
  | ag hlen _ ih =>
   intro v hr;unfold Rd at hr ⊢;obtain ⟨vs,r1,r2⟩:=hr;obtain ⟨r3,r4⟩:=RdL.iff.1 r2;refine ⟨vs,r1,RdL.iff.2 ⟨ω,λi y v hy hv=>?_⟩⟩;have hlt:=(zC.1 hy).1;have hx:=zD (show i < _ by rw [hlen]; exact hlt);exact ih i _ y hx hy (r4 i _ v hx hv)
  | tu hlen _ ih =>
   intro v hr;unfold Rd at hr ⊢;obtain ⟨vs,r1,r2⟩:=hr;obtain ⟨r3,r4⟩:=RdL.iff.1 r2;refine ⟨vs,r1,RdL.iff.2 ⟨ω,λi y v hy hv=>?_⟩⟩;have hlt:=(zC.1 hy).1;have hx:=zD (show i < _ by rw [hlen]; exact hlt);exact ih i _ y hx hy (r4 i _ v hx hv)
 refine ⟨ρ',λi j b c g bi bj hst ri rj=>?_,λi b' g bi ri=>?_,λi b' bi ri=>?_,λt=>key (hs t) (S.rd t),S.ext,S.fr,S.imp,λi g hj=>by simp only [ρ',hτ i (hJ i g hj) (w0.lo i g hj).1 (w0.lo i g hj).2,zF]; exact S.pin i g hj⟩
 .have h1:=hb i b bi;have h2:=hb j c bj;unfold LeB at h1 h2;cases t1:τ i with
  | none=>simp only [ρ',t1] at ri; cases ri
  | some i' =>
   cases t2:τ j with
   | none=>simp only [ρ',t2] at rj; cases rj
   | some j' =>
    rw [t1] at h1;rw [t2] at h2;obtain ⟨b1,q1,_,_,⟨q2,q2'⟩,_⟩:=h1;obtain ⟨b2,q3,_,_,⟨q4,q4'⟩,_⟩:=h2;simp only [ρ',t1,t2,zF] at ri rj
    rcases S.inj i' j' b1 b2 g q1 q3 q4' ri rj with h | h
    .subst h; exact .inl (hi i j i' b c bi bj t1 t2)
    .rw [q2'] at h; cases h
 .have h1:=hb i b' bi;unfold LeB at h1;cases t1:τ i with
  | none=>simp only [ρ',t1] at ri; cases ri
  | some j =>
   rw [t1] at h1;obtain ⟨b,q1,q2,q3,q4,q5,q6⟩:=h1;simp only [ρ',t1,zF] at ri;obtain ⟨a1,⟨m1,m2,es,cl,ps,m3,m4,m5,m6⟩ | ⟨cs,c1,c2,c3⟩⟩:=S.own j b g q1 ri
   .obtain ⟨r3,r4⟩:=RdL.iff.1 m5;refine ⟨a1,.inl ⟨q3.trans m1,q4.1,es,cl,ps,m3,m4,RdL.iff.2 ⟨ω,λm y v hy hv=>?_⟩,m6⟩⟩;have hlt:=(zC.1 hy).1;have hx:=zD (show m < b.xs.length by omega);exact key (q6 m _ y hx hy) (r4 m _ v hx hv)
   refine ⟨a1,.inr ⟨cs,by rw [q2]; exact c1,c2,λhst=>?_⟩⟩;obtain ⟨vs,v1,v2,v3⟩:=c3 q4.2;obtain ⟨r3,r4⟩:=RdL.iff.1 v2;refine ⟨vs,by rw [<- q5,q3]; exact v1,RdL.iff.2 ⟨ω,λm y v hy hv=>?_⟩,by rw [q3]; exact v3⟩;have hlt:=(zC.1 hy).1;have hx:=zD (show m < b.xs.length by omega);exact key (q6 m _ y hx hy) (r4 m _ v hx hv)
 .have h1:=hb i b' bi;unfold LeB at h1;cases t1:τ i with
  | none=>rw [t1] at h1; exact h1
  | some j =>
   rw [t1] at h1;obtain ⟨b,q1,q2,q3,q4,q5,q6⟩:=h1;simp only [ρ',t1,zF] at ri;have:=S.vir j b q1 ri;rw [this] at q5;exact zP q5.symm
end
def lkP:List (Nat × PV)->Nat->Option PV
 | [],_=>none
 | p :: l,t=>if t=p.1 then some p.2 else lkP l t
def lkB:List (Nat × Bk)->Nat->Option Bk
 | [],_=>none
 | p :: l,t=>if t=p.1 then some p.2 else lkB l t
def kin:List Nat->Nat->Bool
 | [],_=>false
 | a :: l,t=>if t=a then true else kin l t
def stK (xs:List (Nat × PV)) (ks:List Nat) (s:Nat->PV) (t:Nat):PV:=match lkP xs t with | some x=>x | none=>if kin ks t then s t else .un
def hpK (bs:List (Nat × Bk)) (kb:List Nat) (h:Hp) (i:Nat):Option Bk:=match lkB bs i with | some b=>some b | none=>if kin kb i then h i else none
def q04:List (Nat × Option Nat)->Nat->Option Nat
 | [],i=>some i
 | p :: l,i=>if i=p.1 then p.2 else q04 l i
def qpT:List (Nat × Option Nat)->Bool
 | []=>true
 | p :: l=>(Nat.blt p.1 5000 || Nat.ble 1000000 p.1) && qpT l
def q8L:∀ {l:List (Nat × Option Nat)},qpT l=true->∀ i,5000<=i->i < 1000000->q04 l i=some i
 | [],_,_,_,_=>rfl
 | p :: l,ht,i,hi,hi2=>by
  simp only [qpT,zX,vY] at ht;have h1:p.1 < 5000\/1000000<=p.1:=ht.1.imp (λh=>by simp [Nat.blt] at h; omega) (λh=>Nat.le_of_ble_eq_true h);unfold q04;rw [if_neg ω];exact q8L ht.2 i hi hi2
def q6j (τ:Nat->Option Nat) (h h':Hp) (s:Nat->PV):List (Nat × PV)->Prop
 | []=>True
 | p :: l=>LeV τ h h' (s p.1) p.2/\q6j τ h h' s l
def LeSk (τ:Nat->Option Nat) (h h':Hp) (s s0:Nat->PV):List Nat->Prop
 | []=>True
 | t :: l=>LeV τ h h' (s t) (s0 t)/\LeSk τ h h' s s0 l
def q9B (τ:Nat->Option Nat) (h h':Hp):List (Nat × Bk)->Prop
 | []=>True
 | p :: l=>LeB τ h h' p.1 p.2/\q9B τ h h' l
def LeBk (τ:Nat->Option Nat) (h h' h0:Hp):List Nat->Prop
 | []=>True
 | i :: l=>(∀ b,h0 i=some b->LeB τ h h' i b)/\LeBk τ h h' h0 l
def dom1 (bs:List (Nat × Bk)) (kb:List Nat):List Nat:=bs.map (·.1) ++ kb
def q46 (τ:Nat->Option Nat):List Nat->Prop
 | []=>True
 | i :: l=>(∀ j ∈ l,i=j\/τ i=none\/τ i≠τ j)/\q46 τ l
section
variable {P:Program} {Tb:World->Prop} {J:Nat->Prop} {n:Nat} {Q:SQ} {s s' s0:Nat->PV} {h h' hb0:Hp} {τ:Nat->Option Nat} {xs:List (Nat × PV)} {ks kb:List Nat} {bs:List (Nat × Bk)}
def q2U:∀ {l:List Nat},q46 τ l->∀ i ∈ l,∀ j ∈ l,i=j\/τ i=none\/τ i≠τ j
 | a :: l,ht,i,hi,j,hj=>by
  rcases z6.1 hi with h1 | h1 <;> rcases z6.1 hj with h2 | h2
  .exact .inl (h1.trans h2.symm)
  .rw [h1]; exact ht.1 j h2
  .rw [h2]
   rcases ht.1 i h1 with h | h | h
   .exact .inl h.symm
   .by_cases h2:τ i=none
    .exact .inr (.inl h2)
    .exact .inr (.inr (by rw [h]; exact h2))
   .exact .inr (.inr (λe=>h e.symm))
  .exact q2U ht.2 i h1 j h2
def stV:List (Nat × PV)->Nat->PV
 | [],_=>.un
 | p :: l,t=>if t=p.1 then p.2 else stV l t
def stM:List (Nat × PV)->List (Nat × PV)->Nat->PV
 | [],kv,t=>stV kv t
 | p :: l,kv,t=>if t=p.1 then p.2 else stM l kv t
def hpV:List (Nat × Option Bk)->Hp
 | [],_=>none
 | p :: l,i=>if i=p.1 then p.2 else hpV l i
def hpM:List (Nat × Bk)->List (Nat × Option Bk)->Hp
 | [],kb,i=>hpV kb i
 | p :: l,kb,i=>if i=p.1 then some p.2 else hpM l kb i
def qbM (τ:Nat->Option Nat) (h h':Hp):List (Nat × Option Bk)->Prop
 | []=>True
 | p :: l=>(∀ b,p.2=some b->LeB τ h h' p.1 b)/\qbM τ h h' l
def qjl:∀ {kv:List (Nat × PV)},q6j τ h h' s kv->∀ t,LeV τ h h' (s t) (stV kv t)
 | [],_,_=>.un
 | p :: l,hl,t=>by
  unfold stV
  split
  .rename_i ht; subst ht; exact hl.1
  .exact qjl hl.2 t
def q5p {kv:List (Nat × PV)} (h2:q6j τ h h' s kv):∀ {xs:List (Nat × PV)},q6j τ h h' s xs->∀ t,LeV τ h h' (s t) (stM xs kv t)
 | [],_,t=>qjl h2 t
 | p :: l,hl,t=>by
  unfold stM
  split
  .rename_i ht; subst ht; exact hl.1
  .exact q5p h2 hl.2 t
def qjm {h2:Hp}:∀ {kb:List (Nat × Option Bk)},qbM τ h h2 kb->∀ i b,hpV kb i=some b->LeB τ h h2 i b/\i ∈ kb.map (·.1)
 | [],_,_,_,hb=>by cases hb
 | p :: l,hl,i,b,hb=>by
  unfold hpV at hb
  split at hb
  .rename_i hi; subst hi; exact ⟨hl.1 b hb,vZ⟩
  .have:=qjm hl.2 i b hb; exact ⟨this.1,zM _ this.2⟩
def q2o {h2:Hp} {kb:List (Nat × Option Bk)} (hk:qbM τ h h2 kb):∀ {bs:List (Nat × Bk)},q9B τ h h2 bs->∀ i b,hpM bs kb i=some b->LeB τ h h2 i b/\i ∈ bs.map (·.1) ++ kb.map (·.1)
 | [],_,i,b,hb=>qjm hk i b hb
 | p :: l,hl,i,b,hb=>by
  unfold hpM at hb
  split at hb
  .rename_i hi; subst hi; cases hb; exact ⟨hl.1,vZ⟩
  .have:=q2o hk hl.2 i b hb; exact ⟨this.1,zM _ this.2⟩
def LeM [NL] (l:List (Nat × Option Nat)) (hl:qpT l=true) {τ:Nat->Option Nat} (hlt:q04 l=τ) {kv:List (Nat × PV)} {kb:List (Nat × Option Bk)} (hh:q6j τ h (hpM bs kb) s xs/\q6j τ h (hpM bs kb) s kv/\q9B τ h (hpM bs kb) bs/\qbM τ h (hpM bs kb) kb/\q46 τ (bs.map (·.1) ++ kb.map (·.1))):Le J s h (stM xs kv) (hpM bs kb):=by
 obtain ⟨h1,h2,h3,h4,h5⟩:=hh;refine q8y τ (λi b hb=>(q2o h4 h3 i b hb).1) (λi j k b c hi hj ti tj=>?_) (λt=>q5p h2 h1 t) (by rw [<- hlt]; exact λi _=>q8L hl i)
 rcases q2U h5 i (q2o h4 h3 i b hi).2 j (q2o h4 h3 j c hj).2 with h | h | h
 .exact h
 .rw [ti] at h; cases h
 .rw [ti,tj] at h; exact absurd rfl h
def q0C [NL] {ι:Type} {c:Code} (I:ι->Prop) (ks kb:List Nat) {kv:List (Nat × PV)} {kbv:List (Nat × Option Bk)} (hk:(ks.map λt=>(t,s t))=kv) (hb:(kb.map λi=>(i,h i))=kbv) (xs:ι->List (Nat × PV)) (bs:ι->List (Nat × Bk)) (μ:ι->Nat) (i0:ι) (hI:I i0) (hl:Le J s h (stM (xs i0) kv) (hpM (bs i0) kbv))
  (round:∀ i,I i->AW P Tb J n c (thA (λs' h'=>∃ j,I j/\μ j < μ i/\Le J s' h' (stM (xs j) kv) (hpM (bs j) kbv)) Q) (stM (xs i) kv) (hpM (bs i) kbv)):AW P Tb J n (.loop c) Q s h :=
 qef (ι:={i:ι // I i}) (λi=>stM (xs i.1) kv) (λi=>hpM (bs i.1) kbv) (λi=>μ i.1) ⟨i0,hI⟩ hl λi=>by
  intro D0 w0 ρ e w hT hF S;refine q4H (λx e' w' hx=>?_) (round i.1 i.2 D0 w0 ρ e w hT hF S);obtain ⟨s',h',ρ',S',q⟩:=hx;refine ⟨s',h',ρ',S',?_⟩;cases x
  case normal=>obtain ⟨j,h1,h2,h3⟩:=q; exact ⟨⟨j,h1⟩,h3,h2⟩
  all_goals exact q
def enP (l:List PV) (i:Nat):PV:=l.getD i .un
def rsP (P:Program) (h:Hp) (s:Nat->PV):ResultVar->Option PV
 | .tmp t=>some (s t)
 | .cell a t=>(ldP h (q0Y P t) (s a)).map (·.1)
def rsL (P:Program) (h:Hp) (s:Nat->PV):List ResultVar->Option (List PV)
 | []=>some []
 | r :: l=>(rsP P h s r).bind λx=>(rsL P h s l).map λy=>x :: y
def mkV:List Value->Value
 | [x]=>x
 | l=>.tuple ⟨l⟩
def mkR:List PV->PV
 | [x]=>x
 | l=>.tu l
def retA (P:Program) (fn:Func) (r:PV):SQ:=λx s h=>(x=.ret\/x=.normal)/\fn.results.toList.length<=4/\∃ l al ids,rsL P h s fn.results.toList=some l/\q2P h l=some (al,ids)/\LeV (λ_=>none) h0 h0 (mkR al) r
end
section
variable {P:Program} {Tb:World->Prop} {J:Nat->Prop} {n:Nat} {s:Nat->PV} {h:Hp} {D0:Nat->Prop} {w0:Base} {w:World} {ρ:Nat->Option Nat} {e:Env}
def qq7 {fn:Func} {R:Ending->World->Prop} {r s q t:ResultVar} {v u x y:Value} (h:fn.results=#[r,s,q,t]) (a0:q8A P w e r=some v) (a1:q8A P w e s=some u) (a2:q8A P w e q=some x) (a3:q8A P w e t=some y) (hR:R (.returned (.tuple #[v,u,x,y])) w):qej P fn R .ret e w:=by
 have b0:=q1M a0;have b1:=q1M a1;have b2:=q1M a2;have b3:=q1M a3;exact ⟨.tuple #[v,u,x,y],by simp [qf2,h,b0,b1,b2,b3],hR⟩
def qkp [NL] (S:Sat D0 w0 s h ρ e w) {r:ResultVar} {x:PV} (hr:rsP P h s r=some x):∃ v,q8A P w e r=some v/\Rd w (dm D0 ρ h) x ρ h v:=by
 cases r with
 | tmp t=>unfold rsP at hr; cases hr; exact ⟨e t,rfl,S.rd t⟩
 | cell a t =>
  unfold rsP at hr;obtain ⟨y,hy,rfl⟩:=zA.1 hr;obtain ⟨v,hv,hr⟩:=qcl S (a:=.tmp a) hy;refine ⟨v,?_,hr⟩;simp only [ev] at hv;unfold q8A;unfold ldV at hv
  split at hv
  .rename_i p hp;simp only [hp];cases hk:q0Y P t with
   | none=>rw [hk] at hv; cases hv
   | some o=>cases o <;> (rw [hk] at hv; exact hv)
  .cases hv
def quw [NL] {x y:PV} (hl:LeV (λ_=>none) h0 h0 x y) {D:Nat->Prop}:∀ {v:Value},Rd w D x (λ_=>none) h0 v->Rd w D y (λ_=>none) h0 v:=by
 induction hl with
 | un=>intro v _; unfold Rd; trivial
 | cl hc=>intro v hr; exact hr
 | ow ht _=>cases ht
 | pt ht _=>cases ht
 | mp ht _=>cases ht
 | nilow _ hb _=>cases hb
 | nilfm hG =>
  intro v hr;unfold Rd at hr ⊢;rw [hr];exact hG _ _
 | agv hG =>
  intro v hr;unfold Rd at hr ⊢;obtain ⟨vs,rfl,hr⟩:=hr;rw [qe8 hr];exact hG _ _
 | fz hj _ _ _ _=>cases hj
 | pq hj _ _ _ _=>cases hj
 | pqg hj _ _ _ _ _ _ _=>cases hj
 | fzg hj _ _ _ _ _ _=>cases hj
 | nilsl =>
  intro v hr;unfold Rd at hr ⊢;exact ⟨none,0,0,[],hr,Row.nil _ _ _,rfl,by unfold RdL; rfl,λv hv=>by cases hv⟩
 | ag hlen _ ih =>
  intro v hr;unfold Rd at hr ⊢;obtain ⟨vs,r1,r2⟩:=hr;obtain ⟨r3,r4⟩:=RdL.iff.1 r2;refine ⟨vs,r1,RdL.iff.2 ⟨ω,λi y v hy hv=>?_⟩⟩;have hlt:=(zC.1 hy).1;have hx:=zD (show i < _ by rw [hlen]; exact hlt);exact ih i _ y hx hy (r4 i _ v hx hv)
 | tu hlen _ ih =>
  intro v hr;unfold Rd at hr ⊢;obtain ⟨vs,r1,r2⟩:=hr;obtain ⟨r3,r4⟩:=RdL.iff.1 r2;refine ⟨vs,r1,RdL.iff.2 ⟨ω,λi y v hy hv=>?_⟩⟩;have hlt:=(zC.1 hy).1;have hx:=zD (show i < _ by rw [hlen]; exact hlt);exact ih i _ y hx hy (r4 i _ v hx hv)
def qcC [NL] (S:Sat D0 w0 s h ρ e w):∀ {rs:List ResultVar} {l:List PV},rsL P h s rs=some l->∃ vs,rs.map (q8A P w e)=vs.map some/\RdL w (dm D0 ρ h) l ρ h vs
 | [],l,hl=>by unfold rsL at hl; cases hl; exact ⟨[],rfl,by unfold RdL; rfl⟩
 | r :: rs,l,hl=>by
  unfold rsL at hl;obtain ⟨x,hx,hl⟩:=zB.1 hl;obtain ⟨y,hy,rfl⟩:=zA.1 hl;obtain ⟨v,h1,h2⟩:=qkp S hx;obtain ⟨vs,h3,h4⟩:=qcC S hy;exact ⟨v :: vs,by rw [v6,v6,h1,h3],by unfold RdL; exact ⟨v,vs,rfl,h2,h4⟩⟩
def AC_of [NL] {f:FuncId} {fn:Func} {c:Code} {al:List PV} {r:PV} (hc:q0H P f=true) (hf:P.funcs[f]?=some fn) (hb:fn.body=some c) (hn:fn.ntmps=n) (hd:(decide (al.length<=n) && q5m n c)=true) (hTE:∀ w w',Ext w w'->Tb w->Tb w')
  (hw:AW P Tb (λ_=>False) n c (retA P fn r) (enP al) h0):AC P Tb f al r:=by
 refine ⟨hc,λD w vs hT hF hR=>?_⟩;have hlen:=hR.len;refine q3C hf hb hn (by rw [xB,hlen]; exact hd) ?_;have hdm:dm D (λ_=>none) h0=D:=by
  funext k
  exact propext ⟨λh=>h.1,λh=>⟨h,λi b hi=>by cases hi⟩⟩
 have S:Sat D ⟨w,λk=>k < w.heap.size,λ_ _ _=>False,λ_ _=>False,λ_ h=>h,λ_ _ h=>h.elim⟩ (enP al) h0 (λ_=>none) (q3Y vs) w:=by
  refine ⟨λi j b c g hi=>(by cases hi),λi b g hi=>(by cases hi),λi b hi=>(by cases hi),λt=>?_,Kp.refl _ _,hF,λ_ _ _ h=>h.elim,λ_ _ h=>h.elim⟩;rw [hdm];obtain ⟨h1,h2⟩:=RdL.iff.1 hR;unfold enP q3Y;rw [yH,yH];cases ht:al[t]? with
  | none=>simp only [Option.getD_none]; unfold Rd; trivial
  | some x =>
   have hlt:=(zC.1 ht).1;have hv:=zD (l:=vs) (show t < vs.length by omega);rw [hv];exact h2 t x _ ht hv
 refine q4H (λx e' w' hx=>?_) (hw D ⟨w,λk=>k < w.heap.size,λ_ _ _=>False,λ_ _=>False,λ_ h=>h,λ_ _ h=>h.elim⟩ _ _ w ⟨λw' hx=>hTE _ _ (hx.mono λk hk _=>hk) hT,λ_ _ h=>h⟩ hF S);obtain ⟨s',h',ρ',S',hx,h4,l,cl,ids,h1,h2,h3⟩:=hx;have hxt:Ext w w':=S'.ext.mono λk hk _=>hk;obtain ⟨us,u1,u2⟩:=qcC S' h1;have u3:=qeF S' h2 u2;have u4:RdL w' D cl (λ_=>none) h0 us:=u3.sub λk hk hq=>by
  rcases hq with hq | ⟨i,hi,hr⟩
  .exact hq.1
  .by_cases hs:∃ b,h' i=some b
   .obtain ⟨b,hb⟩:=hs;exact (S'.own i b k hb hr).1.2
   .rcases uD k w.heap.size with hlt | hge
    .exfalso
     have:∀ {l:List PV} {r:List PV × List Nat},q2P h' l=some r->∀ i ∈ r.2,∃ b,h' i=some b:=λ{l r} hc i hi=>q66 hc i hi;exact hs (this h2 i hi)
    .exact hF k hge
 have hcl:cl.length=us.length:=(RdL.iff.1 u4).1;have hres:Rd w' D r (λ_=>none) h0 (mkV us):=by
  refine quw h3 ?_;clear u1 u2 u3 h2 h3 h1 hcl;cases cl with
  | nil=>unfold RdL at u4; subst u4; unfold mkR mkV Rd; exact ⟨[],rfl,by unfold RdL; rfl⟩
  | cons c cl =>
   cases cl with
   | nil =>
    unfold RdL at u4;obtain ⟨y,ys,rfl,e1,e2⟩:=u4;unfold RdL at e2;subst e2;exact e1
   | cons d cl =>
    have u5:=u4;unfold RdL at u5;obtain ⟨y,ys,rfl,e1,e2⟩:=u5;unfold RdL at e2;obtain ⟨z,zs,rfl,e3,e4⟩:=e2
    show Rd w' D (.tu (c :: d :: cl)) _ _ (.tuple ⟨y :: z :: zs⟩)
    unfold Rd;exact ⟨_,rfl,u4⟩
 have key:qej P fn (λx w'=>∃ v,x=.returned v/\Ext w w'/\Rd w' D r (λ_=>none) h0 v) .ret e' w':=by
  cases hrs:fn.results with
  | mk rs =>
  rw [hrs] at u1 h4;simp only at u1 h4;clear u2 u3 u4 h1 h2 h3 hcl
  rcases rs with _ | ⟨a,_ | ⟨b,_ | ⟨c,_ | ⟨d,_ | ⟨f,rs⟩⟩⟩⟩⟩ <;> rcases us with _ | ⟨x,_ | ⟨y,_ | ⟨z,_ | ⟨t,_ | ⟨t',us⟩⟩⟩⟩⟩ <;> simp at u1 h4
  .exact ret0 hrs ⟨_,rfl,hxt,hres⟩
  .exact qqa hrs u1 ⟨_,rfl,hxt,hres⟩
  .exact qq9 hrs u1.1 u1.2 ⟨_,rfl,hxt,hres⟩
  .exact qq8 hrs u1.1 u1.2.1 u1.2.2 ⟨_,rfl,hxt,hres⟩
  .exact qq7 hrs u1.1 u1.2.1 u1.2.2.1 u1.2.2.2 ⟨_,rfl,hxt,hres⟩
 rcases hx with rfl | rfl
 .exact key
 .exact key
end
class Cn (α:Type) where
 k:α
def cK (p:Prop) [A:Cn Prop]:Prop:=p/\A.k
def oK {α:Type} (o:Option α) [K:Cn (α->Prop)]:Prop:=q2E o K.k
def nnK (o:Option Bk) (d:Nat) (A:Prop):Prop:=(o=none/\d < 5000)/\A
def q1K [NL] (k:Kd) (x:PV) (A:Prop):Prop:=q4D k x/\A
def vK (x:PV) (K:PV->Prop):Prop:=K x
def ldK (o:Option (PV × List Nat)) [K:Cn (PV->List Nat->Prop)]:Prop:=match o with | some (x,l)=>K.k x l | none=>False
def pgA (o:Option Bool) (b:Bool) [A:Cn Prop] [B:Cn Prop]:Prop:=match o with | some c=>if c=b then A.k else B.k | none=>False
def mkA (bytes:Nat) (l c:PV) (K:Nat->Prop):Prop:=match l,c with | .vl (.int _ a),.vl (.int _ b)=>0<=a/\a<=b/\bytes*b.toNat<=281474976710656/\b.toNat<=maxLen/\K a.toNat | _,_=>False
def qat [NL] (k:Kd) (l:List PV) (A:Prop):Prop:=(∀ x ∈ l,q4D k x)/\A
def q9O [NL] (o:Option Bk) (k:Option Kd) (m:Option Nat) (i j:Nat) (x:PV) (K:Bk->Prop):Prop :=
 ∃ b k' u u',o=some b/\k=some k'/\m=some (ksz k')/\b.st=false/\q4D k' x/\b.xs[i]?=some u/\stU b.k k' j u x=some u'/\K { b with xs:=b.xs.set i u' }
def qoN [NL] (h:Hp) (k:Option Kd) (m:Option Nat) (p x:PV) (K:Nat->Bk->Prop):Prop:=match p with | .pt id i j=>q9O (h id) k m i j x (K id) | _=>False
def qja (o:Option Bk) (E:TypeId) (k k':Kd) (off n id:Nat) (K:List PV->Option Nat->Prop):Prop:=∃ b,o=some b/\(b.st=false/\b.T=E/\b.k=k/\k'=k/\off=0/\n=b.xs.length)/\K b.xs (some id)
def qh5 [NL] (h:Hp) (E:TypeId) (k:Kd) (p:PV) (K:List PV->Option Nat->Prop):Prop:=match p with
 | .vl (.slice none 0 0)=>K [] none
 | .ow id k' off n=>qja (h id) E k k' off n id K
 | .fm G=>∃ xs,ClP (.fm G) k xs/\K xs none
 | _=>False
def ysK (p:PV) (ys:List PV) [A:Cn Prop]:Prop:=match p with | .fm _=>ys≠[]/\A.k | _=>A.k
def qoP (h:Hp) (i0:Option Nat) (b:Bk):Hp:=match i0 with | none=>h | some i=>q0R h i b
def qj9 (o:Option Bk) (k k':Kd) (off n id:Nat) (K:List PV->List Nat->Prop):Prop:=∃ b,o=some b/\(b.st=false/\b.k=k/\k'=k)/\K ((b.xs.drop off).take n) [id]
def qem (h:Hp) (k:Kd) (p:PV) (K:List PV->List Nat->Prop):Prop:=match p with
 | .vl (.slice none 0 0)=>K [] []
 | .sl k' l=>k'=k/\K l []
 | .ow id k' off n=>qj9 (h id) k k' off n id K
 | _=>False
noncomputable def cO {α:Type} (p:Prop) (o:Option α):Option α:=open Classical in if p then o else none
def ClL (l:List PV):Prop:=∀ x ∈ l,Cld x
noncomputable def clB [h:Cn Hp] (o:Option Bk) (id:Nat) (k:Kd) (off n:Nat):Option (PV × List Nat):=open Classical in o.bind λb=>if b.st=false/\b.k=k/\∀ x ∈ b.xs,Cld x then some (.sl k ((b.xs.drop off).take n),[id]) else if b.st=false/\b.k=k then (q1L h.k b.xs).map λr=>(.sl k ((r.1.drop off).take n),id :: r.2) else none
noncomputable def cO2 {α:Type} (p:Prop) (o:Option α) [q:Cn (Option α)]:Option α:=open Classical in if p then o else q.k
def qdx (a:Option (PV × List Nat)) (b:Option (List PV × List Nat)):Option (List PV × List Nat):=a.bind λa=>b.map λb=>(a.1 :: b.1,a.2 ++ b.2)
def q4K [NL] (P:Program) (Tb:World->Prop) (f:FuncId) (o:Option (List PV × List Nat)) [K:Cn (PV->List Nat->Prop)]:Prop:=∃ al ids x,o=some (al,ids)/\AC P Tb f al x/\(ids=[]\/Nz x)/\K.k x ids
def qlU (o:Option Bk) (T:Option (Kd × PV)) (i:PV) (ok:Bool) (K:PV->Prop):Prop:=∃ T' l a k z,o=some ⟨T',some 0,[.tu (mpL l)],false⟩/\i=.vl (.int .i64 a)/\T=some (k,z)/\K (lkR z (q05 l a) ok)
def qoX (h:Hp) (T:Option (Kd × PV)) (m i:PV) (ok:Bool) (K:PV->Nat->Prop):Prop:=match m with | .mp id=>qlU (h id) T i ok λx=>K x id | _=>False
def qlT [NL] (o:Option Bk) (T:Option (Kd × PV)) (i x:PV) (K:Bk->Prop):Prop:=∃ T' l a k z,o=some ⟨T',some 0,[.tu (mpL l)],false⟩/\i=.vl (.int .i64 a)/\T=some (k,z)/\q4D k x/\K ⟨T',some 0,[.tu (mpL (q0v l a x))],false⟩
def qoT [NL] (h:Hp) (T:Option (Kd × PV)) (m i x:PV) (K:Nat->Bk->Prop):Prop:=match m with | .mp id=>qlT (h id) T i x (K id) | _=>False
def ao [NL] (P : Program) (Tb : World -> Prop) (d : Option Nat) (op : Op) (s : Nat -> PV) (h : Hp) (K : PV -> Hp -> FP -> Prop) : Prop := ∃ x h' fp, Stp P Tb ⟨d, op, 0, "", #[], none⟩ s h x h' fp /\ K x h' fp
def qtX (prs:List (Nat × Nat)) (acc:List FP):Prop:=chk prs acc.reverse
section
variable {P:Program} {Tb:World->Prop}
@[congr] theorem qrK {o o':Option Bk} {d:Nat} {A:Prop} (h:o=o'):nnK o d A=nnK o' d A:=by rw [h]
@[congr] theorem qo4 [NL] {k:Kd} {x x':PV} {A:Prop} (h:x=x'):q1K k x A=q1K k x' A:=by rw [h]
@[congr] theorem qo3 [NL] {k:Kd} {x x':List PV} {A:Prop} (h:x=x'):qat k x A=qat k x' A:=by rw [h]
@[congr] theorem vK_congr {x x':PV} {K:PV->Prop} (h:x=x'):vK x K=vK x' K:=by rw [h]
@[congr] theorem qrW {y:Nat} {l l' c c':PV} {K:Nat->Prop} (h:l=l') (h':c=c'):mkA y l c K=mkA y l' c' K:=by rw [h,h']
@[congr] theorem qoO [NL] {o o':Option Bk} {k k':Option Kd} {m m':Option Nat} {i j:Nat} {x:PV} {K:Bk->Prop} (h1:o=o') (h2:k=k') (h3:m=m'):q9O o k m i j x K=q9O o' k' m' i j x K:=by rw [h1,h2,h3]
@[congr] theorem qoM [NL] {h:Hp} {k k':Option Kd} {m m':Option Nat} {p p' x x':PV} {K:Nat->Bk->Prop} (h1:p=p') (h2:x=x'):qoN h k m p x K=qoN h k m p' x' K:=by rw [h1,h2]
@[congr] theorem qof {o o':Option Bk} {E:TypeId} {k k':Kd} {off n id:Nat} {K:List PV->Option Nat->Prop} (h:o=o'):qja o E k k' off n id K=qja o' E k k' off n id K:=by rw [h]
@[congr] theorem qog [NL] {h:Hp} {E:TypeId} {k:Kd} {p p':PV} {K:List PV->Option Nat->Prop} (h1:p=p'):qh5 h E k p K=qh5 h E k p' K:=by rw [h1]
@[congr] theorem qod {o o':Option Bk} {k k':Kd} {off n id:Nat} {K:List PV->List Nat->Prop} (h:o=o'):qj9 o k k' off n id K=qj9 o' k k' off n id K:=by rw [h]
@[congr] theorem qoe {h:Hp} {k:Kd} {p p':PV} {K:List PV->List Nat->Prop} (h1:p=p'):qem h k p K=qem h k p' K:=by rw [h1]
@[congr] theorem qoY {o o':Option Bk} {T T':Option (Kd × PV)} {i i':PV} {ok:Bool} {K:PV->Prop} (h:o=o') (h1:T=T') (h2:i=i'):qlU o T i ok K=qlU o' T' i' ok K:=by rw [h,h1,h2]
@[congr] theorem qoW {h:Hp} {T:Option (Kd × PV)} {m m' i i':PV} {ok:Bool} {K:PV->Nat->Prop} (h1:m=m') (h2:i=i'):qoX h T m i ok K=qoX h T m' i' ok K:=by rw [h1,h2]
@[congr] theorem qoU [NL] {o o':Option Bk} {T T':Option (Kd × PV)} {i i' x x':PV} {K:Bk->Prop} (h:o=o') (h1:T=T') (h2:i=i') (h3:x=x'):qlT o T i x K=qlT o' T' i' x' K:=by rw [h,h1,h2,h3]
@[congr] theorem qoS [NL] {h:Hp} {T:Option (Kd × PV)} {m m' i i' x x':PV} {K:Nat->Bk->Prop} (h1:m=m') (h2:i=i') (h3:x=x'):qoT h T m i x K=qoT h T m' i' x' K:=by rw [h1,h2,h3]
def q82:∀ {l l':List (Int × PV)},mpL l=mpL l'->l=l'
 | [],[],_=>rfl
 | [],q :: m,h=>by unfold mpL at h; simp at h
 | p :: l,[],h=>by unfold mpL at h; simp at h
 | p :: l,q :: m,h=>by
  unfold mpL at h;rw [v6,v6,yP.injEq] at h;obtain ⟨h1,h2⟩:=h;have:=q82 (l:=l) (l':=m) h2;obtain ⟨a,x⟩:=p;obtain ⟨b,y⟩:=q;unfold mPv at h1;simp at h1;rw [h1.1,h1.2,this]
def qrS {h:Hp} {T:Option (Kd × PV)} {id:Nat} {i:PV} {ok:Bool} {K:PV->Nat->Prop}:qoX h T (.mp id) i ok K=qlU (h id) T i ok λx=>K x id:=rfl
def qrO [NL] {h:Hp} {T:Option (Kd × PV)} {id:Nat} {i x:PV} {K:Nat->Bk->Prop}:qoT h T (.mp id) i x K=qlT (h id) T i x (K id):=rfl
def qrT {T:TypeId} {l:List (Int × PV)} {k:Kd} {z:PV} {a:Int} {ok:Bool} {K:PV->Prop}:qlU (some ⟨T,some 0,[.tu (mpL l)],false⟩) (some (k,z)) (.vl (.int .i64 a)) ok K=K (lkR z (q05 l a) ok):=by
 unfold qlU;refine propext ⟨?_,λh=>⟨_,_,_,_,_,rfl,rfl,rfl,h⟩⟩;rintro ⟨T',l',a',k',z',h1,h2,h3,h4⟩
 injection h1 with h1
 injection h1 with _ _ h1
 injection h1 with h1
 injection h1 with h1
 cases h2;cases h3;rw [q82 h1];exact h4
def qrP [NL] {T:TypeId} {l:List (Int × PV)} {k:Kd} {z x:PV} {a:Int} {K:Bk->Prop}:qlT (some ⟨T,some 0,[.tu (mpL l)],false⟩) (some (k,z)) (.vl (.int .i64 a)) x K=q1K k x (K ⟨T,some 0,[.tu (mpL (q0v l a x))],false⟩):=by
 unfold qlT q1K;refine propext ⟨?_,λh=>⟨_,_,_,_,_,rfl,rfl,rfl,h⟩⟩;rintro ⟨T',l',a',k',z',h1,h2,h3,h4⟩
 injection h1 with h1
 injection h1 with h0 _ h1
 injection h1 with h1
 injection h1 with h1
 cases h2;cases h3;rw [q82 h1,h0];exact h4
def lkR_t {z:PV} {o:Option PV}:lkR z o true=.tu [o.getD z,.vl (.bool o.isSome)]:=rfl
def lkR_f {z:PV} {o:Option PV}:lkR z o false=o.getD z:=rfl
@[congr] theorem ao_congr [NL] {d:Option Nat} {op:Op} {s:Nat->PV} {h:Hp} {K:PV->Hp->FP->Prop}:ao P Tb d op s h K=ao P Tb d op s h K:=rfl
@[congr] theorem AL_congr [NL] {ops l:List Oper} {K:(Nat->PV)->Hp->List FP->Prop} {s:Nat->PV} {h:Hp} {acc:List FP}:AL P Tb ops K l s h acc=AL P Tb ops K l s h acc:=rfl
@[congr] theorem AW_congr [NL] {J:Nat->Prop} {n:Nat} {c:Code} {Q:SQ} {s:Nat->PV} {h:Hp}:AW P Tb J n c Q s h=AW P Tb J n c Q s h:=rfl
def cK_t {A:Prop}:@cK True ⟨A⟩=A:=by simp [cK]
def qt4 {p A:Prop} (h:p):@cK p ⟨A⟩=A:=by simp [cK,h]
def nnK_n {A:Prop} {d:Nat}:nnK none d A=@cK (d < 5000) ⟨A⟩:=by simp [nnK,cK]
def oK_s {α:Type} {x:α} {K:α->Prop}:@oK _ (some x) ⟨K⟩=K x:=rfl
def vK_v {x:PV} {K:PV->Prop}:vK x K=K x:=rfl
def ldK_s {x:PV} {l:List Nat} {K:PV->List Nat->Prop}:@ldK (some (x,l)) ⟨K⟩=K x l:=rfl
def qqv {A B:Prop}:@pgA (some true) true ⟨A⟩ ⟨B⟩=A:=by simp [pgA]
def qqw {A B:Prop}:@pgA (some true) false ⟨A⟩ ⟨B⟩=B:=by simp [pgA]
def qqx {A B:Prop}:@pgA (some false) true ⟨A⟩ ⟨B⟩=B:=by simp [pgA]
def qqy {A B:Prop}:@pgA (some false) false ⟨A⟩ ⟨B⟩=A:=by simp [pgA]
def mkA_n {y n:Nat} {k k':IntKind} {K:Nat->Prop}:mkA y (.vl (.int k (n:Int))) (.vl (.int k' (n:Int))) K=@cK (y*n<=281474976710656/\n<=9223372036854775807) ⟨K n⟩:=by
 simp only [mkA,cK,xD,maxLen];exact propext ⟨λh=>⟨⟨h.2.2.1,h.2.2.2.1⟩,h.2.2.2.2⟩,λh=>⟨ω,Int.le_refl _,h.1.1,h.1.2,h.2⟩⟩
def mkA_z {y n:Nat} {k k':IntKind} {K:Nat->Prop}:mkA y (.vl (.int k 0)) (.vl (.int k' (n:Int))) K=@cK (y*n<=281474976710656/\n<=9223372036854775807) ⟨K 0⟩:=by
 simp only [mkA,cK,xD,maxLen];exact propext ⟨λh=>⟨⟨h.2.2.1,h.2.2.2.1⟩,h.2.2.2.2⟩,λh=>⟨ω,ω,h.1.1,h.1.2,h.2⟩⟩
def qd9 [NL] {k:IntKind} {z:Int} {A:Prop}:q1K none (.vl (.int k z)) A=@cK (q3f (.int k z)=true) ⟨A⟩:=by simp [q1K,q4D,qau,qid,cK,Value.oneCell']
def qsZ [NL] {b:Bool} {A:Prop}:q1K none (.vl (.bool b)) A=A:=by simp [q1K,q4D,qau,qid,Value.oneCell',nlo]
def qmK [NL] {a:Option Addr} {m c:Nat} {A:Prop}:q1K none (.vl (.slice a m c)) A=A:=by simp [q1K,q4D,qau,qid,Value.oneCell',nlo]
def qsS [NL] {k:Kd} {l:List PV} {A:Prop}:q1K none (.sl k l) A=A:=by simp [q1K,q4D,qau]
def qsV [NL] {id off m:Nat} {k:Kd} {A:Prop}:q1K none (.ow id k off m) A=A:=by simp [q1K,q4D,qau]
def qsW [NL] {id:Nat} {A:Prop}:q1K none (.mp id) A=A:=by simp [q1K,q4D,qau]
def qsU [NL] {id i j:Nat} {A:Prop}:q1K none (.pt id i j) A=A:=by simp [q1K,q4D,qau]
def qs0 [NL] {m:Nat} {l:List PV} {A:Prop} (h0:m≠0):q1K (some m) (.ag l) A=@cK (l.length=m) ⟨qat none l A⟩:=by
 have e:(m≠0)=True:=eq_true h0;simp only [q1K,q4D,cK,qat,and_assoc,e,true_and]
def q74 [NL] {k:Kd} {A:Prop}:qat k [] A=A:=by simp [qat]
def q75 [NL] {k:Kd} {x:PV} {l:List PV} {A:Prop}:qat k (x :: l) A=q1K k x (qat k l A):=by simp [qat,q1K,and_assoc]
def qsY [NL] {m:Nat} {G:Fam} {A:Prop} (hf:∀ D v w,In G D v w->q1z (some m) v) (h0:m≠0:=by decide):q1K (some m) (.fm G) A=A:=by simp only [q1K,q4D]; exact propext ⟨λh=>h.2,λh=>⟨⟨h0,hf⟩,h⟩⟩
def qp8 [NL] {h:Hp} {k:Option Kd} {m:Option Nat} {id i j:Nat} {x:PV} {K:Nat->Bk->Prop}:qoN h k m (.pt id i j) x K=q9O (h id) k m i j x (K id):=rfl
def qiR [NL] {T:TypeId} {k:Kd} {xs:List PV} {i:Nat} {x:PV} {K:Bk->Prop}:q9O (some ⟨T,k,xs,false⟩) (some k) (some (ksz k)) i 0 x K=@cK (i < xs.length) ⟨q1K k x (K ⟨T,k,xs.set i x,false⟩)⟩:=by
 simp only [q9O,cK,q1K];refine propext ⟨?_,?_⟩
 .rintro ⟨b,k',u,u',h1,h2,_,_,h5,h6,h7,h8⟩;cases h1; cases h2;have hlt:=(zC.1 h6).1;simp only [stU,and_self,if_true] at h7;cases h7;exact ⟨hlt,h5,h8⟩
 .rintro ⟨h1,h2,h3⟩;exact ⟨_,k,_,x,rfl,rfl,rfl,rfl,h2,zD h1,by simp [stU],h3⟩
def qk2 [NL] {T:TypeId} {xs:List PV} {i:Nat} {x:PV} {K:Bk->Prop}:q9O (some ⟨T,none,xs,false⟩) (some none) (some 1) i 0 x K=@cK (i < xs.length) ⟨q1K none x (K ⟨T,none,xs.set i x,false⟩)⟩:=qiR
def qk1 [NL] {T:TypeId} {m:Nat} {xs:List PV} {i:Nat} {x:PV} {K:Bk->Prop}:q9O (some ⟨T,some m,xs,false⟩) (some (some m)) (some m) i 0 x K=@cK (i < xs.length) ⟨q1K (some m) x (K ⟨T,some m,xs.set i x,false⟩)⟩:=qiR
def qpa [NL] {T:TypeId} {m j:Nat} {l:List PV} {x:PV} {K:Bk->Prop}:q9O (some ⟨T,some m,[.ag l],false⟩) (some none) (some 1) 0 j x K=@cK (j < l.length) ⟨q1K none x (K ⟨T,some m,[.ag (l.set j x)],false⟩)⟩:=by
 simp only [q9O,cK,q1K];refine propext ⟨?_,?_⟩
 .rintro ⟨b,k',u,u',h1,h2,_,_,h5,h6,h7,h8⟩;cases h1; cases h2;simp at h6;subst h6;unfold stU at h7;rw [if_neg σ] at h7;simp only at h7
  split at h7
  .cases h7; exact ⟨by assumption,h5,h8⟩
  .cases h7
 .rintro ⟨h1,h2,h3⟩;exact ⟨_,none,.ag l,.ag (l.set j x),rfl,rfl,rfl,rfl,h2,rfl,by unfold stU; rw [if_neg σ]; simp [h1],h3⟩
def qp9 [NL] {T:TypeId} {n m j:Nat} {l r:List PV} {K:Bk->Prop} (hn:n≠m):q9O (some ⟨T,some n,[.ag l],false⟩) (some (some m)) (some m) 0 j (.ag r) K=@cK (r.length=m/\j+m<=l.length) ⟨q1K (some m) (.ag r) (K ⟨T,some n,[.ag (l.take j ++ r ++ l.drop (j+m))],false⟩)⟩:=by
 have e:stU (some n) (some m) j (.ag l) (.ag r)=if r.length=m/\j+m<=l.length then some (.ag (l.take j ++ r ++ l.drop (j+m))) else none:=by
  unfold stU; rw [if_neg (by simp [hn])]
 simp only [q9O,cK,q1K];refine propext ⟨?_,?_⟩
 .rintro ⟨b,k',u,u',h1,h2,_,_,h5,h6,h7,h8⟩;cases h1; cases h2;simp at h6;subst h6;rw [e] at h7
  split at h7
  .cases h7; exact ⟨by assumption,h5,h8⟩
  .cases h7
 .rintro ⟨h1,h2,h3⟩;exact ⟨_,some m,.ag l,_,rfl,rfl,rfl,rfl,h2,rfl,by rw [e,if_pos h1],h3⟩
def ldU_b {a b c d:PV}:ldU (some 4) (some 2) 1 (.ag [a,b,c,d])=some (.ag [b,c]):=by simp [ldU]
def qtx [NL] {h:Hp} {E:TypeId} {k:Kd} {K:List PV->Option Nat->Prop}:qh5 h E k (.vl (.slice none 0 0)) K=K [] none:=rfl
def qjb [NL] {h:Hp} {E:TypeId} {k:Kd} {G:Fam} {xs:List PV} {K:List PV->Option Nat->Prop} (hc:ClP (.fm G) k xs) (hk:K xs none):qh5 h E k (.fm G) K:=⟨xs,hc,hk⟩
def qbT {p:PV} {ys:List PV} {A:Prop}:@ysK p ys ⟨A⟩ ↔ (qgC p->ys≠[])/\A:=by cases p <;> simp [ysK,qgC]
def qtv {h:Hp} {E:TypeId} {k:Kd} {p:PV} {r:List PV × Option Nat} (hf:qgC p):¬ apS h E k p=some r:=by cases p <;> simp [apS,qgC] at *
def ysK_v {x:Value} {ys:List PV} {A:Prop}:@ysK (.vl x) ys ⟨A⟩=A:=rfl
def ysK_o {id:Nat} {k:Kd} {off n:Nat} {ys:List PV} {A:Prop}:@ysK (.ow id k off n) ys ⟨A⟩=A:=rfl
def ysK_f {G:Fam} {y:PV} {ys:List PV} {A:Prop}:@ysK (.fm G) (y :: ys) ⟨A⟩=A:=by simp [ysK]
def qtw [NL] {h:Hp} {E:TypeId} {k k':Kd} {id off m:Nat} {K:List PV->Option Nat->Prop}:qh5 h E k (.ow id k' off m) K=qja (h id) E k k' off m id K:=rfl
def qtu {E:TypeId} {k:Kd} {xs:List PV} {id m:Nat} {K:List PV->Option Nat->Prop}:qja (some ⟨E,k,xs,false⟩) E k k 0 m id K=@cK (m=xs.length) ⟨K xs (some id)⟩:=by
 simp [qja,cK]
def qtt {h:Hp} {k:Kd} {K:List PV->List Nat->Prop}:qem h k (.vl (.slice none 0 0)) K=K [] []:=rfl
def qtr {h:Hp} {k:Kd} {l:List PV} {K:List PV->List Nat->Prop}:qem h k (.sl k l) K=K l []:=by simp [qem]
def qts {h:Hp} {k k':Kd} {id off m:Nat} {K:List PV->List Nat->Prop}:qem h k (.ow id k' off m) K=qj9 (h id) k k' off m id K:=rfl
def qtq {T:TypeId} {k:Kd} {xs:List PV} {off m id:Nat} {K:List PV->List Nat->Prop}:qj9 (some ⟨T,k,xs,false⟩) k k off m id K=K ((xs.drop off).take m) [id]:=by
 simp [qj9]
variable {d:Option Nat} {ty t:TypeId} {pos:String} {af:Array Edge} {g:Option (Nat × Bool)} {s:Nat->PV} {h:Hp} {K:PV->Hp->FP->Prop} {ops r:List Oper} {KL:(Nat->PV)->Hp->List FP->Prop} {acc:List FP} {dd:Nat}
def qvw [NL]:AL P Tb ops KL [] s h acc=KL s h acc:=rfl
def AL_n [NL] {op:Op}:AL P Tb ops KL (⟨d,op,ty,pos,af,none⟩ :: r) s h acc=ao P Tb d op s h λx h' fp=>AL P Tb ops KL r (q2b s d x) h' (fp :: acc):=rfl
def AL_g [NL] {op:Op} {j:Nat} {b:Bool}:AL P Tb ops KL (⟨d,op,ty,pos,af,some (j,b)⟩ :: r) s h acc=@pgA (q2Z ops s j b) b ⟨ao P Tb d op s h λx h' fp=>AL P Tb ops KL r (q2b s d x) h' (fp :: acc)⟩ ⟨AL P Tb ops KL r (q2b s d (.vl undef)) h (([],[]) :: acc)⟩:=by
 refine propext ⟨?_,λhp=>?_⟩
 .rintro ⟨x,h',fp,hg,hk⟩;unfold q6m at hg;simp only at hg;obtain ⟨c,hc,hg⟩:=hg;unfold pgA;rw [hc];simp only
  split at hg
  .rename_i hcb; rw [if_pos hcb]; exact ⟨x,h',fp,hg,hk⟩
  .rename_i hcb; rw [if_neg hcb]; obtain ⟨rfl,rfl,rfl⟩:=hg; exact hk
 .unfold pgA at hp
  split at hp
  .rename_i c hc
   split at hp
   .rename_i hcb;obtain ⟨x,h',fp,hg,hk⟩:=hp;exact ⟨x,h',fp,by unfold q6m; exact ⟨c,hc,by rw [if_pos hcb]; exact hg⟩,hk⟩
   .rename_i hcb;exact ⟨.vl undef,h,([],[]),by unfold q6m; exact ⟨c,hc,by rw [if_neg hcb]; exact ⟨rfl,rfl,rfl⟩⟩,hp⟩
  .exact hp.elim
def q3m {α:Type} {o:Option α} {K:α->Prop}:@oK _ o ⟨K⟩=∃ a,o=some a/\K a:=by
 cases o <;> simp [oK,q2E]
def q28 [NL] {op : Op} (hs : ∀ x h' fp, Stp P Tb ⟨d, op, 0, "", #[], none⟩ s h x h' fp = (q4J P op (pe s) = some x /\ h' = h /\ fp = ([], []))) : ao P Tb d op s h K = @oK _ (q4J P op (pe s)) ⟨λx => K x h ([], [])⟩ := by
 rw [q3m];unfold ao;refine propext ⟨?_,?_⟩
 .rintro ⟨x,h',fp,h1,h2⟩;rw [hs] at h1;obtain ⟨h1,rfl,rfl⟩:=h1;exact ⟨x,h1,h2⟩
 .rintro ⟨x,h1,h2⟩;exact ⟨x,h,([],[]),by rw [hs]; exact ⟨h1,rfl,rfl⟩,h2⟩
def qn9 [NL] {x}:ao P Tb d (.move x) s h K=vK (pe s x) λx=>K x h ([],[]):=q28 λ_ _ _=>rfl
def qeZ [NL] {x}:ao P Tb d (.assign x) s h K=vK (pe s x) λx=>K x h ([],[]):=q28 λ_ _ _=>rfl
def qn8 [NL] {c a b}:ao P Tb d (.pick c a b) s h K=@oK _ (pkP (pe s c) (pe s a) (pe s b)) ⟨λx=>K x h ([],[])⟩:=q28 λ_ _ _=>rfl
def qhb [NL] {op x y t'}:ao P Tb d (.binOp op t x y t') s h K=@oK _ (bnP P op t (pe s x) (pe s y)) ⟨λx=>K x h ([],[])⟩:=q28 λ_ _ _=>rfl
def qn7 [NL] {op x}:ao P Tb d (.unOp op t x) s h K=@oK _ (unP op (pe s x)) ⟨λx=>K x h ([],[])⟩:=q28 λ_ _ _=>rfl
def qbH [NL] {a b x}:ao P Tb d (.convert a b x) s h K=@oK _ (cvP (P.underlying a) (P.underlying b) (pe s x)) ⟨λx=>K x h ([],[])⟩:=q28 λ_ _ _=>rfl
def q7x [NL] {x f}:ao P Tb d (.fieldAddr t x f) s h K=@oK _ (qo2 P t f (pe s x)) ⟨λx=>K x h ([],[])⟩:=q28 λ_ _ _=>rfl
def qh9 [NL] {x i}:ao P Tb d (.field t x i) s h K=@oK _ (fdP P t i (pe s x)) ⟨λx=>K x h ([],[])⟩:=q28 λ_ _ _=>rfl
def qbG [NL] {x i}:ao P Tb d (.extract x i) s h K=@oK _ (exP i (pe s x)) ⟨λx=>K x h ([],[])⟩:=q28 λ_ _ _=>rfl
def q8t [NL] {x}:ao P Tb d (.nilCheck x) s h K=@oK _ (nlP (pe s x)) ⟨λx=>K x h ([],[])⟩:=q28 λ_ _ _=>rfl
def q7w [NL] {x i}:ao P Tb d (.indexAddr t x i) s h K=@oK _ (q9l (q0b P t) (pe s x) (pe s i)) ⟨λx=>K x h ([],[])⟩:=q28 λ_ _ _=>rfl
def qh8 [NL] {x lo hi}:ao P Tb d (.slice t x lo hi none) s h K=@oK _ (slP (q0b P t) (lo.map (pe s)) (hi.map (pe s)) (pe s x)) ⟨λx=>K x h ([],[])⟩:=q28 λ_ _ _=>rfl
def fnP_q [NL] {f:FuncId} {z:Int}:fnP (.func f) #[] [.qt none (.vl (.int .i64 z))]=some (.fm (fFun f z)):=rfl
def fnP_2 [NL] {f:FuncId} {k k':Kd} {x y:PV}:fnP (.func f) #[] [.qt k x,.qt k' y]=some (.fm (qhB f [.qt k x,.qt k' y])):=by
 unfold fnP
 split
 .rename_i h; cases h
 .rename_i h; cases h; rfl
 .rename_i h; exact (h _ _ _ _ rfl).elim
def quC [NL] {fn:Fn} {cap:List Operand} {first:Array Operand}:ao P Tb d (.makeFunc fn first cap.toArray) s h K=@oK _ (fnP fn first (cap.map (pe s))) ⟨λx=>K x h ([],[])⟩:=q28 λ_ _ _=>rfl
def qha [NL] {ps:List (Nat × Operand)}:ao P Tb d (.build t ps.toArray) s h K=@oK _ (blP P t (ps.map λp=>(p.1,pe s p.2))) ⟨λx=>K x h ([],[])⟩:=q28 λ_ _ _=>rfl
def quB [NL] {x}:ao P Tb d (.call ⟨.builtin .len,#[x],#[t]⟩) s h K=@oK _ (qo0 (q0b P t) (pe s x)) ⟨λx=>K x h ([],[])⟩:=q28 λ_ _ _=>rfl
def quA [NL] {x y ts}:ao P Tb d (.call ⟨.builtin .max,#[x,y],ts⟩) s h K=@oK _ (mmP true [pe s x,pe s y]) ⟨λx=>K x h ([],[])⟩:=q28 λ_ _ _=>rfl
def qtz [NL] {x y ts}:ao P Tb d (.call ⟨.builtin .min,#[x,y],ts⟩) s h K=@oK _ (mmP false [pe s x,pe s y]) ⟨λx=>K x h ([],[])⟩:=q28 λ_ _ _=>rfl
def qnb [NL] {a}:ao P Tb d (.load t a) s h K=@ldK (ldP h (q0Y P t) (pe s a)) ⟨λx l=>K x h (l,[])⟩:=by
 unfold ao ldK;refine propext ⟨?_,λhk=>?_⟩
 .rintro ⟨x,h',fp,⟨r,h1,rfl,rfl,rfl⟩,hk⟩;rw [h1];exact hk
 .split at hk
  .rename_i x l hl;exact ⟨x,h,(l,[]),⟨(x,l),hl,rfl,rfl,rfl⟩,hk⟩
  .exact hk.elim
def qhc [NL]:ao P Tb (some dd) (.alloc t) s h K=nnK (h dd) dd (@oK _ (alB P t) ⟨λb=>K (.pt dd 0 0) (q0R h dd b) ([],[dd])⟩):=by
 unfold ao nnK;rw [q3m];refine propext ⟨?_,?_⟩
 .rintro ⟨x,h',fp,⟨d,b,h1,h2,h3,rfl,rfl,rfl⟩,hk⟩;cases h1;exact ⟨h2,b,h3,hk⟩
 .rintro ⟨h2,b,h3,hk⟩;exact ⟨_,_,_,⟨dd,b,rfl,h2,h3,rfl,rfl,rfl⟩,hk⟩
def quI [NL] {v}:ao P Tb (some dd) (.box t v) s h K=nnK (h dd) dd (@oK _ (q0Y P t) ⟨λk=>vK (pe s v) λx=>q1K k x (K (.pt dd 0 0) (q0R h dd ⟨t,k,[x],false⟩) ([],[dd]))⟩):=by
 unfold ao nnK q1K vK;rw [q3m];refine propext ⟨?_,?_⟩
 .rintro ⟨x,h',fp,⟨d,k,h1,h2,h3,h4,rfl,rfl,rfl⟩,hk⟩;cases h1;exact ⟨h2,k,h3,h4,hk⟩
 .rintro ⟨h2,k,h3,h4,hk⟩;exact ⟨_,_,_,⟨dd,k,rfl,h2,h3,h4,rfl,rfl,rfl⟩,hk⟩
def qeY [NL] {len:Nat} {ps:List (Nat × Operand)} (hp:ps.map (·.1)=List.range len):ao P Tb (some dd) (.buildSlice t len ps.toArray) s h K=nnK (h dd) dd (@oK _ (elK P t) ⟨λe=>@cK (len*ksz e.2.1<=16777216) ⟨qat e.2.1 (ps.map λp=>pe s p.2) (K (.ow dd e.2.1 0 len) (q0R h dd ⟨e.1,e.2.1,ps.map λp=>pe s p.2,false⟩) ([],[dd]))⟩⟩):=by
 unfold ao nnK qat cK;rw [q3m];refine propext ⟨?_,?_⟩
 .rintro ⟨x,h',fp,⟨d,E,k,bytes,h1,h2,h3,h4,h5,h6,rfl,rfl,rfl⟩,hk⟩;cases h1;exact ⟨h2,(E,k,bytes),h3,h5,λx hx=>by obtain ⟨p,hp,rfl⟩:=yK.1 hx; exact h6 p hp,hk⟩
 .rintro ⟨h2,⟨E,k,bytes⟩,h3,h5,h6,hk⟩;exact ⟨_,_,_,⟨dd,E,k,bytes,rfl,h2,h3,hp,h5,λp hp=>h6 _ (yK.2 ⟨p,hp,rfl⟩),rfl,rfl,rfl⟩,hk⟩
def quH [NL]:ao P Tb (some dd) (.buildSlice t 0 #[]) s h K=nnK (h dd) dd (@oK _ (elK P t) ⟨λe=>K (.ow dd e.2.1 0 0) (q0R h dd ⟨e.1,e.2.1,[],false⟩) ([],[dd])⟩):=by
 have:=qeY (P:=P) (Tb:=Tb) (s:=s) (h:=h) (K:=K) (t:=t) (dd:=dd) (len:=0) (ps:=[]) rfl;simpa [oK,cK,qat] using this
def quG [NL] {a}:ao P Tb (some dd) (.buildSlice t 1 #[(0,a)]) s h K=nnK (h dd) dd (@oK _ (elK P t) ⟨λe=>@cK (ksz e.2.1<=16777216) ⟨vK (pe s a) λx=>q1K e.2.1 x (K (.ow dd e.2.1 0 1) (q0R h dd ⟨e.1,e.2.1,[x],false⟩) ([],[dd]))⟩⟩):=by
 have:=qeY (P:=P) (Tb:=Tb) (s:=s) (h:=h) (K:=K) (t:=t) (dd:=dd) (len:=1) (ps:=[(0,a)]) rfl;simpa [oK,cK,q75,q74,vK] using this
def quF [NL] {a b}:ao P Tb (some dd) (.buildSlice t 2 #[(0,a),(1,b)]) s h K=nnK (h dd) dd (@oK _ (elK P t) ⟨λe=>@cK (2*ksz e.2.1<=16777216) ⟨vK (pe s a) λx=>vK (pe s b) λy=>q1K e.2.1 x (q1K e.2.1 y (K (.ow dd e.2.1 0 2) (q0R h dd ⟨e.1,e.2.1,[x,y],false⟩) ([],[dd])))⟩⟩):=by
 have:=qeY (P:=P) (Tb:=Tb) (s:=s) (h:=h) (K:=K) (t:=t) (dd:=dd) (len:=2) (ps:=[(0,a),(1,b)]) rfl;simpa [oK,cK,q75,q74,vK] using this
def quE [NL] {a b c}:ao P Tb (some dd) (.buildSlice t 3 #[(0,a),(1,b),(2,c)]) s h K=nnK (h dd) dd (@oK _ (elK P t) ⟨λe=>@cK (3*ksz e.2.1<=16777216) ⟨vK (pe s a) λx=>vK (pe s b) λy=>vK (pe s c) λz=>q1K e.2.1 x (q1K e.2.1 y (q1K e.2.1 z (K (.ow dd e.2.1 0 3) (q0R h dd ⟨e.1,e.2.1,[x,y,z],false⟩) ([],[dd]))))⟩⟩):=by
 have:=qeY (P:=P) (Tb:=Tb) (s:=s) (h:=h) (K:=K) (t:=t) (dd:=dd) (len:=3) (ps:=[(0,a),(1,b),(2,c)]) rfl;simpa [oK,cK,q75,q74,vK] using this
def qna [NL] {l c}:ao P Tb (some dd) (.makeSlice t l c) s h K=nnK (h dd) dd (@oK _ (elZ P t) ⟨λe=>mkA e.2.2.1 (pe s l) (pe s c) λn=>K (.ow dd e.2.1 0 n) (q0R h dd ⟨e.1,e.2.1,List.replicate n e.2.2.2,false⟩) ([],[dd])⟩):=by
 unfold ao nnK;rw [q3m];refine propext ⟨?_,?_⟩
 .rintro ⟨x,h',fp,⟨d,E,k,bytes,z,kl,kc,n,m,h1,h2,h3,h4,h5,h8,h6,h7,rfl,rfl,rfl⟩,hk⟩;cases h1;refine ⟨h2,_,h3,?_⟩;unfold mkA;rw [h4,h5];exact ⟨ω,ω,by simpa using h6,by simpa using h7,by simpa using hk⟩
 .rintro ⟨h2,⟨E,k,bytes,z⟩,h3,hk⟩;unfold mkA at hk
  split at hk
  .rename_i kl a kc b ha hb;obtain ⟨k0,k1,k2,k3,hk⟩:=hk;have e1:((a.toNat:Nat):Int)=a:=ω
   have e2:((b.toNat:Nat):Int)=b:=ω
   exact ⟨_,_,_,⟨dd,E,k,bytes,z,kl,kc,a.toNat,b.toNat,rfl,h2,h3,by rw [e1]; exact ha,by rw [e2]; exact hb,ω,k2,k3,rfl,rfl,rfl⟩,hk⟩
  .exact hk.elim
def qbF [NL]:ao P Tb (some dd) (.makeMap t none) s h K=nnK (h dd) dd (K (.mp dd) (q0R h dd ⟨0,some 0,[.tu (mpL [])],false⟩) ([],[dd])):=by
 unfold ao nnK;refine propext ⟨?_,?_⟩
 .rintro ⟨x,h',fp,⟨d,_,h1,h2,rfl,rfl,rfl⟩,hk⟩;cases h1;exact ⟨h2,hk⟩
 .rintro ⟨h2,hk⟩;exact ⟨_,_,_,⟨dd,rfl,rfl,h2,rfl,rfl,rfl⟩,hk⟩
def qeX [NL] {m i ok}:ao P Tb d (.lookup t m i ok) s h K=qoX h (mpT P t) (pe s m) (pe s i) ok λx id=>K x h ([id],[]):=by
 unfold ao qoX;refine propext ⟨?_,λhk=>?_⟩
 .rintro ⟨x,h',fp,⟨id,T,l,a,k,z,h1,h2,h3,h4,rfl,rfl,rfl⟩,hk⟩;rw [h1];exact ⟨T,l,a,k,z,h2,h3,h4,hk⟩
 .split at hk
  .rename_i id h1;obtain ⟨T,l,a,k,z,h2,h3,h4,hk⟩:=hk;exact ⟨_,_,_,⟨id,T,l,a,k,z,h1,h2,h3,h4,rfl,rfl,rfl⟩,hk⟩
  .exact hk.elim
def q7v [NL] {m i v}:ao P Tb d (.mapUpdate t m i v) s h K=qoT h (mpT P t) (pe s m) (pe s i) (pe s v) λid b=>K (.vl undef) (q0R h id b) ([id],[id]):=by
 unfold ao qoT;refine propext ⟨?_,λhk=>?_⟩
 .rintro ⟨x,h',fp,⟨id,T,l,a,k,z,h1,h2,h3,h4,h5,rfl,rfl,rfl⟩,hk⟩;rw [h1];exact ⟨T,l,a,k,z,h2,h3,h4,h5,hk⟩
 .split at hk
  .rename_i id h1;obtain ⟨T,l,a,k,z,h2,h3,h4,h5,hk⟩:=hk;exact ⟨_,_,_,⟨id,T,l,a,k,z,h1,h2,h3,h4,h5,rfl,rfl,rfl⟩,hk⟩
  .exact hk.elim
def qh7 [NL] {a v}:ao P Tb d (.store t a v) s h K=qoN h (q0Y P t) (q0U P t) (pe s a) (pe s v) λid b=>K (.vl undef) (q0R h id b) ([id],[id]):=by
 unfold ao qoN q9O;refine propext ⟨?_,λhk=>?_⟩
 .rintro ⟨x,h',fp,⟨id,i,j,b,k,u,u',h1,h2,h3,h4,h5,h6,h7,h8,rfl,rfl,rfl⟩,hk⟩;rw [h1];exact ⟨b,k,u,u',h2,h4,h5,h3,h6,h7,h8,hk⟩
 .split at hk
  .rename_i id i j h1;obtain ⟨b,k,u,u',h2,h4,h5,h3,h6,h7,h8,hk⟩:=hk;exact ⟨_,_,_,⟨id,i,j,b,k,u,u',h1,h2,h3,h4,h5,h6,h7,h8,rfl,rfl,rfl⟩,hk⟩
  .exact hk.elim
def qe0 [NL] {sx xx}:ao P Tb (some dd) (.call ⟨.builtin .append,#[sx,xx],#[t,t]⟩) s h K=nnK (h dd) dd (@oK _ (elK P t) ⟨λe=>qh5 h e.1 e.2.1 (pe s sx) λxs i0=>qem h e.2.1 (pe s xx) λys ids=>@ysK (pe s sx) ys ⟨@cK ((xs.length+ys.length)*(e.2.2+1)<=140737488355328) ⟨K (.ow dd e.2.1 0 (xs.length+ys.length)) (q0R (qoP h i0 ⟨e.1,e.2.1,xs,true⟩) dd ⟨e.1,e.2.1,xs ++ ys,false⟩) (ids,dd :: i0.toList)⟩⟩⟩):=by
 have hL:∀ {E:TypeId} {k:Kd} {p:PV} {xs:List PV} {i0:Option Nat},apS h E k p=some (xs,i0)->qoP h i0 ⟨E,k,xs,true⟩=stl h i0:=λ{E k p xs i0} ha=>by
  unfold apS at ha
  split at ha
  .cases ha; rfl
  .obtain ⟨b,hb,hc⟩:=zB.1 ha
   split at hc
   .rename_i hcc;cases hc;obtain ⟨_,rfl,rfl,_⟩:=hcc;simp only [qoP,stl,hb]
   .cases hc
  .cases ha
 have hL2:∀ {E:TypeId} {k:Kd} {p:PV} {xs:List PV} {i0:Option Nat},(apS h E k p=some (xs,i0)\/(i0=none/\qgC p/\ClP p k xs))->qoP h i0 ⟨E,k,xs,true⟩=stl h i0:=λha=>by
  rcases ha with ha | ⟨rfl,_⟩
  .exact hL ha
  .rfl
 have hS:∀ {E:TypeId} {k:Kd} {p:PV} {K:List PV->Option Nat->Prop},qh5 h E k p K=∃ xs i0,(apS h E k p=some (xs,i0)\/(i0=none/\qgC p/\ClP p k xs))/\K xs i0:=λ{E k p K}=>by
  refine propext ⟨λhk=>?_,?_⟩
  .unfold qh5 at hk
   split at hk
   .exact ⟨[],none,.inl rfl,hk⟩
   .unfold qja at hk;obtain ⟨b,hb,hc,hk⟩:=hk;exact ⟨b.xs,some _,.inl (by unfold apS; simp only [hb,zF]; rw [if_pos hc]),hk⟩
   .obtain ⟨xs,hc,hk⟩:=hk;exact ⟨xs,none,.inr ⟨rfl,trivial,hc⟩,hk⟩
   .exact hk.elim
  .rintro ⟨xs,i0,ha | ⟨rfl,hf,hc⟩,hk⟩
   .unfold apS at ha
    split at ha
    .cases ha; exact hk
    .obtain ⟨b,hb,hc⟩:=zB.1 ha
     split at hc
     .rename_i hcc; cases hc; exact ⟨b,hb,hcc,hk⟩
     .cases hc
    .cases ha
   .cases p with
    | fm G=>exact ⟨xs,hc,hk⟩
    | _=>exact hf.elim
 have hX:∀ {k:Kd} {p:PV} {K:List PV->List Nat->Prop},qem h k p K=∃ xs ids,apX h k p=some (xs,ids)/\K xs ids:=λ{k p K}=>by
  refine propext ⟨λhk=>?_,?_⟩
  .unfold qem at hk
   split at hk
   .exact ⟨[],[],rfl,hk⟩
   .obtain ⟨rfl,hk⟩:=hk;exact ⟨_,[],by unfold apX; simp,hk⟩
   .unfold qj9 at hk;obtain ⟨b,hb,hc,hk⟩:=hk;exact ⟨_,_,by unfold apX; simp only [hb,zF]; rw [if_pos hc],hk⟩
   .exact hk.elim
  .rintro ⟨xs,ids,ha,hk⟩;unfold apX at ha
   split at ha
   .cases ha; exact hk
   .split at ha
    .rename_i hkk; cases ha; exact ⟨hkk,hk⟩
    .cases ha
   .obtain ⟨b,hb,hc⟩:=zB.1 ha
    split at hc
    .rename_i hcc; cases hc; exact ⟨b,hb,hcc,hk⟩
    .cases hc
   .cases ha
 unfold ao nnK cK;rw [q3m];refine propext ⟨?_,?_⟩
 .rintro ⟨x,h',fp,⟨sx',xx',T,d,E,k,bytes,xs,ys,i0,ids,h1,h2,h3,h4,h5,h6,h7,h8,rfl,rfl,rfl⟩,hk⟩;cases h1; cases h2; cases h3;refine ⟨h4,_,h5,?_⟩;rw [hS];have h6':apS h E k (pe s sx)=some (xs,i0)\/(i0=none/\qgC (pe s sx)/\ClP (pe s sx) k xs):=by
   rcases h6 with h6 | ⟨q1,_,q2⟩
   .exact .inl h6
   .exact .inr ⟨q1,q2⟩
  refine ⟨xs,i0,h6',?_⟩;rw [hX];exact ⟨ys,ids,h7,qbT.2 ⟨λhf=>(show apS h E k (pe s sx)=some (xs,i0)\/(i0=none/\ys≠[]/\qgC (pe s sx)/\ClP (pe s sx) k xs) from h6).elim (λq=>absurd q (qtv hf)) λq=>q.2.1,h8,by rw [hL2 h6']; exact hk⟩⟩
 .rintro ⟨h4,⟨E,k,bytes⟩,h5,hk⟩;rw [hS] at hk;obtain ⟨xs,i0,h6,hk⟩:=hk;rw [hX] at hk;obtain ⟨ys,ids,h7,hk⟩:=hk;obtain ⟨hy,h8,hk⟩:=qbT.1 hk;simp only at hk;rw [hL2 h6] at hk;exact ⟨_,_,_,⟨sx,xx,t,dd,E,k,bytes,xs,ys,i0,ids,rfl,rfl,rfl,h4,h5,(show apW h E k (pe s sx) ys xs i0 from h6.elim .inl λq=>.inr ⟨q.1,hy q.2.1,q.2⟩),h7,h8,rfl,rfl,rfl⟩,hk⟩
def qnc [NL] {f} {xs:List Operand} {ts}:ao P Tb d (.call ⟨.value (.func f),xs.toArray,ts⟩) s h K=@q4K _ P Tb f (q2P h (xs.map (pe s))) ⟨λx ids=>K x h (ids,[])⟩:=by
 unfold ao q4K;refine propext ⟨?_,?_⟩
 .rintro ⟨x,h',fp,⟨al,ids,h1,h2,h3,rfl,rfl⟩,hk⟩;exact ⟨al,ids,x,by simpa using h1,h2,h3,hk⟩
 .rintro ⟨al,ids,x,h1,h2,h3,hk⟩;exact ⟨x,h,(ids,[]),⟨al,ids,by simpa using h1,h2,h3,rfl,rfl⟩,hk⟩
def qdf [NL] (P:Program) (Tb:World->Prop) (h:Hp) (v:PV) (xs:List PV) [K:Cn (PV->List Nat->Prop)]:Prop:=∃ f ys,FnP v f ys/\@q4K _ P Tb f (q2P h (xs ++ ys)) K
def q4X [NL] {v:PV} {xs:List PV} {f:FuncId} {ys:List PV} {K:Cn (PV->List Nat->Prop)} (hv:FnP v f ys) (hc:@q4K _ P Tb f (q2P h (xs ++ ys)) K):@qdf _ P Tb h v xs K:=⟨f,ys,hv,hc⟩
def qnv [NL] {f:FuncId}:FnP (.vl (.func (.func f) #[] #[])) f []:=λw D ρ h v hv=>by
 unfold Rd at hv;exact ⟨[],hv,by unfold RdL; rfl⟩
def FnP_f [NL] {f:FuncId} {z:Int}:FnP (.fm (fFun f z)) f [.qt none (.vl (.int .i64 z))]:=λw D ρ h v hv=>by
 unfold Rd at hv;obtain ⟨ad,rfl,h1,h2⟩:=hv;refine ⟨[.pointer (some ad)],rfl,RdL.one ?_⟩;unfold Rd;refine ⟨ad,_,rfl,h1,by unfold Rd; rfl,⟨⟨rfl,rfl,nlo⟩,xX⟩,λj u hu=>?_⟩;cases j with
 | zero=>rw [add_zero,h2]; simpa [Value.cells] using hu
 | succ j=>simp [Value.cells] at hu
def FnP_2 [NL] {f:FuncId} {l:List PV}:FnP (.fm (qhB f l)) f l:=λw D ρ h v hv=>by
 unfold Rd at hv;obtain ⟨vs,h1,h2⟩:=hv;exact ⟨vs,h1,h2.cl⟩
def qaO [NL] {t:Nat} {xs:List Operand} {ts}:ao P Tb d (.call ⟨.value (.tmp t),xs.toArray,ts⟩) s h K=@qdf _ P Tb h (s t) (xs.map (pe s)) ⟨λx ids=>K x h (ids,[])⟩:=by
 unfold ao qdf q4K;refine propext ⟨?_,?_⟩
 .rintro ⟨x,h',fp,⟨f,ys,al,ids,h0,h1,h2,h3,rfl,rfl⟩,hk⟩;exact ⟨f,ys,h0,al,ids,x,by simpa using h1,h2,h3,hk⟩
 .rintro ⟨f,ys,h0,al,ids,x,h1,h2,h3,hk⟩;exact ⟨x,h,(ids,[]),⟨f,ys,al,ids,h0,by simpa using h1,h2,h3,rfl,rfl⟩,hk⟩
def q0K [NL] {f:FuncId} {al:List PV} {x:PV} {K:PV->List Nat->Prop} (hc:AC P Tb f al x) (hk:K x []):@q4K _ P Tb f (some (al,[])) ⟨K⟩:=⟨al,[],x,rfl,hc,.inl rfl,hk⟩
def q34 [NL] {f:FuncId} {al:List PV} {x:PV} {ids:List Nat} {K:PV->List Nat->Prop} (hc:AC P Tb f al x) (hz:Nz x) (hk:K x ids):@q4K _ P Tb f (some (al,ids)) ⟨K⟩:=⟨al,ids,x,rfl,hc,.inr hz,hk⟩
end
attribute [irreducible] cK oK nnK q1K qat vK ldK pgA mkA q9O qoN qlU qoX qlT qoT qja qh5 ysK qj9 qem q4K qdf ao
section
variable {P:Program} {s:Nat->PV} {h:Hp} {i j:Nat} {k k':Kd} {x y:PV} {l m:List PV} {b:Bk}
def pe_t {t:Nat}:pe s (.tmp t)=s t:=rfl
def pe_c {v:Value}:pe s (.const v)=.vl v:=rfl
def qqp {d:Nat}:q2b s (some d) x=pu s d x:=rfl
def qqq:q2b s none x=s:=rfl
def pu_ap {d t:Nat}:pu s d x t=if t=d then x else s t:=rfl
def qll:q0R h i b j=if j=i then some b else h j:=rfl
def h0_ap:h0 i=none:=rfl
def enP_z:enP (x :: l) 0=x:=rfl
def enP_s:enP (x :: l) (i+1)=enP l i:=rfl
def stK_c {xs:List (Nat × PV)} {ks:List Nat} {t a:Nat}:stK ((a,x) :: xs) ks s t=if t=a then x else stK xs ks s t:=by
 show (match (if t=a then some x else lkP xs t) with | some x=>x | none=>if kin ks t then s t else .un)=_
 by_cases ht:t=a
 .simp only [ht,if_true]
 .simp only [ht,if_false]; rfl
def stK_n {ks:List Nat} {t:Nat}:stK [] ks s t=if kin ks t then s t else .un:=rfl
def kin_c {ks:List Nat} {t a:Nat}:kin (a :: ks) t=if t=a then true else kin ks t:=rfl
def kin_n {t:Nat}:kin [] t=false:=rfl
def hpK_c {bs:List (Nat × Bk)} {kb:List Nat} {t a:Nat}:hpK ((a,b) :: bs) kb h t=if t=a then some b else hpK bs kb h t:=by
 show (match (if t=a then some b else lkB bs t) with | some b=>some b | none=>if kin kb t then h t else none)=_
 by_cases ht:t=a
 .simp only [ht,if_true]
 .simp only [ht,if_false]; rfl
def hpK_n {kb:List Nat} {t:Nat}:hpK [] kb h t=if kin kb t then h t else none:=rfl
def ksz_n:ksz none=1:=rfl
def ksz_s {n:Nat}:ksz (some n)=n:=rfl
def qpc:qoP h none b=h:=rfl
def qpb {id:Nat}:qoP h (some id) b=q0R h id b:=rfl
def bn_v {op:BinOp} {t:TypeId} {a c:Value}:bnP P op t (.vl a) (.vl c)=(q0k P op t a c).map .vl:=rfl
def bn_n {t E:TypeId} {c d:Nat} (hu:P.underlying t=some (.slice E)) (hk:0 < ksz k):bnP P .eql t (.sl k l) (.vl (.slice none c d))=some (.fm (fNil l.length)):=by simp only [bnP,hu]; rw [if_pos hk]
def un_v {op:UnOp} {a:Value}:unP op (.vl a)=(unV op a).map .vl:=rfl
def cv_v {s d:Option TypeDesc} {a:Value}:cvP s d (.vl a)=(qax s d a).map .vl:=rfl
def pk_t:pkP (.vl (.bool true)) x y=some x:=rfl
def pk_f:pkP (.vl (.bool false)) x y=some y:=rfl
def fld_p {t:TypeId} {f:Nat} {a:Nat}:qo2 P t f (.pt a i j)=(q1x P t f).map λr=>.pt a i (j+r.1):=rfl
def ex_t:exP i (.tu l)=l[i]?:=rfl
def nl_p {a:Nat}:nlP (.pt a i j)=some (.pt a i j):=rfl
def nl_q:nlP (.qt k x)=some (.qt k x):=rfl
def mm_v {b:Bool} {a c:Value}:mmP b [.vl a,.vl c]=(mmV b [a,c]).map .vl:=rfl
def qry {n:Nat}:qo0 (some n) (.sl k l)=some (.vl (.int .i64 l.length)):=rfl
def qrz {n a c d:Nat}:qo0 (some n) (.ow a k c d)=some (.vl (.int .i64 d)):=rfl
def qrx {n a c:Nat} {A:Option Addr}:qo0 (some n) (.vl (.slice A a c))=some (.vl (.int .i64 a)):=rfl
def qdD {kk:IntKind} {n:Nat}:q9l (some 1) (.sl none l) (.vl (.int kk (n:Int)))=(l[n]?).map (.qt none):=by
 simp [q9l,ksz]
def ql9 {kk:IntKind} {n c:Nat} (hc:0 < c):q9l (some c) (.sl (some c) l) (.vl (.int kk (n:Int)))=(l[n]?).map (.qt (some c)):=by
 simp [q9l,ksz,hc]
def qdE {kk:IntKind} {a off c n:Nat} (hn:n < c):q9l (some 1) (.ow a none off c) (.vl (.int kk (n:Int)))=some (.pt a (off+n) 0):=by
 simp [q9l,ksz,hn]
def qlb {kk:IntKind} {a off c n e:Nat} (hn:n < c):q9l (some e) (.ow a (some e) off c) (.vl (.int kk (n:Int)))=some (.pt a (off+n) 0):=by
 simp [q9l,ksz,hn]
def ld_p {a:Nat} {K:PV->List Nat->Prop}:@ldK (ldP h (some k) (.pt a i j)) ⟨K⟩=@ldK ((h a).bind λb=>if b.st=true\/ksz k=0 then none else ((b.xs[i]?).bind (ldU b.k k j)).map λx=>(x,[a])) ⟨K⟩:=by
 congr 1
 cases hh:h a <;> simp [ldP,hh]
def ld_q {K:PV->List Nat->Prop}:@ldK (ldP h (some k) (.qt k' x)) ⟨K⟩=@ldK (if ksz k=0 then none else (ldU k' k 0 x).map λy=>(y,[])) ⟨K⟩:=rfl
def ldU_s:ldU k k 0 x=some x:=by simp [ldU]
def ldU_c {n:Nat}:ldU (some n) none j (.ag l)=l[j]?:=by simp [ldU]
def py_s {o:Oper} {os:List Oper} {b:Bool}:q2Z (o :: os) s (j+1) b=q2Z os s j b:=rfl
def qfe (b:Bool):PV->Option Bool | .vl (.bool c)=>some c | .vl (.tuple _)=>some (!b) | _=>none
def py_z {d:Nat} {op:Op} {ty:TypeId} {pos:String} {af:Array Edge} {g:Option (Nat × Bool)} {os:List Oper} {b:Bool}:q2Z (⟨some d,op,ty,pos,af,g⟩ :: os) s 0 b=qfe b (s d):=rfl
def qlG {b c:Bool}:qfe c (.vl (.bool b))=some b:=rfl
def qlE:qfe true (.vl undef)=some false:=rfl
def qlF:qfe false (.vl undef)=some true:=rfl
def qtI:q2P h []=some ([],[]):=rfl
def qtJ:q2P h (x :: l)=qdx (clo h x) (q2P h l):=rfl
def qhQ {a b:List Nat}:qdx (some (x,a)) (some (l,b))=some (x :: l,a ++ b):=rfl
def qtK {v:Value}:clo h (.vl v)=some (.vl v,[]):=by simp [clo,q32,q25]
def qtQ {G:Fam}:clo h (.fm G)=some (.fm G,[]):=by simp [clo,q32,q25]
def qtM:clo h (.sl k l)=some (.sl k l,[]):=by simp [clo,q32,q25]
def qtN:clo h (.qt k x)=some (.qt k x,[]):=by simp [clo,q32,q25]
def qtL:clo h .un=some (.un,[]):=by simp [clo,q32,q25]
def qtO {a off c:Nat}:clo h (.ow a k off c)=@clB ⟨h⟩ (h a) a k off c:=by simp only [clo,q32,clB]
def clB_s {a off c:Nat} {T:TypeId}:@clB ⟨h⟩ (some ⟨T,k,l,false⟩) a k off c=@cO2 _ (ClL l) (some (.sl k ((l.drop off).take c),[a])) ⟨(q1L h l).map λr=>(.sl k ((r.1.drop off).take c),a :: r.2)⟩:=by
 unfold clB cO2 ClL;simp only [zF]
 by_cases hc:∀ x ∈ l,Cld x
 .rw [if_pos ⟨rfl,rfl,hc⟩,if_pos hc]
 .rw [if_neg λh=>hc h.2.2,if_neg hc,if_pos σ]
noncomputable def q5W (h:Hp) (n R:Nat) (K:Kd) (f:Nat->Nat):Option (List PV × List Nat):=q1L h ((List.range n).map λj=>.ow (j+R) K 0 (f j))
def clB_T {a off c n R:Nat} {T:TypeId} {K:Kd} {f:Nat->Nat}:@clB ⟨h⟩ (some ⟨T,none,(List.range n).map λj=>.ow (j+R) K 0 (f j),false⟩) a none off c=(q5W h n R K f).map λr=>(.sl none ((r.1.drop off).take c),a :: r.2):=by
 unfold clB q5W;simp only [zF]
 split
 .rename_i hc;have:n=0:=by
   rcases yN n with h | h
   .exact h
   .have:=hc.2.2 _ (List.mem_map_of_mem (yV.2 h));simp [Cld,q25] at this
  subst this;simp [q1L]
 .rw [if_pos σ]
def cO_t {α:Type} {o:Option α}:cO True o=o:=by simp [cO]
def cO2_t {α:Type} {o:Option α} [Cn (Option α)]:cO2 True o=o:=by simp [cO2]
def qtR:clo h (.ag l)=(q3B h l).map λr=>(.ag r.1,r.2):=rfl
def qmf:q3B h []=some ([],[]):=rfl
def qmg:q3B h (x :: l)=qdx (q32 h x) (q3B h l):=rfl
def qmj {v:Value}:q32 h (.vl v)=some (.vl v,[]):=by simp [q32,q25]
def qmn {G:Fam}:q32 h (.fm G)=some (.fm G,[]):=by simp [q32,q25]
def qmk:q32 h (.sl k l)=some (.sl k l,[]):=by simp [q32,q25]
def qml {a off c:Nat}:q32 h (.ow a k off c)=@clB ⟨h⟩ (h a) a k off c:=by simp only [q32,clB]
def qjp {v:Value}:Cld (.vl v)=True:=by simp [Cld,q25]
def qjr {G:Fam}:Cld (.fm G)=True:=by simp [Cld,q25]
def qjq:Cld (.sl k l)=True:=by simp [Cld,q25]
def qvj:ClL []=True:=by simp [ClL]
def qvk:ClL (x :: l)=(Cld x/\ClL l):=by simp [ClL]
def qvl:ClL (l ++ m)=(ClL l/\ClL m):=by
 simp only [ClL,zO];exact propext ⟨λh=>⟨λx hx=>h x (.inl hx),λx hx=>h x (.inr hx)⟩,λh x hx=>hx.elim (h.1 x) (h.2 x)⟩
def qny {α:Type} {f:α->PV} {q:List α}:ClL (q.map f)=∀ a ∈ q,Cld (f a):=by simp [ClL]
def qaV {α:Type} {f:α->Value} {q:List α}:ClL (q.map λa=>.vl (f a))=True:=by simp [ClL,Cld,q25]
def qnw {n:Nat}:ClL (List.replicate n x)=(n=0\/Cld x):=by
 simp only [ClL,yE];refine propext ⟨λh=>?_,λh y hy=>?_⟩
 .by_cases hn:n=0
  .exact .inl hn
  .exact .inr (h x ⟨hn,rfl⟩)
 .rw [hy.2]; exact h.resolve_left hy.1
def rsP_t {t:Nat}:rsP P h s (.tmp t)=some (s t):=rfl
def qj6 {t:TypeId} {ps:List (Nat × PV)} {pl:List (Nat × Nat)} {z:List Value} (hp:plc P t=some (pl,z)):blP P t ps=(flP pl (z.map .vl) ps).map .ag:=by unfold blP; rw [hp]; rfl
def qtV {acc:List FP}:qtX [] acc=True:=by simp [qtX,chk]
end
instance nNL:NL:=⟨λv=>match v with | .int .u32 _=>false | _=>true,λv h=>by split <;> first | exact absurd rfl (h _) | rfl⟩
end Go.E
namespace Go.Proofs.YtbjoghfmhgadkaaGreatDoor
open Go Go.E
set_option maxRecDepth 100000
def elK22:elK Tryz.prog 22=some (31,none,8):=κ
def elZ22:elZ Tryz.prog 22=some (31,none,8,.vl (.int .u64 0)):=κ
def elK23:elK Tryz.prog 23=some (3,none,8):=κ
def elZ23:elZ Tryz.prog 23=some (3,none,8,.vl (.int .i64 0)):=κ
def elK24:elK Tryz.prog 24=some (32,none,8):=κ
def elZ24:elZ Tryz.prog 24=some (32,none,8,.vl (.int .u64 0)):=κ
def elK84:elK Tryz.prog 84=some (24,none,24):=κ
def elZ84:elZ Tryz.prog 84=some (24,none,24,.vl (.slice none 0 0)):=κ
def elK87:elK Tryz.prog 87=some (46,some 4,48):=κ
def elZ87:elZ Tryz.prog 87=some (46,some 4,48,.ag [.vl (.bool false),.vl (.bool false),.vl (.slice none 0 0),.vl (.int .i64 0)]):=κ
def qss:elK Tryz.prog 134=some (4,none,1):=κ
def qso:elZ Tryz.prog 134=some (4,none,1,.vl (.bool false)):=κ
def qsr:elK Tryz.prog 145=some (216,none,8):=κ
def qsn:elZ Tryz.prog 145=some (216,none,8,.vl (.map none)):=κ
def qsq:elK Tryz.prog 146=some (205,some 2,48):=κ
def qsm:elZ Tryz.prog 146=some (205,some 2,48,.ag [.vl (.slice none 0 0),.vl (.slice none 0 0)]):=κ
def qsp:elK Tryz.prog 209=some (214,some 6,64):=κ
def qsl:elZ Tryz.prog 209=some (214,some 6,64,.ag [.vl (.int .i64 0),.vl (.bool false),.vl (.bool false),.vl (.slice none 0 0),.vl (.int .i64 0),.vl (.int .u64 0)]):=κ
def alB3:alB Tryz.prog 3=some ⟨3,none,[.vl (.int .i64 0)],false⟩:=κ
def alB26:alB Tryz.prog 26=some ⟨26,some 5,[.ag [.vl (.int .i64 0),.vl (.int .i64 0),.vl (.slice none 0 0),.vl (.slice none 0 0),.vl (.slice none 0 0)]],false⟩:=κ
def alB42:alB Tryz.prog 42=some ⟨42,some 2,[.ag [.vl (.bool false),.vl (.slice none 0 0)]],false⟩:=κ
def alB46:alB Tryz.prog 46=some ⟨46,some 4,[.ag [.vl (.bool false),.vl (.bool false),.vl (.slice none 0 0),.vl (.int .i64 0)]],false⟩:=κ
def alB63:alB Tryz.prog 63=some ⟨63,some 8,[.ag [.vl (.slice none 0 0),.vl (.slice none 0 0),.vl (.slice none 0 0),.vl (.slice none 0 0),.vl (.slice none 0 0),.vl (.slice none 0 0),.vl (.slice none 0 0),.vl (.slice none 0 0)]],false⟩:=κ
def quQ:alB Tryz.prog 148=some ⟨148,some 11,[.ag [.vl (.int .i64 0),.vl (.int .i64 0),.vl (.slice none 0 0),.vl (.slice none 0 0),.vl (.slice none 0 0),.vl (.slice none 0 0),.vl (.slice none 0 0),.vl (.slice none 0 0),.vl (.slice none 0 0),.vl (.slice none 0 0),.vl (.slice none 0 0)]],false⟩:=κ
def quP:alB Tryz.prog 202=some ⟨202,some 1,[.ag [.vl (.map none)]],false⟩:=κ
def quO:alB Tryz.prog 205=some ⟨205,some 2,[.ag [.vl (.slice none 0 0),.vl (.slice none 0 0)]],false⟩:=κ
def quN:alB Tryz.prog 214=some ⟨214,some 6,[.ag [.vl (.int .i64 0),.vl (.bool false),.vl (.bool false),.vl (.slice none 0 0),.vl (.int .i64 0),.vl (.int .u64 0)]],false⟩:=κ
def quM:alB Tryz.prog 240=some ⟨240,some 5,[.ag [.vl (.bool false),.vl (.bool false),.vl (.slice none 0 0),.vl (.int .i64 0),.vl (.bool false)]],false⟩:=κ
def quL:alB Tryz.prog 273=some ⟨273,some 32,[.ag [.vl (.int .u8 0),.vl (.int .u8 0),.vl (.int .u8 0),.vl (.int .u8 0),.vl (.int .u8 0),.vl (.int .u8 0),.vl (.int .u8 0),.vl (.int .u8 0),.vl (.int .u8 0),.vl (.int .u8 0),.vl (.int .u8 0),.vl (.int .u8 0),.vl (.int .u8 0),.vl (.int .u8 0),.vl (.int .u8 0),.vl (.int .u8 0),.vl (.int .u8 0),.vl (.int .u8 0),.vl (.int .u8 0),.vl (.int .u8 0),.vl (.int .u8 0),.vl (.int .u8 0),.vl (.int .u8 0),.vl (.int .u8 0),.vl (.int .u8 0),.vl (.int .u8 0),.vl (.int .u8 0),.vl (.int .u8 0),.vl (.int .u8 0),.vl (.int .u8 0),.vl (.int .u8 0),.vl (.int .u8 0)]],false⟩:=κ
def quK:alB Tryz.prog 298=some ⟨298,none,[.vl (.int .u64 0)],false⟩:=κ
def qgc:q1x Tryz.prog 26 0=some (0,none):=κ
def qgb:q1x Tryz.prog 26 1=some (1,none):=κ
def qga:q1x Tryz.prog 26 2=some (2,none):=κ
def qg9:q1x Tryz.prog 26 3=some (3,none):=κ
def qg8:q1x Tryz.prog 26 4=some (4,none):=κ
def qg7:q1x Tryz.prog 42 0=some (0,none):=κ
def qg6:q1x Tryz.prog 42 1=some (1,none):=κ
def qg5:q1x Tryz.prog 46 0=some (0,none):=κ
def qg4:q1x Tryz.prog 46 1=some (1,some 2):=κ
def qg3:q1x Tryz.prog 46 2=some (3,none):=κ
def qg2:q1x Tryz.prog 63 0=some (0,none):=κ
def qg1:q1x Tryz.prog 63 1=some (1,none):=κ
def qg0:q1x Tryz.prog 63 2=some (2,none):=κ
def qgZ:q1x Tryz.prog 63 3=some (3,none):=κ
def qgY:q1x Tryz.prog 63 4=some (4,none):=κ
def qgX:q1x Tryz.prog 63 5=some (5,none):=κ
def qgW:q1x Tryz.prog 63 6=some (6,none):=κ
def qgV:q1x Tryz.prog 63 7=some (7,none):=κ
def qd8:q1x Tryz.prog 148 0=some (0,some 5):=κ
def qd7:q1x Tryz.prog 148 1=some (5,none):=κ
def qd6:q1x Tryz.prog 148 2=some (6,none):=κ
def qd5:q1x Tryz.prog 148 3=some (7,none):=κ
def qd4:q1x Tryz.prog 148 4=some (8,none):=κ
def qd3:q1x Tryz.prog 148 5=some (9,none):=κ
def qd2:q1x Tryz.prog 148 6=some (10,none):=κ
def qd1:q1x Tryz.prog 202 0=some (0,none):=κ
def qd0:q1x Tryz.prog 205 0=some (0,none):=κ
def qdZ:q1x Tryz.prog 205 1=some (1,none):=κ
def qdY:q1x Tryz.prog 214 0=some (0,none):=κ
def qdX:q1x Tryz.prog 214 1=some (1,some 4):=κ
def qdW:q1x Tryz.prog 214 2=some (5,none):=κ
def qdV:q1x Tryz.prog 240 0=some (0,none):=κ
def qdU:q1x Tryz.prog 240 1=some (1,some 2):=κ
def qdT:q1x Tryz.prog 240 2=some (3,none):=κ
def qdS:q1x Tryz.prog 240 3=some (4,none):=κ
def plc26:plc Tryz.prog 26=some ([(0,1),(1,1),(2,1),(3,1),(4,1)],[.int .i64 0,.int .i64 0,.slice none 0 0,.slice none 0 0,.slice none 0 0]):=κ
def plc42:plc Tryz.prog 42=some ([(0,1),(1,1)],[.bool false,.slice none 0 0]):=κ
def plc46:plc Tryz.prog 46=some ([(0,1),(1,2),(3,1)],[.bool false,.bool false,.slice none 0 0,.int .i64 0]):=κ
def plc63:plc Tryz.prog 63=some ([(0,1),(1,1),(2,1),(3,1),(4,1),(5,1),(6,1),(7,1)],[.slice none 0 0,.slice none 0 0,.slice none 0 0,.slice none 0 0,.slice none 0 0,.slice none 0 0,.slice none 0 0,.slice none 0 0]):=κ
def qqu:plc Tryz.prog 148=some ([(0,5),(5,1),(6,1),(7,1),(8,1),(9,1),(10,1)],[.int .i64 0,.int .i64 0,.slice none 0 0,.slice none 0 0,.slice none 0 0,.slice none 0 0,.slice none 0 0,.slice none 0 0,.slice none 0 0,.slice none 0 0,.slice none 0 0]):=κ
def qqt:plc Tryz.prog 202=some ([(0,1)],[.map none]):=κ
def qqs:plc Tryz.prog 214=some ([(0,1),(1,4),(5,1)],[.int .i64 0,.bool false,.bool false,.slice none 0 0,.int .i64 0,.int .u64 0]):=κ
def qqr:plc Tryz.prog 240=some ([(0,1),(1,2),(3,1),(4,1)],[.bool false,.bool false,.slice none 0 0,.int .i64 0,.bool false]):=κ
attribute [go_sem] elK22 elZ22 elK23 elZ23 elK24 elZ24 elK84 elZ84 elK87 elZ87 qss qso qsr qsn qsq qsm qsp qsl
attribute [go_sem] alB3 alB26 alB42 alB46 alB63 quQ quP quO quN quM quL quK qgc qgb qga qg9 qg8
attribute [go_sem] qg7 qg6 qg5 qg4 qg3 qg2 qg1 qg0 qgZ qgY qgX qgW qgV qd8 qd7 qd6 qd5 qd4 qd3 qd2
attribute [go_sem] qd1 qd0 qdZ qdY qdX qdW qdV qdU qdT qdS
def qtb {ps:List (Nat × PV)}:blP Tryz.prog 26 ps=(flP [(0,1),(1,1),(2,1),(3,1),(4,1)] ([.int .i64 0,.int .i64 0,.slice none 0 0,.slice none 0 0,.slice none 0 0].map .vl) ps).map .ag:=qj6 plc26
def qta {ps:List (Nat × PV)}:blP Tryz.prog 42 ps=(flP [(0,1),(1,1)] ([.bool false,.slice none 0 0].map .vl) ps).map .ag:=qj6 plc42
def qt9 {ps:List (Nat × PV)}:blP Tryz.prog 46 ps=(flP [(0,1),(1,2),(3,1)] ([.bool false,.bool false,.slice none 0 0,.int .i64 0].map .vl) ps).map .ag:=qj6 plc46
def qt8 {ps:List (Nat × PV)}:blP Tryz.prog 63 ps=(flP [(0,1),(1,1),(2,1),(3,1),(4,1),(5,1),(6,1),(7,1)] ([.slice none 0 0,.slice none 0 0,.slice none 0 0,.slice none 0 0,.slice none 0 0,.slice none 0 0,.slice none 0 0,.slice none 0 0].map .vl) ps).map .ag:=qj6 plc63
def qnK {ps:List (Nat × PV)}:blP Tryz.prog 148 ps=(flP [(0,5),(5,1),(6,1),(7,1),(8,1),(9,1),(10,1)] ([.int .i64 0,.int .i64 0,.slice none 0 0,.slice none 0 0,.slice none 0 0,.slice none 0 0,.slice none 0 0,.slice none 0 0,.slice none 0 0,.slice none 0 0,.slice none 0 0].map .vl) ps).map .ag:=qj6 qqu
def qnJ {ps:List (Nat × PV)}:blP Tryz.prog 202 ps=(flP [(0,1)] ([.map none].map .vl) ps).map .ag:=qj6 qqt
def qnI {ps:List (Nat × PV)}:blP Tryz.prog 214 ps=(flP [(0,1),(1,4),(5,1)] ([.int .i64 0,.bool false,.bool false,.slice none 0 0,.int .i64 0,.int .u64 0].map .vl) ps).map .ag:=qj6 qqs
def qnH {ps:List (Nat × PV)}:blP Tryz.prog 240 ps=(flP [(0,1),(1,2),(3,1),(4,1)] ([.bool false,.bool false,.slice none 0 0,.int .i64 0,.bool false].map .vl) ps).map .ag:=qj6 qqr
attribute [go_sem] qtb qta qt9 qt8 qnK qnJ qnI qnH
end Go.Proofs.YtbjoghfmhgadkaaGreatDoor
namespace Go.E
open Go Go.RowKit
attribute [go_sem ↓] pu_ap qll qvw AL_n AL_g qn9 qeZ qn8 qhb qn7 qbH q7x qh9 qbG q8t q7w qh8 quC fnP_q fnP_2 qha quB quA qtz qnb qhc quI quH quG quF quE qna qbF qeX q7v qh7 qe0 qnc qaO
attribute [go_sem 2000] clB_T
attribute [go_sem] qrS qrO qrT qrP lkR_t lkR_f cK_t oK_s nnK_n vK_v ldK_s qqv qqw qqx qqy mkA_n mkA_z qsZ qmK qsS qsV qsU qsW qs0 q74 q75 qp8 qk2 qk1 qpa qp9 ldU_b qtx qtw ysK_v ysK_o ysK_f qtu qtt qtr qts qtq pe_t pe_c qqp qqq h0_ap enP_z enP_s stK_c stK_n kin_c kin_n hpK_c hpK_n ksz_n ksz_s qpc qpb bn_v un_v cv_v pk_t pk_f fld_p ex_t nl_p nl_q mm_v qry qrz qrx qdD ql9 qdE qlb ld_p ld_q ldU_s ldU_c py_s py_z qlG qlE qlF qtI qtJ qhQ qtK qtQ qtM qtN qtL qtO clB_s cO_t cO2_t qtR qmf qmg qmj qmn qmk qml qjp qjr qjq qvj qvk qvl qny qaV qtV
attribute [go_sem] zF Option.bind_none xH v7 v8 v9 xL zN yF z9 List.length_set List.drop_zero List.nil_append yR and_true true_and implies_true or_false xU List.set_cons_zero List.set_cons_succ List.take_succ_cons List.take_zero List.take_nil List.drop_succ_cons
def q56:List PV->Nat->PV->Option (List PV)
 | [],_,_=>none
 | _ :: l,0,x=>some (x :: l)
 | y :: l,n+1,x=>(q56 l n x).map λr=>y :: r
def qbz:∀ {l:List PV} {n:Nat} {x:PV},q56 l n x=if n < l.length then some (l.set n x) else none
 | [],n,x=>by simp [q56]
 | y :: l,0,x=>by simp [q56]
 | y :: l,n+1,x=>by
  simp only [q56,qbz (l:=l)]
  by_cases h:n < l.length <;> simp [h]
def qqP {y x:PV} {l:List PV}:q56 (y :: l) 0 x=some (x :: l):=rfl
def qqQ {y x:PV} {l:List PV} {n:Nat}:q56 (y :: l) (n+1) x=(q56 l n x).map λr=>y :: r:=rfl
def q8R:List PV->Nat->List PV->Option (List PV)
 | cs,0,[]=>some cs
 | _ :: cs,0,y :: l=>(q8R cs 0 l).map λr=>y :: r
 | x :: cs,n+1,l=>(q8R cs n l).map λr=>x :: r
 | [],_,_=>none
def q49:∀ {cs:List PV} {n:Nat} {l:List PV},0 < l.length->q8R cs n l=if n+l.length<=cs.length then some (cs.take n ++ l ++ cs.drop (n+l.length)) else none
 | [],n,y :: l,_=>by
  cases n <;> simp [q8R]
 | x :: cs,0,[y],_=>by simp [q8R]
 | x :: cs,0,y :: z :: l,_=>by
  rw [q8R,q49 (cs:=cs) (n:=0) (l:=z :: l) σ];simp only [zN]
  by_cases h:l.length+1<=cs.length
  .rw [if_pos ω,if_pos ω]; simp [xP]
  .rw [if_neg ω,if_neg ω]; rfl
 | x :: cs,n+1,y :: l,hl=>by
  rw [q8R,q49 (cs:=cs) (n:=n) hl];simp only [zN]
  by_cases h:n+(l.length+1)<=cs.length
  .rw [if_pos h,if_pos ω];rw [show n+1+(l.length+1)=n+(l.length+1)+1 by omega];simp
  .rw [if_neg h,if_neg ω]; rfl
def qqR {cs:List PV}:q8R cs 0 []=some cs:=by cases cs <;> rfl
def qqT {x y:PV} {cs l:List PV}:q8R (x :: cs) 0 (y :: l)=(q8R cs 0 l).map λr=>y :: r:=rfl
def qqS {x:PV} {cs l:List PV} {n:Nat}:q8R (x :: cs) (n+1) l=(q8R cs n l).map λr=>x :: r:=by cases l <;> rfl
def flS (o:Option (Nat × Nat)) (x:PV) (cs:List PV):Option (List PV):=match o with
 | some (off,1)=>match x with
  | .vl y=>if y.oneCell'=true then q56 cs off (.vl y) else none
  | .sl k l=>q56 cs off (.sl k l)
  | .ow id k a n=>q56 cs off (.ow id k a n)
  | .pt id a n=>q56 cs off (.pt id a n)
  | .mp id=>q56 cs off (.mp id)
  | _=>none
 | some (off,m)=>match x with
  | .ag l=>if l.length=m/\off+m<=cs.length then some (cs.take off ++ l ++ cs.drop (off+m)) else none
  | _=>none
 | none=>none
def flP_n {pl:List (Nat × Nat)} {cs:List PV}:flP pl cs []=some cs:=rfl
def flP_c {pl:List (Nat × Nat)} {cs:List PV} {i:Nat} {x:PV} {r:List (Nat × PV)}:flP pl cs ((i,x) :: r)=(flS (pl[i]?) x cs).bind λc=>flP pl c r:=by
 rw [flP];unfold flS;cases pl[i]? with
 | none=>rfl
 | some p =>
  obtain ⟨off,m⟩:=p
  match m with
  | 0=>cases x <;> (try rfl); simp only; split <;> rfl
  | 1 =>
   cases x <;> simp only [qbz] <;> (try rfl)
   case vl y=>by_cases h1:y.oneCell'=true <;> by_cases h2:off < cs.length <;> simp [h1,h2]
   all_goals (by_cases h2:off < cs.length <;> simp [h2])
  | m+2=>cases x <;> (try rfl); simp only; split <;> rfl
def flS_2 {off:Nat} {a b:PV} {cs:List PV}:flS (some (off,2)) (.ag [a,b]) cs=q8R cs off [a,b]:=by
 rw [q49 σ];simp [flS]
def flS_4 {off:Nat} {a b c d:PV} {cs:List PV}:flS (some (off,4)) (.ag [a,b,c,d]) cs=q8R cs off [a,b,c,d]:=by
 rw [q49 σ];simp [flS]
def flS_i {off:Nat} {k:IntKind} {z:Int} {cs:List PV}:flS (some (off,1)) (.vl (.int k z)) cs=q56 cs off (.vl (.int k z)):=rfl
def flS_b {off:Nat} {z:Bool} {cs:List PV}:flS (some (off,1)) (.vl (.bool z)) cs=q56 cs off (.vl (.bool z)):=rfl
def flS_l {off n c:Nat} {A:Option Addr} {cs:List PV}:flS (some (off,1)) (.vl (.slice A n c)) cs=q56 cs off (.vl (.slice A n c)):=rfl
def flS_s {off:Nat} {k:Kd} {l cs:List PV}:flS (some (off,1)) (.sl k l) cs=q56 cs off (.sl k l):=rfl
def flS_m {off id:Nat} {cs:List PV}:flS (some (off,1)) (.mp id) cs=q56 cs off (.mp id):=rfl
def flS_p {off id a n:Nat} {cs:List PV}:flS (some (off,1)) (.pt id a n) cs=q56 cs off (.pt id a n):=rfl
def flS_o {off id a n:Nat} {k:Kd} {cs:List PV}:flS (some (off,1)) (.ow id k a n) cs=q56 cs off (.ow id k a n):=rfl
attribute [go_sem] qqP qqQ qqR qqT qqS flS_2 flS_4 flP_n flP_c flS_i flS_b flS_l flS_s flS_o flS_m flS_p
def tkm {α β:Type} {f:α->β} {l:List α}:(l.map f).take l.length=l.map f:=yS σ
def qkO {α β:Type} {f:α->β} {l:List α} {n:Nat} (hn:l.length<=n):(l.map f).take n=l.map f:=yS (by simpa using hn)
def tkl {α:Type} {l:List α}:l.take l.length=l:=List.take_length
attribute [go_sem] tkm qkO tkl
def nin (x:Nat):List Nat->Prop
 | []=>True
 | y :: r=>x≠y/\nin x r
def dis (l:List Nat):List Nat->Prop
 | []=>True
 | x :: r=>nin x l/\dis l r
def q5h {x:Nat}:∀ {l:List Nat},nin x l=(x ∉ l)
 | []=>by simp [nin]
 | y :: r=>by simp [nin,q5h (l:=r)]
def qjJ {l:List Nat}:∀ {r:List Nat},dis l r=∀ x ∈ r,x ∉ l
 | []=>by simp [dis]
 | y :: r=>by simp [dis,q5h,qjJ (r:=r)]
def nin_n {x:Nat}:nin x []=True:=rfl
def nin_c {x y:Nat} {r:List Nat}:nin x (y :: r)=(x≠y/\nin x r):=rfl
def dis_n {l:List Nat}:dis l []=True:=rfl
def dis_c {l r:List Nat} {x:Nat}:dis l (x :: r)=(nin x l/\dis l r):=rfl
def dj_eq {a b c d:List Nat}:dj (a,b) (c,d)=(dis c b/\dis d b/\dis a d):=by
 simp only [dj,qjJ];exact propext ⟨λh=>⟨λx hx=>(h.1 x hx).1,λx hx=>(h.1 x hx).2,h.2⟩,λh=>⟨λx hx=>⟨h.1 x hx,h.2.1 x hx⟩,h.2.2⟩⟩
def qtW {a b:Nat} {r:List (Nat × Nat)} {acc:List FP}:qtX ((a,b) :: r) acc=(dj (acc.reverse.getD a ([],[])) (acc.reverse.getD b ([],[]))/\qtX r acc):=by
 simp [qtX,chk]
attribute [go_sem] nin_n nin_c dis_n dis_c dj_eq qtW List.reverse_cons List.reverse_nil List.cons_append List.getD_cons_zero List.getD_cons_succ Option.toList_some Option.toList_none xJ
def qgx [NL] {z:Int} {A:Prop}:q1K none (.vl (.int .i64 z)) A=A:=by rw [qd9]; simp [cK,nlo]
def qgv [NL] {z:Int} {A:Prop}:q1K none (.vl (.int .u64 z)) A=A:=by rw [qd9]; simp [cK,nlo]
attribute [go_sem] qgx qgv qt4
section
variable {τ:Nat->Option Nat} {h h':Hp} {x y:PV} {l m:List PV} {k k':Kd}
def qut:LeV τ h h' x .un=True:=by simp [LeV.un]
def qjh {a b:Value}:LeV τ h h' (.vl a) (.vl b)=(a=b):=by
 refine propext ⟨λh=>by cases h; rfl,λh=>by subst h; exact .cl (by simp [Cld,q25])⟩
def qvD {G H:Fam}:LeV τ h h' (.fm G) (.fm H)=(G=H):=by
 refine propext ⟨λh=>by cases h; rfl,λh=>by subst h; exact .cl (by simp [Cld,q25])⟩
def quv:LeV τ h h' (.sl k l) (.sl k' m)=(k=k'/\l=m):=by
 refine propext ⟨λh=>by cases h; exact ⟨rfl,rfl⟩,λh=>by obtain ⟨rfl,rfl⟩:=h; exact .cl (by simp [Cld,q25])⟩
def quz {i j a b c d:Nat}:LeV τ h h' (.ow j k a b) (.ow i k' c d)=(τ i=some j/\(∃ b,h' i=some b)/\k=k'/\a=c/\b=d):=by
 refine propext ⟨λh=>?_,λ⟨h1,⟨b,h2⟩,h3,h4,h5⟩=>by subst h3; subst h4; subst h5; exact .ow h1 h2⟩;cases h with
 | cl hc=>simp [Cld,q25] at hc
 | ow h1 h2=>exact ⟨h1,⟨_,h2⟩,rfl,rfl,rfl⟩
def quy {i j a b c d:Nat}:LeV τ h h' (.pt j a b) (.pt i c d)=(τ i=some j/\(∃ b,h' i=some b)/\a=c/\b=d):=by
 refine propext ⟨λh=>?_,λ⟨h1,⟨b,h2⟩,h4,h5⟩=>by subst h4; subst h5; exact .pt h1 h2⟩;cases h with
 | cl hc=>simp [Cld,q25] at hc
 | pt h1 h2=>exact ⟨h1,⟨_,h2⟩,rfl,rfl⟩
def q1i {j a b:Nat} {T:TypeId} (hj:h j=some ⟨T,k,l,false⟩) (hc:ClL l) (hn:∀ i,τ i=some j->h' i=none) (he:(l.drop a).take b=m):LeV τ h h' (.ow j k a b) (.sl k m):=by
 subst he;exact .fz hj rfl rfl hc hn
def qvB {i a b:Nat}:LeV τ h h' (.vl (.slice none 0 0)) (.ow i k a b)=(τ i=none/\(∃ b,h' i=some b/\b.k=k)/\a=0/\b=0):=by
 refine propext ⟨λh=>?_,λ⟨h1,⟨b,h2,h3⟩,h4,h5⟩=>by subst h4; subst h5; exact .nilow h1 h2 h3⟩;cases h with
 | nilow h1 h2 h3=>exact ⟨h1,⟨_,h2,h3⟩,rfl,rfl⟩
def qvA:LeV τ h h' (.vl (.slice none 0 0)) (.sl k l)=(l=[]):=by
 refine propext ⟨λh=>by cases h; rfl,λh=>by subst h; exact .nilsl⟩
def qbQ (τ:Nat->Option Nat) (h h':Hp):List PV->List PV->Prop
 | [],[]=>True
 | x :: l,y :: m=>LeV τ h h' x y/\qbQ τ h h' l m
 | _,_=>False
def q0a:∀ {l m:List PV},qbQ τ h h' l m=LeL τ h h' l m
 | [],[]=>by simp [qbQ,LeL]
 | x :: l,[]=>by simp [qbQ,LeL]
 | [],y :: m=>by simp [qbQ,LeL]
 | x :: l,y :: m=>by
  simp only [qbQ];rw [q0a (l:=l) (m:=m)];refine propext ⟨λ⟨h1,h2,h3⟩=>⟨by simp [h2],λi a b ha hb=>?_⟩,λ⟨h1,h2⟩=>⟨h2 0 x y rfl rfl,by simpa using h1,λi a b ha hb=>h2 (i+1) a b (by simpa using ha) (by simpa using hb)⟩⟩;cases i with
  | zero=>simp at ha hb; subst ha; subst hb; exact h1
  | succ i=>exact h3 i a b (by simpa using ha) (by simpa using hb)
def qjk:LeV τ h h' (.ag l) (.ag m)=qbQ τ h h' l m:=by
 rw [q0a];refine propext ⟨λh=>?_,λ⟨h1,h2⟩=>.ag h1 h2⟩;cases h with
 | cl hc=>exact ⟨rfl,λi a b ha hb=>by rw [ha] at hb; cases hb; have:=hc a (zE ha); exact .cl (by cases a <;> simp_all [Cld,q25])⟩
 | ag h1 h2=>exact ⟨h1,h2⟩
def quu:LeV τ h h' (.tu l) (.tu m)=qbQ τ h h' l m:=by
 rw [q0a];refine propext ⟨λh=>?_,λ⟨h1,h2⟩=>.tu h1 h2⟩;cases h with
 | cl hc=>simp [Cld,q25] at hc
 | tu h1 h2=>exact ⟨h1,h2⟩
def qvE:qbQ τ h h' [] []=True:=rfl
def qe9:qbQ τ h h' (x :: l) (y :: m)=(LeV τ h h' x y/\qbQ τ h h' l m):=rfl
def qvF {s:Nat->PV}:q6j τ h h' s []=True:=rfl
def qvG {s:Nat->PV} {t:Nat} {r:List (Nat × PV)}:q6j τ h h' s ((t,x) :: r)=(LeV τ h h' (s t) x/\q6j τ h h' s r):=rfl
def qvH {s s0:Nat->PV}:LeSk τ h h' s s0 []=True:=rfl
def qvI {s s0:Nat->PV} {t:Nat} {r:List Nat}:LeSk τ h h' s s0 (t :: r)=(LeV τ h h' (s t) (s0 t)/\LeSk τ h h' s s0 r):=rfl
def qv0:q9B τ h h' []=True:=rfl
def qv1 {t:Nat} {b:Bk} {r:List (Nat × Bk)}:q9B τ h h' ((t,b) :: r)=(LeB τ h h' t b/\q9B τ h h' r):=rfl
def qv4 {hb:Hp}:LeBk τ h h' hb []=True:=rfl
def qv5 {hb:Hp} {t:Nat} {r:List Nat}:LeBk τ h h' hb (t :: r)=((∀ b,hb t=some b->LeB τ h h' t b)/\LeBk τ h h' hb r):=rfl
def qpS {i a:Nat} {o:Option Nat} {r:List (Nat × Option Nat)}:q04 ((a,o) :: r) i=if i=a then o else q04 r i:=rfl
def qpR {i:Nat}:q04 [] i=some i:=rfl
def LeB' (o:Option Nat) (τ:Nat->Option Nat) (h h':Hp) (b':Bk):Prop :=
 match o with
 | some j=>∃ b,h j=some b/\b'.T=b.T/\b'.k=b.k/\(b'.st=false/\b.st=false)/\LeL τ h h' b.xs b'.xs
 | none=>b'.xs=[]
def qv7 {i:Nat} {b':Bk}:LeB τ h h' i b'=LeB' (τ i) τ h h' b':=rfl
def LeBb (o:Option Bk) (τ:Nat->Option Nat) (h h':Hp) (b':Bk):Prop:=∃ b,o=some b/\b'.T=b.T/\b'.k=b.k/\(b'.st=false/\b.st=false)/\LeL τ h h' b.xs b'.xs
def qv8 {j:Nat} {b':Bk}:LeB' (some j) τ h h' b'=LeBb (h j) τ h h' b':=rfl
def qv9 {T:TypeId} {st:Bool}:LeB' none τ h h' ⟨T,k,l,st⟩=(l=[]):=rfl
def qv6 {T T':TypeId} {st st':Bool}:LeBb (some ⟨T,k,l,st⟩) τ h h' ⟨T',k',m,st'⟩=(T'=T/\k'=k/\(st'=false/\st=false)/\LeL τ h h' l m):=by simp [LeBb]
def q0J (he:l=m) (hc:ClL m):LeL τ h h' l m:=by
 subst he;exact ⟨rfl,λi a b ha hb=>by rw [ha] at hb; cases hb; exact .cl (hc a (zE ha))⟩
def qeb:LeL τ h h' [x] [y]=LeV τ h h' x y:=by rw [<- q0a]; simp [qbQ]
def qkP:q46 τ []=True:=rfl
def qiH (τ:Nat->Option Nat) (i:Nat):List Nat->Prop
 | []=>True
 | j :: r=>(i=j\/τ i=none\/τ i≠τ j)/\qiH τ i r
def qb8 {i:Nat}:∀ {r:List Nat},qiH τ i r=∀ j ∈ r,i=j\/τ i=none\/τ i≠τ j
 | []=>by simp [qiH]
 | j :: r=>by simp only [qiH,qb8 (r:=r),List.forall_mem_cons]
def qpU {i:Nat}:qiH τ i []=True:=rfl
def qpV {i j:Nat} {r:List Nat}:qiH τ i (j :: r)=((i=j\/τ i=none\/τ i≠τ j)/\qiH τ i r):=rfl
def qkQ {i:Nat} {r:List Nat}:q46 τ (i :: r)=(qiH τ i r/\q46 τ r):=by rw [qb8]; rfl
def qsx {i:Nat} {b:Bk} {bs:List (Nat × Bk)} {kb:List Nat}:dom1 ((i,b) :: bs) kb=i :: dom1 bs kb:=rfl
def qsw {kb:List Nat}:dom1 [] kb=kb:=rfl
end
section
variable {P:Program} {Tb:World->Prop} {J:Nat->Prop} {n:Nat} {Q:SQ} {s:Nat->PV} {h:Hp}
def qbR [NL] {id:Nat} {l:List Oper} {b:Code} (hw:∀ K:(Nat->PV)->Hp->Prop,(∀ s h,AW P Tb J n b Q s h->K s h)->AL P Tb l (λs h _=>K s h) l s h []):AW P Tb J n (.seq (.region id l.toArray false) b) Q s h :=
 q4I λK hK=>q5q λK1 hK1=>hw K1 λs h hb=>hK1 s h (hK s h hb)
def Az {id:Nat} {l:List Oper} {b:Code} {s1:Nat->PV} {h1:Hp}  (k:AW P Tb J n b Q s1 h1) (ee:∀ K:(Nat->PV)->Hp->Prop,AL P Tb l (λs h _=>K s h) l s h []=K s1 h1:=by intro K; simp -implicitDefEqProofs (disch:=omega) only [go_sem,Nat.reduceEqDiff,Nat.reduceAdd,↓reduceIte]; exact rfl):AW P Tb J n (.seq (.region id l.toArray false) b) Q s h:=qbR λK hK=>(ee K).mpr (hK _ _ k)
def Az1 {id:Nat} {l:List Oper} {b:Code} {s1:Nat->PV} {h1:Hp} {F1:Prop} (f1:F1) (k:AW P Tb J n b Q s1 h1) (ee:F1->∀ K:(Nat->PV)->Hp->Prop,AL P Tb l (λs h _=>K s h) l s h []=K s1 h1:=by intro g1 K; simp -implicitDefEqProofs (disch:=omega) only [go_sem,Nat.reduceEqDiff,Nat.reduceAdd,↓reduceIte,g1]; exact rfl):AW P Tb J n (.seq (.region id l.toArray false) b) Q s h:=qbR λK hK=>(ee f1 K).mpr (hK _ _ k)
def Az2 {id:Nat} {l:List Oper} {b:Code} {s1:Nat->PV} {h1:Hp} {F1 F2:Prop} (f1:F1) (f2:F2) (k:AW P Tb J n b Q s1 h1) (ee:F1->F2->∀ K:(Nat->PV)->Hp->Prop,AL P Tb l (λs h _=>K s h) l s h []=K s1 h1:=by intro g1 g2 K; simp -implicitDefEqProofs (disch:=omega) only [go_sem,Nat.reduceEqDiff,Nat.reduceAdd,↓reduceIte,g1,g2]; exact rfl):AW P Tb J n (.seq (.region id l.toArray false) b) Q s h:=qbR λK hK=>(ee f1 f2 K).mpr (hK _ _ k)
def Az3 {id:Nat} {l:List Oper} {b:Code} {s1:Nat->PV} {h1:Hp} {F1 F2 F3:Prop} (f1:F1) (f2:F2) (f3:F3) (k:AW P Tb J n b Q s1 h1) (ee:F1->F2->F3->∀ K:(Nat->PV)->Hp->Prop,AL P Tb l (λs h _=>K s h) l s h []=K s1 h1:=by intro g1 g2 g3 K; simp -implicitDefEqProofs (disch:=omega) only [go_sem,Nat.reduceEqDiff,Nat.reduceAdd,↓reduceIte,g1,g2,g3]; exact rfl):AW P Tb J n (.seq (.region id l.toArray false) b) Q s h:=qbR λK hK=>(ee f1 f2 f3 K).mpr (hK _ _ k)
def Az4 {id:Nat} {l:List Oper} {b:Code} {s1:Nat->PV} {h1:Hp} {F1 F2 F3 F4:Prop} (f1:F1) (f2:F2) (f3:F3) (f4:F4) (k:AW P Tb J n b Q s1 h1) (ee:F1->F2->F3->F4->∀ K:(Nat->PV)->Hp->Prop,AL P Tb l (λs h _=>K s h) l s h []=K s1 h1:=by intro g1 g2 g3 g4 K; simp -implicitDefEqProofs (disch:=omega) only [go_sem,Nat.reduceEqDiff,Nat.reduceAdd,↓reduceIte,g1,g2,g3,g4]; exact rfl):AW P Tb J n (.seq (.region id l.toArray false) b) Q s h:=qbR λK hK=>(ee f1 f2 f3 f4 K).mpr (hK _ _ k)
def Az5 {id:Nat} {l:List Oper} {b:Code} {s1:Nat->PV} {h1:Hp} {F1 F2 F3 F4 F5:Prop} (f1:F1) (f2:F2) (f3:F3) (f4:F4) (f5:F5) (k:AW P Tb J n b Q s1 h1) (ee:F1->F2->F3->F4->F5->∀ K:(Nat->PV)->Hp->Prop,AL P Tb l (λs h _=>K s h) l s h []=K s1 h1:=by intro g1 g2 g3 g4 g5 K; simp -implicitDefEqProofs (disch:=omega) only [go_sem,Nat.reduceEqDiff,Nat.reduceAdd,↓reduceIte,g1,g2,g3,g4,g5]; exact rfl):AW P Tb J n (.seq (.region id l.toArray false) b) Q s h:=qbR λK hK=>(ee f1 f2 f3 f4 f5 K).mpr (hK _ _ k)
def Az6 {id:Nat} {l:List Oper} {b:Code} {s1:Nat->PV} {h1:Hp} {F1 F2 F3 F4 F5 F6:Prop} (f1:F1) (f2:F2) (f3:F3) (f4:F4) (f5:F5) (f6:F6) (k:AW P Tb J n b Q s1 h1) (ee:F1->F2->F3->F4->F5->F6->∀ K:(Nat->PV)->Hp->Prop,AL P Tb l (λs h _=>K s h) l s h []=K s1 h1:=by intro g1 g2 g3 g4 g5 g6 K; simp -implicitDefEqProofs (disch:=omega) only [go_sem,Nat.reduceEqDiff,Nat.reduceAdd,↓reduceIte,g1,g2,g3,g4,g5,g6]; exact rfl):AW P Tb J n (.seq (.region id l.toArray false) b) Q s h:=qbR λK hK=>(ee f1 f2 f3 f4 f5 f6 K).mpr (hK _ _ k)
def stM_c {xs kv:List (Nat × PV)} {t a:Nat} {x:PV}:stM ((a,x) :: xs) kv t=if t=a then x else stM xs kv t:=rfl
def stM_n {kv:List (Nat × PV)} {t:Nat}:stM [] kv t=stV kv t:=rfl
def stV_c {kv:List (Nat × PV)} {t a:Nat} {x:PV}:stV ((a,x) :: kv) t=if t=a then x else stV kv t:=rfl
def stV_n {t:Nat}:stV [] t=.un:=rfl
def hpM_c {bs:List (Nat × Bk)} {kb:List (Nat × Option Bk)} {i a:Nat} {b:Bk}:hpM ((a,b) :: bs) kb i=if i=a then some b else hpM bs kb i:=rfl
def hpM_n {kb:List (Nat × Option Bk)} {i:Nat}:hpM [] kb i=hpV kb i:=rfl
def hpV_c {kb:List (Nat × Option Bk)} {i a:Nat} {b:Option Bk}:hpV ((a,b) :: kb) i=if i=a then b else hpV kb i:=rfl
def hpV_n {i:Nat}:hpV [] i=none:=rfl
def qv2 {τ:Nat->Option Nat} {h h':Hp}:qbM τ h h' []=True:=rfl
def qv3 {τ:Nat->Option Nat} {h h':Hp} {i:Nat} {T:TypeId} {k:Kd} {l:List PV} {st:Bool} {r:List (Nat × Option Bk)}:qbM τ h h' ((i,some ⟨T,k,l,st⟩) :: r)=(LeB τ h h' i ⟨T,k,l,st⟩/\qbM τ h h' r):=by simp [qbM]
attribute [go_sem ↓] stM_c stM_n stV_c stV_n hpM_c hpM_n hpV_c hpV_n
attribute [go_sem] qv2 qv3
def qko (o:Option (List PV × List Nat)) (r:PV):Prop:=match o with | some (al,_)=>LeV (λ_=>none) h0 h0 (mkR al) r | none=>False
def qq5 {x r:PV} {l:List Nat}:qko (some ([x],l)) r=LeV (λ_=>none) h0 h0 x r:=rfl
def qq6 {r:PV} {l:List Nat}:qko (some ([],l)) r=LeV (λ_=>none) h0 h0 (.tu []) r:=rfl
def qq4 {x y r:PV} {m:List PV} {l:List Nat}:qko (some (x :: y :: m,l)) r=LeV (λ_=>none) h0 h0 (.tu (x :: y :: m)) r:=rfl
def rsL_n:rsL P h s []=some []:=rfl
def rsC (h:Hp) (k:Option Kd) (p:PV):Option PV:=(ldP h k p).map (·.1)
def rsP_l {a t:Nat}:rsP P h s (.cell a t)=rsC h (q0Y P t) (s a):=rfl
def rsC_p {k:Kd} {a i j:Nat}:rsC h (some k) (.pt a i j)=(h a).bind λb=>if b.st=true\/ksz k=0 then none else (b.xs[i]?).bind (ldU b.k k j):=by
 have e:ldP h (some k) (.pt a i j)=(h a).bind λb=>if b.st=true\/ksz k=0 then none else ((b.xs[i]?).bind (ldU b.k k j)).map λx=>(x,[a]):=by
  cases hh:h a <;> simp [ldP,hh]
 unfold rsC;rw [e];cases h a with
 | none=>rfl
 | some b =>
  simp only [zF]
  by_cases hc:b.st=true\/ksz k=0
  .rw [if_pos hc,if_pos hc]; rfl
  .rw [if_neg hc,if_neg hc];cases (b.xs[i]?).bind (ldU b.k k j) <;> rfl
def rsB (a:Option PV) (b:Option (List PV)):Option (List PV):=a.bind λx=>b.map λy=>x :: y
def rsL_c {r:ResultVar} {l:List ResultVar}:rsL P h s (r :: l)=rsB (rsP P h s r) (rsL P h s l):=rfl
def rsB_s {x:PV} {l:List PV}:rsB (some x) (some l)=some (x :: l):=rfl
def rt {fn:Func} {r:PV} {rs:List ResultVar} (hr:fn.results.toList=rs) (hlen:(decide (rs.length<=4))=true) (hk:qko ((rsL P h s rs).bind (q2P h)) r) {x:Exit} (hx:x=.ret\/x=.normal):retA P fn r x s h:=by
 refine ⟨hx,by rw [hr]; simpa using hlen,?_⟩;rw [hr];cases h1:rsL P h s rs with
 | none=>rw [h1] at hk; exact hk.elim
 | some l =>
  rw [h1,zF] at hk;cases h2:q2P h l with
  | none=>rw [h2] at hk; exact hk.elim
  | some p=>rw [h2] at hk; exact ⟨l,p.1,p.2,rfl,h2,hk⟩
def A_t [NL] {c:Operand} {a b:Code} (hc:pe s c=.vl (.bool true)) (ha:AW P Tb J n a Q s h):AW P Tb J n (.cond c a b) Q s h:=qeg hc (λ_=>ha) (λh=>by cases h)
def A_f [NL] {c:Operand} {a b:Code} (hc:pe s c=.vl (.bool false)) (hb:AW P Tb J n b Q s h):AW P Tb J n (.cond c a b) Q s h:=qeg hc (λh=>by cases h) (λ_=>hb)
end
attribute [go_sem] qq5 qq6 qq4 rsL_n rsL_c rsB_s rsP_t rsP_l rsC_p qut qjh qvD quv quz quy qvB qvA qjk quu qvE qe9 qvF qvG qvH qvI qv0 qv1 qv4 qv5 qpS qpR qv7 qv8 qv9 qv6 qeb qkP qkQ qsx qsw qpU qpV ne_eq not_false_eq_true or_true true_or y9.injEq Value.int.injEq Value.bool.injEq Option.map_none exists_eq' false_or and_self reduceCtorEq
end Go.E
namespace Go.Proofs.YtbjoghfmhgadkaaGreatDoor
open Go Go.E Go.Sp
abbrev iv (z:Int):PV:=.vl (.int .i64 z)
abbrev uv (z:Int):PV:=.vl (.int .u64 z)
abbrev bv (b:Bool):PV:=.vl (.bool b)
abbrev q1R:PV:=.vl (.slice none 0 0)
abbrev pI (l:List Int):PV:=.sl none (l.map λz=>iv z)
abbrev pF (l:List Nat):PV:=.sl none (l.map λz:Nat=>uv z)
abbrev pV (V:Int):PV:=.fm (fV V)
abbrev ACt [NL] (f:FuncId) (al:List PV) (r:PV):Prop:=AC Tryz.prog q5Y f al r
section
variable {τ:Nat->Option Nat} {h h':Hp}
def qhr {l m:List Value}:LeL τ h h' (l.map .vl) (m.map .vl)=(l=m):=by
 refine propext ⟨λ⟨h1,h2⟩=>?_,λh=>by subst h; exact q0J rfl (by simp [ClL,Cld,q25])⟩
 apply yB
 intro i
 rcases uD i l.length with hi | hi
 .have hm:i < m.length:=by simp at h1; omega
  have:=h2 i (.vl l[i]) (.vl m[i]) (by simp [hi]) (by simp [hm]);rw [qjh] at this;rw [zD hi,zD hm,this]
 .rw [zU hi,zU (by simp at h1; omega)]
def q6k {α:Type} {f:α->Value} (hf:∀ a b,f a=f b->a=b) {l m:List α}:LeL τ h h' (l.map λz=>.vl (f z)) (m.map λz=>.vl (f z))=(l=m):=by
 have h1:=qhr (τ:=τ) (h:=h) (h':=h') (l:=l.map f) (m:=m.map f);rw [uA,uA] at h1;refine Eq.trans h1 (propext ⟨λh=>?_,λh=>by rw [h]⟩);exact List.map_inj_right hf |>.1 h
def inj_i:∀ a b:Int,Value.int .i64 a=Value.int .i64 b->a=b:=λa b h=>by injection h
def inj_u:∀ a b:Nat,Value.int .u64 a=Value.int .u64 b->a=b:=λa b h=>by injection h with _ h; omega
def inj_b:∀ a b:Bool,Value.bool a=Value.bool b->a=b:=λa b h=>by injection h
def qbK {l m:List Int}:LeL τ h h' (l.map λz=>iv z) (m.map λz=>iv z)=(l=m):=q6k inj_i
def qea {l m:List Nat}:LeL τ h h' (l.map λz:Nat=>uv z) (m.map λz:Nat=>uv z)=(l=m):=q6k (f:=λz:Nat=>Value.int .u64 z) inj_u
def qht {l m:List Bool}:LeL τ h h' (l.map λz=>bv z) (m.map λz=>bv z)=(l=m):=q6k inj_b
def qvU {m:List Int}:LeL τ h h' [] (m.map λz=>iv z)=([]=m):=qbK (l:=[])
def qvP {m:List Nat}:LeL τ h h' [] (m.map λz:Nat=>uv z)=([]=m):=qea (l:=[])
def qvZ {m:List Bool}:LeL τ h h' [] (m.map λz=>bv z)=([]=m):=qht (l:=[])
def qvW {x:Int} {m:List Int}:LeL τ h h' [iv x] (m.map λz=>iv z)=([x]=m):=qbK (l:=[x])
def qvV {x:Int} {l m:List Int}:LeL τ h h' ((l.map λz=>iv z) ++ [iv x]) (m.map λz=>iv z)=(l ++ [x]=m):=by
 have:=qbK (τ:=τ) (h:=h) (h':=h') (l:=l ++ [x]) (m:=m)
 rwa [List.map_append] at this
def qvQ {x:Nat} {l m:List Nat}:LeL τ h h' ((l.map λz:Nat=>uv z) ++ [uv x]) (m.map λz:Nat=>uv z)=(l ++ [x]=m):=by
 have:=qea (τ:=τ) (h:=h) (h':=h') (l:=l ++ [x]) (m:=m)
 rwa [List.map_append] at this
def qvS {x:Int} {k:Nat} {l m:List Int}:LeL τ h h' ((l.map λz=>iv z).set k (iv x)) (m.map λz=>iv z)=(l.set k x=m):=by
 have:=qbK (τ:=τ) (h:=h) (h':=h') (l:=l.set k x) (m:=m)
 rwa [xW] at this
def qvN {x:Nat} {k:Nat} {l m:List Nat}:LeL τ h h' ((l.map λz:Nat=>uv z).set k (uv x)) (m.map λz:Nat=>uv z)=(l.set k x=m):=by
 have:=qea (τ:=τ) (h:=h) (h':=h') (l:=l.set k x) (m:=m)
 rwa [xW] at this
def qvX {x:Bool} {k:Nat} {l m:List Bool}:LeL τ h h' ((l.map λz=>bv z).set k (bv x)) (m.map λz=>bv z)=(l.set k x=m):=by
 have:=qht (τ:=τ) (h:=h) (h':=h') (l:=l.set k x) (m:=m)
 rwa [xW] at this
def qvO {n:Nat} {m:List Nat}:LeL τ h h' (List.replicate n (uv 0)) (m.map λz:Nat=>uv z)=(List.replicate n 0=m):=by
 have:=qea (τ:=τ) (h:=h) (h':=h') (l:=List.replicate n 0) (m:=m)
 rwa [y6] at this
def qvT {n:Nat} {x:Int} {m:List Int}:LeL τ h h' (List.replicate n (iv x)) (m.map λz=>iv z)=(List.replicate n x=m):=by
 have:=qbK (τ:=τ) (h:=h) (h':=h') (l:=List.replicate n x) (m:=m)
 rwa [y6] at this
def qvY {n:Nat} {x:Bool} {m:List Bool}:LeL τ h h' (List.replicate n (bv x)) (m.map λz=>bv z)=(List.replicate n x=m):=by
 have:=qht (τ:=τ) (h:=h) (h':=h') (l:=List.replicate n x) (m:=m)
 rwa [y6] at this
attribute [go_sem] qbK qea qht qvU qvP qvZ qvW qvV qvQ qvS qvN qvX qvO qvT qvY exists_eq_left' forall_eq'
end
def q9J (w w':World) (hx:Ext w w') (hT:q5Y w):q5Y w':=hT.ext hx
def act [NL] {f:FuncId} {fn:Func} {c:Code} {al:List PV} {r:PV} (hc:q0H Tryz.prog f=true) (hf:Tryz.prog.funcs[f]?=some fn) (hb:fn.body=some c) {n:Nat} (hn:fn.ntmps=n) (hd:(decide (al.length<=n) && q5m n c)=true)
  (hw:AW Tryz.prog q5Y (λ_=>False) n c (retA Tryz.prog fn r) (enP al) h0):ACt f al r:=AC_of hc hf hb hn hd q9J hw
end Go.Proofs.YtbjoghfmhgadkaaGreatDoor
namespace Go.E
open Go Go.RowKit
section
variable {P:Program} {Tb:World->Prop} {J:Nat->Prop} {n:Nat} {Q:SQ} {s:Nat->PV} {h:Hp}
def qiS:∀ {kv:List (Nat × PV)},(∀ p ∈ kv,p.2=s p.1)->∀ t,stV kv t=s t\/stV kv t=.un
 | [],_,_=>.inr rfl
 | p :: l,hk,t=>by
  unfold stV
  split
  .rename_i ht; subst ht; exact .inl (hk p vZ)
  .exact qiS (λq hq=>hk q (zM _ hq)) t
def q6q [NL] {c:Code} (ks:List Nat) {kv:List (Nat × PV)} (hk:(ks.map λt=>(t,s t))=kv) (hw:AW P Tb J n c Q (stV kv) h):AW P Tb J n c Q s h:=q2k (s':=stV kv) (h':=h) (λD0 w0 ρ e w _ S=>⟨ρ,S.inj,S.own,S.vir,λt=>by
  rcases qiS (s:=s) (kv:=kv) (λp hp=>by
   rw [<- hk] at hp;obtain ⟨t,_,rfl⟩:=yK.1 hp
   rfl) t with h | h
  .rw [h]; exact S.rd t
  .rw [h]; unfold Rd; trivial,S.ext,S.fr,S.imp,S.pin⟩) hw
def qla {kk:IntKind} {l:List PV}:q9l (some 1) (.sl none l) (.vl (.int kk 0))=(l[0]?).map (.qt none):=qdD (n:=0)
def qlc {kk:IntKind} {a off c:Nat} (hn:0 < c):q9l (some 1) (.ow a none off c) (.vl (.int kk 0))=some (.pt a off 0):=qdE (n:=0) hn
def fldQ (r:Nat × Kd) (l:List PV):Option PV:=match r.2 with
 | none=>(l[r.1]?).map (.qt none)
 | some m=>if r.1+m<=l.length/\0 < m then some (.qt (some m) (.ag ((l.drop r.1).take m))) else none
def qsM {t:TypeId} {f n:Nat} {l:List PV}:qo2 P t f (.qt (some n) (.ag l))=(q1x P t f).bind λr=>fldQ r l:=by unfold qo2 fldQ; rfl
def qsP {o:Nat} {l:List PV}:fldQ (o,none) l=(l[o]?).map (.qt none):=rfl
attribute [go_sem] qla qlc qsM qsP zF
end
end Go.E
