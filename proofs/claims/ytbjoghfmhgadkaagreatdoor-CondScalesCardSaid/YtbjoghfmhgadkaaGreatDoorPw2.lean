/- CondScales is proved. 2/7. -/
import Derived.LoopN
import Derived.Test.YtbjoghfmhgadkaaGreatDoorPw1
open Array renaming length_toList->zG,getElem?_toList->zH,getD_eq_getD_getElem?->zW,getElem?_setIfInBounds->yA,getElem?_replicate->yH,mem_toList_iff->yU,replicate->yX,getElem?_eq_getElem->v6,toList_push->y7,size_setIfInBounds->y9
open Bool renaming and_eq_true->zV,or_eq_true->zY,false_eq_true->xM
open Int renaming toNat_natCast->y8
open List renaming getElem?_eq_some_iff->zC,getElem?_eq_getElem->zD,mem_of_getElem?->zF,mem_cons_of_mem->zJ,getElem?_take->zK,mem_append->zL,eq_nil_of_length_eq_zero->zM,mem_of_mem_drop->zN,length_cons->zO,mem_append_right->zP,mem_cons_self->zR,mem_of_mem_take->zS,getElem?_eq_none->v7,mem_append_left->zU,map_congr_left->zX,getElem?_drop->v8,mem_cons->v9,map_cons->z6,mem_replicate->z7,length_append->z8,length_nil->z9,ext_getElem?->yB,getElem?_append->yC,getD_eq_getElem?_getD->uA,all_eq_true->yE,mem_map->yF,mem_or_eq_of_mem_set->yG,getElem?_cons_succ->yI,set_eq_take_append_cons_drop->yJ,take_of_length_le->yK,getElem?_map->yL,mem_range->yN,mem_flatMap->yO,length_take->yP,perm_middle->yQ,range_eq_range'->yS,length_map->yV,map_map->yZ,map_replicate->uB,append_assoc->uC,size_toArray->y6,getElem?_replicate->xB,getElem?_cons_zero->xC,append_nil->xD,length_replicate->xF,getElem?_toArray->xG,getElem?_of_mem->xH,range'->xI,zip_cons_cons->xJ,mem_singleton->xK,countP_append->xL,map_set->xQ
open Nat renaming eq_of_beq_eq_true->zI,le_refl->zQ,zero_add->uD,beq->yM,add_mul->yR,mul_le_mul_right->uE,succ_mul->yY,lt_or_ge->uF,eq_zero_or_pos->uG,mul_pos->uH,le_mul_of_pos_right->xA,strongRecOn->xE,zero_mul->xN,le_trans->xO,add_zero->xP
open Option renaming bind_eq_some_iff->zA,map_eq_some_iff->zB,bind_some->zE,map_some->yW,some->xR
set_option linter.unusedSimpArgs false
set_option linter.unusedVariables false
set_option maxRecDepth 20000
set_option maxHeartbeats 2000000
set_option linter.defProp false
namespace Go.E
open Go Go.RowKit
instance  [NL]{v:Value}:Decidable (qkF v):=inferInstanceAs (Decidable (_/\_))
def qkY [NL] {w:World} {k:Kd} {z:Value} {p:Addr} (hf:q2T k z) (hc:∀ (i:Nat) (v:Value),z.cells.toList[i]?=some v->w.cell? (p.add i)=some v):ldV w (some k) (.pointer (some p))=some z:=by
 cases k with
 | none =>
  have:=hc 0 z (by rw [hf.1]; rfl);rw [add_zero] at this;exact this
 | some n =>
  obtain ⟨cs,rfl,h1,_⟩:=hf;have:=qjv (w:=w) (p:=p) cs.toList 0 λj u hu=>by rw [uD]; exact hc j u hu
  rw [zG,h1] at this;simp only [ldV,this];simp
def q6s [NL] {k:Kd} {x:PV} {w:World} {D:Nat->Prop} {ρ:Nat->Option Nat} {h:Hp} {y:Value} (hf:q44 k x) (hr:Rd w D x ρ h y):q2T k y:=by
 have one:∀ {x:PV} {y:Value},qbz x->Rd w D x ρ h y->q2T none y:=λ{x y} hf hr=>by
  cases x <;> simp only [qbz] at hf <;> unfold Rd at hr
  case vl v=>subst hr; exact ⟨q16 hf.1,hf⟩
  case fm G=>exact hf _ _ _ hr
  case sl k l=>obtain ⟨_,_,_,_,rfl,_⟩:=hr; exact ⟨rfl,rfl,nlo⟩
  case ow=>obtain ⟨_,_,_,_,_,rfl,_⟩:=hr; exact ⟨rfl,rfl,nlo⟩
  case pt=>obtain ⟨_,_,_,_,_,rfl⟩:=hr; exact ⟨rfl,rfl,nlo⟩
  case qt=>obtain ⟨_,_,rfl,_⟩:=hr; exact ⟨rfl,rfl,nlo⟩
  case mp=>obtain ⟨_,_,_,_,rfl⟩:=hr; exact ⟨rfl,rfl,nlo⟩
 cases k with
 | none=>exact one hf hr
 | some n =>
  cases x <;> simp only [q44] at hf
  case fm G=>unfold Rd at hr; exact hf.2 _ _ _ hr
  case ag l =>
   unfold Rd at hr;obtain ⟨vs,rfl,h1⟩:=hr;refine ⟨⟨vs⟩,rfl,by simp [h1.len,hf.1.1],λu hu=>?_⟩;simp only at hu;obtain ⟨i,hi⟩:=xH hu;obtain ⟨h2,h3⟩:=RdL.iff.1 h1;have hlt:=(zC.1 hi).1;have hx:l[i]?=some l[i]:=zD Oq;exact (one (hf.2 _ (zF hx)) (h3 i _ _ hx hi)).2
def ldP (h:Hp) (k:Option Kd):PV->Option (PV × List Nat)
 | .pt id i j=>match k,h id with
  | some k,some b=>if b.st=true\/ksz k=0 then none else ((b.xs[i]?).bind (ldU b.k k j)).map λx=>(x,[id])
  | _,_=>none
 | .qt bk x=>match k with
  | some k=>if ksz k=0 then none else (ldU bk k 0 x).map λy=>(y,[])
  | none=>none
 | _=>none
def alB [NL] (P:Program) (t:TypeId):Option Bk :=
 match q1h P t,q09 P t with
 | some z,some none=>match z.toList with
  | [v]=>if qkF v then some ⟨t,none,[.vl v],false⟩ else none
  | _=>none
 | some z,some (some n)=>if z.size=n/\(z.toList.all λv=>v.oneCell' && q4E v)=true then some ⟨t,some n,[.ag (z.toList.map .vl)],false⟩ else none
 | _,_=>none
def elK [NL] (P:Program) (t:TypeId):Option (TypeId × Kd × Nat) :=
 match q0a P t with
 | some (E,sz,bytes,z)=>match q09 P E with
  | some k=>if ksz k=sz/\0 < sz/\z.size=sz/\(z.toList.all λv=>v.oneCell' && q4E v)=true then some (E,k,bytes) else none
  | none=>none
 | none=>none
def elZ [NL] (P:Program) (t:TypeId):Option (TypeId × Kd × Nat × PV) :=
 match q0a P t,elK P t with
 | some (_,_,_,z),some (E,none,b)=>match z.toList with | [v]=>some (E,none,b,.vl v) | _=>none
 | some (_,_,_,z),some (E,some n,b)=>some (E,some n,b,.ag (z.toList.map .vl))
 | _,_=>none
section
variable {w w':World} {w0:Base} {D D0:Nat->Prop} {ρ:Nat->Option Nat} {h:Hp} {s:Nat->PV} {e:Env} {P:Program}
def qcP.noA [NL] {g:Nat} {b:Bk} (hm:qcP w D ρ h g b) {i:Nat} {l:List PV} (hy:b.xs[i]?=some (.ag l)):False:=by
 obtain ⟨_,_,es,cl,ps,_,_,m5,_⟩:=hm;obtain ⟨v,hv,hr⟩:=m5.get hy;unfold Rd at hr;obtain ⟨vs,rfl,_⟩:=hr
 rcases i with _ | i
 .cases hv
 .simp at hv
def qcP.noL [NL] {g:Nat} {b:Bk} (hm:qcP w D ρ h g b) {i j:Nat} {k:Kd} {y x:PV} (hy:b.xs[i]?=some y) (hl:ldU b.k k j y=some x) (hk:0 < ksz k):False:=by
 rw [hm.1] at hl;unfold ldU at hl
 split at hl
 .rename_i hc;rw [<- hc.1] at hk;simp [ksz] at hk
 .split at hl
  .exact hm.noA hy
  .exact hm.noA hy
  .cases hl
def qgG.unit [NL] {g:Nat} {b:Bk} (hb:qgG w D ρ h g b) (hm:¬ qcP w D ρ h g b) (hst:b.st=false) {i:Nat} {x:PV} (hx:b.xs[i]?=some x) :
  ∃ v,Rd w D x ρ h v/\q2T b.k v/\∀ (j:Nat) (u:Value),v.cells.toList[j]?=some u->w.cell? ⟨g,i*ksz b.k+j,none⟩=some u:=by
 obtain ⟨cs,h1,h2,h3⟩:=hb.resolve_left hm;obtain ⟨vs,h4,h5,h6⟩:=h3 hst;obtain ⟨v,hv,hr⟩:=h5.get hx;have hf:=h6 v (zF hv);refine ⟨v,hr,hf,λj t ht=>?_⟩;have hcs:∀ v ∈ vs,v.cells.size=ksz b.k:=λv hv=>(h6 v hv).size;have hj:j < ksz b.k:=by
  have:=(zC.1 ht).1;rw [zG,hf.size] at this;exact this
 have q:=q4v hcs hv hj;rw [<- h4,zK] at q;rw [h1.cell]
 split at q
 .rw [zH] at q ht; rw [q]; exact ht
 .rw [zH] at ht; rw [ht] at q; cases q
def qeL [NL] (S:Sat D0 w0 s h ρ e w) {t:TypeId} {a:Operand} {r:PV × List Nat} (hp:ldP h (q09 P t) (pe s a)=some r):∃ v,ldV w (q09 P t) (ev e a)=some v/\Rd w (dm D0 ρ h) r.1 ρ h v:=by
 have ha:=S.pex a;unfold ldP at hp
 split at hp
 .rename_i id i j hx;rw [hx] at ha;unfold Rd at ha;obtain ⟨b,g,g1,g2,g3,g4⟩:=ha
  split at hp
  .rename_i k b' hk hb;rw [g1] at hb;cases hb
   split at hp
   .cases hp
   .rename_i hc;obtain ⟨x,hx1,rfl⟩:=zB.1 hp;obtain ⟨y,hy,hl⟩:=zA.1 hx1;have hst:b.st=false:=by
     cases hq:b.st
     .rfl
     .exact absurd (Or.inl hq) hc
    obtain ⟨v,q1,q2,q3⟩:=(S.own id b g g1 g2).2.unit (λhm=>hm.noL hy hl Oq) hst hy;obtain ⟨z,z1,z2,z3⟩:=qkZ hl q1 q2 Oq;rw [hk,g4];refine ⟨z,qkY z2 λi' u hu=>?_,z1⟩;rw [q19,Nat.add_assoc];exact q3 _ u (z3 i' u hu)
  .cases hp
 .rename_i bk x hx;rw [hx] at ha;unfold Rd at ha;obtain ⟨ad,z,q1,q2,q3,q4,q5⟩:=ha
  split at hp
  .rename_i k hk
   split at hp
   .cases hp
   .obtain ⟨y,hy,rfl⟩:=zB.1 hp;obtain ⟨z',z1,z2,z3⟩:=qkZ hy q3 q4.1 Oq;rw [q1,hk];refine ⟨z',qkY z2 λi' u hu=>?_,Rd.mv (Kp.refl _ _) (λ_ _ h=>h) _ _ _ _ _ _ Cpt.h0 z1⟩;have:=z3 i' u hu;rw [uD] at this;exact q5 _ u this
  .cases hp
 .cases hp
def Sat.newP [NL] (S:Sat D0 w0 s h ρ e w) {d:Nat} (hd:h d=none) (hd5:d < 5000) {b:Bk} {z:Value} {x:PV} (hb:b=⟨b.T,b.k,[x],false⟩) (hz:Rd w (dm D0 ρ h) x ρ h z) (hf:q2T b.k z) :
  ∃ ρ',Sat D0 w0 (pu s d (.pt d 0 0)) (q0P h d b) ρ' (upd e d (.pointer (some ⟨w.heap.size,0,none⟩))) (w.alloc (.cells z.cells b.T)):=by
 have hsz:=hf.size;obtain ⟨S1,_,_⟩:=S.alloc (w':=w.alloc (.cells z.cells b.T)) (b:=b) (g:=w.heap.size) hd hd5 (Kp.alloc w _) (zQ _) (cs:=z.cells) (Blk.new w b.T z.cells) (λu hu=>(hf.one u hu).2) (by rw [hb]) (vs:=[z]) (by
  rw [hb];simp only [zO,z9,uD,Nat.one_mul];rw [yK (by rw [zG,hsz]; exact zQ _)];simp [q01]) (by rw [hb]; exact RdL.one hz) (by intro v hv; simp at hv; subst hv; exact hf)
 refine ⟨_,S1.put d ?_⟩;unfold Rd;exact ⟨b,w.heap.size,q0H,q0p,by rw [hb]; simp,σ⟩
def Sat.newS [NL] (S:Sat D0 w0 s h ρ e w) {d n:Nat} (hd:h d=none) (hd5:d < 5000) {b:Bk} {cs:Array Value} {vs:List Value} (hx:Ext w w') (hb:Blk w' w.heap.size b.T cs) (hn:∀ u ∈ cs.toList,q4E u=true) (hst:b.st=false) (hln:b.xs.length=n) {c:Nat} (hc:n<=c) (hcm:c<=maxLen) (hcs:cs.size=c*ksz b.k)
  (h1:cs.toList.take (n*ksz b.k)=q01 vs) (h2:RdL w (dm D0 ρ h) b.xs ρ h vs) (h3:∀ v ∈ vs,q2T b.k v) :
  ∃ ρ',Sat D0 w0 (pu s d (.ow d b.k 0 n)) (q0P h d b) ρ' (upd e d (.slice (some ⟨w.heap.size,0,none⟩) n c)) w':=by
 obtain ⟨S1,_,_⟩:=S.alloc (w':=w') (b:=b) (g:=w.heap.size) hd hd5 hx (zQ _) (cs:=cs) hb hn hst (vs:=vs) (by rw [hln]; exact h1) h2 h3;refine ⟨_,S1.put d ?_⟩;have hat:AtO w' (upo ρ d (some w.heap.size) d) (some ⟨w.heap.size,0,none⟩) (0*ksz b.k) ((0+c)*ksz b.k):=⟨_,q0p,by rw [xN],cs,b.T,hb,by rw [uD]; exact hcs⟩;unfold Rd;exact ⟨b,_,c,q0H,rfl,rfl,hc,hcm,ω,.inr hat,λ_=>.inr hat⟩
def allB [NL] {z:Array Value} (ha:(z.toList.all λv=>v.oneCell' && q4E v)=true):∀ u ∈ z.toList,u.oneCell'=true/\q4E u=true:=λu hu=>by
 have:=yE.1 ha u hu;simpa using this
def qix [NL] (S:Sat D0 w0 s h ρ e w) {d t:Nat} {b:Bk} (hd:h d=none) (hd5:d < 5000) (hb:alB P t=some b):∃ z,q1h P t=some z/\∃ ρ',Sat D0 w0 (pu s d (.pt d 0 0)) (q0P h d b) ρ' (upd e d (.pointer (some ⟨w.heap.size,0,none⟩))) (w.alloc (.cells z t)):=by
 unfold alB at hb
 split at hb
 .rename_i z hz hk;refine ⟨z,hz,?_⟩
  split at hb
  .rename_i v hv
   split at hb
   .rename_i ho;cases hb;have hzz:z=#[v]:=by cases z; simp at hv; rw [hv]
    have hcc:=q16 ho.1;have:=S.newP (b:=⟨t,none,[.vl v],false⟩) (z:=v) (x:=.vl v) hd hd5 rfl (by unfold Rd; rfl) ⟨hcc,ho⟩;rw [hcc,<- hzz] at this;exact this
   .cases hb
  .cases hb
 .rename_i z n hz hk;refine ⟨z,hz,?_⟩
  split at hb
  .rename_i hc;cases hb;exact S.newP (b:=⟨t,some n,[.ag (z.toList.map .vl)],false⟩) (z:=.agg z) (x:=.ag (z.toList.map .vl)) hd hd5 rfl (by unfold Rd; exact ⟨z.toList,rfl,q3y _⟩) ⟨z,rfl,hc.1,allB hc.2⟩
  .cases hb
 .cases hb
def qaw [NL] {t:TypeId} {E:TypeId} {k:Kd} {bytes:Nat} (hk:elK P t=some (E,k,bytes)):∃ z:Array Value,q0a P t=some (E,ksz k,bytes,z)/\0 < ksz k/\z.size=ksz k/\q09 P E=some k/\∀ u ∈ z.toList,u.oneCell'=true/\q4E u=true:=by
 unfold elK at hk
 split at hk
 .rename_i E' sz by' z he
  split at hk
  .rename_i k' hk'
   split at hk
   .rename_i hc;cases hk;obtain ⟨rfl,h1,h2,h3⟩:=hc;exact ⟨z,he,h1,h2,hk',allB h3⟩
   .cases hk
  .cases hk
 .cases hk
def qar {sz:Nat}:∀ (vs:List Value) (a:Nat) (cs:Array Value),(∀ v ∈ vs,v.cells.size=sz)->(a+vs.length)*sz<=cs.size->∃ r,Instr.fill (λi=>some (i*sz,sz)) cs ((xI a vs.length).zip vs)=some r/\r.size=cs.size/\∀ i:Nat,r[i]?=if a*sz<=i/\i < (a+vs.length)*sz then (q01 vs)[i-a*sz]? else cs[i]?
 | [],a,cs,_,_=>⟨cs,rfl,rfl,λi=>by rw [if_neg σ]⟩
 | v :: vs,a,cs,hv,hl=>by
  rw [zO] at hl;have h1:=hv v zR;have e0:(a+(vs.length+1))*sz=a*sz+sz+vs.length*sz:=by rw [yR,yY]; omega
  have e1:(a+1+vs.length)*sz=a*sz+sz+vs.length*sz:=by rw [yR,yY]
  have e2:(a+1)*sz=a*sz+sz:=yY _ _;have hl':a*sz+sz+vs.length*sz<=cs.size:=by rw [<- e0]; exact hl
  clear hl;have hvl:v.cells.toList.length=sz:=by rw [zG,h1]
  obtain ⟨r1,q1,q2,q3⟩:=q3S (a*sz) v.cells.toList 0 cs (by rw [hvl]; clear e0 e1 e2; omega);obtain ⟨r,p1,p2,p3⟩:=qar vs (a+1) r1 (λx hx=>hv x (zJ _ hx)) (by rw [q2,e1]; exact hl');refine ⟨r,?_,by rw [p2,q2],λi=>?_⟩
  .rw [zO,List.range'_succ,xJ];unfold Instr.fill;simp only;rw [if_neg (by rw [h1]; clear e0 e1 e2; simp only [zY,decide_eq_true_eq]; omega)];rw [<- Array.foldl_toList,Array.toList_zipIdx];rw [q1];exact p1
  .rw [p3 i,q3 i,hvl,zO];have hfl:q01 (v :: vs)=v.cells.toList ++ q01 vs:=by simp [q01]
   rw [hfl,e0,e1,e2]
   by_cases c1:a*sz+sz<=i/\i < a*sz+sz+vs.length*sz
   .rw [if_pos c1,if_pos ω,List.getElem?_append_right ω,hvl,show i-a*sz-sz=i-(a*sz+sz) by omega]
   .rw [if_neg c1]
    by_cases c2:a*sz+0<=i/\i < a*sz+0+sz
    .rw [if_pos c2,if_pos ω,List.getElem?_append_left ω]
     rfl
    .rw [if_neg c2,if_neg ω]
def bs_ok [NL] (S:Sat D0 w0 s h ρ e w) {d t len E bytes:Nat} {k:Kd} {ps:List (Nat × Operand)} (hd:h d=none) (hd5:d < 5000) (hk:elK P t=some (E,k,bytes)) (hps:ps.map (·.1)=List.range len) (hl:len*ksz k<=16777216) (hf:∀ p ∈ ps,q44 k (pe s p.2)) :
  ∃ cs,bsV P t len (ps.map λp=>(p.1,ev e p.2))=some (E,cs)/\∃ ρ',Sat D0 w0 (pu s d (.ow d k 0 len)) (q0P h d ⟨E,k,ps.map λp=>pe s p.2,false⟩) ρ' (upd e d (.slice (some ⟨w.heap.size,0,none⟩) len len)) (w.alloc (.cells cs E)):=by
 obtain ⟨z,he,hsz,hzs,_,_⟩:=qaw hk;have hlen:ps.length=len:=by have:=congrArg List.length hps; simpa using this
 have hvs:RdL w (dm D0 ρ h) (ps.map λp=>pe s p.2) ρ h (ps.map λp=>ev e p.2):=by
  have:=q4V (w:=w) (D:=dm D0 ρ h) (ρ:=ρ) (h:=h) (f:=pe s) (g:=ev e) S.pex (ps.map (·.2));rw [yZ,yZ] at this;exact this
 have hfit:∀ v ∈ ps.map (λp=>ev e p.2),q2T k v:=λv hv=>by
  obtain ⟨p,hp,rfl⟩:=yF.1 hv;exact q6s (hf p hp) (S.pex p.2)
 have key:∃ cs,bsV P t len (ps.map λp=>(p.1,ev e p.2))=some (E,cs)/\cs.toList=q01 (ps.map λp=>ev e p.2):=by
  unfold bsV;rw [he];simp only
  by_cases h0:len=0
  .subst h0;have:ps=[]:=zM hlen;subst this;rw [if_pos σ];exact ⟨#[],σ,by simp [q01]⟩
  .have hpos:0 < len*ksz k:=uH Oq hsz;rw [if_neg ω,if_neg ω];have hz:(ps.map λp=>(p.1,ev e p.2))=(xI 0 (ps.map λp=>ev e p.2).length).zip (ps.map λp=>ev e p.2):=by
    rw [yV,hlen,<- yS,<- hps];clear hf hps hlen hvs hfit
    induction ps with
    | nil=>rfl
    | cons p ps ih=>simp only [z6,xJ,ih]
   rw [hz];obtain ⟨r,r1,r2,r3⟩:=qar (sz:=ksz k) (ps.map λp=>ev e p.2) 0 ((Array.range (len*ksz k)).map (z[· % z.size]!)) (λv hv=>(hfit v hv).size) (by simp [hlen]);rw [r1];refine ⟨r,rfl,?_⟩;have hfl:(q01 (ps.map λp=>ev e p.2)).length=len*ksz k:=by rw [q0l λv hv=>(hfit v hv).size]; simp [hlen]
   apply yB
   intro i;rw [zH,r3 i]
   split
   .simp
   .rename_i hc;simp [hlen] at hc;rw [v7 ω,Array.getElem?_eq_none (by simp; omega)]
 obtain ⟨cs,h1,h2⟩:=key;refine ⟨cs,h1,?_⟩;have hfl:(q01 (ps.map λp=>ev e p.2)).length=len*ksz k:=by rw [q0l λv hv=>(hfit v hv).size]; simp [hlen]
 have hcs:cs.size=len*ksz k:=by rw [<- zG,h2,hfl]
 have hml:len<=maxLen:=by
  have:len<=len*ksz k:=xA _ hsz;simp only [maxLen]; omega
 exact S.newS (b:=⟨E,k,ps.map λp=>pe s p.2,false⟩) hd hd5 (Kp.alloc w _) (Blk.new w E cs) (λu hu=>by
  rw [h2] at hu;unfold q01 at hu;obtain ⟨v,hv,hu⟩:=yO.1 hu;exact ((hfit v hv).one u hu).2) rfl (by simp [hlen]) (zQ _) hml hcs (by rw [<- hcs,<- zG,List.take_length]; exact h2) hvs hfit
def qeI {z:Array Value} {zv:Value} (hz:zv.cells=z) (hp:0 < z.size) (n:Nat):(madeCells z (n*z.size)).toList=q01 (List.replicate n zv):=by
 have hcs:∀ v ∈ List.replicate n zv,v.cells.size=z.size:=λv hv=>by rw [(z7.1 hv).2,hz]
 have hfl:=q0l hcs;rw [xF] at hfl
 apply yB
 intro i
 rcases uF i (n*z.size) with hi | hi
 .have hq:i / z.size < n:=by rw [Nat.div_lt_iff_lt_mul hp]; exact hi
  have hm:=Nat.mod_lt i hp;have:=q4v hcs (i:=i / z.size) (j:=i % z.size) (v:=zv) (by rw [xB,if_pos hq]) hm;rw [Nat.mul_comm,Nat.div_add_mod] at this;rw [this,hz];simp [madeCells,hi,hm]
 .rw [v7 (by rw [zG,size_madeCells]; exact hi),v7 ω]
def mk_ok [NL] (S:Sat D0 w0 s h ρ e w) {d t E bytes n m:Nat} {k:Kd} {x:PV} (hd:h d=none) (hd5:d < 5000) (hk:elZ P t=some (E,k,bytes,x)) (hnm:n<=m) (hn:m<=maxLen) :
  ∃ z,q0a P t=some (E,ksz k,bytes,z)/\∃ ρ',Sat D0 w0 (pu s d (.ow d k 0 n)) (q0P h d ⟨E,k,List.replicate n x,false⟩) ρ' (upd e d (.slice (some ⟨w.heap.size,0,none⟩) n m)) (w.alloc (.cells (madeCells z (m*ksz k)) E)):=by
 have key:∃ (z:Array Value) (zv:Value),elK P t=some (E,k,bytes)/\q0a P t=some (E,ksz k,bytes,z)/\0 < ksz k/\z.size=ksz k/\zv.cells=z/\q2T k zv/\Rd w (dm D0 ρ h) x ρ h zv:=by
  unfold elZ at hk
  split at hk
  .rename_i E1 s1 b1 z' E2 b2 he hkk
   split at hk
   .rename_i v hv;cases hk;obtain ⟨z2,q1,q2,q3,_,q4⟩:=qaw hkk;have hz2:z2=z':=by rw [q1] at he; cases he; rfl
    subst hz2;have ho:=q4 v (by rw [hv]; simp);have hzz:z2=#[v]:=by cases z2; simp at hv; rw [hv]
    exact ⟨z2,v,hkk,q1,q2,q3,by rw [hzz]; exact q16 ho.1,⟨q16 ho.1,ho⟩,by unfold Rd; rfl⟩
   .cases hk
  .rename_i E1 s1 b1 z' E2 n2 b2 he hkk;cases hk;obtain ⟨z2,q1,q2,q3,_,q4⟩:=qaw hkk;have hz2:z2=z':=by rw [q1] at he; cases he; rfl
   subst hz2;exact ⟨z2,.agg z2,hkk,q1,q2,q3,rfl,⟨z2,rfl,q3,q4⟩,by unfold Rd; exact ⟨z2.toList,rfl,q3y _⟩⟩
  .cases hk
 obtain ⟨z,zv,_,he,hp,hzs,hzc,hfit,hr⟩:=key;refine ⟨z,he,?_⟩;have hfl:=qeI hzc Oq m;rw [hzs] at hfl;exact S.newS (b:=⟨E,k,List.replicate n x,false⟩) (n:=n) hd hd5 (Kp.alloc w _) (Blk.new w E _) (λu hu=>by
  rw [hfl] at hu;unfold q01 at hu;obtain ⟨v,hv,hu⟩:=yO.1 hu;rw [(z7.1 hv).2] at hu;exact (hfit.one u hu).2) rfl σ hnm hn (size_madeCells _ _) (by
   rw [hfl,<- q3e λv hv=>by rw [(z7.1 hv).2,hzc,hzs],List.take_replicate,Nat.min_eq_left hnm]) (vs:=List.replicate n zv) (RdL.iff.2 ⟨σ,λi y v hy hv=>by
   rw [xB] at hy hv
   split at hy
   .rw [if_pos ‹_›] at hv; cases hy; cases hv; exact hr
   .cases hy⟩) (λv hv=>by rw [(z7.1 hv).2]; exact hfit)
end
def stU (bk k:Kd) (j:Nat) (old x:PV):Option PV :=
 if bk=k/\j=0 then some x else
  match bk,k,old,x with
  | some _,none,.ag l,x=>if j < l.length then some (.ag (l.set j x)) else none
  | some _,some m,.ag l,.ag r=>if r.length=m/\j+m<=l.length then some (.ag (l.take j ++ r ++ l.drop (j+m))) else none
  | _,_,_,_=>none
def qj8 {bk k:Kd} {j:Nat} {old x u':PV} (h:stU bk k j old x=some u'):(bk=k/\j=0/\u'=x)\/(∃ n l,bk=some n/\k=none/\old=.ag l/\j < l.length/\u'=.ag (l.set j x))\/∃ n m l r,bk=some n/\k=some m/\old=.ag l/\x=.ag r/\r.length=m/\j+m<=l.length/\u'=.ag (l.take j ++ r ++ l.drop (j+m)):=by
 unfold stU at h
 split at h
 .rename_i hh; cases h; exact .inl ⟨hh.1,hh.2,rfl⟩
 .split at h
  .split at h
   .cases h; exact .inr (.inl ⟨_,_,rfl,rfl,rfl,‹_›,rfl⟩)
   .cases h
  .split at h
   .rename_i hc; cases h; exact .inr (.inr ⟨_,_,_,_,rfl,rfl,rfl,rfl,hc.1,hc.2,rfl⟩)
   .cases h
  .cases h
def stl (h:Hp):Option Nat->Hp
 | none=>h
 | some i=>match h i with | some b=>q0P h i { b with st:=true } | none=>h
def apS (h:Hp) (E:TypeId) (k:Kd):PV->Option (List PV × Option Nat)
 | .vl (.slice none 0 0)=>some ([],none)
 | .ow id k' off n=>(h id).bind λb=>if b.st=false/\b.T=E/\b.k=k/\k'=k/\off=0/\n=b.xs.length then some (b.xs,some id) else none
 | _=>none
def apX (h:Hp) (k:Kd):PV->Option (List PV × List Nat)
 | .vl (.slice none 0 0)=>some ([],[])
 | .sl k' l=>if k'=k then some (l,[]) else none
 | .ow id k' off n=>(h id).bind λb=>if b.st=false/\b.k=k/\k'=k then some ((b.xs.drop off).take n,[id]) else none
 | _=>none
def ClP [NL] (x:PV) (k:Kd) (xs:List PV):Prop:=∀ w D ρ h v,Rd w D x ρ h v->∃ A vs,v=.slice A xs.length xs.length/\Row w D (ksz k) A xs.length xs.length (q01 vs)/\RdL w D xs (λ_=>none) h0 vs/\∀ u ∈ vs,q2T k u
def qhY:PV->Prop
 | .fm _=>True
 | _=>False
def apW [NL] (h:Hp) (E:TypeId) (k:Kd) (p:PV) (ys xs:List PV) (i0:Option Nat):Prop:=apS h E k p=some (xs,i0)\/(i0=none/\ys≠[]/\qhY p/\ClP p k xs)
def q2z:PV->Prop
 | .ow _ _ _ _ | .pt _ _ _ | .mp _ | .ag _ | .tu _=>False
 | _=>True
def Cld:PV->Prop
 | .ag l=>∀ x ∈ l,q2z x
 | x=>q2z x
open Classical in
noncomputable def qcG (h:Hp):PV->Option (PV × List Nat)
 | .ow id k off n=>(h id).bind λb=>if b.st=false/\b.k=k/\∀ x ∈ b.xs,Cld x then some (.sl k ((b.xs.drop off).take n),[id]) else none
 | x=>if q2z x then some (x,[]) else none
noncomputable def q1V (h:Hp):List PV->Option (List PV × List Nat)
 | []=>some ([],[])
 | x :: l=>(qcG h x).bind λa=>(q1V h l).map λb=>(a.1 :: b.1,a.2 ++ b.2)
open Classical in
noncomputable def q3E (h:Hp):PV->Option (PV × List Nat)
 | .ow id k off n=>(h id).bind λb=>if b.st=false/\b.k=k/\∀ x ∈ b.xs,Cld x then some (.sl k ((b.xs.drop off).take n),[id]) else if b.st=false/\b.k=k then (q1V h b.xs).map λr=>(.sl k ((r.1.drop off).take n),id :: r.2) else none
 | x=>if q2z x then some (x,[]) else none
noncomputable def q3U (h:Hp):List PV->Option (List PV × List Nat)
 | []=>some ([],[])
 | x :: l=>(q3E h x).bind λa=>(q3U h l).map λb=>(a.1 :: b.1,a.2 ++ b.2)
noncomputable def clo (h:Hp):PV->Option (PV × List Nat)
 | .ag l=>(q3U h l).map λr=>(.ag r.1,r.2)
 | x=>q3E h x
noncomputable def q2d (h:Hp):List PV->Option (List PV × List Nat)
 | []=>some ([],[])
 | x :: l=>(clo h x).bind λa=>(q2d h l).map λb=>(a.1 :: b.1,a.2 ++ b.2)
def Nz [NL] (r:PV):Prop:=∀ (w:World) (D B:Nat->Prop) (v:Value),(∀ g,B g->∃ cs T,Blk w g T cs/\∀ u ∈ cs.toList,q4E u=true)->Rd w D r (λ_=>none) h0 v->Rd w (λk=>D k/\¬ B k) r (λ_=>none) h0 v
def AC [NL] (P:Program) (Tb:World->Prop) (f:FuncId) (al:List PV) (r:PV):Prop :=
 q0J P f=true/\∀ (D:Nat->Prop) (w:World) (vs:List Value),Tb w->Fr D w->RdL w D al (λ_=>none) h0 vs->Calls P f vs.toArray w λx w'=>∃ v,x=.returned v/\Ext w w'/\Rd w' D r (λ_=>none) h0 v
section
variable {w w':World} {w0:Base} {D D0:Nat->Prop} {ρ:Nat->Option Nat} {h:Hp} {s:Nat->PV} {e:Env} {P:Program}
def Rd.cl [NL] {x:PV} {y:Value} (hx:Rd w D x (λ_=>none) h0 y):Rd w D x ρ h y:=Rd.mv (Kp.refl _ _) (λ_ _ h=>h) _ _ _ _ _ _ Cpt.h0 hx
def RdL.cl [NL] {l:List PV} {vs:List Value} (hx:RdL w D l (λ_=>none) h0 vs):RdL w D l ρ h vs:=RdL.mv (Kp.refl _ _) (λ_ _ h=>h) _ _ _ _ _ _ Cpt.h0 hx
def Rd.sub [NL] {D':Nat->Prop} {x:PV} {y:Value} (hx:Rd w D x ρ h y) (hd:∀ k,k < w.heap.size->D k->D' k):Rd w D' x ρ h y:=Rd.mv (Kp.refl _ _) hd _ _ _ _ _ _ (Cpt.ext (Kp.refl _ _)) hx
def RdL.sub [NL] {D':Nat->Prop} {x:List PV} {y:List Value} (hx:RdL w D x ρ h y) (hd:∀ k,k < w.heap.size->D k->D' k):RdL w D' x ρ h y:=RdL.mv (Kp.refl _ _) hd _ _ _ _ _ _ (Cpt.ext (Kp.refl _ _)) hx
def q25 [NL] {x:PV} {y:Value} (hc:q2z x) (hx:Rd w D x ρ h y):Rd w D x (λ_=>none) h0 y:=by
 cases x <;> simp only [q2z] at hc <;> unfold Rd at hx ⊢ <;> exact hx
def q45 [NL] {x:PV} {y:Value} (hc:Cld x) (hx:Rd w D x ρ h y):Rd w D x (λ_=>none) h0 y:=by
 cases x
 case ag l =>
  simp only [Cld] at hc;unfold Rd at hx ⊢;obtain ⟨vs,h1,h2⟩:=hx;obtain ⟨h3,h4⟩:=RdL.iff.1 h2;exact ⟨vs,h1,RdL.iff.2 ⟨h3,λi z v hz hv=>q25 (hc z (zF hz)) (h4 i z v hz hv)⟩⟩
 all_goals exact q25 hc hx
def isM (w:World) (g:Nat):Prop:=∃ es cl,w.heap[g]?=some (.map es cl)
def qt6 [NL] {k:Kd} {x:PV} (hf:q44 k x):k≠some 0:=λe=>by
 subst e;cases x <;> simp [q44] at hf
def qcP.noT [NL] {g:Nat} {b:Bk} (hm:qcP w D ρ h g b) {i j:Nat} {k:Kd} {u x u':PV} (hu:b.xs[i]?=some u) (hs:stU b.k k j u x=some u') (hk:k≠some 0):False:=by
 rcases qj8 hs with ⟨e,_,_⟩ | ⟨n,l,_,_,rfl,_⟩ | ⟨n,m,l,r,_,_,rfl,_⟩
 .exact hk (e.symm.trans hm.1)
 .exact hm.noA hu
 .exact hm.noA hu
def Sat.row [NL] (S:Sat D0 w0 s h ρ e w) {id off n:Nat} {b:Bk} {y:Value} (hi:h id=some b) (hst:b.st=false) (hr:Rd w (dm D0 ρ h) (.ow id b.k off n) ρ h y) :
  ∃ A c vs,y=.slice A n c/\Row w (λk=>ρ id=some k/\¬ isM w k) (ksz b.k) A n c (q01 vs)/\RdL w (dm D0 ρ h) ((b.xs.drop off).take n) ρ h vs/\∀ v ∈ vs,q2T b.k v:=by
 unfold Rd at hr;obtain ⟨b',A,c,h1,_,rfl,h3,h4,h5,h6,h7⟩:=hr;rw [hi] at h1;cases h1
 by_cases hn:n=0
 .subst hn;refine ⟨A,c,[],rfl,⟨h3,by simp [q01],λhx=>by simp [q01] at hx⟩,by rw [List.take_zero]; unfold RdL; rfl,λv hv=>by cases hv⟩
 .rcases h6 with h6 | ⟨g,g1,g2,g3⟩
  .omega
  .obtain ⟨cs,c1,c2,c3⟩:=(S.own id b g hi g1).2.resolve_left λhm=>hm.noS g3;obtain ⟨vs,v1,v2,v3⟩:=c3 hst;have hcs:∀ v ∈ vs,v.cells.size=ksz b.k:=λv hv=>(v3 v hv).size;have hlen:=v2.len;refine ⟨A,c,(vs.drop off).take n,rfl,⟨h3,?_,λ_=>⟨_,g2,⟨g1,λ⟨es,cl,hm⟩=>by have:=hm.symm.trans c1; cases this⟩,λj u hu=>?_⟩⟩,(v2.drop off).take n,λv hv=>v3 v (zN (zS hv))⟩
   .rw [q0l λv hv=>hcs v (zN (zS hv))]
    congr 1
    simp; omega
   .rw [q3e λv hv=>hcs v (zN hv),q3f hcs,<- v1,zK] at hu
    split at hu
    .rw [v8,zK] at hu
     split at hu
     .rw [q19,c1.cell,<- zH]; exact hu
     .cases hu
    .cases hu
def qo3 [NL] (S:Sat D0 w0 s h ρ e w) {x:PV} {r:PV × List Nat} {y:Value} (hc:qcG h x=some r) (hx:Rd w (dm D0 ρ h) x ρ h y):Rd w (λk=>dm D0 ρ h k\/∃ i ∈ r.2,ρ i=some k/\¬ isM w k) r.1 (λ_=>none) h0 y:=by
 unfold qcG at hc
 split at hc
 .rename_i id k off n;obtain ⟨b,hb,hc⟩:=zA.1 hc
  split at hc
  .rename_i hh;obtain ⟨hst,rfl,hcl⟩:=hh;cases hc;obtain ⟨A,c,vs,rfl,q1,q2,q3⟩:=S.row hb hst hx;have hb0:off+n<=b.xs.length:=by
    unfold Rd at hx;obtain ⟨b',_,_,h1,_,_,_,_,h5,_⟩:=hx;rw [hb] at h1; cases h1; exact h5
   unfold Rd;refine ⟨A,n,c,vs,rfl,q1.sub λk _ hk=>.inr ⟨id,σ,hk⟩,by simp; omega,?_,q3⟩;obtain ⟨q4,q5⟩:=RdL.iff.1 q2;exact RdL.iff.2 ⟨q4,λi z v hz hv=>(q45 (hcl z (zN (zS (zF hz)))) (q5 i z v hz hv)).sub λk _ hk=>.inl hk⟩
  .cases hc
 .split at hc
  .rename_i hcl;cases hc;exact (q25 hcl hx).sub λk _ hk=>.inl hk
  .cases hc
def qbF [NL] (S:Sat D0 w0 s h ρ e w):∀ {l:List PV} {r:List PV × List Nat},q1V h l=some r->r.1.length=l.length/\∀ (i:Nat) (x:PV),l[i]?=some x->∃ z,r.1[i]?=some z/\∀ y,Rd w (dm D0 ρ h) x ρ h y->Rd w (λk=>dm D0 ρ h k\/∃ i ∈ r.2,ρ i=some k/\¬ isM w k) z (λ_=>none) h0 y
 | [],r,hc=>by unfold q1V at hc; cases hc; exact ⟨rfl,λi x hx=>by simp at hx⟩
 | x :: l,r,hc=>by
  unfold q1V at hc;obtain ⟨a,ha,hc⟩:=zA.1 hc;obtain ⟨b,hb,rfl⟩:=zB.1 hc;obtain ⟨h1,h2⟩:=qbF S hb;refine ⟨by simp [h1],λi x' hx=>?_⟩;cases i with
  | zero=>cases hx; exact ⟨_,rfl,λy hy=>(qo3 S ha hy).sub λk _ hk=>hk.imp (λh=>h) λ⟨i,hi,h⟩=>⟨i,zU _ hi,h⟩⟩
  | succ i =>
   obtain ⟨z,q1,q2⟩:=h2 i x' hx;exact ⟨z,q1,λy hy=>(q2 y hy).sub λk _ hk=>hk.imp (λh=>h) λ⟨i,hi,h⟩=>⟨i,zP _ hi,h⟩⟩
def q7C [NL] (S:Sat D0 w0 s h ρ e w) {x:PV} {r:PV × List Nat} {y:Value} (hc:q3E h x=some r) (hx:Rd w (dm D0 ρ h) x ρ h y):Rd w (λk=>dm D0 ρ h k\/∃ i ∈ r.2,ρ i=some k/\¬ isM w k) r.1 (λ_=>none) h0 y:=by
 unfold q3E at hc
 split at hc
 .rename_i id k off n;obtain ⟨b,hb,hc⟩:=zA.1 hc
  split at hc
  .rename_i hh;obtain ⟨hst,rfl,hcl⟩:=hh;cases hc;obtain ⟨A,c,vs,rfl,q1,q2,q3⟩:=S.row hb hst hx;have hb0:off+n<=b.xs.length:=by
    unfold Rd at hx;obtain ⟨b',_,_,h1,_,_,_,_,h5,_⟩:=hx;rw [hb] at h1; cases h1; exact h5
   unfold Rd;refine ⟨A,n,c,vs,rfl,q1.sub λk _ hk=>.inr ⟨id,σ,hk⟩,by simp; omega,?_,q3⟩;obtain ⟨q4,q5⟩:=RdL.iff.1 q2;exact RdL.iff.2 ⟨q4,λi z v hz hv=>(q45 (hcl z (zN (zS (zF hz)))) (q5 i z v hz hv)).sub λk _ hk=>.inl hk⟩
  .split at hc
   .rename_i hh;obtain ⟨hst,rfl⟩:=hh;obtain ⟨r0,hr0,rfl⟩:=zB.1 hc;obtain ⟨A,c,vs,rfl,q1,q2,q3⟩:=S.row hb hst hx;obtain ⟨g1,g2⟩:=qbF S hr0;have hb0:off+n<=b.xs.length:=by
     unfold Rd at hx;obtain ⟨b',_,_,h1,_,_,_,_,h5,_⟩:=hx;rw [hb] at h1; cases h1; exact h5
    unfold Rd;refine ⟨A,n,c,vs,rfl,q1.sub λk _ hk=>.inr ⟨id,σ,hk⟩,by simp; omega,?_,q3⟩;obtain ⟨q4,q5⟩:=RdL.iff.1 q2;refine RdL.iff.2 ⟨by rw [<- q4]; simp [g1],λi z v hz hv=>?_⟩;rw [zK] at hz
    split at hz
    .rename_i hin;rw [v8] at hz;obtain ⟨x,hx'⟩:∃ x,b.xs[off+i]?=some x:=⟨_,zD Oq⟩;obtain ⟨z',e1,e2⟩:=g2 _ _ hx';rw [e1] at hz; cases hz;refine (e2 v (q5 i x v ?_ hv)).sub λk _ hk=>hk.imp (λh=>h) λ⟨i,hi,h⟩=>⟨i,zJ _ hi,h⟩;rw [zK,if_pos hin,v8]; exact hx'
    .cases hz
   .cases hc
 .split at hc
  .rename_i hcl;cases hc;exact (q25 hcl hx).sub λk _ hk=>.inl hk
  .cases hc
def qbE [NL] (S:Sat D0 w0 s h ρ e w):∀ {l:List PV} {r:List PV × List Nat} {ys:List Value},q3U h l=some r->RdL w (dm D0 ρ h) l ρ h ys->RdL w (λk=>dm D0 ρ h k\/∃ i ∈ r.2,ρ i=some k/\¬ isM w k) r.1 (λ_=>none) h0 ys
 | [],r,ys,hc,hx=>by unfold q3U at hc; cases hc; unfold RdL at hx ⊢; exact hx
 | x :: l,r,ys,hc,hx=>by
  unfold q3U at hc;obtain ⟨a,ha,hc⟩:=zA.1 hc;obtain ⟨b,hb,rfl⟩:=zB.1 hc;unfold RdL at hx ⊢;obtain ⟨y,zs,rfl,h1,h2⟩:=hx;exact ⟨y,zs,rfl,(q7C S ha h1).sub λk _ hk=>hk.imp (λh=>h) λ⟨i,hi,h⟩=>⟨i,zU _ hi,h⟩,(qbE S hb h2).sub λk _ hk=>hk.imp (λh=>h) λ⟨i,hi,h⟩=>⟨i,zP _ hi,h⟩⟩
def que [NL] (S:Sat D0 w0 s h ρ e w) {x:PV} {r:PV × List Nat} {y:Value} (hc:clo h x=some r) (hx:Rd w (dm D0 ρ h) x ρ h y):Rd w (λk=>dm D0 ρ h k\/∃ i ∈ r.2,ρ i=some k/\¬ isM w k) r.1 (λ_=>none) h0 y:=by
 unfold clo at hc
 split at hc
 .obtain ⟨b,hb,rfl⟩:=zB.1 hc;unfold Rd at hx ⊢;obtain ⟨vs,h1,h2⟩:=hx;exact ⟨vs,h1,qbE S hb h2⟩
 .exact q7C S hc hx
def q7A [NL] (S:Sat D0 w0 s h ρ e w):∀ {l:List PV} {r:List PV × List Nat} {ys:List Value},q2d h l=some r->RdL w (dm D0 ρ h) l ρ h ys->RdL w (λk=>dm D0 ρ h k\/∃ i ∈ r.2,ρ i=some k/\¬ isM w k) r.1 (λ_=>none) h0 ys
 | [],r,ys,hc,hx=>by unfold q2d at hc; cases hc; unfold RdL at hx ⊢; exact hx
 | x :: l,r,ys,hc,hx=>by
  unfold q2d at hc;obtain ⟨a,ha,hc⟩:=zA.1 hc;obtain ⟨b,hb,rfl⟩:=zB.1 hc;unfold RdL at hx ⊢;obtain ⟨y,zs,rfl,h1,h2⟩:=hx;exact ⟨y,zs,rfl,(que S ha h1).sub λk _ hk=>hk.imp (λh=>h) λ⟨i,hi,h⟩=>⟨i,zU _ hi,h⟩,(q7A S hb h2).sub λk _ hk=>hk.imp (λh=>h) λ⟨i,hi,h⟩=>⟨i,zP _ hi,h⟩⟩
def q4y:∀ {l:List PV} {r:List PV × List Nat},q2d h l=some r->∀ i ∈ r.2,∃ b,h i=some b:=by
 have k0:∀ {x:PV} {r:PV × List Nat},qcG h x=some r->∀ i ∈ r.2,∃ b,h i=some b:=λ{x r} hc i hi=>by
  unfold qcG at hc
  split at hc
  .obtain ⟨b,hb,hc⟩:=zA.1 hc
   split at hc
   .cases hc; simp at hi; subst hi; exact ⟨b,hb⟩
   .cases hc
  .split at hc
   .cases hc; cases hi
   .cases hc
 have k3:∀ {l:List PV} {r:List PV × List Nat},q1V h l=some r->∀ i ∈ r.2,∃ b,h i=some b:=λ{l}=>by
  induction l with
  | nil=>intro r hc i hi; unfold q1V at hc; cases hc; cases hi
  | cons x l ih =>
   intro r hc i hi;unfold q1V at hc;obtain ⟨a,ha,hc⟩:=zA.1 hc;obtain ⟨b,hb,rfl⟩:=zB.1 hc
   rcases zL.1 hi with hi | hi
   .exact k0 ha i hi
   .exact ih hb i hi
 have k1:∀ {x:PV} {r:PV × List Nat},q3E h x=some r->∀ i ∈ r.2,∃ b,h i=some b:=λ{x r} hc i hi=>by
  unfold q3E at hc
  split at hc
  .obtain ⟨b,hb,hc⟩:=zA.1 hc
   split at hc
   .cases hc; simp at hi; subst hi; exact ⟨b,hb⟩
   .split at hc
    .obtain ⟨r0,hr0,rfl⟩:=zB.1 hc
     rcases v9.1 hi with rfl | hi
     .exact ⟨b,hb⟩
     .exact k3 hr0 i hi
    .cases hc
  .split at hc
   .cases hc; cases hi
   .cases hc
 have k2:∀ {l:List PV} {r:List PV × List Nat},q3U h l=some r->∀ i ∈ r.2,∃ b,h i=some b:=λ{l}=>by
  induction l with
  | nil=>intro r hc i hi; unfold q3U at hc; cases hc; cases hi
  | cons x l ih =>
   intro r hc i hi;unfold q3U at hc;obtain ⟨a,ha,hc⟩:=zA.1 hc;obtain ⟨b,hb,rfl⟩:=zB.1 hc
   rcases zL.1 hi with hi | hi
   .exact k1 ha i hi
   .exact ih hb i hi
 intro l
 induction l with
 | nil=>intro r hc i hi; unfold q2d at hc; cases hc; cases hi
 | cons x l ih =>
  intro r hc i hi;unfold q2d at hc;obtain ⟨a,ha,hc⟩:=zA.1 hc;obtain ⟨b,hb,rfl⟩:=zB.1 hc
  rcases zL.1 hi with hi | hi
  .unfold clo at ha
   split at ha
   .obtain ⟨b',hb',rfl⟩:=zB.1 ha;exact k2 hb' i hi
   .exact k1 ha i hi
  .exact ih hb i hi
def qo7 [NL] (S:Sat D0 w0 s h ρ e w) {x:PV} {r:PV × List Nat} {y:Value} (hc:q3E h x=some r) (hx:Rd w (dm D0 ρ h) x ρ h y):Rd w (λk=>dm D0 ρ h k\/∃ i ∈ r.2,ρ i=some k) r.1 (λ_=>none) h0 y:=(q7C S hc hx).sub λ_ _ hk=>hk.imp (λh=>h) λ⟨i,hi,h⟩=>⟨i,hi,h.1⟩
def q99 [NL] (S:Sat D0 w0 s h ρ e w) {l:List PV} {r:List PV × List Nat} {ys:List Value} (hc:q2d h l=some r) (hx:RdL w (dm D0 ρ h) l ρ h ys):RdL w (λk=>dm D0 ρ h k\/∃ i ∈ r.2,ρ i=some k) r.1 (λ_=>none) h0 ys:=(q7A S hc hx).sub λ_ _ hk=>hk.imp (λh=>h) λ⟨i,hi,h⟩=>⟨i,hi,h.1⟩
def Sat.callv [NL] {Tb:World->Prop} (S:Sat D0 w0 s h ρ e w) (hT:Tb w) (hF:Fr D0 w0.w) {f:FuncId} {xs:List PV} {vs:List Value} {al:List PV} {ids:List Nat} {r:PV} (hx:RdL w (dm D0 ρ h) xs ρ h vs) (hc:q2d h xs=some (al,ids)) (hC:AC P Tb f al r) (hz:ids=[]\/Nz r) {K:Value->World->Prop}
  (hK:∀ v w',Sat D0 w0 s h ρ e w'->Rd w' (dm D0 ρ h) r ρ h v->K v w'):q0J P f=true/\Calls P f vs.toArray w λx w'=>match x with | .returned v=>K v w' | _=>False:=by
 refine ⟨hC.1,?_⟩;have ha:=q7A S hc hx;have hFr:Fr (dm D0 ρ h) w:=λk hk=>⟨hF k (xO S.ext.size hk),λi b hi hr=>by have:=(S.own i b k hi hr).2.lt; omega⟩
 rcases hz with rfl | hz
 .have ha':=ha.sub (D':=dm D0 ρ h) λk _ hk=>hk.elim (λh=>h) λ⟨i,hi,_⟩=>by cases hi
  refine (hC.2 _ w _ hT hFr ha').mono λx w' hx=>?_;obtain ⟨v,rfl,hx1,hr⟩:=hx;exact hK v w' (S.extend hx1) hr.cl
 .have hD0:∀ k,w.heap.size<=k->D0 k:=λk hk=>hF k (xO S.ext.size hk);have ha':=ha.sub (D':=λk=>dm D0 ρ h k\/∃ i b,h i=some b/\ρ i=some k/\¬ isM w k) λk hk hq=>by
   rcases hq with hq | ⟨i,hi,hr⟩
   .exact .inl hq
   .by_cases hh:∃ i b,h i=some b/\ρ i=some k/\¬ isM w k
    .exact .inr hh
    .cases hb:h i with
     | none =>
      exfalso
      obtain ⟨b,hb'⟩:=q4y hc i hi;rw [hb] at hb'; cases hb'
     | some b=>exact .inr ⟨i,b,hb,hr⟩
  have hFr':Fr (λk=>dm D0 ρ h k\/∃ i b,h i=some b/\ρ i=some k/\¬ isM w k) w:=λk hk=>.inl (hFr k hk);refine (hC.2 _ w _ hT hFr' ha').mono λx w' hx=>?_;obtain ⟨v,rfl,hx1,hr⟩:=hx;refine hK v w' (S.extend hx1) ?_;have:=hz w' _ (λk=>∃ i b,h i=some b/\ρ i=some k/\¬ isM w k) v (λg ⟨i,b,hi,hr⟩=>by
   obtain ⟨cs,c1,c2,_⟩:=(S.own i b g hi hr.1).2.resolve_left λ⟨_,_,es,cl,_,hm,_⟩=>hr.2 ⟨es,cl,hm⟩;exact ⟨cs,b.T,c1.ext hx1,c2⟩) hr
  exact (this.sub λk _ hk=>hk.1.elim (λh=>h) λh=>absurd h hk.2).cl
def Sat.call [NL] {Tb:World->Prop} (S:Sat D0 w0 s h ρ e w) (hT:Tb w) (hF:Fr D0 w0.w) {f:FuncId} {args:List Operand} {al:List PV} {ids:List Nat} {r:PV} (hc:q2d h (args.map (pe s))=some (al,ids)) (hC:AC P Tb f al r) (hz:ids=[]\/Nz r) {K:Value->World->Prop}
  (hK:∀ v w',Sat D0 w0 s h ρ e w'->Rd w' (dm D0 ρ h) r ρ h v->K v w'):q0J P f=true/\Calls P f (args.map (ev e)).toArray w λx w'=>match x with | .returned v=>K v w' | _=>False :=
 S.callv hT hF (q4V (f:=pe s) (g:=ev e) S.pex args) hc hC hz hK
def Sat.store [NL] (S:Sat D0 w0 s h ρ e w) {t id i j:Nat} {a v:Operand} {b:Bk} {k:Kd} {u u':PV} (ha:pe s a=.pt id i j) (hi:h id=some b) (hst:b.st=false) (hk:q09 P t=some k) (hs:q03 P t=some (ksz k)) (hf:q44 k (pe s v)) (hu:b.xs[i]?=some u) (hsu:stU b.k k j u (pe s v)=some u')
  {K:World->Prop} (hK:∀ w',Sat D0 w0 s (q0P h id { b with xs:=b.xs.set i u' }) ρ e w'->K w'):∃ p,ev e a=.pointer (some p)/\q03 P t=some (ev e v).cells.size/\qjj w p 0 (ev e v).cells.toList/\K (stN w p 0 (ev e v).cells.toList):=by
 have hra:=S.pex a;rw [ha] at hra;unfold Rd at hra;obtain ⟨b',g,g1,g2,g3,g4⟩:=hra;rw [hi] at g1;cases g1;have hy:=S.pex v;have hfy:=q6s hf hy;have hk0:=qt6 hf;obtain ⟨cs,c1,c2,c3⟩:=(S.own id b g hi g2).2.resolve_left λhm=>hm.noT hu hsu hk0;obtain ⟨vs,v1,v2,v3⟩:=c3 hst;have hcs:∀ v ∈ vs,v.cells.size=ksz b.k:=λv hv=>(v3 v hv).size;have hvl:=v2.len;obtain ⟨o,ho,hor⟩:=v2.get hu;have hfo:=v3 o (zF ho);have hil:i < vs.length:=ω
 have key:∃ z,Rd w (dm D0 ρ h) u' ρ h z/\q2T b.k z/\j+(ev e v).cells.toList.length<=ksz b.k/\z.cells.toList=o.cells.toList.take j ++ (ev e v).cells.toList ++ o.cells.toList.drop (j+(ev e v).cells.toList.length):=by
  rcases qj8 hsu with ⟨rfl,rfl,rfl⟩ | ⟨n,l,hbk,rfl,rfl,hjl,rfl⟩ | ⟨n,m,l,r,hbk,rfl,rfl,hx,hrm,hjl,rfl⟩
  .refine ⟨ev e v,hy,hfy,by rw [zG,hfy.size]; omega,?_⟩;rw [List.drop_of_length_le (by rw [zG,hfo.size,zG,hfy.size]; omega)];simp
  .unfold Rd at hor;obtain ⟨us,rfl,r1⟩:=hor;rw [hbk] at hfo;have hul:=r1.len;have hn:us.length=n:=by have:=hfo.size; simpa [Value.cells,ksz] using this
   refine ⟨.agg ⟨us.set j (ev e v)⟩,by unfold Rd; exact ⟨_,rfl,r1.set hy j⟩,?_,?_,?_⟩
   .rw [hbk];refine ⟨_,rfl,by simp [hn],λx hx=>?_⟩;simp only at hx
    rcases yG hx with hx | hx
    .exact hfo.one x (by simpa [Value.cells] using hx)
    .rw [hx]; exact hfy.2
   .rw [hfy.1,hbk]; simp [ksz]; omega
   .rw [hfy.1];simp only [Value.cells];rw [yJ,if_pos ω];simp
  .unfold Rd at hor;obtain ⟨us,rfl,r1⟩:=hor;rw [hx] at hy;unfold Rd at hy;obtain ⟨rs,hv,r2⟩:=hy;rw [hbk] at hfo;have hul:=r1.len;have hrl:=r2.len;have hn:us.length=n:=by have:=hfo.size; simpa [Value.cells,ksz] using this
   rw [hv] at hfy ⊢;refine ⟨.agg ⟨us.take j ++ rs ++ us.drop (j+m)⟩,by unfold Rd; exact ⟨_,rfl,((r1.take j).app r2).app (r1.drop (j+m))⟩,?_,?_,?_⟩
   .rw [hbk];refine ⟨_,rfl,by simp; omega,λx hx=>?_⟩;simp only [zL] at hx
    rcases hx with (hx | hx) | hx
    .exact hfo.one x (by simpa [Value.cells] using zS hx)
    .exact hfy.one x (by simpa [Value.cells] using hx)
    .exact hfo.one x (by simpa [Value.cells] using zN hx)
   .rw [hbk]; simp [Value.cells,ksz]; omega
   .simp only [Value.cells];rw [hrl,hrm]
 obtain ⟨z,z1,z2,z3,z4⟩:=key;have hsz:(ev e v).cells.size=ksz k:=hfy.size;have hfl:=q0l hcs;have hlt:i*ksz b.k+ksz b.k<=vs.length*ksz b.k:=by
  have:=uE (ksz b.k) (show i+1<=vs.length by omega);rw [yY] at this; exact this
 have hle:vs.length*ksz b.k<=cs.size:=by
  have:=congrArg List.length v1;rw [yP,hfl,zG,<- hvl] at this;omega
 refine ⟨_,g4,by rw [hsz]; exact hs,?_,?_⟩
 .have hgen:∀ (l:List Value) (m:Nat),i*ksz b.k+j+m+l.length<=cs.size->(∀ u ∈ l,u.oneCell'=true)->qjj w ⟨g,i*ksz b.k+j,none⟩ m l:=by
   intro l
   induction l with
   | nil=>intro _ _ _; trivial
   | cons x l ih =>
    intro m hm h1;rw [zO] at hm;refine ⟨?_,?_,h1 x zR,ih (m+1) Oq λu hu=>h1 u (zJ _ hu)⟩
    .rw [q19,c1.cell,v6 ω]; rfl
    .rw [q19]; exact c1.frozen _
  exact hgen _ 0 Oq λu hu=>(hfy.one u hu).1
 .refine hK _ ?_;have hgen:∀ (l:List Value) (m:Nat) (w:World) (cs:Array Value),Blk w g b.T cs->i*ksz b.k+j+m+l.length<=cs.size->∃ cs',Blk (stN w ⟨g,i*ksz b.k+j,none⟩ m l) g b.T cs'/\cs'.size=cs.size/\∀ n:Nat,cs'[n]?=if i*ksz b.k+j+m<=n/\n < i*ksz b.k+j+m+l.length then l[n-(i*ksz b.k+j+m)]? else cs[n]?:=by
   intro l;generalize i*ksz b.k+j=q
   induction l with
   | nil=>intro m w cs hb _; exact ⟨cs,hb,rfl,λn=>by rw [if_neg σ]⟩
   | cons x l ih =>
    intro m w cs hb hm;rw [zO] at hm;have h5:=hb.set (q+m) x;obtain ⟨cs',q1,q2,q3⟩:=ih (m+1) _ _ h5 (by rw [y9]; omega);refine ⟨cs',by rw [stN,q19]; exact q1,by rw [q2,y9],λn=>?_⟩;rw [q3 n,yA,zO]
    by_cases c1:q+(m+1)<=n/\n < q+(m+1)+l.length
    .rw [if_pos c1,if_pos ω,show n-(q+m)=(n-(q+(m+1)))+1 by omega,yI]
    .rw [if_neg c1]
     by_cases c2:q+m=n
     .subst c2;rw [if_pos rfl,if_pos ω,if_pos ω,Nat.sub_self]
      rfl
     .rw [if_neg c2,if_neg ω]
  obtain ⟨cs',q1,q2,q3⟩:=hgen (ev e v).cells.toList 0 w cs c1 (by rw [zG,hsz]; rw [zG,hsz] at z3; omega);simp only [xP] at q3;have hkp:Kp (λk=>k≠g) w (stN w ⟨g,i*ksz b.k+j,none⟩ 0 (ev e v).cells.toList):=qjk _ _ _ λ_ h=>h rfl;have hoc:∀ m,m < ksz b.k->o.cells.toList[m]?=(q01 vs)[i*ksz b.k+m]?:=λm hm=>by rw [q4v hcs ho hm,zH]
  have hol:o.cells.toList.length=ksz b.k:=by rw [zG,hfo.size]
  have hzl:z.cells.toList.length=ksz b.k:=by rw [zG,z2.size]
  have hzc:∀ m,m < ksz b.k->z.cells.toList[m]?=if j<=m/\m < j+(ev e v).cells.toList.length then (ev e v).cells.toList[m-j]? else (q01 vs)[i*ksz b.k+m]?:=λm hm=>by
   rw [z4,uC,yC];have e1:(o.cells.toList.take j).length=j:=by rw [yP]; omega
   rw [e1]
   by_cases m1:m < j
   .rw [if_pos m1,if_neg ω,zK,if_pos m1,hoc m hm]
   .rw [if_neg m1,yC]
    by_cases m2:m-j < (ev e v).cells.toList.length
    .rw [if_pos m2,if_pos ω]
    .rw [if_neg m2,if_neg ω,v8,<- hoc m hm]
     congr 1
     omega
  have hflat:cs'.toList.take (vs.length*ksz b.k)=q01 (vs.set i z):=by
   rw [qiR hcs z2.size hil];have hfv:∀ m,m < vs.length*ksz b.k->(q01 vs)[m]?=cs[m]?:=λm hm=>by
    rw [<- v1,hvl.symm,zK,if_pos hm,zH]
   apply yB
   intro m;have e2:(i+1)*ksz b.k=i*ksz b.k+ksz b.k:=yY _ _;have e3:((q01 vs).take (i*ksz b.k)).length=i*ksz b.k:=by rw [yP,hfl]; omega
   rw [zK,zH,q3 m,uC,yC,e3,e2]
   by_cases m0:m < i*ksz b.k
   .rw [if_pos ω,if_neg ω,if_pos m0,zK,if_pos m0,hfv m ω]
   .rw [if_neg m0,yC,hzl]
    by_cases m1:m-i*ksz b.k < ksz b.k
    .rw [if_pos m1,hzc _ m1,if_pos ω]
     by_cases m2:i*ksz b.k+j<=m/\m < i*ksz b.k+j+(ev e v).cells.toList.length
     .rw [if_pos m2,if_pos ω]
      congr 1
      omega
     .rw [if_neg m2,if_neg ω,show i*ksz b.k+(m-i*ksz b.k)=m by omega,hfv m ω]
    .rw [if_neg m1,v8,show i*ksz b.k+ksz b.k+(m-i*ksz b.k-ksz b.k)=m by omega]
     by_cases m2:m < vs.length*ksz b.k
     .rw [if_pos m2,if_neg ω,hfv m m2]
     .rw [if_neg m2,v7 ω]
  have hnl:∀ x ∈ cs'.toList,q4E x=true:=λx hx=>by
   obtain ⟨m,hm⟩:=xH hx;rw [zH,q3 m] at hm
   split at hm
   .exact (hfy.one x (zF hm)).2
   .exact c2 x (yU.2 (Array.mem_of_getElem? hm))
  obtain ⟨S1,_,_⟩:=S.write (b':={ b with xs:=b.xs.set i u' }) hi g2 hst hkp c1 q2 q1 hnl rfl rfl hst σ (vs:=vs.set i z) (by simp only [List.length_set]; rw [<- hvl]; exact hflat) (v2.set z1 i) (λx hx=>by
   rcases yG hx with hx | hx
   .exact v3 x hx
   .rw [hx]; exact z2)
  exact S1
end
section
variable {w w':World} {w0:Base} {D D0:Nat->Prop} {ρ:Nat->Option Nat} {h:Hp} {s:Nat->PV} {e:Env} {P:Program}
def Sat.stale [NL] (S:Sat D0 w0 s h ρ e w) {id:Nat} {b:Bk} (hi:h id=some b) (hk0:b.k≠some 0):Sat D0 w0 s (q0P h id { b with st:=true }) ρ e w:=by
 have hc:Cpt w w ρ h ρ (q0P h id { b with st:=true }):=λi c hc=>⟨rfl,by
  by_cases he:i=id
  .subst he; rw [hi] at hc; cases hc;exact ⟨_,q0H,rfl,zQ _⟩
  .exact ⟨c,by rw [q0A he]; exact hc,rfl,zQ _⟩,λg m _ hb=>hb⟩
 have hdd:∀ k,dm D0 ρ h k->dm D0 ρ (q0P h id { b with st:=true }) k:=λk hq=>⟨hq.1,λi c hc=>by
  by_cases he:i=id
  .subst he; exact hq.2 i b hi
  .rw [q0A he] at hc; exact hq.2 i c hc⟩
 have hk:Kp (dm D0 ρ h) w w:=Kp.refl _ _;refine ⟨λi j c c' g' ci cj hs ri rj=>?_,λi c g' ci ri=>?_,λi c ci ri=>?_,λt=>Rd.mv hk (λk _=>hdd k) _ _ _ _ _ _ hc (S.rd t),S.ext,S.fr,S.imp,S.pin⟩
 .by_cases ej:j=id
  .subst ej; rw [q0H] at cj; cases cj; cases hs
  .rw [q0A ej] at cj
   by_cases ei:i=id
   .subst ei; rw [q0H] at ci; cases ci; exact .inr rfl
   .rw [q0A ei] at ci;exact S.inj i j c c' g' ci cj hs ri rj
 .by_cases ei:i=id
  .subst ei;rw [q0H] at ci; cases ci;obtain ⟨a1,a2⟩:=S.own i b g' hi ri;obtain ⟨c1,c2,c3,_⟩:=a2.reg hk0;exact ⟨a1,.inr ⟨c1,c2,c3,λhf=>by cases hf⟩⟩
  .rw [q0A ei] at ci;obtain ⟨a1,a2⟩:=S.own i c g' ci ri;exact ⟨a1,a2.mv rfl hk (λk _=>hdd k) hc⟩
 .by_cases ei:i=id
  .subst ei; rw [q0H] at ci; cases ci; exact S.vir i b hi ri
  .rw [q0A ei] at ci; exact S.vir i c ci ri
def Sat.dup [NL] (S:Sat D0 w0 s h ρ e w) {id d:Nat} {b:Bk} (hi:h id=some b) (hst:b.st=false) (hk0:b.k≠some 0) (hd:h d=none) (hd5:d < 5000) :
  Sat D0 w0 s (q0P (q0P h id { b with st:=true }) d b) (upo ρ d (ρ id)) e w/\(∀ k,dm D0 ρ h k->dm D0 (upo ρ d (ρ id)) (q0P (q0P h id { b with st:=true }) d b) k)/\Cpt w w ρ h (upo ρ d (ρ id)) (q0P (q0P h id { b with st:=true }) d b):=by
 have hne:id≠d:=λe=>by subst e; rw [hd] at hi; cases hi
 have S1:=S.stale hi hk0;have hold:∀ i c,q0P h id { b with st:=true } i=some c->i≠d:=λi c hc e=>by
  subst e;rw [q0A (λe=>hne e.symm),hd] at hc; cases hc
 have hget:∀ i c,q0P (q0P h id { b with st:=true }) d b i=some c->(i=d/\c=b)\/(i≠d/\q0P h id { b with st:=true } i=some c):=λi c hc=>by
  by_cases he:i=d
  .subst he; rw [q0H] at hc; cases hc; exact .inl ⟨rfl,rfl⟩
  .rw [q0A he] at hc; exact .inr ⟨he,hc⟩
 have hc:Cpt w w ρ h (upo ρ d (ρ id)) (q0P (q0P h id { b with st:=true }) d b):=λi c hc=>by
  have hid:i≠d:=λe=>by subst e; rw [hd] at hc; cases hc
  refine ⟨q08 hid,?_,λg m _ hb=>hb⟩;rw [q0A hid]
  by_cases he:i=id
  .subst he; rw [hi] at hc; cases hc;exact ⟨_,q0H,rfl,zQ _⟩
  .exact ⟨c,by rw [q0A he]; exact hc,rfl,zQ _⟩
 have hdd:∀ k,dm D0 ρ h k->dm D0 (upo ρ d (ρ id)) (q0P (q0P h id { b with st:=true }) d b) k:=λk hq=>⟨hq.1,λi c hc=>by
  rcases hget i c hc with ⟨rfl,rfl⟩ | ⟨h1,h2⟩
  .rw [q0p]; exact hq.2 id c hi
  .rw [q08 h1]
   by_cases he:i=id
   .subst he; exact hq.2 i b hi
   .rw [q0A he] at h2; exact hq.2 i c h2⟩
 have hk:Kp (dm D0 ρ h) w w:=Kp.refl _ _;refine ⟨⟨λi j c c' g' ci cj hs ri rj=>?_,λi c g' ci ri=>?_,λi c ci ri=>?_,λt=>Rd.mv hk (λk _=>hdd k) _ _ _ _ _ _ hc (S.rd t),S.ext,S.fr,S.imp,S.pino hd5⟩,hdd,hc⟩
 .rcases hget i c ci with ⟨rfl,rfl⟩ | ⟨i1,i2⟩ <;> rcases hget j c' cj with ⟨rfl,rfl⟩ | ⟨j1,j2⟩
  .exact .inl rfl
  .rw [q0p] at ri; rw [q08 j1] at rj
   by_cases ej:j=id
   .subst ej; rw [q0H] at j2; cases j2; cases hs
   .rw [q0A ej] at j2
    rcases S.inj j id c' c g' j2 hi hst rj ri with h | h
    .exact absurd h ej
    .rw [hs] at h; cases h
  .rw [q0p] at rj; rw [q08 i1] at ri
   by_cases ei:i=id
   .subst ei; rw [q0H] at i2; cases i2; exact .inr rfl
   .rw [q0A ei] at i2
    rcases S.inj i id c c' g' i2 hi hst ri rj with h | h
    .exact absurd h ei
    .exact .inr h
  .rw [q08 i1] at ri; rw [q08 j1] at rj;exact S1.inj i j c c' g' i2 j2 hs ri rj
 .rcases hget i c ci with ⟨rfl,rfl⟩ | ⟨i1,i2⟩
  .rw [q0p] at ri;obtain ⟨a1,a2⟩:=S.own id c g' hi ri;exact ⟨a1,a2.mv rfl hk (λk _=>hdd k) hc⟩
  .rw [q08 i1] at ri
   by_cases ei:i=id
   .subst ei;rw [q0H] at i2; cases i2;obtain ⟨a1,a2⟩:=S.own i b g' hi ri;obtain ⟨c1,c2,c3,_⟩:=a2.reg hk0;exact ⟨a1,.inr ⟨c1,c2,c3,λhf=>by cases hf⟩⟩
   .rw [q0A ei] at i2;obtain ⟨a1,a2⟩:=S.own i c g' i2 ri;exact ⟨a1,a2.mv rfl hk (λk _=>hdd k) hc⟩
 .rcases hget i c ci with ⟨rfl,rfl⟩ | ⟨i1,i2⟩
  .rw [q0p] at ri; exact S.vir id c hi ri
  .rw [q08 i1] at ri
   by_cases ei:i=id
   .subst ei; rw [q0H] at i2; cases i2; exact S.vir i b hi ri
   .rw [q0A ei] at i2; exact S.vir i c i2 ri
def q5Z {i d:Nat} {b c:Bk} (hne:i≠d):q0P (q0P h d b) i c=q0P (q0P h i c) d b:=by
 funext j
 unfold q0P
 by_cases h1:j=i
 .subst h1; rw [if_pos rfl,if_neg hne,if_pos rfl]
 .by_cases h2:j=d
  .subst h2; simp [h1]
  .simp [h1,h2]
def qe4 {d:Nat} {b c:Bk}:q0P (q0P h d b) d c=q0P h d c:=by
 funext j
 unfold q0P
 by_cases h1:j=d <;> simp [h1]
def q5b {T ty E:Nat} {i:TypeInfo} (hu:P.underlying T=some (.slice E)) (hi:P.info? E=some i) {A A2:Option Addr} {n c c2:Nat} (hcap:n<=c):(Builtin.append_ #[T,T] ty #[.slice A n c,.slice A2 0 c2]).run P w=.ok (.slice A n c) w:=by
 cases A2 with
 | none=>cases A <;> simp [Builtin.append_,run_underlying hu,Go.sizeOf,typeInfo,hi,Builtin.lenOf,Builtin.firstCells,hcap,storeCells]
 | some ad=>cases A <;> simp [Builtin.append_,run_underlying hu,Go.sizeOf,typeInfo,hi,Builtin.lenOf,Builtin.firstCells,loadCells,loadCellsFrom,hcap,storeCells]
def qcB {T E sz bytes:Nat} {z:Array Value} (he:q0a P T=some (E,sz,bytes,z)):∃ (i:TypeInfo) (zv:Value),P.underlying T=some (.slice E)/\P.info? E=some i/\i.zero=some zv/\i.size=sz/\i.bytes=bytes/\zv.cells=z:=by
 unfold q0a at he
 split at he
 case h_2=>cases he
 rename_i e hu;obtain ⟨i,hi,hx⟩:=zA.1 he;obtain ⟨zv,hz,hx⟩:=zB.1 hx;simp only [Prod.mk.injEq] at hx;obtain ⟨rfl,rfl,rfl,rfl⟩:=hx;exact ⟨i,zv,hu,hi,hz,rfl,rfl,rfl⟩
def ql5 [NL] {z:Array Value} {n:Nat} (hz:∀ u ∈ z.toList,u.oneCell'=true/\q4E u=true):∀ u ∈ (Builtin.zeroCells z n).toList,q4E u=true:=λu hu=>by
 unfold Builtin.zeroCells at hu;rw [Array.toList_map] at hu;obtain ⟨i,hi,rfl⟩:=yF.1 hu;simp at hi;have hp:0 < z.size:=by
  rcases uG z.size with h | h
  .rw [h] at hi; omega
  .exact h
 have hm:=Nat.mod_lt i hp;have:z[i % z.size]! = z[i % z.size]:=by simp [hm]
 rw [this];exact (hz _ σ).2
def Sat.append [NL] (S:Sat D0 w0 s h ρ e w) {d T ty E bytes:Nat} {k:Kd} {sx xx:Operand} {xs ys:List PV} {i0:Option Nat} {ids:List Nat} (hd:h d=none) (hd5:d < 5000) (hk:elK P T=some (E,k,bytes)) (hs:apW h E k (pe s sx) ys xs i0) (hx:apX h k (pe s xx)=some (ys,ids)) (hlen:(xs.length+ys.length)*(bytes+1)<=140737488355328) :
  ∃ v w',(Builtin.append_ #[T,T] ty #[ev e sx,ev e xx]).run P w=.ok v w'/\∃ ρ',Sat D0 w0 (pu s d (.ow d k 0 (xs.length+ys.length))) (q0P (stl h i0) d ⟨E,k,xs ++ ys,false⟩) ρ' (upd e d v) w':=by
 obtain ⟨z,he,hsz,hzs,_,hz1⟩:=qaw hk;obtain ⟨i,zv,hu,hi,hz,hsi,hby,hzc⟩:=qcB he;have hmb:xs.length+ys.length<=maxLen:=by
  have:xs.length+ys.length<=(xs.length+ys.length)*(bytes+1):=xA _ Oq;simp only [maxLen]; omega
 have hbb:(xs.length+ys.length)*bytes<=140737488355328:=xO (Nat.mul_le_mul_left _ Oq) hlen;have hmb':xs.length+ys.length<=9223372036854775807:=by simp only [maxLen] at hmb; omega
 have hD1:=Kp.refl (λ_=>True) w;have hX:∃ A2 c2 us,ev e xx=.slice A2 ys.length c2/\Row w (λ_=>True) (ksz k) A2 ys.length c2 (q01 us)/\RdL w (dm D0 ρ h) ys ρ h us/\∀ v ∈ us,q2T k v:=by
  have hr:=S.pex xx;unfold apX at hx
  split at hx
  .rename_i hxx;cases hx;rw [hxx] at hr;unfold Rd at hr;exact ⟨none,0,[],hr,Row.nil _ _ _,by unfold RdL; rfl,λv hv=>by cases hv⟩
  .rename_i k' l hxx
   split at hx
   .rename_i hkk;cases hx;rw [hxx,hkk] at hr;unfold Rd at hr;obtain ⟨A,n,c,vs,q1,q2,q3,q4,q5⟩:=hr;rw [<- q3] at q1 q2;exact ⟨A,c,vs,q1,q2.sub λ_ _ _=>trivial,q4.cl,q5⟩
   .cases hx
  .rename_i id k' off n hxx;obtain ⟨b,hb,hx⟩:=zA.1 hx
   split at hx
   .rename_i hc;obtain ⟨c1,c2,c3⟩:=hc;cases hx;subst c3;subst c2;rw [hxx] at hr;obtain ⟨A,c,vs,q1,q2,q3,q4⟩:=S.row hb c1 hr;have hn:((b.xs.drop off).take n).length=n:=by
     unfold Rd at hr;obtain ⟨b',_,_,r1,_,_,_,_,r5,_⟩:=hr;rw [hb] at r1; cases r1;simp; omega
    rw [hn];exact ⟨A,c,vs,q1,q2.sub λ_ _ _=>trivial,q3,q4⟩
   .cases hx
  .cases hx
 obtain ⟨A2,c2,us,hxv,hrow,hus,hfu⟩:=hX;have hul:(q01 us).length=ys.length*ksz k:=hrow.len;have huone:∀ u ∈ q01 us,u.oneCell'=true/\q4E u=true:=λu hu=>by
  unfold q01 at hu;obtain ⟨v,hv,hu⟩:=yO.1 hu;exact (hfu v hv).one u hu
 rw [hxv];have fresh:∀ {xv:List Value} {c:Nat},RdL w (dm D0 ρ h) xs ρ h xv->(∀ v ∈ xv,q2T k v)->xs.length+ys.length<=c->c<=maxLen->∀ w',Ext w w'->Blk w' w.heap.size E ((q01 xv).toArray ++ (q01 us).toArray ++ Builtin.zeroCells z (c-(xs.length+ys.length))) ->
   ∃ ρ',Sat D0 w0 (pu s d (.ow d k 0 (xs.length+ys.length))) (q0P h d ⟨E,k,xs ++ ys,false⟩) ρ' (upd e d (.slice (some ⟨w.heap.size,0,none⟩) (xs.length+ys.length) c)) w':=λ{xv c} hxv hfx h1 h2 w' hx hb=>by
  have hcs:∀ v ∈ xv,v.cells.size=ksz k:=λv hv=>(hfx v hv).size;have hxl:(q01 xv).length=xs.length*ksz k:=by rw [q0l hcs,hxv.len]
  refine S.newS (b:=⟨E,k,xs ++ ys,false⟩) (n:=xs.length+ys.length) hd hd5 hx hb (λu hu=>?_) rfl σ h1 h2 ?_ (vs:=xv ++ us) ?_ (hxv.app hus) (λv hv=>by
   rcases zL.1 hv with hv | hv
   .exact hfx v hv
   .exact hfu v hv)
  .simp only [Array.toList_append,zL] at hu
   rcases hu with (hu | hu) | hu
   .have hu:u ∈ q01 xv:=hu;unfold q01 at hu;obtain ⟨v,hv,hu⟩:=yO.1 hu;exact ((hfx v hv).one u hu).2
   .exact (huone u (by simpa using hu)).2
   .exact ql5 hz1 u hu
  .simp only [Array.size_append,y6,hxl,hul,size_zeroCells,hzs,<- yR]
   congr 1
   omega
  .have:((q01 xv).toArray ++ (q01 us).toArray ++ Builtin.zeroCells z (c-(xs.length+ys.length))).toList=q01 (xv ++ us) ++ (Builtin.zeroCells z (c-(xs.length+ys.length))).toList:=by simp [q3g]
   rw [this];have hl:(xs.length+ys.length)*ksz k=(q01 (xv ++ us)).length:=by rw [q3g,z8,hxl,hul,yR]
   rw [hl];exact List.take_left
 have hgc:∀ old,old < xs.length+ys.length->xs.length+ys.length<=grownCap w (xs.length+ys.length) old E/\grownCap w (xs.length+ys.length) old E<=maxLen:=λold ho=>⟨grownCap_ge w _ old E,grownCap_le_maxLen w _ old E hmb⟩;have hdrew:∀ (cs:Array Value),Ext w (w.drew.alloc (.cells cs E)):=λcs=>(Kp.drew w _).trans (Kp.alloc _ _);have nilc:xs=[]->∃ v w',(Builtin.append_ #[T,T] ty #[.slice none 0 0,.slice A2 ys.length c2]).run P w=.ok v w'/\∃ ρ',Sat D0 w0 (pu s d (.ow d k 0 (xs.length+ys.length))) (q0P h d ⟨E,k,xs ++ ys,false⟩) ρ' (upd e d v) w':=λh0=>by
  subst h0;simp only [z9,uD,List.nil_append] at fresh hgc ⊢
  by_cases hm:ys.length=0
  .rw [hm];refine ⟨_,_,q5b hu hi (zQ _),?_⟩;have hy:ys=[]:=zM hm;subst hy;obtain ⟨S1,_,_⟩:=S.virt (b:=⟨E,k,[],false⟩) hd hd5 rfl;exact ⟨_,S1.put d (by unfold Rd; exact ⟨_,none,0,q0H,rfl,rfl,zQ _,by simp [maxLen],zQ _,.inl rfl,λ_=>.inl ⟨rfl,rfl⟩⟩)⟩
  .obtain ⟨ad,rfl,_,hc⟩:=hrow.at_ (by rw [hul]; exact uH ω hsz);have hr:=run_append_nil (P:=P) w T ty E i zv hu hi hz ad ys.length c2 (q01 us) (by rw [hsi]; exact hul) hc ω (by simp only [z9,uD] at hmb'; omega) (by rw [hby]; simp only [z9,uD] at hbb; omega);refine ⟨_,_,hr,?_⟩;have hg:=hgc 0 Oq;have:=fresh (xv:=[]) (c:=grownCap w ys.length 0 E) (by unfold RdL; rfl) (λv hv=>by cases hv) hg.1 hg.2 (w.drew.alloc (.cells ((q01 us).toArray ++ Builtin.zeroCells z (grownCap w ys.length 0 E-ys.length)) E)) (hdrew _) (by
    have:=Blk.new w.drew E ((q01 us).toArray ++ Builtin.zeroCells z (grownCap w ys.length 0 E-ys.length));simpa [q01] using this)
   rw [hzc];exact this
 have hr:=S.pex sx;unfold apW at hs
 rcases hs with hs | ⟨hi0,hy,_,hcl⟩
 rotate_left
 .subst hi0;obtain ⟨A,vs,v1,v2,v3,v4⟩:=hcl _ _ _ _ _ hr;rw [v1];have hys:0 < ys.length:=List.length_pos_iff.2 hy;have hxl:(q01 vs).length=xs.length*ksz k:=v2.len;cases A with
  | none =>
   have h0:xs.length=0:=by
    rcases uG xs.length with h0 | h0
    .exact h0
    .obtain ⟨ad,hA,_⟩:=v2.at_ (by rw [hxl]; exact uH h0 hsz);cases hA
   rw [h0];have:=nilc (zM h0);rw [h0] at this;exact this
  | some a0 =>
   obtain ⟨ad,rfl,_,hc⟩:=hrow.at_ (by rw [hul]; exact uH hys hsz);have holds:∀ j u,(q01 vs)[j]?=some u->w.cell? (a0.add j)=some u:=λj u hu=>by
    obtain ⟨ad',hA,_,hc'⟩:=v2.at_ (by have:=(zC.1 hu).1; omega);cases hA;exact hc' j u hu
   have hrun:=run_append_grow (P:=P) w T ty E i zv hu hi hz a0 xs.length xs.length (q01 vs) (by rw [hsi]; exact hxl) holds ad ys.length c2 (q01 us) (by rw [hsi]; exact hul) hc ω ω (growslice_fits ω (by rw [hby]; exact hbb));refine ⟨_,_,hrun,?_⟩;have hg:=hgc xs.length Oq;rw [hzc];obtain ⟨ρ',q⟩:=fresh (xv:=vs) (c:=grownCap w (xs.length+ys.length) xs.length E) v3.cl v4 hg.1 hg.2 (w.drew.alloc (.cells ((q01 vs).toArray ++ (q01 us).toArray ++ Builtin.zeroCells z (grownCap w (xs.length+ys.length) xs.length E-(xs.length+ys.length))) E)) (hdrew _) (Blk.new w.drew E _);exact ⟨ρ',q⟩
 unfold apS at hs
 split at hs
 .rename_i hsx;cases hs;rw [hsx] at hr;unfold Rd at hr;rw [hr];exact nilc rfl
 .rename_i id k' off n hsx;obtain ⟨b,hb,hs⟩:=zA.1 hs
  split at hs
  .rename_i hc;obtain ⟨c1,c2',c3,c4,c5,c6⟩:=hc;cases hs;subst c5;subst c6;rw [hsx,c4] at hr;unfold Rd at hr;obtain ⟨b',A,c,r1,_,r3,r4,r5,_,_,r7⟩:=hr;rw [hb] at r1;cases r1;have hne:id≠d:=λe=>by subst e; rw [hd] at hb; cases hb
   have hkn:b.k≠some 0:=λe=>by rw [c3] at e; rw [e] at hsz; simp [ksz] at hsz
   have hbe:b=⟨E,k,b.xs,false⟩:=by cases b; simp_all
   have hstl:stl h (some id)=q0P h id { b with st:=true }:=by simp only [stl,hb]
   rw [r3,hstl]
   rcases r7 rfl with ⟨rfl,rfl⟩ | ⟨g,g1,rfl,hbz⟩
   .have h0:b.xs.length=0:=ω
    obtain ⟨v,w',q1,ρ',q2⟩:=nilc (zM h0);rw [h0];refine ⟨v,w',q1,ρ',?_⟩;have:=q2.stale (id:=id) (b:=b) (by rw [q0A hne]; exact hb) hkn;rw [q5Z hne] at this;rw [h0] at this;exact this
   .obtain ⟨cs,k1,k2,k3⟩:=(S.own id b g hb g1).2.reg hkn;obtain ⟨xv,x1,x2,x3⟩:=k3 c1;rw [c3] at x1 x3;rw [c2'] at k1;have hcs:∀ v ∈ xv,v.cells.size=ksz k:=λv hv=>(x3 v hv).size;have hxl:(q01 xv).length=b.xs.length*ksz k:=by rw [q0l hcs,x2.len]
    have hcsz:cs.size=c*ksz k:=by
     obtain ⟨cs',T',q1,q2⟩:=hbz;have h5:=k1.symm.trans q1
     injection h5 with h5
     injection h5 with h5 h6
     subst h5;rw [uD] at q2;exact q2
    by_cases hm:ys.length=0
    .have hy:ys=[]:=zM hm;subst hy;refine ⟨_,_,q5b hu hi r4,?_⟩;obtain ⟨S1,_,_⟩:=S.dup hb c1 hkn hd hd5;rw [xD,z9,xP];rw [<- hbe];refine ⟨_,S1.put d ?_⟩;unfold Rd;have hat:AtO w (upo ρ d (ρ id) d) (some ⟨g,0*ksz k,none⟩) (0*ksz k) ((0+c)*ksz k):=⟨g,by rw [q0p]; exact g1,rfl,hbz⟩;exact ⟨b,_,c,q0H,c3,rfl,r4,r5,ω,.inr hat,λ_=>.inr hat⟩
    .obtain ⟨ad,rfl,_,hc⟩:=hrow.at_ (by rw [hul]; exact uH ω hsz);rw [xN]
     by_cases hroom:b.xs.length+ys.length<=c
     .have hfit:b.xs.length*i.size+(q01 us).length<=cs.size:=by rw [hul,hcsz,hsi,<- yR]; exact uE _ hroom
      have hrun:=run_append_room (P:=P) w T ty E i hu hi g b.xs.length c cs k1 ad ys.length c2 (q01 us) (by rw [hsi]; exact hul) hc (λu hu=>(huone u hu).1) hroom hfit;refine ⟨_,_,hrun,?_⟩;rw [hsi];obtain ⟨S1,hd1,hc1⟩:=S.dup hb c1 hkn hd hd5;have hx1:cs.toList.take (b.xs.length*ksz k)=q01 xv:=x1;have hrow2:Blk (w.setRow g (cs.toList.take (b.xs.length*ksz k) ++ q01 us ++ cs.toList.drop (b.xs.length*ksz k+(q01 us).length)).toArray) g E (cs.toList.take (b.xs.length*ksz k) ++ q01 us ++ cs.toList.drop (b.xs.length*ksz k+(q01 us).length)).toArray:=setRow_heap w g cs _ E _ k1;have hkp:Kp (λk=>k≠g) w (w.setRow g (cs.toList.take (b.xs.length*ksz k) ++ q01 us ++ cs.toList.drop (b.xs.length*ksz k+(q01 us).length)).toArray):=⟨rfl,rfl,rfl,σ,λk _ hk=>setRow_other w g k _ hk⟩;have hle:b.xs.length*ksz k<=cs.size:=by rw [hcsz]; exact uE _ ω
      have hsz2:(cs.toList.take (b.xs.length*ksz k) ++ q01 us ++ cs.toList.drop (b.xs.length*ksz k+(q01 us).length)).toArray.size=cs.size:=by
       rw [hsi] at hfit;simp only [y6,z8,yP,List.length_drop,zG];omega
      obtain ⟨S2,_,_⟩:=S1.write (id:=d) (b:=b) (b':=⟨E,k,b.xs ++ ys,false⟩) q0H (by rw [q0p]; exact g1) c1 hkp (by rw [c2']; exact k1) hsz2 (by rw [c2']; exact hrow2) (λu hu=>by
        simp only [zL] at hu
        rcases hu with (hu | hu) | hu
        .exact k2 u (zS hu)
        .exact (huone u hu).2
        .exact k2 u (zN hu)) c2'.symm c3.symm rfl σ (vs:=xv ++ us) (by
        rw [c3,hx1,q3g];have hl:(b.xs ++ ys).length*ksz k=(q01 xv ++ q01 us).length:=by rw [z8,z8,hxl,hul,yR]
        rw [hl];exact List.take_left) ((RdL.mv (Kp.refl _ _) (λk _=>hd1 k) _ _ _ _ _ _ hc1 x2).app (RdL.mv (Kp.refl _ _) (λk _=>hd1 k) _ _ _ _ _ _ hc1 hus)) (λv hv=>by
        rw [c3]
        rcases zL.1 hv with hv | hv
        .exact x3 v hv
        .exact hfu v hv)
      rw [qe4] at S2;refine ⟨_,S2.put d ?_⟩;unfold Rd;have hat:AtO (w.setRow g (cs.toList.take (b.xs.length*ksz k) ++ q01 us ++ cs.toList.drop (b.xs.length*ksz k+(q01 us).length)).toArray) (upo ρ d (ρ id) d) (some ⟨g,0,none⟩) (0*ksz k) ((0+c)*ksz k):=⟨g,by rw [q0p]; exact g1,by rw [xN],_,E,hrow2,by rw [hsz2,uD]; exact hcsz⟩;exact ⟨_,_,c,q0H,rfl,rfl,hroom,r5,σ,.inr hat,λ_=>.inr hat⟩
     .have holds:∀ j u,(q01 xv)[j]?=some u->w.cell? ((⟨g,0,none⟩:Addr).add j)=some u:=λj u hu=>by
       rw [q19,uD,k1.cell];rw [<- x1,zK] at hu
       split at hu
       .rw [<- zH]; exact hu
       .cases hu
      have hrun:=run_append_grow (P:=P) w T ty E i zv hu hi hz ⟨g,0,none⟩ b.xs.length c (q01 xv) (by rw [hsi]; exact hxl) holds ad ys.length c2 (q01 us) (by rw [hsi]; exact hul) hc ω ω (growslice_fits ω (by rw [hby]; exact hbb));refine ⟨_,_,hrun,?_⟩;have hg:=hgc c Oq;rw [hzc];obtain ⟨ρ',q⟩:=fresh (xv:=xv) (c:=grownCap w (b.xs.length+ys.length) c E) x2 x3 hg.1 hg.2 (w.drew.alloc (.cells ((q01 xv).toArray ++ (q01 us).toArray ++ Builtin.zeroCells z (grownCap w (b.xs.length+ys.length) c E-(b.xs.length+ys.length))) E)) (hdrew _) (Blk.new w.drew E _);refine ⟨ρ',?_⟩;have:=q.stale (id:=id) (b:=b) (by rw [q0A hne]; exact hb) hkn;rw [q5Z hne] at this;exact this
  .cases hs
 .cases hs
end
abbrev mPv (p:Int × PV):PV:=.tu [.vl (.int .i64 p.1),p.2]
def mpL (l:List (Int × PV)):List PV:=l.map mPv
def q2b:List (Int × PV)->Int->Option PV
 | [],_=>none
 | p :: l,z=>if p.1=z then some p.2 else q2b l z
def q6g:List (Int × PV)->Int->PV->List (Int × PV)
 | [],z,x=>[(z,x)]
 | p :: l,z,x=>if p.1=z then (z,x) :: l else p :: q6g l z x
section
variable {w w':World} {w0:Base} {D D0:Nat->Prop} {ρ:Nat->Option Nat} {h:Hp} {s:Nat->PV} {e:Env} {P:Program}
def q7s {l:List MapEntry} (hn:(l.map (·.key)).Nodup) {a b:MapEntry} (ha:a ∈ l) (hb:b ∈ l) (hk:a.key=b.key):a=b:=by
 induction l with
 | nil=>cases ha
 | cons x l ih =>
  rw [z6,List.nodup_cons] at hn
  rcases v9.1 ha with e1 | h1 <;> rcases v9.1 hb with e2 | h2
  .rw [e1,e2]
  .exact absurd (yF.2 ⟨b,h2,by rw [<- hk,e1]⟩) hn.1
  .exact absurd (yF.2 ⟨a,h1,by rw [hk,e2]⟩) hn.1
  .exact ih hn.2 h1 h2
def q3B [NL] (w:World) (D:Nat->Prop) (ρ:Nat->Option Nat) (h:Hp) (l:List (Int × PV)) (el:List MapEntry):Prop:=l.length=el.length/\∀ (i:Nat) (p:Int × PV) (e:MapEntry),l[i]?=some p->el[i]?=some e->e.key=.int .i64 p.1/\Rd w D p.2 ρ h e.val
def qhL {e:MapEntry} {a b:Value} (h:qqK e=.tuple ⟨[a,b]⟩):e.key=a/\e.val=b:=by
 unfold qqK at h;simp at h;exact h
def q3B.of [NL] {l:List (Int × PV)} {el:List MapEntry} (hr:RdL w D [.tu (mpL l)] ρ h [.tuple ⟨el.map qqK⟩]):q3B w D ρ h l el:=by
 obtain ⟨v,hv,hr⟩:=hr.get (i:=0) rfl;simp at hv;subst hv;unfold Rd at hr;obtain ⟨vs,h1,h2⟩:=hr;simp at h1;subst h1;obtain ⟨h3,h4⟩:=RdL.iff.1 h2;unfold mpL at h3 h4;rw [yV,yV] at h3;refine ⟨h3,λi p e hp he=>?_⟩;have:=h4 i (mPv p) (qqK e) (by rw [yL,hp]; rfl) (by rw [yL,he]; rfl);unfold mPv Rd at this;obtain ⟨us,h5,h6⟩:=this;unfold RdL at h6;obtain ⟨a,as',rfl,h7,h8⟩:=h6;unfold RdL at h8;obtain ⟨b,bs,rfl,h9,h10⟩:=h8;unfold RdL at h10;subst h10;obtain ⟨rfl,rfl⟩:=qhL h5;unfold Rd at h7;exact ⟨h7,h9⟩
def q3B.to [NL] {l:List (Int × PV)} {el:List MapEntry} (hr:q3B w D ρ h l el):RdL w D [.tu (mpL l)] ρ h [.tuple ⟨el.map qqK⟩]:=by
 refine RdL.one ?_;unfold Rd;refine ⟨_,rfl,RdL.iff.2 ⟨by unfold mpL; simp [hr.1],λi x v hx hv=>?_⟩⟩;unfold mpL at hx;rw [yL] at hx hv;obtain ⟨p,hp,rfl⟩:=zB.1 hx;obtain ⟨e,he,rfl⟩:=zB.1 hv;obtain ⟨h1,h2⟩:=hr.2 i p e hp he;unfold mPv Rd;exact ⟨[e.key,e.val],rfl,by
  unfold RdL;refine ⟨_,_,rfl,by unfold Rd; exact h1,?_⟩;unfold RdL;exact ⟨_,_,rfl,h2,by unfold RdL; rfl⟩⟩
def q3B.nil [NL]:q3B w D ρ h [] []:=⟨rfl,λi p e hp=>by simp at hp⟩
def q3B.cons [NL] {p:Int × PV} {l:List (Int × PV)} {en:MapEntry} {el:List MapEntry}:q3B w D ρ h (p :: l) (en :: el) ↔ (en.key=.int .i64 p.1/\Rd w D p.2 ρ h en.val)/\q3B w D ρ h l el:=by
 constructor
 .rintro ⟨h1,h2⟩;exact ⟨h2 0 p en rfl rfl,by simpa using h1,λi q f hq hf=>h2 (i+1) q f (by simpa using hq) (by simpa using hf)⟩
 .rintro ⟨h1,h2,h3⟩;refine ⟨by simp [h2],λi q f hq hf=>?_⟩;cases i with
  | zero=>simp at hq hf; subst hq; subst hf; exact h1
  | succ i=>exact h3 i q f (by simpa using hq) (by simpa using hf)
def q4Q [NL] {z:Int} {x:PV}:∀ {l:List (Int × PV)} {el:List MapEntry},q3B w D ρ h l el->q2b l z=some x->∃ en ∈ el,en.key=.int .i64 z/\Rd w D x ρ h en.val
 | [],_,_,hg=>by cases hg
 | p :: l,[],hm,_=>by have:=hm.1; simp at this
 | p :: l,en :: el,hm,hg=>by
  obtain ⟨⟨h1,h2⟩,h3⟩:=q3B.cons.1 hm;unfold q2b at hg
  split at hg
  .rename_i hp;cases hg;exact ⟨en,zR,by rw [h1,hp],h2⟩
  .obtain ⟨en',h4,h5⟩:=q4Q h3 hg;exact ⟨en',zJ _ h4,h5⟩
def q4R [NL] {z:Int}:∀ {l:List (Int × PV)} {el:List MapEntry},q3B w D ρ h l el->q2b l z=none->∀ en ∈ el,en.key≠.int .i64 z
 | [],[],_,_=>λen he=>by cases he
 | [],en :: el,hm,_=>by have:=hm.1; simp at this
 | p :: l,[],hm,_=>by have:=hm.1; simp at this
 | p :: l,en :: el,hm,hg=>by
  obtain ⟨⟨h1,h2⟩,h3⟩:=q3B.cons.1 hm;unfold q2b at hg
  split at hg
  .cases hg
  .rename_i hp;intro f hf
   rcases v9.1 hf with rfl | hf
   .rw [h1]; intro e; injection e with _ e; exact hp e
   .exact q4R h3 hg f hf
def q7y [NL] {z:Int} {x:PV} {en:MapEntry} (hk:en.key=.int .i64 z) (hx:Rd w D x ρ h en.val):∀ {l:List (Int × PV)} {el:List MapEntry},q3B w D ρ h l el->q2b l z=none->q3B w D ρ h (q6g l z x) (el ++ [en])
 | [],[],_,_=>q3B.cons.2 ⟨⟨hk,hx⟩,q3B.nil⟩
 | [],f :: el,hm,_=>by have:=hm.1; simp at this
 | p :: l,[],hm,_=>by have:=hm.1; simp at this
 | p :: l,f :: el,hm,hg=>by
  obtain ⟨h1,h3⟩:=q3B.cons.1 hm;unfold q2b at hg;unfold q6g
  split at hg
  .cases hg
  .rename_i hp;rw [if_neg hp];exact q3B.cons.2 ⟨h1,q7y hk hx h3 hg⟩
def q7x [NL] {z:Int} {x y:PV} {v:Value} (hx:Rd w D x ρ h v):∀ {l:List (Int × PV)} {el:List MapEntry},q3B w D ρ h l el->q2b l z=some y->∃ l1 l2 en,el=l1 ++ en :: l2/\en.key=.int .i64 z/\q3B w D ρ h (q6g l z x) (l1 ++ { en with val:=v } :: l2)
 | [],_,_,hg=>by cases hg
 | p :: l,[],hm,_=>by have:=hm.1; simp at this
 | p :: l,f :: el,hm,hg=>by
  obtain ⟨h1,h3⟩:=q3B.cons.1 hm;unfold q2b at hg;unfold q6g
  split at hg
  .rename_i hp;rw [if_pos hp];exact ⟨[],el,f,rfl,by rw [h1.1,hp],q3B.cons.2 ⟨⟨by rw [<- hp]; exact h1.1,hx⟩,h3⟩⟩
  .rename_i hp;rw [if_neg hp];obtain ⟨l1,l2,en,h4,h5,h6⟩:=q7x hx h3 hg;exact ⟨f :: l1,l2,en,by rw [h4]; rfl,h5,q3B.cons.2 ⟨h1,h6⟩⟩
def mpT [NL] (P:Program) (t:TypeId):Option (Kd × PV) :=
 match P.underlying t with
 | some (.map kt et)=>match P.underlying kt with
  | some (.int .i64)=>match (P.info? et).bind (·.zero),q09 P et with
   | some zv,some none=>if qkF zv then some (none,.vl zv) else none
   | some (.agg cs),some (some n)=>if cs.size=n/\n≠0/\(cs.toList.all λv=>v.oneCell' && q4E v)=true then some (some n,.ag (cs.toList.map .vl)) else none
   | _,_=>none
  | _=>none
 | _=>none
def qkP [NL] {t:TypeId} {k:Kd} {z:PV} (hT:mpT P t=some (k,z)):∃ kt et zv,P.underlying t=some (.map kt et)/\P.underlying kt=some (.int .i64)/\(∀ w,(zeroValue et).run P w=.ok zv w)/\q2T k zv/\∀ w D ρ h,Rd w D z ρ h zv:=by
 unfold mpT at hT
 split at hT
 case h_2=>cases hT
 rename_i kt et hu
 split at hT
 case h_2=>cases hT
 rename_i hk;have run:∀ {zv:Value},(P.info? et).bind (·.zero)=some zv->∀ w,(zeroValue et).run P w=.ok zv w:=λ{zv} h1 w=>by
  obtain ⟨i,h2,h3⟩:=zA.1 h1;simp [zeroValue,typeInfo,h2,h3]
 split at hT
 .rename_i zv h1 h2
  split at hT
  .rename_i ho;cases hT;exact ⟨kt,et,zv,hu,hk,run h1,⟨q16 ho.1,ho⟩,λ_ _ _ _=>by unfold Rd; rfl⟩
  .cases hT
 .rename_i cs n h1 h2
  split at hT
  .rename_i hc;cases hT;exact ⟨kt,et,_,hu,hk,run h1,⟨cs,rfl,hc.1,allB hc.2.2⟩,λ_ _ _ _=>by unfold Rd; exact ⟨cs.toList,rfl,q3y _⟩⟩
  .cases hT
 .cases hT
def Sat.map [NL] (S:Sat D0 w0 s h ρ e w) {id:Nat} {T:TypeId} {l:List (Int × PV)} {y:Value} (hi:h id=some ⟨T,some 0,[.tu (mpL l)],false⟩) (hy:Rd w (dm D0 ρ h) (.mp id) ρ h y) :
  ∃ g es clock el,y=.map (some g)/\ρ id=some g/\w.heap[g]?=some (.map es clock)/\MapWf es clock/\q3B w (dm D0 ρ h) ρ h l el/\es.toList.Perm el:=by
 unfold Rd at hy;obtain ⟨b,g,h1,h2,rfl⟩:=hy;rw [hi] at h1;cases h1
 rcases (S.own id _ g hi h2).2 with ⟨_,_,es,cl,el,m3,m4,m5,m6⟩ | ⟨cs,c1,c2,c3⟩
 .exact ⟨g,es,cl,el,rfl,h2,m3,m4,q3B.of m5,m6⟩
 .obtain ⟨vs,v1,v2,v3⟩:=c3 rfl;obtain ⟨v,hv,hr⟩:=v2.get (i:=0) rfl;have hf:=v3 v (zF hv);unfold Rd at hr;obtain ⟨us,rfl,_⟩:=hr;obtain ⟨cs,hc,_⟩:=hf;cases hc
def lkR (z:PV) (o:Option PV) (ok:Bool):PV:=if ok then .tu [o.getD z,.vl (.bool o.isSome)] else o.getD z
def Sat.lookup [NL] (S:Sat D0 w0 s h ρ e w) {id:Nat} {T t:TypeId} {l:List (Int × PV)} {k:Kd} {z:PV} {m:Operand} {i:Operand} {a:Int} {ok:Bool} (hm:pe s m=.mp id) (hi:h id=some ⟨T,some 0,[.tu (mpL l)],false⟩) (ha:pe s i=.vl (.int .i64 a)) (hT:mpT P t=some (k,z)) :
  ∃ v,(Instr.lookup t (ev e m) (ev e i) ok).run P w=.ok v w/\Rd w (dm D0 ρ h) (lkR z (q2b l a) ok) ρ h v:=by
 have hy:=S.pex m;rw [hm] at hy;obtain ⟨g,es,cl,el,q1,q2,q3,q4,q5,q6⟩:=S.map hi hy;have hk:=S.pex i;rw [ha] at hk;unfold Rd at hk;obtain ⟨kt,et,zv,u1,u2,u3,u4,u5⟩:=qkP hT;have hkey:MapKept.IsKey (.int .i64) (.int .i64 a):=rfl;rw [q1,hk];have fin:∀ (r:Option (Nat × Value)) (v:Value),Instr.findNow (.int .i64) (.int .i64 a) es.toList 0=some r->(∀ p,r=some p->v=p.2)->(r=none->v=zv)->(Instr.lookup t (.map (some g)) (.int .i64 a) ok).run P w=.ok (if ok then .tuple #[v,.bool r.isSome] else v) w:=λr v h1 h2 h3=>by
  cases r with
  | none =>
   rw [h3 rfl];cases ok <;> simp [Instr.lookup,run_underlying u1,MapKept.run_getObj_map q3,MapKept.run_checkKey u2 hkey,MapKept.run_findKey u2 h1,u3,Result.andThen]
  | some p =>
   rw [h2 p rfl];cases ok <;> simp [Instr.lookup,run_underlying u1,MapKept.run_getObj_map q3,MapKept.run_checkKey u2 hkey,MapKept.run_findKey u2 h1,Result.andThen]
 have rd:∀ (v:Value) (o:Option PV),Rd w (dm D0 ρ h) (o.getD z) ρ h v->Rd w (dm D0 ρ h) (lkR z o ok) ρ h (if ok then .tuple #[v,.bool o.isSome] else v):=λv o hr=>by
  unfold lkR;cases ok
  .exact hr
  .simp only [if_true];unfold Rd;exact ⟨_,rfl,by
    unfold RdL;refine ⟨_,_,rfl,hr,?_⟩;unfold RdL;exact ⟨_,_,rfl,by unfold Rd; rfl,by unfold RdL; rfl⟩⟩
 cases hg:q2b l a with
 | none =>
  have hno:=q4R q5 hg
  rcases MapKept.findNow_spec hkey es.toList 0 q4.key with ⟨h1,_⟩ | ⟨j,en,h1,h2,h3⟩
  .exact ⟨_,fin none zv h1 (λp hp=>by cases hp) λ_=>rfl,rd zv none (u5 _ _ _ _)⟩
  .exact absurd h3 (hno en (q6.mem_iff.1 (zF h2)))
 | some x =>
  obtain ⟨en,h4,h5,h6⟩:=q4Q q5 hg
  rcases MapKept.findNow_spec hkey es.toList 0 q4.key with ⟨h1,h2⟩ | ⟨j,en',h1,h2,h3⟩
  .exact absurd h5 (h2 en (q6.mem_iff.2 h4))
  .have he:en'=en:=q7s q4.st.2.2 (zF h2) (q6.mem_iff.2 h4) (h3.trans h5.symm);subst he;refine ⟨_,fin _ en'.val h1 (λp hp=>by cases hp; rfl) (λhn=>by cases hn),?_⟩;exact rd en'.val (some x) h6
def Kp.setB {w:World} {g:Nat} {o:Obj}:Kp (λk=>k≠g) w { w with heap:=w.heap.setIfInBounds g o }:=⟨rfl,rfl,rfl,σ,λk _ hk=>by
 show (w.heap.setIfInBounds g o)[k]?=_
 rw [yA,if_neg λe=>hk e.symm]⟩
def Sat.mwr [NL] (S:Sat D0 w0 s h ρ e w) {id g T:Nat} {l l':List (Int × PV)} {es es':Array MapEntry} {cl cl':Nat} {el':List MapEntry} (hi:h id=some ⟨T,some 0,[.tu (mpL l)],false⟩) (hr:ρ id=some g) (hg:w.heap[g]?=some (.map es cl)) (hk:Kp (λk=>k≠g) w w') (hg':w'.heap[g]?=some (.map es' cl')) (hwf:MapWf es' cl') (hrel:q3B w (dm D0 ρ h) ρ h l' el') (hp:es'.toList.Perm el') :
  Sat D0 w0 s (q0P h id ⟨T,some 0,[.tu (mpL l')],false⟩) ρ e w':=by
 have hnb:∀ {T cs},¬ Blk w g T cs:=λhb=>by have:=hg.symm.trans hb; cases this
 have hbs:∀ g' m,BSz w g' m->BSz w' g' m:=λg' m hq=>by
  by_cases he:g'=g
  .subst he;obtain ⟨c,T,q1,_⟩:=hq;exact (hnb q1).elim
  .exact hq.kp hk he
 have hc:Cpt w w' ρ h ρ (q0P h id ⟨T,some 0,[.tu (mpL l')],false⟩):=λi c hc=>⟨rfl,by
  by_cases he:i=id
  .subst he; rw [hi] at hc; cases hc;exact ⟨_,q0H,rfl,zQ _⟩
  .exact ⟨c,by rw [q0A he]; exact hc,rfl,zQ _⟩,λg m _ hb=>hbs g m hb⟩
 have hdd:∀ k,dm D0 ρ h k->dm D0 ρ (q0P h id ⟨T,some 0,[.tu (mpL l')],false⟩) k:=λk hq=>⟨hq.1,λi c hc=>by
  by_cases he:i=id
  .subst he; exact hq.2 i _ hi
  .rw [q0A he] at hc; exact hq.2 i c hc⟩
 have hkd:Kp (dm D0 ρ h) w w':=hk.mono λk _ hq e=>hq.2 id _ hi (by rw [hr,e]);have hge:=(S.own id _ g hi hr).1;refine ⟨λi j c c' g' ci cj hs ri rj=>?_,λi c g' ci ri=>?_,λi c ci ri=>?_,λt=>Rd.mv hkd (λk _=>hdd k) _ _ _ _ _ _ hc (S.rd t),S.ext.trans (hk.mono λk _ hF e=>hge.1 (e ▸ hF)),S.fr,λg' T m hi=>?_,S.pin⟩
 .by_cases ei:i=id <;> by_cases ej:j=id
  .exact .inl (ei.trans ej.symm)
  .subst ei;rw [q0A ej] at cj
   rcases S.inj j i c' _ g' cj hi rfl rj ri with h | h
   .exact .inl h.symm
   .rw [hs] at h; cases h
  .subst ej;rw [q0A ei] at ci;exact S.inj i j c _ g' ci hi rfl ri rj
  .rw [q0A ei] at ci; rw [q0A ej] at cj;exact S.inj i j c c' g' ci cj hs ri rj
 .by_cases ei:i=id
  .subst ei;rw [q0H] at ci; cases ci;rw [hr] at ri; cases ri;exact ⟨hge,.inl ⟨rfl,rfl,es',cl',el',hg',hwf,RdL.mv hkd (λk _=>hdd k) _ _ _ _ _ _ hc hrel.to,hp⟩⟩
  .rw [q0A ei] at ci;obtain ⟨a1,a2⟩:=S.own i c g' ci ri
   by_cases eg:g'=g
   .subst eg
    rcases S.inj i id c _ g' ci hi rfl ri hr with h | h
    .exact absurd h ei
    .rcases a2 with hm | ⟨cs,c1,_⟩
     .rw [hm.2.1] at h; cases h
     .exact (hnb c1).elim
   .exact ⟨a1,a2.mv (hk.block g' a2.lt eg) hkd (λk _=>hdd k) hc⟩
 .by_cases ei:i=id
  .subst ei; rw [hr] at ri; cases ri
  .rw [q0A ei] at ci; exact S.vir i c ci ri
 .obtain ⟨c,q1,q2,q3⟩:=S.imp g' T m hi
  by_cases he:g'=g
  .subst he; exact (hnb q1).elim
  .exact ⟨c,q1.kp hk he,q2,q3⟩
def qhF {α:Type} {l a b c d:List α} {x y:α} (h:l.Perm (a ++ x :: b)) (hl:l=c ++ x :: d):(c ++ y :: d).Perm (a ++ y :: b):=by
 subst hl;have h1:=(yQ.symm.trans h).trans yQ;exact (yQ.trans ((List.Perm.cons_inv h1).cons y)).trans yQ.symm
def Sat.mset [NL] (S:Sat D0 w0 s h ρ e w) {id T t:Nat} {l:List (Int × PV)} {k:Kd} {z:PV} {m i v:Operand} {a:Int} (hm:pe s m=.mp id) (hi:h id=some ⟨T,some 0,[.tu (mpL l)],false⟩) (ha:pe s i=.vl (.int .i64 a)) (hT:mpT P t=some (k,z)) (hf:q44 k (pe s v)) :
  ∃ w',(Instr.mapUpdate t (ev e m) (ev e i) (ev e v)).run P w=.ok () w'/\Sat D0 w0 s (q0P h id ⟨T,some 0,[.tu (mpL (q6g l a (pe s v)))],false⟩) ρ e w':=by
 have hy:=S.pex m;rw [hm] at hy;obtain ⟨g,es,cl,el,q1,q2,q3,q4,q5,q6⟩:=S.map hi hy;have hk:=S.pex i;rw [ha] at hk;unfold Rd at hk;have hv:=S.pex v;have hfv:=q6s hf hv;obtain ⟨kt,et,zv,u1,u2,u3,u4,u5⟩:=qkP hT;have hkey:MapKept.IsKey (.int .i64) (.int .i64 a):=rfl;rw [q1,hk]
 rcases MapKept.findNow_spec hkey es.toList 0 q4.key with ⟨h1,h2⟩ | ⟨j,en,h1,h2,h3⟩
 .have hno:q2b l a=none:=by
   cases hg:q2b l a with
   | none=>rfl
   | some x =>
    obtain ⟨en,h4,h5,_⟩:=q4Q q5 hg;exact absurd h5 (h2 en (q6.mem_iff.2 h4))
  have hrun:(Instr.mapUpdate t (.map (some g)) (.int .i64 a) (ev e v)).run P w=.ok () { w with heap:=w.heap.setIfInBounds g (.map (es.push ⟨.int .i64 a,ev e v,cl⟩) (cl+1)) }:=by
   simp [Instr.mapUpdate,run_underlying u1,MapKept.run_getObj_map q3,MapKept.run_checkKey u2 hkey,MapKept.run_findKey u2 h1,MapKept.run_setObj_map _ q3,Result.andThen]
  refine ⟨_,hrun,S.mwr hi q2 q3 Kp.setB (MapKept.heap_set q3).1 ⟨MapKept.stamped_push q4.st h2,λx hx=>?_,λx hx=>?_⟩ (q7y (en:=⟨.int .i64 a,ev e v,cl⟩) rfl hv q5 hno) ?_⟩
  .simp only [y7,zL,xK] at hx
   rcases hx with hx | rfl
   .exact q4.key x hx
   .rfl
  .simp only [y7,zL,xK] at hx
   rcases hx with hx | rfl
   .exact q4.nl x hx
   .exact λu hu=>(hfv.one u hu).2
  .rw [y7];exact q6.append_right _
 .have hj:es[j]?=some en:=by simpa using h2
  obtain ⟨y,hg⟩:∃ y,q2b l a=some y:=by
   cases hg:q2b l a with
   | none=>exact absurd h3 (q4R q5 hg en (q6.mem_iff.1 (zF h2)))
   | some y=>exact ⟨y,rfl⟩
  obtain ⟨l1,l2,en',e1,e2,e3⟩:=q7x hv q5 hg;have he:en'=en:=q7s q4.st.2.2 (q6.mem_iff.2 (by rw [e1]; simp)) (zF h2) (e2.trans h3.symm);subst he;have hrun:(Instr.mapUpdate t (.map (some g)) (.int .i64 a) (ev e v)).run P w=.ok () { w with heap:=w.heap.setIfInBounds g (.map (es.modify j λe'=>{ e' with key:=.int .i64 a,val:=ev e v }) cl) }:=by
   simp [Instr.mapUpdate,run_underlying u1,MapKept.run_getObj_map q3,MapKept.run_checkKey u2 hkey,MapKept.run_findKey u2 h1,hj,h3,MapKept.run_keyThatStays hkey,MapKept.run_setObj_map _ q3,Result.andThen]
  have hkey':∀ e',es[j]?=some e'->({ e' with key:=.int .i64 a,val:=ev e v }:MapEntry).key=e'.key:=λe' he'=>by rw [hj] at he'; cases he'; exact h3.symm
  have hlt:j < es.toList.length:=(zC.1 h2).1;have hml:(es.modify j λe'=>{ e' with key:=.int .i64 a,val:=ev e v }).toList=es.toList.take j ++ { en' with val:=ev e v } :: es.toList.drop (j+1):=by
   have e5:(es.modify j λe'=>{ e' with key:=.int .i64 a,val:=ev e v }).toList=es.toList.set j { en' with val:=ev e v }:=by
    apply yB
    intro n;rw [zH,Array.getElem?_modify,List.getElem?_set]
    by_cases hn:j=n
    .subst hn;rw [if_pos rfl,if_pos rfl,if_pos hlt,hj];simp [h3]
    .rw [if_neg hn,if_neg hn,zH]
   rw [e5,yJ,if_pos hlt]
  have hsp:es.toList=es.toList.take j ++ en' :: es.toList.drop (j+1):=by
   have e6:es.toList[j]=en':=by have:=zD hlt; rw [h2] at this; exact (xR.inj this).symm
   rw [<- e6,List.getElem_cons_drop,List.take_append_drop]
  refine ⟨_,hrun,S.mwr hi q2 q3 Kp.setB (MapKept.heap_set q3).1 ⟨MapKept.stamped_modify q4.st _ _ (λ_ _=>rfl) (λe' _ he'=>hkey' e' he'),MapKept.isKey_modify q4.key _ _ hkey',λx hx=>?_⟩ e3 ?_⟩
  .rw [hml] at hx
   rcases zL.1 hx with hx | hx
   .exact q4.nl x (zS hx)
   .rcases v9.1 hx with rfl | hx
    .exact λu hu=>(hfv.one u hu).2
    .exact q4.nl x (zN hx)
  .rw [hml];rw [e1] at q6;exact qhF q6 hsp
def Sat.newM [NL] (S:Sat D0 w0 s h ρ e w) {d:Nat} (hd:h d=none) (hd5:d < 5000):∃ ρ',Sat D0 w0 (pu s d (.mp d)) (q0P h d ⟨0,some 0,[.tu (mpL [])],false⟩) ρ' (upd e d (.map (some w.heap.size))) (w.alloc (.map #[] 0)):=by
 have hx:Ext w (w.alloc (.map #[] 0)):=Kp.alloc w _;have hg:=MapKept.heap_alloc w (.map #[] 0);have hne:∀ i c,h i=some c->i≠d:=λi c hi e=>by subst e; rw [hd] at hi; cases hi
 have hc:Cpt w (w.alloc (.map #[] 0)) ρ h (upo ρ d (some w.heap.size)) (q0P h d ⟨0,some 0,[.tu (mpL [])],false⟩):=λi c hi=>⟨q08 (hne i c hi),⟨c,by rw [q0A (hne i c hi)]; exact hi,rfl,zQ _⟩,λ_ _ _ hb=>hb.ext hx⟩;have hdd:∀ k,k < w.heap.size->dm D0 ρ h k->dm D0 (upo ρ d (some w.heap.size)) (q0P h d ⟨0,some 0,[.tu (mpL [])],false⟩) k:=λk hk hq=>⟨hq.1,λi c hi=>by
  by_cases hi':i=d
  .subst hi'; rw [q0p]; intro e; cases e; omega
  .rw [q0A hi'] at hi; rw [q08 hi']; exact hq.2 i c hi⟩
 have hk:Kp (dm D0 ρ h) w (w.alloc (.map #[] 0)):=Kp.of_ext hx;have hold:∀ i c,h i=some c->ρ i=some w.heap.size->False:=λi c hi ri=>by
  have:=(S.own i c _ hi ri).2.lt; omega
 refine ⟨upo ρ d (some w.heap.size),Sat.put (x:=.mp d) ⟨λi j c c' g' hi hj hs ri rj=>?_,λi c g' hi ri=>?_,λi c hi ri=>?_,λt=>Rd.mv hk hdd _ _ _ _ _ _ hc (S.rd t),S.ext.trans (Kp.of_ext hx),S.fr,S.impx hx,S.pino hd5⟩ d (by unfold Rd; exact ⟨_,_,q0H,q0p,rfl⟩)⟩
 .by_cases hi':i=d <;> by_cases hj':j=d
  .exact .inl (hi'.trans hj'.symm)
  .subst hi';rw [q0p] at ri; cases ri;rw [q0A hj'] at hj; rw [q08 hj'] at rj;exact (hold j _ hj rj).elim
  .subst hj';rw [q0p] at rj; cases rj;rw [q0A hi'] at hi; rw [q08 hi'] at ri;exact (hold i _ hi ri).elim
  .rw [q0A hi'] at hi; rw [q08 hi'] at ri;rw [q0A hj'] at hj; rw [q08 hj'] at rj;exact S.inj i j c c' g' hi hj hs ri rj
 .by_cases hi':i=d
  .subst hi';rw [q0p] at ri; cases ri;rw [q0H] at hi; cases hi;exact ⟨⟨λhF=>by have:=w0.lt _ hF; have:=S.ext.size; omega,S.fr _ S.ext.size⟩,.inl ⟨rfl,rfl,#[],0,[],hg.1,⟨MapKept.stamped_empty 0,λx hx=>(by simp at hx),λx hx=>(by simp at hx)⟩,q3B.nil.to,List.Perm.refl _⟩⟩
  .rw [q0A hi'] at hi; rw [q08 hi'] at ri;obtain ⟨a1,a2⟩:=S.own i c g' hi ri;exact ⟨a1,a2.mv (hx.block g' a2.lt trivial) hk hdd hc⟩
 .by_cases hi':i=d
  .subst hi'; rw [q0p] at ri; cases ri
  .rw [q0A hi'] at hi; rw [q08 hi'] at ri; exact S.vir i c hi ri
end
abbrev FP:=List Nat × List Nat
def FnP [NL] (x:PV) (f:FuncId) (ys:List PV):Prop:=∀ w D ρ h v,Rd w D x ρ h v->∃ cap,v=.func (.func f) #[] ⟨cap⟩/\RdL w D ys ρ h cap
def Stp [NL] (P:Program) (Tb:World->Prop) (o:Oper) (s:Nat->PV) (h:Hp) (x:PV) (h':Hp) (fp:FP):Prop :=
 match o.op with
 | .load t a=>∃ r,ldP h (q09 P t) (pe s a)=some r/\x=r.1/\fp=(r.2,[])/\h'=h
 | .alloc t=>∃ d b,o.dst=some d/\(h d=none/\d < 5000)/\alB P t=some b/\x=.pt d 0 0/\h'=q0P h d b/\fp=([],[d])
 | .box t v=>∃ d k,o.dst=some d/\(h d=none/\d < 5000)/\q09 P t=some k/\q44 k (pe s v)/\x=.pt d 0 0/\h'=q0P h d ⟨t,k,[pe s v],false⟩/\fp=([],[d])
 | .buildSlice t len ps=>∃ d E k bytes,o.dst=some d/\(h d=none/\d < 5000)/\elK P t=some (E,k,bytes)/\ps.toList.map (·.1)=List.range len/\len*ksz k<=16777216/\(∀ p ∈ ps.toList,q44 k (pe s p.2))/\x=.ow d k 0 len/\h'=q0P h d ⟨E,k,ps.toList.map λp=>pe s p.2,false⟩/\fp=([],[d])
 | .makeSlice t l c=>∃ d E k bytes z kl kc,∃ n m:Nat,o.dst=some d/\(h d=none/\d < 5000)/\elZ P t=some (E,k,bytes,z)/\pe s l=.vl (.int kl n)/\pe s c=.vl (.int kc m)/\n<=m/\bytes*m<=281474976710656/\m<=maxLen/\x=.ow d k 0 n/\h'=q0P h d ⟨E,k,List.replicate n z,false⟩/\fp=([],[d])
 | .store t a v=>∃ id i j b k u u',pe s a=.pt id i j/\h id=some b/\b.st=false/\q09 P t=some k/\q03 P t=some (ksz k)/\q44 k (pe s v)/\b.xs[i]?=some u/\stU b.k k j u (pe s v)=some u'/\x=.vl undef/\h'=q0P h id { b with xs:=b.xs.set i u' }/\fp=([id],[id])
 | .call c=>match c.callee with
  | .builtin .append=>∃ sx xx T d E k bytes xs ys i0 ids,c.args=#[sx,xx]/\c.argTypes=#[T,T]/\o.dst=some d/\(h d=none/\d < 5000)/\elK P T=some (E,k,bytes)/\apW h E k (pe s sx) ys xs i0/\apX h k (pe s xx)=some (ys,ids)/\(xs.length+ys.length)*(bytes+1)<=140737488355328/\x=.ow d k 0 (xs.length+ys.length)/\h'=q0P (stl h i0) d ⟨E,k,xs ++ ys,false⟩/\fp=(ids,d :: i0.toList)
  | .value (.func f)=>∃ al ids,q2d h (c.args.toList.map (pe s))=some (al,ids)/\AC P Tb f al x/\(ids=[]\/Nz x)/\h'=h/\fp=(ids,[])
  | .value (.tmp t)=>∃ f ys al ids,FnP (s t) f ys/\q2d h (c.args.toList.map (pe s) ++ ys)=some (al,ids)/\AC P Tb f al x/\(ids=[]\/Nz x)/\h'=h/\fp=(ids,[])
  | _=>q48 P o.op (pe s)=some x/\h'=h/\fp=([],[])
 | .makeMap _ r=>∃ d,r=none/\o.dst=some d/\(h d=none/\d < 5000)/\x=.mp d/\h'=q0P h d ⟨0,some 0,[.tu (mpL [])],false⟩/\fp=([],[d])
 | .lookup t m i ok=>∃ id T l a k z,pe s m=.mp id/\h id=some ⟨T,some 0,[.tu (mpL l)],false⟩/\pe s i=.vl (.int .i64 a)/\mpT P t=some (k,z)/\x=lkR z (q2b l a) ok/\h'=h/\fp=([id],[])
 | .mapUpdate t m i v=>∃ id T l a k z,pe s m=.mp id/\h id=some ⟨T,some 0,[.tu (mpL l)],false⟩/\pe s i=.vl (.int .i64 a)/\mpT P t=some (k,z)/\q44 k (pe s v)/\x=.vl undef/\h'=q0P h id ⟨T,some 0,[.tu (mpL (q6g l a (pe s v)))],false⟩/\fp=([id],[id])
 | op=>q48 P op (pe s)=some x/\h'=h/\fp=([],[])
def q2k (ops:List Oper) (s:Nat->PV) (j:Nat) (b:Bool):Option Bool:=match (ops[j]?).bind (·.dst) with | some d=>(match s d with | .vl (.bool c)=>some c | .vl (.tuple _)=>some (!b) | _=>none) | none=>none
def q7Q [NL] (P:Program) (Tb:World->Prop) (ops:List Oper) (o:Oper) (s:Nat->PV) (h:Hp) (x:PV) (h':Hp) (fp:FP):Prop :=
 match o.guard with
 | none=>Stp P Tb o s h x h' fp
 | some (j,b)=>∃ c,q2k ops s j b=some c/\if c=b then Stp P Tb o s h x h' fp else x=.vl undef/\h'=h/\fp=([],[])
section
variable {w w':World} {w0:Base} {D D0:Nat->Prop} {ρ:Nat->Option Nat} {h h':Hp} {s:Nat->PV} {e:Env} {P:Program} {Tb:World->Prop} {x:PV} {fp:FP}
def qg2 {dst:Option Nat} {f t:Nat} {cap:List Value} {args:Array Operand} {tys:Array TypeId} {ty:TypeId} {pos:String} {af:Array Edge} {gd:Option (Nat × Bool)} {K:Value->World->Prop} (hv:e t=.func (.func f) #[] ⟨cap⟩)
  (h:q0J P f=true/\Calls P f (args.toList.map (ev e) ++ cap).toArray w λx w'=>match x with | .returned v=>K v w' | _=>False):wo P ⟨dst,.call ⟨.value (.tmp t),args,tys⟩,ty,pos,af,gd⟩ e w K:=by
 obtain ⟨hf,h⟩:=h;have ha:(args.toList.map (ev e) ++ cap).toArray=args.map (ev e) ++ (⟨cap⟩:Array Value):=by
  cases args;simp
 rw [ha] at h;have key:(callFunc f (args.map (ev e) ++ (⟨cap⟩:Array Value))).run P w=.ok (.enter f (args.map (ev e) ++ (⟨cap⟩:Array Value))) w:=by
  unfold q0J at hf;cases hfn:P.funcs[f]? with
  | none=>simp [hfn] at hf
  | some fn =>
   simp only [hfn,zV] at hf;obtain ⟨h1,h2⟩:=hf;obtain ⟨b,hb⟩:=Option.isSome_iff_exists.1 h1;simp only [Bool.not_eq_true',beq_eq_false_iff_ne,ne_eq] at h2;simp [callFunc,hfn,hb,h2]
 have key2:(execOp (ev e) ⟨dst,.call ⟨.value (.tmp t),args,tys⟩,ty,pos,af,gd⟩).run P w=.ok (.enter f (args.map (ev e) ++ (⟨cap⟩:Array Value))) w:=by
  have hv':ev e (.tmp t)=.func (.func f) #[] ⟨cap⟩:=hv;simp only [execOp,resolve,Deferred.ofValue,hv',pure_bind,invoke];simp [key]
 show RO P K _
 rw [key2];exact h
def qj4 [NL] (S:Sat D0 w0 s h ρ e w) (hT:Tb w) (hF:Fr D0 w0.w) {o:Oper} (hs:Stp P Tb o s h x h' fp):wo P o e w λv w'=>∃ ρ',Sat D0 w0 (q2u s o.dst x) h' ρ' (E.put e o.dst v) w':=by
 obtain ⟨dst,op,ty,pos,af,gd⟩:=o;have pure:q48 P op (pe s)=some x/\h'=h/\fp=([],[])->wo P ⟨dst,op,ty,pos,af,gd⟩ e w λv w'=>∃ ρ',Sat D0 w0 (q2u s dst x) h' ρ' (E.put e dst v) w':=λ⟨h1,h2,_⟩=>by
  subst h2;exact qme S (o:=⟨dst,op,ty,pos,af,gd⟩) h1 λv hv=>⟨ρ,S.puto dst hv⟩
 unfold Stp at hs;cases op <;> simp only at hs <;> try (exact pure hs)
 case load t a =>
  obtain ⟨r,h1,rfl,_,rfl⟩:=hs;obtain ⟨v,hv,hr⟩:=qeL S h1;simp only [wo];rw [hv];exact ⟨ρ,S.puto dst hr⟩
 case alloc t =>
  obtain ⟨d,b,rfl,h1,h2,rfl,rfl,_⟩:=hs;obtain ⟨z,hz,ρ',S'⟩:=qix S h1.1 h1.2 h2;simp only [wo];rw [hz];exact ⟨ρ',S'⟩
 case box t v =>
  obtain ⟨d,k,rfl,h1,_,h2,rfl,rfl,_⟩:=hs;simp only [wo];exact S.newP (b:=⟨t,k,[pe s v],false⟩) h1.1 h1.2 rfl (S.pex v) (q6s h2 (S.pex v))
 case buildSlice t len ps =>
  obtain ⟨d,E,k,bytes,rfl,h1,h2,h3,h4,h5,rfl,rfl,_⟩:=hs;obtain ⟨cs,hcs,ρ',S'⟩:=bs_ok S h1.1 h1.2 h2 h3 h4 h5;simp only [wo,Array.toList_map];rw [hcs];exact ⟨ρ',S'⟩
 case makeSlice t l c =>
  obtain ⟨d,E,k,bytes,z,kl,kc,n,m,rfl,h1,h2,h3,h4,h7,h5,h6,rfl,rfl,_⟩:=hs;obtain ⟨z',hz,ρ',S'⟩:=mk_ok S h1.1 h1.2 h2 h7 h6;have hl:=S.pex l;have hc:=S.pex c;rw [h3] at hl;rw [h4] at hc;unfold Rd at hl hc;simp only [wo,hl,hc,hz,q2l];refine ⟨⟨ω,ω,?_,by simp only [maxLen] at h6; omega⟩,ρ',by simp only [y8]; exact S'⟩;have:((bytes*m:Nat):Int)<=281474976710656:=ω
  rwa [Int.natCast_mul] at this
 case store t a v =>
  obtain ⟨id,i,j,b,k,u,u',h1,h2,h3,h4,h5,h6,h7,h8,rfl,rfl,_⟩:=hs;obtain ⟨p,hp,q1,q2,q3⟩:=S.store (K:=λw'=>∃ ρ',Sat D0 w0 (q2u s dst (.vl undef)) (q0P h id { b with xs:=b.xs.set i u' }) ρ' (E.put e dst undef) w') h1 h2 h3 h4 h5 h6 h7 h8 λw' S'=>⟨ρ,S'.puto dst (by unfold Rd; rfl)⟩;simp only [wo,hp];exact ⟨q1,q2,q3⟩
 case makeMap t r =>
  obtain ⟨d,rfl,rfl,h1,rfl,rfl,_⟩:=hs;have S':=S.newM h1.1 h1.2;have key:(Instr.makeMap t none).run P w=.ok (.map (some w.heap.size)) (w.alloc (.map #[] 0)):=rfl;simp only [wo];unfold WO;simp only [execOp,Option.map_none,Sem.run_bind,key];exact S'
 case lookup t m i ok =>
  obtain ⟨id,T,l,a,k,z,h1,h2,h3,h4,rfl,rfl,_⟩:=hs;obtain ⟨v,key,hr⟩:=S.lookup (ok:=ok) h1 h2 h3 h4;simp only [wo];unfold WO;simp only [execOp,Sem.run_bind,key];exact ⟨ρ,S.puto dst hr⟩
 case mapUpdate t m i v =>
  obtain ⟨id,T,l,a,k,z,h1,h2,h3,h4,h5,rfl,rfl,_⟩:=hs;obtain ⟨w',key,S'⟩:=S.mset h1 h2 h3 h4 h5;simp only [wo];unfold WO;simp only [execOp,Sem.run_bind,key];exact ⟨ρ,S'.puto dst (by unfold Rd; rfl)⟩
 case call c =>
  obtain ⟨callee,args,tys⟩:=c;simp only at hs
  split at hs
  .obtain ⟨sx,xx,T,d,E,k,bytes,xs,ys,i0,ids,rfl,rfl,rfl,h1,h2,h3,h4,h5,rfl,rfl,_⟩:=hs;obtain ⟨v,w',hrun,ρ',S'⟩:=S.append (ty:=ty) h1.1 h1.2 h2 h3 h4 h5;rw [q5E];exact qpO hrun ⟨ρ',S'⟩
  .rename_i f;obtain ⟨al,ids,h1,h2,h3,rfl,_⟩:=hs;have:=S.call (K:=λv w'=>∃ ρ',Sat D0 w0 (q2u s dst x) h' ρ' (E.put e dst v) w') hT hF h1 h2 h3 λv w' S' hr=>⟨ρ,S'.puto dst hr⟩;have he:args.map (ev e)=(args.toList.map (ev e)).toArray:=by cases args; simp
   rw [<- he] at this;exact this
  .rename_i t;obtain ⟨f,ys,al,ids,g0,h1,h2,h3,rfl,_⟩:=hs;obtain ⟨cap,hv,hr⟩:=g0 _ _ _ _ _ (S.rd t);exact qg2 hv (S.callv (K:=λv w'=>∃ ρ',Sat D0 w0 (q2u s dst x) h' ρ' (E.put e dst v) w') hT hF (RdL.app (q4V (f:=pe s) (g:=ev e) S.pex args.toList) hr) h1 h2 h3 λv w' S' hr=>⟨ρ,S'.puto dst hr⟩)
  .exact pure hs
def qdj [NL] (S:Sat D0 w0 s h ρ e w) {ops:List Oper} {j:Nat} {b c:Bool} (hy:q2k ops s j b=some c):(q3W ops.toArray e j == some b)=(c == b):=by
 unfold q2k at hy;unfold q3W;rw [xG]
 split at hy
 .rename_i d hd;rw [hd];have:=S.rd d
  split at hy
  .rename_i b hb;rw [hb] at this;unfold Rd at this;simp only [this];cases hy
   rfl
  .rename_i tv hb;rw [hb] at this;unfold Rd at this;simp only [this];cases hy
   revert b
   intro b;cases b <;> rfl
  .cases hy
 .cases hy
def q9S [NL] (S:Sat D0 w0 s h ρ e w) (hT:Tb w) (hF:Fr D0 w0.w) {ops:List Oper} {o:Oper} (hs:q7Q P Tb ops o s h x h' fp):wg P ops.toArray o e w λv w'=>∃ ρ',Sat D0 w0 (q2u s o.dst x) h' ρ' (E.put e o.dst v) w':=by
 unfold q7Q at hs;unfold wg q5j
 split at hs
 .rename_i hg;rw [hg];exact qj4 S hT hF hs
 .rename_i j b hg;obtain ⟨c,hc,hs⟩:=hs;rw [hg];simp only [qdj S hc]
  split at hs
  .rename_i hcb;rw [if_pos (by simpa using hcb)];exact qj4 S hT hF hs
  .rename_i hcb;rw [if_neg (by simpa using hcb)];obtain ⟨rfl,rfl,_⟩:=hs;exact ⟨ρ,S.puto o.dst (by unfold Rd; rfl)⟩
def qdl [NL] {o:Op} {f g:Operand->PV} (h:∀ x ∈ o.operands,f x=g x):q48 P o f=q48 P o g:=by
 cases o <;> simp only [q48] <;> (try rfl) <;> simp only [Op.operands] at h
 case move x=>rw [h x σ]
 case assign x=>rw [h x σ]
 case pick c a b=>rw [h c σ,h a σ,h b σ]
 case binOp op t x y _=>rw [h x σ,h y σ]
 case unOp op t x=>rw [h x σ]
 case convert a b x=>rw [h x σ]
 case fieldAddr t x f=>rw [h x σ]
 case extract x i=>rw [h x σ]
 case field t x f=>rw [h x σ]
 case nilCheck x=>rw [h x σ]
 case indexAddr t x i=>rw [h x σ,h i σ]
 case slice t x lo hi mx =>
  cases mx with
  | some _=>rfl
  | none =>
   simp only;have h1:lo.map f=lo.map g:=by cases lo with | none=>rfl | some l=>simp only [yW]; rw [h l σ]
   have h2:hi.map f=hi.map g:=by cases hi with | none=>rfl | some l=>simp only [yW]; rw [h l σ]
   rw [h1,h2,h x σ]
 case build t ps =>
  have:(ps.toList.map λp=>(p.1,f p.2))=ps.toList.map λp=>(p.1,g p.2):=zX λp hp=>by rw [h p.2 (by simp; exact ⟨p.1,by simpa using hp⟩)]
  rw [this]
 case makeFunc fn first cap =>
  rw [zX λy hy=>h y (by simp; right; simpa using hy)]
 case call c =>
  obtain ⟨callee,args,tys⟩:=c;have ha:∀ y ∈ args.toList,f y=g y:=λy hy=>h y (by simp [Call.operands]; right; simpa using hy);simp only
  split
  .split
   .rename_i x t hx ht;rw [ha x (by rw [hx]; simp)]
   .rfl
  .rw [zX ha]
  .rw [zX ha]
  .rfl
def agr (h h2:Hp) (l:List Nat):Prop:=∀ i ∈ l,h2 i=h i
def qnN {h2:Hp} {k:Option Kd} {p:PV} {r:PV × List Nat} (hl:ldP h k p=some r) (ha:agr h h2 r.2):ldP h2 k p=some r:=by
 unfold ldP at hl ⊢
 split at hl
 .rename_i id i j;have:r.2=[id]:=by
   split at hl
   .split at hl
    .cases hl
    .obtain ⟨y,_,rfl⟩:=zB.1 hl; rfl
   .cases hl
  simp only [ha id (by rw [this]; simp)];exact hl
 .exact hl
 .cases hl
def qig {h2:Hp} {y:PV} {r:PV × List Nat} (hl:qcG h y=some r) (ha:agr h h2 r.2):qcG h2 y=some r:=by
 unfold qcG at hl ⊢
 split at hl
 .rename_i id k off n;have:r.2=[id]:=by
   obtain ⟨b,hb,hc⟩:=zA.1 hl
   split at hc
   .cases hc; rfl
   .cases hc
  simp only [ha id (by rw [this]; simp)];exact hl
 .exact hl
def q8U {h2:Hp}:∀ {l:List PV} {r:List PV × List Nat},q1V h l=some r->agr h h2 r.2->q1V h2 l=some r
 | [],r,hl,_=>hl
 | y :: l,r,hl,ha=>by
  unfold q1V at hl ⊢;obtain ⟨a,h1,hc⟩:=zA.1 hl;obtain ⟨b,hb,rfl⟩:=zB.1 hc;rw [qig h1 λi hi=>ha i (zU _ hi),zE,q8U hb λi hi=>ha i (zP _ hi)]
  rfl
def qbG {h2:Hp} {y:PV} {r:PV × List Nat} (hl:q3E h y=some r) (ha:agr h h2 r.2):q3E h2 y=some r:=by
 unfold q3E at hl ⊢
 split at hl
 .rename_i id k off n;have hm:id ∈ r.2:=by
   obtain ⟨b,hb,hc⟩:=zA.1 hl
   split at hc
   .cases hc; simp
   .split at hc
    .obtain ⟨r0,_,rfl⟩:=zB.1 hc; simp
    .cases hc
  simp only [ha id hm];obtain ⟨b,hb,hc⟩:=zA.1 hl;rw [hb,zE]
  split at hc
  .rename_i hh; rw [if_pos hh]; exact hc
  .rename_i hh;rw [if_neg hh]
   split at hc
   .rename_i hh2;obtain ⟨r0,hr0,rfl⟩:=zB.1 hc;rw [if_pos hh2,q8U hr0 λi hi=>ha i (zJ _ hi)]; rfl
   .cases hc
 .exact hl
def q8T {h2:Hp}:∀ {l:List PV} {r:List PV × List Nat},q3U h l=some r->agr h h2 r.2->q3U h2 l=some r
 | [],r,hl,_=>hl
 | y :: l,r,hl,ha=>by
  unfold q3U at hl ⊢;obtain ⟨a,h1,hc⟩:=zA.1 hl;obtain ⟨b,hb,rfl⟩:=zB.1 hc;rw [qbG h1 λi hi=>ha i (zU _ hi),zE,q8T hb λi hi=>ha i (zP _ hi)]
  rfl
def qo2 {h2:Hp} {y:PV} {r:PV × List Nat} (hl:clo h y=some r) (ha:agr h h2 r.2):clo h2 y=some r:=by
 unfold clo at hl ⊢
 split at hl
 .obtain ⟨b,hb,rfl⟩:=zB.1 hl;simp only [q8T hb ha,yW]
 .exact qbG hl ha
def q7B {h2:Hp}:∀ {l:List PV} {r:List PV × List Nat},q2d h l=some r->agr h h2 r.2->q2d h2 l=some r
 | [],r,hl,_=>hl
 | y :: l,r,hl,ha=>by
  unfold q2d at hl ⊢;obtain ⟨a,h1,hc⟩:=zA.1 hl;obtain ⟨b,hb,rfl⟩:=zB.1 hc;rw [qo2 h1 λi hi=>ha i (zU _ hi),zE,q7B hb λi hi=>ha i (zP _ hi)]
  rfl
def qpS {h2:Hp} {E:TypeId} {k:Kd} {p:PV} {xs:List PV} {i0:Option Nat} (hl:apS h E k p=some (xs,i0)) (ha:agr h h2 i0.toList):apS h2 E k p=some (xs,i0):=by
 unfold apS at hl ⊢
 split at hl
 .exact hl
 .rename_i id k' off n;have:i0=some id:=by
   obtain ⟨b,hb,hc⟩:=zA.1 hl
   split at hc
   .cases hc; rfl
   .cases hc
  simp only [ha id (by rw [this]; simp)];exact hl
 .cases hl
def qpR [NL] {h2:Hp} {E:TypeId} {k:Kd} {p:PV} {xs ys:List PV} {i0:Option Nat} (hl:apW h E k p ys xs i0) (ha:agr h h2 i0.toList):apW h2 E k p ys xs i0:=hl.imp (λhl=>qpS hl ha) λhl=>hl
def qpQ {h2:Hp} {k:Kd} {p:PV} {r:List PV × List Nat} (hl:apX h k p=some r) (ha:agr h h2 r.2):apX h2 k p=some r:=by
 unfold apX at hl ⊢
 split at hl
 .exact hl
 .exact hl
 .rename_i id k' off n;have:r.2=[id]:=by
   obtain ⟨b,hb,hc⟩:=zA.1 hl
   split at hc
   .cases hc; rfl
   .cases hc
  simp only [ha id (by rw [this]; simp)];exact hl
 .cases hl
def Loc (h2 h' h3:Hp) (fp:FP):Prop:=(∀ i ∈ fp.2,h3 i=h' i)/\∀ i,i ∉ fp.2->h3 i=h2 i
def Loc.upd {h2:Hp} {d:Nat} {b:Bk} {l:List Nat}:Loc h2 (q0P h d b) (q0P h2 d b) (l,[d]):=⟨λi hi=>by
  have hi:i ∈ [d]:=hi;simp at hi; subst hi; rw [q0H,q0H],λi hi=>by
  have hi:i ∉ [d]:=hi;simp at hi; rw [q0A hi]⟩
def qdJ [NL] {o:Oper} {s2:Nat->PV} {h2:Hp} (hs:Stp P Tb o s h x h' fp) (he:∀ y ∈ o.op.operands,pe s2 y=pe s y) (ha:agr h h2 (fp.1 ++ fp.2)):∃ h3,Stp P Tb o s2 h2 x h3 fp/\Loc h2 h' h3 fp:=by
 obtain ⟨dst,op,ty,pos,af,gd⟩:=o;have ha1:agr h h2 fp.1:=λi hi=>ha i (zU _ hi);have ha2:agr h h2 fp.2:=λi hi=>ha i (zP _ hi);simp only at he;have pure:q48 P op (pe s)=some x/\h'=h/\fp=([],[])->q48 P op (pe s2)=some x/\Loc h2 h' h2 fp:=λ⟨h1,h2,h3⟩=>by
  subst h3;exact ⟨by rw [qdl he]; exact h1,λi hi=>(by cases hi),λi _=>rfl⟩
 unfold Stp at hs ⊢;cases op <;> simp only at hs ⊢ <;> (try (exact ⟨h2,⟨(pure hs).1,rfl,hs.2.2⟩,(pure hs).2⟩)) <;> simp only [Op.operands] at he
 case load t a =>
  obtain ⟨r,h1,rfl,rfl,rfl⟩:=hs;exact ⟨h2,⟨r,by rw [he a σ]; exact qnN h1 ha1,rfl,rfl,rfl⟩,λi hi=>(by cases hi),λi _=>rfl⟩
 case alloc t =>
  obtain ⟨d,b,rfl,h1,h3,rfl,rfl,rfl⟩:=hs;exact ⟨_,⟨d,b,rfl,⟨by rw [ha2 d σ]; exact h1.1,h1.2⟩,h3,rfl,rfl,rfl⟩,Loc.upd⟩
 case box t v =>
  obtain ⟨d,k,rfl,h1,h3,h4,rfl,rfl,rfl⟩:=hs;rw [<- he v σ] at h4 ⊢;exact ⟨_,⟨d,k,rfl,⟨by rw [ha2 d σ]; exact h1.1,h1.2⟩,h3,h4,rfl,rfl,rfl⟩,Loc.upd⟩
 case buildSlice t len ps =>
  obtain ⟨d,E,k,bytes,rfl,h1,h3,h4,h5,h6,rfl,rfl,rfl⟩:=hs;have hp:∀ p ∈ ps.toList,pe s2 p.2=pe s p.2:=λp hp=>he p.2 (by simp; exact ⟨p.1,by simpa using hp⟩);rw [<- zX hp];exact ⟨_,⟨d,E,k,bytes,rfl,⟨by rw [ha2 d σ]; exact h1.1,h1.2⟩,h3,h4,h5,λp hpp=>by rw [hp p hpp]; exact h6 p hpp,rfl,rfl,rfl⟩,Loc.upd⟩
 case makeSlice t l c =>
  obtain ⟨d,E,k,bytes,z,kl,kc,n,m,rfl,h1,h3,h4,h5,h8,h6,h7,rfl,rfl,rfl⟩:=hs;exact ⟨_,⟨d,E,k,bytes,z,kl,kc,n,m,rfl,⟨by rw [ha2 d σ]; exact h1.1,h1.2⟩,h3,by rw [he l σ]; exact h4,by rw [he c σ]; exact h5,h8,h6,h7,rfl,rfl,rfl⟩,Loc.upd⟩
 case store t a v =>
  obtain ⟨id,i,j,b,k,u,u',h1,h3,h4,h5,h6,h7,h8,h9,rfl,rfl,rfl⟩:=hs;exact ⟨_,⟨id,i,j,b,k,u,u',by rw [he a σ]; exact h1,by rw [ha1 id σ]; exact h3,h4,h5,h6,by rw [he v σ]; exact h7,h8,by rw [he v σ]; exact h9,rfl,rfl,rfl⟩,Loc.upd⟩
 case makeMap t r =>
  obtain ⟨d,rfl,rfl,h1,rfl,rfl,rfl⟩:=hs;exact ⟨_,⟨d,rfl,rfl,⟨by rw [ha2 d σ]; exact h1.1,h1.2⟩,rfl,rfl,rfl⟩,Loc.upd⟩
 case lookup t m i ok =>
  obtain ⟨id,T,l,a,k,z,h1,h3,h4,h5,rfl,rfl,rfl⟩:=hs;exact ⟨h2,⟨id,T,l,a,k,z,by rw [he m σ]; exact h1,by rw [ha1 id σ]; exact h3,by rw [he i σ]; exact h4,h5,rfl,rfl,rfl⟩,λi hi=>(by cases hi),λi _=>rfl⟩
 case mapUpdate t m i v =>
  obtain ⟨id,T,l,a,k,z,h1,h3,h4,h5,h6,rfl,rfl,rfl⟩:=hs;rw [<- he v σ] at h6 ⊢;exact ⟨_,⟨id,T,l,a,k,z,by rw [he m σ]; exact h1,by rw [ha1 id σ]; exact h3,by rw [he i σ]; exact h4,h5,h6,rfl,rfl,rfl⟩,Loc.upd⟩
 case call c =>
  obtain ⟨callee,args,tys⟩:=c;have hg:∀ y ∈ args.toList,pe s2 y=pe s y:=λy hy=>he y (by simp [Call.operands]; right; simpa using hy);simp only at hs ⊢
  split at hs
  .obtain ⟨sx,xx,T,d,E,k,bytes,xs,ys,i0,ids,rfl,rfl,rfl,h1,h3,h4,h5,h6,rfl,rfl,rfl⟩:=hs;refine ⟨q0P (stl h2 i0) d ⟨E,k,xs ++ ys,false⟩,⟨sx,xx,T,d,E,k,bytes,xs,ys,i0,ids,rfl,rfl,rfl,⟨by rw [ha2 d σ]; exact h1.1,h1.2⟩,h3,by rw [hg sx σ]; exact qpR h4 λi hi=>ha2 i (zJ _ hi),by rw [hg xx σ]; exact qpQ h5 ha1,h6,rfl,rfl,rfl⟩,λi hi=>?_,λi hi=>?_⟩
   .simp only [v9] at hi
    by_cases hd:i=d
    .subst hd; rw [q0H,q0H]
    .rw [q0A hd,q0A hd]
     rcases hi with hi | hi
     .exact absurd hi hd
     .cases i0 with
      | none=>cases hi
      | some j =>
       simp at hi;subst hi;have:=ha2 i σ;simp only [stl,this];cases h i <;> simp [q0H, *]
   .simp only [v9,not_or] at hi;rw [q0A hi.1];cases i0 with
    | none=>rfl
    | some j =>
     have hij:i≠j:=by simpa using hi.2
     unfold stl;simp only;cases h2 j <;> simp [q0A hij]
  .obtain ⟨al,ids,h1,h3,h4,rfl,rfl⟩:=hs;exact ⟨h2,⟨al,ids,by rw [zX hg]; exact q7B h1 ha1,h3,h4,rfl,rfl⟩,λi hi=>(by cases hi),λi _=>rfl⟩
  .rename_i t;obtain ⟨f,ys,al,ids,g0,h1,h3,h4,rfl,rfl⟩:=hs;have ht:s2 t=s t:=he (.tmp t) (by simp [Call.operands]);exact ⟨h2,⟨f,ys,al,ids,by rw [ht]; exact g0,by rw [zX hg]; exact q7B h1 ha1,h3,h4,rfl,rfl⟩,λi hi=>(by cases hi),λi _=>rfl⟩
  .exact ⟨h2,⟨(pure hs).1,rfl,hs.2.2⟩,(pure hs).2⟩
def q24 {d:Nat} {b:Bk} {l:List Nat}:∀ i,i ∉ (l,[d]).2->q0P h d b i=h i:=λi hi=>by
 have hi:i ∉ [d]:=hi;simp at hi; rw [q0A hi]
def qdI [NL] {o:Oper} (hs:Stp P Tb o s h x h' fp):∀ i,i ∉ fp.2->h' i=h i:=by
 obtain ⟨dst,op,ty,pos,af,gd⟩:=o;unfold Stp at hs;cases op <;> simp only at hs <;> (try (exact λi _=>by rw [hs.2.1]))
 case load t a=>obtain ⟨r,h1,rfl,rfl,rfl⟩:=hs; exact λ_ _=>rfl
 case alloc t=>obtain ⟨d,b,rfl,h1,h3,rfl,rfl,rfl⟩:=hs; exact q24
 case box t v=>obtain ⟨d,k,rfl,h1,h3,h4,rfl,rfl,rfl⟩:=hs; exact q24
 case buildSlice t len ps=>obtain ⟨d,E,k,bytes,rfl,h1,h3,h4,h5,h6,rfl,rfl,rfl⟩:=hs; exact q24
 case makeSlice t l c=>obtain ⟨d,E,k,bytes,z,kl,kc,n,m,rfl,h1,h3,h4,h5,h8,h6,h7,rfl,rfl,rfl⟩:=hs; exact q24
 case store t a v=>obtain ⟨id,i,j,b,k,u,u',h1,h3,h4,h5,h6,h7,h8,h9,rfl,rfl,rfl⟩:=hs; exact q24
 case makeMap t r=>obtain ⟨d,rfl,rfl,h1,rfl,rfl,rfl⟩:=hs; exact q24
 case lookup t m i ok=>obtain ⟨id,T,l,a,k,z,h1,h3,h4,h5,rfl,rfl,rfl⟩:=hs; exact λ_ _=>rfl
 case mapUpdate t m i v=>obtain ⟨id,T,l,a,k,z,h1,h3,h4,h5,h6,rfl,rfl,rfl⟩:=hs; exact q24
 case call c =>
  split at hs
  .obtain ⟨sx,xx,T,d,E,k,bytes,xs,ys,i0,ids,_,_,rfl,h1,h3,h4,h5,h6,rfl,rfl,rfl⟩:=hs;intro i hi;simp only [v9,not_or] at hi;rw [q0A hi.1];cases i0 with
   | none=>rfl
   | some j =>
    have hij:i≠j:=by simpa using hi.2
    unfold stl;simp only;cases h j <;> simp [q0A hij]
  .obtain ⟨al,ids,h1,h3,h4,rfl,rfl⟩:=hs;exact λ_ _=>rfl
  .obtain ⟨f,ys,al,ids,g0,h1,h3,h4,rfl,rfl⟩:=hs;exact λ_ _=>rfl
  .exact λi _=>by rw [hs.2.1]
end
def AL [NL] (P:Program) (Tb:World->Prop) (ops:List Oper) (K:(Nat->PV)->Hp->List FP->Prop):List Oper->(Nat->PV)->Hp->List FP->Prop
 | [],s,h,acc=>K s h acc
 | o :: r,s,h,acc=>∃ x h' fp,q7Q P Tb ops o s h x h' fp/\AL P Tb ops K r (q2u s o.dst x) h' (fp :: acc)
def sS (ops:List Oper) (X:Nat->PV) (L:Nat->Bool) (s:Nat->PV):Nat->Nat->PV
 | 0=>s
 | k+1=>if L k then (match ops[k]? with | some o=>q2u (sS ops X L s k) o.dst (X k) | none=>sS ops X L s k) else sS ops X L s k
def hS (W:Nat->FP) (H:Nat->Hp) (L:Nat->Bool) (h:Hp):Nat->Hp
 | 0=>h
 | k+1=>if L k then (λi=>if i ∈ (W k).2 then H k i else hS W H L h k i) else hS W H L h k
def tt:Nat->Bool:=λ_=>true
def mkM (M:List Nat) (o:Oper):Nat:=o.after.toList.foldl (λm e=>if Region.binds .any e then m ||| 2 ^ e.on ||| M.getD e.on 0 else m) 0
def qkO:List Nat->List Oper->List Nat
 | M,[]=>M
 | M,o :: r=>qkO (M ++ [mkM M o]) r
def cls (o:Oper):Nat :=
 match o.op with
 | .load _ _=>1
 | .alloc _ | .box _ _ | .buildSlice _ _ _ | .makeSlice _ _ _ | .makeMap _ _=>2
 | .store _ _ _ | .mapUpdate _ _ _ _=>3
 | .lookup _ _ _ _=>1
 | .call c=>match c.callee with | .builtin .append=>3 | .value (.func _) | .value (.tmp _)=>1 | _=>0
 | _=>0
def harm (a b:Nat):Bool:=yM a 0 || yM b 0 || (yM a 1 && yM b 1) || (yM a 2 && yM b 2)
def qsV:List (Nat × Nat)->Nat->Nat->Bool
 | [],_,_=>false
 | p :: l,a,b=>(yM p.1 a && yM p.2 b) || qsV l a b
def dOk1 (o p:Oper):Bool:=match o.dst,p.dst with | some d,some d'=>!yM d d' | _,_=>true
def dOk2 (ops:List Oper) (M:List Nat) (i j:Nat) (o p:Oper):Bool:=match p.dst with | some d=>!looks ops.toArray o d || (M.getD i 0).testBit j || (M.getD j 0).testBit i | none=>true
def dOk3 (M:List Nat) (prs:List (Nat × Nat)) (i j:Nat) (o p:Oper):Bool:=decide (i<=j) || (M.getD i 0).testBit j || harm (cls p) (cls o) || qsV prs j i
def dOk4 (M:List Nat) (i:Nat) (o:Oper):Bool:=(o.after.toList.all λe=>!Region.binds .any e || decide (e.on < i)) && yM (M.getD i 0) (mkM M o)
def q93 (ops:List Oper) (M:List Nat) (prs:List (Nat × Nat)):Bool :=
 (List.range ops.length).all λi=>match ops[i]? with
  | none=>true
  | some o=>dOk4 M i o &&
   (List.range ops.length).all λj=>match ops[j]? with
    | none=>true
    | some p=>yM i j || (dOk1 o p && dOk2 ops M i j o p && dOk3 M prs i j o p)
def dj (a b:FP):Prop:=(∀ x ∈ a.2,x ∉ b.1/\x ∉ b.2)/\∀ x ∈ b.2,x ∉ a.1
def chk (prs:List (Nat × Nat)) (fps:List FP):Prop:=∀ p ∈ prs,dj (fps.getD p.1 ([],[])) (fps.getD p.2 ([],[]))
section
variable {P:Program} {Tb:World->Prop} {n:Nat} {ops:List Oper} {X:Nat->PV} {L L':Nat->Bool} {s:Nat->PV} {h:Hp} {W:Nat->FP} {H:Nat->Hp}
def qmZ {o:Oper} {l:List Oper} (k:Nat):sS (o :: l) X tt s (k+1)=sS l (λi=>X (i+1)) tt (q2u s o.dst (X 0)) k:=by
 induction k with
 | zero=>rfl
 | succ k ih =>
  show (if tt (k+1) then (match (o :: l)[k+1]? with | some o'=>q2u (sS (o :: l) X tt s (k+1)) o'.dst (X (k+1)) | none=>sS (o :: l) X tt s (k+1)) else sS (o :: l) X tt s (k+1))=_
  rw [ih,yI]
  rfl
def qn7 (k:Nat):hS W H tt h (k+1)=hS (λi=>W (i+1)) (λi=>H (i+1)) tt (λi=>if i ∈ (W 0).2 then H 0 i else h i) k:=by
 induction k with
 | zero=>rfl
 | succ k ih =>
  show (if tt (k+1) then (λi=>if i ∈ (W (k+1)).2 then H (k+1) i else hS W H tt h (k+1) i) else hS W H tt h (k+1))=_
  rw [ih]
  rfl
def qhe [NL] {o:Oper} {x:PV} {h':Hp} {fp:FP} (hs:q7Q P Tb ops o s h x h' fp):∀ i,i ∉ fp.2->h' i=h i:=by
 unfold q7Q at hs
 split at hs
 .exact qdI hs
 .obtain ⟨c,_,hs⟩:=hs
  split at hs
  .exact qdI hs
  .exact λi _=>by rw [hs.2.1]
def qqk [NL] {K:(Nat->PV)->Hp->List FP->Prop}:∀ (l:List Oper) (s:Nat->PV) (h:Hp) (acc:List FP),AL P Tb ops K l s h acc ->
  ∃ (X:Nat->PV) (H:Nat->Hp) (W:Nat->FP),(∀ k o,l[k]?=some o->q7Q P Tb ops o (sS l X tt s k) (hS W H tt h k) (X k) (hS W H tt h (k+1)) (W k))/\K (sS l X tt s l.length) (hS W H tt h l.length) (((List.range l.length).map W).reverse ++ acc)
 | [],s,h,acc,hal=>⟨λ_=>.un,λ_=>h0,λ_=>([],[]),λk o ho=>by simp at ho,hal⟩
 | o :: l,s,h,acc,hal=>by
  obtain ⟨x,h',fp,h1,h2⟩:=hal;obtain ⟨X,H,W,h3,h4⟩:=qqk l _ _ _ h2;have ho:=qhe h1;have he:(λi=>if i ∈ fp.2 then h' i else h i)=h':=by
   funext i
   split
   .rfl
   .rename_i hi; exact (ho i hi).symm
  let X':Nat->PV:=λk=>match k with | 0=>x | k+1=>X k
  let H':Nat->Hp:=λk=>match k with | 0=>h' | k+1=>H k
  let W':Nat->FP:=λk=>match k with | 0=>fp | k+1=>W k
  have es:∀ k,sS (o :: l) X' tt s (k+1)=sS l X tt (q2u s o.dst x) k:=λk=>qmZ k;have eh:∀ k,hS W' H' tt h (k+1)=hS W H tt h' k:=λk=>by
   have:=qn7 (W:=W') (H:=H') (h:=h) k;rw [this]
   show hS W H tt (λi=>if i ∈ fp.2 then h' i else h i) k=_
   rw [he]
  refine ⟨X',H',W',λk p hp=>?_,?_⟩
  .cases k with
   | zero =>
    simp only [xC,xR.injEq] at hp;subst hp;rw [eh 0];exact h1
   | succ k =>
    rw [es,eh,eh];exact h3 k p (by simpa using hp)
  .rw [zO,es,eh];have:((List.range (l.length+1)).map W').reverse ++ acc=((List.range l.length).map W).reverse ++ (fp :: acc):=by
    rw [List.range_succ_eq_map,z6,yZ,List.reverse_cons,uC]
    rfl
   rw [this];exact h4
structure Drw (ops:List Oper) (M:List Nat) (prs:List (Nat × Nat)):Prop where
 down:∀ (i:Nat) (o:Oper) (x:Edge),ops[i]?=some o->x ∈ o.after->Region.binds .any x=true->x.on < i
 anc:∀ (i j:Nat) (o:Oper),ops[i]?=some o->(M.getD i 0).testBit j=true->∃ x ∈ o.after,Region.binds .any x=true/\(x.on=j\/(M.getD x.on 0).testBit j=true)
 dst:∀ (i j:Nat) (o p:Oper) (d:Nat),ops[i]?=some o->ops[j]?=some p->o.dst=some d->p.dst=some d->i=j
 look:∀ (i j:Nat) (o p:Oper) (d:Nat),ops[i]?=some o->ops[j]?=some p->i≠j->p.dst=some d->looks ops.toArray o d=true->(M.getD i 0).testBit j=true\/(M.getD j 0).testBit i=true
 par:∀ (i j:Nat) (o p:Oper),ops[i]?=some o->ops[j]?=some p->j < i->(M.getD i 0).testBit j=true\/harm (cls p) (cls o)=true\/qsV prs j i=true
def qeG {M:List Nat} {j:Nat}:∀ (l:List Edge) (m:Nat),(l.foldl (λm e=>if Region.binds .any e then m ||| 2 ^ e.on ||| M.getD e.on 0 else m) m).testBit j=true->m.testBit j=true\/∃ x ∈ l,Region.binds .any x=true/\(x.on=j\/(M.getD x.on 0).testBit j=true)
 | [],m,h=>.inl h
 | e :: l,m,h=>by
  rw [List.foldl_cons] at h
  rcases qeG l _ h with h | ⟨x,hx,h⟩
  .split at h
   .rename_i hb;rw [Nat.testBit_or,Nat.testBit_or,zY,zY,Nat.testBit_two_pow] at h
    rcases h with (h | h) | h
    .exact .inl h
    .exact .inr ⟨e,zR,hb,.inl (by simpa using h)⟩
    .exact .inr ⟨e,zR,hb,.inr h⟩
   .exact .inl h
  .exact .inr ⟨x,zJ _ hx,h⟩
def Drw.of {M:List Nat} {prs:List (Nat × Nat)} (hk:q93 ops M prs=true):Drw ops M prs:=by
 unfold q93 at hk;rw [yE] at hk;have hi:∀ (i:Nat) (o:Oper),ops[i]?=some o->i ∈ List.range ops.length:=λi o ho=>yN.2 (zC.1 ho).1;have h1:∀ (i:Nat) (o:Oper),ops[i]?=some o->dOk4 M i o=true/\((List.range ops.length).all λj=>match ops[j]? with | none=>true | some p=>yM i j || (dOk1 o p && dOk2 ops M i j o p && dOk3 M prs i j o p))=true:=λi o ho=>by
  have:=hk i (hi i o ho);rw [ho] at this;simp only [zV] at this;exact this
 have h2:∀ (i j:Nat) (o p:Oper),ops[i]?=some o->ops[j]?=some p->i≠j->(dOk1 o p=true/\dOk2 ops M i j o p=true)/\dOk3 M prs i j o p=true:=λi j o p ho hp hij=>by
  have:=(yE.1 (h1 i o ho).2) j (hi j p hp);rw [hp] at this;simp only [zY] at this
  rcases this with h | h
  .exact absurd (zI h) hij
  .rw [zV,zV] at h;exact h
 refine ⟨λi o x ho hx hb=>?_,λi j o ho hb=>?_,λi j o p d ho hp hod hpd=>?_,λi j o p d ho hp hij hd hl=>?_,λi j o p ho hp hji=>?_⟩
 .have h4:=(h1 i o ho).1;unfold dOk4 at h4;rw [zV] at h4;have:=yE.1 h4.1 x (yU.2 hx);rw [hb] at this;simpa using this
 .have h4:=(h1 i o ho).1;unfold dOk4 at h4;rw [zV] at h4;have he:=zI h4.2;rw [he] at hb;unfold mkM at hb
  rcases qeG _ _ hb with h | ⟨x,hx,h⟩
  .simp at h
  .exact ⟨x,yU.1 hx,h⟩
 .by_cases hij:i=j
  .exact hij
  .have:=(h2 i j o p ho hp hij).1.1;unfold dOk1 at this;rw [hod,hpd] at this;simp at this
 .have:=(h2 i j o p ho hp hij).1.2;unfold dOk2 at this;rw [hd] at this;simp only [hl,Bool.not_true,Bool.false_or,zY] at this;exact this
 .have:=(h2 i j o p ho hp Oq).2;unfold dOk3 at this;simp only [zY,decide_eq_true_eq] at this
  rcases this with ((h | h) | h) | h
  .omega
  .exact .inl h
  .exact .inr (.inl h)
  .exact .inr (.inr h)
def qbw (i:Nat):∀ (m:Nat),(∀ k,k < m->i ∈ (W k).2->L k=L' k)->hS W H L h m i=hS W H L' h m i
 | 0,_=>rfl
 | m+1,hl=>by
  have ih:=qbw i m λk hk=>hl k Oq;unfold hS
  by_cases hi:i ∈ (W m).2
  .rw [hl m ω hi]
   split
   .simp [hi]
   .exact ih
  .split <;> split <;> simp [hi,ih]
def sS_s {k:Nat}:sS ops X L s (k+1)=if L k then (match ops[k]? with | some o=>q2u (sS ops X L s k) o.dst (X k) | none=>sS ops X L s k) else sS ops X L s k:=rfl
def q1O {t:Nat}:∀ (m:Nat),(∀ k o,k < m->ops[k]?=some o->L k=true->o.dst≠some t)->sS ops X L s m t=s t
 | 0,_=>rfl
 | m+1,hl=>by
  have ih:=q1O m λk o hk=>hl k o Oq;rw [sS_s]
  by_cases hL:L m=true
  .rw [if_pos hL];cases ho:ops[m]? with
   | none=>exact ih
   | some o =>
    have:=hl m o Oq ho hL;cases hd:o.dst with
    | none=>simp only [hd,q2u]; exact ih
    | some d=>rw [hd] at this; simp only [hd,q2u,pu]; rw [if_neg (λe=>this (by rw [e]))]; exact ih
  .rw [if_neg hL]; exact ih
def q2i {t:Nat} (hdd:∀ (i j:Nat) (o p:Oper) (d:Nat),ops[i]?=some o->ops[j]?=some p->o.dst=some d->p.dst=some d->i=j) {k:Nat} {o:Oper} (ho:ops[k]?=some o) (hd:o.dst=some t) (hL:L k=true):∀ (m:Nat),k < m->sS ops X L s m t=X k
 | 0,hm=>by omega
 | m+1,hm=>by
  rw [sS_s]
  by_cases hk:k=m
  .subst hk;rw [if_pos hL,ho];simp only [hd,q2u,pu,if_true]
  .have ih:=q2i hdd ho hd hL m Oq
   by_cases hLm:L m=true
   .rw [if_pos hLm];cases hp:ops[m]? with
    | none=>exact ih
    | some p =>
     cases hpd:p.dst with
     | none=>simp only [hpd,q2u]; exact ih
     | some d =>
      simp only [hpd,q2u,pu];rw [if_neg λe=>hk (hdd k m o p t ho hp hd (by rw [hpd,e]))];exact ih
   .rw [if_neg hLm]; exact ih
end
section
variable {P:Program} {Tb:World->Prop} {n:Nat} {ops:List Oper} {X:Nat->PV} {s:Nat->PV} {h:Hp} {W:Nat->FP} {H:Nat->Hp} {M:List Nat} {prs:List (Nat × Nat)} {D0:Nat->Prop} {w0:Base} {ρ:Nat->Option Nat} {e:Env} {w:World}
def hS_s {L:Nat->Bool} {k:Nat}:hS W H L h (k+1)=if L k then (λi=>if i ∈ (W k).2 then H k i else hS W H L h k i) else hS W H L h k:=rfl
def Lo (listed:Array Bool):Nat->Bool:=λk=>listed.getD k false
def q6Q {listed:Array Bool} {i k:Nat} (hi:i < listed.size):Lo (listed.setIfInBounds i true) k=if i=k then true else Lo listed k:=by
 simp only [Lo,zW,yA]
 split
 .rename_i hk; subst hk; simp [hi]
 .rfl
def qlB (hD:Drw ops M prs):∀ (i:Nat) (o:Oper) (j:Nat),ops[i]?=some o->(M.getD i 0).testBit j=true->j < i:=by
 intro i
 induction i using xE with
 | _ i ih =>
  intro o j ho hb;obtain ⟨x,hx,hbx,hj⟩:=hD.anc i j o ho hb;have hlt:=hD.down i o x ho hx hbx
  rcases hj with rfl | hj
  .exact hlt
  .have hl:x.on < ops.length:=by have:=(zC.1 ho).1; omega
   have:=ih x.on hlt _ j (zD hl) hj;omega
def qlC (hD:Drw ops M prs) {L:Nat->Bool} (hc:∀ (k:Nat) (o:Oper) (x:Edge),ops[k]?=some o->L k=true->x ∈ o.after->Region.binds .any x=true->L x.on=true):∀ (i:Nat) (o:Oper) (j:Nat),ops[i]?=some o->(∀ x ∈ o.after,Region.binds .any x=true->L x.on=true)->(M.getD i 0).testBit j=true->L j=true:=by
 intro i
 induction i using xE with
 | _ i ih =>
  intro o j ho hL hb;obtain ⟨x,hx,hbx,hj⟩:=hD.anc i j o ho hb;have hlt:=hD.down i o x ho hx hbx;have hLx:=hL x hx hbx
  rcases hj with rfl | hj
  .exact hLx
  .have hl:x.on < ops.length:=by have:=(zC.1 ho).1; omega
   have ho':=zD hl;exact ih x.on hlt _ j ho' (λy hy hby=>hc x.on _ y ho' hLx hy hby) hj
def q7z {o:Oper} {t:Nat}:looks ops.toArray o t=true ↔ t ∈ o.looksAt ops.toArray:=by
 unfold looks;rw [List.any_eq_true]
 constructor
 .rintro ⟨x,hx,h⟩;rw [zI h]; exact hx
 .exact λhx=>⟨t,hx,σ⟩
def qhf [NL] {o:Oper} {s2:Nat->PV} {h2 h':Hp} {x:PV} {fp:FP} (hs:q7Q P Tb ops o s h x h' fp) (he:∀ t,looks ops.toArray o t=true->s2 t=s t) (ha:agr h h2 (fp.1 ++ fp.2)):∃ h3,q7Q P Tb ops o s2 h2 x h3 fp/\Loc h2 h' h3 fp:=by
 have hop:∀ y ∈ o.op.operands,pe s2 y=pe s y:=λy hy=>by
  cases y <;> simp only [pe]
  case tmp t=>exact he t (q7z.2 (by unfold Oper.looksAt; simp; exact .inl ⟨.tmp t,by simpa using hy,rfl⟩))
 unfold q7Q at hs ⊢
 split at hs
 .exact qdJ hs hop ha
 .rename_i j b hg;obtain ⟨c,hc,hs⟩:=hs;have hy:q2k ops s2 j b=q2k ops s j b:=by
   unfold q2k;cases hd:(ops[j]?).bind (·.dst) with
   | none=>rfl
   | some d =>
    simp only;rw [he d (q7z.2 (by unfold Oper.looksAt; rw [hg]; simp only [xG,hd]; simp))]
  simp only [hy,hc]
  split at hs
  .rename_i hcb;obtain ⟨h3,h4,h5⟩:=qdJ hs hop ha;exact ⟨h3,⟨c,rfl,by rw [if_pos hcb]; exact h4⟩,h5⟩
  .rename_i hcb;obtain ⟨rfl,rfl,rfl⟩:=hs;exact ⟨h2,⟨c,rfl,by rw [if_neg hcb]; exact ⟨rfl,rfl,rfl⟩⟩,λi hi=>(by cases hi),λi _=>rfl⟩
def qoO [NL] {Q : Exit -> Act -> World -> Prop} {e0 : Env} (hD : Drw ops M prs) (hd : ops.all (q8Q n) = true) (hT : ∀ w, Kp w0.F w0.w w -> Tb w) (hF : Fr D0 w0.w)
    (hG : ∀ k o, ops[k]? = some o -> q7Q P Tb ops o (sS ops X tt s k) (hS W H tt h k) (X k) (hS W H tt h (k + 1)) (W k))
    (hdyn : ∀ (i j : Nat) (o p : Oper), ops[i]? = some o -> ops[j]? = some p -> j < i -> (M.getD i 0).testBit j = true \/ dj (W j) (W i))
    (hQ : ∀ a e' w' ρ', Rel n a e' -> Sat D0 w0 (sS ops X tt s ops.length) (hS W H tt h ops.length) ρ' e' w' -> (∀ t, q5X ops.toArray t = false -> e' t = e0 t) -> Q .normal a w') :
    ∀ (fuel : Nat) (listed : Array Bool) (a : Act) (e' : Env) (w' : World) (ρ : Nat -> Option Nat), ops.length <= fuel + (List.range ops.length).countP (λi => listed.getD i true) -> listed.size = ops.length -> (∀ (k : Nat) (o : Oper) (x : Edge), ops[k]? = some o -> Lo listed k = true -> x ∈ o.after -> Region.binds .any x = true -> Lo listed x.on = true) ->
      Rel n a e' -> (∀ t, q5X ops.toArray t = false -> e' t = e0 t) -> Sat D0 w0 (sS ops X (Lo listed) s ops.length) (hS W H (Lo listed) h ops.length) ρ e' w' -> wpAny P .any ops.toArray Q fuel listed a w' := by
  have hft : ∀ {listed : Array Bool} {j : Nat}, listed.size = ops.length -> j < ops.length -> listed.getD j true = Lo listed j := λ{listed j} hsz hj => by
    simp [Lo, zW, v6 (show j < listed.size by omega)]
  have hdone : ∀ (listed : Array Bool) (a : Act) (e' : Env) (w' : World) (ρ : Nat -> Option Nat), listed.size = ops.length -> (∀ i, i < ops.length -> Lo listed i = true) -> Rel n a e' -> (∀ t, q5X ops.toArray t = false -> e' t = e0 t) -> Sat D0 w0 (sS ops X (Lo listed) s ops.length) (hS W H (Lo listed) h ops.length) ρ e' w' -> Q .normal a w' := λlisted a e' w' ρ hsz hall hr ho S => by
    refine hQ a e' w' ρ hr ?_ ho
    have e1 : sS ops X (Lo listed) s ops.length = sS ops X tt s ops.length := by
      have : ∀ m, m <= ops.length -> sS ops X (Lo listed) s m = sS ops X tt s m := λm => by
        induction m with
        | zero => intro _; rfl
        | succ m ih => intro hm; rw [sS_s, sS_s, ih ω, hall m ω]; rfl
      exact this _ (zQ _)
    have e2 : hS W H (Lo listed) h ops.length = hS W H tt h ops.length := by
      funext i
      exact qbw i _ λk hk _ => by rw [hall k hk]; rfl
    rw [<- e1, <- e2]
    exact S
  have hend : ∀ (listed : Array Bool) (a : Act) (e' : Env) (w' : World) (ρ : Nat -> Option Nat), listed.size = ops.length -> Region.ready .any ops.toArray listed = [] -> Rel n a e' -> (∀ t, q5X ops.toArray t = false -> e' t = e0 t) -> Sat D0 w0 (sS ops X (Lo listed) s ops.length) (hS W H (Lo listed) h ops.length) ρ e' w' -> Q .normal a w' := λlisted a e' w' ρ hsz hnil hr ho S => by
    refine hdone listed a e' w' ρ hsz (λi => ?_) hr ho S
    induction i using xE with
    | _ i ih =>
      intro hi
      cases hb : Lo listed i with
      | true => rfl
      | false =>
        have : i ∈ Region.ready .any ops.toArray listed := by
          unfold Region.ready
          rw [List.mem_filter]
          refine ⟨yN.2 (by simpa using hi), ?_⟩
          have hio : ops.toArray[i]? = some ops[i] := by simp [hi]
          simp only [hft hsz hi, hb, Bool.not_false, Bool.true_and, hio, yW, Option.getD_some]
          rw [Array.all_eq_true']
          intro x hx
          cases hbx : Region.binds .any x with
          | false => rfl
          | true =>
            have hlt := hD.down i ops[i] x (zD hi) hx hbx
            have := ih x.on hlt Oq
            simp only [Lo] at this
            simp [this]
        rw [hnil] at this; cases this
  intro fuel
  induction fuel with
  | zero =>
    intro listed a e' w' ρ hf hsz hcl hr ho S
    have hall : ∀ i, i < ops.length -> listed.getD i true = true := by
      have hle : (List.range ops.length).countP (λi => listed.getD i true) = (List.range ops.length).length := by
        have := List.countP_le_length (p := λi => listed.getD i true) (l := List.range ops.length)
        simp only [List.length_range] at this ⊢; omega
      rw [List.countP_eq_length] at hle
      exact λi hi => hle i (yN.2 hi)
    have hnil : Region.ready .any ops.toArray listed = [] := by
      unfold Region.ready
      rw [List.filter_eq_nil_iff]
      intro i hi
      simp [hall i (by simpa using yN.1 hi)]
    exact ⟨hnil, hend _ _ _ _ _ hsz hnil hr ho S⟩
  | succ fuel ih =>
    intro listed a e' w' ρ hf hsz hcl hr ho S
    refine ⟨λhn => hend _ _ _ _ _ hsz hn hr ho S, λi hi => ?_⟩
    obtain ⟨hlt', hnl, hdeps⟩ := q7o hi
    have hlt : i < ops.length := by simpa using hlt'
    have hli : i < listed.size := by omega
    have hio : ops[i]? = some ops[i] := zD hlt
    have hLi : Lo listed i = false := by rw [<- hft hsz hlt]; exact hnl
    generalize hoi : ops[i] = o at hio
    have hdeps' : ∀ x ∈ o.after, Region.binds .any x = true -> Lo listed x.on = true := λx hx hb => hdeps x (by simpa [hoi] using hx) hb
    -- what is ordered
    have hord : ∀ (k : Nat) (p : Oper), ops[k]? = some p -> k ≠ i -> ((M.getD i 0).testBit k = true \/ (M.getD k 0).testBit i = true) -> Lo listed k = decide (k < i) := λk p hp hki hb => by
      rcases hb with hb | hb
      . have h1 := qlB hD i o k hio hb
        rw [qlC hD hcl i o k hio hdeps' hb, decide_eq_true h1]
      . have h1 := qlB hD k p i hp hb
        rw [decide_eq_false ω]
        cases hL : Lo listed k with
        | false => rfl
        | true =>
          have := qlC hD hcl k p i hp (λx hx hbx => hcl k p x hp hL hx hbx) hb
          rw [hLi] at this; cases this
    have hwr : ∀ (k : Nat) (p : Oper), ops[k]? = some p -> k ≠ i -> ∀ id, id ∈ (W k).2 -> id ∈ (W i).1 ++ (W i).2 -> Lo listed k = decide (k < i) := λk p hp hki id h1 h2 => by
      refine hord k p hp hki ?_
      rcases uF k i with hk | hk
      . rcases hdyn i k o p hio hp hk with h | h
        . exact .inl h
        . exfalso
          rcases zL.1 h2 with h2 | h2
          . exact (h.1 id h1).1 h2
          . exact (h.1 id h1).2 h2
      . rcases hdyn k i p o hp hio Oq with h | h
        . exact .inr h
        . exfalso
          rcases zL.1 h2 with h2 | h2
          . exact h.2 id h1 h2
          . exact (h.1 id h2).2 h1
    have canS : ∀ k t, k <= ops.length -> sS ops X tt s k t = sS ops X (λj => decide (j < k)) s ops.length t := λk t hk => by
      by_cases hex : ∃ (j : Nat) (p : Oper), ops[j]? = some p /\ p.dst = some t
      . obtain ⟨j, p, hp, hpd⟩ := hex
        have hj := (zC.1 hp).1
        by_cases hjk : j < k
        . rw [q2i hD.dst hp hpd rfl k hjk, q2i hD.dst hp hpd (by simp [hjk]) _ hj]
        . rw [q1O k λm q hm hq _ he => hjk (by have := hD.dst m j q p t hq hp he hpd; omega), q1O _ λm q hm hq hL he => hjk (by have := hD.dst m j q p t hq hp he hpd; subst this; simpa using hL)]
      . rw [q1O k λm q _ hq _ he => hex ⟨m, q, hq, he⟩, q1O _ λm q _ hq _ he => hex ⟨m, q, hq, he⟩]
    have canH : ∀ k id, k <= ops.length -> hS W H tt h k id = hS W H (λj => decide (j < k)) h ops.length id := λk id hk => by
      have h1 : ∀ m, k <= m -> hS W H (λj => decide (j < k)) h m id = hS W H (λj => decide (j < k)) h k id := λm hm => by
        induction m with
        | zero => have : k = 0 := by omega
                  subst this; rfl
        | succ m ihm =>
          by_cases hkm : k = m + 1
          . subst hkm; rfl
          . have := ihm Oq
            rw [hS_s, if_neg (by simp; omega)]
            exact this
      rw [h1 _ hk]
      exact qbw id k λm hm _ => by simp [tt, hm]
    have hg := hG i o hio
    obtain ⟨h3, g1, g2⟩ := qhf (s2 := sS ops X (Lo listed) s ops.length) (h2 := hS W H (Lo listed) h ops.length) hg (λt ht => by
      rw [canS i t ω]
      by_cases hex : ∃ (j : Nat) (p : Oper), ops[j]? = some p /\ p.dst = some t
      . obtain ⟨j, p, hp, hpd⟩ := hex
        have hj := (zC.1 hp).1
        have hLj : Lo listed j = decide (j < i) := by
          by_cases hji : j = i
          . subst hji; rw [hLi]; simp
          . exact hord j p hp hji (hD.look i j o p t hio hp (λe => hji e.symm) hpd ht)
        by_cases hji : j < i
        . rw [q2i hD.dst hp hpd (by rw [hLj]; simp [hji]) _ hj, q2i hD.dst hp hpd (by simp [hji]) _ hj]
        . rw [q1O _ λm q hm hq hL he => by have := hD.dst m j q p t hq hp he hpd; subst this; rw [hLj] at hL; exact hji (by simpa using hL), q1O _ λm q hm hq hL he => by have := hD.dst m j q p t hq hp he hpd; subst this; exact hji (by simpa using hL)]
      . rw [q1O _ λm q _ hq _ he => hex ⟨m, q, hq, he⟩, q1O _ λm q _ hq _ he => hex ⟨m, q, hq, he⟩]) (λid hid => by
      rw [canH i id ω]
      refine qbw id _ λk hk hw => ?_
      by_cases hki : k = i
      . subst hki; rw [hLi]; simp
      . exact hwr k _ (zD hk) hki id hw hid)
    have e1 : q2u (sS ops X (Lo listed) s ops.length) o.dst (X i) = sS ops X (Lo (listed.setIfInBounds i true)) s ops.length := by
      funext t
      by_cases hex : ∃ (j : Nat) (p : Oper), ops[j]? = some p /\ p.dst = some t
      . obtain ⟨j, p, hp, hpd⟩ := hex
        have hj := (zC.1 hp).1
        by_cases hji : i = j
        . subst hji
          rw [hio] at hp; cases hp
          rw [q2i hD.dst hio hpd (by rw [q6Q hli]; simp) _ hj, hpd]
          simp [q2u, pu]
        . have hne : o.dst ≠ some t := λhe => hji (hD.dst i j o p t hio hp he hpd)
          have : q2u (sS ops X (Lo listed) s ops.length) o.dst (X i) t = sS ops X (Lo listed) s ops.length t := by
            cases hod : o.dst with
            | none => rfl
            | some d => simp only [q2u, pu]; rw [if_neg λe => hne (by rw [hod, e])]
          rw [this]
          cases hL : Lo listed j with
          | true => rw [q2i hD.dst hp hpd hL _ hj, q2i hD.dst hp hpd (by rw [q6Q hli, if_neg hji]; exact hL) _ hj]
          | false => rw [q1O _ λm q hm hq hL' he => (by have := hD.dst m j q p t hq hp he hpd; subst this; rw [hL] at hL'; cases hL'), q1O _ λm q hm hq hL' he => (by have := hD.dst m j q p t hq hp he hpd; subst this; rw [q6Q hli, if_neg hji, hL] at hL'; cases hL')]
      . have hne : o.dst ≠ some t := λhe => hex ⟨i, o, hio, he⟩
        have : q2u (sS ops X (Lo listed) s ops.length) o.dst (X i) t = sS ops X (Lo listed) s ops.length t := by
          cases hod : o.dst with
          | none => rfl
          | some d => simp only [q2u, pu]; rw [if_neg λe => hne (by rw [hod, e])]
        rw [this, q1O _ λm q _ hq _ he => hex ⟨m, q, hq, he⟩, q1O _ λm q _ hq _ he => hex ⟨m, q, hq, he⟩]
    have e2 : h3 = hS W H (Lo (listed.setIfInBounds i true)) h ops.length := by
      funext id
      by_cases hid : id ∈ (W i).2
      . rw [g2.1 id hid, canH (i + 1) id ω]
        refine (qbw id _ λk hk hw => ?_).symm
        rw [q6Q hli]
        by_cases hki : i = k
        . subst hki; simp
        . rw [if_neg hki, hwr k _ (zD hk) (λe => hki e.symm) id hw (zP _ hid)]
          congr 1
          exact propext ⟨λh => by omega, λh => by omega⟩
      . rw [g2.2 id hid]
        refine (qbw id _ λk hk hw => ?_).symm
        rw [q6Q hli, if_neg λe => by subst e; exact hid hw]
    rw [e2] at g1
    have hcount : ops.length <= fuel + (List.range ops.length).countP (λj => (listed.setIfInBounds i true).getD j true) := by
      have : (List.range ops.length).countP (λj => listed.getD j true) + 1 <= (List.range ops.length).countP (λj => (listed.setIfInBounds i true).getD j true) := by
        have hsplit : List.range ops.length = List.range i ++ i :: (xI (i + 1) (ops.length - i - 1)) := by
          rw [yS, yS, show ops.length = i + (1 + (ops.length - i - 1)) by omega, <- List.range'_append_1, uD]
          congr 1
          rw [show i + (1 + (ops.length - i - 1)) - i - 1 = ops.length - i - 1 by omega, Nat.add_comm 1, List.range'_succ]
        rw [hsplit, xL, xL, List.countP_cons, List.countP_cons]
        have hmono : ∀ (L : List Nat), L.countP (λj => listed.getD j true) <= L.countP (λj => (listed.setIfInBounds i true).getD j true) := by
          intro L
          refine List.countP_mono_left (λj _ hj => ?_)
          rw [q3d hli]
          split
          . rfl
          . exact hj
        have h1 := hmono (List.range i)
        have h2 := hmono (xI (i + 1) (ops.length - i - 1))
        simp only [hnl, q3d hli, if_true, if_false, xM] at h1 h2 ⊢
        omega
      omega
    have hdo : q8Q n o = true := by rw [yE] at hd; exact hd _ (zF hio)
    have hput : ∀ v, Rel n (a.put o.dst v) (E.put e' o.dst v) := λv => hr.put o.dst v (by unfold q8Q at hdo; cases hx : o.dst <;> simp_all)
    have hstep := q3A (q9S S (hT _ S.ext) hF g1)
    rw [e1] at hstep
    have hnext : ∀ v w'', (∃ ρ', Sat D0 w0 (sS ops X (Lo (listed.setIfInBounds i true)) s ops.length) (hS W H (Lo (listed.setIfInBounds i true)) h ops.length) ρ' (E.put e' o.dst v) w'') -> wpAny P .any ops.toArray Q fuel (listed.setIfInBounds i true) (a.put o.dst v) w'' := λv w'' ⟨ρ', S'⟩ => by
      refine ih _ _ _ _ ρ' hcount (by simpa using hsz) (λk p x hp hL hx hb => ?_) (hput v) (λt ht => ?_) S'
      . rw [q6Q hli] at hL ⊢
        split
        . rfl
        . by_cases hki : i = k
          . subst hki
            rw [hio] at hp; cases hp
            exact hdeps' x hx hb
          . rw [if_neg hki] at hL
            exact hcl k p x hp hL hx hb
      . rw [qjz (q5W ht i o (by simpa using hio))]
        exact ho t ht
    unfold wpOp
    have hio2 : ops.toArray[i]? = some o := by simpa using hio
    simp only [hio2]
    rw [q6U hr (by simpa using hd)]
    unfold WG at hstep
    split
    . rename_i hw
      rw [if_pos hw] at hstep
      exact .inl (q6S hr hstep λv w'' hv => hnext v w'' hv)
    . rename_i hw
      rw [if_neg hw] at hstep
      exact hnext _ _ hstep
end
abbrev SQ:=Exit->(Nat->PV)->Hp->Prop
def AW [NL] (P:Program) (Tb:World->Prop) (J:Nat->Prop) (n:Nat) (c:Code) (Q:SQ) (s:Nat->PV) (h:Hp):Prop :=
 ∀ D0 (w0:Base) ρ e w,((∀ w,Kp w0.F w0.w w->Tb w)/\∀ i r,w0.J i r->J i)->Fr D0 w0.w->Sat D0 w0 s h ρ e w->W P n c (λx e' w'=>∃ s' h' ρ',Sat D0 w0 s' h' ρ' e' w'/\Q x s' h') e w
def thA (K:(Nat->PV)->Hp->Prop) (Q:SQ):SQ
 | .normal,s,h=>K s h
 | x,s,h=>Q x s h
def inA (id:Nat) (Q:SQ):SQ
 | .exit id',s,h=>if id'=id then Q .normal s h else Q (.exit id') s h
 | x,s,h=>Q x s h
def Le [NL] (J:Nat->Prop) (s:Nat->PV) (h:Hp) (s':Nat->PV) (h':Hp):Prop:=∀ D0 (w0:Base) ρ e w,(∀ i r,w0.J i r->J i)->Sat D0 w0 s h ρ e w->∃ ρ',Sat D0 w0 s' h' ρ' e w
section
variable {P:Program} {Tb:World->Prop} {J:Nat->Prop} {n:Nat} {Q:SQ} {s s':Nat->PV} {h h':Hp}
def q1g [NL] {c:Code} (hl:Le J s h s' h') (hw:AW P Tb J n c Q s' h'):AW P Tb J n c Q s h:=λD0 w0 ρ e w hT hF S=>by
 obtain ⟨ρ',S'⟩:=hl D0 w0 ρ e w hT.2 S;exact hw D0 w0 ρ' e w hT hF S'
def q4C [NL] {a b:Code} (hw:∀ K:(Nat->PV)->Hp->Prop,(∀ s h,AW P Tb J n b Q s h->K s h)->AW P Tb J n a (thA K Q) s h):AW P Tb J n (.seq a b) Q s h:=λD0 w0 ρ e w hT hF S=>by
 refine qpa (q5e (λx e' w' hx=>?_) (hw _ (λ_ _ h=>h) D0 w0 ρ e w hT hF S));obtain ⟨s',h',ρ',S',q⟩:=hx;cases x
 case normal=>exact q D0 w0 ρ' e' w' hT hF S'
 all_goals exact ⟨s',h',ρ',S',q⟩
def qgL [NL] {c:Operand} {a b:Code} {t:Bool} (hc:pe s c=.vl (.bool t)) (ha:t=true->AW P Tb J n a Q s h) (hb:t=false->AW P Tb J n b Q s h):AW P Tb J n (.cond c a b) Q s h:=λD0 w0 ρ e w hT hF S=>by
 have:=S.pex c;rw [hc] at this;unfold Rd at this;exact q83 this (λht=>ha ht D0 w0 ρ e w hT hF S) (λht=>hb ht D0 w0 ρ e w hT hF S)
def A_u [NL] {c:Operand} {a b:Code} {k:Nat} (hc:pe s c=.fm (fNil k)) (ha:k=0->AW P Tb J n a Q s h) (hb:AW P Tb J n b Q s h):AW P Tb J n (.cond c a b) Q s h:=λD0 w0 ρ e w hT hF S=>by
 have:=S.pex c;rw [hc] at this;unfold Rd at this;obtain ⟨t,h1,h2⟩:=this;exact q83 h1 (λht=>ha (h2 ht) D0 w0 ρ e w hT hF S) (λ_=>hb D0 w0 ρ e w hT hF S)
def qjN [NL] {id:Nat} {c:Code} (hw:AW P Tb J n c (inA id Q) s h):AW P Tb J n (.block id c) Q s h:=λD0 w0 ρ e w hT hF S=>by
 refine qpb (q5e (λx e' w' hx=>?_) (hw D0 w0 ρ e w hT hF S));obtain ⟨s',h',ρ',S',q⟩:=hx;cases x
 case exit id' =>
  simp only [inA] at q;simp only [inB]
  split
  .rename_i hid; rw [if_pos hid] at q; exact ⟨s',h',ρ',S',q⟩
  .rename_i hid; rw [if_neg hid] at q; exact ⟨s',h',ρ',S',q⟩
 all_goals exact ⟨s',h',ρ',S',q⟩
def qpo [NL] (hq:Q .normal s h):AW P Tb J n .skip Q s h:=λ_ _ ρ _ _ _ _ S=>qbZ ⟨s,h,ρ,S,hq⟩
def qpp [NL] {id:Nat} (hq:Q (.exit id) s h):AW P Tb J n (.exit id) Q s h:=λ_ _ ρ _ _ _ _ S=>qvz ⟨s,h,ρ,S,hq⟩
def qxF [NL] (hq:Q .ret s h):AW P Tb J n .ret Q s h:=λ_ _ ρ _ _ _ _ S=>qjF ⟨s,h,ρ,S,hq⟩
def qgM [NL] {ops:List Oper} {K:(Nat->PV)->Hp->List FP->Prop} {D0:Nat->Prop} {w0:Base} (hT:∀ w,Kp w0.F w0.w w->Tb w) (hF:Fr D0 w0.w) {K':Env->World->Prop}:∀ (l:List Oper) (s:Nat->PV) (h:Hp) (acc:List FP) (ρ:Nat->Option Nat) (e:Env) (w:World),(∀ s h acc ρ e w,Sat D0 w0 s h ρ e w->K s h acc->K' e w)->AL P Tb ops K l s h acc->Sat D0 w0 s h ρ e w->WL P ops.toArray K' l e w
 | [],s,h,acc,ρ,e,w,hk,hal,S=>hk s h acc ρ e w S hal
 | o :: l,s,h,acc,ρ,e,w,hk,hal,S=>by
  obtain ⟨x,h',fp,h1,h2⟩:=hal;have:=q3A (q9S S (hT _ S.ext) hF h1);exact q9o (λv w' ⟨ρ',S'⟩=>qgM hT hF l _ _ _ ρ' _ _ hk h2 S') this
def qlX [NL] {id:Nat} {l:List Oper} (hw:∀ K:(Nat->PV)->Hp->Prop,(∀ s h,Q .normal s h->K s h)->AL P Tb l (λs h _=>K s h) l s h []):AW P Tb J n (.region id l.toArray false) Q s h:=λD0 w0 ρ e w hT hF S=>by
 have h1:=hw _ λ_ _ h=>h;refine q3x ?_;exact qgM (K':=λe' w'=>∃ s' h' ρ',Sat D0 w0 s' h' ρ' e' w'/\Q .normal s' h') hT.1 hF l s h [] ρ e w (λs h _ ρ e w S hq=>⟨s,h,ρ,S,hq⟩) h1 S
def Sat.drew [NL] {D0:Nat->Prop} {w0:Base} {ρ:Nat->Option Nat} {e:Env} {w:World} (S:Sat D0 w0 s h ρ e w) (k:Nat):Sat D0 w0 s h ρ e { w with drawn:=k }:=S.extend (Kp.drew w k)
def qdK [NL] {o:Oper} {x:PV} {fp:FP} (hs:Stp P Tb o s h x h' fp):(cls o=0->fp=([],[]))/\(cls o=1->fp.2=[])/\(cls o=2->fp.1=[]/\(fp.2=[]\/∃ d,o.dst=some d/\fp.2=[d])):=by
 obtain ⟨dst,op,ty,pos,af,gd⟩:=o;unfold Stp at hs;unfold cls;cases op <;> simp only at hs ⊢ <;> (try (exact ⟨λ_=>hs.2.2,λh=>(by cases h),λh=>(by cases h)⟩))
 case load t a=>obtain ⟨r,h1,rfl,rfl,rfl⟩:=hs; exact ⟨λh=>(by cases h),λ_=>rfl,λh=>(by cases h)⟩
 case alloc t=>obtain ⟨d,b,rfl,h1,h3,rfl,rfl,rfl⟩:=hs; exact ⟨λh=>(by cases h),λh=>(by cases h),λ_=>⟨rfl,.inr ⟨d,rfl,rfl⟩⟩⟩
 case box t v=>obtain ⟨d,k,rfl,h1,h3,h4,rfl,rfl,rfl⟩:=hs; exact ⟨λh=>(by cases h),λh=>(by cases h),λ_=>⟨rfl,.inr ⟨d,rfl,rfl⟩⟩⟩
 case buildSlice t len ps=>obtain ⟨d,E,k,bytes,rfl,h1,h3,h4,h5,h6,rfl,rfl,rfl⟩:=hs; exact ⟨λh=>(by cases h),λh=>(by cases h),λ_=>⟨rfl,.inr ⟨d,rfl,rfl⟩⟩⟩
 case makeSlice t l c=>obtain ⟨d,E,k,bytes,z,kl,kc,n,m,rfl,h1,h3,h4,h5,h8,h6,h7,rfl,rfl,rfl⟩:=hs; exact ⟨λh=>(by cases h),λh=>(by cases h),λ_=>⟨rfl,.inr ⟨d,rfl,rfl⟩⟩⟩
 case store t a v=>exact ⟨λh=>(by cases h),λh=>(by cases h),λh=>(by cases h)⟩
 case mapUpdate t m i v=>exact ⟨λh=>(by cases h),λh=>(by cases h),λh=>(by cases h)⟩
 case makeMap t r=>obtain ⟨d,rfl,rfl,h1,rfl,rfl,rfl⟩:=hs; exact ⟨λh=>(by cases h),λh=>(by cases h),λ_=>⟨rfl,.inr ⟨d,rfl,rfl⟩⟩⟩
 case lookup t m i ok=>obtain ⟨id,T,l,a,k,z,h1,h3,h4,h5,rfl,rfl,rfl⟩:=hs; exact ⟨λh=>(by cases h),λ_=>rfl,λh=>(by cases h)⟩
 case call c =>
  obtain ⟨callee,args,tys⟩:=c;simp only at hs ⊢;cases callee
  case builtin b=>cases b <;> simp only at hs ⊢ <;> first | exact ⟨λ_=>hs.2.2,λh=>(by cases h),λh=>(by cases h)⟩ | exact ⟨λh=>(by cases h),λh=>(by cases h),λh=>(by cases h)⟩
  case value f =>
   cases f <;> simp only at hs ⊢
   case func f=>obtain ⟨al,ids,h1,h3,h4,rfl,rfl⟩:=hs; exact ⟨λh=>(by cases h),λ_=>rfl,λh=>(by cases h)⟩
   case tmp t=>obtain ⟨f,ys,al,ids,g0,h1,h3,h4,rfl,rfl⟩:=hs; exact ⟨λh=>(by cases h),λ_=>rfl,λh=>(by cases h)⟩
   all_goals exact ⟨λ_=>hs.2.2,λh=>(by cases h),λh=>(by cases h)⟩
  case invoke r m=>exact ⟨λ_=>hs.2.2,λh=>(by cases h),λh=>(by cases h)⟩
def qkk [NL] {o:Oper} {x:PV} {fp:FP} {ops:List Oper} (hs:q7Q P Tb ops o s h x h' fp):(cls o=0->fp=([],[]))/\(cls o=1->fp.2=[])/\(cls o=2->fp.1=[]/\(fp.2=[]\/∃ d,o.dst=some d/\fp.2=[d])):=by
 unfold q7Q at hs
 split at hs
 .exact qdK hs
 .obtain ⟨c,_,hs⟩:=hs
  split at hs
  .exact qdK hs
  .obtain ⟨_,_,rfl⟩:=hs;exact ⟨λ_=>rfl,λ_=>rfl,λ_=>⟨rfl,.inl rfl⟩⟩
def qa3:∀ {l:List (Nat × Nat)} {a b:Nat},qsV l a b=true->(a,b) ∈ l
 | p :: l,a,b,hp=>by
  simp only [qsV,zY,zV] at hp
  rcases hp with ⟨h1,h2⟩ | h
  .rw [<- zI h1,<- zI h2]; exact zR
  .exact zJ _ (qa3 h)
 | [],_,_,hp=>by cases hp
def qgK [NL] {id:Nat} {l:List Oper} (prs:List (Nat × Nat)) (hm:P.follows .mixedOrders=true) (hok:q93 l (qkO [] l) prs=true) (hw:∀ K:(Nat->PV)->Hp->Prop,(∀ s h,Q .normal s h->K s h)->AL P Tb l (λs h acc=>chk prs acc.reverse/\K s h) l s h []):AW P Tb J n (.region id l.toArray true) Q s h:=λD0 w0 ρ e w hT hF S=>by
 have h1:=hw _ λ_ _ h=>h;obtain ⟨X,H,W,hG,hck,hq⟩:=qqk l s h [] h1;have hD:=Drw.of hok;rw [xD,List.reverse_reverse] at hck;intro hd a hr;have hd':l.all (q8Q n)=true:=hd;refine wp_mono (Q:=λx a' w'=>x=.normal/\qjI n (.region id l.toArray true) e (λx e' w'=>∃ s' h' ρ',Sat D0 w0 s' h' ρ' e' w'/\Q x s' h') .normal a' w') (wp_region_any hm ?_) λx a' w' hq=>by rw [hq.1]; exact hq.2
 have hdyn:∀ (i j:Nat) (o p:Oper),l[i]?=some o->l[j]?=some p->j < i->((qkO [] l).getD i 0).testBit j=true\/dj (W j) (W i):=λi j o p ho hp hji=>by
  rcases hD.par i j o p ho hp hji with h | h | h
  .exact .inl h
  .refine .inr ?_;have c1:=qkk (hG j p hp);have c2:=qkk (hG i o ho);unfold harm at h;simp only [zY,zV] at h
   rcases h with ((h | h) | h) | h
   .rw [c1.1 (zI h)]; exact ⟨λx hx=>(by cases hx),λx _ hx=>(by cases hx)⟩
   .rw [c2.1 (zI h)]; exact ⟨λx _=>⟨λhx=>(by cases hx),λhx=>(by cases hx)⟩,λx hx=>(by cases hx)⟩
   .have e1:=c1.2.1 (zI h.1);have e2:=c2.2.1 (zI h.2);exact ⟨λx hx=>(by rw [e1] at hx; cases hx),λx hx=>(by rw [e2] at hx; cases hx)⟩
   .obtain ⟨e1,e2⟩:=c1.2.2 (zI h.1);obtain ⟨e3,e4⟩:=c2.2.2 (zI h.2);refine ⟨λx hx=>⟨by rw [e3]; simp,λhx2=>?_⟩,λx _=>by rw [e1]; simp⟩
    rcases e2 with e2 | ⟨d,hd1,e2⟩
    .rw [e2] at hx; cases hx
    .rcases e4 with e4 | ⟨d',hd2,e4⟩
     .rw [e4] at hx2; cases hx2
     .rw [e2] at hx; rw [e4] at hx2;simp at hx hx2;subst hx;subst hx2;have:=hD.dst i j o p x ho hp hd2 hd1;omega
  .have:=hck (j,i) (qa3 h);have g:∀ k,k < l.length->((List.range l.length).map W).getD k ([],[])=W k:=λk hk=>by simp [uA,hk]
   simp only [g j (zC.1 hp).1,g i (zC.1 ho).1] at this;exact .inr this
 have:=qoO (P:=P) (Tb:=Tb) (n:=n) (e0:=e) (Q:=λx a' w'=>x=.normal/\qjI n (.region id l.toArray true) e (λx e' w'=>∃ s' h' ρ',Sat D0 w0 s' h' ρ' e' w'/\Q x s' h') .normal a' w') hD hd' hT.1 hF hG hdyn (λa' e' w' ρ' r' S' ho=>⟨rfl,e',r',ho,⟨_,_,ρ',S',hq⟩⟩) l.length (yX l.length false) a e { w with drawn:=w.drawn+1 } ρ ω σ (λk o x ho hl=>by
  simp only [Lo,zW,yH] at hl
  split at hl <;> cases hl) hr (λ_ _=>rfl) (by
  have e1:sS l X (Lo (yX l.length false)) s l.length=s:=by
   funext t
   exact q1O _ λk o _ _ hl=>by
    simp only [Lo,zW,yH] at hl
    split at hl <;> cases hl
  have e2:hS W H (Lo (yX l.length false)) h l.length=h:=by
   have:∀ m,hS W H (Lo (yX l.length false)) h m=h:=λm=>by
    induction m with
    | zero=>rfl
    | succ m ih =>
     rw [hS_s,if_neg,ih];simp only [Lo,zW,yH]
     split <;> simp
   exact this _
  rw [e1,e2];exact S.drew _)
 simpa using this
def qgJ [NL] {ι:Type} {c:Code} (Ss:ι->Nat->PV) (Hs:ι->Hp) (μ:ι->Nat) (i0:ι) (hl:Le J s h (Ss i0) (Hs i0))
  (round:∀ i,AW P Tb J n c (thA (λs' h'=>∃ j,Le J s' h' (Ss j) (Hs j)/\μ j < μ i) Q) (Ss i) (Hs i)):AW P Tb J n (.loop c) Q s h:=λD0 w0 ρ e w hT hF S=>by
 intro hd a hr;obtain ⟨ρ0,S0⟩:=hl _ _ _ _ _ hT.2 S;have main:∀ (m:Nat) (i:ι) (ρ:Nat->Option Nat) (e':Env) (w':World) (a':Act),μ i < m->Sat D0 w0 (Ss i) (Hs i) ρ e' w'->Rel n a' e'->(∀ t,wr t c=false->e' t=e t)->Code.rounds P c (qjI n (.loop c) e (λx e' w'=>∃ s' h' ρ',Sat D0 w0 s' h' ρ' e' w'/\Q x s' h')) m a' w':=by
  intro m
  induction m with
  | zero=>intro i _ _ _ _ hm; omega
  | succ m ih =>
   intro i ρ e' w' a' hm S' r' f';refine wp_mono (round i D0 w0 ρ e' w' hT hF S' hd a' r') ?_;rintro x a2 w2 ⟨e2,r2,f2,q2⟩;obtain ⟨s2,h2,ρ2,S2,q⟩:=q2;cases x
   case normal =>
    obtain ⟨j,hlj,hmj⟩:=q;obtain ⟨ρ3,S3⟩:=hlj _ _ _ _ _ hT.2 S2;exact ih j ρ3 e2 w2 a2 Oq S3 r2 λt ht=>(f2 t ht).trans (f' t ht)
   all_goals exact ⟨e2,r2,λt ht=>(f2 t ht).trans (f' t ht),s2,h2,ρ2,S2,q⟩
 exact wp_loop_rounds (μ i0+1) (main _ i0 ρ0 e w a Oq S0 hr λ_ _=>rfl)
end
def qgA [NL] {w:World} {D:Nat->Prop} {ρ:Nat->Option Nat} {h:Hp}:∀ {l vs:List Value},RdL w D (l.map .vl) ρ h vs->vs=l
 | [],vs,hr=>by unfold RdL at hr; exact hr
 | x :: l,vs,hr=>by
  rw [z6] at hr;unfold RdL at hr;obtain ⟨y,ys,rfl,h1,h2⟩:=hr;unfold Rd at h1;rw [h1,qgA h2]
inductive LeV (τ:Nat->Option Nat) (h h':Hp):PV->PV->Prop
 | un {x:PV}:LeV τ h h' x .un
 | cl {x:PV}:Cld x->LeV τ h h' x x
 | ow {i j:Nat} {k:Kd} {off n:Nat} {b:Bk}:τ i=some j->h' i=some b->LeV τ h h' (.ow j k off n) (.ow i k off n)
 | pt {i j a c:Nat} {b:Bk}:τ i=some j->h' i=some b->LeV τ h h' (.pt j a c) (.pt i a c)
 | mp {i j:Nat} {b:Bk}:τ i=some j->h' i=some b->LeV τ h h' (.mp j) (.mp i)
 | nilow {i:Nat} {k:Kd} {b:Bk}:τ i=none->h' i=some b->b.k=k->LeV τ h h' (.vl (.slice none 0 0)) (.ow i k 0 0)
 | nilsl {k:Kd}:LeV τ h h' (.vl (.slice none 0 0)) (.sl k [])
 | nilfm {G:Fam}:(∀ D w,In G D (.slice none 0 0) w)->LeV τ h h' (.vl (.slice none 0 0)) (.fm G)
 | agv {l:List Value} {G:Fam}:(∀ D w,In G D (.agg ⟨l⟩) w)->LeV τ h h' (.ag (l.map .vl)) (.fm G)
 | fz {j:Nat} {k:Kd} {off n:Nat} {b:Bk}:h j=some b->b.st=false->b.k=k->(∀ x ∈ b.xs,Cld x)->(∀ i,τ i=some j->h' i=none)->LeV τ h h' (.ow j k off n) (.sl k ((b.xs.drop off).take n))
 | fzg {j:Nat} {k:Kd} {off n:Nat} {b:Bk} {ys:List PV}:h j=some b->b.st=false->b.k=k->b.xs.length=ys.length->(∀ (i:Nat) (x y:PV),b.xs[i]?=some x->ys[i]?=some y->LeV τ h h' x y)->(∀ y ∈ ys,Cld y)->(∀ i,τ i=some j->h' i=none)->LeV τ h h' (.ow j k off n) (.sl k ((ys.drop off).take n))
 | pq {j i:Nat} {b:Bk} {u:Value}:h j=some b->b.st=false->b.k=none->b.xs[i]?=some (.vl u)->(∀ i,τ i=some j->h' i=none)->LeV τ h h' (.pt j i 0) (.qt none (.vl u))
 | pqg {j i:Nat} {b:Bk} {x y:PV}:h j=some b->b.st=false->0 < ksz b.k->b.xs[i]?=some x->LeV τ h h' x y->Cld y->(∀ i,τ i=some j->h' i=none)->LeV τ h h' (.pt j i 0) (.qt b.k y)
 | ag {l m:List PV}:l.length=m.length->(∀ (i:Nat) (x y:PV),l[i]?=some x->m[i]?=some y->LeV τ h h' x y)->LeV τ h h' (.ag l) (.ag m)
 | tu {l m:List PV}:l.length=m.length->(∀ (i:Nat) (x y:PV),l[i]?=some x->m[i]?=some y->LeV τ h h' x y)->LeV τ h h' (.tu l) (.tu m)
def LeL (τ:Nat->Option Nat) (h h':Hp) (l m:List PV):Prop:=l.length=m.length/\∀ (i:Nat) (x y:PV),l[i]?=some x->m[i]?=some y->LeV τ h h' x y
def LeB (τ:Nat->Option Nat) (h h':Hp) (i:Nat) (b':Bk):Prop :=
 match τ i with
 | some j=>∃ b,h j=some b/\b'.T=b.T/\b'.k=b.k/\(b'.st=false/\b.st=false)/\LeL τ h h' b.xs b'.xs
 | none=>b'.xs=[]
section
variable {P:Program} {Tb:World->Prop} {J:Nat->Prop} {n:Nat} {Q:SQ} {s s':Nat->PV} {h h':Hp} {τ:Nat->Option Nat}
def q4W [NL] (τ:Nat->Option Nat) (hb:∀ i b',h' i=some b'->LeB τ h h' i b') (hi:∀ i j k b c,h' i=some b->h' j=some c->τ i=some k->τ j=some k->i=j) (hs:∀ t,LeV τ h h' (s t) (s' t)) (hτ:∀ i,J i->5000<=i->i < 1000000->τ i=some i):Le J s h s' h':=λD0 w0 ρ e w hJ S=>by
 let ρ':Nat->Option Nat:=λi=>(τ i).bind ρ
 have hdd:∀ k,dm D0 ρ h k->dm D0 ρ' h' k:=λk hk=>⟨hk.1,λi b' hb' hr=>by
  have:=hb i b' hb';unfold LeB at this;cases ht:τ i with
  | none=>simp only [ρ',ht] at hr; cases hr
  | some j =>
   rw [ht] at this;obtain ⟨b,h1,_⟩:=this;simp only [ρ',ht,zE] at hr;exact hk.2 j b h1 hr⟩
 have key:∀ {x y:PV},LeV τ h h' x y->∀ {v:Value},Rd w (dm D0 ρ h) x ρ h v->Rd w (dm D0 ρ' h') y ρ' h' v:=λ{x y} hl=>by
  induction hl with
  | un=>intro v _; unfold Rd; trivial
  | cl hc=>intro v hr; exact ((q45 hc hr).sub λk _ hk=>hdd k hk).cl
  | @ow i j k off n b' ht hb' =>
   intro v hr;have:=hb i b' hb';unfold LeB at this;rw [ht] at this;obtain ⟨b,h1,_,h2,_,h3,_⟩:=this;unfold Rd at hr ⊢;obtain ⟨b2,A,c,r1,r2,r3,r4,r5,r6,r7,r8⟩:=hr;rw [h1] at r1; cases r1;have mv:∀ {A:Option Addr} {a m:Nat},AtO w (ρ j) A a m->AtO w (ρ' i) A a m:=λ⟨g,a1,a2,a3⟩=>⟨g,by simp only [ρ',ht,zE]; exact a1,a2,a3⟩;exact ⟨b',A,c,hb',by rw [h2,r2],r3,r4,r5,ω,r7.imp (λh=>h) mv,λh0=>(r8 h0).imp (λh=>h) mv⟩
  | @pt i j a c b' ht hb' =>
   intro v hr;have:=hb i b' hb';unfold LeB at this;rw [ht] at this;obtain ⟨b,h1,_,h2,_,h3,_⟩:=this;unfold Rd at hr ⊢;obtain ⟨b2,g,r1,r2,r3,r4⟩:=hr;rw [h1] at r1; cases r1;exact ⟨b',g,hb',by simp only [ρ',ht,zE]; exact r2,ω,by rw [h2]; exact r4⟩
  | @mp i j b' ht hb' =>
   intro v hr;have:=hb i b' hb';unfold LeB at this;rw [ht] at this;obtain ⟨b,h1,_,h2,_,h3,_⟩:=this;unfold Rd at hr ⊢;obtain ⟨b2,g,r1,r2,r3⟩:=hr;rw [h1] at r1; cases r1;exact ⟨b',g,hb',by simp only [ρ',ht,zE]; exact r2,r3⟩
  | @nilow i k b' ht hb' hk =>
   intro v hr;unfold Rd at hr ⊢;exact ⟨b',none,0,hb',hk,hr,zQ _,by simp [maxLen],ω,.inl rfl,λ_=>.inl ⟨rfl,rfl⟩⟩
  | nilsl =>
   intro v hr;unfold Rd at hr ⊢;exact ⟨none,0,0,[],hr,Row.nil _ _ _,rfl,by unfold RdL; rfl,λv hv=>by cases hv⟩
  | nilfm hG =>
   intro v hr;unfold Rd at hr ⊢;rw [hr];exact hG _ _
  | @agv l G hG =>
   intro v hr;unfold Rd at hr ⊢;obtain ⟨vs,rfl,hr⟩:=hr;rw [qgA hr];exact hG _ _
  | @pq j i b u hj hst hk hu hno =>
   intro v hr;unfold Rd at hr;obtain ⟨b2,g,r1,r2,r3,r4⟩:=hr;rw [hj] at r1; cases r1;obtain ⟨v',q1,q2,q3⟩:=(S.own j b g hj r2).2.unit (λhm=>by have:=hm.1; rw [hk] at this; cases this) hst hu;unfold Rd at q1;subst q1;rw [hk] at q2 q3 r4;unfold Rd;refine ⟨_,v',r4,⟨(S.own j b g hj r2).1.2,λi b' hb' hr'=>?_⟩,by unfold Rd; rfl,⟨q2,Nat.one_pos⟩,λj t ht=>by rw [q19]; exact q3 j t ht⟩;have h7:=hb i b' hb';unfold LeB at h7;cases ht:τ i with
   | none=>simp only [ρ',ht] at hr'; cases hr'
   | some j' =>
    rw [ht] at h7;obtain ⟨b2,e1,_,_,⟨_,e2⟩,_⟩:=h7;simp only [ρ',ht,zE] at hr'
    rcases S.inj j' j b2 b g e1 hj hst hr' r2 with e | e
    .subst e;have:=hno i ht;rw [hb'] at this; cases this
    .rw [e2] at e; cases e
  | @pqg j i b x y hj hst hk hu _ hcl hno ih =>
   intro v hr;unfold Rd at hr;obtain ⟨b2,g,r1,r2,r3,r4⟩:=hr;rw [hj] at r1; cases r1;obtain ⟨v',q1,q2,q3⟩:=(S.own j b g hj r2).2.unit (λhm=>by have:=hm.1; rw [this] at hk; exact absurd hk (by simp [ksz])) hst hu;unfold Rd;refine ⟨_,v',r4,⟨(S.own j b g hj r2).1.2,λi b' hb' hr'=>?_⟩,q45 hcl (ih q1),⟨q2,hk⟩,λj t ht=>by rw [q19]; exact q3 j t ht⟩;have h7:=hb i b' hb';unfold LeB at h7;cases ht:τ i with
   | none=>simp only [ρ',ht] at hr'; cases hr'
   | some j' =>
    rw [ht] at h7;obtain ⟨b2,e1,_,_,⟨_,e2⟩,_⟩:=h7;simp only [ρ',ht,zE] at hr'
    rcases S.inj j' j b2 b g e1 hj hst hr' r2 with e | e
    .subst e;have:=hno i ht;rw [hb'] at this; cases this
    .rw [e2] at e; cases e
  | @fz j k off n b hj hst hk hcl hno =>
   intro v hr;subst hk;obtain ⟨A,c,vs,rfl,q1,q2,q3⟩:=S.row hj hst hr;have hb0:off+n<=b.xs.length:=by
    unfold Rd at hr;obtain ⟨b',_,_,h1,_,_,_,_,h5,_⟩:=hr;rw [hj] at h1; cases h1; exact h5
   unfold Rd;refine ⟨A,n,c,vs,rfl,q1.sub λk _ hk=>⟨(S.own j b k hj hk.1).1.2,λi b' hb' hr'=>?_⟩,by simp; omega,?_,q3⟩
   .have h7:=hb i b' hb';unfold LeB at h7;cases ht:τ i with
    | none=>simp only [ρ',ht] at hr'; cases hr'
    | some j' =>
     rw [ht] at h7;obtain ⟨b2,e1,_,_,⟨_,e2⟩,_⟩:=h7;simp only [ρ',ht,zE] at hr'
     rcases S.inj j' j b2 b k e1 hj hst hr' hk.1 with e | e
     .subst e;have:=hno i ht;rw [hb'] at this; cases this
     .rw [e2] at e; cases e
   .obtain ⟨q4,q5⟩:=RdL.iff.1 q2;exact RdL.iff.2 ⟨q4,λi z v hz hv=>(q45 (hcl z (zN (zS (zF hz)))) (q5 i z v hz hv)).sub λk _ hk=>hdd k hk⟩
  | @fzg j k off n b ys hj hst hk hly _ hcl hno ih =>
   intro v hr;subst hk;obtain ⟨A,c,vs,rfl,q1,q2,q3⟩:=S.row hj hst hr;have hb0:off+n<=b.xs.length:=by
    unfold Rd at hr;obtain ⟨b',_,_,h1,_,_,_,_,h5,_⟩:=hr;rw [hj] at h1; cases h1; exact h5
   unfold Rd;refine ⟨A,n,c,vs,rfl,q1.sub λk _ hk=>⟨(S.own j b k hj hk.1).1.2,λi b' hb' hr'=>?_⟩,by simp; omega,?_,q3⟩
   .have h7:=hb i b' hb';unfold LeB at h7;cases ht:τ i with
    | none=>simp only [ρ',ht] at hr'; cases hr'
    | some j' =>
     rw [ht] at h7;obtain ⟨b2,e1,_,_,⟨_,e2⟩,_⟩:=h7;simp only [ρ',ht,zE] at hr'
     rcases S.inj j' j b2 b k e1 hj hst hr' hk.1 with e | e
     .subst e;have:=hno i ht;rw [hb'] at this; cases this
     .rw [e2] at e; cases e
   .obtain ⟨q4,q5⟩:=RdL.iff.1 q2;refine RdL.iff.2 ⟨by rw [<- q4]; simp [hly],λi z v hz hv=>?_⟩;have hin:i < n:=by
     rcases uF i n with h | h
     .exact h
     .rw [v7 (by simp; omega)] at hz; cases hz
    have hz2:ys[off+i]?=some z:=by rw [zK,if_pos hin,v8] at hz; exact hz
    obtain ⟨x,hx⟩:∃ x,b.xs[off+i]?=some x:=⟨_,zD Oq⟩;have hx2:((b.xs.drop off).take n)[i]?=some x:=by rw [zK,if_pos hin,v8]; exact hx
    exact q45 (hcl z (zF hz2)) (ih (off+i) x z hx hz2 (q5 i x v hx2 hv))
  | ag hlen _ ih =>
   intro v hr;unfold Rd at hr ⊢;obtain ⟨vs,r1,r2⟩:=hr;obtain ⟨r3,r4⟩:=RdL.iff.1 r2;refine ⟨vs,r1,RdL.iff.2 ⟨ω,λi y v hy hv=>?_⟩⟩;have hlt:=(zC.1 hy).1;have hx:=zD (show i < _ by rw [hlen]; exact hlt);exact ih i _ y hx hy (r4 i _ v hx hv)
  | tu hlen _ ih =>
   intro v hr;unfold Rd at hr ⊢;obtain ⟨vs,r1,r2⟩:=hr;obtain ⟨r3,r4⟩:=RdL.iff.1 r2;refine ⟨vs,r1,RdL.iff.2 ⟨ω,λi y v hy hv=>?_⟩⟩;have hlt:=(zC.1 hy).1;have hx:=zD (show i < _ by rw [hlen]; exact hlt);exact ih i _ y hx hy (r4 i _ v hx hv)
 refine ⟨ρ',λi j b c g bi bj hst ri rj=>?_,λi b' g bi ri=>?_,λi b' bi ri=>?_,λt=>key (hs t) (S.rd t),S.ext,S.fr,S.imp,λi g hj=>by simp only [ρ',hτ i (hJ i g hj) (w0.lo i g hj).1 (w0.lo i g hj).2,zE]; exact S.pin i g hj⟩
 .have h1:=hb i b bi;have h2:=hb j c bj;unfold LeB at h1 h2;cases t1:τ i with
  | none=>simp only [ρ',t1] at ri; cases ri
  | some i' =>
   cases t2:τ j with
   | none=>simp only [ρ',t2] at rj; cases rj
   | some j' =>
    rw [t1] at h1;rw [t2] at h2;obtain ⟨b1,q1,_,_,⟨q2,q2'⟩,_⟩:=h1;obtain ⟨b2,q3,_,_,⟨q4,q4'⟩,_⟩:=h2;simp only [ρ',t1,t2,zE] at ri rj
    rcases S.inj i' j' b1 b2 g q1 q3 q4' ri rj with h | h
    .subst h; exact .inl (hi i j i' b c bi bj t1 t2)
    .rw [q2'] at h; cases h
 .have h1:=hb i b' bi;unfold LeB at h1;cases t1:τ i with
  | none=>simp only [ρ',t1] at ri; cases ri
  | some j =>
   rw [t1] at h1;obtain ⟨b,q1,q2,q3,q4,q5,q6⟩:=h1;simp only [ρ',t1,zE] at ri;obtain ⟨a1,⟨m1,m2,es,cl,ps,m3,m4,m5,m6⟩ | ⟨cs,c1,c2,c3⟩⟩:=S.own j b g q1 ri
   .obtain ⟨r3,r4⟩:=RdL.iff.1 m5;refine ⟨a1,.inl ⟨q3.trans m1,q4.1,es,cl,ps,m3,m4,RdL.iff.2 ⟨ω,λm y v hy hv=>?_⟩,m6⟩⟩;have hlt:=(zC.1 hy).1;have hx:=zD (show m < b.xs.length by omega);exact key (q6 m _ y hx hy) (r4 m _ v hx hv)
   refine ⟨a1,.inr ⟨cs,by rw [q2]; exact c1,c2,λhst=>?_⟩⟩;obtain ⟨vs,v1,v2,v3⟩:=c3 q4.2;obtain ⟨r3,r4⟩:=RdL.iff.1 v2;refine ⟨vs,by rw [<- q5,q3]; exact v1,RdL.iff.2 ⟨ω,λm y v hy hv=>?_⟩,by rw [q3]; exact v3⟩;have hlt:=(zC.1 hy).1;have hx:=zD (show m < b.xs.length by omega);exact key (q6 m _ y hx hy) (r4 m _ v hx hv)
 .have h1:=hb i b' bi;unfold LeB at h1;cases t1:τ i with
  | none=>rw [t1] at h1; exact h1
  | some j =>
   rw [t1] at h1;obtain ⟨b,q1,q2,q3,q4,q5,q6⟩:=h1;simp only [ρ',t1,zE] at ri;have:=S.vir j b q1 ri;rw [this] at q5;exact zM q5.symm
end
def lkP:List (Nat × PV)->Nat->Option PV
 | [],_=>none
 | p :: l,t=>if t=p.1 then some p.2 else lkP l t
def lkB:List (Nat × Bk)->Nat->Option Bk
 | [],_=>none
 | p :: l,t=>if t=p.1 then some p.2 else lkB l t
def kin:List Nat->Nat->Bool
 | [],_=>false
 | a :: l,t=>if t=a then true else kin l t
def stK (xs:List (Nat × PV)) (ks:List Nat) (s:Nat->PV) (t:Nat):PV:=match lkP xs t with | some x=>x | none=>if kin ks t then s t else .un
def hpK (bs:List (Nat × Bk)) (kb:List Nat) (h:Hp) (i:Nat):Option Bk:=match lkB bs i with | some b=>some b | none=>if kin kb i then h i else none
def q0n:List (Nat × Option Nat)->Nat->Option Nat
 | [],i=>some i
 | p :: l,i=>if i=p.1 then p.2 else q0n l i
def qqw:List (Nat × Option Nat)->Bool
 | []=>true
 | p :: l=>(Nat.blt p.1 5000 || Nat.ble 1000000 p.1) && qqw l
def q8o:∀ {l:List (Nat × Option Nat)},qqw l=true->∀ i,5000<=i->i < 1000000->q0n l i=some i
 | [],_,_,_,_=>rfl
 | p :: l,ht,i,hi,hi2=>by
  simp only [qqw,zV,zY] at ht;have h1:p.1 < 5000\/1000000<=p.1:=ht.1.imp (λh=>by simp [Nat.blt] at h; omega) (λh=>Nat.le_of_ble_eq_true h);unfold q0n;rw [if_neg ω];exact q8o ht.2 i hi hi2
def q4l (τ:Nat->Option Nat) (h h':Hp) (s:Nat->PV):List (Nat × PV)->Prop
 | []=>True
 | p :: l=>LeV τ h h' (s p.1) p.2/\q4l τ h h' s l
def LeSk (τ:Nat->Option Nat) (h h':Hp) (s s0:Nat->PV):List Nat->Prop
 | []=>True
 | t :: l=>LeV τ h h' (s t) (s0 t)/\LeSk τ h h' s s0 l
def qcR (τ:Nat->Option Nat) (h h':Hp):List (Nat × Bk)->Prop
 | []=>True
 | p :: l=>LeB τ h h' p.1 p.2/\qcR τ h h' l
def LeBk (τ:Nat->Option Nat) (h h' h0:Hp):List Nat->Prop
 | []=>True
 | i :: l=>(∀ b,h0 i=some b->LeB τ h h' i b)/\LeBk τ h h' h0 l
def dom1 (bs:List (Nat × Bk)) (kb:List Nat):List Nat:=bs.map (·.1) ++ kb
def q76 (τ:Nat->Option Nat):List Nat->Prop
 | []=>True
 | i :: l=>(∀ j ∈ l,i=j\/τ i=none\/τ i≠τ j)/\q76 τ l
section
variable {P:Program} {Tb:World->Prop} {J:Nat->Prop} {n:Nat} {Q:SQ} {s s' s0:Nat->PV} {h h' hb0:Hp} {τ:Nat->Option Nat} {xs:List (Nat × PV)} {ks kb:List Nat} {bs:List (Nat × Bk)}
def q30:∀ {l:List Nat},q76 τ l->∀ i ∈ l,∀ j ∈ l,i=j\/τ i=none\/τ i≠τ j
 | a :: l,ht,i,hi,j,hj=>by
  rcases v9.1 hi with h1 | h1 <;> rcases v9.1 hj with h2 | h2
  .exact .inl (h1.trans h2.symm)
  .rw [h1]; exact ht.1 j h2
  .rw [h2]
   rcases ht.1 i h1 with h | h | h
   .exact .inl h.symm
   .by_cases h2:τ i=none
    .exact .inr (.inl h2)
    .exact .inr (.inr (by rw [h]; exact h2))
   .exact .inr (.inr (λe=>h e.symm))
  .exact q30 ht.2 i h1 j h2
def stV:List (Nat × PV)->Nat->PV
 | [],_=>.un
 | p :: l,t=>if t=p.1 then p.2 else stV l t
def stM:List (Nat × PV)->List (Nat × PV)->Nat->PV
 | [],kv,t=>stV kv t
 | p :: l,kv,t=>if t=p.1 then p.2 else stM l kv t
def hpV:List (Nat × Option Bk)->Hp
 | [],_=>none
 | p :: l,i=>if i=p.1 then p.2 else hpV l i
def hpM:List (Nat × Bk)->List (Nat × Option Bk)->Hp
 | [],kb,i=>hpV kb i
 | p :: l,kb,i=>if i=p.1 then some p.2 else hpM l kb i
def q8d (τ:Nat->Option Nat) (h h':Hp):List (Nat × Option Bk)->Prop
 | []=>True
 | p :: l=>(∀ b,p.2=some b->LeB τ h h' p.1 b)/\q8d τ h h' l
def qlO:∀ {kv:List (Nat × PV)},q4l τ h h' s kv->∀ t,LeV τ h h' (s t) (stV kv t)
 | [],_,_=>.un
 | p :: l,hl,t=>by
  unfold stV
  split
  .rename_i ht; subst ht; exact hl.1
  .exact qlO hl.2 t
def q6R {kv:List (Nat × PV)} (h2:q4l τ h h' s kv):∀ {xs:List (Nat × PV)},q4l τ h h' s xs->∀ t,LeV τ h h' (s t) (stM xs kv t)
 | [],_,t=>qlO h2 t
 | p :: l,hl,t=>by
  unfold stM
  split
  .rename_i ht; subst ht; exact hl.1
  .exact q6R h2 hl.2 t
def qb0 {h2:Hp}:∀ {kb:List (Nat × Option Bk)},q8d τ h h2 kb->∀ i b,hpV kb i=some b->LeB τ h h2 i b/\i ∈ kb.map (·.1)
 | [],_,_,_,hb=>by cases hb
 | p :: l,hl,i,b,hb=>by
  unfold hpV at hb
  split at hb
  .rename_i hi; subst hi; exact ⟨hl.1 b hb,zR⟩
  .have:=qb0 hl.2 i b hb; exact ⟨this.1,zJ _ this.2⟩
def q3z {h2:Hp} {kb:List (Nat × Option Bk)} (hk:q8d τ h h2 kb):∀ {bs:List (Nat × Bk)},qcR τ h h2 bs->∀ i b,hpM bs kb i=some b->LeB τ h h2 i b/\i ∈ bs.map (·.1) ++ kb.map (·.1)
 | [],_,i,b,hb=>qb0 hk i b hb
 | p :: l,hl,i,b,hb=>by
  unfold hpM at hb
  split at hb
  .rename_i hi; subst hi; cases hb; exact ⟨hl.1,zR⟩
  .have:=q3z hk hl.2 i b hb; exact ⟨this.1,zJ _ this.2⟩
def LeM [NL] (l:List (Nat × Option Nat)) (hl:qqw l=true) {τ:Nat->Option Nat} (hlt:q0n l=τ) {kv:List (Nat × PV)} {kb:List (Nat × Option Bk)} (hh:q4l τ h (hpM bs kb) s xs/\q4l τ h (hpM bs kb) s kv/\qcR τ h (hpM bs kb) bs/\q8d τ h (hpM bs kb) kb/\q76 τ (bs.map (·.1) ++ kb.map (·.1))):Le J s h (stM xs kv) (hpM bs kb):=by
 obtain ⟨h1,h2,h3,h4,h5⟩:=hh;refine q4W τ (λi b hb=>(q3z h4 h3 i b hb).1) (λi j k b c hi hj ti tj=>?_) (λt=>q6R h2 h1 t) (by rw [<- hlt]; exact λi _=>q8o hl i)
 rcases q30 h5 i (q3z h4 h3 i b hi).2 j (q3z h4 h3 j c hj).2 with h | h | h
 .exact h
 .rw [ti] at h; cases h
 .rw [ti,tj] at h; exact absurd rfl h
def q0B [NL] {ι:Type} {c:Code} (I:ι->Prop) (ks kb:List Nat) {kv:List (Nat × PV)} {kbv:List (Nat × Option Bk)} (hk:(ks.map λt=>(t,s t))=kv) (hb:(kb.map λi=>(i,h i))=kbv) (xs:ι->List (Nat × PV)) (bs:ι->List (Nat × Bk)) (μ:ι->Nat) (i0:ι) (hI:I i0) (hl:Le J s h (stM (xs i0) kv) (hpM (bs i0) kbv))
  (round:∀ i,I i->AW P Tb J n c (thA (λs' h'=>∃ j,I j/\μ j < μ i/\Le J s' h' (stM (xs j) kv) (hpM (bs j) kbv)) Q) (stM (xs i) kv) (hpM (bs i) kbv)):AW P Tb J n (.loop c) Q s h :=
 qgJ (ι:={i:ι // I i}) (λi=>stM (xs i.1) kv) (λi=>hpM (bs i.1) kbv) (λi=>μ i.1) ⟨i0,hI⟩ hl λi=>by
  intro D0 w0 ρ e w hT hF S;refine q5e (λx e' w' hx=>?_) (round i.1 i.2 D0 w0 ρ e w hT hF S);obtain ⟨s',h',ρ',S',q⟩:=hx;refine ⟨s',h',ρ',S',?_⟩;cases x
  case normal=>obtain ⟨j,h1,h2,h3⟩:=q; exact ⟨⟨j,h1⟩,h3,h2⟩
  all_goals exact q
def enP (l:List PV) (i:Nat):PV:=l.getD i .un
def rsP (P:Program) (h:Hp) (s:Nat->PV):ResultVar->Option PV
 | .tmp t=>some (s t)
 | .cell a t=>(ldP h (q09 P t) (s a)).map (·.1)
def rsL (P:Program) (h:Hp) (s:Nat->PV):List ResultVar->Option (List PV)
 | []=>some []
 | r :: l=>(rsP P h s r).bind λx=>(rsL P h s l).map λy=>x :: y
def mkV:List Value->Value
 | [x]=>x
 | l=>.tuple ⟨l⟩
def mkR:List PV->PV
 | [x]=>x
 | l=>.tu l
def retA (P:Program) (fn:Func) (r:PV):SQ:=λx s h=>(x=.ret\/x=.normal)/\fn.results.toList.length<=4/\∃ l al ids,rsL P h s fn.results.toList=some l/\q2d h l=some (al,ids)/\LeV (λ_=>none) h0 h0 (mkR al) r
end
section
variable {P:Program} {Tb:World->Prop} {J:Nat->Prop} {n:Nat} {s:Nat->PV} {h:Hp} {D0:Nat->Prop} {w0:Base} {w:World} {ρ:Nat->Option Nat} {e:Env}
def qsF {fn:Func} {R:Ending->World->Prop} {r s q t:ResultVar} {v u x y:Value} (h:fn.results=#[r,s,q,t]) (a0:q89 P w e r=some v) (a1:q89 P w e s=some u) (a2:q89 P w e q=some x) (a3:q89 P w e t=some y) (hR:R (.returned (.tuple #[v,u,x,y])) w):qgN P fn R .ret e w:=by
 have b0:=q1Y a0;have b1:=q1Y a1;have b2:=q1Y a2;have b3:=q1Y a3;exact ⟨.tuple #[v,u,x,y],by simp [qgw,h,b0,b1,b2,b3],hR⟩
def qm5 [NL] (S:Sat D0 w0 s h ρ e w) {r:ResultVar} {x:PV} (hr:rsP P h s r=some x):∃ v,q89 P w e r=some v/\Rd w (dm D0 ρ h) x ρ h v:=by
 cases r with
 | tmp t=>unfold rsP at hr; cases hr; exact ⟨e t,rfl,S.rd t⟩
 | cell a t =>
  unfold rsP at hr;obtain ⟨y,hy,rfl⟩:=zB.1 hr;obtain ⟨v,hv,hr⟩:=qeL S (a:=.tmp a) hy;refine ⟨v,?_,hr⟩;simp only [ev] at hv;unfold q89;unfold ldV at hv
  split at hv
  .rename_i p hp;simp only [hp];cases hk:q09 P t with
   | none=>rw [hk] at hv; cases hv
   | some o=>cases o <;> (rw [hk] at hv; exact hv)
  .cases hv
def qwM [NL] {x y:PV} (hl:LeV (λ_=>none) h0 h0 x y) {D:Nat->Prop}:∀ {v:Value},Rd w D x (λ_=>none) h0 v->Rd w D y (λ_=>none) h0 v:=by
 induction hl with
 | un=>intro v _; unfold Rd; trivial
 | cl hc=>intro v hr; exact hr
 | ow ht _=>cases ht
 | pt ht _=>cases ht
 | mp ht _=>cases ht
 | nilow _ hb _=>cases hb
 | nilfm hG =>
  intro v hr;unfold Rd at hr ⊢;rw [hr];exact hG _ _
 | agv hG =>
  intro v hr;unfold Rd at hr ⊢;obtain ⟨vs,rfl,hr⟩:=hr;rw [qgA hr];exact hG _ _
 | fz hj _ _ _ _=>cases hj
 | pq hj _ _ _ _=>cases hj
 | pqg hj _ _ _ _ _ _ _=>cases hj
 | fzg hj _ _ _ _ _ _=>cases hj
 | nilsl =>
  intro v hr;unfold Rd at hr ⊢;exact ⟨none,0,0,[],hr,Row.nil _ _ _,rfl,by unfold RdL; rfl,λv hv=>by cases hv⟩
 | ag hlen _ ih =>
  intro v hr;unfold Rd at hr ⊢;obtain ⟨vs,r1,r2⟩:=hr;obtain ⟨r3,r4⟩:=RdL.iff.1 r2;refine ⟨vs,r1,RdL.iff.2 ⟨ω,λi y v hy hv=>?_⟩⟩;have hlt:=(zC.1 hy).1;have hx:=zD (show i < _ by rw [hlen]; exact hlt);exact ih i _ y hx hy (r4 i _ v hx hv)
 | tu hlen _ ih =>
  intro v hr;unfold Rd at hr ⊢;obtain ⟨vs,r1,r2⟩:=hr;obtain ⟨r3,r4⟩:=RdL.iff.1 r2;refine ⟨vs,r1,RdL.iff.2 ⟨ω,λi y v hy hv=>?_⟩⟩;have hlt:=(zC.1 hy).1;have hx:=zD (show i < _ by rw [hlen]; exact hlt);exact ih i _ y hx hy (r4 i _ v hx hv)
def qd5 [NL] (S:Sat D0 w0 s h ρ e w):∀ {rs:List ResultVar} {l:List PV},rsL P h s rs=some l->∃ vs,rs.map (q89 P w e)=vs.map some/\RdL w (dm D0 ρ h) l ρ h vs
 | [],l,hl=>by unfold rsL at hl; cases hl; exact ⟨[],rfl,by unfold RdL; rfl⟩
 | r :: rs,l,hl=>by
  unfold rsL at hl;obtain ⟨x,hx,hl⟩:=zA.1 hl;obtain ⟨y,hy,rfl⟩:=zB.1 hl;obtain ⟨v,h1,h2⟩:=qm5 S hx;obtain ⟨vs,h3,h4⟩:=qd5 S hy;exact ⟨v :: vs,by rw [z6,z6,h1,h3],by unfold RdL; exact ⟨v,vs,rfl,h2,h4⟩⟩
def AC_of [NL] {f:FuncId} {fn:Func} {c:Code} {al:List PV} {r:PV} (hc:q0J P f=true) (hf:P.funcs[f]?=some fn) (hb:fn.body=some c) (hn:fn.ntmps=n) (hd:(decide (al.length<=n) && q6x n c)=true) (hTE:∀ w w',Ext w w'->Tb w->Tb w')
  (hw:AW P Tb (λ_=>False) n c (retA P fn r) (enP al) h0):AC P Tb f al r:=by
 refine ⟨hc,λD w vs hT hF hR=>?_⟩;have hlen:=hR.len;refine q57 hf hb hn (by rw [y6,hlen]; exact hd) ?_;have hdm:dm D (λ_=>none) h0=D:=by
  funext k
  exact propext ⟨λh=>h.1,λh=>⟨h,λi b hi=>by cases hi⟩⟩
 have S:Sat D ⟨w,λk=>k < w.heap.size,λ_ _ _=>False,λ_ _=>False,λ_ h=>h,λ_ _ h=>h.elim⟩ (enP al) h0 (λ_=>none) (q4T vs) w:=by
  refine ⟨λi j b c g hi=>(by cases hi),λi b g hi=>(by cases hi),λi b hi=>(by cases hi),λt=>?_,Kp.refl _ _,hF,λ_ _ _ h=>h.elim,λ_ _ h=>h.elim⟩;rw [hdm];obtain ⟨h1,h2⟩:=RdL.iff.1 hR;unfold enP q4T;rw [uA,uA];cases ht:al[t]? with
  | none=>simp only [Option.getD_none]; unfold Rd; trivial
  | some x =>
   have hlt:=(zC.1 ht).1;have hv:=zD (l:=vs) (show t < vs.length by omega);rw [hv];exact h2 t x _ ht hv
 refine q5e (λx e' w' hx=>?_) (hw D ⟨w,λk=>k < w.heap.size,λ_ _ _=>False,λ_ _=>False,λ_ h=>h,λ_ _ h=>h.elim⟩ _ _ w ⟨λw' hx=>hTE _ _ (hx.mono λk hk _=>hk) hT,λ_ _ h=>h⟩ hF S);obtain ⟨s',h',ρ',S',hx,h4,l,cl,ids,h1,h2,h3⟩:=hx;have hxt:Ext w w':=S'.ext.mono λk hk _=>hk;obtain ⟨us,u1,u2⟩:=qd5 S' h1;have u3:=q99 S' h2 u2;have u4:RdL w' D cl (λ_=>none) h0 us:=u3.sub λk hk hq=>by
  rcases hq with hq | ⟨i,hi,hr⟩
  .exact hq.1
  .by_cases hs:∃ b,h' i=some b
   .obtain ⟨b,hb⟩:=hs;exact (S'.own i b k hb hr).1.2
   .rcases uF k w.heap.size with hlt | hge
    .exfalso
     have:∀ {l:List PV} {r:List PV × List Nat},q2d h' l=some r->∀ i ∈ r.2,∃ b,h' i=some b:=λ{l r} hc i hi=>q4y hc i hi;exact hs (this h2 i hi)
    .exact hF k hge
 have hcl:cl.length=us.length:=(RdL.iff.1 u4).1;have hres:Rd w' D r (λ_=>none) h0 (mkV us):=by
  refine qwM h3 ?_;clear u1 u2 u3 h2 h3 h1 hcl;cases cl with
  | nil=>unfold RdL at u4; subst u4; unfold mkR mkV Rd; exact ⟨[],rfl,by unfold RdL; rfl⟩
  | cons c cl =>
   cases cl with
   | nil =>
    unfold RdL at u4;obtain ⟨y,ys,rfl,e1,e2⟩:=u4;unfold RdL at e2;subst e2;exact e1
   | cons d cl =>
    have u5:=u4;unfold RdL at u5;obtain ⟨y,ys,rfl,e1,e2⟩:=u5;unfold RdL at e2;obtain ⟨z,zs,rfl,e3,e4⟩:=e2
    show Rd w' D (.tu (c :: d :: cl)) _ _ (.tuple ⟨y :: z :: zs⟩)
    unfold Rd;exact ⟨_,rfl,u4⟩
 have key:qgN P fn (λx w'=>∃ v,x=.returned v/\Ext w w'/\Rd w' D r (λ_=>none) h0 v) .ret e' w':=by
  cases hrs:fn.results with
  | mk rs =>
  rw [hrs] at u1 h4;simp only at u1 h4;clear u2 u3 u4 h1 h2 h3 hcl
  rcases rs with _ | ⟨a,_ | ⟨b,_ | ⟨c,_ | ⟨d,_ | ⟨f,rs⟩⟩⟩⟩⟩ <;> rcases us with _ | ⟨x,_ | ⟨y,_ | ⟨z,_ | ⟨t,_ | ⟨t',us⟩⟩⟩⟩⟩ <;> simp at u1 h4
  .exact ret0 hrs ⟨_,rfl,hxt,hres⟩
  .exact qsI hrs u1 ⟨_,rfl,hxt,hres⟩
  .exact qsH hrs u1.1 u1.2 ⟨_,rfl,hxt,hres⟩
  .exact qsG hrs u1.1 u1.2.1 u1.2.2 ⟨_,rfl,hxt,hres⟩
  .exact qsF hrs u1.1 u1.2.1 u1.2.2.1 u1.2.2.2 ⟨_,rfl,hxt,hres⟩
 rcases hx with rfl | rfl
 .exact key
 .exact key
end
class Cn (α:Type) where
 k:α
def cK (p:Prop) [A:Cn Prop]:Prop:=p/\A.k
def oK {α:Type} (o:Option α) [K:Cn (α->Prop)]:Prop:=q20 o K.k
def nnK (o:Option Bk) (d:Nat) (A:Prop):Prop:=(o=none/\d < 5000)/\A
def q1U [NL] (k:Kd) (x:PV) (A:Prop):Prop:=q44 k x/\A
def vK (x:PV) (K:PV->Prop):Prop:=K x
def ldK (o:Option (PV × List Nat)) [K:Cn (PV->List Nat->Prop)]:Prop:=match o with | some (x,l)=>K.k x l | none=>False
def pgA (o:Option Bool) (b:Bool) [A:Cn Prop] [B:Cn Prop]:Prop:=match o with | some c=>if c=b then A.k else B.k | none=>False
def mkA (bytes:Nat) (l c:PV) (K:Nat->Prop):Prop:=match l,c with | .vl (.int _ a),.vl (.int _ b)=>0<=a/\a<=b/\bytes*b.toNat<=281474976710656/\b.toNat<=maxLen/\K a.toNat | _,_=>False
def qby [NL] (k:Kd) (l:List PV) (A:Prop):Prop:=(∀ x ∈ l,q44 k x)/\A
def qaJ [NL] (o:Option Bk) (k:Option Kd) (m:Option Nat) (i j:Nat) (x:PV) (K:Bk->Prop):Prop :=
 ∃ b k' u u',o=some b/\k=some k'/\m=some (ksz k')/\b.st=false/\q44 k' x/\b.xs[i]?=some u/\stU b.k k' j u x=some u'/\K { b with xs:=b.xs.set i u' }
def qpy [NL] (h:Hp) (k:Option Kd) (m:Option Nat) (p x:PV) (K:Nat->Bk->Prop):Prop:=match p with | .pt id i j=>qaJ (h id) k m i j x (K id) | _=>False
def qlE (o:Option Bk) (E:TypeId) (k k':Kd) (off n id:Nat) (K:List PV->Option Nat->Prop):Prop:=∃ b,o=some b/\(b.st=false/\b.T=E/\b.k=k/\k'=k/\off=0/\n=b.xs.length)/\K b.xs (some id)
def qlF [NL] (h:Hp) (E:TypeId) (k:Kd) (p:PV) (K:List PV->Option Nat->Prop):Prop:=match p with
 | .vl (.slice none 0 0)=>K [] none
 | .ow id k' off n=>qlE (h id) E k k' off n id K
 | .fm G=>∃ xs,ClP (.fm G) k xs/\K xs none
 | _=>False
def ysK (p:PV) (ys:List PV) [A:Cn Prop]:Prop:=match p with | .fm _=>ys≠[]/\A.k | _=>A.k
def qqA (h:Hp) (i0:Option Nat) (b:Bk):Hp:=match i0 with | none=>h | some i=>q0P h i b
def qlD (o:Option Bk) (k k':Kd) (off n id:Nat) (K:List PV->List Nat->Prop):Prop:=∃ b,o=some b/\(b.st=false/\b.k=k/\k'=k)/\K ((b.xs.drop off).take n) [id]
def qgO (h:Hp) (k:Kd) (p:PV) (K:List PV->List Nat->Prop):Prop:=match p with
 | .vl (.slice none 0 0)=>K [] []
 | .sl k' l=>k'=k/\K l []
 | .ow id k' off n=>qlD (h id) k k' off n id K
 | _=>False
noncomputable def cO {α:Type} (p:Prop) (o:Option α):Option α:=open Classical in if p then o else none
def ClL (l:List PV):Prop:=∀ x ∈ l,Cld x
noncomputable def clB [h:Cn Hp] (o:Option Bk) (id:Nat) (k:Kd) (off n:Nat):Option (PV × List Nat):=open Classical in o.bind λb=>if b.st=false/\b.k=k/\∀ x ∈ b.xs,Cld x then some (.sl k ((b.xs.drop off).take n),[id]) else if b.st=false/\b.k=k then (q1V h.k b.xs).map λr=>(.sl k ((r.1.drop off).take n),id :: r.2) else none
noncomputable def cO2 {α:Type} (p:Prop) (o:Option α) [q:Cn (Option α)]:Option α:=open Classical in if p then o else q.k
def qfW (a:Option (PV × List Nat)) (b:Option (List PV × List Nat)):Option (List PV × List Nat):=a.bind λa=>b.map λb=>(a.1 :: b.1,a.2 ++ b.2)
def q4j [NL] (P:Program) (Tb:World->Prop) (f:FuncId) (o:Option (List PV × List Nat)) [K:Cn (PV->List Nat->Prop)]:Prop:=∃ al ids x,o=some (al,ids)/\AC P Tb f al x/\(ids=[]\/Nz x)/\K.k x ids
def qnI (o:Option Bk) (T:Option (Kd × PV)) (i:PV) (ok:Bool) (K:PV->Prop):Prop:=∃ T' l a k z,o=some ⟨T',some 0,[.tu (mpL l)],false⟩/\i=.vl (.int .i64 a)/\T=some (k,z)/\K (lkR z (q2b l a) ok)
def qqI (h:Hp) (T:Option (Kd × PV)) (m i:PV) (ok:Bool) (K:PV->Nat->Prop):Prop:=match m with | .mp id=>qnI (h id) T i ok λx=>K x id | _=>False
def qnF [NL] (o:Option Bk) (T:Option (Kd × PV)) (i x:PV) (K:Bk->Prop):Prop:=∃ T' l a k z,o=some ⟨T',some 0,[.tu (mpL l)],false⟩/\i=.vl (.int .i64 a)/\T=some (k,z)/\q44 k x/\K ⟨T',some 0,[.tu (mpL (q6g l a x))],false⟩
def qqF [NL] (h:Hp) (T:Option (Kd × PV)) (m i x:PV) (K:Nat->Bk->Prop):Prop:=match m with | .mp id=>qnF (h id) T i x (K id) | _=>False
def ao [NL] (P : Program) (Tb : World -> Prop) (d : Option Nat) (op : Op) (s : Nat -> PV) (h : Hp) (K : PV -> Hp -> FP -> Prop) : Prop := ∃ x h' fp, Stp P Tb ⟨d, op, 0, "", #[], none⟩ s h x h' fp /\ K x h' fp
def qoa (prs:List (Nat × Nat)) (acc:List FP):Prop:=chk prs acc.reverse
section
variable {P:Program} {Tb:World->Prop}
@[congr] theorem qsi {o o':Option Bk} {d:Nat} {A:Prop} (h:o=o'):nnK o d A=nnK o' d A:=by rw [h]
@[congr] theorem qqQ [NL] {k:Kd} {x x':PV} {A:Prop} (h:x=x'):q1U k x A=q1U k x' A:=by rw [h]
@[congr] theorem qqP [NL] {k:Kd} {x x':List PV} {A:Prop} (h:x=x'):qby k x A=qby k x' A:=by rw [h]
@[congr] theorem vK_congr {x x':PV} {K:PV->Prop} (h:x=x'):vK x K=vK x' K:=by rw [h]
@[congr] theorem qsx {y:Nat} {l l' c c':PV} {K:Nat->Prop} (h:l=l') (h':c=c'):mkA y l c K=mkA y l' c' K:=by rw [h,h']
@[congr] theorem qpz [NL] {o o':Option Bk} {k k':Option Kd} {m m':Option Nat} {i j:Nat} {x:PV} {K:Bk->Prop} (h1:o=o') (h2:k=k') (h3:m=m'):qaJ o k m i j x K=qaJ o' k' m' i j x K:=by rw [h1,h2,h3]
@[congr] theorem qpx [NL] {h:Hp} {k k':Option Kd} {m m':Option Nat} {p p' x x':PV} {K:Nat->Bk->Prop} (h1:p=p') (h2:x=x'):qpy h k m p x K=qpy h k m p' x' K:=by rw [h1,h2]
@[congr] theorem qqV {o o':Option Bk} {E:TypeId} {k k':Kd} {off n id:Nat} {K:List PV->Option Nat->Prop} (h:o=o'):qlE o E k k' off n id K=qlE o' E k k' off n id K:=by rw [h]
@[congr] theorem qqW [NL] {h:Hp} {E:TypeId} {k:Kd} {p p':PV} {K:List PV->Option Nat->Prop} (h1:p=p'):qlF h E k p K=qlF h E k p' K:=by rw [h1]
@[congr] theorem qqT {o o':Option Bk} {k k':Kd} {off n id:Nat} {K:List PV->List Nat->Prop} (h:o=o'):qlD o k k' off n id K=qlD o' k k' off n id K:=by rw [h]
@[congr] theorem qqU {h:Hp} {k:Kd} {p p':PV} {K:List PV->List Nat->Prop} (h1:p=p'):qgO h k p K=qgO h k p' K:=by rw [h1]
@[congr] theorem qqJ {o o':Option Bk} {T T':Option (Kd × PV)} {i i':PV} {ok:Bool} {K:PV->Prop} (h:o=o') (h1:T=T') (h2:i=i'):qnI o T i ok K=qnI o' T' i' ok K:=by rw [h,h1,h2]
@[congr] theorem qqH {h:Hp} {T:Option (Kd × PV)} {m m' i i':PV} {ok:Bool} {K:PV->Nat->Prop} (h1:m=m') (h2:i=i'):qqI h T m i ok K=qqI h T m' i' ok K:=by rw [h1,h2]
@[congr] theorem qqG [NL] {o o':Option Bk} {T T':Option (Kd × PV)} {i i' x x':PV} {K:Bk->Prop} (h:o=o') (h1:T=T') (h2:i=i') (h3:x=x'):qnF o T i x K=qnF o' T' i' x' K:=by rw [h,h1,h2,h3]
@[congr] theorem qqE [NL] {h:Hp} {T:Option (Kd × PV)} {m m' i i' x x':PV} {K:Nat->Bk->Prop} (h1:m=m') (h2:i=i') (h3:x=x'):qqF h T m i x K=qqF h T m' i' x' K:=by rw [h1,h2,h3]
def q9K:∀ {l l':List (Int × PV)},mpL l=mpL l'->l=l'
 | [],[],_=>rfl
 | [],q :: m,h=>by unfold mpL at h; simp at h
 | p :: l,[],h=>by unfold mpL at h; simp at h
 | p :: l,q :: m,h=>by
  unfold mpL at h;rw [z6,z6,List.cons.injEq] at h;obtain ⟨h1,h2⟩:=h;have:=q9K (l:=l) (l':=m) h2;obtain ⟨a,x⟩:=p;obtain ⟨b,y⟩:=q;unfold mPv at h1;simp at h1;rw [h1.1,h1.2,this]
def qst {h:Hp} {T:Option (Kd × PV)} {id:Nat} {i:PV} {ok:Bool} {K:PV->Nat->Prop}:qqI h T (.mp id) i ok K=qnI (h id) T i ok λx=>K x id:=rfl
def qsr [NL] {h:Hp} {T:Option (Kd × PV)} {id:Nat} {i x:PV} {K:Nat->Bk->Prop}:qqF h T (.mp id) i x K=qnF (h id) T i x (K id):=rfl
def qsu {T:TypeId} {l:List (Int × PV)} {k:Kd} {z:PV} {a:Int} {ok:Bool} {K:PV->Prop}:qnI (some ⟨T,some 0,[.tu (mpL l)],false⟩) (some (k,z)) (.vl (.int .i64 a)) ok K=K (lkR z (q2b l a) ok):=by
 unfold qnI;refine propext ⟨?_,λh=>⟨_,_,_,_,_,rfl,rfl,rfl,h⟩⟩;rintro ⟨T',l',a',k',z',h1,h2,h3,h4⟩
 injection h1 with h1
 injection h1 with _ _ h1
 injection h1 with h1
 injection h1 with h1
 cases h2;cases h3;rw [q9K h1];exact h4
def qss [NL] {T:TypeId} {l:List (Int × PV)} {k:Kd} {z x:PV} {a:Int} {K:Bk->Prop}:qnF (some ⟨T,some 0,[.tu (mpL l)],false⟩) (some (k,z)) (.vl (.int .i64 a)) x K=q1U k x (K ⟨T,some 0,[.tu (mpL (q6g l a x))],false⟩):=by
 unfold qnF q1U;refine propext ⟨?_,λh=>⟨_,_,_,_,_,rfl,rfl,rfl,h⟩⟩;rintro ⟨T',l',a',k',z',h1,h2,h3,h4⟩
 injection h1 with h1
 injection h1 with h0 _ h1
 injection h1 with h1
 injection h1 with h1
 cases h2;cases h3;rw [q9K h1,h0];exact h4
def lkR_t {z:PV} {o:Option PV}:lkR z o true=.tu [o.getD z,.vl (.bool o.isSome)]:=rfl
def lkR_f {z:PV} {o:Option PV}:lkR z o false=o.getD z:=rfl
@[congr] theorem ao_congr [NL] {d:Option Nat} {op:Op} {s:Nat->PV} {h:Hp} {K:PV->Hp->FP->Prop}:ao P Tb d op s h K=ao P Tb d op s h K:=rfl
@[congr] theorem AL_congr [NL] {ops l:List Oper} {K:(Nat->PV)->Hp->List FP->Prop} {s:Nat->PV} {h:Hp} {acc:List FP}:AL P Tb ops K l s h acc=AL P Tb ops K l s h acc:=rfl
@[congr] theorem AW_congr [NL] {J:Nat->Prop} {n:Nat} {c:Code} {Q:SQ} {s:Nat->PV} {h:Hp}:AW P Tb J n c Q s h=AW P Tb J n c Q s h:=rfl
def cK_t {A:Prop}:@cK True ⟨A⟩=A:=by simp [cK]
def quw {p A:Prop} (h:p):@cK p ⟨A⟩=A:=by simp [cK,h]
def nnK_n {A:Prop} {d:Nat}:nnK none d A=@cK (d < 5000) ⟨A⟩:=by simp [nnK,cK]
def oK_s {α:Type} {x:α} {K:α->Prop}:@oK _ (some x) ⟨K⟩=K x:=rfl
def vK_v {x:PV} {K:PV->Prop}:vK x K=K x:=rfl
def ldK_s {x:PV} {l:List Nat} {K:PV->List Nat->Prop}:@ldK (some (x,l)) ⟨K⟩=K x l:=rfl
def qs2 {A B:Prop}:@pgA (some true) true ⟨A⟩ ⟨B⟩=A:=by simp [pgA]
def qs3 {A B:Prop}:@pgA (some true) false ⟨A⟩ ⟨B⟩=B:=by simp [pgA]
def qs4 {A B:Prop}:@pgA (some false) true ⟨A⟩ ⟨B⟩=B:=by simp [pgA]
def qs5 {A B:Prop}:@pgA (some false) false ⟨A⟩ ⟨B⟩=A:=by simp [pgA]
def mkA_n {y n:Nat} {k k':IntKind} {K:Nat->Prop}:mkA y (.vl (.int k (n:Int))) (.vl (.int k' (n:Int))) K=@cK (y*n<=281474976710656/\n<=9223372036854775807) ⟨K n⟩:=by
 simp only [mkA,cK,y8,maxLen];exact propext ⟨λh=>⟨⟨h.2.2.1,h.2.2.2.1⟩,h.2.2.2.2⟩,λh=>⟨ω,Int.le_refl _,h.1.1,h.1.2,h.2⟩⟩
def mkA_z {y n:Nat} {k k':IntKind} {K:Nat->Prop}:mkA y (.vl (.int k 0)) (.vl (.int k' (n:Int))) K=@cK (y*n<=281474976710656/\n<=9223372036854775807) ⟨K 0⟩:=by
 simp only [mkA,cK,y8,maxLen];exact propext ⟨λh=>⟨⟨h.2.2.1,h.2.2.2.1⟩,h.2.2.2.2⟩,λh=>⟨ω,ω,h.1.1,h.1.2,h.2⟩⟩
def qeu [NL] {k:IntKind} {z:Int} {A:Prop}:q1U none (.vl (.int k z)) A=@cK (q4E (.int k z)=true) ⟨A⟩:=by simp [q1U,q44,qbz,qkF,cK,Value.oneCell']
def qte [NL] {b:Bool} {A:Prop}:q1U none (.vl (.bool b)) A=A:=by simp [q1U,q44,qbz,qkF,Value.oneCell',nlo]
def qnz [NL] {a:Option Addr} {m c:Nat} {A:Prop}:q1U none (.vl (.slice a m c)) A=A:=by simp [q1U,q44,qbz,qkF,Value.oneCell',nlo]
def qt7 [NL] {k:Kd} {l:List PV} {A:Prop}:q1U none (.sl k l) A=A:=by simp [q1U,q44,qbz]
def qta [NL] {id off m:Nat} {k:Kd} {A:Prop}:q1U none (.ow id k off m) A=A:=by simp [q1U,q44,qbz]
def qtb [NL] {id:Nat} {A:Prop}:q1U none (.mp id) A=A:=by simp [q1U,q44,qbz]
def qt9 [NL] {id i j:Nat} {A:Prop}:q1U none (.pt id i j) A=A:=by simp [q1U,q44,qbz]
def qtf [NL] {m:Nat} {l:List PV} {A:Prop} (h0:m≠0):q1U (some m) (.ag l) A=@cK (l.length=m) ⟨qby none l A⟩:=by
 have e:(m≠0)=True:=eq_true h0;simp only [q1U,q44,cK,qby,and_assoc,e,true_and]
def q6K [NL] {k:Kd} {A:Prop}:qby k [] A=A:=by simp [qby]
def q6L [NL] {k:Kd} {x:PV} {l:List PV} {A:Prop}:qby k (x :: l) A=q1U k x (qby k l A):=by simp [qby,q1U,and_assoc]
def qtd [NL] {m:Nat} {G:Fam} {A:Prop} (hf:∀ D v w,In G D v w->q2T (some m) v) (h0:m≠0:=by decide):q1U (some m) (.fm G) A=A:=by simp only [q1U,q44]; exact propext ⟨λh=>h.2,λh=>⟨⟨h0,hf⟩,h⟩⟩
def qrL [NL] {h:Hp} {k:Option Kd} {m:Option Nat} {id i j:Nat} {x:PV} {K:Nat->Bk->Prop}:qpy h k m (.pt id i j) x K=qaJ (h id) k m i j x (K id):=rfl
def qj6 [NL] {T:TypeId} {k:Kd} {xs:List PV} {i:Nat} {x:PV} {K:Bk->Prop}:qaJ (some ⟨T,k,xs,false⟩) (some k) (some (ksz k)) i 0 x K=@cK (i < xs.length) ⟨q1U k x (K ⟨T,k,xs.set i x,false⟩)⟩:=by
 simp only [qaJ,cK,q1U];refine propext ⟨?_,?_⟩
 .rintro ⟨b,k',u,u',h1,h2,_,_,h5,h6,h7,h8⟩;cases h1; cases h2;have hlt:=(zC.1 h6).1;simp only [stU,and_self,if_true] at h7;cases h7;exact ⟨hlt,h5,h8⟩
 .rintro ⟨h1,h2,h3⟩;exact ⟨_,k,_,x,rfl,rfl,rfl,rfl,h2,zD h1,by simp [stU],h3⟩
def qmC [NL] {T:TypeId} {xs:List PV} {i:Nat} {x:PV} {K:Bk->Prop}:qaJ (some ⟨T,none,xs,false⟩) (some none) (some 1) i 0 x K=@cK (i < xs.length) ⟨q1U none x (K ⟨T,none,xs.set i x,false⟩)⟩:=qj6
def qmB [NL] {T:TypeId} {m:Nat} {xs:List PV} {i:Nat} {x:PV} {K:Bk->Prop}:qaJ (some ⟨T,some m,xs,false⟩) (some (some m)) (some m) i 0 x K=@cK (i < xs.length) ⟨q1U (some m) x (K ⟨T,some m,xs.set i x,false⟩)⟩:=qj6
def qrN [NL] {T:TypeId} {m j:Nat} {l:List PV} {x:PV} {K:Bk->Prop}:qaJ (some ⟨T,some m,[.ag l],false⟩) (some none) (some 1) 0 j x K=@cK (j < l.length) ⟨q1U none x (K ⟨T,some m,[.ag (l.set j x)],false⟩)⟩:=by
 simp only [qaJ,cK,q1U];refine propext ⟨?_,?_⟩
 .rintro ⟨b,k',u,u',h1,h2,_,_,h5,h6,h7,h8⟩;cases h1; cases h2;simp at h6;subst h6;unfold stU at h7;rw [if_neg σ] at h7;simp only at h7
  split at h7
  .cases h7; exact ⟨by assumption,h5,h8⟩
  .cases h7
 .rintro ⟨h1,h2,h3⟩;exact ⟨_,none,.ag l,.ag (l.set j x),rfl,rfl,rfl,rfl,h2,rfl,by unfold stU; rw [if_neg σ]; simp [h1],h3⟩
def qrM [NL] {T:TypeId} {n m j:Nat} {l r:List PV} {K:Bk->Prop} (hn:n≠m):qaJ (some ⟨T,some n,[.ag l],false⟩) (some (some m)) (some m) 0 j (.ag r) K=@cK (r.length=m/\j+m<=l.length) ⟨q1U (some m) (.ag r) (K ⟨T,some n,[.ag (l.take j ++ r ++ l.drop (j+m))],false⟩)⟩:=by
 have e:stU (some n) (some m) j (.ag l) (.ag r)=if r.length=m/\j+m<=l.length then some (.ag (l.take j ++ r ++ l.drop (j+m))) else none:=by
  unfold stU; rw [if_neg (by simp [hn])]
 simp only [qaJ,cK,q1U];refine propext ⟨?_,?_⟩
 .rintro ⟨b,k',u,u',h1,h2,_,_,h5,h6,h7,h8⟩;cases h1; cases h2;simp at h6;subst h6;rw [e] at h7
  split at h7
  .cases h7; exact ⟨by assumption,h5,h8⟩
  .cases h7
 .rintro ⟨h1,h2,h3⟩;exact ⟨_,some m,.ag l,_,rfl,rfl,rfl,rfl,h2,rfl,by rw [e,if_pos h1],h3⟩
def ldU_b {a b c d:PV}:ldU (some 4) (some 2) 1 (.ag [a,b,c,d])=some (.ag [b,c]):=by simp [ldU]
def qv1 [NL] {h:Hp} {E:TypeId} {k:Kd} {K:List PV->Option Nat->Prop}:qlF h E k (.vl (.slice none 0 0)) K=K [] none:=rfl
def qc9 {p:PV} {ys:List PV} {A:Prop}:@ysK p ys ⟨A⟩ ↔ (qhY p->ys≠[])/\A:=by cases p <;> simp [ysK,qhY]
def qvZ {h:Hp} {E:TypeId} {k:Kd} {p:PV} {r:List PV × Option Nat} (hf:qhY p):¬ apS h E k p=some r:=by cases p <;> simp [apS,qhY] at *
def ysK_v {x:Value} {ys:List PV} {A:Prop}:@ysK (.vl x) ys ⟨A⟩=A:=rfl
def ysK_o {id:Nat} {k:Kd} {off n:Nat} {ys:List PV} {A:Prop}:@ysK (.ow id k off n) ys ⟨A⟩=A:=rfl
def ysK_f {G:Fam} {y:PV} {ys:List PV} {A:Prop}:@ysK (.fm G) (y :: ys) ⟨A⟩=A:=by simp [ysK]
def qv0 [NL] {h:Hp} {E:TypeId} {k k':Kd} {id off m:Nat} {K:List PV->Option Nat->Prop}:qlF h E k (.ow id k' off m) K=qlE (h id) E k k' off m id K:=rfl
def qvY {E:TypeId} {k:Kd} {xs:List PV} {id m:Nat} {K:List PV->Option Nat->Prop}:qlE (some ⟨E,k,xs,false⟩) E k k 0 m id K=@cK (m=xs.length) ⟨K xs (some id)⟩:=by
 simp [qlE,cK]
def qvX {h:Hp} {k:Kd} {K:List PV->List Nat->Prop}:qgO h k (.vl (.slice none 0 0)) K=K [] []:=rfl
def qvV {h:Hp} {k:Kd} {l:List PV} {K:List PV->List Nat->Prop}:qgO h k (.sl k l) K=K l []:=by simp [qgO]
def qvW {h:Hp} {k k':Kd} {id off m:Nat} {K:List PV->List Nat->Prop}:qgO h k (.ow id k' off m) K=qlD (h id) k k' off m id K:=rfl
def qvU {T:TypeId} {k:Kd} {xs:List PV} {off m id:Nat} {K:List PV->List Nat->Prop}:qlD (some ⟨T,k,xs,false⟩) k k off m id K=K ((xs.drop off).take m) [id]:=by
 simp [qlD]
variable {d:Option Nat} {ty t:TypeId} {pos:String} {af:Array Edge} {g:Option (Nat × Bool)} {s:Nat->PV} {h:Hp} {K:PV->Hp->FP->Prop} {ops r:List Oper} {KL:(Nat->PV)->Hp->List FP->Prop} {acc:List FP} {dd:Nat}
def qxI [NL]:AL P Tb ops KL [] s h acc=KL s h acc:=rfl
def AL_n [NL] {op:Op}:AL P Tb ops KL (⟨d,op,ty,pos,af,none⟩ :: r) s h acc=ao P Tb d op s h λx h' fp=>AL P Tb ops KL r (q2u s d x) h' (fp :: acc):=rfl
def AL_g [NL] {op:Op} {j:Nat} {b:Bool}:AL P Tb ops KL (⟨d,op,ty,pos,af,some (j,b)⟩ :: r) s h acc=@pgA (q2k ops s j b) b ⟨ao P Tb d op s h λx h' fp=>AL P Tb ops KL r (q2u s d x) h' (fp :: acc)⟩ ⟨AL P Tb ops KL r (q2u s d (.vl undef)) h (([],[]) :: acc)⟩:=by
 refine propext ⟨?_,λhp=>?_⟩
 .rintro ⟨x,h',fp,hg,hk⟩;unfold q7Q at hg;simp only at hg;obtain ⟨c,hc,hg⟩:=hg;unfold pgA;rw [hc];simp only
  split at hg
  .rename_i hcb; rw [if_pos hcb]; exact ⟨x,h',fp,hg,hk⟩
  .rename_i hcb; rw [if_neg hcb]; obtain ⟨rfl,rfl,rfl⟩:=hg; exact hk
 .unfold pgA at hp
  split at hp
  .rename_i c hc
   split at hp
   .rename_i hcb;obtain ⟨x,h',fp,hg,hk⟩:=hp;exact ⟨x,h',fp,by unfold q7Q; exact ⟨c,hc,by rw [if_pos hcb]; exact hg⟩,hk⟩
   .rename_i hcb;exact ⟨.vl undef,h,([],[]),by unfold q7Q; exact ⟨c,hc,by rw [if_neg hcb]; exact ⟨rfl,rfl,rfl⟩⟩,hp⟩
  .exact hp.elim
def q4O {α:Type} {o:Option α} {K:α->Prop}:@oK _ o ⟨K⟩=∃ a,o=some a/\K a:=by
 cases o <;> simp [oK,q20]
def q2p [NL] {op : Op} (hs : ∀ x h' fp, Stp P Tb ⟨d, op, 0, "", #[], none⟩ s h x h' fp = (q48 P op (pe s) = some x /\ h' = h /\ fp = ([], []))) : ao P Tb d op s h K = @oK _ (q48 P op (pe s)) ⟨λx => K x h ([], [])⟩ := by
 rw [q4O];unfold ao;refine propext ⟨?_,?_⟩
 .rintro ⟨x,h',fp,h1,h2⟩;rw [hs] at h1;obtain ⟨h1,rfl,rfl⟩:=h1;exact ⟨x,h1,h2⟩
 .rintro ⟨x,h1,h2⟩;exact ⟨x,h,([],[]),by rw [hs]; exact ⟨h1,rfl,rfl⟩,h2⟩
def qpW [NL] {x}:ao P Tb d (.move x) s h K=vK (pe s x) λx=>K x h ([],[]):=q2p λ_ _ _=>rfl
def qfs [NL] {x}:ao P Tb d (.assign x) s h K=vK (pe s x) λx=>K x h ([],[]):=q2p λ_ _ _=>rfl
def qpV [NL] {c a b}:ao P Tb d (.pick c a b) s h K=@oK _ (pkP (pe s c) (pe s a) (pe s b)) ⟨λx=>K x h ([],[])⟩:=q2p λ_ _ _=>rfl
def qit [NL] {op x y t'}:ao P Tb d (.binOp op t x y t') s h K=@oK _ (bnP P op t (pe s x) (pe s y)) ⟨λx=>K x h ([],[])⟩:=q2p λ_ _ _=>rfl
def qpU [NL] {op x}:ao P Tb d (.unOp op t x) s h K=@oK _ (unP op (pe s x)) ⟨λx=>K x h ([],[])⟩:=q2p λ_ _ _=>rfl
def qcN [NL] {a b x}:ao P Tb d (.convert a b x) s h K=@oK _ (cvP (P.underlying a) (P.underlying b) (pe s x)) ⟨λx=>K x h ([],[])⟩:=q2p λ_ _ _=>rfl
def q81 [NL] {x f}:ao P Tb d (.fieldAddr t x f) s h K=@oK _ (qqO P t f (pe s x)) ⟨λx=>K x h ([],[])⟩:=q2p λ_ _ _=>rfl
def qir [NL] {x i}:ao P Tb d (.field t x i) s h K=@oK _ (fdP P t i (pe s x)) ⟨λx=>K x h ([],[])⟩:=q2p λ_ _ _=>rfl
def qcM [NL] {x i}:ao P Tb d (.extract x i) s h K=@oK _ (exP i (pe s x)) ⟨λx=>K x h ([],[])⟩:=q2p λ_ _ _=>rfl
def q9k [NL] {x}:ao P Tb d (.nilCheck x) s h K=@oK _ (nlP (pe s x)) ⟨λx=>K x h ([],[])⟩:=q2p λ_ _ _=>rfl
def q80 [NL] {x i}:ao P Tb d (.indexAddr t x i) s h K=@oK _ (qai (q0f P t) (pe s x) (pe s i)) ⟨λx=>K x h ([],[])⟩:=q2p λ_ _ _=>rfl
def qiq [NL] {x lo hi}:ao P Tb d (.slice t x lo hi none) s h K=@oK _ (slP (q0f P t) (lo.map (pe s)) (hi.map (pe s)) (pe s x)) ⟨λx=>K x h ([],[])⟩:=q2p λ_ _ _=>rfl
def fnP_q [NL] {f:FuncId} {z:Int}:fnP (.func f) #[] [.qt none (.vl (.int .i64 z))]=some (.fm (fFun f z)):=rfl
def fnP_2 [NL] {f:FuncId} {k k':Kd} {x y:PV}:fnP (.func f) #[] [.qt k x,.qt k' y]=some (.fm (qtm f [.qt k x,.qt k' y])):=by
 unfold fnP
 split
 .rename_i h; cases h
 .rename_i h; cases h; rfl
 .rename_i h; exact (h _ _ _ _ rfl).elim
def qv6 [NL] {fn:Fn} {cap:List Operand} {first:Array Operand}:ao P Tb d (.makeFunc fn first cap.toArray) s h K=@oK _ (fnP fn first (cap.map (pe s))) ⟨λx=>K x h ([],[])⟩:=q2p λ_ _ _=>rfl
def qis [NL] {ps:List (Nat × Operand)}:ao P Tb d (.build t ps.toArray) s h K=@oK _ (blP P t (ps.map λp=>(p.1,pe s p.2))) ⟨λx=>K x h ([],[])⟩:=q2p λ_ _ _=>rfl
def qv5 [NL] {x}:ao P Tb d (.call ⟨.builtin .len,#[x],#[t]⟩) s h K=@oK _ (qqL (q0f P t) (pe s x)) ⟨λx=>K x h ([],[])⟩:=q2p λ_ _ _=>rfl
def qv4 [NL] {x y ts}:ao P Tb d (.call ⟨.builtin .max,#[x,y],ts⟩) s h K=@oK _ (mmP true [pe s x,pe s y]) ⟨λx=>K x h ([],[])⟩:=q2p λ_ _ _=>rfl
def qv3 [NL] {x y ts}:ao P Tb d (.call ⟨.builtin .min,#[x,y],ts⟩) s h K=@oK _ (mmP false [pe s x,pe s y]) ⟨λx=>K x h ([],[])⟩:=q2p λ_ _ _=>rfl
def qpY [NL] {a}:ao P Tb d (.load t a) s h K=@ldK (ldP h (q09 P t) (pe s a)) ⟨λx l=>K x h (l,[])⟩:=by
 unfold ao ldK;refine propext ⟨?_,λhk=>?_⟩
 .rintro ⟨x,h',fp,⟨r,h1,rfl,rfl,rfl⟩,hk⟩;rw [h1];exact hk
 .split at hk
  .rename_i x l hl;exact ⟨x,h,(l,[]),⟨(x,l),hl,rfl,rfl,rfl⟩,hk⟩
  .exact hk.elim
def qiu [NL]:ao P Tb (some dd) (.alloc t) s h K=nnK (h dd) dd (@oK _ (alB P t) ⟨λb=>K (.pt dd 0 0) (q0P h dd b) ([],[dd])⟩):=by
 unfold ao nnK;rw [q4O];refine propext ⟨?_,?_⟩
 .rintro ⟨x,h',fp,⟨d,b,h1,h2,h3,rfl,rfl,rfl⟩,hk⟩;cases h1;exact ⟨h2,b,h3,hk⟩
 .rintro ⟨h2,b,h3,hk⟩;exact ⟨_,_,_,⟨dd,b,rfl,h2,h3,rfl,rfl,rfl⟩,hk⟩
def qvc [NL] {v}:ao P Tb (some dd) (.box t v) s h K=nnK (h dd) dd (@oK _ (q09 P t) ⟨λk=>vK (pe s v) λx=>q1U k x (K (.pt dd 0 0) (q0P h dd ⟨t,k,[x],false⟩) ([],[dd]))⟩):=by
 unfold ao nnK q1U vK;rw [q4O];refine propext ⟨?_,?_⟩
 .rintro ⟨x,h',fp,⟨d,k,h1,h2,h3,h4,rfl,rfl,rfl⟩,hk⟩;cases h1;exact ⟨h2,k,h3,h4,hk⟩
 .rintro ⟨h2,k,h3,h4,hk⟩;exact ⟨_,_,_,⟨dd,k,rfl,h2,h3,h4,rfl,rfl,rfl⟩,hk⟩
def qcO [NL] {len:Nat} {ps:List (Nat × Operand)} (hp:ps.map (·.1)=List.range len):ao P Tb (some dd) (.buildSlice t len ps.toArray) s h K=nnK (h dd) dd (@oK _ (elK P t) ⟨λe=>@cK (len*ksz e.2.1<=16777216) ⟨qby e.2.1 (ps.map λp=>pe s p.2) (K (.ow dd e.2.1 0 len) (q0P h dd ⟨e.1,e.2.1,ps.map λp=>pe s p.2,false⟩) ([],[dd]))⟩⟩):=by
 unfold ao nnK qby cK;rw [q4O];refine propext ⟨?_,?_⟩
 .rintro ⟨x,h',fp,⟨d,E,k,bytes,h1,h2,h3,h4,h5,h6,rfl,rfl,rfl⟩,hk⟩;cases h1;exact ⟨h2,(E,k,bytes),h3,h5,λx hx=>by obtain ⟨p,hp,rfl⟩:=yF.1 hx; exact h6 p hp,hk⟩
 .rintro ⟨h2,⟨E,k,bytes⟩,h3,h5,h6,hk⟩;exact ⟨_,_,_,⟨dd,E,k,bytes,rfl,h2,h3,hp,h5,λp hp=>h6 _ (yF.2 ⟨p,hp,rfl⟩),rfl,rfl,rfl⟩,hk⟩
def qvb [NL]:ao P Tb (some dd) (.buildSlice t 0 #[]) s h K=nnK (h dd) dd (@oK _ (elK P t) ⟨λe=>K (.ow dd e.2.1 0 0) (q0P h dd ⟨e.1,e.2.1,[],false⟩) ([],[dd])⟩):=by
 have:=qcO (P:=P) (Tb:=Tb) (s:=s) (h:=h) (K:=K) (t:=t) (dd:=dd) (len:=0) (ps:=[]) rfl;simpa [oK,cK,qby] using this
def qva [NL] {a}:ao P Tb (some dd) (.buildSlice t 1 #[(0,a)]) s h K=nnK (h dd) dd (@oK _ (elK P t) ⟨λe=>@cK (ksz e.2.1<=16777216) ⟨vK (pe s a) λx=>q1U e.2.1 x (K (.ow dd e.2.1 0 1) (q0P h dd ⟨e.1,e.2.1,[x],false⟩) ([],[dd]))⟩⟩):=by
 have:=qcO (P:=P) (Tb:=Tb) (s:=s) (h:=h) (K:=K) (t:=t) (dd:=dd) (len:=1) (ps:=[(0,a)]) rfl;simpa [oK,cK,q6L,q6K,vK] using this
def qv9 [NL] {a b}:ao P Tb (some dd) (.buildSlice t 2 #[(0,a),(1,b)]) s h K=nnK (h dd) dd (@oK _ (elK P t) ⟨λe=>@cK (2*ksz e.2.1<=16777216) ⟨vK (pe s a) λx=>vK (pe s b) λy=>q1U e.2.1 x (q1U e.2.1 y (K (.ow dd e.2.1 0 2) (q0P h dd ⟨e.1,e.2.1,[x,y],false⟩) ([],[dd])))⟩⟩):=by
 have:=qcO (P:=P) (Tb:=Tb) (s:=s) (h:=h) (K:=K) (t:=t) (dd:=dd) (len:=2) (ps:=[(0,a),(1,b)]) rfl;simpa [oK,cK,q6L,q6K,vK] using this
def qv8 [NL] {a b c}:ao P Tb (some dd) (.buildSlice t 3 #[(0,a),(1,b),(2,c)]) s h K=nnK (h dd) dd (@oK _ (elK P t) ⟨λe=>@cK (3*ksz e.2.1<=16777216) ⟨vK (pe s a) λx=>vK (pe s b) λy=>vK (pe s c) λz=>q1U e.2.1 x (q1U e.2.1 y (q1U e.2.1 z (K (.ow dd e.2.1 0 3) (q0P h dd ⟨e.1,e.2.1,[x,y,z],false⟩) ([],[dd]))))⟩⟩):=by
 have:=qcO (P:=P) (Tb:=Tb) (s:=s) (h:=h) (K:=K) (t:=t) (dd:=dd) (len:=3) (ps:=[(0,a),(1,b),(2,c)]) rfl;simpa [oK,cK,q6L,q6K,vK] using this
def qpX [NL] {l c}:ao P Tb (some dd) (.makeSlice t l c) s h K=nnK (h dd) dd (@oK _ (elZ P t) ⟨λe=>mkA e.2.2.1 (pe s l) (pe s c) λn=>K (.ow dd e.2.1 0 n) (q0P h dd ⟨e.1,e.2.1,List.replicate n e.2.2.2,false⟩) ([],[dd])⟩):=by
 unfold ao nnK;rw [q4O];refine propext ⟨?_,?_⟩
 .rintro ⟨x,h',fp,⟨d,E,k,bytes,z,kl,kc,n,m,h1,h2,h3,h4,h5,h8,h6,h7,rfl,rfl,rfl⟩,hk⟩;cases h1;refine ⟨h2,_,h3,?_⟩;unfold mkA;rw [h4,h5];exact ⟨ω,ω,by simpa using h6,by simpa using h7,by simpa using hk⟩
 .rintro ⟨h2,⟨E,k,bytes,z⟩,h3,hk⟩;unfold mkA at hk
  split at hk
  .rename_i kl a kc b ha hb;obtain ⟨k0,k1,k2,k3,hk⟩:=hk;have e1:((a.toNat:Nat):Int)=a:=ω
   have e2:((b.toNat:Nat):Int)=b:=ω
   exact ⟨_,_,_,⟨dd,E,k,bytes,z,kl,kc,a.toNat,b.toNat,rfl,h2,h3,by rw [e1]; exact ha,by rw [e2]; exact hb,ω,k2,k3,rfl,rfl,rfl⟩,hk⟩
  .exact hk.elim
def qcL [NL]:ao P Tb (some dd) (.makeMap t none) s h K=nnK (h dd) dd (K (.mp dd) (q0P h dd ⟨0,some 0,[.tu (mpL [])],false⟩) ([],[dd])):=by
 unfold ao nnK;refine propext ⟨?_,?_⟩
 .rintro ⟨x,h',fp,⟨d,_,h1,h2,rfl,rfl,rfl⟩,hk⟩;cases h1;exact ⟨h2,hk⟩
 .rintro ⟨h2,hk⟩;exact ⟨_,_,_,⟨dd,rfl,rfl,h2,rfl,rfl,rfl⟩,hk⟩
def qfr [NL] {m i ok}:ao P Tb d (.lookup t m i ok) s h K=qqI h (mpT P t) (pe s m) (pe s i) ok λx id=>K x h ([id],[]):=by
 unfold ao qqI;refine propext ⟨?_,λhk=>?_⟩
 .rintro ⟨x,h',fp,⟨id,T,l,a,k,z,h1,h2,h3,h4,rfl,rfl,rfl⟩,hk⟩;rw [h1];exact ⟨T,l,a,k,z,h2,h3,h4,hk⟩
 .split at hk
  .rename_i id h1;obtain ⟨T,l,a,k,z,h2,h3,h4,hk⟩:=hk;exact ⟨_,_,_,⟨id,T,l,a,k,z,h1,h2,h3,h4,rfl,rfl,rfl⟩,hk⟩
  .exact hk.elim
def q8Z [NL] {m i v}:ao P Tb d (.mapUpdate t m i v) s h K=qqF h (mpT P t) (pe s m) (pe s i) (pe s v) λid b=>K (.vl undef) (q0P h id b) ([id],[id]):=by
 unfold ao qqF;refine propext ⟨?_,λhk=>?_⟩
 .rintro ⟨x,h',fp,⟨id,T,l,a,k,z,h1,h2,h3,h4,h5,rfl,rfl,rfl⟩,hk⟩;rw [h1];exact ⟨T,l,a,k,z,h2,h3,h4,h5,hk⟩
 .split at hk
  .rename_i id h1;obtain ⟨T,l,a,k,z,h2,h3,h4,h5,hk⟩:=hk;exact ⟨_,_,_,⟨id,T,l,a,k,z,h1,h2,h3,h4,h5,rfl,rfl,rfl⟩,hk⟩
  .exact hk.elim
def qip [NL] {a v}:ao P Tb d (.store t a v) s h K=qpy h (q09 P t) (q03 P t) (pe s a) (pe s v) λid b=>K (.vl undef) (q0P h id b) ([id],[id]):=by
 unfold ao qpy qaJ;refine propext ⟨?_,λhk=>?_⟩
 .rintro ⟨x,h',fp,⟨id,i,j,b,k,u,u',h1,h2,h3,h4,h5,h6,h7,h8,rfl,rfl,rfl⟩,hk⟩;rw [h1];exact ⟨b,k,u,u',h2,h4,h5,h3,h6,h7,h8,hk⟩
 .split at hk
  .rename_i id i j h1;obtain ⟨b,k,u,u',h2,h4,h5,h3,h6,h7,h8,hk⟩:=hk;exact ⟨_,_,_,⟨id,i,j,b,k,u,u',h1,h2,h3,h4,h5,h6,h7,h8,rfl,rfl,rfl⟩,hk⟩
  .exact hk.elim
def qft [NL] {sx xx}:ao P Tb (some dd) (.call ⟨.builtin .append,#[sx,xx],#[t,t]⟩) s h K=nnK (h dd) dd (@oK _ (elK P t) ⟨λe=>qlF h e.1 e.2.1 (pe s sx) λxs i0=>qgO h e.2.1 (pe s xx) λys ids=>@ysK (pe s sx) ys ⟨@cK ((xs.length+ys.length)*(e.2.2+1)<=140737488355328) ⟨K (.ow dd e.2.1 0 (xs.length+ys.length)) (q0P (qqA h i0 ⟨e.1,e.2.1,xs,true⟩) dd ⟨e.1,e.2.1,xs ++ ys,false⟩) (ids,dd :: i0.toList)⟩⟩⟩):=by
 have hL:∀ {E:TypeId} {k:Kd} {p:PV} {xs:List PV} {i0:Option Nat},apS h E k p=some (xs,i0)->qqA h i0 ⟨E,k,xs,true⟩=stl h i0:=λ{E k p xs i0} ha=>by
  unfold apS at ha
  split at ha
  .cases ha; rfl
  .obtain ⟨b,hb,hc⟩:=zA.1 ha
   split at hc
   .rename_i hcc;cases hc;obtain ⟨_,rfl,rfl,_⟩:=hcc;simp only [qqA,stl,hb]
   .cases hc
  .cases ha
 have hL2:∀ {E:TypeId} {k:Kd} {p:PV} {xs:List PV} {i0:Option Nat},(apS h E k p=some (xs,i0)\/(i0=none/\qhY p/\ClP p k xs))->qqA h i0 ⟨E,k,xs,true⟩=stl h i0:=λha=>by
  rcases ha with ha | ⟨rfl,_⟩
  .exact hL ha
  .rfl
 have hS:∀ {E:TypeId} {k:Kd} {p:PV} {K:List PV->Option Nat->Prop},qlF h E k p K=∃ xs i0,(apS h E k p=some (xs,i0)\/(i0=none/\qhY p/\ClP p k xs))/\K xs i0:=λ{E k p K}=>by
  refine propext ⟨λhk=>?_,?_⟩
  .unfold qlF at hk
   split at hk
   .exact ⟨[],none,.inl rfl,hk⟩
   .unfold qlE at hk;obtain ⟨b,hb,hc,hk⟩:=hk;exact ⟨b.xs,some _,.inl (by unfold apS; simp only [hb,zE]; rw [if_pos hc]),hk⟩
   .obtain ⟨xs,hc,hk⟩:=hk;exact ⟨xs,none,.inr ⟨rfl,trivial,hc⟩,hk⟩
   .exact hk.elim
  .rintro ⟨xs,i0,ha | ⟨rfl,hf,hc⟩,hk⟩
   .unfold apS at ha
    split at ha
    .cases ha; exact hk
    .obtain ⟨b,hb,hc⟩:=zA.1 ha
     split at hc
     .rename_i hcc; cases hc; exact ⟨b,hb,hcc,hk⟩
     .cases hc
    .cases ha
   .cases p with
    | fm G=>exact ⟨xs,hc,hk⟩
    | _=>exact hf.elim
 have hX:∀ {k:Kd} {p:PV} {K:List PV->List Nat->Prop},qgO h k p K=∃ xs ids,apX h k p=some (xs,ids)/\K xs ids:=λ{k p K}=>by
  refine propext ⟨λhk=>?_,?_⟩
  .unfold qgO at hk
   split at hk
   .exact ⟨[],[],rfl,hk⟩
   .obtain ⟨rfl,hk⟩:=hk;exact ⟨_,[],by unfold apX; simp,hk⟩
   .unfold qlD at hk;obtain ⟨b,hb,hc,hk⟩:=hk;exact ⟨_,_,by unfold apX; simp only [hb,zE]; rw [if_pos hc],hk⟩
   .exact hk.elim
  .rintro ⟨xs,ids,ha,hk⟩;unfold apX at ha
   split at ha
   .cases ha; exact hk
   .split at ha
    .rename_i hkk; cases ha; exact ⟨hkk,hk⟩
    .cases ha
   .obtain ⟨b,hb,hc⟩:=zA.1 ha
    split at hc
    .rename_i hcc; cases hc; exact ⟨b,hb,hcc,hk⟩
    .cases hc
   .cases ha
 unfold ao nnK cK;rw [q4O];refine propext ⟨?_,?_⟩
 .rintro ⟨x,h',fp,⟨sx',xx',T,d,E,k,bytes,xs,ys,i0,ids,h1,h2,h3,h4,h5,h6,h7,h8,rfl,rfl,rfl⟩,hk⟩;cases h1; cases h2; cases h3;refine ⟨h4,_,h5,?_⟩;rw [hS];have h6':apS h E k (pe s sx)=some (xs,i0)\/(i0=none/\qhY (pe s sx)/\ClP (pe s sx) k xs):=by
   rcases h6 with h6 | ⟨q1,_,q2⟩
   .exact .inl h6
   .exact .inr ⟨q1,q2⟩
  refine ⟨xs,i0,h6',?_⟩;rw [hX];exact ⟨ys,ids,h7,qc9.2 ⟨λhf=>(show apS h E k (pe s sx)=some (xs,i0)\/(i0=none/\ys≠[]/\qhY (pe s sx)/\ClP (pe s sx) k xs) from h6).elim (λq=>absurd q (qvZ hf)) λq=>q.2.1,h8,by rw [hL2 h6']; exact hk⟩⟩
 .rintro ⟨h4,⟨E,k,bytes⟩,h5,hk⟩;rw [hS] at hk;obtain ⟨xs,i0,h6,hk⟩:=hk;rw [hX] at hk;obtain ⟨ys,ids,h7,hk⟩:=hk;obtain ⟨hy,h8,hk⟩:=qc9.1 hk;simp only at hk;rw [hL2 h6] at hk;exact ⟨_,_,_,⟨sx,xx,t,dd,E,k,bytes,xs,ys,i0,ids,rfl,rfl,rfl,h4,h5,(show apW h E k (pe s sx) ys xs i0 from h6.elim .inl λq=>.inr ⟨q.1,hy q.2.1,q.2⟩),h7,h8,rfl,rfl,rfl⟩,hk⟩
def qpZ [NL] {f} {xs:List Operand} {ts}:ao P Tb d (.call ⟨.value (.func f),xs.toArray,ts⟩) s h K=@q4j _ P Tb f (q2d h (xs.map (pe s))) ⟨λx ids=>K x h (ids,[])⟩:=by
 unfold ao q4j;refine propext ⟨?_,?_⟩
 .rintro ⟨x,h',fp,⟨al,ids,h1,h2,h3,rfl,rfl⟩,hk⟩;exact ⟨al,ids,x,by simpa using h1,h2,h3,hk⟩
 .rintro ⟨al,ids,x,h1,h2,h3,hk⟩;exact ⟨x,h,(ids,[]),⟨al,ids,by simpa using h1,h2,h3,rfl,rfl⟩,hk⟩
def qfD [NL] (P:Program) (Tb:World->Prop) (h:Hp) (v:PV) (xs:List PV) [K:Cn (PV->List Nat->Prop)]:Prop:=∃ f ys,FnP v f ys/\@q4j _ P Tb f (q2d h (xs ++ ys)) K
def qau [NL] {v:PV} {xs:List PV} {f:FuncId} {ys:List PV} {K:Cn (PV->List Nat->Prop)} (hv:FnP v f ys) (hc:@q4j _ P Tb f (q2d h (xs ++ ys)) K):@qfD _ P Tb h v xs K:=⟨f,ys,hv,hc⟩
def qwy [NL] {f:FuncId}:FnP (.vl (.func (.func f) #[] #[])) f []:=λw D ρ h v hv=>by
 unfold Rd at hv;exact ⟨[],hv,by unfold RdL; rfl⟩
def qbU [NL] {t:Nat} {xs:List Operand} {ts}:ao P Tb d (.call ⟨.value (.tmp t),xs.toArray,ts⟩) s h K=@qfD _ P Tb h (s t) (xs.map (pe s)) ⟨λx ids=>K x h (ids,[])⟩:=by
 unfold ao qfD q4j;refine propext ⟨?_,?_⟩
 .rintro ⟨x,h',fp,⟨f,ys,al,ids,h0,h1,h2,h3,rfl,rfl⟩,hk⟩;exact ⟨f,ys,h0,al,ids,x,by simpa using h1,h2,h3,hk⟩
 .rintro ⟨f,ys,h0,al,ids,x,h1,h2,h3,hk⟩;exact ⟨x,h,(ids,[]),⟨f,ys,al,ids,h0,by simpa using h1,h2,h3,rfl,rfl⟩,hk⟩
def q0T [NL] {f:FuncId} {al:List PV} {x:PV} {K:PV->List Nat->Prop} (hc:AC P Tb f al x) (hk:K x []):@q4j _ P Tb f (some (al,[])) ⟨K⟩:=⟨al,[],x,rfl,hc,.inl rfl,hk⟩
def q3p [NL] {f:FuncId} {al:List PV} {x:PV} {ids:List Nat} {K:PV->List Nat->Prop} (hc:AC P Tb f al x) (hz:Nz x) (hk:K x ids):@q4j _ P Tb f (some (al,ids)) ⟨K⟩:=⟨al,ids,x,rfl,hc,.inr hz,hk⟩
end
attribute [irreducible] cK oK nnK q1U qby vK ldK pgA mkA qaJ qpy qnI qqI qnF qqF qlE qlF ysK qlD qgO q4j qfD ao
section
variable {P:Program} {s:Nat->PV} {h:Hp} {i j:Nat} {k k':Kd} {x y:PV} {l m:List PV} {b:Bk}
def pe_t {t:Nat}:pe s (.tmp t)=s t:=rfl
def pe_c {v:Value}:pe s (.const v)=.vl v:=rfl
def qsW {d:Nat}:q2u s (some d) x=pu s d x:=rfl
def qsX:q2u s none x=s:=rfl
def pu_ap {d t:Nat}:pu s d x t=if t=d then x else s t:=rfl
def qn3:q0P h i b j=if j=i then some b else h j:=rfl
def h0_ap:h0 i=none:=rfl
def enP_z:enP (x :: l) 0=x:=rfl
def enP_s:enP (x :: l) (i+1)=enP l i:=rfl
def stK_c {xs:List (Nat × PV)} {ks:List Nat} {t a:Nat}:stK ((a,x) :: xs) ks s t=if t=a then x else stK xs ks s t:=by
 show (match (if t=a then some x else lkP xs t) with | some x=>x | none=>if kin ks t then s t else .un)=_
 by_cases ht:t=a
 .simp only [ht,if_true]
 .simp only [ht,if_false]; rfl
def stK_n {ks:List Nat} {t:Nat}:stK [] ks s t=if kin ks t then s t else .un:=rfl
def kin_c {ks:List Nat} {t a:Nat}:kin (a :: ks) t=if t=a then true else kin ks t:=rfl
def kin_n {t:Nat}:kin [] t=false:=rfl
def hpK_c {bs:List (Nat × Bk)} {kb:List Nat} {t a:Nat}:hpK ((a,b) :: bs) kb h t=if t=a then some b else hpK bs kb h t:=by
 show (match (if t=a then some b else lkB bs t) with | some b=>some b | none=>if kin kb t then h t else none)=_
 by_cases ht:t=a
 .simp only [ht,if_true]
 .simp only [ht,if_false]; rfl
def hpK_n {kb:List Nat} {t:Nat}:hpK [] kb h t=if kin kb t then h t else none:=rfl
def ksz_n:ksz none=1:=rfl
def ksz_s {n:Nat}:ksz (some n)=n:=rfl
def qrP:qqA h none b=h:=rfl
def qrO {id:Nat}:qqA h (some id) b=q0P h id b:=rfl
def bn_v {op:BinOp} {t:TypeId} {a c:Value}:bnP P op t (.vl a) (.vl c)=(q0q P op t a c).map .vl:=rfl
def qvJ {t:TypeId} {k m:IntKind} {a b c d:Int} (h:q90 P t=true):bnP P .eql t (.ag [.vl (.int k a),.vl (.int m b)]) (.ag [.vl (.int k c),.vl (.int m d)])=some (.vl (.bool (a == c && b == d))):=by
 simp [bnP,q73,q0q,h,prV]
def bn_n {t E:TypeId} {c d:Nat} (hu:P.underlying t=some (.slice E)) (hk:0 < ksz k):bnP P .eql t (.sl k l) (.vl (.slice none c d))=some (.fm (fNil l.length)):=by simp only [bnP,hu]; rw [if_pos hk]
def un_v {op:UnOp} {a:Value}:unP op (.vl a)=(unV op a).map .vl:=rfl
def cv_v {s d:Option TypeDesc} {a:Value}:cvP s d (.vl a)=(qcE s d a).map .vl:=rfl
def pk_t:pkP (.vl (.bool true)) x y=some x:=rfl
def pk_f:pkP (.vl (.bool false)) x y=some y:=rfl
def fld_p {t:TypeId} {f:Nat} {a:Nat}:qqO P t f (.pt a i j)=(q2a P t f).map λr=>.pt a i (j+r.1):=rfl
def ex_t:exP i (.tu l)=l[i]?:=rfl
def nl_p {a:Nat}:nlP (.pt a i j)=some (.pt a i j):=rfl
def nl_q:nlP (.qt k x)=some (.qt k x):=rfl
def mm_v {b:Bool} {a c:Value}:mmP b [.vl a,.vl c]=(mmV b [a,c]).map .vl:=rfl
def qtJ {n:Nat}:qqL (some n) (.sl k l)=some (.vl (.int .i64 l.length)):=rfl
def qtK {n a c d:Nat}:qqL (some n) (.ow a k c d)=some (.vl (.int .i64 d)):=rfl
def qtI {n a c:Nat} {A:Option Addr}:qqL (some n) (.vl (.slice A a c))=some (.vl (.int .i64 a)):=rfl
def qeZ {kk:IntKind} {n:Nat}:qai (some 1) (.sl none l) (.vl (.int kk (n:Int)))=(l[n]?).map (.qt none):=by
 simp [qai,ksz]
def qnS {kk:IntKind} {n c:Nat} (hc:0 < c):qai (some c) (.sl (some c) l) (.vl (.int kk (n:Int)))=(l[n]?).map (.qt (some c)):=by
 simp [qai,ksz,hc]
def qe0 {kk:IntKind} {a off c n:Nat} (hn:n < c):qai (some 1) (.ow a none off c) (.vl (.int kk (n:Int)))=some (.pt a (off+n) 0):=by
 simp [qai,ksz,hn]
def qnU {kk:IntKind} {a off c n e:Nat} (hn:n < c):qai (some e) (.ow a (some e) off c) (.vl (.int kk (n:Int)))=some (.pt a (off+n) 0):=by
 simp [qai,ksz,hn]
def ld_p {a:Nat} {K:PV->List Nat->Prop}:@ldK (ldP h (some k) (.pt a i j)) ⟨K⟩=@ldK ((h a).bind λb=>if b.st=true\/ksz k=0 then none else ((b.xs[i]?).bind (ldU b.k k j)).map λx=>(x,[a])) ⟨K⟩:=by
 congr 1
 cases hh:h a <;> simp [ldP,hh]
def ld_q {K:PV->List Nat->Prop}:@ldK (ldP h (some k) (.qt k' x)) ⟨K⟩=@ldK (if ksz k=0 then none else (ldU k' k 0 x).map λy=>(y,[])) ⟨K⟩:=rfl
def ldU_s:ldU k k 0 x=some x:=by simp [ldU]
def ldU_c {n:Nat}:ldU (some n) none j (.ag l)=l[j]?:=by simp [ldU]
def py_s {o:Oper} {os:List Oper} {b:Bool}:q2k (o :: os) s (j+1) b=q2k os s j b:=rfl
def qhG (b:Bool):PV->Option Bool | .vl (.bool c)=>some c | .vl (.tuple _)=>some (!b) | _=>none
def py_z {d:Nat} {op:Op} {ty:TypeId} {pos:String} {af:Array Edge} {g:Option (Nat × Bool)} {os:List Oper} {b:Bool}:q2k (⟨some d,op,ty,pos,af,g⟩ :: os) s 0 b=qhG b (s d):=rfl
def qmm {b c:Bool}:qhG c (.vl (.bool b))=some b:=rfl
def qmk:qhG true (.vl undef)=some false:=rfl
def qml:qhG false (.vl undef)=some true:=rfl
def qu8:q2d h []=some ([],[]):=rfl
def qu9:q2d h (x :: l)=qfW (clo h x) (q2d h l):=rfl
def qic {a b:List Nat}:qfW (some (x,a)) (some (l,b))=some (x :: l,a ++ b):=rfl
def qua {v:Value}:clo h (.vl v)=some (.vl v,[]):=by simp [clo,q3E,q2z]
def quf {G:Fam}:clo h (.fm G)=some (.fm G,[]):=by simp [clo,q3E,q2z]
def qub:clo h (.sl k l)=some (.sl k l,[]):=by simp [clo,q3E,q2z]
def quc:clo h (.qt k x)=some (.qt k x,[]):=by simp [clo,q3E,q2z]
def qkl:clo h .un=some (.un,[]):=by simp [clo,q3E,q2z]
def qud {a off c:Nat}:clo h (.ow a k off c)=@clB ⟨h⟩ (h a) a k off c:=by simp only [clo,q3E,clB]
def clB_s {a off c:Nat} {T:TypeId}:@clB ⟨h⟩ (some ⟨T,k,l,false⟩) a k off c=@cO2 _ (ClL l) (some (.sl k ((l.drop off).take c),[a])) ⟨(q1V h l).map λr=>(.sl k ((r.1.drop off).take c),a :: r.2)⟩:=by
 unfold clB cO2 ClL;simp only [zE]
 by_cases hc:∀ x ∈ l,Cld x
 .rw [if_pos ⟨rfl,rfl,hc⟩,if_pos hc]
 .rw [if_neg λh=>hc h.2.2,if_neg hc,if_pos σ]
noncomputable def q5n (h:Hp) (n R:Nat) (K:Kd) (f:Nat->Nat):Option (List PV × List Nat):=q1V h ((List.range n).map λj=>.ow (j+R) K 0 (f j))
def clB_T {a off c n R:Nat} {T:TypeId} {K:Kd} {f:Nat->Nat}:@clB ⟨h⟩ (some ⟨T,none,(List.range n).map λj=>.ow (j+R) K 0 (f j),false⟩) a none off c=(q5n h n R K f).map λr=>(.sl none ((r.1.drop off).take c),a :: r.2):=by
 unfold clB q5n;simp only [zE]
 split
 .rename_i hc;have:n=0:=by
   rcases uG n with h | h
   .exact h
   .have:=hc.2.2 _ (List.mem_map_of_mem (yN.2 h));simp [Cld,q2z] at this
  subst this;simp [q1V]
 .rw [if_pos σ]
def cO_t {α:Type} {o:Option α}:cO True o=o:=by simp [cO]
def cO2_t {α:Type} {o:Option α} [Cn (Option α)]:cO2 True o=o:=by simp [cO2]
def qug:clo h (.ag l)=(q3U h l).map λr=>(.ag r.1,r.2):=rfl
def qo0:q3U h []=some ([],[]):=rfl
def qo1:q3U h (x :: l)=qfW (q3E h x) (q3U h l):=rfl
def qo4 {v:Value}:q3E h (.vl v)=some (.vl v,[]):=by simp [q3E,q2z]
def qo8 {G:Fam}:q3E h (.fm G)=some (.fm G,[]):=by simp [q3E,q2z]
def qo5:q3E h (.sl k l)=some (.sl k l,[]):=by simp [q3E,q2z]
def qo6 {a off c:Nat}:q3E h (.ow a k off c)=@clB ⟨h⟩ (h a) a k off c:=by simp only [q3E,clB]
def qlT {v:Value}:Cld (.vl v)=True:=by simp [Cld,q2z]
def qlV {G:Fam}:Cld (.fm G)=True:=by simp [Cld,q2z]
def qlU:Cld (.sl k l)=True:=by simp [Cld,q2z]
def qxA:ClL []=True:=by simp [ClL]
def qxB:ClL (x :: l)=(Cld x/\ClL l):=by simp [ClL]
def qxC:ClL (l ++ m)=(ClL l/\ClL m):=by
 simp only [ClL,zL];exact propext ⟨λh=>⟨λx hx=>h x (.inl hx),λx hx=>h x (.inr hx)⟩,λh x hx=>hx.elim (h.1 x) (h.2 x)⟩
def qpm {α:Type} {f:α->PV} {q:List α}:ClL (q.map f)=∀ a ∈ q,Cld (f a):=by simp [ClL]
def qb2 {α:Type} {f:α->Value} {q:List α}:ClL (q.map λa=>.vl (f a))=True:=by simp [ClL,Cld,q2z]
def qpk {n:Nat}:ClL (List.replicate n x)=(n=0\/Cld x):=by
 simp only [ClL,z7];refine propext ⟨λh=>?_,λh y hy=>?_⟩
 .by_cases hn:n=0
  .exact .inl hn
  .exact .inr (h x ⟨hn,rfl⟩)
 .rw [hy.2]; exact h.resolve_left hy.1
def q5h (hl:ClL l) (hx:Cld x):ClL (l.set i x):=λy hy=>by
 rcases yG hy with h | h
 .exact hl y h
 .rw [h]; exact hx
def rsP_t {t:Nat}:rsP P h s (.tmp t)=some (s t):=rfl
def qpA {t:TypeId} {ps:List (Nat × PV)} {pl:List (Nat × Nat)} {z:List Value} (hp:plc P t=some (pl,z)):blP P t ps=(flP pl (z.map .vl) ps).map .ag:=by unfold blP; rw [hp]; rfl
def qul {acc:List FP}:qoa [] acc=True:=by simp [qoa,chk]
end
instance nNL:NL:=⟨λv=>match v with | .int .u32 _=>false | _=>true,λv h=>by split <;> first | exact absurd rfl (h _) | rfl⟩
end Go.E
namespace Go.Proofs.YtbjoghfmhgadkaaGreatDoor
open Go Go.E
set_option maxRecDepth 100000
def elK22:elK Tryz.prog 22=some (31,none,8):=κ
def elZ22:elZ Tryz.prog 22=some (31,none,8,.vl (.int .u64 0)):=κ
def elK23:elK Tryz.prog 23=some (3,none,8):=κ
def elZ23:elZ Tryz.prog 23=some (3,none,8,.vl (.int .i64 0)):=κ
def elK24:elK Tryz.prog 24=some (32,none,8):=κ
def elZ24:elZ Tryz.prog 24=some (32,none,8,.vl (.int .u64 0)):=κ
def elK84:elK Tryz.prog 84=some (24,none,24):=κ
def elZ84:elZ Tryz.prog 84=some (24,none,24,.vl (.slice none 0 0)):=κ
def elK87:elK Tryz.prog 87=some (46,some 4,48):=κ
def elZ87:elZ Tryz.prog 87=some (46,some 4,48,.ag [.vl (.bool false),.vl (.bool false),.vl (.slice none 0 0),.vl (.int .i64 0)]):=κ
def quB:elK Tryz.prog 131=some (134,none,24):=κ
def qty:elZ Tryz.prog 131=some (134,none,24,.vl (.slice none 0 0)):=κ
def quA:elK Tryz.prog 134=some (4,none,1):=κ
def qtx:elZ Tryz.prog 134=some (4,none,1,.vl (.bool false)):=κ
def qtz:elK Tryz.prog 167=some (87,none,24):=κ
def qtw:elZ Tryz.prog 167=some (87,none,24,.vl (.slice none 0 0)):=κ
def alB3:alB Tryz.prog 3=some ⟨3,none,[.vl (.int .i64 0)],false⟩:=κ
def alB26:alB Tryz.prog 26=some ⟨26,some 5,[.ag [.vl (.int .i64 0),.vl (.int .i64 0),.vl (.slice none 0 0),.vl (.slice none 0 0),.vl (.slice none 0 0)]],false⟩:=κ
def alB28:alB Tryz.prog 28=some ⟨28,some 3,[.ag [.vl (.int .i64 0),.vl (.int .i64 0),.vl (.slice none 0 0)]],false⟩:=κ
def alB34:alB Tryz.prog 34=some ⟨34,some 2,[.ag [.vl (.int .u64 0),.vl (.int .u64 0)]],false⟩:=κ
def alB42:alB Tryz.prog 42=some ⟨42,some 2,[.ag [.vl (.bool false),.vl (.slice none 0 0)]],false⟩:=κ
def alB46:alB Tryz.prog 46=some ⟨46,some 4,[.ag [.vl (.bool false),.vl (.bool false),.vl (.slice none 0 0),.vl (.int .i64 0)]],false⟩:=κ
def alB63:alB Tryz.prog 63=some ⟨63,some 8,[.ag [.vl (.slice none 0 0),.vl (.slice none 0 0),.vl (.slice none 0 0),.vl (.slice none 0 0),.vl (.slice none 0 0),.vl (.slice none 0 0),.vl (.slice none 0 0),.vl (.slice none 0 0)]],false⟩:=κ
def qvg:alB Tryz.prog 133=some ⟨133,some 5,[.ag [.vl (.slice none 0 0),.vl (.slice none 0 0),.vl (.slice none 0 0),.vl (.slice none 0 0),.vl (.slice none 0 0)]],false⟩:=κ
def qvf:alB Tryz.prog 240=some ⟨240,some 5,[.ag [.vl (.bool false),.vl (.bool false),.vl (.slice none 0 0),.vl (.int .i64 0),.vl (.bool false)]],false⟩:=κ
def qve:alB Tryz.prog 273=some ⟨273,some 32,[.ag [.vl (.int .u8 0),.vl (.int .u8 0),.vl (.int .u8 0),.vl (.int .u8 0),.vl (.int .u8 0),.vl (.int .u8 0),.vl (.int .u8 0),.vl (.int .u8 0),.vl (.int .u8 0),.vl (.int .u8 0),.vl (.int .u8 0),.vl (.int .u8 0),.vl (.int .u8 0),.vl (.int .u8 0),.vl (.int .u8 0),.vl (.int .u8 0),.vl (.int .u8 0),.vl (.int .u8 0),.vl (.int .u8 0),.vl (.int .u8 0),.vl (.int .u8 0),.vl (.int .u8 0),.vl (.int .u8 0),.vl (.int .u8 0),.vl (.int .u8 0),.vl (.int .u8 0),.vl (.int .u8 0),.vl (.int .u8 0),.vl (.int .u8 0),.vl (.int .u8 0),.vl (.int .u8 0),.vl (.int .u8 0)]],false⟩:=κ
def qiG:q2a Tryz.prog 26 0=some (0,none):=κ
def qiF:q2a Tryz.prog 26 1=some (1,none):=κ
def qiE:q2a Tryz.prog 26 2=some (2,none):=κ
def qiD:q2a Tryz.prog 26 3=some (3,none):=κ
def qiC:q2a Tryz.prog 26 4=some (4,none):=κ
def qiB:q2a Tryz.prog 28 0=some (0,none):=κ
def qiA:q2a Tryz.prog 28 1=some (1,none):=κ
def qhz:q2a Tryz.prog 28 2=some (2,none):=κ
def qhy:q2a Tryz.prog 34 0=some (0,none):=κ
def qhx:q2a Tryz.prog 34 1=some (1,none):=κ
def qhw:q2a Tryz.prog 42 0=some (0,none):=κ
def qhv:q2a Tryz.prog 42 1=some (1,none):=κ
def qhu:q2a Tryz.prog 46 0=some (0,none):=κ
def qht:q2a Tryz.prog 46 1=some (1,some 2):=κ
def qhs:q2a Tryz.prog 46 2=some (3,none):=κ
def qhr:q2a Tryz.prog 63 0=some (0,none):=κ
def qhq:q2a Tryz.prog 63 1=some (1,none):=κ
def qhp:q2a Tryz.prog 63 2=some (2,none):=κ
def qho:q2a Tryz.prog 63 3=some (3,none):=κ
def qhn:q2a Tryz.prog 63 4=some (4,none):=κ
def qhm:q2a Tryz.prog 63 5=some (5,none):=κ
def qhl:q2a Tryz.prog 63 6=some (6,none):=κ
def qhk:q2a Tryz.prog 63 7=some (7,none):=κ
def qet:q2a Tryz.prog 133 0=some (0,none):=κ
def qes:q2a Tryz.prog 133 1=some (1,none):=κ
def qer:q2a Tryz.prog 133 2=some (2,none):=κ
def qeq:q2a Tryz.prog 133 3=some (3,none):=κ
def qep:q2a Tryz.prog 133 4=some (4,none):=κ
def qeo:q2a Tryz.prog 240 0=some (0,none):=κ
def qen:q2a Tryz.prog 240 1=some (1,some 2):=κ
def qem:q2a Tryz.prog 240 2=some (3,none):=κ
def qel:q2a Tryz.prog 240 3=some (4,none):=κ
def plc26:plc Tryz.prog 26=some ([(0,1),(1,1),(2,1),(3,1),(4,1)],[.int .i64 0,.int .i64 0,.slice none 0 0,.slice none 0 0,.slice none 0 0]):=κ
def plc28:plc Tryz.prog 28=some ([(0,1),(1,1),(2,1)],[.int .i64 0,.int .i64 0,.slice none 0 0]):=κ
def plc34:plc Tryz.prog 34=some ([(0,1),(1,1)],[.int .u64 0,.int .u64 0]):=κ
def plc42:plc Tryz.prog 42=some ([(0,1),(1,1)],[.bool false,.slice none 0 0]):=κ
def plc46:plc Tryz.prog 46=some ([(0,1),(1,2),(3,1)],[.bool false,.bool false,.slice none 0 0,.int .i64 0]):=κ
def plc63:plc Tryz.prog 63=some ([(0,1),(1,1),(2,1),(3,1),(4,1),(5,1),(6,1),(7,1)],[.slice none 0 0,.slice none 0 0,.slice none 0 0,.slice none 0 0,.slice none 0 0,.slice none 0 0,.slice none 0 0,.slice none 0 0]):=κ
def qs1:plc Tryz.prog 240=some ([(0,1),(1,2),(3,1),(4,1)],[.bool false,.bool false,.slice none 0 0,.int .i64 0,.bool false]):=κ
attribute [go_sem] elK22 elZ22 elK23 elZ23 elK24 elZ24 elK84 elZ84 elK87 elZ87 quB qty quA qtx qtz qtw
attribute [go_sem] alB3 alB26 alB28 alB34 alB42 alB46 alB63 qvg qvf qve qiG qiF qiE qiD qiC qiB qiA qhz
attribute [go_sem] qhy qhx qhw qhv qhu qht qhs qhr qhq qhp qho qhn qhm qhl qhk qet qes qer qeq qep
attribute [go_sem] qeo qen qem qel
def qvI {ps:List (Nat × PV)}:blP Tryz.prog 26 ps=(flP [(0,1),(1,1),(2,1),(3,1),(4,1)] ([.int .i64 0,.int .i64 0,.slice none 0 0,.slice none 0 0,.slice none 0 0].map .vl) ps).map .ag:=qpA plc26
def qvH {ps:List (Nat × PV)}:blP Tryz.prog 28 ps=(flP [(0,1),(1,1),(2,1)] ([.int .i64 0,.int .i64 0,.slice none 0 0].map .vl) ps).map .ag:=qpA plc28
def qvG {ps:List (Nat × PV)}:blP Tryz.prog 34 ps=(flP [(0,1),(1,1)] ([.int .u64 0,.int .u64 0].map .vl) ps).map .ag:=qpA plc34
def qvF {ps:List (Nat × PV)}:blP Tryz.prog 42 ps=(flP [(0,1),(1,1)] ([.bool false,.slice none 0 0].map .vl) ps).map .ag:=qpA plc42
def qvE {ps:List (Nat × PV)}:blP Tryz.prog 46 ps=(flP [(0,1),(1,2),(3,1)] ([.bool false,.bool false,.slice none 0 0,.int .i64 0].map .vl) ps).map .ag:=qpA plc46
def qvD {ps:List (Nat × PV)}:blP Tryz.prog 63 ps=(flP [(0,1),(1,1),(2,1),(3,1),(4,1),(5,1),(6,1),(7,1)] ([.slice none 0 0,.slice none 0 0,.slice none 0 0,.slice none 0 0,.slice none 0 0,.slice none 0 0,.slice none 0 0,.slice none 0 0].map .vl) ps).map .ag:=qpA plc63
def qox {ps:List (Nat × PV)}:blP Tryz.prog 240 ps=(flP [(0,1),(1,2),(3,1),(4,1)] ([.bool false,.bool false,.slice none 0 0,.int .i64 0,.bool false].map .vl) ps).map .ag:=qpA qs1
attribute [go_sem] qvI qvH qvG qvF qvE qvD qox
end Go.Proofs.YtbjoghfmhgadkaaGreatDoor
namespace Go.E
open Go Go.RowKit
attribute [go_sem ↓] pu_ap qn3 qxI AL_n AL_g qpW qfs qpV qit qpU qcN q81 qir qcM q9k q80 qiq qv6 fnP_q fnP_2 qis qv5 qv4 qv3 qpY qiu qvc qvb qva qv9 qv8 qpX qcL qfr q8Z qip qft qpZ qbU
attribute [go_sem 2000] clB_T
attribute [go_sem] qst qsr qsu qss lkR_t lkR_f cK_t oK_s nnK_n vK_v ldK_s qs2 qs3 qs4 qs5 mkA_n mkA_z qte qnz qt7 qta qt9 qtb qtf q6K q6L qrL qmC qmB qrN qrM ldU_b qv1 qv0 ysK_v ysK_o ysK_f qvY qvX qvV qvW qvU pe_t pe_c qsW qsX h0_ap enP_z enP_s stK_c stK_n kin_c kin_n hpK_c hpK_n ksz_n ksz_s qrP qrO bn_v un_v cv_v pk_t pk_f fld_p ex_t nl_p nl_q mm_v qtJ qtK qtI qeZ qnS qe0 qnU ld_p ld_q ldU_s ldU_c py_s py_z qmm qmk qml qu8 qu9 qic qua quf qub quc qkl qud clB_s cO_t cO2_t qug qo0 qo1 qo4 qo8 qo5 qo6 qlT qlV qlU qxA qxB qxC qpm qb2 qul
attribute [go_sem] zE Option.bind_none xC yI yL yV xF zO z9 z8 List.length_set List.drop_zero List.nil_append xP and_true true_and implies_true or_false xM List.set_cons_zero List.set_cons_succ List.take_succ_cons List.take_zero List.take_nil List.drop_succ_cons
def q5y:List PV->Nat->PV->Option (List PV)
 | [],_,_=>none
 | _ :: l,0,x=>some (x :: l)
 | y :: l,n+1,x=>(q5y l n x).map λr=>y :: r
def qdY:∀ {l:List PV} {n:Nat} {x:PV},q5y l n x=if n < l.length then some (l.set n x) else none
 | [],n,x=>by simp [q5y]
 | y :: l,0,x=>by simp [q5y]
 | y :: l,n+1,x=>by
  simp only [q5y,qdY (l:=l)]
  by_cases h:n < l.length <;> simp [h]
def qrg {y x:PV} {l:List PV}:q5y (y :: l) 0 x=some (x :: l):=rfl
def qrh {y x:PV} {l:List PV} {n:Nat}:q5y (y :: l) (n+1) x=(q5y l n x).map λr=>y :: r:=rfl
def q86:List PV->Nat->List PV->Option (List PV)
 | cs,0,[]=>some cs
 | _ :: cs,0,y :: l=>(q86 cs 0 l).map λr=>y :: r
 | x :: cs,n+1,l=>(q86 cs n l).map λr=>x :: r
 | [],_,_=>none
def q4L:∀ {cs:List PV} {n:Nat} {l:List PV},0 < l.length->q86 cs n l=if n+l.length<=cs.length then some (cs.take n ++ l ++ cs.drop (n+l.length)) else none
 | [],n,y :: l,_=>by
  cases n <;> simp [q86]
 | x :: cs,0,[y],_=>by simp [q86]
 | x :: cs,0,y :: z :: l,_=>by
  rw [q86,q4L (cs:=cs) (n:=0) (l:=z :: l) σ];simp only [zO]
  by_cases h:l.length+1<=cs.length
  .rw [if_pos ω,if_pos ω]; simp [Nat.add_assoc]
  .rw [if_neg ω,if_neg ω]; rfl
 | x :: cs,n+1,y :: l,hl=>by
  rw [q86,q4L (cs:=cs) (n:=n) hl];simp only [zO]
  by_cases h:n+(l.length+1)<=cs.length
  .rw [if_pos h,if_pos ω];rw [show n+1+(l.length+1)=n+(l.length+1)+1 by omega];simp
  .rw [if_neg h,if_neg ω]; rfl
def qri {cs:List PV}:q86 cs 0 []=some cs:=by cases cs <;> rfl
def qrk {x y:PV} {cs l:List PV}:q86 (x :: cs) 0 (y :: l)=(q86 cs 0 l).map λr=>y :: r:=rfl
def qrj {x:PV} {cs l:List PV} {n:Nat}:q86 (x :: cs) (n+1) l=(q86 cs n l).map λr=>x :: r:=by cases l <;> rfl
def flS (o:Option (Nat × Nat)) (x:PV) (cs:List PV):Option (List PV):=match o with
 | some (off,1)=>match x with
  | .vl y=>if y.oneCell'=true then q5y cs off (.vl y) else none
  | .sl k l=>q5y cs off (.sl k l)
  | .ow id k a n=>q5y cs off (.ow id k a n)
  | .pt id a n=>q5y cs off (.pt id a n)
  | .mp id=>q5y cs off (.mp id)
  | _=>none
 | some (off,m)=>match x with
  | .ag l=>if l.length=m/\off+m<=cs.length then some (cs.take off ++ l ++ cs.drop (off+m)) else none
  | _=>none
 | none=>none
def flP_n {pl:List (Nat × Nat)} {cs:List PV}:flP pl cs []=some cs:=rfl
def flP_c {pl:List (Nat × Nat)} {cs:List PV} {i:Nat} {x:PV} {r:List (Nat × PV)}:flP pl cs ((i,x) :: r)=(flS (pl[i]?) x cs).bind λc=>flP pl c r:=by
 rw [flP];unfold flS;cases pl[i]? with
 | none=>rfl
 | some p =>
  obtain ⟨off,m⟩:=p
  match m with
  | 0=>cases x <;> (try rfl); simp only; split <;> rfl
  | 1 =>
   cases x <;> simp only [qdY] <;> (try rfl)
   case vl y=>by_cases h1:y.oneCell'=true <;> by_cases h2:off < cs.length <;> simp [h1,h2]
   all_goals (by_cases h2:off < cs.length <;> simp [h2])
  | m+2=>cases x <;> (try rfl); simp only; split <;> rfl
def flS_2 {off:Nat} {a b:PV} {cs:List PV}:flS (some (off,2)) (.ag [a,b]) cs=q86 cs off [a,b]:=by
 rw [q4L σ];simp [flS]
def flS_4 {off:Nat} {a b c d:PV} {cs:List PV}:flS (some (off,4)) (.ag [a,b,c,d]) cs=q86 cs off [a,b,c,d]:=by
 rw [q4L σ];simp [flS]
def flS_i {off:Nat} {k:IntKind} {z:Int} {cs:List PV}:flS (some (off,1)) (.vl (.int k z)) cs=q5y cs off (.vl (.int k z)):=rfl
def flS_b {off:Nat} {z:Bool} {cs:List PV}:flS (some (off,1)) (.vl (.bool z)) cs=q5y cs off (.vl (.bool z)):=rfl
def flS_l {off n c:Nat} {A:Option Addr} {cs:List PV}:flS (some (off,1)) (.vl (.slice A n c)) cs=q5y cs off (.vl (.slice A n c)):=rfl
def flS_s {off:Nat} {k:Kd} {l cs:List PV}:flS (some (off,1)) (.sl k l) cs=q5y cs off (.sl k l):=rfl
def flS_m {off id:Nat} {cs:List PV}:flS (some (off,1)) (.mp id) cs=q5y cs off (.mp id):=rfl
def flS_p {off id a n:Nat} {cs:List PV}:flS (some (off,1)) (.pt id a n) cs=q5y cs off (.pt id a n):=rfl
def flS_o {off id a n:Nat} {k:Kd} {cs:List PV}:flS (some (off,1)) (.ow id k a n) cs=q5y cs off (.ow id k a n):=rfl
attribute [go_sem] qrg qrh qri qrk qrj flS_2 flS_4 flP_n flP_c flS_i flS_b flS_l flS_s flS_o flS_m flS_p
def tkm {α β:Type} {f:α->β} {l:List α}:(l.map f).take l.length=l.map f:=yK σ
def qgb {α β:Type} {f:α->β} {l:List α} {n:Nat} (hn:l.length<=n):(l.map f).take n=l.map f:=yK (by simpa using hn)
def tkl {α:Type} {l:List α}:l.take l.length=l:=List.take_length
attribute [go_sem] tkm qgb tkl
def nin (x:Nat):List Nat->Prop
 | []=>True
 | y :: r=>x≠y/\nin x r
def dis (l:List Nat):List Nat->Prop
 | []=>True
 | x :: r=>nin x l/\dis l r
def q6H {x:Nat}:∀ {l:List Nat},nin x l=(x ∉ l)
 | []=>by simp [nin]
 | y :: r=>by simp [nin,q6H (l:=r)]
def qki {l:List Nat}:∀ {r:List Nat},dis l r=∀ x ∈ r,x ∉ l
 | []=>by simp [dis]
 | y :: r=>by simp [dis,q6H,qki (r:=r)]
def nin_n {x:Nat}:nin x []=True:=rfl
def nin_c {x y:Nat} {r:List Nat}:nin x (y :: r)=(x≠y/\nin x r):=rfl
def dis_n {l:List Nat}:dis l []=True:=rfl
def dis_c {l r:List Nat} {x:Nat}:dis l (x :: r)=(nin x l/\dis l r):=rfl
def dj_eq {a b c d:List Nat}:dj (a,b) (c,d)=(dis c b/\dis d b/\dis a d):=by
 simp only [dj,qki];exact propext ⟨λh=>⟨λx hx=>(h.1 x hx).1,λx hx=>(h.1 x hx).2,h.2⟩,λh=>⟨λx hx=>⟨h.1 x hx,h.2.1 x hx⟩,h.2.2⟩⟩
def qum {a b:Nat} {r:List (Nat × Nat)} {acc:List FP}:qoa ((a,b) :: r) acc=(dj (acc.reverse.getD a ([],[])) (acc.reverse.getD b ([],[]))/\qoa r acc):=by
 simp [qoa,chk]
attribute [go_sem] nin_n nin_c dis_n dis_c dj_eq qum List.reverse_cons List.reverse_nil List.cons_append List.getD_cons_zero List.getD_cons_succ Option.toList_some Option.toList_none xD
def qiU [NL] {z:Int} {A:Prop}:q1U none (.vl (.int .i64 z)) A=A:=by rw [qeu]; simp [cK,nlo]
def qiS [NL] {z:Int} {A:Prop}:q1U none (.vl (.int .u64 z)) A=A:=by rw [qeu]; simp [cK,nlo]
attribute [go_sem] qiU qiS quw
section
variable {τ:Nat->Option Nat} {h h':Hp} {x y:PV} {l m:List PV} {k k':Kd}
def qwJ:LeV τ h h' x .un=True:=by simp [LeV.un]
def qlM {a b:Value}:LeV τ h h' (.vl a) (.vl b)=(a=b):=by
 refine propext ⟨λh=>by cases h; rfl,λh=>by subst h; exact .cl (by simp [Cld,q2z])⟩
def qwS {G H:Fam}:LeV τ h h' (.fm G) (.fm H)=(G=H):=by
 refine propext ⟨λh=>by cases h; rfl,λh=>by subst h; exact .cl (by simp [Cld,q2z])⟩
def qwL:LeV τ h h' (.sl k l) (.sl k' m)=(k=k'/\l=m):=by
 refine propext ⟨λh=>by cases h; exact ⟨rfl,rfl⟩,λh=>by obtain ⟨rfl,rfl⟩:=h; exact .cl (by simp [Cld,q2z])⟩
def q3J {i j a b c d:Nat}:LeV τ h h' (.ow j k a b) (.ow i k' c d)=(τ i=some j/\(∃ b,h' i=some b)/\k=k'/\a=c/\b=d):=by
 refine propext ⟨λh=>?_,λ⟨h1,⟨b,h2⟩,h3,h4,h5⟩=>by subst h3; subst h4; subst h5; exact .ow h1 h2⟩;cases h with
 | cl hc=>simp [Cld,q2z] at hc
 | ow h1 h2=>exact ⟨h1,⟨_,h2⟩,rfl,rfl,rfl⟩
def qwO {i j a b c d:Nat}:LeV τ h h' (.pt j a b) (.pt i c d)=(τ i=some j/\(∃ b,h' i=some b)/\a=c/\b=d):=by
 refine propext ⟨λh=>?_,λ⟨h1,⟨b,h2⟩,h4,h5⟩=>by subst h4; subst h5; exact .pt h1 h2⟩;cases h with
 | cl hc=>simp [Cld,q2z] at hc
 | pt h1 h2=>exact ⟨h1,⟨_,h2⟩,rfl,rfl⟩
def q5f {j a b:Nat} {T:TypeId} (hj:h j=some ⟨T,k,l,false⟩) (hc:ClL l) (hn:∀ i,τ i=some j->h' i=none) (he:(l.drop a).take b=m):LeV τ h h' (.ow j k a b) (.sl k m):=by
 subst he;exact .fz hj rfl rfl hc hn
def qlN {i a b:Nat}:LeV τ h h' (.vl (.slice none 0 0)) (.ow i k a b)=(τ i=none/\(∃ b,h' i=some b/\b.k=k)/\a=0/\b=0):=by
 refine propext ⟨λh=>?_,λ⟨h1,⟨b,h2,h3⟩,h4,h5⟩=>by subst h4; subst h5; exact .nilow h1 h2 h3⟩;cases h with
 | nilow h1 h2 h3=>exact ⟨h1,⟨_,h2,h3⟩,rfl,rfl⟩
def qwP:LeV τ h h' (.vl (.slice none 0 0)) (.sl k l)=(l=[]):=by
 refine propext ⟨λh=>by cases h; rfl,λh=>by subst h; exact .nilsl⟩
def qc4 (τ:Nat->Option Nat) (h h':Hp):List PV->List PV->Prop
 | [],[]=>True
 | x :: l,y :: m=>LeV τ h h' x y/\qc4 τ h h' l m
 | _,_=>False
def q7O:∀ {l m:List PV},qc4 τ h h' l m=LeL τ h h' l m
 | [],[]=>by simp [qc4,LeL]
 | x :: l,[]=>by simp [qc4,LeL]
 | [],y :: m=>by simp [qc4,LeL]
 | x :: l,y :: m=>by
  simp only [qc4];rw [q7O (l:=l) (m:=m)];refine propext ⟨λ⟨h1,h2,h3⟩=>⟨by simp [h2],λi a b ha hb=>?_⟩,λ⟨h1,h2⟩=>⟨h2 0 x y rfl rfl,by simpa using h1,λi a b ha hb=>h2 (i+1) a b (by simpa using ha) (by simpa using hb)⟩⟩;cases i with
  | zero=>simp at ha hb; subst ha; subst hb; exact h1
  | succ i=>exact h3 i a b (by simpa using ha) (by simpa using hb)
def qgB:LeV τ h h' (.ag l) (.ag m)=qc4 τ h h' l m:=by
 rw [q7O];refine propext ⟨λh=>?_,λ⟨h1,h2⟩=>.ag h1 h2⟩;cases h with
 | cl hc=>exact ⟨rfl,λi a b ha hb=>by rw [ha] at hb; cases hb; have:=hc a (zF ha); exact .cl (by cases a <;> simp_all [Cld,q2z])⟩
 | ag h1 h2=>exact ⟨h1,h2⟩
def qwK:LeV τ h h' (.tu l) (.tu m)=qc4 τ h h' l m:=by
 rw [q7O];refine propext ⟨λh=>?_,λ⟨h1,h2⟩=>.tu h1 h2⟩;cases h with
 | cl hc=>simp [Cld,q2z] at hc
 | tu h1 h2=>exact ⟨h1,h2⟩
def qwT:qc4 τ h h' [] []=True:=rfl
def q2r:qc4 τ h h' (x :: l) (y :: m)=(LeV τ h h' x y/\qc4 τ h h' l m):=rfl
def qwU {s:Nat->PV}:q4l τ h h' s []=True:=rfl
def qwV {s:Nat->PV} {t:Nat} {r:List (Nat × PV)}:q4l τ h h' s ((t,x) :: r)=(LeV τ h h' (s t) x/\q4l τ h h' s r):=rfl
def qwW {s s0:Nat->PV}:LeSk τ h h' s s0 []=True:=rfl
def qwX {s s0:Nat->PV} {t:Nat} {r:List Nat}:LeSk τ h h' s s0 (t :: r)=(LeV τ h h' (s t) (s0 t)/\LeSk τ h h' s s0 r):=rfl
def qwf:qcR τ h h' []=True:=rfl
def qwg {t:Nat} {b:Bk} {r:List (Nat × Bk)}:qcR τ h h' ((t,b) :: r)=(LeB τ h h' t b/\qcR τ h h' r):=rfl
def qwj {hb:Hp}:LeBk τ h h' hb []=True:=rfl
def qwk {hb:Hp} {t:Nat} {r:List Nat}:LeBk τ h h' hb (t :: r)=((∀ b,hb t=some b->LeB τ h h' t b)/\LeBk τ h h' hb r):=rfl
def qqv {i a:Nat} {o:Option Nat} {r:List (Nat × Option Nat)}:q0n ((a,o) :: r) i=if i=a then o else q0n r i:=rfl
def qqu {i:Nat}:q0n [] i=some i:=rfl
def LeB' (o:Option Nat) (τ:Nat->Option Nat) (h h':Hp) (b':Bk):Prop :=
 match o with
 | some j=>∃ b,h j=some b/\b'.T=b.T/\b'.k=b.k/\(b'.st=false/\b.st=false)/\LeL τ h h' b.xs b'.xs
 | none=>b'.xs=[]
def qwm {i:Nat} {b':Bk}:LeB τ h h' i b'=LeB' (τ i) τ h h' b':=rfl
def LeBb (o:Option Bk) (τ:Nat->Option Nat) (h h':Hp) (b':Bk):Prop:=∃ b,o=some b/\b'.T=b.T/\b'.k=b.k/\(b'.st=false/\b.st=false)/\LeL τ h h' b.xs b'.xs
def qwn {j:Nat} {b':Bk}:LeB' (some j) τ h h' b'=LeBb (h j) τ h h' b':=rfl
def qwo {T:TypeId} {st:Bool}:LeB' none τ h h' ⟨T,k,l,st⟩=(l=[]):=rfl
def qwl {T T':TypeId} {st st':Bool}:LeBb (some ⟨T,k,l,st⟩) τ h h' ⟨T',k',m,st'⟩=(T'=T/\k'=k/\(st'=false/\st=false)/\LeL τ h h' l m):=by simp [LeBb]
def q0R (he:l=m) (hc:ClL m):LeL τ h h' l m:=by
 subst he;exact ⟨rfl,λi a b ha hb=>by rw [ha] at hb; cases hb; exact .cl (hc a (zF ha))⟩
def q9q:LeL τ h h' [x] [y]=LeV τ h h' x y:=by rw [<- q7O]; simp [qc4]
def qlr:q76 τ []=True:=rfl
def qjX (τ:Nat->Option Nat) (i:Nat):List Nat->Prop
 | []=>True
 | j :: r=>(i=j\/τ i=none\/τ i≠τ j)/\qjX τ i r
def qcr {i:Nat}:∀ {r:List Nat},qjX τ i r=∀ j ∈ r,i=j\/τ i=none\/τ i≠τ j
 | []=>by simp [qjX]
 | j :: r=>by simp only [qjX,qcr (r:=r),List.forall_mem_cons]
def qqx {i:Nat}:qjX τ i []=True:=rfl
def qqy {i j:Nat} {r:List Nat}:qjX τ i (j :: r)=((i=j\/τ i=none\/τ i≠τ j)/\qjX τ i r):=rfl
def qls {i:Nat} {r:List Nat}:q76 τ (i :: r)=(qjX τ i r/\q76 τ r):=by rw [qcr]; rfl
def quF {i:Nat} {b:Bk} {bs:List (Nat × Bk)} {kb:List Nat}:dom1 ((i,b) :: bs) kb=i :: dom1 bs kb:=rfl
def quE {kb:List Nat}:dom1 [] kb=kb:=rfl
end
section
variable {P:Program} {Tb:World->Prop} {J:Nat->Prop} {n:Nat} {Q:SQ} {s:Nat->PV} {h:Hp}
def qgP [NL] {id:Nat} {l:List Oper} {b:Code} (hw:∀ K:(Nat->PV)->Hp->Prop,(∀ s h,AW P Tb J n b Q s h->K s h)->AL P Tb l (λs h _=>K s h) l s h []):AW P Tb J n (.seq (.region id l.toArray false) b) Q s h :=
 q4C λK hK=>qlX λK1 hK1=>hw K1 λs h hb=>hK1 s h (hK s h hb)
def Az {id:Nat} {l:List Oper} {b:Code} {s1:Nat->PV} {h1:Hp}  (k:AW P Tb J n b Q s1 h1) (ee:∀ K:(Nat->PV)->Hp->Prop,AL P Tb l (λs h _=>K s h) l s h []=K s1 h1:=by intro K; simp -implicitDefEqProofs (disch:=omega) only [go_sem,Nat.reduceEqDiff,Nat.reduceAdd,↓reduceIte]; exact rfl):AW P Tb J n (.seq (.region id l.toArray false) b) Q s h:=qgP λK hK=>(ee K).mpr (hK _ _ k)
def Az1 {id:Nat} {l:List Oper} {b:Code} {s1:Nat->PV} {h1:Hp} {F1:Prop} (f1:F1) (k:AW P Tb J n b Q s1 h1) (ee:F1->∀ K:(Nat->PV)->Hp->Prop,AL P Tb l (λs h _=>K s h) l s h []=K s1 h1:=by intro g1 K; simp -implicitDefEqProofs (disch:=omega) only [go_sem,Nat.reduceEqDiff,Nat.reduceAdd,↓reduceIte,g1]; exact rfl):AW P Tb J n (.seq (.region id l.toArray false) b) Q s h:=qgP λK hK=>(ee f1 K).mpr (hK _ _ k)
def Az2 {id:Nat} {l:List Oper} {b:Code} {s1:Nat->PV} {h1:Hp} {F1 F2:Prop} (f1:F1) (f2:F2) (k:AW P Tb J n b Q s1 h1) (ee:F1->F2->∀ K:(Nat->PV)->Hp->Prop,AL P Tb l (λs h _=>K s h) l s h []=K s1 h1:=by intro g1 g2 K; simp -implicitDefEqProofs (disch:=omega) only [go_sem,Nat.reduceEqDiff,Nat.reduceAdd,↓reduceIte,g1,g2]; exact rfl):AW P Tb J n (.seq (.region id l.toArray false) b) Q s h:=qgP λK hK=>(ee f1 f2 K).mpr (hK _ _ k)
def Az3 {id:Nat} {l:List Oper} {b:Code} {s1:Nat->PV} {h1:Hp} {F1 F2 F3:Prop} (f1:F1) (f2:F2) (f3:F3) (k:AW P Tb J n b Q s1 h1) (ee:F1->F2->F3->∀ K:(Nat->PV)->Hp->Prop,AL P Tb l (λs h _=>K s h) l s h []=K s1 h1:=by intro g1 g2 g3 K; simp -implicitDefEqProofs (disch:=omega) only [go_sem,Nat.reduceEqDiff,Nat.reduceAdd,↓reduceIte,g1,g2,g3]; exact rfl):AW P Tb J n (.seq (.region id l.toArray false) b) Q s h:=qgP λK hK=>(ee f1 f2 f3 K).mpr (hK _ _ k)
def Az4 {id:Nat} {l:List Oper} {b:Code} {s1:Nat->PV} {h1:Hp} {F1 F2 F3 F4:Prop} (f1:F1) (f2:F2) (f3:F3) (f4:F4) (k:AW P Tb J n b Q s1 h1) (ee:F1->F2->F3->F4->∀ K:(Nat->PV)->Hp->Prop,AL P Tb l (λs h _=>K s h) l s h []=K s1 h1:=by intro g1 g2 g3 g4 K; simp -implicitDefEqProofs (disch:=omega) only [go_sem,Nat.reduceEqDiff,Nat.reduceAdd,↓reduceIte,g1,g2,g3,g4]; exact rfl):AW P Tb J n (.seq (.region id l.toArray false) b) Q s h:=qgP λK hK=>(ee f1 f2 f3 f4 K).mpr (hK _ _ k)
def Az5 {id:Nat} {l:List Oper} {b:Code} {s1:Nat->PV} {h1:Hp} {F1 F2 F3 F4 F5:Prop} (f1:F1) (f2:F2) (f3:F3) (f4:F4) (f5:F5) (k:AW P Tb J n b Q s1 h1) (ee:F1->F2->F3->F4->F5->∀ K:(Nat->PV)->Hp->Prop,AL P Tb l (λs h _=>K s h) l s h []=K s1 h1:=by intro g1 g2 g3 g4 g5 K; simp -implicitDefEqProofs (disch:=omega) only [go_sem,Nat.reduceEqDiff,Nat.reduceAdd,↓reduceIte,g1,g2,g3,g4,g5]; exact rfl):AW P Tb J n (.seq (.region id l.toArray false) b) Q s h:=qgP λK hK=>(ee f1 f2 f3 f4 f5 K).mpr (hK _ _ k)
def Az6 {id:Nat} {l:List Oper} {b:Code} {s1:Nat->PV} {h1:Hp} {F1 F2 F3 F4 F5 F6:Prop} (f1:F1) (f2:F2) (f3:F3) (f4:F4) (f5:F5) (f6:F6) (k:AW P Tb J n b Q s1 h1) (ee:F1->F2->F3->F4->F5->F6->∀ K:(Nat->PV)->Hp->Prop,AL P Tb l (λs h _=>K s h) l s h []=K s1 h1:=by intro g1 g2 g3 g4 g5 g6 K; simp -implicitDefEqProofs (disch:=omega) only [go_sem,Nat.reduceEqDiff,Nat.reduceAdd,↓reduceIte,g1,g2,g3,g4,g5,g6]; exact rfl):AW P Tb J n (.seq (.region id l.toArray false) b) Q s h:=qgP λK hK=>(ee f1 f2 f3 f4 f5 f6 K).mpr (hK _ _ k)
def A_sd [NL] {id:Nat} {l:List Oper} {b:Code} (prs:List (Nat × Nat)) (hm:P.follows .mixedOrders=true) (hok:q93 l (qkO [] l) prs=true) (hw:∀ K:(Nat->PV)->Hp->Prop,(∀ s h,AW P Tb J n b Q s h->K s h)->AL P Tb l (λs h acc=>qoa prs acc/\K s h) l s h []):AW P Tb J n (.seq (.region id l.toArray true) b) Q s h :=
 q4C λK hK=>qgK prs hm hok λK1 hK1=>hw K1 λs h hb=>hK1 s h (hK s h hb)
def A_ld [NL] {id:Nat} {l:List Oper} (prs:List (Nat × Nat)) (hm:P.follows .mixedOrders=true) (hok:q93 l (qkO [] l) prs=true) (hw:∀ K:(Nat->PV)->Hp->Prop,(∀ s h,Q .normal s h->K s h)->AL P Tb l (λs h acc=>qoa prs acc/\K s h) l s h []):AW P Tb J n (.region id l.toArray true) Q s h:=qgK prs hm hok hw
def stM_c {xs kv:List (Nat × PV)} {t a:Nat} {x:PV}:stM ((a,x) :: xs) kv t=if t=a then x else stM xs kv t:=rfl
def stM_n {kv:List (Nat × PV)} {t:Nat}:stM [] kv t=stV kv t:=rfl
def stV_c {kv:List (Nat × PV)} {t a:Nat} {x:PV}:stV ((a,x) :: kv) t=if t=a then x else stV kv t:=rfl
def stV_n {t:Nat}:stV [] t=.un:=rfl
def hpM_c {bs:List (Nat × Bk)} {kb:List (Nat × Option Bk)} {i a:Nat} {b:Bk}:hpM ((a,b) :: bs) kb i=if i=a then some b else hpM bs kb i:=rfl
def hpM_n {kb:List (Nat × Option Bk)} {i:Nat}:hpM [] kb i=hpV kb i:=rfl
def hpV_c {kb:List (Nat × Option Bk)} {i a:Nat} {b:Option Bk}:hpV ((a,b) :: kb) i=if i=a then b else hpV kb i:=rfl
def hpV_n {i:Nat}:hpV [] i=none:=rfl
def qwh {τ:Nat->Option Nat} {h h':Hp}:q8d τ h h' []=True:=rfl
def qwi {τ:Nat->Option Nat} {h h':Hp} {i:Nat} {T:TypeId} {k:Kd} {l:List PV} {st:Bool} {r:List (Nat × Option Bk)}:q8d τ h h' ((i,some ⟨T,k,l,st⟩) :: r)=(LeB τ h h' i ⟨T,k,l,st⟩/\q8d τ h h' r):=by simp [q8d]
attribute [go_sem ↓] stM_c stM_n stV_c stV_n hpM_c hpM_n hpV_c hpV_n
attribute [go_sem] qwh qwi
def qm4 (o:Option (List PV × List Nat)) (r:PV):Prop:=match o with | some (al,_)=>LeV (λ_=>none) h0 h0 (mkR al) r | none=>False
def qsD {x r:PV} {l:List Nat}:qm4 (some ([x],l)) r=LeV (λ_=>none) h0 h0 x r:=rfl
def qsE {r:PV} {l:List Nat}:qm4 (some ([],l)) r=LeV (λ_=>none) h0 h0 (.tu []) r:=rfl
def qsC {x y r:PV} {m:List PV} {l:List Nat}:qm4 (some (x :: y :: m,l)) r=LeV (λ_=>none) h0 h0 (.tu (x :: y :: m)) r:=rfl
def rsL_n:rsL P h s []=some []:=rfl
def rsC (h:Hp) (k:Option Kd) (p:PV):Option PV:=(ldP h k p).map (·.1)
def rsP_l {a t:Nat}:rsP P h s (.cell a t)=rsC h (q09 P t) (s a):=rfl
def rsC_p {k:Kd} {a i j:Nat}:rsC h (some k) (.pt a i j)=(h a).bind λb=>if b.st=true\/ksz k=0 then none else (b.xs[i]?).bind (ldU b.k k j):=by
 have e:ldP h (some k) (.pt a i j)=(h a).bind λb=>if b.st=true\/ksz k=0 then none else ((b.xs[i]?).bind (ldU b.k k j)).map λx=>(x,[a]):=by
  cases hh:h a <;> simp [ldP,hh]
 unfold rsC;rw [e];cases h a with
 | none=>rfl
 | some b =>
  simp only [zE]
  by_cases hc:b.st=true\/ksz k=0
  .rw [if_pos hc,if_pos hc]; rfl
  .rw [if_neg hc,if_neg hc];cases (b.xs[i]?).bind (ldU b.k k j) <;> rfl
def rsB (a:Option PV) (b:Option (List PV)):Option (List PV):=a.bind λx=>b.map λy=>x :: y
def rsL_c {r:ResultVar} {l:List ResultVar}:rsL P h s (r :: l)=rsB (rsP P h s r) (rsL P h s l):=rfl
def rsB_s {x:PV} {l:List PV}:rsB (some x) (some l)=some (x :: l):=rfl
def rt {fn:Func} {r:PV} {rs:List ResultVar} (hr:fn.results.toList=rs) (hlen:(decide (rs.length<=4))=true) (hk:qm4 ((rsL P h s rs).bind (q2d h)) r) {x:Exit} (hx:x=.ret\/x=.normal):retA P fn r x s h:=by
 refine ⟨hx,by rw [hr]; simpa using hlen,?_⟩;rw [hr];cases h1:rsL P h s rs with
 | none=>rw [h1] at hk; exact hk.elim
 | some l =>
  rw [h1,zE] at hk;cases h2:q2d h l with
  | none=>rw [h2] at hk; exact hk.elim
  | some p=>rw [h2] at hk; exact ⟨l,p.1,p.2,rfl,h2,hk⟩
def A_t [NL] {c:Operand} {a b:Code} (hc:pe s c=.vl (.bool true)) (ha:AW P Tb J n a Q s h):AW P Tb J n (.cond c a b) Q s h:=qgL hc (λ_=>ha) (λh=>by cases h)
def A_f [NL] {c:Operand} {a b:Code} (hc:pe s c=.vl (.bool false)) (hb:AW P Tb J n b Q s h):AW P Tb J n (.cond c a b) Q s h:=qgL hc (λh=>by cases h) (λ_=>hb)
end
attribute [go_sem] qsD qsE qsC rsL_n rsL_c rsB_s rsP_t rsP_l rsC_p qwJ qlM qwS qwL q3J qwO qlN qwP qgB qwK qwT q2r qwU qwV qwW qwX qwf qwg qwj qwk qqv qqu qwm qwn qwo qwl q9q qlr qls quF quE qqx qqy ne_eq not_false_eq_true or_true true_or xR.injEq Value.int.injEq Value.bool.injEq Option.map_none exists_eq' false_or and_self reduceCtorEq
end Go.E
namespace Go.Proofs.YtbjoghfmhgadkaaGreatDoor
open Go Go.E Go.Sp
abbrev iv (z:Int):PV:=.vl (.int .i64 z)
abbrev uv (z:Int):PV:=.vl (.int .u64 z)
abbrev bv (b:Bool):PV:=.vl (.bool b)
abbrev q05:PV:=.vl (.slice none 0 0)
abbrev pI (l:List Int):PV:=.sl none (l.map λz=>iv z)
abbrev pF (l:List Nat):PV:=.sl none (l.map λz:Nat=>uv z)
abbrev pB (l:List Bool):PV:=.sl none (l.map bv)
abbrev pV (V:Int):PV:=.fm (fV V)
abbrev ACt [NL] (f:FuncId) (al:List PV) (r:PV):Prop:=AC Tryz.prog q5i f al r
section
variable {τ:Nat->Option Nat} {h h':Hp}
def qjK {l m:List Value}:LeL τ h h' (l.map .vl) (m.map .vl)=(l=m):=by
 refine propext ⟨λ⟨h1,h2⟩=>?_,λh=>by subst h; exact q0R rfl (by simp [ClL,Cld,q2z])⟩
 apply yB
 intro i
 rcases uF i l.length with hi | hi
 .have hm:i < m.length:=by simp at h1; omega
  have:=h2 i (.vl l[i]) (.vl m[i]) (by simp [hi]) (by simp [hm]);rw [qlM] at this;rw [zD hi,zD hm,this]
 .rw [v7 hi,v7 (by simp at h1; omega)]
def q7P {α:Type} {f:α->Value} (hf:∀ a b,f a=f b->a=b) {l m:List α}:LeL τ h h' (l.map λz=>.vl (f z)) (m.map λz=>.vl (f z))=(l=m):=by
 have h1:=qjK (τ:=τ) (h:=h) (h':=h') (l:=l.map f) (m:=m.map f);rw [yZ,yZ] at h1;refine Eq.trans h1 (propext ⟨λh=>?_,λh=>by rw [h]⟩);exact List.map_inj_right hf |>.1 h
def inj_i:∀ a b:Int,Value.int .i64 a=Value.int .i64 b->a=b:=λa b h=>by injection h
def inj_u:∀ a b:Nat,Value.int .u64 a=Value.int .u64 b->a=b:=λa b h=>by injection h with _ h; omega
def inj_b:∀ a b:Bool,Value.bool a=Value.bool b->a=b:=λa b h=>by injection h
def qcQ {l m:List Int}:LeL τ h h' (l.map λz=>iv z) (m.map λz=>iv z)=(l=m):=q7P inj_i
def qgC {l m:List Nat}:LeL τ h h' (l.map λz:Nat=>uv z) (m.map λz:Nat=>uv z)=(l=m):=q7P (f:=λz:Nat=>Value.int .u64 z) inj_u
def qjL {l m:List Bool}:LeL τ h h' (l.map λz=>bv z) (m.map λz=>bv z)=(l=m):=q7P inj_b
def qw9 {m:List Int}:LeL τ h h' [] (m.map λz=>iv z)=([]=m):=qcQ (l:=[])
def qw4 {m:List Nat}:LeL τ h h' [] (m.map λz:Nat=>uv z)=([]=m):=qgC (l:=[])
def qwe {m:List Bool}:LeL τ h h' [] (m.map λz=>bv z)=([]=m):=qjL (l:=[])
def qwb {x:Int} {m:List Int}:LeL τ h h' [iv x] (m.map λz=>iv z)=([x]=m):=qcQ (l:=[x])
def qwa {x:Int} {l m:List Int}:LeL τ h h' ((l.map λz=>iv z) ++ [iv x]) (m.map λz=>iv z)=(l ++ [x]=m):=by
 have:=qcQ (τ:=τ) (h:=h) (h':=h') (l:=l ++ [x]) (m:=m)
 rwa [List.map_append] at this
def qw5 {x:Nat} {l m:List Nat}:LeL τ h h' ((l.map λz:Nat=>uv z) ++ [uv x]) (m.map λz:Nat=>uv z)=(l ++ [x]=m):=by
 have:=qgC (τ:=τ) (h:=h) (h':=h') (l:=l ++ [x]) (m:=m)
 rwa [List.map_append] at this
def qw7 {x:Int} {k:Nat} {l m:List Int}:LeL τ h h' ((l.map λz=>iv z).set k (iv x)) (m.map λz=>iv z)=(l.set k x=m):=by
 have:=qcQ (τ:=τ) (h:=h) (h':=h') (l:=l.set k x) (m:=m)
 rwa [xQ] at this
def qw2 {x:Nat} {k:Nat} {l m:List Nat}:LeL τ h h' ((l.map λz:Nat=>uv z).set k (uv x)) (m.map λz:Nat=>uv z)=(l.set k x=m):=by
 have:=qgC (τ:=τ) (h:=h) (h':=h') (l:=l.set k x) (m:=m)
 rwa [xQ] at this
def qwc {x:Bool} {k:Nat} {l m:List Bool}:LeL τ h h' ((l.map λz=>bv z).set k (bv x)) (m.map λz=>bv z)=(l.set k x=m):=by
 have:=qjL (τ:=τ) (h:=h) (h':=h') (l:=l.set k x) (m:=m)
 rwa [xQ] at this
def qw3 {n:Nat} {m:List Nat}:LeL τ h h' (List.replicate n (uv 0)) (m.map λz:Nat=>uv z)=(List.replicate n 0=m):=by
 have:=qgC (τ:=τ) (h:=h) (h':=h') (l:=List.replicate n 0) (m:=m)
 rwa [uB] at this
def qw8 {n:Nat} {x:Int} {m:List Int}:LeL τ h h' (List.replicate n (iv x)) (m.map λz=>iv z)=(List.replicate n x=m):=by
 have:=qcQ (τ:=τ) (h:=h) (h':=h') (l:=List.replicate n x) (m:=m)
 rwa [uB] at this
def qwd {n:Nat} {x:Bool} {m:List Bool}:LeL τ h h' (List.replicate n (bv x)) (m.map λz=>bv z)=(List.replicate n x=m):=by
 have:=qjL (τ:=τ) (h:=h) (h':=h') (l:=List.replicate n x) (m:=m)
 rwa [uB] at this
attribute [go_sem] qcQ qgC qjL qw9 qw4 qwe qwb qwa qw5 qw7 qw2 qwc qw3 qw8 qwd exists_eq_left' forall_eq'
end
def qaD (w w':World) (hx:Ext w w') (hT:q5i w):q5i w':=hT.ext hx
def act [NL] {f:FuncId} {fn:Func} {c:Code} {al:List PV} {r:PV} (hc:q0J Tryz.prog f=true) (hf:Tryz.prog.funcs[f]?=some fn) (hb:fn.body=some c) {n:Nat} (hn:fn.ntmps=n) (hd:(decide (al.length<=n) && q6x n c)=true)
  (hw:AW Tryz.prog q5i (λ_=>False) n c (retA Tryz.prog fn r) (enP al) h0):ACt f al r:=AC_of hc hf hb hn hd qaD hw
end Go.Proofs.YtbjoghfmhgadkaaGreatDoor
namespace Go.E
open Go Go.RowKit
section
variable {P:Program} {Tb:World->Prop} {J:Nat->Prop} {n:Nat} {Q:SQ} {s:Nat->PV} {h:Hp}
def qj7:∀ {kv:List (Nat × PV)},(∀ p ∈ kv,p.2=s p.1)->∀ t,stV kv t=s t\/stV kv t=.un
 | [],_,_=>.inr rfl
 | p :: l,hk,t=>by
  unfold stV
  split
  .rename_i ht; subst ht; exact .inl (hk p zR)
  .exact qj7 (λq hq=>hk q (zJ _ hq)) t
def q4X [NL] {c:Code} (ks:List Nat) {kv:List (Nat × PV)} (hk:(ks.map λt=>(t,s t))=kv) (hw:AW P Tb J n c Q (stV kv) h):AW P Tb J n c Q s h:=q1g (s':=stV kv) (h':=h) (λD0 w0 ρ e w _ S=>⟨ρ,S.inj,S.own,S.vir,λt=>by
  rcases qj7 (s:=s) (kv:=kv) (λp hp=>by
   rw [<- hk] at hp;obtain ⟨t,_,rfl⟩:=yF.1 hp
   rfl) t with h | h
  .rw [h]; exact S.rd t
  .rw [h]; unfold Rd; trivial,S.ext,S.fr,S.imp,S.pin⟩) hw
def qnT {kk:IntKind} {l:List PV}:qai (some 1) (.sl none l) (.vl (.int kk 0))=(l[0]?).map (.qt none):=qeZ (n:=0)
def qnV {kk:IntKind} {a off c:Nat} (hn:0 < c):qai (some 1) (.ow a none off c) (.vl (.int kk 0))=some (.pt a off 0):=qe0 (n:=0) hn
def fldQ (r:Nat × Kd) (l:List PV):Option PV:=match r.2 with
 | none=>(l[r.1]?).map (.qt none)
 | some m=>if r.1+m<=l.length/\0 < m then some (.qt (some m) (.ag ((l.drop r.1).take m))) else none
def qt1 {t:TypeId} {f n:Nat} {l:List PV}:qqO P t f (.qt (some n) (.ag l))=(q2a P t f).bind λr=>fldQ r l:=by unfold qqO fldQ; rfl
def qt4 {o:Nat} {l:List PV}:fldQ (o,none) l=(l[o]?).map (.qt none):=rfl
attribute [go_sem] qnT qnV qt1 qt4 zE
end
end Go.E
