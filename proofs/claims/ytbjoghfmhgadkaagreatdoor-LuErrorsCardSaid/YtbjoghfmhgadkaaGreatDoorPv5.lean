/- LuBounded and LuErrors are proved. 5/6. -/
import Derived.Test.YtbjoghfmhgadkaaGreatDoorPv4
open Bool renaming not_false->yJ,false_and->yK,and_false->yL,not_true->yQ,true_and->yR,and_true->yS
open Int renaming toNat_natCast->zU,natAbs_natCast->zY,pow_add->yH,mul_assoc->uY,reduceLT->uZ,reduceEq->u6,sign_eq_neg_one_of_neg->y9,mul_left_comm->xE,sign_eq_one_of_pos->xJ,mul_comm->xU
open List renaming getElem?_eq_getElem->zA,getD_eq_getElem?_getD->zB,getElem?_map->zC,not_mem_nil->zD,getElem?_eq_some_iff->zE,mem_cons->zF,mem_of_getElem?->zG,getElem?_range->zH,mem_range->zI,map_cons->zJ,getElem?_eq_none->zK,length_map->zM,map_congr_left->zO,pairwise_iff_getElem->zP,map_append->zQ,mem_map->zR,take_of_length_le->zV,length_range->zW,ext_getElem?->zX,mem_filter->u7,length_append->u9,getElem?_concat_length->tB,map_nil->tD,range_succ->z7,length_filter_le->z8,mem_iff_getElem?->z9,filter_append->yA,filter_congr->yC,getElem?_set->yE,getElem_mem->yF,length_take->yG,drop_zero->yN,getElem?_append_left->yO,mem_cons_self->yU,map_singleton->yV,getElem?_cons_succ->yX,getElem?_replicate->yY,filter_cons->tE,getElem?_take->xA,append_assoc->xC,length_erase_of_mem->xF,idxOf_lt_length_iff->xG,getElem?_cons_zero->xI,getElem_cons_drop->xK,map_map->xL,mem_append->xN,mem_cons_of_mem->xO,idxOf_eq_length->xP,mem_append_left->xQ,pairwise_cons->xT
open Nat renaming zero_le->zN,le_refl->zS,mul_le_mul->z6,mul_assoc->yB,le_trans->tF,zero_add->yZ,mul_le_mul_right->y7,le_of_eq->y8,le_of_mul_le_mul_right->xB,pow_add->xD,mul_le_mul_left->xS,add_mul->xV,one_mul->xW
open Option renaming getD_some->zL,map_some->tG,ne_none_iff_exists'->yI,some->yM,some_ne_none->yP,bind_eq_some_iff->yW,bind_some->y6,getD_none->xH,map_eq_some_iff->xM
set_option linter.unusedSimpArgs false
set_option linter.unusedVariables false
set_option maxRecDepth 20000
set_option maxHeartbeats 2000000
set_option linter.defProp false
namespace Go.E
open Go Go.RowKit
def q5k {B:Hp} {i:Nat}:∀ {L:List (Nat × Bk)},hpG L B i≠none->B i≠none\/i ∈ L.map (·.1)
 | [],h=>.inl h
 | p :: L,h=>by
  unfold hpG at h
  split at h
  .rename_i e; exact .inr (by rw [zJ,e]; exact yU)
  .exact (q5k h).imp id λhm=>by rw [zJ]; exact xO _ hm
def mkR_t {a b:PV} {l:List PV}:mkR (a :: b :: l)=.tu (a :: b :: l):=rfl
attribute [go_sem] mkR_t
end Go.E
namespace Go.Proofs.YtbjoghfmhgadkaaGreatDoor
open Go Go.E Go.Sp
section
variable {F:Nat->Nat->Option Nat} {S:LuS} {n j k:Nat} {H:Hp}
def qb4:∀ (m:Nat) (q:LuS),upS F S j k m=some q->q.l=S.l/\q.iL=S.iL/\q.rows=S.rows/\∀ a b,b≠k->q.u a b=S.u a b/\q.iU a b=S.iU a b
 | 0,q,h=>by unfold upS at h; cases h; exact ⟨rfl,rfl,rfl,λ_ _ _=>⟨rfl,rfl⟩⟩
 | m+1,q,h=>by
  unfold upS at h;obtain ⟨t,ht,h⟩:=yW.1 h;obtain ⟨q1,q2,q3,q4⟩:=qb4 m t ht
  split at h
  .cases h;exact ⟨q1,q2,q3,λa b hb=>⟨(if_neg λe=>hb e.2).trans (q4 a b hb).1,(if_neg λe=>hb e.2).trans (q4 a b hb).2⟩⟩
  .cases h
noncomputable def upG (F:Nat->Nat->Option Nat) (S:LuS) (j k:Nat):Nat->Nat->Option (List Int)
 | 0=>g0 F j
 | m+1=>match upS F S j k m with
  | none=>upG F S j k m
  | some q=>if luZ F q.l q.u (S.rows.getD m 0) j k m=0 then upG F S j k m else gU S m (fR 0 (luZ F q.l q.u (S.rows.getD m 0) j k m)) (upG F S j k m)
def uT (q:LuS) (k m:Nat):List Nat:=(List.range m).filter λt=>q.iU t k
def uR (S q:LuS) (k m:Nat):List Nat:=(uT q k m).map λt=>S.rows.getD t 0
def uV (q:LuS) (k m:Nat):List Nat:=(uT q k m).map λt=>q.u t k
def uT_s {q:LuS} {m:Nat} {v:Nat} {b:Bool}:uT { q with u:=q23 q.u m k v,iU:=q8D q.iU m k b } k (m+1)=if b then uT q k m ++ [m] else uT q k m:=by
 unfold uT;rw [z7,yA];have e:(List.range m).filter (λt=>q8D q.iU m k b t k)=(List.range m).filter λt=>q.iU t k:=yC λt ht=>if_neg λh=>by have:=zI.1 ht; omega
 have e2:q8D q.iU m k b m k=b:=if_pos ⟨rfl,rfl⟩;dsimp only;rw [e,tE,e2];cases b <;> simp
def uR_s {q:LuS} {m:Nat} {v:Nat} {b:Bool}:uR S { q with u:=q23 q.u m k v,iU:=q8D q.iU m k b } k (m+1)=if b then uR S q k m ++ [S.rows.getD m 0] else uR S q k m:=by
 unfold uR;rw [uT_s];cases b <;> simp
def uV_s {q:LuS} {m:Nat} {v:Nat} {b:Bool}:uV { q with u:=q23 q.u m k v,iU:=q8D q.iU m k b } k (m+1)=if b then uV q k m ++ [v] else uV q k m:=by
 unfold uV;rw [uT_s];have e:(uT q k m).map (λt=>q23 q.u m k v t k)=(uT q k m).map λt=>q.u t k:=zO λt ht=>if_neg λh=>by
  have:=zI.1 (u7.1 ht).1; omega
 dsimp only;cases b
 .rw [if_neg σ,if_neg σ,e]
 .rw [if_pos rfl,if_pos rfl,zQ,e];simp [q23]
def qiE {q:LuS} {m:Nat}:(uT q k m).length<=m:=tF (z8 _ _) σ
def q9E {q:LuS} {m:Nat}:(uR S q k m).length=(uT q k m).length:=by unfold uR; simp
def qiD {q:LuS} {m:Nat}:(uV q k m).length=(uT q k m).length:=by unfold uV; simp
noncomputable def upM (F:Nat->Nat->Option Nat) (S:LuS) (j k:Nat):Nat->Nat × LuS
 | 0=>(0,S)
 | m+1=>match upS F S j k (m+1) with
  | some q=>(m+1,q)
  | none=>upM F S j k m
def q4N {q:LuS}:∀ {m:Nat},upS F S j k m=some q->upM F S j k m=(m,q)
 | 0,h=>by unfold upS at h; cases h; rfl
 | m+1,h=>by rw [upM,h]
def qb5 {q:LuS} {m:Nat} (h1:upS F S j k m=some q) (h2:upS F S j k (m+1)=none):∀ c,m<=c->upM F S j k c=(m,q)
 | 0,hc=>by
  obtain rfl:m=0:=ω
  exact q4N h1
 | c+1,hc=>by
  by_cases e:m=c+1
  .subst e; exact q4N h1
  .rw [upM,q5x h2 (c+1) ω];exact qb5 h1 h2 c Oq
def upX' (S:LuS) (k:Nat) (p:Nat × LuS) (e:Int):PV:=.tu [.ag [.ow 5061 none 0 (uR S p.2 k p.1).length,.ow 5062 none 0 (uR S p.2 k p.1).length],iv e]
noncomputable def upX (F:Nat->Nat->Option Nat) (S:LuS) (j k:Nat):PV:=upX' S k (upM F S j k k) (match upS F S j k k with | none=>233 | some _=>0)
def qoK (S:LuS) (k n:Nat) (p:Nat × LuS) (g:Nat->Option (List Int)) (H:Hp):Hp:=hpG [(5061,inB (uR S p.2 k p.1)),(5062,flB (uV p.2 k p.1)),(5050,cuB),(5051,mpB (cM sD g n))] H
noncomputable def upH (F:Nat->Nat->Option Nat) (S:LuS) (n j k:Nat) (H:Hp):Hp:=qoK S k n (upM F S j k k) (upG F S j k (upM F S j k k).1) H
def qhO (hB:BOk H win) {x:PV} (hx:IdP (λ_=>False) x):BOk (hpG [(5050,cuB),(5051,⟨0,some 0,[x],false⟩)] H) win:=qbN hB λp hp=>by
 simp only [zF,zD,or_false] at hp
 rcases hp with rfl | rfl
 .refine ⟨⟨ω,ω⟩,rfl,IdL.of λx hx=>?_⟩;simp at hx;subst hx;unfold IdP;refine IdL.of λx hx=>?_;simp at hx;subst hx;unfold IdP;exact q1C (.inr σ)
 .refine ⟨⟨ω,ω⟩,rfl,IdL.of λx' hx'=>?_⟩;simp at hx';subst hx';exact q3d (λ_ h=>h.elim) _ hx
def q81 {l:List (Int × PV)} (hl:∀ p ∈ l,Cld p.2):IdP (λ_=>False) (.tu (mpL l)):=by
 unfold IdP;refine IdL.of λx hx=>?_;unfold mpL at hx;obtain ⟨p,hp,rfl⟩:=zR.1 hx;unfold mPv IdP;exact IdL.of λx hx=>by
  simp at hx
  rcases hx with rfl | rfl
  .unfold IdP; trivial
  .exact q07 (hl p hp)
def qb2 (hB:BOk H win) {rs vs:List Nat} {x:PV} (hx:IdP (λ_=>False) x):BOk (hpG [(5061,inB rs),(5062,flB vs),(5050,cuB),(5051,⟨0,some 0,[x],false⟩)] H) win:=qbN (L:=[(5061,inB rs),(5062,flB vs)]) (qhO hB hx) λp hp=>by
 simp only [zF,zD,or_false] at hp
 rcases hp with rfl | rfl
 .exact ⟨⟨ω,ω⟩,rfl,IdL.of λx hx=>q07 (q8C x hx)⟩
 .exact ⟨⟨ω,ω⟩,rfl,IdL.of λx hx=>q07 (qtU x hx)⟩
def qkK (h:TOk F n n) (hn:n<=100) (hl:q4E S.l) (hu:q4E S.u) (hz:∀ i m,S.iL i m=false->ofZ (S.l i m)=0) (hr:∀ x ∈ S.rows,x < n) (hk:S.rows.length=k) (hkn:k < n) (hj:j < n)
  {ms mi:List Int} {mv:List Nat} {r0 r1 r4 r5:PV} (hB:BOk H win) (hsp:∀ i,5050<=i->i < 5070->H i=none) (hW:H 5000=some (wkB n ms mi mv [r0,r1,.ow 5002 none 0 k,.ow 5003 none 0 k,r4,r5])) (h2:H 5002=some (inB S.rows)) (h3:H 5003=some ⟨216,none,(List.range k).map λm=>.fm (q9x (dM S n m)),false⟩) :
  qeh 175 [.pt 5000 0 0,.pt 5050 0 0] (hpG [(5050,cuB),(5051,mpB (cM sD (g0 F j) n))] H) (upX F S j k) (upH F S n j k H):=by
 have hbw:∀ i,H i≠none->(5000<=i/\i < 1000000)/\¬ (5050<=i/\i < 5070):=λi hi=>by
  obtain ⟨b,hb⟩:=yI.1 hi;exact ⟨(hB.b i b hb).1,λh=>hi (hsp i h.1 h.2)⟩
 have hlo:∀ i,i < 5000->H i=none:=λi hi=>Classical.byContradiction λhq=>by
  have:=(hbw i hq).1;omega
 have b1:BOk (hpG [(5050,cuB),(5051,mpB (cM sD (g0 F j) n))] H) win:=qhO hB (q81 q3D);have hF:∀ i,i < n->q0L ((F j i).getD 0):=λi hi=>(h.fin hj hi).1;have hbo:BOk (upH F S n j k H) win:=by
  unfold upH qoK;exact qb2 hB (q81 q3D)
 have hiU:∀ i b,hpG [(5050,cuB),(5051,mpB (cM sD (g0 F j) n))] H i=some b->∃ b',upH F S n j k H i=some b'/\b'.k=b.k/\b.xs.length<=b'.xs.length:=λi b hb=>by
  rcases q1f hb with q | ⟨q1,q2⟩
  .simp only [zF,zD,or_false,Prod.mk.injEq] at q
   rcases q with ⟨rfl,rfl⟩ | ⟨rfl,rfl⟩ <;> exact ⟨_,rfl,rfl,zS _⟩
  .have:=hbw i (by rw [q2]; exact yP _);refine ⟨b,?_,rfl,zS _⟩;unfold upH qoK;rw [q71 (by simp; omega)];exact q2
 refine qen qj1 Tryz.func175 rfl Tryz.ntmps175 κ ?_ ?_ ?_ ?_
 .exact λi b hb=>⟨(b1.hi i b hb).1,(b1.hi i b hb).2.1,(b1.hi i b hb).2.2.1,hiU i b hb⟩
 .exact hbo.ho
 .exact IdL.of λx hx=>by
   simp at hx
   rcases hx with rfl | rfl <;> unfold IdP <;> exact ⟨ω,ω⟩
 clear hbo hiU;have hJn:∀ i,hpG [(5050,cuB),(5051,mpB (cM sD (g0 F j) n))] H i≠none->¬ (5052<=i/\i < 5070):=λi hi hq=>by
  rcases q5k hi with q | q
  .have:=(hbw i q).2; omega
  .simp at q; omega
 unfold upX upH;have l4:=hlo 4 Oq;have l6:=hlo 6 Oq;refine wk1 (x3 hW l4 l6) ?_;refine q0l (λq:Nat × LuS=>q.1<=k/\upS F S j k q.1=some q.2/\TmOk F S.l q.2.u j k q.1 n (upG F S j k q.1)/\q4E q.2.u) [0,1,4,14,15] [4] Lk Lk (λq=>[(16,iv q.1),(6,.pt 5060 0 0)]) (λ_=>[]) (λq=>hpG [(5060,lnB 5061 5062 (uR S q.2 k q.1).length),(5061,inB (uR S q.2 k q.1)),(5062,flB (uV q.2 k q.1)),(5050,cuB),(5051,mpB (cM sD (upG F S j k q.1) n))] H) (λq=>k-q.1) (0,S) ⟨zN _,rfl,TmOk.zero hF,hu⟩ ?_ ?_
 .refine LeG [(5060,some 6),(5061,none),(5062,none)] rfl (λi hi=>?_) hB (λi hi=>?_) (λi hi hm=>?_) (λp hp=>?_) (by simp [loN,win]) (by simp [q2i,q04,win]) ?_
  .have:=hJn i hi;simp [q04,show i≠5060 by omega,show i≠5061 by omega,show i≠5062 by omega]
  .have:=hbw i hi;simp [q04,show i≠5060 by omega,show i≠5061 by omega,show i≠5062 by omega]
  .have hq_:=hbw i hi
   try simp only [zJ,tD,zF,zD,or_false,not_or] at hm
   repeat (first | rw [q0A ω] | rw [q0Q ⟨ω,ω⟩] | rw [q1G,if_neg ω] | rw [q15])
  .simp only [zF,zD,or_false] at hp
   rcases hp with rfl | rfl | rfl | rfl | rfl <;> exact ⟨ω,ω⟩
  .try refine Zz1 hW ?_
   refine ⟨rfl,⟨_,h2⟩,rfl,rfl,rfl,?_⟩;rw [q0a];exact q18 q3D
 .rintro ⟨m,q⟩ ⟨hm,hq,hT,hqu⟩;simp only at hm hq hT hqu ⊢;obtain ⟨ql,qiL,qr,_⟩:=qb4 m q hq
  by_cases hlt:m < k
  .have hlt':(m:Int) < k:=ω
   obtain ⟨i,hi⟩:∃ i,S.rows[m]?=some i:=⟨_,zA Oq⟩;have hin:=hr i (zG hi);have hgi:S.rows.getD m 0=i:=getD_some hi;have rm:(List.range k)[m]?=some m:=zH hlt;have hlk:q05 (cM sD (upG F S j k m) n) (i:Int)=((upG F S j k m) i).map sD:=by rw [q7k,if_pos hin]
   have hVd:=qri (F:=F) (i:=i) (j:=j) (k:=k) (m:=m) hl hqu (hF i hin) Oq;have hsum:=hT.s i hin;have hlen:=hT.c i hin;have hbd:=hT.b i hin;have hqs:upS F S j k (m+1)=if q0L (fR 0 (luZ F S.l q.u i j k m)) then some { q with u:=q23 q.u m k (fR 0 (luZ F S.l q.u i j k m)),iU:=q8D q.iU m k (decide (luZ F S.l q.u i j k m≠0)) } else none:=by rw [upS,hq,y6,hgi,ql]
   have hgs:upG F S j k (m+1)=if luZ F S.l q.u i j k m=0 then upG F S j k m else gU S m (fR 0 (luZ F S.l q.u i j k m)) (upG F S j k m):=by rw [upG,hq]; simp only [hgi,ql]
   obtain ⟨V,hV⟩:∃ V,V=luZ F S.l q.u i j k m:=⟨_,rfl⟩;rw [<- hV] at hVd hsum hqs hgs;have bW:BOk (hpG [(5060,lnB 5061 5062 (uR S q k m).length),(5061,inB (uR S q k m)),(5062,flB (uV q k m)),(5050,cuB),(5051,mpB (cM sD (upG F S j k m) n))] H) win:=qah (qhO hB (q81 q3D)) ⟨ω,ω⟩ ⟨ω,ω⟩ Oq;refine wk1 (x5 hW h2 hlt' hi rm) ?_;refine A_jW [(0,.pt 5000 0 0),(1,.pt 5050 0 0),(4,.pt 4 0 0),(6,.pt 5060 0 0),(7,iv m),(8,iv i),(9,.pt 9 0 0),(14,.ow 5002 none 0 k),(15,iv k),(16,iv m)] [(4,⟨205,some 2,[.ag [q1R,q1R]],false⟩),(9,⟨46,some 4,[dT V],false⟩)] (hpG [(5060,lnB 5061 5062 (uR S q k m).length),(5061,inB (uR S q k m)),(5062,flB (uV q k m)),(5050,cuB),(5051,mpB (cM sD (upG F S j k m) n))] H) ?_ λK0 fin=>?_
   rotate_left
   .cases hgc:upG F S j k m i with
    | none =>
     rw [hgc] at hlk hsum;have hV0:V=0:=hsum.symm;have CS:=qih (q5r (l:=[]) σ (λx hx=>by cases hx) (by rw [q3M]; simp [q00,q0m]));rw [q3M,<- hV0] at CS;refine q5q λK hK=>?_;simp -implicitDefEqProofs (disch:=omega) only [go_sem,Nat.reduceEqDiff,Nat.reduceAdd,↓reduceIte,i64_in,yQ,yJ,zW,yZ,uZ,u6,zY,yR,yK,yS,yL,q52,q53,q57,q58,q54,q55,q1p,q1q,q1r,q1s,q1n,q1o,hlk,Option.map_none,xH,h2];refine q0K CS ?_
     try refine Zz ?_
     refine hK _ _ ?_; clear hK K;refine q_n ?_;refine fin _ _ ?_;refine LeW [] rfl rfl ?_ ?_ (by simp [q2A,q04,win]) ?_
     .exact Ow
     .exact q0h bW
     .try simp -implicitDefEqProofs (disch:=omega) only [go_sem,Nat.reduceEqDiff,Nat.reduceAdd,↓reduceIte,hW,h2]
    | some L =>
     rw [hgc] at hlk hsum hlen hbd;simp only [zL] at hsum hlen hbd;have CS:=q5r (l:=L) ω (λx hx=>by have:=hbd x hx; unfold q00; omega) (by rw [hsum]; exact hVd);rw [hsum] at CS;refine q5q λK hK=>?_;simp -implicitDefEqProofs (disch:=omega) only [go_sem,Nat.reduceEqDiff,Nat.reduceAdd,↓reduceIte,i64_in,yQ,yJ,zW,yZ,uZ,u6,zY,yR,yK,yS,yL,q52,q53,q57,q58,q54,q55,q1p,q1q,q1r,q1s,q1n,q1o,hlk,tG,zL,h2];refine q0K CS ?_
     try refine Zz ?_
     refine hK _ _ ?_; clear hK K;refine q_n ?_;refine fin _ _ ?_;refine LeW [] rfl rfl ?_ ?_ (by simp [q2A,q04,win]) ?_
     .exact Ow
     .exact q0h bW
     .try simp -implicitDefEqProofs (disch:=omega) only [go_sem,Nat.reduceEqDiff,Nat.reduceAdd,↓reduceIte,hW,h2]
   .have CG:=q3G hVd
    by_cases hV0:V=0
    .have qz:(V.sign == 0)=true:=by rw [hV0]; rfl
     have f00:fR 0 V=0:=by rw [hV0]; exact if_pos rfl
     obtain ⟨q',hq'⟩:∃ q',q'=({ q with u:=q23 q.u m k (fR 0 V),iU:=q8D q.iU m k (decide (V≠0)) }:LuS):=⟨_,rfl⟩;have eR:uR S q' k (m+1)=uR S q k m:=by rw [hq',uR_s,if_neg (by simp [hV0])]
     have eV:uV q' k (m+1)=uV q k m:=by rw [hq',uV_s,if_neg (by simp [hV0])]
     have eG:upG F S j k (m+1)=upG F S j k m:=by rw [hgs,if_pos hV0]
     refine wk1 qz ?_;refine ⟨(m+1,q'),⟨by simp only; omega,?_,?_,?_⟩,by simp only; omega,?_⟩
     .rw [hqs,if_pos (by rw [f00]; unfold q0L; simp),hq']
     .simp only;rw [eG,hq'];simp only;rw [f00];exact hT.skip
     .rw [hq'];simp only;rw [f00];exact q3X hqu (by unfold q0L; simp) ω
     .simp only;rw [eR,eV,eG];refine LeW [] rfl rfl ?_ ?_ (by simp [q2A,q04,win]) ?_
      .exact Ow
      .exact q0h bW
      .try refine Zz2 hW h2 ?_
       omega
    .have qz:(V.sign == 0)=false:=by simpa using hV0
     have CR:=q77 hVd;have hvl:fR 0 V < 18446744073709551616:=q4u;have CF:=q4w hvl
     by_cases hf:q0L (fR 0 V)
     .rw [decide_eq_true hf] at CF;obtain ⟨q',hq'⟩:∃ q',q'=({ q with u:=q23 q.u m k (fR 0 V),iU:=q8D q.iU m k (decide (V≠0)) }:LuS):=⟨_,rfl⟩;have eR:uR S q' k (m+1)=uR S q k m ++ [i]:=by rw [hq',uR_s,if_pos (by simp [hV0]),hgi]
      have eV:uV q' k (m+1)=uV q k m ++ [fR 0 V]:=by rw [hq',uV_s,if_pos (by simp [hV0])]
      have eG:upG F S j k (m+1)=gU S m (fR 0 V) (upG F S j k m):=by rw [hgs,if_neg hV0]
      have eT:TmOk F S.l q'.u j k (m+1) n (upG F S j k (m+1)):=by rw [eG,hq']; exact hT.step (hz · m) hl hf
      have eQ:upS F S j k (m+1)=some q':=by rw [hqs,if_pos hf,hq']
      have eF:q4E q'.u:=by rw [hq']; exact q3X hqu hf hvl
      have hls:(uR S q k m).length<=m:=by rw [q9E]; exact qiE
      have hle:(uV q k m).length=(uR S q k m).length:=by rw [q9E,qiD]
      have bB:BOk (hpG [(5050,cuB),(5051,mpB (cM sD (upG F S j k m) n))] H) win:=qhO hB (q81 q3D);have hsp':∀ i,5060<=i->i < 5070->hpG [(5050,cuB),(5051,mpB (cM sD (upG F S j k m) n))] H i=none:=λi h1 h2=>by rw [q71 (by simp; omega)]; exact hsp i ω h2
      have CA:=qnj (rs:=uR S q k m) (vs:=uV q k m) (row:=i) (v:=fR 0 V) bB hsp' Oq hle;have hJ2:∀ {L:List (Nat × Bk)} {l:List (Int × PV)} (i:Nat),hpG [(5050,cuB),(5051,mpB (cM sD (g0 F j) n))] H i≠none->hpG L (hpG [(5050,cuB),(5051,mpB l)] H) i≠none:=λi hi=>q1C (.inl (q1C ((q5k hi).imp id λh=>by simpa using h)));have bW2:=qah (rs:=uR S q k m ++ [i]) (vs:=uV q k m ++ [fR 0 V]) (k:=(uR S q k m).length+1) bB (a:=5063) (b:=5064) ⟨ω,ω⟩ ⟨ω,ω⟩ Oq;have CS:=qa4 (S:=S) (n:=n) (m:=m) (v:=fR 0 V) (g:=upG F S j k m) bW2 rfl rfl hl ⟨hf,hvl⟩ (λi hi=>by have:=hT.c i hi; omega);have CO:=q7M (q78 hvl (q1S hf)) (q5f hf);refine wk1 qz ?_;refine qbS λK hK=>?_;refine Zz1 hW ?_;refine jx CA (by repeat (first | exact q2j | exact qeo | refine qhm ω ?_)) (λi hi _=>hJ2 i hi) (Dd_2 (q6f hsp') ?_ ?_) ?_
      .repeat (refine qaS ?_ (by first | (unfold IdP; first | trivial | omega) | simp [IdP,IdL]))
       exact qe7 (by simp [IdL,IdP]) (by simp [IdL,IdP])
      .repeat (refine qaU ?_ rfl (by simp [IdL,IdP]))
       exact qhv (qed (by simp [IdL,IdP]) (by simp [IdL,IdP]))
      try refine Zz ?_
      refine hK _ _ ?_; clear hK K;refine qvt q83 (.one 0 (.one 1 (.one 5 (.one 8 (.alt (.one 2 (.one 3 (.alt (.one 4 (.one 6 (.alt (.one 7 (.one 9 (.one 10 .fin))) (.one 9 (.one 7 (.one 10 .fin)))))) (.one 9 (.one 4 (.one 6 (.one 7 (.one 10 .fin)))))))) (.one 9 (.one 2 (.one 3 (.one 4 (.one 6 (.one 7 (.one 10 .fin)))))))))))) κ λK9 hK9=>?_;refine Zz3 hW h3 rm ?_
      repeat' (with_reducible apply And.intro)
      all_goals
       refine jc ?_
       try refine Zz ?_
       refine q0K CO ?_
       try refine Zz3 hW h3 rm ?_
       refine jm CS (by repeat (first | exact q2j | exact qeo | refine qhm ω ?_)) (λi hi _=>hJ2 i hi) ?_
       try refine Zz ?_
       refine hK9 _ _ ?_;clear hK9 K9
       repeat (first | refine i_n ?_ | refine q_n ?_)
       refine wk ?_;refine ⟨(m+1,q'),⟨by simp only; omega,eQ,eT,eF⟩,by simp only; omega,?_⟩;simp only;rw [eR,eV,eG];refine LeG [(5061,some 5063),(5062,some 5064)] rfl (λi hi=>?_) hB (λi hi=>?_) (λi hi hm=>?_) (λp hp=>?_) (by simp [loN,win]) (by simp [q2i,q04,win,hsp]) ?_
       .have:=hJn i hi;simp [q04,show i≠5061 by omega,show i≠5062 by omega]
       .have:=hbw i hi;simp [q04,show i≠5061 by omega,show i≠5062 by omega]
       .have hq_:=hbw i hi
        try simp only [zJ,tD,zF,zD,or_false,not_or] at hm
        repeat (first | rw [q0A ω] | rw [q0Q ⟨ω,ω⟩] | rw [q1G,if_neg ω] | rw [q15])
       .simp only [zF,zD,or_false] at hp
        rcases hp with rfl | rfl | rfl | rfl | rfl <;> exact ⟨ω,ω⟩
       .try refine Zz2 hW h2 ?_
        refine ⟨ω,q0J rfl q8C,?_⟩;rw [q0a];exact q18 q3D
     .rw [decide_eq_false hf] at CF;have hno:upS F S j k (m+1)=none:=by rw [hqs,if_neg hf]
      rw [qb5 hq hno k ω,q5x hno k ω];simp only;unfold upX' qoK;refine wk1 qz ?_;refine (rtM (rs:=[.cell 4 205,.tmp 5]) rfl rfl Lq ?_ (.inl rfl));refine qbL [] rfl (λ_ _=>rfl) hB (λ_ _=>rfl) (λi hi hm=>?_) (by simp [q2i,q04,win]) ?_
      .have hq_:=hbw i hi
       try simp only [zJ,tD,zF,zD,or_false,not_or] at hm
       repeat (first | rw [q0A ω] | rw [q0Q ⟨ω,ω⟩] | rw [q1G,if_neg ω] | rw [q15])
      .try refine Zz ?_
       refine ⟨q0J rfl q8C,?_⟩;rw [q0a];exact q18 q3D
  .obtain rfl:k=m:=ω
   rw [q4N hq,hq];simp only;unfold upX' qoK;refine wk1 hW ?_;refine (rtM (rs:=[.cell 4 205,.tmp 5]) rfl rfl Lq ?_ (.inl rfl));refine qbL [] rfl (λ_ _=>rfl) hB (λ_ _=>rfl) (λi hi hm=>?_) (by simp [q2i,q04,win]) ?_
   .have hq_:=hbw i hi
    try simp only [zJ,tD,zF,zD,or_false,not_or] at hm
    repeat (first | rw [q0A ω] | rw [q0Q ⟨ω,ω⟩] | rw [q1G,if_neg ω] | rw [q15])
   .try refine Zz ?_
    refine ⟨q0J rfl q8C,?_⟩;rw [q0a];exact q18 q3D
end
end Go.Proofs.YtbjoghfmhgadkaaGreatDoor
namespace Go.Sp
open Go.E
end Go.Sp
namespace Go.Proofs.YtbjoghfmhgadkaaGreatDoor
open Go Go.E Go.Sp
section
variable {neg inx:Bool} {q:Nat} {e p mode:Int}
end
def qlJ {f:Nat} (hf:f < 18446744073709551616) (h:q0L f):((ofZ f).natAbs:Int)=ofZ (q2M f):=by
 have h1:q2M f / 4503599627370496 % 2048=f / 4503599627370496 % 2048:=by unfold q2M; omega
 have h2:q2M f % 4503599627370496=f % 4503599627370496:=by unfold q2M; omega
 have hn:¬ 9223372036854775808<=q2M f:=by have:=qe5 (f:=f); omega
 unfold q0L at h;have e:∀ x:Option Int,x.getD 0=x.getD 0:=λ_=>rfl;unfold ofZ ofF;rw [h1,if_neg h,if_neg h,h2,decide_eq_false hn];have key:∀ (b:Bool) (m k:Nat),((sgn b m*(2:Int) ^ k).natAbs:Int)=sgn false m*(2:Int) ^ k:=λb m k=>by
  rw [q0E]
  push_cast
  congr 1
  cases b <;> simp [sgn]
 split
 .exact key _ _ _
 .exact key _ _ _
def qqM {a b:Int} (h:b < a):(a-b).sign=1:=xJ Oq
def qqL {a b:Int} (h:¬ b < a):¬ (a-b).sign > 0:=λq=>by
 rcases Int.lt_or_eq_of_le (Int.not_lt.1 h) with h | h
 .rw [y9 ω] at q; omega
 .rw [show a-b=0 by omega] at q; exact absurd q (by decide)
def qje {v:Nat} (h:q0L v):bl (abZ v).natAbs<=66560:=by
 unfold abZ;rw [zY];exact ofZ_t h
section
variable {F:Nat->Nat->Option Nat} {n r c R C:Nat} {v:List Nat}
def qc1:q8B=(2:Int) ^ 65536:=by
 have h:=q6S (z:=1) (by have:=q0M (n:=Int.natAbs 1) (k:=1) (by decide); omega);rw [q4g.1] at h;have h:=yM.inj h;rw [Int.one_mul] at h;exact h
end
section
variable {A B V z:Int} {v:Nat}
def q40 (h1 : -9223372036854775808<=z) (h2:z<=9223372036854775807) (hv:mkV z 0=some V):ACt 66 [iv z] (dT V):=by
 have hz:bl z.natAbs<=64:=q0M (Nat.lt_of_le_of_lt (show z.natAbs<=9223372036854775808 by omega) (by decide));have C1:=@q2H;have C2:=q4M (m:=z) (e:=0) rfl Oq Oq Oq hv;refine ac0 Tryz.func66 Tryz.ntmps66 [.cell 2 46] ?_;exact wk trivial
def qeu:ACt 66 [iv 0] (dT 0):=q40 Oq Oq (q10 _)
def q79 (h1:v < 18446744073709551616) (h2:q0L v):ACt 113 [uv (q2M v:Nat)] (dT (abZ v)):=by
 have:=q78 (f:=q2M v) (by have:=qe5 (f:=v); omega) (q1S (qhl h2))
 rwa [<- qlJ h1 h2] at this
end
abbrev enP (Z:Nat->Int) (i:Nat):PV:=.ag [iv i,bv false,bv (decide (od (Z i) < 0)),.fm (fL (od (Z i))),iv (dyE (Z i)),uv (fR 0 (Z i):Nat)]
section
variable {g:Nat->Option (List Int)} {Z:Nat->Int} {rows:List Nat} {n m:Nat} {H:Hp}
def qoa {L:List Nat}:ClL (L.map (enP Z)):=λx hx=>by
 obtain ⟨i,_,rfl⟩:=zR.1 hx;intro y hy;simp at hy
 rcases hy with rfl | rfl | rfl | rfl | rfl | rfl <;> trivial
open Classical in
noncomputable def opX (rows:List Nat) (Z:Nat->Int) (n:Nat):PV:=if ∀ i,i < n->i ∉ rows->q0L (fR 0 (Z i)) then .tu [.sl (some 6) ((opR rows Z n).map (enP Z)),iv 0] else .tu [.un,iv 233]
def qrA (hn:n<=100) (hm:m<=200) (hs:∀ i,i < n->q1Z ((g i).getD [])=Z i) (hc:∀ i,i < n->((g i).getD []).length<=m+1) (hb:∀ i,i < n->∀ x ∈ (g i).getD [],bl x.natAbs<=67600)
  {ms mi:List Int} {mv:List Nat} {r0 r2 r3 r4 r5:PV} (hB:BOk H win) (hW:H 5000=some (wkB n ms mi mv [r0,.ow 5001 none 0 n,r2,r3,r4,r5])) (h1:H 5001=some ⟨3,none,plL rows n,false⟩) (h2:H 5050=some cuB) (h3:H 5051=some (mpB (cM sD g n))) :
  qeh 176 [.pt 5000 0 0,.pt 5050 0 0] H (opX rows Z n) H:=by
 have hd:∀ i,i < n->q00 (Z i):=λi hi=>by rw [<- hs i hi]; exact q7C (hb i hi) (by have:=hc i hi; omega)
 have hbw:∀ i,H i≠none->5000<=i/\i < 1000000:=λi hi=>by
  obtain ⟨b,hb⟩:=yI.1 hi;exact (hB.b i b hb).1
 have hpl:(plL rows n).length=n:=by unfold plL; simp
 refine qen qj0 Tryz.func176 rfl Tryz.ntmps176 κ ?_ ?_ ?_ ?_
 .exact hB.hi
 .exact hB.ho
 .exact IdL.of λx hx=>by
   simp at hx
   rcases hx with rfl | rfl <;> unfold IdP <;> exact ⟨ω,ω⟩
 refine wk1 hW ?_;refine q0l (λi:Nat=>i<=n/\∀ c,c < i->c ∉ rows->q0L (fR 0 (Z c))) [0,1,14] [] Lk Lk (λi:Nat=>[(15,iv i),(6,.ow 1001 (some 6) 0 (opR rows Z i).length)]) (λi=>[(1001,⟨214,some 6,(opR rows Z i).map (enP Z),false⟩)]) (λ_=>H) (λi=>n-i) 0 ⟨zN _,λc hc=>by omega⟩ ?_ ?_
 .refine LeW [(1001,none)] rfl rfl ?_ ?_ (by simp [q2A,q04,win]) ?_
  .exact Ow
  .exact q0h hB
  .try refine Zz2 hW h2 ?_
   exact ⟨⟨rfl,rfl⟩,rfl⟩
 .rintro i ⟨hi,hfin⟩;have hol:=qc0 (rows:=rows) (z:=Z) (m:=i)
  by_cases hlt:i < n
  .have hlt':(i:Int) < n:=ω
   have rp:(plL rows n)[i]?=some (iv (plI rows i)):=by unfold plL; rw [zC,zH hlt]; rfl
   by_cases hir:i ∈ rows
   .have hge:(0:Int)<=plI rows i:=qia.2 hir;have eo:opR rows Z (i+1)=opR rows Z i:=by rw [qad,if_neg λq=>q.1 hir]
    refine wk1 (x5 hlt' hW h1 rp hge) ?_;refine ⟨i+1,⟨ω,λc hc h=>?_⟩,ω,?_⟩
    .by_cases e:c=i
     .subst e; exact absurd hir h
     .exact hfin c Oq h
    .rw [eo];refine LeW [] rfl rfl ?_ ?_ (by simp [q2A,q04,win]) ?_
     .exact Ow
     .exact q0h hB
     .try refine Zz2 hW h2 ?_
      exact ⟨ω,q0J rfl qoa⟩
   .have hge:¬ (0:Int)<=plI rows i:=λq=>hir (qia.1 q);have hlk:q05 (cM sD g n) (i:Int)=(g i).map sD:=by rw [q7k,if_pos hlt]
    have hVd:=hd i hlt;have hsum:=hs i hlt;have hlen:=hc i hlt;have hbd:=hb i hlt;obtain ⟨V,hV⟩:∃ V,V=Z i:=⟨_,rfl⟩;rw [<- hV] at hVd hsum;refine wk1 (x5 hlt' hW h1 rp hge) ?_;refine A_jW [(0,.pt 5000 0 0),(1,.pt 5050 0 0),(6,.ow 1001 (some 6) 0 (opR rows Z i).length),(7,iv i),(8,.pt 8 0 0),(14,iv n),(15,iv i)] [(1001,⟨214,some 6,(opR rows Z i).map (enP Z),false⟩),(8,⟨46,some 4,[dT V],false⟩)] H ?_ λK0 fin=>?_
    rotate_left
    .cases hgc:g i with
     | none =>
      rw [hgc] at hlk hsum;have hV0:V=0:=hsum.symm;have CS:=qih (q5r (l:=[]) σ (λx hx=>by cases hx) (by rw [q3M]; simp [q00,q0m]));rw [q3M,<- hV0] at CS;refine q5q λK hK=>?_;simp -implicitDefEqProofs (disch:=omega) only [go_sem,Nat.reduceEqDiff,Nat.reduceAdd,↓reduceIte,i64_in,yQ,yJ,zW,yZ,uZ,u6,zY,yR,yK,yS,yL,q52,q53,q57,q58,q54,q55,q1p,q1q,q1r,q1s,q1n,q1o,hlk,Option.map_none,xH,h2,h3];refine q0K CS ?_
      try refine Zz ?_
      refine hK _ _ ?_; clear hK K;refine q_n ?_;refine fin _ _ ?_;refine LeW [] rfl rfl ?_ ?_ (by simp [q2A,q04,win]) ?_
      .exact Ow
      .exact q0h hB
      .try refine Zz2 hW h2 ?_
       exact q0J rfl qoa
     | some L =>
      rw [hgc] at hlk hsum hlen hbd;simp only [zL] at hsum hlen hbd;have CS:=q5r (l:=L) ω (λx hx=>by have:=hbd x hx; unfold q00; omega) (by rw [hsum]; exact hVd);rw [hsum] at CS;refine q5q λK hK=>?_;simp -implicitDefEqProofs (disch:=omega) only [go_sem,Nat.reduceEqDiff,Nat.reduceAdd,↓reduceIte,i64_in,yQ,yJ,zW,yZ,uZ,u6,zY,yR,yK,yS,yL,q52,q53,q57,q58,q54,q55,q1p,q1q,q1r,q1s,q1n,q1o,hlk,tG,zL,h2,h3];refine q0K CS ?_
      try refine Zz ?_
      refine hK _ _ ?_; clear hK K;refine q_n ?_;refine fin _ _ ?_;refine LeW [] rfl rfl ?_ ?_ (by simp [q2A,q04,win]) ?_
      .exact Ow
      .exact q0h hB
      .try refine Zz2 hW h2 ?_
       exact q0J rfl qoa
    .have CG:=q3G hVd
     by_cases hV0:V=0
     .have qz:(V.sign == 0)=true:=by rw [hV0]; rfl
      have eo:opR rows Z (i+1)=opR rows Z i:=by rw [qad,if_neg λq=>q.2 (by rw [<- hV]; exact hV0)]
      refine wk1 qz ?_;refine ⟨i+1,⟨ω,λc hc h=>?_⟩,ω,?_⟩
      .by_cases e:c=i
       .subst e; rw [<- hV,hV0,show fR 0 0=0 from if_pos rfl]; unfold q0L; simp
       .exact hfin c Oq h
      .rw [eo];refine LeW [] rfl rfl ?_ ?_ (by simp [q2A,q04,win]) ?_
       .exact Ow
       .exact q0h hB
       .try refine Zz2 hW h2 ?_
        exact ⟨ω,q0J rfl qoa⟩
     .have qz:(V.sign == 0)=false:=by simpa using hV0
      have CR:=q77 hVd;have hvl:fR 0 V < 18446744073709551616:=q4u;have CF:=q4w hvl
      by_cases hf:q0L (fR 0 V)
      .rw [decide_eq_true hf] at CF;have eo:(opR rows Z (i+1)).map (enP Z)=(opR rows Z i).map (enP Z) ++ [.ag [iv i,bv false,bv (decide (od V < 0)),.fm (fL (od V)),iv (dyE V),uv (fR 0 V:Nat)]]:=by rw [qad,if_pos ⟨hir,by rw [<- hV]; exact hV0⟩,zQ,hV]; rfl
       have el:(opR rows Z (i+1)).length=(opR rows Z i).length+1:=by rw [qad,if_pos ⟨hir,by rw [<- hV]; exact hV0⟩]; simp
       refine wk1 qz ?_;refine ⟨i+1,⟨ω,λc hc h=>?_⟩,ω,?_⟩
       .by_cases e:c=i
        .subst e; rw [<- hV]; exact hf
        .exact hfin c Oq h
       .rw [eo,el];refine LeW [(1001,some 47)] rfl rfl ?_ ?_ (by simp [q2A,q04,win]) ?_
        .exact Ow
        .exact q0h hB
        .try refine Zz2 hW h2 ?_
         exact ⟨ω,q0J rfl (by rw [<- eo]; exact qoa)⟩
      .rw [decide_eq_false hf] at CF;unfold opX;rw [if_neg λq=>hf (by rw [hV]; exact q i hlt hir)];refine wk1 qz ?_;refine (rtM (rs:=[.tmp 4,.tmp 5]) rfl rfl Lq ?_ (.inl rfl));refine qbL (L:=[]) [] rfl (λ_ _=>rfl) hB (λ_ _=>rfl) (λi hi hm=>?_) (by simp [q2i]) ?_
       .have hq_:=hbw i hi
        try simp only [zJ,tD,zF,zD,or_false,not_or] at hm
        repeat (first | rw [q0A ω] | rw [q0Q ⟨ω,ω⟩] | rw [q1G,if_neg ω] | rw [q15])
       .try simp -implicitDefEqProofs (disch:=omega) only [go_sem,Nat.reduceEqDiff,Nat.reduceAdd,↓reduceIte]
  .obtain rfl:i=n:=ω
   have hlt':¬ (i:Int) < i:=ω
   unfold opX;rw [if_pos λc hc h=>hfin c hc h];refine wk1 hlt' ?_;refine (rtM (rs:=[.tmp 4,.tmp 5]) rfl rfl Lq ?_ (.inl rfl));refine qbL (L:=[]) [] rfl (λ_ _=>rfl) hB (λ_ _=>rfl) (λi hi hm=>?_) (by simp [q2i]) ?_
   .have hq_:=hbw i hi
    try simp only [zJ,tD,zF,zD,or_false,not_or] at hm
    repeat (first | rw [q0A ω] | rw [q0Q ⟨ω,ω⟩] | rw [q1G,if_neg ω] | rw [q15])
   .try refine Zz ?_
    refine qaT (T:=214) ?_ qoa ?_ σ
    .try simp -implicitDefEqProofs (disch:=omega) only [go_sem,Nat.reduceEqDiff,Nat.reduceAdd,↓reduceIte]
    .exact Classical.byContradiction λhq=>by have:=hbw 1001 hq; omega
end
def dy0:q00 0:=by simp [q00,q0m]
section
variable {l:List Int} {r c i j:Nat} {v:List Nat}
end
section
variable {Z:Nat->Int} {v:Nat->Nat} {n num den:Nat} {mi:List Int} {L:List Nat} {H:Hp}
def qc6 {v:Nat->Nat}:∀ t,(∀ c,c < t->q0L (v (L.getD c 0)))->bl (mxT v L t).natAbs<=67600
 | 0,_=>by unfold mxT; simp [q0m]
 | t+1,h=>by
  unfold mxT
  split
  .unfold abZ; rw [zY]; exact q4C (h t ω)
  .exact qc6 t λc hc=>h c Oq
def q9k {z:Int} (hz:z.natAbs < 9007199254740992):q00 (inZ z):=(q4j (qdC hz)).2.2.2
def qh4 {W:Int} (h:bl W.natAbs<=67600):q00 W:=by unfold q00; omega
def qti {z W:Int} (hz:z.natAbs<=1000) (hW:bl W.natAbs<=67600):q00 (z*W):=by
 have h1:bl z.natAbs<=10:=q0M Oq;have:=q1y z.natAbs W.natAbs;unfold q00;rw [Int.natAbs_mul];omega
def qkc {x:Int} (hx:0<=x):0<=x.sign:=by
 rcases Int.lt_or_eq_of_le hx with h | h
 .rw [xJ h]; decide
 .rw [<- h]; decide
def qlA (hn:n<=100) (hnum:num<=1000) (hden:den<=1000) (hl:L.length<=1000) (hL:∀ i ∈ L,i < n/\fR 0 (Z i)=v i/\q0L (v i)) (hmi:mi.length<=1000000)
  {ms mi':List Int} {mv:List Nat} {r1 r2 r3 r4 r5:PV} (hB:BOk H win) (hW:H 5000=some (wkB n ms mi' mv [.sl none ((List.range n).map λi=>iv (q3A mi i)),r1,r2,r3,r4,r5])) :
  qeh 177 [.pt 5000 0 0,.sl (some 6) (L.map (enP Z)),iv num,iv den] H (iv (bsT v mi num den (mxT v L L.length) L L.length)) H:=by
 have hbw:∀ i,H i≠none->5000<=i/\i < 1000000:=λi hi=>by
  obtain ⟨b,hb⟩:=yI.1 hi;exact (hB.b i b hb).1
 have hlo:∀ i,i < 5000->H i=none:=λi hi=>Classical.byContradiction λhq=>by
  have:=hbw i hq;omega
 have hvL:∀ c,c < L.length->q0L (v (L.getD c 0)):=λc hc=>by
  rw [zB,zA hc,zL];exact (hL _ (yF _)).2.2
 have hcn:∀ i,q3A mi i<=1000000:=λi=>tF (z8 _ _) hmi;obtain ⟨res,hres⟩:∃ res,res=bsT v mi num den (mxT v L L.length) L L.length:=⟨_,rfl⟩;rw [<- hres];refine qen qjZ Tryz.func177 rfl Tryz.ntmps177 κ ?_ ?_ ?_ ?_
 .exact hB.hi
 .exact hB.ho
 .exact IdL.of λx hx=>by
   simp at hx
   rcases hx with rfl | rfl | rfl | rfl <;> unfold IdP
   .exact ⟨ω,ω⟩
   all_goals trivial
 have l9:=hlo 9 Oq;have C0:=qeu;have N0:=q7O dy0;refine wk1 l9 ?_;refine q0l (λt:Nat=>t<=L.length) [0,1,2,3,9,21,22] [] Lk Lk (λt:Nat=>[(23,iv t)]) (λt=>[(9,⟨46,some 4,[dT (mxT v L t)],false⟩)]) (λ_=>H) (λt=>L.length-t) 0 (zN _) ?_ ?_
 .refine LeW [] rfl rfl ?_ ?_ (by simp [q2A,q04,win]) ?_
  .exact Ow
  .exact q0h hB
  .try refine Zz1 hW ?_
   exact ⟨rfl,rfl,rfl,rfl⟩
 .intro t ht
  by_cases hlt:t < L.length
  .have hlt':(t:Int) < L.length:=ω
   obtain ⟨i,hi⟩:∃ i,L[t]?=some i:=⟨_,zA hlt⟩;have he:(L.map (enP Z))[t]?=some (enP Z i):=by rw [zC,hi]; rfl
   obtain ⟨_,hz,hf⟩:=hL i (zG hi);unfold enP at he;rw [hz] at he;have hvl:v i < 18446744073709551616:=by rw [<- hz]; exact q4u
   have CA:=qdg hvl hf;have CO:=q79 hvl hf;have hda:q00 (abZ (v i)):=qh4 (by have:=qje hf; omega);have hdg:q00 (mxT v L t):=qh4 (qc6 t λc hc=>hvL c Oq);have CC:=qbW hda hdg;have N1:=q7O hda;have es:mxT v L (t+1)=if mxT v L t < abZ (v i) then abZ (v i) else mxT v L t:=by rw [mxT,getD_some hi]
   generalize mxT v L t=G at *
   by_cases h:G < abZ (v i)
   .rw [qqM h] at CC;rw [if_pos h] at es;refine wk1 (x2 hlt' he) ?_;refine ⟨t+1,ω,ω,?_⟩;rw [es];refine LeW [] rfl rfl ?_ ?_ (by simp [q2A,q04,win]) ?_
    .exact Ow
    .exact q0h hB
    .try refine Zz1 hW ?_
     omega
   .have q:=qqL h;rw [if_neg h] at es;generalize (abZ (v i)-G).sign=sg at *;refine wk1 (x3 hlt' he q) ?_;refine ⟨t+1,ω,ω,?_⟩;rw [es];refine LeW [] rfl rfl ?_ ?_ (by simp [q2A,q04,win]) ?_
    .exact Ow
    .exact q0h hB
    .try refine Zz1 hW ?_
     omega
  .obtain rfl:t=L.length:=ω
   have hlt':¬ (L.length:Int) < L.length:=ω
   have hwb:=qc6 (v:=v) (L:=L) L.length hvL;obtain ⟨w,hw⟩:∃ w,w=mxT v L L.length:=⟨_,rfl⟩;rw [<- hw] at hres hwb ⊢;have hdw:=qh4 hwb;have CF:=q40 (z:=num) Oq Oq (qdC Oq);have CM:=q8E (q9k (z:=num) Oq) hdw (mulI (z:=num) (W:=w) Oq hwb);have hdb:q00 ((num:Int)*w):=qti Oq hwb;have CF2:=q40 (z:=den) Oq Oq (qdC Oq);have N1:=q7O (q9k (z:=num) Oq);have N2:=q7O (q9k (z:=den) Oq);have N3:=q7O hdb;have hrg:=λt=>q7m (v:=v) (mi:=mi) (num:=num) (den:=den) (w:=w) (L:=L) t;refine wk1 hlt' ?_;refine q0l (λt:Nat=>t<=L.length) [0,1,2,3,14,47,48] [14] Lk Lk (λt:Nat=>[(49,iv t),(15,iv (bsT v mi num den w L t))]) (λ_=>[]) (λ_=>H) (λt=>L.length-t) 0 (zN _) ?_ ?_
   .refine LeW [] rfl rfl ?_ ?_ (by simp [q2A,q04,win]) ?_
    .exact Ow
    .exact q0h hB
    .try refine Zz1 hW ?_
     exact ⟨rfl,rfl⟩
   .intro t ht
    by_cases hlt2:t < L.length
    .have hlt3:(t:Int) < L.length:=ω
     obtain ⟨i,hi⟩:∃ i,L[t]?=some i:=⟨_,zA hlt2⟩;have he:(L.map (enP Z))[t]?=some (enP Z i):=by rw [zC,hi]; rfl
     obtain ⟨hin,hz,hf⟩:=hL i (zG hi);unfold enP at he;rw [hz] at he;have hvl:v i < 18446744073709551616:=by rw [<- hz]; exact q4u
     have CK:=q60 hvl;have rci:((List.range n).map λi=>iv (q3A mi i))[i]?=some (iv (q3A mi i)):=by rw [zC,zH hin]; rfl
     have es:bsT v mi num den w L (t+1)=if (v i=0\/v i=9223372036854775808)\/(den:Int)*abZ (v i) < num*w then bsT v mi num den w L t else if bsT v mi num den w L t < 0\/q3A mi i < q3A mi (L.getD (bsT v mi num den w L t).toNat 0) then (t:Int) else bsT v mi num den w L t:=by rw [bsT,getD_some hi]
     have hrt:=hrg t;generalize bsT v mi num den w L t=bb at *
     by_cases hk:q2M (v i)=0
     .have qk:(((q2O (v i):Nat):Int) == 0)=true:=by
       have:=(q3Q hvl).2 hk;rw [this]; rfl
      rw [if_pos (.inl ((q8a hvl).2 hk))] at es;generalize q2O (v i)=kk at *;refine wk1 (x3 hlt3 he qk) ?_;refine ⟨t+1,ω,ω,?_⟩;rw [es];refine LeW [] rfl rfl ?_ ?_ (by simp [q2A,q04,win]) ?_
      .exact Ow
      .exact q0h hB
      .try refine Zz1 hW ?_
       first | done | omega
     .have qk:(((q2O (v i):Nat):Int) == 0)=false:=by
       have:=mt (q3Q hvl).1 hk;simpa using this
      generalize q2O (v i)=kk at *;have CA:=qdg hvl hf;have CO:=q79 hvl hf;have hab:=qje hf;have hda:q00 (abZ (v i)):=qh4 Oq;have CM2:=q8E (q9k (z:=den) Oq) hda (mulI (z:=den) (W:=abZ (v i)) Oq Oq);have hdp:q00 ((den:Int)*abZ (v i)):=qti Oq Oq;have CC:=qbW hdp hdb;have N4:=q7O hda;have N5:=q7O hdp;have hnz:¬ (v i=0\/v i=9223372036854775808):=λq=>hk ((q8a hvl).1 q)
      by_cases hlw:(den:Int)*abZ (v i) < num*w
      .rw [if_pos (.inr hlw)] at es;rw [y9 (show (den:Int)*abZ (v i)-num*w < 0 by omega)] at CC;have q1:¬ (0:Int) <= -1:=ω
       refine wk1 (x4 hlt3 he qk q1) ?_;refine ⟨t+1,ω,ω,?_⟩;rw [es];refine LeW [] rfl rfl ?_ ?_ (by simp [q2A,q04,win]) ?_
       .exact Ow
       .exact q0h hB
       .try refine Zz1 hW ?_
        first | done | omega
      .rw [if_neg (λq=>q.elim hnz hlw)] at es;obtain ⟨sg,hsg⟩:∃ sg,sg=((den:Int)*abZ (v i)-num*w).sign:=⟨_,rfl⟩;have q1:(0:Int)<=sg:=by rw [hsg]; exact qkc ω
       rw [<- hsg] at CC;clear hsg
       by_cases hb0:bb < 0
       .rw [if_pos (.inl hb0)] at es;refine wk1 (x5 hlt3 he qk q1 hb0) ?_;refine ⟨t+1,ω,ω,?_⟩;rw [es];refine LeW [] rfl rfl ?_ ?_ (by simp [q2A,q04,win]) ?_
        .exact Ow
        .exact q0h hB
        .try refine Zz1 hW ?_
         first | done | omega
       .obtain ⟨b,rfl⟩:∃ b:Nat,bb=b:=⟨bb.toNat,ω⟩;obtain ⟨i2,hi2⟩:∃ i,L[b]?=some i:=⟨_,zA Oq⟩;have he2:(L.map (enP Z))[b]?=some (enP Z i2):=by rw [zC,hi2]; rfl
        obtain ⟨hin2,hz2,_⟩:=hL i2 (zG hi2);unfold enP at he2;rw [hz2] at he2;have rci2:((List.range n).map λi=>iv (q3A mi i))[i2]?=some (iv (q3A mi i2)):=by rw [zC,zH hin2]; rfl
        rw [zU,getD_some hi2] at es
        by_cases hc:q3A mi i < q3A mi i2
        .rw [if_pos (.inr hc)] at es;have q2:(q3A mi i:Int) < q3A mi i2:=ω
         refine wk1 (x6 hW hlt3 he qk q1 (x5 hb0 he2 rci rci2 q2)) ?_;refine ⟨t+1,ω,ω,?_⟩;rw [es];refine LeW [] rfl rfl ?_ ?_ (by simp [q2A,q04,win]) ?_
         .exact Ow
         .exact q0h hB
         .try refine Zz1 hW ?_
          first | done | omega
        .rw [if_neg (λq=>q.elim hb0 hc)] at es;have q2:¬ (q3A mi i:Int) < q3A mi i2:=ω
         refine wk1 (x6 hW hlt3 he qk q1 (x5 hb0 he2 rci rci2 q2)) ?_;refine ⟨t+1,ω,ω,?_⟩;rw [es];refine LeW [] rfl rfl ?_ ?_ (by simp [q2A,q04,win]) ?_
         .exact Ow
         .exact q0h hB
         .try refine Zz1 hW ?_
          first | done | omega
    .obtain rfl:t=L.length:=ω
     have hlt3:¬ (L.length:Int) < L.length:=ω
     refine wk1 hlt3 ?_;refine (rtM (rs:=[.tmp 8]) rfl rfl Lq ?_ (.inl rfl));rw [hres];refine qbL (L:=[]) [] rfl (λ_ _=>rfl) hB (λ_ _=>rfl) (λi hi hm=>?_) (by simp [q2i]) ?_
     .have hq_:=hbw i hi
      try simp only [zJ,tD,zF,zD,or_false,not_or] at hm
      repeat (first | rw [q0A ω] | rw [q0Q ⟨ω,ω⟩] | rw [q1G,if_neg ω] | rw [q15])
     .try simp -implicitDefEqProofs (disch:=omega) only [go_sem,Nat.reduceEqDiff,Nat.reduceAdd,↓reduceIte]
      first | done | omega
end
def q7l {α:Type} {v:α->PV} {g:Nat->Option α} {p:Nat->Bool} {w:Nat->α}:∀ n,(∀ i,i < n->g i=if p i then some (w i) else none)->cM v g n=((List.range n).filter p).map λi:Nat=>((i:Int),v (w i))
 | 0,_=>rfl
 | n+1,h=>by
  rw [cM,q7l n λi hi=>h i ω,z7,yA,zQ,h n ω]
  congr 1
  cases hp:p n <;> simp [hp]
section
variable {F:Nat->Nat->Option Nat} {mi:List Int} {n j k num den:Nat} {S q:LuS}
def q5b:∀ i,rsV F q j k i=if i ∈ q.rows then 0 else fR 0 (rsZ F q j k i):=λ_=>rfl
def qhT (h:upS F S j k k=none):q2R F mi n S j k num den=(233,S):=by
 unfold q2R;rw [h]
def q6Z:(∀ i,i < n->q0L (rsV F q j k i)) ↔ ∀ i,i < n->i ∉ q.rows->q0L (fR 0 (rsZ F q j k i)):=by
 constructor
 .intro h i hi hr;have:=h i hi
  rwa [q5b,if_neg hr] at this
 .intro h i hi;rw [q5b]
  split
  .unfold q0L; simp
  .exact h i hi (by assumption)
def qm8 (h:upS F S j k k=some q) (h2:¬ ∀ i,i < n->i ∉ q.rows->q0L (fR 0 (rsZ F q j k i))):q2R F mi n S j k num den=(233,S):=by
 unfold q2R;rw [h];simp only;unfold qjM;rw [if_neg (mt q6Z.1 h2)]
noncomputable def clL (F:Nat->Nat->Option Nat) (q:LuS) (n j k:Nat):List Nat:=opR q.rows (rsZ F q j k) n
noncomputable def clB (F:Nat->Nat->Option Nat) (mi:List Int) (q:LuS) (n j k num den:Nat):Int:=bsT (rsV F q j k) mi num den (mxT (rsV F q j k) (clL F q n j k) (clL F q n j k).length) (clL F q n j k) (clL F q n j k).length
def qhY:(bsP (rsV F q j k) q mi num den (mxZ (rsV F q j k) n) n < 0 ↔ clB F mi q n j k num den < 0)/\(0<=clB F mi q n j k num den->bsP (rsV F q j k) q mi num den (mxZ (rsV F q j k) n) n=((clL F q n j k).getD (clB F mi q n j k num den).toNat 0:Nat)):=by
 unfold clB clL;rw [qik (z:=rsZ F q j k) (rows:=q.rows) q5b];exact qj4 (z:=rsZ F q j k) q5b n
def qeI : -1<=clB F mi q n j k num den/\clB F mi q n j k num den < (clL F q n j k).length:=q7m _
def qm7 (h:upS F S j k k=some q) (h2:∀ i,i < n->i ∉ q.rows->q0L (fR 0 (rsZ F q j k i))) (h3:clB F mi q n j k num den < 0):q2R F mi n S j k num den=(9,S):=by
 unfold q2R;rw [h];simp only;unfold qjM;rw [if_pos (q6Z.2 h2),if_pos (qhY.1.2 h3)]
def q7i {p:Nat} (h3:0<=clB F mi q n j k num den) (hp:(clL F q n j k)[(clB F mi q n j k num den).toNat]?=some p):p < n/\p ∉ q.rows/\rsZ F q j k p≠0/\rsV F q j k p=fR 0 (rsZ F q j k p)/\bsP (rsV F q j k) q mi num den (mxZ (rsV F q j k) n) n=(p:Nat)/\¬ (rsV F q j k p=0\/rsV F q j k p=9223372036854775808):=by
 have hm:=q3r.1 (zG hp);have hb:=qhY.2 h3;rw [getD_some hp] at hb;have ho:=(qeN (v:=rsV F q j k) (S:=q) (mi:=mi) (num:=num) (den:=den) (w:=mxZ (rsV F q j k) n) n (by rw [hb]; omega)).2;rw [hb,zU] at ho;exact ⟨hm.1,hm.2.1,hm.2.2,by rw [q5b,if_neg hm.2.1],hb,ho⟩
def q6P {f:Nat} (hf:q0L f) (hl:f < 18446744073709551616) (h:¬ (f=0\/f=9223372036854775808)):ofZ f≠0:=λe=>h ((q8a hl).2 ((q6Q hf).1 e))
def qi7 {d:Int} (hd:d≠0):q3k 0 0 d=0:=by
 unfold q3k;rw [if_neg hd];unfold fQ;rw [if_pos rfl]
def qm6 {p:Nat} (h:upS F S j k k=some q) (h2:∀ i,i < n->i ∉ q.rows->q0L (fR 0 (rsZ F q j k i))) (h3:0<=clB F mi q n j k num den) (hp:(clL F q n j k)[(clB F mi q n j k num den).toNat]?=some p) {i:Nat} (hi:i ∈ clL F q n j k) (hip:i≠p) (hf:¬ q0L (q3k 0 (rsZ F q j k i) (ofZ (rsV F q j k p)))):q2R F mi n S j k num den=(233,S):=by
 obtain ⟨p1,p2,p3,p4,p5,p6⟩:=q7i h3 hp;have hm:=q3r.1 hi;unfold q2R;rw [h];simp only;unfold qjM;rw [if_pos (q6Z.2 h2),if_neg (λc=>by have:=qhY.1.1 c; omega),p5,zU,qcn (i:=i) (by
  show i ∉ q.rows ++ [p]
  rw [xN,not_or];exact ⟨hm.2.1,by simpa using hip⟩) hf n hm.1]
noncomputable def clS (F:Nat->Nat->Option Nat) (q:LuS) (n j k p:Nat):LuS:=loE (pvS q k (rsV F q j k) p) k (rsZ F q j k) (ofZ (rsV F q j k p)) n
def qm5 {p:Nat} (h:upS F S j k k=some q) (h2:∀ i,i < n->i ∉ q.rows->q0L (fR 0 (rsZ F q j k i))) (h3:0<=clB F mi q n j k num den) (hp:(clL F q n j k)[(clB F mi q n j k num den).toNat]?=some p) (hf:∀ i ∈ clL F q n j k,i≠p->q0L (q3k 0 (rsZ F q j k i) (ofZ (rsV F q j k p)))):q2R F mi n S j k num den=(0,clS F q n j k p):=by
 obtain ⟨p1,p2,p3,p4,p5,p6⟩:=q7i h3 hp;have hd:ofZ (rsV F q j k p)≠0:=q6P (by rw [p4]; exact h2 p p1 p2) (by rw [p4]; exact q4u) p6;unfold q2R;rw [h];simp only;unfold qjM;rw [if_pos (q6Z.2 h2),if_neg (λc=>by have:=qhY.1.1 c; omega),p5,zU,q9c n λi hi hr=>?_]
 .rfl
 .have hr:i ∉ q.rows ++ [p]:=hr;rw [xN,not_or] at hr
  by_cases hz:rsZ F q j k i=0
  .rw [hz,qi7 hd]; unfold q0L; simp
  .exact hf i (q3r.2 ⟨hi,hr.1,hz⟩) (by simpa using hr.2)
section
variable {p:Nat} {Z:Nat->Int} {V:Nat->Nat} {d:Int}
def q2K:(loE (pvS q k V p) k Z d n).rows=q.rows ++ [p]:=rfl
def q26 {a b:Nat} (hb:b≠k):(loE (pvS q k V p) k Z d n).l a b=q.l a b/\(loE (pvS q k V p) k Z d n).iL a b=q.iL a b/\(loE (pvS q k V p) k Z d n).u a b=q.u a b/\(loE (pvS q k V p) k Z d n).iU a b=q.iU a b:=by
 unfold loE pvS;exact ⟨if_neg λh=>hb h.1,if_neg λh=>hb h.1,if_neg λh=>hb h.2,if_neg λh=>hb h.2⟩
def opR_p (hp:p ∉ q.rows):(opR q.rows Z n).filter (λi=>decide (i≠p))=opR (q.rows ++ [p]) Z n:=by
 unfold opR;rw [List.filter_filter];refine yC λi _=>?_
 by_cases h1:i ∈ q.rows <;> by_cases h2:i=p <;> by_cases h3:Z i=0 <;> simp [h1,h2,h3] <;> simp_all
def iLk (hf:∀ i m,k<=m->q.iL i m=false) {a:Nat} (ha:a < n):(loE (pvS q k V p) k Z d n).iL a k=decide (a ∉ q.rows ++ [p]/\Z a≠0):=by
 unfold loE pvS;dsimp only
 by_cases h:a ∈ q.rows ++ [p]
 .rw [if_neg λc=>c.2.2 h,hf a k (zS _),decide_eq_false λc=>c.1 h]
 .rw [if_pos ⟨rfl,ha,h⟩]
  by_cases hz:Z a=0
  .rw [decide_eq_false (λc=>c hz),decide_eq_false λc=>c.2 hz]
  .rw [decide_eq_true hz,decide_eq_true ⟨h,hz⟩]
def liL_k (hf:∀ i m,k<=m->q.iL i m=false):liL (loE (pvS q k V p) k Z d n) n k=opR (q.rows ++ [p]) Z n:=by
 unfold liL opR;exact yC λa ha=>iLk hf (zI.1 ha)
def l_k {a:Nat} (ha:a < n) (hr:a ∉ q.rows ++ [p]):(loE (pvS q k V p) k Z d n).l a k=q3k 0 (Z a) d:=by
 unfold loE pvS;dsimp only;rw [if_pos ⟨rfl,ha,hr⟩]
def lnL_k (hf:∀ i m,k<=m->q.iL i m=false):lnL (loE (pvS q k V p) k Z d n) n k=pLn (opR (q.rows ++ [p]) Z n) ((opR (q.rows ++ [p]) Z n).map λi=>q3k 0 (Z i) d):=by
 unfold lnL;rw [liL_k hf];have:(opR (q.rows ++ [p]) Z n).map (λi=>(loE (pvS q k V p) k Z d n).l i k)=(opR (q.rows ++ [p]) Z n).map λi=>q3k 0 (Z i) d:=zO λi hi=>by
  have:=q3r.1 hi;exact l_k this.1 this.2.1
 rw [this]
def dM_k (hf:∀ i m,k<=m->q.iL i m=false):dM (loE (pvS q k V p) k Z d n) n k=(opR (q.rows ++ [p]) Z n).map λi:Nat=>((i:Int),vD (q3k 0 (Z i) d)):=by
 unfold dM;rw [q7l (p:=λi=>decide (i ∉ q.rows ++ [p]/\Z i≠0)) (w:=λi=>q3k 0 (Z i) d) n λi hi=>?_]
 .rfl
 .rw [iLk hf hi]
  by_cases h:i ∉ q.rows ++ [p]/\Z i≠0
  .rw [decide_eq_true h,if_pos rfl,if_pos rfl,l_k hi h.1]
  .rw [decide_eq_false h]; rfl
def qrv {m:Nat} (hm:m≠k) (h1:q.l=S.l) (h2:q.iL=S.iL):lnL (loE (pvS q k V p) k Z d n) n m=lnL S n m:=by
 have e:liL (loE (pvS q k V p) k Z d n) n m=liL S n m:=by
  unfold liL;exact yC λa _=>by rw [(q26 hm).2.1,h2]
 have e2:(liL S n m).map (λi=>(loE (pvS q k V p) k Z d n).l i m)=(liL S n m).map λi=>S.l i m:=zO λa _=>by rw [(q26 hm).1,h1]
 unfold lnL;rw [e,e2]
def dM_lo {m:Nat} (hm:m≠k) (h1:q.l=S.l) (h2:q.iL=S.iL):dM (loE (pvS q k V p) k Z d n) n m=dM S n m:=by
 unfold dM;exact q5B λi _=>by rw [(q26 hm).1,(q26 hm).2.1,h1,h2]
def qru {m:Nat} (hm:m < k) (hk:S.rows.length=k) (hr:q.rows=S.rows) (h1:∀ a b,b≠k->q.u a b=S.u a b/\q.iU a b=S.iU a b):lnU (loE (pvS q k V p) k Z d n) m=lnU S m:=by
 have hmk:m≠k:=ω
 have e:liU (loE (pvS q k V p) k Z d n) m=liU S m:=by
  unfold liU;exact yC λa _=>by rw [(q26 hmk).2.2.2,(h1 a m hmk).2]
 have hlt:∀ t ∈ liU S m,t < k:=λt ht=>by have:=zI.1 (u7.1 ht).1; omega
 have e2:(liU S m).map (λt=>(loE (pvS q k V p) k Z d n).rows.getD t 0)=(liU S m).map λt=>S.rows.getD t 0:=zO λt ht=>by
  rw [q2K,hr,zB,zB,yO (by have:=hlt t ht; omega)]
 have e3:(liU S m).map (λt=>(loE (pvS q k V p) k Z d n).u t m)=(liU S m).map λt=>S.u t m:=zO λt _=>by rw [(q26 hmk).2.2.1,(h1 t m hmk).1]
 unfold lnU;rw [e,e2,e3]
def lnU_k (hk:S.rows.length=k) (hr:q.rows=S.rows):lnU (loE (pvS q k V p) k Z d n) k=pLn (uR S q k k ++ [p]) (uV q k k ++ [V p]):=by
 have u1:∀ t,t≠k->(loE (pvS q k V p) k Z d n).iU t k=q.iU t k:=λt ht=>if_neg λh=>ht h.1;have u2:∀ t,t≠k->(loE (pvS q k V p) k Z d n).u t k=q.u t k:=λt ht=>if_neg λh=>ht h.1;have u3:(loE (pvS q k V p) k Z d n).iU k k=true:=if_pos ⟨rfl,rfl⟩;have u4:(loE (pvS q k V p) k Z d n).u k k=V p:=if_pos ⟨rfl,rfl⟩;have hlt:∀ t ∈ uT q k k,t < k:=λt ht=>zI.1 (u7.1 ht).1;have e:liU (loE (pvS q k V p) k Z d n) k=uT q k k ++ [k]:=by
  unfold liU uT;rw [z7,yA,tE,u3,if_pos rfl]
  congr 1
  exact yC λt ht=>u1 t (by have:=zI.1 ht; omega)
 have e2:(uT q k k).map (λt=>(loE (pvS q k V p) k Z d n).rows.getD t 0)=(uT q k k).map λt=>S.rows.getD t 0:=zO λt ht=>by
  rw [q2K,hr,zB,zB,yO (by have:=hlt t ht; omega)]
 have e3:(uT q k k).map (λt=>(loE (pvS q k V p) k Z d n).u t k)=(uT q k k).map λt=>q.u t k:=zO λt ht=>u2 t (by have:=hlt t ht; omega);have e4:(loE (pvS q k V p) k Z d n).rows.getD k 0=p:=by
  rw [q2K,hr,zB,<- hk,tB]; rfl
 unfold lnU;rw [e,zQ,zQ,e2,e3];simp only [zJ,tD,e4,u4]
 rfl
def clS_I (hI:LuI k S) (h1:q.l=S.l) (h2:q.iL=S.iL) (hr:q.rows=S.rows) (hp:p ∉ q.rows) (hd:d≠0):LuI (k+1) (loE (pvS q k V p) k Z d n):=by
 refine ⟨λi m hz=>?_,λi m hm=>?_,?_⟩
 .by_cases hmk:m=k
  .subst hmk;unfold loE pvS at hz ⊢;dsimp only at hz ⊢
   by_cases h:m=m/\i < n/\i ∉ q.rows ++ [p]
   .rw [if_pos h] at hz ⊢;have:Z i=0:=by simpa using hz
    rw [this,qi7 hd]; exact qc2
   .rw [if_neg h] at hz ⊢;rw [h1];rw [h2] at hz;exact hI.z i m hz
  .rw [(q26 hmk).2.1,h2] at hz;rw [(q26 hmk).1,h1];exact hI.z i m hz
 .rw [(q26 ω).2.1,h2];exact hI.f i m Oq
 .rw [q2K];rw [hr] at hp ⊢;exact List.nodup_append.2 ⟨hI.r,σ,λa ha b hb=>by simp at hb; subst hb; exact λe=>hp (e ▸ ha)⟩
end
end
end Go.Proofs.YtbjoghfmhgadkaaGreatDoor
namespace Go.E
open Go Go.RowKit
def qsH {h:Hp} {d i:Nat}:hdl h d i=if i=d then none else h i:=rfl
attribute [go_sem] qsH
end Go.E
namespace Go.Proofs.YtbjoghfmhgadkaaGreatDoor
open Go Go.E Go.Sp
abbrev plB (rows:List Nat) (n:Nat):Bk:=⟨3,none,plL rows n,false⟩
abbrev qrQ (S:LuS) (n k:Nat):Bk:=⟨216,none,(List.range k).map λm=>.fm (q9x (dM S n m)),false⟩
abbrev qrs (S:LuS) (n k:Nat):Bk:=⟨205,some 2,(List.range k).map (lnL S n),false⟩
abbrev qrr (S:LuS) (k:Nat):Bk:=⟨205,some 2,(List.range k).map (lnU S),false⟩
abbrev cnS (mi:List Int) (n:Nat):PV:=.sl none ((List.range n).map λi=>iv (q3A mi i))
abbrev wkL (n:Nat) (ms mi:List Int) (mv:List Nat) (S:LuS) (k a b c d:Nat):List (Nat × Bk):=[(5000,wkB n ms mi mv [cnS mi n,.ow 5001 none 0 n,.ow a none 0 k,.ow b none 0 k,.ow c (some 2) 0 k,.ow d (some 2) 0 k]),(5001,plB S.rows n),(a,inB S.rows),(b,qrQ S n k),(c,qrs S n k),(d,qrr S k)]
def qeH {rows:List Nat} {n:Nat}:ClL (plL rows n):=λx hx=>by
 obtain ⟨i,_,rfl⟩:=zR.1 hx; trivial
def qo7 {S:LuS} {n k:Nat}:ClL ((List.range k).map λm=>.fm (q9x (dM S n m))):=λx hx=>by
 obtain ⟨i,_,rfl⟩:=zR.1 hx; trivial
def q8m {r v:List Nat}:Cld (pLn r v):=λy hy=>by
 simp at hy
 rcases hy with rfl | rfl <;> trivial
def qo9 {S:LuS} {n k:Nat}:ClL ((List.range k).map (lnL S n)):=λx hx=>by
 obtain ⟨i,_,rfl⟩:=zR.1 hx; exact q8m
def qo8 {S:LuS} {k:Nat}:ClL ((List.range k).map (lnU S)):=λx hx=>by
 obtain ⟨i,_,rfl⟩:=zR.1 hx; exact q8m
section
variable {n k:Nat} {ms mi:List Int} {mv:List Nat} {S:LuS}
def qow {a b c d:Nat} (h:5001 < a/\a < b/\b < c/\c < d/\d < 5020):BOk (hpG (wkL n ms mi mv S k a b c d) h0) win:=qbN BOk.h0 λp hp=>by
 simp only [zF,zD,or_false] at hp
 rcases hp with rfl | rfl | rfl | rfl | rfl | rfl
 .refine ⟨⟨ω,ω⟩,rfl,IdL.of λx hx=>?_⟩;simp at hx;subst hx;unfold IdP;refine IdL.of λx hx=>?_;simp at hx
  rcases hx with rfl | rfl | rfl | rfl | rfl | rfl | rfl | rfl | rfl | rfl | rfl <;> unfold IdP <;> first | trivial | exact q1C (.inr σ)
 .exact ⟨⟨ω,ω⟩,rfl,IdL.of λx hx=>q07 (qeH x hx)⟩
 .exact ⟨⟨ω,ω⟩,rfl,IdL.of λx hx=>q07 (q8C x hx)⟩
 .exact ⟨⟨ω,ω⟩,rfl,IdL.of λx hx=>q07 (qo7 x hx)⟩
 .exact ⟨⟨ω,ω⟩,rfl,IdL.of λx hx=>q07 (qo9 x hx)⟩
 .exact ⟨⟨ω,ω⟩,rfl,IdL.of λx hx=>q07 (qo8 x hx)⟩
def luW (n:Nat) (ms mi:List Int) (mv:List Nat) (S:LuS) (k:Nat):Hp:=hpG (wkL n ms mi mv S k 5002 5003 5004 5005) h0
def qcj:luW n ms mi mv S k 5000=some (wkB n ms mi mv [cnS mi n,.ow 5001 none 0 n,.ow 5002 none 0 k,.ow 5003 none 0 k,.ow 5004 (some 2) 0 k,.ow 5005 (some 2) 0 k]):=rfl
def qrl:luW n ms mi mv S k 5001=some (plB S.rows n):=rfl
def qrk:luW n ms mi mv S k 5002=some (inB S.rows):=rfl
def qrj:luW n ms mi mv S k 5003=some (qrQ S n k):=rfl
def luW_4:luW n ms mi mv S k 5004=some (qrs S n k):=rfl
def luW_5:luW n ms mi mv S k 5005=some (qrr S k):=rfl
def q96 {i:Nat} (h:luW n ms mi mv S k i≠none):5000<=i/\i<=5005:=by
 unfold luW at h
 rcases q5k h with h | h
 .exact absurd rfl h
 .simp at h; omega
def q4l {i:Nat} (h:i < 5000\/5005 < i):luW n ms mi mv S k i=none:=Classical.byContradiction λhq=>by have:=q96 hq; omega
attribute [go_sem ↓] qcj qrl qrk qrj luW_4 luW_5 q4l
def luK (n:Nat) (ms mi:List Int) (mv:List Nat) (S:LuS) (k:Nat) (rows:List Nat):Hp:=hpG [(5000,wkB n ms mi mv [cnS mi n,.ow 5001 none 0 n,.ow 5012 none 0 (k+1),.ow 5003 none 0 k,.ow 5004 (some 2) 0 k,.ow 5005 (some 2) 0 k]),(5001,plB rows n),(5012,inB rows),(5003,qrQ S n k),(5004,qrs S n k),(5005,qrr S k)] h0
section
variable {rows:List Nat}
def luK_0:luK n ms mi mv S k rows 5000=some (wkB n ms mi mv [cnS mi n,.ow 5001 none 0 n,.ow 5012 none 0 (k+1),.ow 5003 none 0 k,.ow 5004 (some 2) 0 k,.ow 5005 (some 2) 0 k]):=rfl
def luK_1:luK n ms mi mv S k rows 5001=some (plB rows n):=rfl
def luK_2:luK n ms mi mv S k rows 5012=some (inB rows):=rfl
def luK_3:luK n ms mi mv S k rows 5003=some (qrQ S n k):=rfl
def luK_4:luK n ms mi mv S k rows 5004=some (qrs S n k):=rfl
def luK_5:luK n ms mi mv S k rows 5005=some (qrr S k):=rfl
def qiu {i:Nat} (h:luK n ms mi mv S k rows i≠none):5000<=i/\i<=5012:=by
 unfold luK at h
 rcases q5k h with h | h
 .exact absurd rfl h
 .simp at h; omega
def q99 {i:Nat} (h:i < 5000\/5012 < i):luK n ms mi mv S k rows i=none:=Classical.byContradiction λhq=>by have:=qiu hq; omega
attribute [go_sem ↓] luK_0 luK_1 luK_2 luK_3 luK_4 luK_5 q99
def q98:BOk (luK n ms mi mv S k rows) win:=qbN BOk.h0 λp hp=>by
 simp only [zF,zD,or_false] at hp
 rcases hp with rfl | rfl | rfl | rfl | rfl | rfl
 .refine ⟨⟨ω,ω⟩,rfl,IdL.of λx hx=>?_⟩;simp at hx;subst hx;unfold IdP;refine IdL.of λx hx=>?_;simp at hx
  rcases hx with rfl | rfl | rfl | rfl | rfl | rfl | rfl | rfl | rfl | rfl | rfl <;> unfold IdP <;> first | trivial | exact q1C (.inr σ)
 .exact ⟨⟨ω,ω⟩,rfl,IdL.of λx hx=>q07 (qeH x hx)⟩
 .exact ⟨⟨ω,ω⟩,rfl,IdL.of λx hx=>q07 (q8C x hx)⟩
 .exact ⟨⟨ω,ω⟩,rfl,IdL.of λx hx=>q07 (qo7 x hx)⟩
 .exact ⟨⟨ω,ω⟩,rfl,IdL.of λx hx=>q07 (qo9 x hx)⟩
 .exact ⟨⟨ω,ω⟩,rfl,IdL.of λx hx=>q07 (qo8 x hx)⟩
end
def luE:Hp:=hpG [(5000,⟨148,some 11,[.un],false⟩)] h0
noncomputable def luO (n:Nat) (ms mi:List Int) (mv:List Nat) (r:Int × LuS) (k:Nat):Hp:=if r.1=0 then hpG (wkL n ms mi mv r.2 k 5012 5013 5014 5015) h0 else luE
def q22:BOk (luW n ms mi mv S k) win:=qow Oq
def qfr {i:Nat} {b:Bk} (h:luE i=some b):i=5000:=by
 unfold luE at h;simp only [q1G,q15] at h
 split at h
 .assumption
 .cases h
def qro {r:Int × LuS} {k':Nat}:∀ i b,luW n ms mi mv S k i=some b->win i/\b.st=false/\IdL win b.xs/\(luO n ms mi mv r k' i=none\/∃ b',luO n ms mi mv r k' i=some b'/\b'.k=b.k/\b.xs.length<=b'.xs.length):=λi b hb=>by
 obtain ⟨q1,q2,q3,_⟩:=q22.hi i b hb;refine ⟨q1,q2,q3,?_⟩;unfold luW at hb;unfold luO luE
 rcases q1f hb with q | ⟨_,q⟩
 .simp only [zF,zD,or_false,Prod.mk.injEq] at q
  rcases q with ⟨rfl,rfl⟩ | ⟨rfl,rfl⟩ | ⟨rfl,rfl⟩ | ⟨rfl,rfl⟩ | ⟨rfl,rfl⟩ | ⟨rfl,rfl⟩ <;> split
  .exact .inr ⟨_,rfl,rfl,zS _⟩
  .exact .inr ⟨_,rfl,rfl,zS _⟩
  .exact .inr ⟨_,rfl,rfl,by simp [plL]⟩
  all_goals exact .inl rfl
 .cases q
def qrm {r:Int × LuS} {k':Nat}:∀ i b,luO n ms mi mv r k' i=some b->win i:=λi b hb=>by
 unfold luO at hb
 split at hb
 .exact (qow Oq).ho i b hb
 .rw [qfr hb]; exact ⟨ω,ω⟩
def luO_J {r:Int × LuS} {k':Nat} {i:Nat} (h:luW n ms mi mv S k i≠none/\luO n ms mi mv r k' i≠none):i=5000\/i=5001:=by
 have h1:=q96 h.1;refine Classical.byContradiction λhc=>h.2 ?_;unfold luO luE
 split <;> rw [q71 (by simp; omega)] <;> rfl
def ld6_d {a0 a1 a2 a3 a4 a5:PV}:ldU (some 6) (some 4) 1 (.ag [a0,a1,a2,a3,a4,a5])=some (.ag [a1,a2,a3,a4]):=by simp [ldU]
attribute [go_sem] ld6_d
def qrR {l:List (Int × PV)} {q:Nat->Prop} (hl:∀ p ∈ l,Cld p.2):IdL q (mpB l).xs:=IdL.of λx hx=>by
 simp at hx;subst hx;exact q3d (λ_ h=>h.elim) _ (q81 hl)
def qhX {X:List Nat} {f:Nat->Nat}:∀ p ∈ X.map λa:Nat=>((a:Int),vD (f a)),Cld p.2:=λp hp=>by
 obtain ⟨a,_,rfl⟩:=zR.1 hp
 trivial
def qjj {a c id m:Nat} {T:TypeId} {K:Kd} {l:List PV} {h h':Hp} (h1:h id=some ⟨T,K,l,false⟩) (hc:ClL l) (h2:h' id=none) (hne:c≠id) (hm:l.length=m):LeV (q04 [(a,some c)]) h h' (.ow id K 0 m) (.sl K l):=q1i (T:=T) (l:=l) h1 hc (λi hi=>by
 unfold q04 at hi
 split at hi
 .cases hi; exact absurd rfl hne
 .have hi:some i=some id:=hi;cases hi;exact h2) (by rw [yN]; exact zV ω)
def xR (L:List Nat) (p t:Nat):List Nat:=(L.take t).filter λi=>decide (i≠p)
def xR_p {L:List Nat} {p t:Nat} (h:L[t]?=some p):xR L p (t+1)=xR L p t:=by
 unfold xR;rw [q3z h,yA,tE,if_neg σ];simp
def xR_n {L:List Nat} {p t i:Nat} (h:L[t]?=some i) (hi:i≠p):xR L p (t+1)=xR L p t ++ [i]:=by
 unfold xR;rw [q3z h,yA,tE,if_pos (by simpa using hi)];simp
def qor {L:List Nat} {p t:Nat}:(xR L p t).length<=L.length:=tF (z8 _ _) (by rw [yG]; omega)
def qoq {L:List Nat} {p t i:Nat} (hd:L.Nodup) (h:L[t]?=some i):i ∉ xR L p t:=λhm=>by
 have h1:=(u7.1 hm).1;obtain ⟨c,hc⟩:=z9.1 h1;have hct:c < t:=by
  have:=(zE.1 hc).1;simp at this; omega
 rw [xA,if_pos hct] at hc;obtain ⟨x1,x2⟩:=zE.1 hc;obtain ⟨y1,y2⟩:=zE.1 h;exact zP.1 hd c t x1 y1 hct (x2.trans y2.symm)
def qrB {rows:List Nat} {z:Nat->Int} {m:Nat}:(opR rows z m).Nodup:=List.nodup_range.filter _
def qfn {X:List Nat} {i:Nat} {f:Nat->PV} (h:i ∉ X):q05 (X.map λa:Nat=>((a:Int),f a)) (i:Int)=none:=by
 induction X with
 | nil=>rfl
 | cons a X ih =>
  rw [zJ];unfold q05;rw [if_neg (by simp at h; omega)];exact ih λhm=>h (xO _ hm)
def qiC {F:Nat->Nat->Option Nat} {j:Nat} (hl:q4E S.l) (hu:q4E S.u) (hz:∀ i m,S.iL i m=false->ofZ (S.l i m)=0) (hF:∀ i,i < n->q0L ((F j i).getD 0)):∀ (m:Nat) (q:LuS),upS F S j k m=some q->TmOk F S.l q.u j k m n (upG F S j k m)
 | 0,q,h=>by unfold upS at h; cases h; exact TmOk.zero hF
 | m+1,q,h=>by
  have h':=h;unfold upS at h;obtain ⟨t,ht,h⟩:=yW.1 h;have ih:=qiC hl hu hz hF m t ht
  split at h
  .rename_i hf;cases h;rw [upG,ht];simp only
   split
   .rename_i h0;rw [h0,show fR 0 0=0 from if_pos rfl];exact ih.skip
   .exact ih.step (hz · m) hl hf
  .cases h
def qhu {J:Nat->Prop} {h:Hp} {y:PV} {e:Int} (h5:h 5000=some ⟨148,some 11,[y],false⟩):Le J (λ_=>mkR [iv e]) h (λ_=>iv e) luE:=by
 unfold luE;refine qbL (B:=Go.E.h0) [] rfl (λ_ _=>rfl) BOk.h0 (λ_ _=>rfl) (λi hi _=>(hi rfl).elim) (by simp [q2i,q04,win]) ?_
 try simp -implicitDefEqProofs (disch:=omega) only [go_sem,Nat.reduceEqDiff,Nat.reduceAdd,↓reduceIte,h5]
def qhR {F : Nat -> Nat -> Option Nat} {j num den : Nat} (h : TOk F n n) (hn : n <= 100) (hl : q4E S.l) (hu : q4E S.u) (hI : LuI k S) (hr : ∀ x ∈ S.rows, x < n) (hk : S.rows.length = k) (hkn : k < n) (hj : j < n) (hnum : num <= 1000) (hden : den <= 1000) :
    ACxt 98 [.pt 5000 0 0, iv j, iv num, iv den] (luW n (tM F n n).1 (tM F n n).2.1 (tM F n n).2.2 S k) (iv (q2R F (tM F n n).2.1 n S j k num den).1) (luO n (tM F n n).1 (tM F n n).2.1 (tM F n n).2.2 (q2R F (tM F n n).2.1 n S j k num den) (k + 1)) := by
  have hml := q0p (f := F) (R := n) n
  have hnn : n * n <= 100 * 100 := z6 hn hn
  have CL := qrq (F := F) (n := n) (j := j) (H := luW n (tM F n n).1 (tM F n n).2.1 (tM F n n).2.2 S k) h hn hj q22 qcj rfl (q4l Oq)
  have CU := qkK (F := F) (S := S) (n := n) (j := j) (k := k) (H := luW n (tM F n n).1 (tM F n n).2.1 (tM F n n).2.2 S k) h hn hl hu hI.z hr hk hkn hj q22 (λi h1 h2 => q4l Oq) qcj qrk qrj
  have hF : ∀ i, i < n -> q0L ((F j i).getD 0) := λi hi => (h.fin hj hi).1
  obtain ⟨ms, hms⟩ : ∃ ms, ms = (tM F n n).1 := ⟨_, rfl⟩
  obtain ⟨mi, hmi⟩ : ∃ mi, mi = (tM F n n).2.1 := ⟨_, rfl⟩
  obtain ⟨mv, hmv⟩ : ∃ mv, mv = (tM F n n).2.2 := ⟨_, rfl⟩
  rw [<- hmi] at hml
  rw [<- hms, <- hmi, <- hmv] at CL CU ⊢
  have hmil : mi.length <= 1000000 := by omega
  clear hms hmi hmv hml
  obtain ⟨res, hres⟩ : ∃ q, q = q2R F mi n S j k num den := ⟨_, rfl⟩
  rw [<- hres]
  refine actx qtY Tryz.func98 rfl Tryz.ntmps98 κ ?_ ?_ ?_ ?_
  . exact qro
  . exact qrm
  . exact IdL.of λx hx => by
      simp at hx
      rcases hx with rfl | rfl | rfl | rfl <;> unfold IdP
      . exact ⟨ω, by omega⟩
      all_goals trivial
  have hJ : ∀ i, (luW n ms mi mv S k i ≠ none /\ luO n ms mi mv res (k + 1) i ≠ none) -> i = 5000 \/ i = 5001 := λi hi => luO_J hi
  generalize hHo : luO n ms mi mv res (k + 1) = Ho at *
  have hbw : ∀ i, luW n ms mi mv S k i ≠ none -> 5000 <= i /\ i <= 5005 := λi hi => q96 hi
  refine wk ?_
  refine qbS λK hK => ?_
  refine Zz ?_
  refine jm CL qeo (λi hi _ => hi.1) ?_
  try refine Zz ?_
  refine hK _ _ ?_; clear hK K
  refine q2k (LeG [(5050, some 9)] (L := [(5050, cuB), (5051, mpB (cM sD (g0 F j) n))]) (B := luW n ms mi mv S k) (xs := [(0, .pt 5000 0 0), (1, iv j), (2, iv num), (3, iv den), (8, iv 0), (9, .pt 5050 0 0)]) (kv := []) (bs := []) (kb := []) rfl (λi hi => ?_) q22 (λi hi => ?_) (λi hi hm => ?_) (λp hp => ?_) (by simp [loN]) (by simp [q2i, q04, win]) ?_) ?_
  . have := hJ i hi
    simp [q04, show i ≠ 5050 by omega]
  . have := hbw i hi
    simp [q04, show i ≠ 5050 by omega]
  . have hq_ := hbw i hi
    try simp only [zJ, tD, zF, zD, or_false, not_or] at hm
    repeat (first | rw [q0A ω] | rw [q0Q ⟨ω, by omega⟩] | rw [q1G, if_neg ω] | rw [q15])
  . simp only [zF, zD, or_false] at hp
    rcases hp with rfl | rfl <;> exact ⟨ω, by omega⟩
  . try refine Zz ?_
    rw [q0a]
    exact q18 q3D
  have bne : ((233 : Int) != 0) = true := rfl
  have beq : ((0 : Int) != 0) = false := rfl
  unfold upX upX' upH qoK at CU
  cases hus : upS F S j k k with
  | none =>
    rw [hus] at CU
    simp only at CU
    generalize upM F S j k k = pm at CU
    have hE : Ho = luE := by rw [<- hHo, hres, qhT hus]; rfl
    rw [hE, hres, qhT hus]
    refine qbS λK hK => ?_
    refine Zz ?_
    refine jm CU q2j (λi hi _ => q1C (.inl hi.1)) ?_
    try refine Zz ?_
    refine hK _ _ ?_; clear hK K
    refine wk1 bne ?_
    refine (rtM (rs := [.tmp 8]) rfl rfl Lq ?_ (.inl rfl))
    exact qhu rfl
  | some q =>
    rw [q4N hus, hus] at CU
    simp only at CU
    obtain ⟨ql, qiL, qr, qo⟩ := qb4 k q hus
    have hT := qiC hl hu hI.z hF k q hus
    have hqf := (qb3 k q hl hu hus).2.1
    obtain ⟨Z, hZ⟩ : ∃ Z, Z = rsZ F q j k := ⟨_, rfl⟩
    have hZe : ∀ i, Z i = luZ F S.l q.u i j k k := λi => by rw [hZ, <- ql]; rfl
    have CO := qrA (g := upG F S j k k) (Z := Z) (rows := S.rows) (n := n) (m := k) (H := hpG [(5061, inB (uR S q k k)), (5062, flB (uV q k k)), (5050, cuB), (5051, mpB (cM sD (upG F S j k k) n))] (luW n ms mi mv S k)) hn ω (λi hi => by rw [hZe]; exact hT.s i hi) hT.c hT.b (qb2 q22 (q81 q3D)) (qcj (n := n) (ms := ms) (mi := mi) (mv := mv) (S := S) (k := k)) (qrl (n := n) (ms := ms) (mi := mi) (mv := mv) (S := S) (k := k)) rfl rfl
    have hul : (uR S q k k).length <= 1000 := by rw [q9E]; have := qiE (q := q) (k := k) (m := k); omega
    have hvl : (uV q k k).length = (uR S q k k).length := by rw [q9E, qiD]
    refine qbS λK hK => ?_
    refine Zz ?_
    refine jm CU q2j (λi hi _ => q1C (.inl hi.1)) ?_
    try refine Zz ?_
    refine hK _ _ ?_; clear hK K
    refine wk1 beq ?_
    unfold opX at CO
    by_cases hfin : ∀ i, i < n -> i ∉ S.rows -> q0L (fR 0 (Z i))
    case neg =>
      rw [if_neg hfin] at CO
      have hce := qm8 (mi := mi) (num := num) (den := den) hus (n := n) (by rw [qr, <- hZ]; exact hfin)
      have hE : Ho = luE := by rw [<- hHo, hres, hce]; rfl
      rw [hE, hres, hce]
      refine qbS λK hK => ?_
      refine Zz ?_
      refine jm CO (by repeat (first | exact q2j | exact qeo | refine qhm ω ?_)) (λi hi _ => q1C (.inl hi.1)) ?_
      try refine Zz ?_
      refine hK _ _ ?_; clear hK K
      refine wk1 bne ?_
      refine (rtM (rs := [.tmp 8]) rfl rfl Lq ?_ (.inl rfl))
      exact qhu rfl
    rw [if_pos hfin] at CO
    have hfq : ∀ i, i < n -> i ∉ q.rows -> q0L (fR 0 (rsZ F q j k i)) := by rw [qr, <- hZ]; exact hfin
    have hLd : clL F q n j k = opR S.rows Z n := by unfold clL; rw [qr, hZ]
    obtain ⟨L, hL⟩ : ∃ L, L = opR S.rows Z n := ⟨_, rfl⟩
    obtain ⟨V, hV⟩ : ∃ V, V = rsV F q j k := ⟨_, rfl⟩
    have hmem : ∀ i ∈ L, i < n /\ fR 0 (Z i) = V i /\ q0L (V i) := λi hi => by
      rw [hL] at hi
      obtain ⟨m1, m2, m3⟩ := q3r.1 hi
      have e : V i = fR 0 (Z i) := by rw [hV, q5b, qr, if_neg m2, hZ]
      exact ⟨m1, e.symm, by rw [e]; exact hfin i m1 m2⟩
    have hLl : L.length <= n := by rw [hL]; exact qc0
    have CP := qlA (Z := Z) (v := V) (n := n) (num := num) (den := den) (mi := mi) (L := L) (H := hpG [(5061, inB (uR S q k k)), (5062, flB (uV q k k)), (5050, cuB), (5051, mpB (cM sD (upG F S j k k) n))] (luW n ms mi mv S k)) hn hnum hden Oq hmem hmil (qb2 q22 (q81 q3D)) (qcj (n := n) (ms := ms) (mi := mi) (mv := mv) (S := S) (k := k))
    have hcb : bsT V mi num den (mxT V L L.length) L L.length = clB F mi q n j k num den := by unfold clB; rw [hLd, <- hL, <- hV]
    rw [<- hL] at CO hLd
    rw [hcb] at CP
    have hrg := qeI (F := F) (mi := mi) (q := q) (n := n) (j := j) (k := k) (num := num) (den := den)
    rw [hLd] at hrg
    refine qbS λK hK => ?_
    refine Zz ?_
    refine jm CO (by repeat (first | exact q2j | exact qeo | refine qhm ω ?_)) (λi hi _ => q1C (.inl hi.1)) ?_
    try refine Zz ?_
    refine hK _ _ ?_; clear hK K
    refine wk1 beq ?_
    refine qbS λK hK => ?_
    refine Zz ?_
    refine jm CP (by repeat (first | exact q2j | exact qeo | refine qhm ω ?_)) (λi hi _ => q1C (.inl hi.1)) ?_
    try refine Zz ?_
    refine hK _ _ ?_; clear hK K
    by_cases hneg : clB F mi q n j k num den < 0
    . have hce := qm7 (mi := mi) (num := num) (den := den) hus hfq hneg
      have hE : Ho = luE := by rw [<- hHo, hres, hce]; rfl
      rw [hE, hres, hce]
      refine wk1 hneg ?_
      refine (rtM (rs := [.tmp 8]) rfl rfl Lq ?_ (.inl rfl))
      exact qhu rfl
    . obtain ⟨b, hb⟩ : ∃ b : Nat, clB F mi q n j k num den = b := ⟨(clB F mi q n j k num den).toNat, by omega⟩
      obtain ⟨p, hp⟩ : ∃ p, L[b]? = some p := ⟨_, zA Oq⟩
      have he : (L.map (enP Z))[b]? = some (enP Z p) := by rw [zC, hp]; rfl
      have hpm := hmem p (zG hp)
      rw [hb]
      have hneg2 : ¬ (b : Int) < 0 := by omega
      obtain ⟨p1, p2, p3⟩ := hpm
      unfold enP at he
      rw [p2] at he
      have hpV : V p < 18446744073709551616 := by rw [<- p2]; exact q4u
      have hsp : ∀ i, 5060 <= i -> i < 5070 -> luW n ms mi mv S k i = none := λi h1 h2 => q4l Oq
      have CA := qnj (rs := uR S q k k) (vs := uV q k k) (row := p) (v := V p) (B := luW n ms mi mv S k) q22 hsp hul hvl
      refine wk1 (x2 hneg2 he) ?_
      refine q2k (LeG [(5060, some 10)] (L := [(5060, lnB 5061 5062 (uR S q k k).length), (5061, inB (uR S q k k)), (5062, flB (uV q k k))]) (B := luW n ms mi mv S k) (xs := [(0, .pt 5000 0 0), (10, .pt 5060 0 0), (12, .sl (some 6) (L.map (enP Z))), (13, iv b), (14, .pt 14 0 0)]) (kv := []) (bs := [(14, ⟨214, some 6, [.ag [iv p, bv false, bv (decide (od (Z p) < 0)), .fm (fL (od (Z p))), iv (dyE (Z p)), uv (V p : Nat)]], false⟩)]) (kb := []) rfl (λi hi => ?_) q22 (λi hi => ?_) (λi hi hm => ?_) (λp hp => ?_) (by simp [loN, win]) (by simp [q2i, q04, win]) ?_) ?_
      . have := hJ i hi
        simp [q04, show i ≠ 5060 by omega]
      . have := hbw i hi
        simp [q04, show i ≠ 5060 by omega]
      . have hq_ := hbw i hi
        try simp only [zJ, tD, zF, zD, or_false, not_or] at hm
        repeat (first | rw [q0A ω] | rw [q0Q ⟨ω, by omega⟩] | rw [q1G, if_neg ω] | rw [q15])
      . simp only [zF, zD, or_false] at hp
        rcases hp with rfl | rfl | rfl <;> exact ⟨ω, by omega⟩
      . try refine Zz ?_
        exact q0J rfl q8C
      refine qbS λK hK => ?_
      refine Zz ?_
      refine jx CA q2j (λi hi _ => q1C (.inl hi.1)) (Dd_2 (q6f hsp) ?_ ?_) ?_
      . repeat (refine qaS ?_ (by first | (unfold IdP; first | trivial | omega) | simp [IdP, IdL]))
        exact qe7 (by simp [IdL, IdP]) (by simp [IdL, IdP])
      . repeat (refine qaU ?_ rfl (by simp [IdL, IdP]))
        exact qhv (qed (by simp [IdL, IdP]) (by simp [IdL, IdP]))
      try refine Zz ?_
      refine hK _ _ ?_; clear hK K
      refine q2k (LeG [(10, some 5060)] (L := []) (B := luW n ms mi mv S k) (xs := [(0, .pt 5000 0 0), (10, .pt 10 0 0), (12, .sl (some 6) (L.map (enP Z))), (13, iv b), (14, .pt 14 0 0)]) (kv := []) (bs := [(10, ⟨205, some 2, [pLn (uR S q k k ++ [p]) (uV q k k ++ [V p])], false⟩), (14, ⟨214, some 6, [.ag [iv p, bv false, bv (decide (od (Z p) < 0)), .fm (fL (od (Z p))), iv (dyE (Z p)), uv (V p : Nat)]], false⟩)]) (kb := []) rfl (λi hi => ?_) q22 (λi hi => ?_) (λi hi hm => ?_) (λp hp => by cases hp) (by simp [loN, win]) (by simp [q2i, q04, win, q4l]) ?_) ?_
      . have := hJ i hi
        simp [q04, show i ≠ 10 by omega]
      . have := hbw i hi
        simp [q04, show i ≠ 10 by omega]
      . have hq_ := hbw i hi
        try simp only [zJ, tD, zF, zD, or_false, not_or] at hm
        repeat (first | rw [q0A ω] | rw [q0Q ⟨ω, by omega⟩] | rw [q1G, if_neg ω] | rw [q15])
      . try refine Zz ?_
        refine ⟨qjj (T := 3) ?_ q8C ?_ ω σ, qjj (T := 32) ?_ qtU ?_ ω (by simp [hvl])⟩
        . rfl
        . exact q4l (n := n) (ms := ms) (mi := mi) (mv := mv) (S := S) (k := k) (i := 5063) Oq
        . rfl
        . exact q4l (n := n) (ms := ms) (mi := mi) (mv := mv) (S := S) (k := k) (i := 5064) Oq
      have hpl : (plL S.rows n).length = n := by unfold plL; simp
      refine wk1 hpl ?_
      obtain ⟨rows', hrows⟩ : ∃ rows', rows' = S.rows ++ [p] := ⟨_, rfl⟩
      have hLd2 : L.Nodup := by rw [hL]; exact qrB
      have hpr : p ∉ S.rows := by
        have := q3r.1 (by rw [<- hL]; exact zG hp)
        exact this.2.1
      have hcp := q7i (mi := mi) (num := num) (den := den) (p := p) (F := F) (q := q) (n := n) (j := j) (k := k) (by rw [hb]; omega) (by rw [hLd, hb, zU]; exact hp)
      have hd : ofZ (V p) ≠ 0 := q6P p3 hpV (by rw [hV]; exact hcp.2.2.2.2.2)
      obtain ⟨d, hdd⟩ : ∃ d, d = ofZ (V p) := ⟨_, rfl⟩
      rw [<- hdd] at hd
      have hdy : q00 d := by rw [hdd]; exact q5f p3
      have COp : ACt 113 [uv (V p : Nat)] (dT d) := by rw [hdd]; exact q78 hpV (q1S p3)
      have NOp := q7O hdy
      have hspK : ∀ i, 5060 <= i -> i < 5070 -> luK n ms mi mv S k rows' i = none := λi h1 h2 => q99 Oq
      have hbK : ∀ i, luK n ms mi mv S k rows' i ≠ none -> 5000 <= i /\ i <= 5012 := λi hi => qiu hi
      have hJK : ∀ {A : List (Nat × Bk)} (i : Nat), (luW n ms mi mv S k i ≠ none /\ Ho i ≠ none) -> hpG A (luK n ms mi mv S k rows') i ≠ none := λi hi => q1C (.inl (by rcases hJ i hi with rfl | rfl <;> exact yP _))
      refine q0l (λt : Nat => t <= L.length /\ ∀ c i, c < t -> L[c]? = some i -> i ≠ p -> q0L (fQ 0 (Z i) d)) [0, 10, 12, 13, 14, 79, 80] [10, 14] Lk Lk (λt : Nat => [(81, iv t), (15, .pt 5060 0 0), (16, .mp 1078)]) (λt => [(1078, mpB ((xR L p t).map λa : Nat => ((a : Int), vD (fQ 0 (Z a) d))))]) (λt => hpG [(5060, lnB 5061 5062 (xR L p t).length), (5061, inB (xR L p t)), (5062, flB ((xR L p t).map λi => fQ 0 (Z i) d))] (luK n ms mi mv S k rows')) (λt => L.length - t) 0 ⟨zN _, λc i hc => by omega⟩ ?_ ?_
      . show Le _ _ _ _ (q0x (hpG [(5060, lnB 5061 5062 (xR L p 0).length), (5061, inB (xR L p 0)), (5062, flB ((xR L p 0).map λi => fQ 0 (Z i) d)), (5000, wkB n ms mi mv [cnS mi n, .ow 5001 none 0 n, .ow 5012 none 0 (k + 1), .ow 5003 none 0 k, .ow 5004 (some 2) 0 k, .ow 5005 (some 2) 0 k]), (5001, plB rows' n), (5012, inB rows'), (5003, qrQ S n k), (5004, qrs S n k), (5005, qrr S k)] Go.E.h0) _)
        refine LeG [(5060, some 15), (5061, none), (5062, none), (5012, some 75), (1078, some 78)] rfl (λi hi => ?_) BOk.h0 (λi hi => (hi rfl).elim) (λi hi hm => (hi rfl).elim) (λp hp => ?_) (by simp [loN, win]) (by simp [q2i, q04, win, Go.E.h0]) ?_
        . rcases hJ i hi with rfl | rfl <;> rfl
        . simp only [zF, zD, or_false] at hp
          rcases hp with rfl | rfl | rfl | rfl | rfl | rfl | rfl | rfl | rfl <;> exact ⟨ω, by omega⟩
        . try refine Zz ?_
          repeat' (with_reducible apply And.intro)
          all_goals first
            | rfl
            | exact hk
            | exact q0J (by rw [hrows, <- qky hpr p1, hk]) qeH
            | exact q0J (by rw [hrows, zQ]; rfl) q8C
            | exact q0J rfl qo7
            | exact q0J rfl qo9
            | exact q0J rfl qo8
            | (rw [q0a]; exact q18 λp hp => by cases hp)
      . rintro t ⟨ht, hff⟩
        have hxl := qor (L := L) (p := p) (t := t)
        by_cases hlt : t < L.length
        . have hlt' : (t : Int) < L.length := by omega
          obtain ⟨i, hi⟩ : ∃ i, L[t]? = some i := ⟨_, zA hlt⟩
          have het : (L.map (enP Z))[t]? = some (enP Z i) := by rw [zC, hi]; rfl
          obtain ⟨i1, i2, i3⟩ := hmem i (zG hi)
          unfold enP at het
          by_cases hip : i = p
          . have htb : t = b := by
              obtain ⟨x1, x2⟩ := zE.1 hi
              obtain ⟨y1, y2⟩ := zE.1 hp
              rcases Nat.lt_trichotomy t b with hc | hc | hc
              . exact absurd (x2.trans (hip.trans y2.symm)) (zP.1 hLd2 t b x1 y1 hc)
              . exact hc
              . exact absurd (y2.trans (hip.symm.trans x2.symm)) (zP.1 hLd2 b t y1 x1 hc)
            have qe : ((t : Int) == (b : Int)) = true := by simp [htb]
            have ex : xR L p (t + 1) = xR L p t := xR_p (by rw [hi, hip])
            refine wk1 (x3 hlt' het qe) ?_
            refine ⟨t + 1, ⟨ω, λc i' hc h1 h2 => ?_⟩, by omega, ?_⟩
            . by_cases e : c = t
              . subst e
                rw [hi] at h1; cases h1
                exact absurd hip h2
              . exact hff c i' Oq h1 h2
            . rw [ex]
              refine LeW [] rfl rfl ?_ ?_ (by simp [q2A, q04, win]) ?_
              . exact Ow
              . exact q0h (qah q98 ⟨ω, by omega⟩ ⟨ω, by omega⟩ Oq)
              . try refine Zz ?_
                exact ⟨ω, by rw [q0a]; exact q18 qhX⟩
          . have htb : t ≠ b := λe => by subst e; rw [hi] at hp; cases hp; exact hip rfl
            have qe : ((t : Int) == (b : Int)) = false := by simp; omega
            have hdz : q00 (Z i) := by rw [hZe, <- hT.s i i1]; exact q7C (hT.b i i1) (by have := hT.c i i1; omega)
            have CQ := qmP hdz hdy hd
            have hql := qs7 (mode := 0) (a := Z i) (b := d) Oq
            have CF := q4w hql
            by_cases hf : q0L (fQ 0 (Z i) d)
            . rw [decide_eq_true hf] at CF
              refine wk1 (x3 hlt' het qe) ?_
              have CA2 := qnj (rs := xR L p t) (vs := (xR L p t).map λi => fQ 0 (Z i) d) (row := i) (v := fQ 0 (Z i) d) (B := luK n ms mi mv S k rows') q98 hspK ω σ
              have COv := q7M (q78 hql (q1S hf)) (q5f hf)
              have NOv := qoR (V := ofZ (fQ 0 (Z i) d))
              refine qbS λK hK => ?_
              refine Zz ?_
              refine jx CA2 (by repeat (first | exact q2j | exact qeo | refine qhm ω ?_)) (λi hi _ => hJK i hi) (Dd_2 (q6f hspK) ?_ ?_) ?_
              . repeat (refine qaS ?_ (by first | (unfold IdP; first | trivial | omega) | simp [IdP, IdL]))
                first
                  | exact qe7 (by simp [IdL, IdP]) (by simp [IdL, IdP])
                  | exact λt => by unfold Go.E.stV IdP; trivial
              . repeat (refine qaU ?_ rfl (by simp [IdL, IdP]))
                refine qhv (qed (by simp [IdL, IdP]) λp hp => ?_)
                simp only [zF, zD, or_false] at hp
                subst hp
                exact ⟨rfl, qrR qhX⟩
              try refine Zz ?_
              refine hK _ _ ?_; clear hK K
              have ex := xR_n (L := L) (p := p) hi hip
              have hnx := qoq (p := p) hLd2 hi
              have eF : (xR L p t ++ [i]).map (λi => fQ 0 (Z i) d) = (xR L p t).map (λi => fQ 0 (Z i) d) ++ [fQ 0 (Z i) d] := by simp
              have eM : (xR L p t ++ [i]).map (λa : Nat => ((a : Int), vD (fQ 0 (Z a) d))) = q0v ((xR L p t).map λa : Nat => ((a : Int), vD (fQ 0 (Z a) d))) (i : Int) (vD (fQ 0 (Z i) d)) := by rw [q1v (qfn hnx), zQ]; rfl
              have eMc : ∀ (e : Int × PV), e ∈ q0v ((xR L p t).map λa : Nat => ((a : Int), vD (fQ 0 (Z a) d))) (i : Int) (vD (fQ 0 (Z i) d)) -> Cld e.2 := by rw [<- eM]; exact qhX
              refine wk ?_
              refine ⟨t + 1, ⟨ω, λc i' hc h1 h2 => ?_⟩, by omega, ?_⟩
              . by_cases e : c = t
                . subst e
                  rw [hi] at h1; cases h1
                  exact hf
                . exact hff c i' Oq h1 h2
              . rw [ex, eF, eM]
                refine LeG [(5061, some 5063), (5062, some 5064)] rfl (λi hi => ?_) q98 (λi hi => ?_) (λi hi hm => ?_) (λp hp => ?_) (by simp [loN, win]) (by simp [q2i, q04, win, q99]) ?_
                . rcases hJ i hi with rfl | rfl <;> rfl
                . have := hbK i hi
                  simp [q04, show i ≠ 5061 by omega, show i ≠ 5062 by omega]
                . have hbw := hbK
                  have hq_ := hbw i hi
                  try simp only [zJ, tD, zF, zD, or_false, not_or] at hm
                  repeat (first | rw [q0A ω] | rw [q0Q ⟨ω, by omega⟩] | rw [q1G, if_neg ω] | rw [q15])
                . simp only [zF, zD, or_false] at hp
                  rcases hp with rfl | rfl | rfl <;> exact ⟨ω, by omega⟩
                . try refine Zz ?_
                  repeat' (with_reducible apply And.intro)
                  all_goals first
                    | omega
                    | exact q0J rfl q8C
                    | exact q0J rfl (by rw [<- eF]; exact qtU)
                    | (rw [q0a]; exact q18 eMc)
            . rw [decide_eq_false hf] at CF
              have hce := qm6 (mi := mi) (num := num) (den := den) (p := p) hus hfq (by rw [hb]; omega) (by rw [hLd, hb, zU]; exact hp) (i := i) (by rw [hLd]; exact zG hi) hip (by
                rw [<- hV, <- hdd, <- hZ]
                unfold q3k
                rw [if_neg hd]
                exact hf)
              have hE : Ho = luE := by rw [<- hHo, hres, hce]; rfl
              rw [hE, hres, hce]
              refine wk1 (x3 hlt' het qe) ?_
              refine (rtM (rs := [.tmp 8]) rfl rfl Lq ?_ (.inl rfl))
              exact qhu rfl
        . obtain rfl : t = L.length := by omega
          have hlt' : ¬ (L.length : Int) < L.length := by omega
          refine q2k (qur (t := 16) (d := 1078) (T := 0) (l := (xR L p L.length).map λa : Nat => ((a : Int), vD (fQ 0 (Z a) d))) rfl rfl qhX (λt' ht' => ?_) (λi c hne hc => ?_)) ?_
          . repeat' (first | split | unfold Go.E.stM | unfold Go.E.stV)
            all_goals first
              | exact absurd (by assumption) ht'
              | (unfold IdP; first | trivial | omega)
              | (simp [IdP, IdL]; done)
              | trace_state
          . by_cases hw : win i
            . rw [q0Q hw] at hc
              refine IdL_mono (λj hj => ?_) _ ((qah q98 (a := 5061) (b := 5062) ⟨ω, by omega⟩ ⟨ω, by omega⟩ Oq).b i c hc).2.2
              rintro rfl
              exact hj (q99 (n := n) (ms := ms) (mi := mi) (mv := mv) (S := S) (k := k) (rows := rows') (i := 1078) Oq)
            . rw [q1I hw] at hc
              repeat' (first | (unfold Go.E.hpM at hc; split at hc) | (unfold Go.E.hpV at hc; split at hc) | unfold Go.E.hpM at hc | unfold Go.E.hpV at hc)
              all_goals first
                | (cases hc; done)
                | exact absurd (by assumption) hne
                | (cases hc; simp [IdL, IdP]; done)
                | (simp only at hc; cases hc; simp [IdL, IdP]; done)
                | trace_state
          refine wk1 hlt' ?_
          refine (rtM (rs := [.tmp 8]) rfl rfl Lq ?_ (.inl rfl))
          have hz0 := hcp.2.2.2.2.2
          have eqf : ∀ z, q3k 0 z d = fQ 0 z d := λz => if_neg hd
          have hce := qm5 (mi := mi) (num := num) (den := den) (p := p) hus hfq (by rw [hb]; omega) (by rw [hLd, hb, zU]; exact hp) (λi hi hip => by
            rw [<- hV, <- hdd, <- hZ, eqf]
            rw [hLd] at hi
            obtain ⟨c, hc⟩ := z9.1 hi
            exact hff c i (zE.1 hc).1 hc hip)
          obtain ⟨r, hr'⟩ : ∃ r, r = loE (pvS q k V p) k Z d n := ⟨_, rfl⟩
          have hcs : clS F q n j k p = r := by unfold clS; rw [hr', <- hV, <- hZ, <- hdd]
          rw [hcs] at hce
          have hrr : r.rows = rows' := by rw [hr', q2K, qr, hrows]
          have hX : xR L p L.length = opR (q.rows ++ [p]) Z n := by
            unfold xR
            rw [List.take_length, hL, qr]
            have := opR_p (q := q) (Z := Z) (n := n) (p := p) (by rw [qr]; exact hpr)
            rw [qr] at this
            exact this
          have hfk : ∀ i m, k <= m -> q.iL i m = false := λi m hm => by rw [qiL]; exact hI.f i m hm
          have e13 : (List.range k).map (λm => PV.fm (q9x (dM S n m))) ++ [.fm (q9x ((xR L p L.length).map λa : Nat => ((a : Int), vD (fQ 0 (Z a) d))))] = (List.range (k + 1)).map λm => PV.fm (q9x (dM r n m)) := by
            rw [z7, zQ, yV, hr', dM_k hfk, hX]
            simp only [eqf]
            congr 1
            exact zO λm hm => by rw [dM_lo (by have := zI.1 hm; omega) ql qiL]
          have e14 : (List.range (k + 1)).map (lnL r n) = (List.range k).map (lnL S n) ++ [pLn (xR L p L.length) ((xR L p L.length).map λi => fQ 0 (Z i) d)] := by
            rw [z7, zQ, yV, hr', lnL_k hfk, hX]
            simp only [eqf]
            congr 1
            exact zO λm hm => qrv (by have := zI.1 hm; omega) ql qiL
          have e15 : (List.range k).map (lnU S) ++ [pLn (uR S q k k ++ [p]) (uV q k k ++ [V p])] = (List.range (k + 1)).map (lnU r) := by
            rw [z7, zQ, yV, hr', lnU_k hk qr]
            congr 1
            exact zO λm hm => (qru (by have := zI.1 hm; omega) hk qr qo).symm
          have hE : Ho = hpG (wkL n ms mi mv r (k + 1) 5012 5013 5014 5015) Go.E.h0 := by rw [<- hHo, hres, hce]; rfl
          have ht0 : ∀ c, (c = 5061 \/ c = 5062) -> ∀ i, q04 [(5013, some 131), (5014, some 117), (5015, some 124)] i = some c -> hpG (wkL n ms mi mv r (k + 1) 5012 5013 5014 5015) Go.E.h0 i = none := λc hc i hi => by
            have e : i = c := by
              simp only [q04] at hi
              repeat' split at hi
              all_goals first | (cases hi; rfl) | (cases hi; omega)
            subst e
            rcases hc with rfl | rfl <;> rfl
          rw [hE, hres, hce]
          refine qbL [(5013, some 131), (5014, some 117), (5015, some 124)] (B := Go.E.h0) rfl (λi hi => ?_) BOk.h0 (λi hi => (hi rfl).elim) (λi hi _ => (hi rfl).elim) (by simp [q2i, q04, win, Go.E.h0]) ?_
          . have hi' : i = 5000 \/ i = 5001 := hJ i (by rw [hE]; exact hi)
            rcases hi' with rfl | rfl <;> rfl
          . try refine Zz ?_
            rw [hrr]
            have hsr : List.range k ++ [k] = List.range (k + 1) := z7.symm
            repeat' (with_reducible apply And.intro)
            all_goals first
              | rfl
              | (rw [hsr]; exact q0J e13 qo7)
              | (rw [hsr]; exact q0J e15 qo8)
              | exact q0J rfl qeH
              | exact q0J rfl q8C
              | (rw [hsr, e14]
                 refine qns (q0J rfl qo9) ?_
                 rw [qeb]
                 rw [qjk, qe9, qe9]
                 exact ⟨q1i (T := 3) rfl q8C (ht0 5061 (.inl rfl)) (by rw [yN]; exact zV σ), q1i (T := 32) rfl qtU (ht0 5062 (.inr rfl)) (by rw [yN]; exact zV σ), trivial⟩)
              | trace_state
end
def qfv {x:Nat} {w:World} (hx:x < 256) :
  Calls Tryz.prog 269 #[.int .u64 x] w λe w'=>e=.returned (.int .i64 (bl x:Nat))/\w=w':=by
 refine q3C Tryz.func269 rfl Tryz.ntmps269 κ ?_;refine Wz ?_;refine q3v λK1 hK1=>?_;have st1:∀ (e1:Env),e1 0=.int .u64 x->e1 2=.int .i64 0->K1 e1 w:=by
  intro e1 h0 h2;refine hK1 _ _ ?_; clear hK1;refine q3v λK1 hK1=>?_;have st2:∀ (e1:Env),e1 0=.int .u64 x->e1 2=.int .i64 0->K1 e1 w:=by
   intro e1 h0 h2;refine hK1 _ _ ?_; clear hK1;refine q3v λK1 hK1=>?_;have st3:∀ (e1:Env),e1 0=.int .u64 x->e1 2=.int .i64 0->K1 e1 w:=by
    intro e1 h0 h2;refine hK1 _ _ ?_; clear hK1;have hw:IntKind.u8.wrap (x:Int)=(x:Int):=u8_in Oq Oq;refine q0n λK hK=>?_
    set_option maxRecDepth 4000 in
    refine Zz3 h0 h2 hw ?_;refine q50 (s:=ql0) κ κ rfl (by rw [q4n]; exact hx) ?_;rw [q9e];have hby:bl x<=8:=q0M Oq;have hs:IntKind.i64.wrap ((0:Int)+(bl x:Int))=(bl x:Int):=by rw [i64_in ω ω]; omega
    simp -implicitDefEqProofs (disch:=omega) only [go_sem,Nat.reduceEqDiff,Nat.reduceAdd,↓reduceIte,i64N,hs];refine hK _ _ ?_; clear hK;refine qbI ?_
    try simp only [q6B,qgD]
    refine qqb rfl ⟨rfl,rfl⟩
   have hb':¬ ((x:Int) ≥ 256):=ω
   refine Wz2 h0 hb' ?_;refine Wf (q4G ?_);exact st3 _ Ue Ue
  have hb':¬ ((x:Int) ≥ 65536):=ω
  refine Wz2 h0 hb' ?_;refine Wf (q4G ?_);exact st2 _ Ue Ue
 have hb':¬ ((x:Int) ≥ 4294967296):=ω
 refine Wz1 hb' ?_;refine Wf (q4G ?_);exact st1 _ Ue Ue
def qfw {x:Nat} (hx:x < 256):ACt 269 [uv x] (iv (bl x:Nat)):=ac_x κ λD w vs hT hF hR=>by
 obtain ⟨_,rfl,h⟩:=qkq hR;rw [q9S h];exact qfv hx
def qsA {x:Nat} (hx:x < 256):ACt 228 [uv x] (iv (bl x:Nat)):=by
 have C1:=qfw hx;generalize bl x=b at *;refine ac0 Tryz.func228 Tryz.ntmps228 [.tmp 2] ?_;exact wk trivial
def qii {a:Int}:ACt 229 [iv a] (bv false):=by
 have q:(a != a)=false:=σ
 refine ac0 Tryz.func229 Tryz.ntmps229 [.tmp 2] ?_;exact wk1 q trivial
def qek (a b:Int):Int:=if a < b then -1 else if b < a then 1 else 0
def qmd {a b:Int}:ACt 181 [iv a,iv b] (iv (qek a b)):=by
 have C1:=qii (a:=a);have C2:=qii (a:=b);unfold qek
 by_cases h1:a < b
 .rw [if_pos h1];refine ac0 Tryz.func181 Tryz.ntmps181 [.tmp 4] ?_;exact wk1 h1 trivial
 .rw [if_neg h1]
  by_cases h2:b < a
  .have h3:a > b:=h2;rw [if_pos h2];refine ac0 Tryz.func181 Tryz.ntmps181 [.tmp 4] ?_;exact wk1 (x2 h1 h3) trivial
  .have h3:¬ a > b:=h2;rw [if_neg h2];refine ac0 Tryz.func181 Tryz.ntmps181 [.tmp 4] ?_;exact wk1 (x2 h1 h3) trivial
def qme {a0 a1 a2 a3 a4 a5 a7 a8 a9 a10:PV} {pl:List PV} {rs vs:List Nat} {i j r1 r2:Nat} {k1 k2:Int} (hi:rs[i]?=some r1) (hj:rs[j]?=some r2) (h1:pl[r1]?=some (iv k1)) (h2:pl[r2]?=some (iv k2)) :
  ACt 180 [iv i,iv j,.qt none (.qt (some 11) (.ag [a0,a1,a2,a3,a4,a5,.sl none pl,a7,a8,a9,a10])),.qt (some 2) (pLn rs vs)] (iv (qek k1 k2)):=by
 have C1:=qmd (a:=k1) (b:=k2);generalize qek k1 k2=c at *;refine ac0 Tryz.func180 Tryz.ntmps180 [.tmp 6] ?_;exact wk1 (x4 hi hj h1 h2) trivial
def q9Z {α:Type} {key:α->Nat}:∀ {a b:List α},a.Perm b->a.Pairwise (λx y=>key x < key y)->b.Pairwise (λx y=>key x < key y)->a=b
 | [],b,hp,_,_=>(List.Perm.nil_eq hp)
 | x :: a,[],hp,_,_=>by have:=hp.length_eq; simp at this
 | x :: a,y :: b,hp,ha,hb=>by
  have ha':=xT.1 ha;have hb':=xT.1 hb;have h1:x ∈ y :: b:=hp.mem_iff.1 yU;have h2:y ∈ x :: a:=hp.mem_iff.2 yU;have e:x=y:=by
   rcases zF.1 h1 with e | h1
   .exact e
   .rcases zF.1 h2 with e | h2
    .exact e.symm
    .have q1:=hb'.1 x h1;have q2:=ha'.1 y h2;omega
  subst e;rw [q9Z (List.Perm.cons_inv hp) ha'.2 hb'.2]
def q8W:∀ (n:Nat) (l:List Nat),l.Nodup->(∀ x ∈ l,x < n)->l.length<=n
 | 0,l,_,h=>by
  cases l with
  | nil=>simp
  | cons x l=>have:=h x yU; omega
 | n+1,l,hd,h=>by
  by_cases hm:n ∈ l
  .have h1:=q8W n (l.erase n) (hd.erase n) λx hx=>by
    have h2:=(List.Nodup.mem_erase_iff hd).1 hx;have:=h x h2.2;omega
   rw [xF hm] at h1;omega
  .have h1:=q8W n l hd λx hx=>by
    have:=h x hx;have:x≠n:=λe=>hm (e ▸ hx);omega
   omega
def pigN:∀ (n:Nat) (l:List Nat),l.Nodup->(∀ x ∈ l,x < n)->l.length=n->∀ i,i < n->i ∈ l
 | 0,_,_,_,_,i,hi=>by omega
 | n+1,l,hd,h,hl,i,hi=>by
  by_cases hm:n ∈ l
  .by_cases e:i=n
   .subst e; exact hm
   .refine List.mem_of_mem_erase (pigN n (l.erase n) (hd.erase n) (λx hx=>?_) ?_ i Oq)
    .have h2:=(List.Nodup.mem_erase_iff hd).1 hx;have:=h x h2.2;omega
    .rw [xF hm]; omega
  .have h1:=q8W n l hd λx hx=>by
    have:=h x hx;have:x≠n:=λe=>hm (e ▸ hx);omega
   omega
def q7A {f:Nat->Nat->Option Nat} {j:Nat} {p:Nat->Bool} {w:Nat->Nat}:∀ n,(∀ k,k < n->f j k=if p k then some (w k) else none)->tZ f j n=((List.range n).filter p).map λk=>(k,w k)
 | 0,_=>rfl
 | n+1,h=>by
  rw [qoL,q7A n λk hk=>h k ω,z7,yA,zQ,h n ω]
  congr 1
  cases hp:p n <;> simp [hp]
def q8M {f:Nat->Nat->Option Nat} {j a:Nat} (h:∀ k,a<=k->f j k=none):∀ n,a<=n->tZ f j n=tZ f j a
 | 0,hn=>by
  obtain rfl:a=0:=ω
  rfl
 | n+1,hn=>by
  by_cases e:a=n+1
  .subst e; rfl
  .rw [qoL,q8M h n ω,h n ω]; simp
def tZ_nd {f:Nat->Nat->Option Nat} {j n:Nat}:(tZ f j n).Nodup:=(q4A n).imp λ{a b} h e=>by subst e; omega
section
variable {S:LuS} {n j:Nat}
def tZ_U (hj:j < n):(liU S j).map (λt=>(t,S.u t j))=tZ (fUt S) j n:=by
 rw [q8M (a:=j+1) (λk hk=>if_neg λh=>by omega) n ω,q7A (p:=λt=>S.iU t j) (w:=λt=>S.u t j) (j+1) λk hk=>?_]
 .rfl
 .unfold fUt
  by_cases h:S.iU k j=true
  .rw [if_pos ⟨ω,h⟩,if_pos h]
  .rw [if_neg λq=>h q.2,if_neg h]
structure RwOk (n:Nat) (S:LuS):Prop where
 d:S.rows.Nodup
 b:∀ x ∈ S.rows,x < n
 l:S.rows.length=n
 p:∀ i m,S.iL i m=true->m < S.rows.idxOf i
def RwOk.mem (h:RwOk n S) {i:Nat} (hi:i < n):i ∈ S.rows:=pigN n S.rows h.d h.b h.l i hi
def RwOk.get (h:RwOk n S) {i:Nat} (hi:i < n):S.rows.getD (S.rows.idxOf i) 0=i:=by
 have:=h.mem hi;rw [zB,zA (xG.2 this),zL,List.getElem_idxOf]
def RwOk.idx (h:RwOk n S) {t:Nat} (ht:t < n):S.rows.idxOf (S.rows.getD t 0)=t:=by
 rw [zB,zA (by rw [h.l]; exact ht),zL];exact h.d.idxOf_getElem t _
def tZ_L (h:RwOk n S):((liL S n j).map λr=>(S.rows.idxOf r,S.l r j)).Perm (tZ (fLt S) j n):=by
 have h1:((liL S n j).map λr=>(S.rows.idxOf r,S.l r j)).Nodup:=by
  refine List.Pairwise.map _ (R:=λa b=>a≠b/\a < n/\b < n) (λa b q e=>?_) ?_
  .obtain ⟨q1,q2,q3⟩:=q;have:=congrArg Prod.fst e;simp only at this;have g1:=h.get q2;have g2:=h.get q3;rw [this] at g1;omega
  .have:(liL S n j).Pairwise λa b=>a≠b:=List.nodup_range.filter _;refine this.imp_of_mem λ{a b} ha hb hq=>⟨hq,?_,?_⟩
   .exact zI.1 (u7.1 ha).1
   .exact zI.1 (u7.1 hb).1
 refine (List.perm_ext_iff_of_nodup h1 tZ_nd).2 λ⟨i,x⟩=>?_;rw [q12,zR];unfold fLt
 constructor
 .rintro ⟨r,hr,e⟩;cases e;obtain ⟨hr1,hr2⟩:=u7.1 hr;have hr1:=zI.1 hr1;have:=xG.2 (h.mem hr1);rw [h.l] at this;exact ⟨this,by rw [h.get hr1,if_pos ⟨h.p r j hr2,hr2⟩]⟩
 .rintro ⟨hi,e⟩
  split at e
  .rename_i hq;cases e;have hr:S.rows.getD i 0 < n:=by
    rw [zB,zA (by rw [h.l]; exact hi),zL];exact h.b _ (yF _)
   exact ⟨S.rows.getD i 0,u7.2 ⟨zI.2 hr,hq.2⟩,by rw [h.idx hi]⟩
  .cases e
end
abbrev inX (l:List Nat):List PV:=l.map λz:Nat=>iv z
section
variable {key:Nat->Nat} {ls:List Nat}
def kAt (key:Nat->Nat) (l:List Nat) (a:Nat):Nat:=key (l.getD a 0)
def qbm (l:List Nat) (j:Nat):List Nat:=(l.set j (l.getD (j-1) 0)).set (j-1) (l.getD j 0)
def qkZ {l:List Nat} {j a:Nat} (hj:0 < j) (hl:j < l.length):(qbm l j).getD a 0=if a=j then l.getD (j-1) 0 else if a=j-1 then l.getD j 0 else l.getD a 0:=by
 unfold qbm;simp only [zB,yE,List.length_set]
 by_cases h1:a=j
 .subst h1;rw [if_neg ω,if_pos rfl,if_pos hl,if_pos rfl]; rfl
 .rw [if_neg h1]
  by_cases h2:a=j-1
  .subst h2;rw [if_pos rfl,if_pos ω,if_pos rfl]; rfl
  .rw [if_neg ω,if_neg ω,if_neg h2]
def qbl {l:List Nat} {j:Nat} (hj:0 < j) (hl:j < l.length):(qbm l j).Perm l:=by
 obtain ⟨c,rfl⟩:∃ c,j=c+1:=⟨j-1,ω⟩;have e1:l=l.take c ++ l[c] :: l[c+1] :: l.drop (c+2):=by
  rw [xK,xK,List.take_append_drop]
 have hc:(l.take c).length=c:=by rw [yG]; omega
 have q:∀ a,(qbm l (c+1))[a]?=if a=c+1 then l[c]? else if a=c then l[c+1]? else l[a]?:=λa=>by
  unfold qbm;rw [Nat.add_sub_cancel,yE,yE,List.length_set,zB,zB]
  by_cases a1:a=c+1
  .subst a1;rw [if_neg ω,if_pos rfl,if_pos hl,if_pos rfl,zA (show c < l.length by omega)]; rfl
  .by_cases a2:a=c
   .subst a2;rw [if_pos rfl,if_pos ω,if_neg a1,if_pos rfl,zA hl]; rfl
   .rw [if_neg ω,if_neg ω,if_neg a1,if_neg a2]
 have e2:qbm l (c+1)=l.take c ++ l[c+1] :: l[c] :: l.drop (c+2):=by
  apply zX
  intro a;rw [q,List.getElem?_append,hc]
  by_cases a3:a < c
  .rw [if_pos a3,if_neg ω,if_neg ω,xA,if_pos a3]
  .rw [if_neg a3]
   by_cases a2:a=c
   .subst a2;rw [if_neg ω,if_pos rfl,Nat.sub_self,xI,zA hl]
   .by_cases a1:a=c+1
    .subst a1;rw [if_pos rfl,show c+1-c=0+1 by omega,yX,xI,zA (show c < l.length by omega)]
    .rw [if_neg a1,if_neg a2,show a-c=(a-c-2)+1+1 by omega,yX,yX,List.getElem?_drop]
     congr 1
     omega
 rw [e2]
 conv=>rhs; rw [e1]
 exact List.Perm.append_left _ (List.Perm.swap _ _ _)
def qvm (key:Nat->Nat) (l:List Nat) (i:Nat):Prop:=∀ a b,a < b->b < i->kAt key l a < kAt key l b
structure InsK (key:Nat->Nat) (l:List Nat) (i j:Nat):Prop where
 o:∀ a b,a < b->b<=i->a≠j->b≠j->kAt key l a < kAt key l b
 h:∀ b,j < b->b<=i->kAt key l j < kAt key l b
def InsK.init {l:List Nat} {i:Nat} (h:qvm key l i):InsK key l i i:=⟨λa b h1 h2 _ h4=>h a b h1 Oq,λb h1 h2=>by omega⟩
def InsK.done {l:List Nat} {i j:Nat} (h:InsK key l i j) (hj:j<=i) (h0:j=0\/kAt key l (j-1) < kAt key l j):qvm key l (i+1):=λa b h1 h2=>by
 by_cases e1:a=j
 .subst e1; exact h.h b h1 Oq
 .by_cases e2:b=j
  .subst e2
   rcases h0 with h0 | h0
   .omega
   .by_cases e3:a=b-1
    .subst e3; exact h0
    .exact Nat.lt_trans (h.o a (b-1) Oq Oq e1 Oq) h0
  .exact h.o a b h1 Oq e1 e2
def InsK.step {l:List Nat} {i j:Nat} (h:InsK key l i j) (hj:j<=i) (hl:i < l.length) (h0:0 < j) (hlt:kAt key l j < kAt key l (j-1)):InsK key (qbm l j) i (j-1):=by
 have e:∀ a,kAt key (qbm l j) a=if a=j then kAt key l (j-1) else if a=j-1 then kAt key l j else kAt key l a:=λa=>by
  unfold kAt;rw [qkZ h0 ω]
  split
  .rfl
  .split <;> rfl
 refine ⟨λa b h1 h2 h3 h4=>?_,λb h1 h2=>?_⟩
 .rw [e,e,if_neg h4,if_neg h3]
  by_cases e1:a=j
  .subst e1;rw [if_pos rfl,if_neg ω];exact h.o (a-1) b Oq h2 Oq Oq
  .rw [if_neg e1]
   by_cases e2:b=j
   .subst e2;rw [if_pos rfl];exact h.o a (b-1) Oq Oq e1 Oq
   .rw [if_neg e2];exact h.o a b h1 h2 e1 e2
 .rw [e,e,if_neg ω,if_pos rfl,if_neg (show b≠j-1 by omega)]
  by_cases e2:b=j
  .rw [if_pos e2]; exact hlt
  .rw [if_neg e2]; exact h.h b ω h2
def qto {l:List Nat} (hp:l.Perm ls) (hs:ls.Pairwise λa b=>key a < key b) (h:qvm key l l.length):l=ls:=by
 refine q9Z (key:=key) hp (zP.2 λa b ha hb hab=>?_) hs;have:=h a b hab hb;unfold kAt at this
 rwa [zB,zA ha,zB,zA hb] at this
structure CmpF (key:Nat->Nat) (m:Nat) (fv:PV) (f:FuncId) (ys:List PV):Prop where
 v:FnP fv f ys
 c:Cld fv
 cl:∀ (h:Hp) (a b:Nat),q2P h ([iv a,iv b] ++ ys)=some ([iv a,iv b] ++ ys,[])
 ac:∀ a b,a < m->b < m->ACt f ([iv a,iv b] ++ ys) (iv (qek (key a) (key b)))
def qbA {l:List Nat}:ClL (inX l):=λx hx=>by
 obtain ⟨z,_,rfl⟩:=zR.1 hx; trivial
abbrev atB (l:List Nat):Bk:=⟨3,none,inX l,false⟩
def srH (l:List Nat):Hp:=hpG [(5000,atB l)] h0
def srH_0 {l:List Nat}:srH l 5000=some (atB l):=rfl
def q51 {l:List Nat} {i:Nat} (h:srH l i≠none):i=5000:=by
 unfold srH at h
 rcases q5k h with h | h
 .exact absurd rfl h
 .simpa using h
def qbt {l:List Nat} {i:Nat} (h:i≠5000):srH l i=none:=Classical.byContradiction λhq=>h (q51 hq)
attribute [go_sem ↓] srH_0 qbt
def q1m {l:List Nat}:BOk (srH l) win:=qbN BOk.h0 λp hp=>by
 simp only [zF,zD,or_false] at hp;subst hp;exact ⟨⟨ω,ω⟩,rfl,IdL.of λx hx=>q07 (qbA x hx)⟩
def qbu {l l':List Nat} (hl:l.length<=l'.length):∀ i b,srH l i=some b->win i/\b.st=false/\IdL win b.xs/\∃ b',srH l' i=some b'/\b'.k=b.k/\b.xs.length<=b'.xs.length:=λi b hb=>by
 obtain ⟨q1,q2,q3,_⟩:=q1m.hi i b hb;obtain rfl:=q51 (l:=l) (i:=i) (by rw [hb]; exact yP _);cases hb;exact ⟨q1,q2,q3,_,rfl,rfl,by simpa using hl⟩
def ql8 {l:List Nat} {j x y:Nat} (hx:l[j]?=some x) (hy:l[j-1]?=some y):((inX l).set j (iv y)).set (j-1) (iv x)=inX (qbm l j):=by
 unfold qbm inX;rw [List.map_set,List.map_set,getD_some hx,getD_some hy]
def qdB {m:Nat} {fv:PV} {f:FuncId} {ys:List PV} {l0:List Nat} (hm:m<=1000) (hC:CmpF key m fv f ys) (hl0:l0.Perm ls) (hb:∀ a ∈ ls,a < m) (hlm:ls.length=m) (hs:ls.Pairwise λa b=>key a < key b) (hinj:∀ a b,a < m->b < m->key a=key b->a=b) :
  qeh 261 [.ow 5000 none 0 m,iv 0,iv m,fv] (srH l0) (.tu []) (srH ls):=by
 have hll:l0.length=m:=by rw [hl0.length_eq,hlm]
 have hfi:IdP win fv:=q07 hC.c;have hnd:ls.Nodup:=hs.imp λ{a b} h e=>by subst e; omega
 refine qen qjR Tryz.func261 rfl Tryz.ntmps261 κ ?_ ?_ ?_ ?_
 .exact qbu Oq
 .exact q1m.ho
 .exact IdL.of λx hx=>by
   simp at hx
   rcases hx with rfl | rfl | rfl | rfl
   .unfold IdP; exact ⟨ω,ω⟩
   .unfold IdP; trivial
   .unfold IdP; trivial
   .exact hfi
 have hJ:∀ i,srH l0 i≠none->i=5000:=λi hi=>q51 hi;have hcv:=hC.v;have hcc:=hC.c;have hcl:=hC.cl;have hca:=Hid.mk hC.ac;clear hC;refine wk ?_;refine q0l (λq:Nat × List Nat=>1<=q.1/\(q.1<=m\/q.1=1)/\q.2.Perm ls/\qvm key q.2 q.1) [0,1,2,3] [] Lk Lk (λq=>[(8,iv q.1)]) (λ_=>[]) (λq=>srH q.2) (λq=>m-q.1) (1,l0) ⟨zS _,.inr rfl,hl0,λa b h1 h2=>by omega⟩ ?_ ?_
 .refine LeW [] rfl rfl ?_ ?_ (by simp [q2A,q04,win]) ?_
  .exact Ow
  .exact q0h q1m
  .try refine Zz ?_
   first | done | omega | exact .cl hcc | exact ⟨ω,.cl hcc⟩ | exact ⟨rfl,.cl hcc⟩
 .rintro ⟨i,l⟩ ⟨h1,h2,hp,ha⟩;simp only at h1 h2 hp ha ⊢;have hlen:l.length=m:=by rw [hp.length_eq,hlm]
  by_cases hlt:i < m
  .have hlt':(i:Int) < m:=ω
   refine wk1 hlt' ?_;refine q0l (λq:Nat × List Nat=>q.1<=i/\q.2.Perm ls/\InsK key q.2 i q.1) [0,1,2,3,8] [] Lk Lk (λq=>[(9,iv q.1)]) (λ_=>[]) (λq=>srH q.2) (λq=>q.1) (i,l) ⟨zS _,hp,.init ha⟩ ?_ ?_
   .refine LeW [] rfl rfl ?_ ?_ (by simp [q2A,q04,win]) ?_
    .exact Ow
    .exact q0h q1m
    .try refine Zz ?_
     first | done | omega | exact .cl hcc | exact ⟨ω,.cl hcc⟩ | exact ⟨rfl,.cl hcc⟩
   .rintro ⟨j,l⟩ ⟨hji,hp,hI⟩;simp only at hji hp hI ⊢;have hlen:l.length=m:=by rw [hp.length_eq,hlm]
    by_cases hj0:j=0
    .subst hj0;have q:¬ (((0:Nat):Int) > 0):=ω
     refine wk1 q ?_;refine ⟨(i+1,l),⟨by simp only; omega,.inl (by simp only; omega),hp,hI.done (zN _) (.inl rfl)⟩,by simp only; omega,?_⟩;refine LeW [] rfl rfl ?_ ?_ (by simp [q2A,q04,win]) ?_
     .exact Ow
     .exact q0h q1m
     .try refine Zz ?_
      first | done | omega | exact .cl hcc | exact ⟨ω,.cl hcc⟩ | exact ⟨rfl,.cl hcc⟩
    .have q:(j:Int) > 0:=ω
     obtain ⟨x,hx⟩:∃ x,l[j]?=some x:=⟨_,zA Oq⟩;obtain ⟨y,hy⟩:∃ y,l[j-1]?=some y:=⟨_,zA Oq⟩;have wj:IntKind.i64.wrap ((j:Int)-1)=((j-1:Nat):Int):=by rw [i64_in ω ω]; omega
     have hxm:=hb x (hp.mem_iff.1 (zG hx));have hym:=hb y (hp.mem_iff.1 (zG hy));have CC:=hca.o x y hxm hym;have hkx:kAt key l j=key x:=by unfold kAt; rw [getD_some hx]
     have hky:kAt key l (j-1)=key y:=by unfold kAt; rw [getD_some hy]
     refine qvn ?_;refine qvp q83 κ λK hK=>?_;simp -implicitDefEqProofs (disch:=omega) only [go_sem,Nat.reduceEqDiff,Nat.reduceAdd,↓reduceIte,i64_in,yQ,yJ,zW,yZ,uZ,u6,zY,yR,yK,yS,yL,q52,q53,q57,q58,q54,q55,q1p,q1q,q1r,q1s,q1n,q1o,q,hx,hy,wj];refine q4X hcv ?_;rw [hcl];refine q0K CC ?_
     try refine Zz ?_
     by_cases hk:key x < key y
     .have e:qek (key x) (key y) = -1:=if_pos Oq;rw [e]
      try refine Zz ?_
      refine ⟨qbB κ,hK _ _ ?_⟩; clear hK K;refine wk1 (x3 hx hy wj) ?_;refine ⟨(j-1,qbm l j),⟨by simp only; omega,(qbl ω ω).trans hp,hI.step hji ω ω (by rw [hkx,hky]; exact hk)⟩,by simp only; omega,?_⟩;simp only;refine LeW [] rfl rfl ?_ (q0h q1m) (by simp [q2A]) ?_
      .intro a ha
       by_cases e:a=5000
       .subst e;rw [q0O,ql8 hx hy]; rfl
       .rw [q0A e,q0A e,q0Q ha,qbt e,qbt e]
      .try refine Zz ?_
       exact .cl hcc
     .have hne:key x≠key y:=λe=>by
       have:=hinj x y hxm hym e;subst this;have hlnd:l.Nodup:=hp.nodup_iff.2 hnd;obtain ⟨x1,x2⟩:=zE.1 hx;obtain ⟨y1,y2⟩:=zE.1 hy;exact zP.1 hlnd (j-1) j y1 x1 Oq (y2.trans x2.symm)
      have e:¬ qek (key x) (key y) < 0:=by unfold qek; rw [if_neg ω,if_pos ω]; omega
      have hd:=hI.done hji (.inr (by rw [hkx,hky]; omega));generalize qek (key x) (key y)=cz at *
      try refine Zz1 e ?_
      refine ⟨qbB κ,hK _ _ ?_⟩; clear hK K;refine wk ?_;refine ⟨(i+1,l),⟨by simp only; omega,.inl (by simp only; omega),hp,hd⟩,by simp only; omega,?_⟩;refine LeW [] rfl rfl ?_ ?_ (by simp [q2A,q04,win]) ?_
      .exact Ow
      .exact q0h q1m
      .try refine Zz ?_
       first | done | omega | exact .cl hcc | exact ⟨ω,.cl hcc⟩ | exact ⟨rfl,.cl hcc⟩
  .have hlt':¬ (i:Int) < m:=ω
   refine wk1 hlt' ?_;refine rtM (rs:=[]) rfl rfl Lq ?_ (.inr rfl);have him:qvm key l l.length:=by
    rw [hlen]
    rcases h2 with h2 | h2
    .rwa [show m=i by omega]
    .subst h2;intro a b hab hbm;omega
   rw [qto hp hs him];refine qbL (L:=[]) [] rfl (λ_ _=>rfl) q1m (λ_ _=>rfl) (λi hi hm=>?_) (by simp [q2i]) ?_
   .rw [q51 hi]; rfl
   .try simp -implicitDefEqProofs (disch:=omega) only [go_sem,Nat.reduceEqDiff,Nat.reduceAdd,↓reduceIte]
end
section
variable {key:Nat->Nat} {ls:List Nat} {m:Nat} {fv:PV} {f:FuncId} {ys:List PV} {l0:List Nat}
def pdq_m {lim:Int} (hm:m<=12) (hC:CmpF key m fv f ys) (hl0:l0.Perm ls) (hb:∀ a ∈ ls,a < m) (hlm:ls.length=m) (hs:ls.Pairwise λa b=>key a < key b) (hinj:∀ a b,a < m->b < m->key a=key b->a=b) :
  qeh 227 [.ow 5000 none 0 m,iv 0,iv m,iv lim,fv] (srH l0) (.tu []) (srH ls):=by
 have CI:=qdB (m:=m) Oq hC hl0 hb hlm hs hinj;have hcc:=hC.c;have hll:l0.length=m:=by rw [hl0.length_eq,hlm]
 have hfi:IdP win fv:=q07 hC.c;refine qen qjT Tryz.func227 rfl Tryz.ntmps227 κ ?_ ?_ ?_ ?_
 .exact qbu Oq
 .exact q1m.ho
 .exact IdL.of λx hx=>by
   simp at hx
   rcases hx with rfl | rfl | rfl | rfl | rfl
   .unfold IdP; exact ⟨ω,ω⟩
   .unfold IdP; trivial
   .unfold IdP; trivial
   .unfold IdP; trivial
   .exact hfi
 refine wk ?_;refine q0l (λ_:Unit=>True) [0,1,2,3,4] [] Lk Lk (λ_=>[]) (λ_=>[]) (λ_=>srH l0) (λ_=>0) () trivial ?_ ?_
 .refine LeW [] rfl rfl ?_ ?_ (by simp [q2A,q04,win]) ?_
  .exact Ow
  .exact q0h q1m
  .try refine Zz ?_
   first | done | exact .cl hcc
 .intro _ _;have q1:((m:Int)-0)=m:=ω
  have q2:(m:Int)<=12:=ω
  refine wk1 (x2 q1 q2) ?_;refine qbS λK hK=>?_;refine Zz ?_;refine jm CI (by repeat (first | exact q2j | exact qeo | refine qhm ω ?_)) (λi hi _=>hi) ?_
  try refine Zz ?_
  refine hK _ _ ?_; clear hK K;refine wk ?_;refine (rtM (rs:=[]) rfl rfl Lq ?_ (.inl rfl));refine qbL (L:=[]) [] rfl (λ_ _=>rfl) q1m (λ_ _=>rfl) (λi hi hm=>?_) (by simp [q2i]) ?_
  .rw [q51 hi]; rfl
  .try simp -implicitDefEqProofs (disch:=omega) only [go_sem,Nat.reduceEqDiff,Nat.reduceAdd,↓reduceIte]
def qpr (hm:m<=12) (hC:CmpF key m fv f ys) (hl0:l0.Perm ls) (hb:∀ a ∈ ls,a < m) (hlm:ls.length=m) (hs:ls.Pairwise λa b=>key a < key b) (hinj:∀ a b,a < m->b < m->key a=key b->a=b) :
  qeh 179 [.ow 5000 none 0 m,fv] (srH l0) (.tu []) (srH ls):=by
 have CI:=λlim=>pdq_m (lim:=lim) hm hC hl0 hb hlm hs hinj;have hcc:=hC.c;have hll:l0.length=m:=by rw [hl0.length_eq,hlm]
 have hfi:IdP win fv:=q07 hC.c;have CL:=qsA (x:=m) Oq;have hw:IntKind.u64.wrap (m:Int)=(m:Int):=u64_in Oq Oq;generalize bl m=bm at CL;refine qen qjX Tryz.func179 rfl Tryz.ntmps179 κ ?_ ?_ ?_ ?_
 .exact qbu Oq
 .exact q1m.ho
 .exact IdL.of λx hx=>by
   simp at hx
   rcases hx with rfl | rfl
   .unfold IdP; exact ⟨ω,ω⟩
   .exact hfi
 refine wk ?_;refine q9C λK9 hK9=>?_;refine Zz1 hw ?_;refine jc ?_
 try refine Zz ?_
 refine q0K CL ?_
 try refine Zz ?_
 refine jm (CI bm) (by repeat (first | exact q2j | exact qeo | refine qhm ω ?_)) (λi hi _=>hi) ?_
 try refine Zz ?_
 refine hK9 _ _ ?_; clear hK9 K9;refine rtM (rs:=[]) rfl rfl Lq ?_ (.inr rfl);refine qbL (L:=[]) [] rfl (λ_ _=>rfl) q1m (λ_ _=>rfl) (λi hi hm=>?_) (by simp [q2i]) ?_
 .rw [q51 hi]; rfl
 .try simp -implicitDefEqProofs (disch:=omega) only [go_sem,Nat.reduceEqDiff,Nat.reduceAdd,↓reduceIte]
end
end Go.Proofs.YtbjoghfmhgadkaaGreatDoor
namespace Go.E
open Go Go.RowKit
def qsT [NL] {K:Kd} {x:PV} {A:Prop}:q1K none (.qt K x) A=A:=by simp [q1K,q4D,qau]
def qux {τ:Nat->Option Nat} {h h':Hp} {K:Kd} {x:PV}:LeV τ h h' (.qt K x) (.qt K x)=True:=eq_true (.cl trivial)
attribute [go_sem] qsT qux
end Go.E
namespace Go.Proofs.YtbjoghfmhgadkaaGreatDoor
open Go Go.E Go.Sp
def qcX {α β:Type} {g:α->β} {A Z:List β} (h:A.Perm Z):∀ l:List α,A=l.map g->∃ l':List α,l'.Perm l/\l'.map g=Z:=by
 induction h with
 | nil=>exact λl hl=>⟨l,.refl _,hl.symm⟩
 | cons x _ ih =>
  intro l hl;cases l with
  | nil=>cases hl
  | cons a l =>
   rw [zJ] at hl;obtain ⟨h1,h2⟩:=List.cons.inj hl;obtain ⟨l',q1,q2⟩:=ih l h2;exact ⟨a :: l',q1.cons a,by rw [zJ,q2,h1]⟩
 | swap x y t =>
  intro l hl
  match l,hl with
  | a :: b :: l,hl =>
   rw [zJ,zJ] at hl;obtain ⟨h1,h2⟩:=List.cons.inj hl;obtain ⟨h3,h4⟩:=List.cons.inj h2;exact ⟨b :: a :: l,List.Perm.swap _ _ _,by rw [zJ,zJ,<- h1,<- h3,<- h4]⟩
 | trans _ _ ih1 ih2 =>
  intro l hl;obtain ⟨l1,q1,q2⟩:=ih1 l hl;obtain ⟨l2,q3,q4⟩:=ih2 l1 q2.symm;exact ⟨l2,q3.trans q1,q4⟩
def qqn {key:Nat→Nat} {l:List Nat} {a b:Nat} (hs:l.Pairwise fun a b=>key a < key b) (ha:a ∈ l) (hb:b ∈ l) (e:key a=key b):a=b:=by
 obtain ⟨i,hi⟩:=List.mem_iff_getElem?.1 ha;obtain ⟨j,hj⟩:=List.mem_iff_getElem?.1 hb;obtain ⟨x1,x2⟩:=List.getElem?_eq_some_iff.1 hi;obtain ⟨y1,y2⟩:=List.getElem?_eq_some_iff.1 hj
 rcases Nat.lt_trichotomy i j with hc | hc | hc
 .have:=List.pairwise_iff_getElem.1 hs i j x1 y1 hc;rw [x2,y2] at this; omega
 .subst hc; rw [hi] at hj; exact (Option.some.inj hj)
 .have:=List.pairwise_iff_getElem.1 hs j i y1 x1 hc;rw [x2,y2] at this; omega
def q5U (m t:Nat):List Nat:=(List.range m).map λc=>if c < t then c else 0
def qs4 {m:Nat}:List.replicate m (PV.vl (.int .i64 0))=inX (q5U m 0):=by
 unfold q5U inX;rw [xL]
 apply zX
 intro i;rw [yY,zC]
 by_cases h:i < m
 .rw [if_pos h,zH h]; rfl
 .rw [if_neg h,zK (by simpa using h)]; rfl
def qs2 {m t:Nat} (ht:t < m):(inX (q5U m t)).set t (iv (t:Nat))=inX (q5U m (t+1)):=by
 unfold q5U inX;rw [xL,xL]
 apply zX
 intro i;rw [yE,zC,zC]
 by_cases h:i < m
 .rw [zH h]
  by_cases e:t=i
  .subst e;simp [h]
  .rw [if_neg e];simp only [tG,Function.comp]
   by_cases h2:i < t
   .rw [if_pos h2,if_pos ω]
   .rw [if_neg h2,if_neg ω]
 .rw [zK (l:=List.range m) (by simpa using h)]
  by_cases e:t=i <;> simp [e]
  omega
def qs3 {m:Nat}:q5U m m=List.range m:=by
 unfold q5U;refine (zO λc hc=>?_).trans (List.map_id _);rw [if_pos (zI.1 hc)]; rfl
def qgy {m t:Nat}:(q5U m t).length=m:=by unfold q5U; simp
def qji {τ:Nat->Option Nat} {h h':Hp} {T:TypeId} {K:Kd} {id:Nat} {x:PV} (h1:h id=some ⟨T,K,[x],false⟩) (hk:0 < ksz K) (hx:Cld x) (h2:∀ i,τ i=some id->h' i=none):LeV τ h h' (.pt id 0 0) (.qt K x):=.pqg (b:=⟨T,K,[x],false⟩) h1 rfl hk rfl (.cl hx) hx h2
section
variable {n k:Nat} {rs vs:Nat->List Nat} {K:Nat->Nat} {f:Nat->Nat->Option Nat} {a0 a1 a2 a3 a4 a5 a7 a8 a9 a10:PV} {pl:List PV}
structure GtOk (n k:Nat) (rs vs:Nat->List Nat) (K:Nat->Nat) (f:Nat->Nat->Option Nat) (pl:List PV):Prop where
 p:∀ r,r < n->pl[r]?=some (iv (K r:Nat))
 l:∀ j,j < k->(vs j).length=(rs j).length
 m:∀ j,j < k->(rs j).length<=12
 b:∀ j,j < k->∀ r ∈ rs j,r < n
 z:∀ j,j < k->((List.range (rs j).length).map λt=>(K ((rs j).getD t 0),(vs j).getD t 0)).Perm (tZ f j n)
def q72 (hn:n<=100) (hk:k<=100) (hG:GtOk n k rs vs K f pl) :
  ACt 100 [.qt (some 11) (.ag [a0,a1,a2,a3,a4,a5,.sl none pl,a7,a8,a9,a10]),.sl (some 2) ((List.range k).map λj=>pLn (rs j) (vs j))] (.tu [pI (tM f n k).1,pI (tM f n k).2.1,pF (tM f n k).2.2]):=by
 have hLl:=λj=>q0p (f:=f) (R:=n) j;have hL1:∀ j,(tM f n (j+1)).1=(tM f n j).1 ++ [(((tM f n j).2.1 ++ (tZ f j n).map (λq=>(q.1:Int))).length:Int)]:=λj=>by
  show (tM f n j).1 ++ [((tC f j (tM f n j).2 n).1.length:Int)]=_
  rw [q5O]
 have hL2:∀ j,(tM f n (j+1)).2.1=(tM f n j).2.1 ++ (tZ f j n).map (λq=>(q.1:Int)):=λj=>by
  show (tC f j (tM f n j).2 n).1=_
  rw [q5O]
 have hL3:∀ j,(tM f n (j+1)).2.2=(tM f n j).2.2 ++ (tZ f j n).map (·.2):=λj=>by
  show (tC f j (tM f n j).2 n).2=_
  rw [q5O]
 have hkn:k*n<=100*100:=z6 hk hn;obtain ⟨W,hW⟩:∃ W,W=PV.ag [a0,a1,a2,a3,a4,a5,.sl none pl,a7,a8,a9,a10]:=⟨_,rfl⟩;refine ac0 Tryz.func100 Tryz.ntmps100 [.tmp 4,.tmp 5,.tmp 6] ?_;refine wk ?_;refine q0C (λj=>j<=k) [14,15] [] Lk Lk (λj:Nat=>[(2,.qt none (.qt (some 11) (.ag [a0,a1,a2,a3,a4,a5,.sl none pl,a7,a8,a9,a10]))),(16,iv j),(4,.ow 1001 none 0 (tM f n j).1.length),(5,.ow 1002 none 0 (tM f n j).2.1.length),(6,.ow 1003 none 0 (tM f n j).2.2.length)]) (λj=>[(1001,⟨3,none,(tM f n j).1.map λz:Int=>iv z,false⟩),(1002,⟨3,none,(tM f n j).2.1.map λz:Int=>iv z,false⟩),(1003,⟨32,none,(tM f n j).2.2.map λz:Nat=>uv z,false⟩)]) (λj=>k-j) 0 (zN _) ?_ ?_
 .refine LeM [(1001,some 13),(1002,none),(1003,none)] rfl rfl ?_;refine Zz ?_;refine ⟨⟨qji rfl (by decide) trivial (λi hi=>?_),rfl,rfl,rfl,rfl⟩,rfl,rfl,rfl⟩;simp only [q04] at hi
  repeat' split at hi
  all_goals first | (cases hi; done) | (cases hi; rfl)
 .intro j hj;have hLj:=hLl j;have hjn:j*n<=100*100:=z6 Oq hn
  by_cases hlt:j < k
  .have hlt':(j:Int) < k:=ω
   have rj:((List.range k).map λj=>pLn (rs j) (vs j))[j]?=some (pLn (rs j) (vs j)):=by rw [zC,zH hlt]; rfl
   obtain ⟨m,hm⟩:∃ m,(rs j).length=m:=⟨_,rfl⟩;have hm12:=hG.m j hlt;rw [hm] at hm12;refine wk1 (x3 hlt' rj hm) ?_;have hfl:=λt=>qgy (m:=m) (t:=t);refine q0C (λt=>t<=m) [2,4,5,6,14,15,16,25] [1001,1002,1003] Lk Lk (λt:Nat=>[(8,.qt (some 2) (pLn (rs j) (vs j))),(9,.ow 1004 none 0 m),(24,.ow 1004 none 0 m),(26,iv t)]) (λt=>[(1004,atB (q5U m t))]) (λt=>m-t) 0 (zN _) ?_ ?_
   .refine LeM [(1004,some 23)] rfl rfl ?_;refine Zz ?_;refine ⟨⟨qji rfl (by decide) q8m (λi hi=>?_),rfl⟩,q0J qs4 qbA⟩;simp only [q04] at hi
    repeat' split at hi
    all_goals first | (cases hi; done) | (cases hi; rfl)
   .intro t ht
    by_cases htm:t < m
    .have htm':(t:Int) < m:=ω
     refine wk1 (x2 htm' (hfl t)) ?_;refine ⟨t+1,ω,ω,?_⟩;refine LeM [] rfl rfl ?_;refine Zz ?_;exact ⟨rfl,q0J (qs2 htm) qbA⟩
    .obtain rfl:m=t:=ω
     have htm':¬ (m:Int) < m:=ω
     rw [qs3];obtain ⟨ls,hlp,hlz⟩:=qcX (g:=λt=>(K ((rs j).getD t 0),(vs j).getD t 0)) (hG.z j hlt) (List.range m) (by rw [hm]);have hlen:ls.length=m:=by rw [hlp.length_eq,zW]
     have hlb:∀ a ∈ ls,a < m:=λa ha=>zI.1 (hlp.mem_iff.1 ha);have hlm':∀ a,a < m->a ∈ ls:=λa ha=>hlp.mem_iff.2 (zI.2 ha);have hsrt:ls.Pairwise λa b=>K ((rs j).getD a 0) < K ((rs j).getD b 0):=by
      have:=q4A (f:=f) (j:=j) n;rw [<- hlz,List.pairwise_map] at this;exact this
     have hinj:∀ a b,a < m->b < m->K ((rs j).getD a 0)=K ((rs j).getD b 0)->a=b:=λa b ha hb=>qqn hsrt (hlm' a ha) (hlm' b hb);have hrg:∀ t,t < m->(rs j)[t]?=some ((rs j).getD t 0)/\(rs j).getD t 0 < n:=λt ht=>by
      have h1:(rs j)[t]?=some ((rs j)[t]' ω):=zA Oq;have h2:(rs j).getD t 0=(rs j)[t]' ω:=by rw [zB,h1]; rfl
      rw [h2];exact ⟨h1,hG.b j hlt _ (yF _)⟩
     have hCF:CmpF (λt=>K ((rs j).getD t 0)) m (.fm (qhB 180 [.qt none (.qt (some 11) (.ag [a0,a1,a2,a3,a4,a5,.sl none pl,a7,a8,a9,a10])),.qt (some 2) (pLn (rs j) (vs j))])) 180 [.qt none (.qt (some 11) (.ag [a0,a1,a2,a3,a4,a5,.sl none pl,a7,a8,a9,a10])),.qt (some 2) (pLn (rs j) (vs j))]:=⟨FnP_2,trivial,λh a b=>by simp [q2P,clo,q32,q25],λa b ha hb=>qme (hrg a ha).1 (hrg b hb).1 (hG.p _ (hrg a ha).2) (hG.p _ (hrg b hb).2)⟩;have CS:=qpr hm12 hCF hlp.symm hlb hlen hsrt hinj;refine wk1 htm' ?_;refine q2k (LeG [(5000,some 1004)] (L:=[(5000,atB (List.range m))]) (B:=Go.E.h0) (xs:=[(2,.qt none (.qt (some 11) (.ag [a0,a1,a2,a3,a4,a5,.sl none pl,a7,a8,a9,a10]))),(8,.qt (some 2) (pLn (rs j) (vs j))),(14,.sl (some 2) ((List.range k).map λj=>pLn (rs j) (vs j))),(15,iv k),(16,iv j),(4,.ow 1001 none 0 (tM f n j).1.length),(5,.ow 1002 none 0 (tM f n j).2.1.length),(6,.ow 1003 none 0 (tM f n j).2.2.length),(9,.ow 5000 none 0 m)]) (kv:=[]) (bs:=[(1001,⟨3,none,(tM f n j).1.map λz:Int=>iv z,false⟩),(1002,⟨3,none,(tM f n j).2.1.map λz:Int=>iv z,false⟩),(1003,⟨32,none,(tM f n j).2.2.map λz:Nat=>uv z,false⟩)]) (kb:=[]) rfl (λi hi=>hi.elim) BOk.h0 (λi hi=>(hi rfl).elim) (λi hi hm=>(hi rfl).elim) (λp hp=>?_) (by simp [loN,win]) (by simp [q2i,q04,win,Go.E.h0]) ?_) ?_
     .simp only [zF,zD,or_false] at hp;subst hp;exact ⟨ω,ω⟩
     .try refine Zz ?_
      exact q0J rfl qbA
     refine qbS λK hK=>?_;refine Zz ?_;refine jmF CS ?_ ?_
     .exact Ow
     .try refine Zz ?_
      refine hK _ _ ?_; clear hK K;have hzl:(tZ f j n).length=m:=by rw [<- hlz,zM,hlen]
      have hlen':(inX ls).length=m:=by unfold inX; rw [zM,hlen]
      obtain ⟨A,hA⟩:∃ A,A=(tM f n j).2.1:=⟨_,rfl⟩;obtain ⟨V,hV⟩:∃ V,V=(tM f n j).2.2:=⟨_,rfl⟩;have hmn:(j+1)*n<=100*100:=z6 Oq hn;have hlj:=hLl (j+1);rw [hL2,hL3] at hlj;simp only [u9,zM,hzl] at hlj;rw [<- hA,<- hV] at hLj hlj;rw [<- hA,<- hV];have el:∀ s,s<=m->(A ++ ((tZ f j n).take s).map λq=>(q.1:Int)).length=A.length+s:=λs hs=>by simp [yG]; omega
      have ev:∀ s,s<=m->(V ++ ((tZ f j n).take s).map (·.2)).length=V.length+s:=λs hs=>by simp [yG]; omega
      refine wk ?_;refine q0C (λs=>s<=m) [2,8,14,15,16,4] [1001] Lk Lk (λs:Nat=>[(37,.ow 1004 none 0 m),(38,iv m),(39,iv s),(5,.ow 1002 none 0 (A.length+s)),(6,.ow 1003 none 0 (V.length+s))]) (λs=>[(1004,atB ls),(1002,⟨3,none,(A ++ ((tZ f j n).take s).map λq=>(q.1:Int)).map λz:Int=>iv z,false⟩),(1003,⟨32,none,(V ++ ((tZ f j n).take s).map (·.2)).map λz:Nat=>uv z,false⟩)]) (λs=>m-s) 0 (zN _) ?_ ?_
      .refine LeM [(1004,some 5000)] rfl rfl ?_;refine Zz ?_;exact ⟨rfl,q0J rfl qbA⟩
      .intro s hs
       by_cases hsm:s < m
       .have hsm':(s:Int) < m:=ω
        obtain ⟨a,ha⟩:∃ a,ls[s]?=some a:=⟨_,zA Oq⟩;have har:a < m:=hlb a (zG ha);have hz:(tZ f j n)[s]?=some (K ((rs j).getD a 0),(vs j).getD a 0):=by rw [<- hlz,zC,ha]; rfl
        have hra:=(hrg a har).1;have hpa:=hG.p _ (hrg a har).2;have hva:(vs j)[a]?=some ((vs j).getD a 0):=by
         have h1:(vs j)[a]?=some ((vs j)[a]'(by rw [hG.l j hlt]; omega)):=zA (by rw [hG.l j hlt]; omega);rw [zB,h1]; rfl
        have eZ:=q3z hz;obtain ⟨r,hr⟩:∃ r,r=(rs j).getD a 0:=⟨_,rfl⟩;obtain ⟨v,hv⟩:∃ v,v=(vs j).getD a 0:=⟨_,rfl⟩;rw [<- hr,<- hv] at eZ;rw [<- hr] at hra hpa;rw [<- hv] at hva;have els:=el s hs;have evs:=ev s hs;refine wk1 (x6 hsm' ha hra hpa hva (x2 els evs)) ?_;refine ⟨s+1,ω,ω,?_⟩;refine LeM [(1002,some 56),(1003,some 64)] rfl rfl ?_;refine Zz ?_;exact ⟨⟨rfl,rfl,rfl⟩,q0J rfl qbA,by rw [eZ,zQ,xC]; rfl,by rw [eZ,zQ,xC]; rfl⟩
       .obtain rfl:m=s:=ω
        have hsm':¬ (m:Int) < m:=ω
        have els:=el m hs;have evs:=ev m hs;rw [zV (y8 hzl)] at els evs;rw [zV (y8 hzl)];refine wk1 hsm' ?_;refine ⟨j+1,ω,ω,?_⟩;have e0:=hLl (j+1);refine LeM [(1001,some 70)] rfl rfl ?_;refine Zz ?_;rw [hL1,hL2,hL3,<- hA,<- hV];refine ⟨⟨rfl,σ,els.symm,evs.symm⟩,?_,rfl,rfl⟩;rw [els]
  .obtain rfl:k=j:=ω
   have hlt':¬ (k:Int) < k:=ω
   exact wk1 hlt' trivial
end
section
variable {F:Nat->Nat->Option Nat} {mi:List Int} {n j k num den:Nat} {S q r:LuS} {cols:List Int}
def qm4 (h:q2R F mi n S j k num den=(0,r)):∃ q p,upS F S j k k=some q/\p < n/\p ∉ q.rows/\ofZ (rsV F q j k p)≠0/\r=loE (pvS q k (rsV F q j k) p) k (rsZ F q j k) (ofZ (rsV F q j k p)) n:=by
 cases hu:upS F S j k k with
 | none=>rw [qhT hu] at h; cases h
 | some q =>
  by_cases h2:∀ i,i < n->i ∉ q.rows->q0L (fR 0 (rsZ F q j k i))
  .by_cases h3:clB F mi q n j k num den < 0
   .rw [qm7 hu h2 h3] at h; cases h
   .have hrg:=qeI (F:=F) (mi:=mi) (q:=q) (n:=n) (j:=j) (k:=k) (num:=num) (den:=den);obtain ⟨p,hp⟩:∃ p,(clL F q n j k)[(clB F mi q n j k num den).toNat]?=some p:=⟨_,zA Oq⟩;obtain ⟨p1,p2,p3,p4,p5,p6⟩:=q7i Oq hp;refine ⟨q,p,rfl,p1,p2,q6P (by rw [p4]; exact h2 p p1 p2) (by rw [p4]; exact q4u) p6,?_⟩
    by_cases hb:∀ i ∈ clL F q n j k,i≠p->q0L (q3k 0 (rsZ F q j k i) (ofZ (rsV F q j k p)))
    .rw [qm5 hu h2 ω hp hb] at h;exact (Prod.mk.inj h).2.symm
    .refine absurd (λi hi hip=>Classical.byContradiction λhf=>?_) hb;rw [qm6 hu h2 ω hp hi hip hf] at h;cases h
  .rw [qm8 hu h2] at h; cases h
def RwI (S:LuS):Prop:=∀ i m,S.iL i m=true->m < S.rows.idxOf i
def RwI_s {p:Nat} {Z:Nat->Int} {V:Nat->Nat} {d:Int} (h:RwI S) (hf:∀ i m,k<=m->S.iL i m=false) (hk:S.rows.length=k) (h2:q.iL=S.iL) (hr:q.rows=S.rows):RwI (loE (pvS q k V p) k Z d n):=λi m hm=>by
 rw [q2K,hr]
 by_cases hmk:m=k
 .subst hmk;unfold loE pvS at hm;dsimp only at hm
  by_cases hc:m=m/\i < n/\i ∉ q.rows ++ [p]
  .obtain ⟨_,_,hc⟩:=hc;rw [hr] at hc;rw [xP hc,u9];simp; omega
  .rw [if_neg hc,h2,hf i m (zS _)] at hm;cases hm
 .rw [(q26 hmk).2.1,h2] at hm;have:=h i m hm;rw [List.idxOf_append]
  split
  .exact this
  .rename_i hni;rw [xP hni] at this;omega
def facI:∀ k,(q0w F mi n cols num den k).1=0->LuI k (q0w F mi n cols num den k).2.2/\RwI (q0w F mi n cols num den k).2.2
 | 0,_=>⟨⟨λ_ _ _=>by simp [q0w,q2Q]; exact qc2,λ_ _ _=>rfl,by simp [q0w,q2Q]⟩,λ_ _ h=>by simp [q0w,q2Q] at h⟩
 | k+1,h=>by
  have hs:q0w F mi n cols num den (k+1)=if (q0w F mi n cols num den k).1=0 then ((q2R F mi n (q0w F mi n cols num den k).2.2 (lfN cols k) k num den).1,if (q2R F mi n (q0w F mi n cols num den k).2.2 (lfN cols k) k num den).1=9 then k else 0,(q2R F mi n (q0w F mi n cols num den k).2.2 (lfN cols k) k num den).2) else q0w F mi n cols num den k:=rfl
  have hk0:(q0w F mi n cols num den k).1=0:=Classical.byContradiction λhc=>by
   rw [hs,if_neg hc] at h;exact hc h
  obtain ⟨i1,i2⟩:=facI k hk0;have hG:=q24 (F:=F) (mi:=mi) (n:=n) (cols:=cols) (num:=num) (den:=den) k hk0;rw [hs,if_pos hk0] at h ⊢;simp only at h ⊢;generalize (q0w F mi n cols num den k).2.2=S at *;have he:q2R F mi n S (lfN cols k) k num den=(0,(q2R F mi n S (lfN cols k) k num den).2):=Prod.ext h rfl;obtain ⟨q,p,hu,p1,p2,p3,e⟩:=qm4 he;obtain ⟨ql,qiL,qr,_⟩:=qb4 k q hu;rw [e];exact ⟨clS_I i1 ql qiL qr p2 p3,RwI_s i2 i1.f hG.len qiL qr⟩
def gt_L (h:RwOk n S) (hn:n<=12):GtOk n n (liL S n) (λj=>(liL S n j).map λi=>S.l i j) S.rows.idxOf (fLt S) (plL S.rows n):=⟨λr hr=>by
 unfold plL;rw [zC,zH hr,tG];unfold plI;rw [if_pos (h.mem hr)],λj _=>by rw [zM],λj _=>tF (z8 _ _) (by rw [zW]; exact hn),λj _ r hr=>zI.1 (u7.1 hr).1,λj _=>by
 have e:((List.range (liL S n j).length).map λt=>(S.rows.idxOf ((liL S n j).getD t 0),((liL S n j).map λi=>S.l i j).getD t 0))=(liL S n j).map λr=>(S.rows.idxOf r,S.l r j):=by
  apply zX
  intro i;rw [zC,zC]
  by_cases hi:i < (liL S n j).length
  .rw [zH hi,zA hi];simp [zB,hi]
  .rw [zK (by simpa using hi),zK (by simpa using hi)]; rfl
 rw [e];exact tZ_L h⟩
def gt_U (h:RwOk n S) (hn:n<=12):GtOk n n (λj=>(liU S j).map λt=>S.rows.getD t 0) (λj=>(liU S j).map λt=>S.u t j) S.rows.idxOf (fUt S) (plL S.rows n):=⟨λr hr=>by
 unfold plL;rw [zC,zH hr,tG];unfold plI;rw [if_pos (h.mem hr)],λj _=>by rw [zM,zM],λj hj=>by rw [zM]; exact tF (z8 _ _) (by rw [zW]; omega),λj hj r hr=>by
 obtain ⟨t,ht,rfl⟩:=zR.1 hr;have:=zI.1 (u7.1 ht).1;rw [zB,zA (by rw [h.l]; omega),zL];exact h.b _ (yF _),λj hj=>by
 have e:((List.range ((liU S j).map λt=>S.rows.getD t 0).length).map λt=>(S.rows.idxOf (((liU S j).map λt=>S.rows.getD t 0).getD t 0),((liU S j).map λt=>S.u t j).getD t 0))=(liU S j).map λt=>(t,S.u t j):=by
  apply zX
  intro i;rw [zC,zC,zM]
  by_cases hi:i < (liU S j).length
  .have ht:=zI.1 (u7.1 (yF hi)).1;rw [zH hi,zA hi,tG,tG,zB,zB (l:=(liU S j).map λt=>S.u t j),zC,zC,zA hi,tG,tG,zL,zL,h.idx ω]
  .rw [zK (by simpa using hi),zK (by simpa using hi)]; rfl
 rw [e,tZ_U hj]⟩
def qdd (h:(q0w F mi n cols num den n).1=0):RwOk n (q0w F mi n cols num den n).2.2:=by
 obtain ⟨i1,i2⟩:=facI n h;have hG:=q24 (F:=F) (mi:=mi) (n:=n) (cols:=cols) (num:=num) (den:=den) n h;exact ⟨i1.r,hG.r,hG.len,i2⟩
end
def qhU {l:List Int} (hn:l.length<=1000000):ACt 99 [pI l] (pI l):=by
 have hu:=bn_n (P:=Tryz.prog) (k:=none) (l:=l.map λz=>iv z) (t:=23) (E:=3) (c:=0) (d:=0) κ (by decide);refine ac0 Tryz.func99 Tryz.ntmps99 [.tmp 2] ?_;refine wk1 hu ?_;refine A_u rfl (λh=>?_) ?_
 .have e:l=[]:=List.eq_nil_of_length_eq_zero (by simpa using h);exact wk1 e trivial
 .exact wk trivial
end Go.Proofs.YtbjoghfmhgadkaaGreatDoor
namespace Go.E
open Go Go.RowKit
def qsQ {off:Nat} {a b c d e:PV} {cs:List PV}:flS (some (off,5)) (.ag [a,b,c,d,e]) cs=q8R cs off [a,b,c,d,e]:=by
 rw [q49 σ];simp [flS]
attribute [go_sem] qsQ
def Dd_q {hin hout:Hp} {s:Nat->PV} {h:Hp} {q:Nat->Prop} (hg:∀ i,q9n hin hout i->¬ q i) (h1:Sns q s) (h2:Hns q h):Dd hin hout s h :=
 .inr ⟨λt=>q3d (λi hi hq=>hg i hq hi) _ (h1 t),λi c hc hw=>⟨(h2 i c hc hw).1,IdL_mono (λi hi hq=>hg i hq hi) _ (h2 i c hc hw).2⟩⟩
end Go.E
namespace Go.Proofs.YtbjoghfmhgadkaaGreatDoor
open Go Go.E Go.Sp
def plF (n t:Nat):List PV:=(List.range n).map λi=>iv (if i < t then (-1:Int) else 0)
def plF_0 {n:Nat}:List.replicate n (PV.vl (.int .i64 0))=plF n 0:=by
 unfold plF
 apply zX
 intro i;rw [yY,zC]
 by_cases h:i < n
 .rw [if_pos h,zH h]; rfl
 .rw [if_neg h,zK (by simpa using h)]; rfl
def plF_s {n t:Nat} (ht:t < n):(plF n t).set t (iv (-1))=plF n (t+1):=by
 unfold plF
 apply zX
 intro i;rw [yE,zC,zC]
 by_cases h:i < n
 .rw [zH h]
  by_cases e:t=i
  .subst e;simp [h]
  .rw [if_neg e];simp only [tG]
   by_cases h2:i < t
   .rw [if_pos h2,if_pos ω]
   .rw [if_neg h2,if_neg ω]
 .rw [zK (l:=List.range n) (by simpa using h)]
  by_cases e:t=i <;> simp [e]
  omega
def plF_n {n:Nat}:plF n n=plL [] n:=by
 unfold plF plL;refine zO λi hi=>?_;rw [if_pos (zI.1 hi)]
 rfl
def qkz {n t:Nat}:(plF n t).length=n:=by unfold plF; simp
def cnF (mi:List Int) (n t:Nat):List PV:=(List.range n).map λi=>iv (q3A (mi.take t) i)
def cnF_0 {mi:List Int} {n:Nat}:List.replicate n (PV.vl (.int .i64 0))=cnF mi n 0:=by
 unfold cnF
 apply zX
 intro i;rw [yY,zC]
 by_cases h:i < n
 .rw [if_pos h,zH h]; rfl
 .rw [if_neg h,zK (by simpa using h)]; rfl
def qjN {mi:List Int} {t i:Nat} {x:Int} (hx:mi[t]?=some x):q3A (mi.take (t+1)) i=q3A (mi.take t) i+if x=i then 1 else 0:=by
 unfold q3A;rw [q3z hx,yA,u9]
 congr 1
 by_cases h:x=(i:Int) <;> simp [h]
def qma {mi:List Int} {t i:Nat}:q3A (mi.take t) i<=t:=tF (z8 _ _) (by rw [yG]; omega)
def cnF_s {mi:List Int} {n t r:Nat} (hx:mi[t]?=some (r:Int)) (hr:r < n):(cnF mi n t).set r (iv ((q3A (mi.take t) r:Int)+1))=cnF mi n (t+1):=by
 unfold cnF
 apply zX
 intro i;rw [yE,zC,zC]
 by_cases h:i < n
 .rw [zH h]
  by_cases e:r=i
  .subst e;simp only [if_true,zM,zW,h,tG,qjN hx];simp
  .rw [if_neg e];simp only [tG,qjN hx];rw [if_neg ω,Nat.add_zero]
 .rw [zK (l:=List.range n) (by simpa using h)]
  by_cases e:r=i <;> simp [e]
  omega
def qeA {mi:List Int} {n t:Nat}:(cnF mi n t).length=n:=by unfold cnF; simp
def qmb {mi:List Int} {n t r:Nat} (hr:r < n):(cnF mi n t)[r]?=some (iv (q3A (mi.take t) r:Nat)):=by unfold cnF; rw [zC,zH hr]; rfl
def cnF_n {mi:List Int} {n:Nat}:PV.sl none (cnF mi n mi.length)=cnS mi n:=by unfold cnF cnS; rw [List.take_length]
def clCn {mi:List Int} {n t:Nat}:ClL (cnF mi n t):=λx hx=>by
 obtain ⟨i,_,rfl⟩:=zR.1 hx; trivial
def qo6 {n t:Nat}:ClL (plF n t):=λx hx=>by
 obtain ⟨i,_,rfl⟩:=zR.1 hx; trivial
def qiI {f:Nat->Nat->Option Nat} {R:Nat}:∀ (j:Nat) (x:Int),x ∈ (tM f R j).2.1->0<=x/\x < R
 | 0,x,hx=>by simp [tM] at hx
 | j+1,x,hx=>by
  have hx:x ∈ (tC f j (tM f R j).2 R).1:=hx;rw [q5O] at hx
  rcases xN.1 hx with hx | hx
  .exact qiI j x hx
  .obtain ⟨⟨a,v⟩,ha,rfl⟩:=zR.1 hx;have:=(q12.1 ha).1;exact ⟨by simp only; omega,by simp only; omega⟩
def clRp {n:Nat}:ClL (List.replicate n (PV.vl (.int .i64 0))):=λx hx=>by
 rw [(List.mem_replicate.1 hx).2]; trivial
section
variable {F:Nat->Nat->Option Nat} {n:Nat} {cols:List Int} {num den:Nat}
open Classical in
def q2u (h:TOk F n n) (hn:n<=12) (hp:q5J cols n) (hnd:num<=den) (hd1:1<=den) (hd:den<=1000):ACt 36 [pT n n F,pI cols,iv num,iv den] (qo5 F (tM F n n).2.1 n cols num den):=by
 have hll:cols.length=n:=by have:=hp.1; omega
 have hlf:∀ i,i < n->∃ x:Nat,cols[i]?=some (x:Int)/\lfN cols i=x/\x < n:=λi hi=>by
  obtain ⟨x,hx⟩:∃ x,cols[i]?=some x:=⟨_,zA Oq⟩;have:=hp.2.1 x (zG hx);obtain ⟨y,rfl⟩:∃ y:Nat,x=y:=⟨x.toNat,ω⟩;exact ⟨y,hx,qct hx,ω⟩
 have cK:=qfM h;have cP:=q6W (l:=cols) (n:=n) Oq;rw [decide_eq_true hp] at cP;have cN:=qhU (l:=cols) Oq;have hC:=Hid.mk λ{S:LuS} {k j:Nat} (h1:LuG n k S) (h0:LuI k S) (h2:k < n) (h3:j < n)=>qhR (F:=F) (S:=S) (num:=num) (den:=den) h Oq h1.l h1.u h0 h1.r h1.len h2 h3 Oq hd;have hpl:pT n n F=q5S n n (tM F n n).1 (tM F n n).2.1 (tM F n n).2.2:=rfl;have hml:=q0p (f:=F) (R:=n) n;have hnn:n*n<=12*12:=z6 hn hn;have hmb:∀ (t:Nat) (x:Int),(tM F n n).2.1[t]?=some x->0<=x/\x < n:=λt x hx=>qiI n x (zG hx);rw [hpl] at cK ⊢;unfold q5S at cK ⊢;generalize (tM F n n).1=ms at *;generalize (tM F n n).2.1=mi at *;generalize (tM F n n).2.2=mv at *;have hG:=λk=>q24 (F:=F) (mi:=mi) (n:=n) (cols:=cols) (num:=num) (den:=den) k;have hI:=λk=>facI (F:=F) (mi:=mi) (n:=n) (cols:=cols) (num:=num) (den:=den) k;have hR:=qdd (F:=F) (mi:=mi) (n:=n) (cols:=cols) (num:=num) (den:=den);have hE:=λk=>@q9w F mi n cols num den k;have hs:=λk=>show q0w F mi n cols num den (k+1)=if (q0w F mi n cols num den k).1=0 then ((q2R F mi n (q0w F mi n cols num den k).2.2 (lfN cols k) k num den).1,if (q2R F mi n (q0w F mi n cols num den k).2.2 (lfN cols k) k num den).1=9 then k else 0,(q2R F mi n (q0w F mi n cols num den k).2.2 (lfN cols k) k num den).2) else q0w F mi n cols num den k from rfl
 have h0:q0w F mi n cols num den 0=(0,0,q2Q):=rfl;unfold qo5 qmN;generalize q0w F mi n cols num den=C at *;have q1:¬ (num:Int) < 0:=ω
 have q2:¬ (num:Int) > den:=ω
 have q3:¬ (den:Int) < 1:=ω
 have q4:¬ (den:Int) > 1000:=ω
 have b0:((0:Int) != 0)=false:=rfl;have bn:((n:Int) != n)=false:=σ
 refine ac0 Tryz.func36 Tryz.ntmps36 [.cell 8 63,.tmp 9,.tmp 10] ?_;refine wk1 (x6 q1 q2 q3 q4 b0 bn) ?_;refine q0C (λt=>t<=n) [1,2,3,9,10,4,8] [4,8] Lk Lk (λt:Nat=>[(12,.pt 1001 0 0),(70,iv n),(71,iv t)]) (λt=>[(1001,wkB n ms mi mv [.ow 1002 none 0 n,.ow 1003 none 0 n,q1R,q1R,q1R,q1R]),(1002,⟨3,none,List.replicate n (.vl (.int .i64 0)),false⟩),(1003,⟨3,none,plF n t,false⟩)]) (λt=>n-t) 0 (zN _) ?_ ?_
 .refine LeM [(1001,some 65),(1002,some 60),(1003,some 63)] rfl rfl ?_;refine Zz ?_
  repeat' (with_reducible apply And.intro)
  all_goals first
   | rfl
   | omega
   | exact q0J rfl clRp
   | exact q0J rfl qeH
   | exact q0J rfl qo6
   | exact q0J plF_0 qo6
 .intro t ht;have hpf:=qkz (n:=n) (t:=t)
  by_cases hlt:t < n
  .have hlt':(t:Int) < n:=ω
   refine wk1 (x2 hlt' hpf) ?_;refine ⟨t+1,ω,ω,?_⟩;refine LeM [] rfl rfl ?_;refine Zz ?_
   repeat' (with_reducible apply And.intro)
   all_goals first
    | rfl
    | omega
    | exact q0J rfl clRp
    | exact q0J rfl qeH
    | exact q0J rfl qo6
    | exact q0J (plF_s hlt) qo6
  .obtain rfl:n=t:=ω
   have hlt':¬ (n:Int) < n:=ω
   rw [plF_n];refine wk1 hlt' ?_;refine q0C (λt=>t<=mi.length) [1,2,3,9,10,4,8,12,82] [4,8,1001,1003] Lk Lk (λt:Nat=>[(83,iv mi.length),(84,iv t)]) (λt=>[(1002,⟨3,none,cnF mi n t,false⟩)]) (λt=>mi.length-t) 0 (zN _) ?_ ?_
   .refine LeM [] rfl rfl ?_;refine Zz ?_
    repeat' (with_reducible apply And.intro)
    all_goals first
     | rfl
     | omega
     | exact q0J rfl clRp
     | exact q0J rfl qeH
     | exact q0J rfl qo6
     | exact q0J cnF_0 clCn
   .intro t ht;have hcf:=qeA (mi:=mi) (n:=n) (t:=t)
    by_cases hlt:t < mi.length
    .have hlt':(t:Int) < mi.length:=ω
     obtain ⟨x,hx⟩:∃ x,mi[t]?=some x:=⟨_,zA hlt⟩;obtain ⟨x1,x2⟩:=hmb t x hx;obtain ⟨r,rfl⟩:∃ r:Nat,x=r:=⟨x.toNat,ω⟩;have hrn:r < n:=ω
     have hg:=qmb (mi:=mi) (n:=n) (t:=t) hrn;have hcs:=cnF_s hx hrn;have hcl:=qma (mi:=mi) (t:=t) (i:=r);generalize q3A (mi.take t) r=c at *;refine wk1 (x4 hlt' hx hg hcf) ?_;refine ⟨t+1,ω,ω,?_⟩;refine LeM [] rfl rfl ?_;refine Zz ?_
     repeat' (with_reducible apply And.intro)
     all_goals first
      | rfl
      | omega
      | exact q0J rfl clRp
      | exact q0J rfl qeH
      | exact q0J rfl qo6
      | exact q0J hcs clCn
    .obtain rfl:t=mi.length:=ω
     have hlt':¬ (mi.length:Int) < mi.length:=ω
     refine wk1 hlt' ?_;refine q2k (LeG [(5000,some 1001),(5001,some 1003),(5002,none),(5003,none),(5004,none),(5005,none)] (L:=wkL n ms mi mv q2Q 0 5002 5003 5004 5005) (B:=Go.E.h0) (xs:=[(1,pI cols),(2,iv num),(3,iv den),(9,iv 0),(10,iv 0),(4,.pt 4 0 0),(8,.pt 8 0 0),(12,.pt 5000 0 0),(98,pI cols),(99,iv n),(100,iv 0)]) (kv:=[]) (bs:=[(4,⟨26,some 5,[.ag [iv n,iv n,pI ms,pI mi,pF mv]],false⟩),(8,⟨63,some 8,[.ag [q1R,q1R,q1R,q1R,q1R,q1R,q1R,q1R]],false⟩)]) (kb:=[]) rfl (λi hi=>hi.elim) BOk.h0 (λi hi=>(hi rfl).elim) (λi hi hm=>(hi rfl).elim) (λp hp=>?_) (by simp [loN,win]) (by simp [q2i,q04,win,Go.E.h0]) ?_) ?_
     .simp only [zF,zD,or_false] at hp
      rcases hp with rfl | rfl | rfl | rfl | rfl | rfl <;> exact ⟨ω,ω⟩
     .try refine Zz1 hll ?_
      refine ⟨?_,q0J rfl qeH,rfl,rfl,rfl,rfl⟩;rw [<- cnF_n];refine q1i (T:=3) rfl clCn (λi hi=>?_) (by rw [yN]; exact zV (y8 qeA));simp only [q04] at hi
      repeat' split at hi
      all_goals first | (cases hi; done) | (cases hi; rfl)
     have hwl:hpG (wkL n ms mi mv q2Q 0 5002 5003 5004 5005) Go.E.h0=luW n ms mi mv (C 0).2.2 0:=by rw [h0]; rfl
     rw [hwl];refine q0l (λk=>k<=n/\(C k).1=0) [1,2,3,9,10,4,8,12,98,99] [4,8] Lk Lk (λk:Nat=>[(100,iv k)]) (λ_=>[]) (λk=>luW n ms mi mv (C k).2.2 k) (λk=>n-k) 0 ⟨zN _,by rw [h0]⟩ ?_ ?_
     .refine LeW [] rfl rfl ?_ ?_ (by simp [q2A,q04,win]) ?_
      .exact Ow
      .exact q0h q22
      .try simp -implicitDefEqProofs (disch:=omega) only [go_sem,Nat.reduceEqDiff,Nat.reduceAdd,↓reduceIte];first | done | rfl
     .rintro k ⟨hk,hk0⟩;have hGk:=hG k hk0;have hIk:=(hI k hk0).1
      by_cases hkn:k < n
      .have hkn':(k:Int) < n:=ω
       obtain ⟨x,hx,hx2,hx3⟩:=hlf k hkn;have hsk:=hs k;rw [if_pos hk0,hx2] at hsk;have hEk:=hE (k+1);have cX:=hC.o hGk hIk hkn hx3;obtain ⟨res,hres⟩:∃ res,res=q2R F mi n (C k).2.2 x k num den:=⟨_,rfl⟩;rw [<- hres] at cX hsk;obtain ⟨e,r⟩:=res;obtain ⟨O,hO⟩:∃ O,O=luO n ms mi mv (e,r) (k+1):=⟨_,rfl⟩;have hcO:O=if e=0 then hpG (wkL n ms mi mv r (k+1) 5012 5013 5014 5015) Go.E.h0 else luE:=hO
       rw [<- hO] at cX;have hO5:O 5000≠none:=by
        rw [hcO]
        split <;> exact yP _
       simp only at hsk cX;generalize (C k).2.2=S at *;have hgo:∀ i,q9n (luW n ms mi mv S k) O i->¬ ¬ (5001<=i/\i<=5005):=λi ⟨h1,h2,h3⟩=>by
        have:=q96 h2;refine λhc=>hO5 ?_;rw [show 5000=i by omega];exact h3
       refine wk1 (x2 hkn' hx) ?_;refine qbS λK hK=>?_;refine Zz ?_;refine jx cX q2j (λ_ h=>h.elim) (Dd_q hgo ?_ ?_) ?_
       .repeat (refine qaS ?_ (by first | (unfold IdP; first | trivial | exact λh=>absurd h.1 ω) | simp [IdP,IdL]))
        first
         | exact qe7 (by simp [IdL,IdP]) (by simp [IdL,IdP])
         | exact λt=>by unfold Go.E.stV IdP; trivial
       .repeat (refine qaU ?_ rfl (by simp [IdL,IdP]))
        exact qhv (qed (by simp [IdL,IdP]) (by simp [IdL,IdP]))
       try refine Zz ?_
       refine hK _ _ ?_; clear hK K
       by_cases e0:e=0
       .subst e0;rw [if_pos rfl] at hcO;have hskr:(C (k+1)).2.2=r:=by rw [hsk]
        rw [hcO];refine q2k (LeG [(5002,some 5012),(5003,some 5013),(5004,some 5014),(5005,some 5015)] (L:=wkL n ms mi mv r (k+1) 5002 5003 5004 5005) (B:=Go.E.h0) (xs:=[(1,pI cols),(2,iv num),(3,iv den),(9,iv 0),(10,iv 0),(4,.pt 4 0 0),(8,.pt 8 0 0),(12,.pt 5000 0 0),(98,pI cols),(99,iv n),(100,iv k),(18,iv 0)]) (kv:=[]) (bs:=[(4,⟨26,some 5,[.ag [iv n,iv n,pI ms,pI mi,pF mv]],false⟩),(8,⟨63,some 8,[.ag [q1R,q1R,q1R,q1R,q1R,q1R,q1R,q1R]],false⟩)]) (kb:=[]) rfl (λi hi=>hi.elim) BOk.h0 (λi hi=>(hi rfl).elim) (λi hi hm=>(hi rfl).elim) (λp hp=>?_) (by simp [loN,win]) (by simp [q2i,q04,win,Go.E.h0]) ?_) ?_
        .simp only [zF,zD,or_false] at hp
         rcases hp with rfl | rfl | rfl | rfl | rfl | rfl <;> exact ⟨ω,ω⟩
        .try refine Zz ?_
         have hsr:List.range k ++ [k]=List.range (k+1):=z7.symm
         repeat' (with_reducible apply And.intro)
         all_goals first
          | rfl
          | exact q0J rfl qeH
          | exact q0J rfl q8C
          | (rw [hsr]; exact q0J rfl qo7)
          | (rw [hsr]; exact q0J rfl qo9)
          | (rw [hsr]; exact q0J rfl qo8)
          | trace_state
        have b1:((0:Int) == 0)=true:=rfl;have hwl2:hpG (wkL n ms mi mv r (k+1) 5002 5003 5004 5005) Go.E.h0=luW n ms mi mv r (k+1):=rfl;rw [hwl2];refine wk1 b1 ?_;refine ⟨k+1,⟨ω,by rw [hsk]⟩,ω,?_⟩;rw [hskr];refine LeW [] rfl rfl ?_ ?_ (by simp [q2A,q04,win]) ?_
        .exact Ow
        .exact q0h q22
        .try simp -implicitDefEqProofs (disch:=omega) only [go_sem,Nat.reduceEqDiff,Nat.reduceAdd,↓reduceIte];first | done | rfl
       .have hne:C n=(e,if e=9 then k else 0,r):=by rw [hEk (by rw [hsk]; exact e0) n ω,hsk]
        rw [hne];simp only;rw [if_neg e0,if_neg e0];unfold pLU;dsimp only;have b1:(e == 0)=false:=by simpa using e0
        by_cases e9:e=9
        .have b2:(e == 9)=true:=by simpa using e9
         rw [if_pos e9];exact wk1 (x2 b1 b2) trivial
        .have b2:(e == 9)=false:=by simpa using e9
         rw [if_neg e9,show ((0:Nat):Int)=0 from rfl];exact wk1 (x2 b1 b2) trivial
      .obtain rfl:n=k:=ω
       have hkn':¬ (n:Int) < n:=ω
       have hRw:=hR hk0;rw [if_pos hk0,if_pos hk0,hk0];generalize (C n).2.2=S at *;have gL:ACt 100 [.qt (some 11) (.ag [iv n,iv n,pI ms,pI mi,pF mv,cnS mi n,.sl none (plL S.rows n),.sl none (inX S.rows),.sl none ((List.range n).map λm=>.fm (q9x (dM S n m))),.sl (some 2) ((List.range n).map (lnL S n)),.sl (some 2) ((List.range n).map (lnU S))]),.sl (some 2) ((List.range n).map (lnL S n))] (.tu [pI (tM (fLt S) n n).1,pI (tM (fLt S) n n).2.1,pF (tM (fLt S) n n).2.2]):=q72 Oq Oq (gt_L hRw hn);have gU:ACt 100 [.qt (some 11) (.ag [iv n,iv n,pI ms,pI mi,pF mv,cnS mi n,.sl none (plL S.rows n),.sl none (inX S.rows),.sl none ((List.range n).map λm=>.fm (q9x (dM S n m))),.sl (some 2) ((List.range n).map (lnL S n)),.sl (some 2) ((List.range n).map (lnU S))]),.sl (some 2) ((List.range n).map (lnU S))] (.tu [pI (tM (fUt S) n n).1,pI (tM (fUt S) n n).2.1,pF (tM (fUt S) n n).2.2]):=q72 Oq Oq (gt_U hRw hn);have hno:∀ c,5000<=c->c<=5005->∀ i,q04 [] i=some c->q0x (hpG [] Go.E.h0) (hpM [(4,⟨26,some 5,[.ag [iv n,iv n,pI ms,pI mi,pF mv]],false⟩),(8,⟨63,some 8,[.ag [q1R,q1R,q1R,q1R,q1R,q1R,q1R,q1R]],false⟩)] []) i=none:=λc h1 h2 i hi=>by
        have e:i=c:=yM.inj hi;subst e;rw [q0Q ⟨ω,ω⟩]; rfl
       refine q2k (LeG [] (L:=[]) (B:=Go.E.h0) (xs:=[(1,pI cols),(4,.pt 4 0 0),(8,.pt 8 0 0),(98,pI cols),(99,iv n),(100,iv n),(12,.qt (some 11) (.ag [iv n,iv n,pI ms,pI mi,pF mv,cnS mi n,.sl none (plL S.rows n),.sl none (inX S.rows),.sl none ((List.range n).map λm=>.fm (q9x (dM S n m))),.sl (some 2) ((List.range n).map (lnL S n)),.sl (some 2) ((List.range n).map (lnU S))]))]) (kv:=[]) (bs:=[(4,⟨26,some 5,[.ag [iv n,iv n,pI ms,pI mi,pF mv]],false⟩),(8,⟨63,some 8,[.ag [q1R,q1R,q1R,q1R,q1R,q1R,q1R,q1R]],false⟩)]) (kb:=[]) rfl (λi hi=>hi.elim) BOk.h0 (λi hi=>(hi rfl).elim) (λi hi hm=>(hi rfl).elim) (λp hp=>by cases hp) (by simp [loN,win]) (by simp [q2i,q04,win,Go.E.h0]) ?_) ?_
       .try refine Zz ?_
        refine .pqg (b:=wkB n ms mi mv [cnS mi n,.ow 5001 none 0 n,.ow 5002 none 0 n,.ow 5003 none 0 n,.ow 5004 (some 2) 0 n,.ow 5005 (some 2) 0 n]) ?_ rfl (by show 0 < 11; omega) rfl ?_ ?_ (hno 5000 Oq Oq)
        .try simp -implicitDefEqProofs (disch:=omega) only [go_sem,Nat.reduceEqDiff,Nat.reduceAdd,↓reduceIte]
        .try refine Zz ?_
         have htk:∀ {l:List PV},l.length=n->(l.drop 0).take n=l:=λ{l} hl=>by rw [yN]; exact zV (y8 hl)
         refine ⟨q1i (T:=3) ?_ qeH (hno 5001 ω ω) (htk (by simp [plL])),q1i (T:=3) ?_ q8C (hno 5002 ω ω) (htk (by rw [zM,hGk.len])),q1i (T:=216) ?_ qo7 (hno 5003 ω ω) (htk σ),q1i (T:=205) ?_ qo9 (hno 5004 ω ω) (htk σ),q1i (T:=205) ?_ qo8 (hno 5005 ω ω) (htk σ)⟩ <;> rfl
        .intro x hx;simp at hx
         rcases hx with rfl | rfl | rfl | rfl | rfl | rfl | rfl | rfl | rfl | rfl | rfl <;> trivial
       have eR:inX S.rows=(S.rows.map λz:Nat=>(z:Int)).map λz:Int=>iv z:=by rw [xL]; rfl
       unfold q84 pLU;dsimp only;rw [eR] at gL gU ⊢;generalize (S.rows.map λz:Nat=>(z:Int))=rowsI at *;generalize (tM (fLt S) n n).1=g1 at *;generalize (tM (fLt S) n n).2.1=g2 at *;generalize (tM (fLt S) n n).2.2=g3 at *;generalize (tM (fUt S) n n).1=g4 at *;generalize (tM (fUt S) n n).2.1=g5 at *;generalize (tM (fUt S) n n).2.2=g6 at *;exact wk1 hkn' trivial
end
def qrC {f m e:Nat} (h1:f / 4503599627370496 % 2048=e) (h2:e≠0) (h3:e≠2047) (h4:f < 9223372036854775808) (h5:4503599627370496+f % 4503599627370496=m):ofZ f=(m:Int)*(2:Int) ^ (64461+e):=by
 refine q03 ?_;unfold ofF;rw [h1,if_neg h3,if_neg h2,decide_eq_false ω,h5]
 rfl
def fR_u {z K s:Nat} (hK:K=65536) (hs:s<=K) (hz:0 < z):fR 0 ((z:Int)*(2:Int) ^ (K-s))=rF 0 false z (2 ^ s):=by
 have hp:=q0P (K-s);have hpos:0 < (z:Int)*(2:Int) ^ (K-s):=Int.mul_pos Oq hp;unfold fR;rw [if_neg ω,decide_eq_false ω,q0E,zY,<- hK,show (2:Nat) ^ K=2 ^ s*2 ^ (K-s) by rw [<- xD]; congr 1; omega];exact q3O hz (q0F _) (q0F _)
section
variable {K:Nat}
end
def qsv {V:Int} {c:Nat} (h:(2:Int) ^ c ∣ V) (hV:V≠0):c<=tz V.natAbs:=by
 obtain ⟨m,rfl⟩:=h;have hm:m.natAbs≠0:=λh0=>hV (by rw [Int.natAbs_eq_zero.1 h0,Int.mul_zero]);rw [xU,q0E,qb6 hm];omega
def q4P {V:Int} {c:Nat} (h:(2:Int) ^ c ∣ V) (hb:bl V.natAbs<=131072):∃ s,mkV (od V) (dyE V+(-(c:Int)))=some s/\s*(2:Int) ^ c=V/\bl s.natAbs<=bl V.natAbs:=by
 by_cases hV:V=0
 .subst hV;exact ⟨0,by rw [q14,q10],σ,zS _⟩
 .have ht:=qsv h hV;have hE:dyE V=(tz V.natAbs:Int)-65536:=by unfold dyE; rw [if_neg hV]
  have h1:=q7r hV;have h2:=q4k (m:=od V) (E:=dyE V+(-(c:Int))) Oq Oq;refine ⟨_,h2,?_,?_⟩
  .rw [show (dyE V+(-(c:Int))+65536).toNat=tz V.natAbs-c by omega,uY,<- yH,show tz V.natAbs-c+c=tz V.natAbs by omega,q1W]
  .have:=q3P hV;rw [q0E,q1X ω];omega
def qcV {m:Int} {k c:Nat} (h:c<=k):(2:Int) ^ c ∣ m*(2:Int) ^ k:=by
 obtain ⟨e,rfl⟩:∃ e,k=c+e:=⟨k-c,ω⟩;rw [yH,xE];exact Int.dvd_mul_right _ _
def q8X {x c:Nat} (hc:c<=60000) (hx:q0L x):(2:Int) ^ c ∣ ofZ x:=by
 obtain ⟨m,k,h,h1,h2,h3⟩:=q1d hx;rw [q03 h];exact qcV Oq
def q80 {x y K:Nat} (hK:K=65536) (hx:q0L x) (hy:q0L y):q1l x y*(2:Int) ^ K=ofZ x*ofZ y/\∀ c,c<=60000->(2:Int) ^ c ∣ q1l x y:=by
 obtain ⟨m,k,h,h1,h2,h3⟩:=q1d hx;obtain ⟨m',k',h',h1',h2',h3'⟩:=q1d hy;have e:ofZ x*ofZ y=m*m'*(2:Int) ^ (k+k'):=by
  rw [q03 h,q03 h',yH];simp only [uY,xE,xU]
 have hb:bl (m*m').natAbs<=106:=by
  rw [Int.natAbs_mul];exact tF (q1y _ _) Oq
 have hm:=q4k (m:=m*m') (E := -131072+((k+k':Nat):Int)) Oq Oq;obtain ⟨t,ht⟩:∃ t,t=(-131072+((k+k':Nat):Int)+65536).toNat:=⟨_,rfl⟩;rw [<- ht] at hm;have hv:q1l x y=m*m'*(2:Int) ^ t:=by
  unfold q1l;rw [e,q1w,hm]; rfl
 refine ⟨?_,λc hc=>?_⟩
 .rw [hv,e,uY,<- yH,show t+K=k+k' by omega]
 .rw [hv]; exact qcV Oq
def qk0 {M:Int} {l:List Int} (h:∀ x ∈ l,M ∣ x):M ∣ q1Z l:=by
 have key:∀ (l:List Int) (a:Int),M ∣ a->(∀ x ∈ l,M ∣ x)->M ∣ l.foldl (·+·) a:=λl=>by
  induction l with
  | nil=>exact λa h _=>h
  | cons y l ih=>exact λa h1 h2=>ih _ (Int.dvd_add h1 (h2 y σ)) λx hx=>h2 x (by simp [hx])
 exact key l 0 (Int.dvd_zero _) h
def q8j {k:Nat} {V:Int} (h:bl V.natAbs<=k) (hk:k<=131072):q00 V:=tF h hk
def q3u {a b:Int} {k:Nat} (ha:bl a.natAbs<=k) (hb:bl b.natAbs<=k):bl (a+b).natAbs<=k+1:=by
 have:=q5E ha hb;refine q0M (Nat.lt_of_le_of_lt (by omega:(a+b).natAbs<=a.natAbs+b.natAbs) (q1D this))
def awL (f1 f4 f2 f6:Nat) (j i:Nat):Option Nat:=if j=0 then (if i=0 then some f1 else some f4) else if i=0 then some f2 else some f6
section
variable {f1 f2 f4 f6 fq fh:Nat} {Q:Int}
structure AwN (f1 f2 f4 f6 fq fh:Nat) (Q:Int):Prop where
 q:0 < Q
 o1:ofZ f1=4*Q
 o2:ofZ f2=8*Q
 o4:ofZ f4=16*Q
 o6:ofZ f6=24*Q
 oq:ofZ fq=Q
 oh:ofZ fh=2*Q
 n1:q0L f1
 n4:q0L f4
 n6:q0L f6
 nq:q0L fq
 nh:q0L fh
 z1:¬ (f1=0\/f1=9223372036854775808)
 z4:¬ (f4=0\/f4=9223372036854775808)
 zh:¬ (fh=0\/fh=9223372036854775808)
 r1:fR 0 (4*Q)=f1
 r4:fR 0 (16*Q)=f4
 r6:fR 0 (24*Q)=f6
 rh:fR 0 (2*Q)=fh
 d:fQ 0 (4*Q) (16*Q)=fq
 m:q1l fq f6=6*Q
def fin_2 {p:Nat->Prop}:(∀ i,i < 2->p i) ↔ p 0/\p 1:=⟨λh=>⟨h 0 Oq,h 1 Oq⟩,λh i hi=>by
 rcases (by omega:i=0\/i=1) with rfl | rfl
 .exact h.1
 .exact h.2⟩
def qnl {f:Nat} {V:Int} (h:ofZ f=V) (hV:0 < V):abZ f=V:=by unfold abZ; rw [h]; omega
section
variable {F:Nat->Nat->Option Nat} {mi:List Int} {S q t:LuS} {j k p:Nat}
def qjL (h0:q0L (rsV F q j k 0)) (h1:q0L (rsV F q j k 1)) (hb:bsP (rsV F q j k) q mi 1 1 (mxZ (rsV F q j k) 2) 2=(p:Nat)) (ht:loS (pvS q k (rsV F q j k) p) k (rsZ F q j k) (ofZ (rsV F q j k p)) 2=some t):qjM F mi 2 S j k 1 1 q=(0,t):=by
 unfold qjM;rw [if_pos (fin_2.2 ⟨h0,h1⟩),hb,if_neg ω,zU,ht]
end
section
variable {v:Nat->Nat} {S:LuS} {mi:List Int} {num den i:Nat} {w:Int}
def qfj:mxZ v (i+1)=if mxZ v i < abZ (v i) then abZ (v i) else mxZ v i:=rfl
def qt7 (h:i ∈ S.rows\/(v i=0\/v i=9223372036854775808)\/(den:Int)*abZ (v i) < num*w):bsP v S mi num den w (i+1)=bsP v S mi num den w i:=by rw [bsP,if_pos h]
def qt6 (h:¬ (i ∈ S.rows\/(v i=0\/v i=9223372036854775808)\/(den:Int)*abZ (v i) < num*w)) (h2:bsP v S mi num den w i < 0):bsP v S mi num den w (i+1)=i:=by rw [bsP,if_neg h,if_pos (.inl h2)]
def qcm {z:Nat->Int} {d:Int} {t:LuS} {k:Nat} (h:loS S k z d i=some t) (hi:i ∈ S.rows):loS S k z d (i+1)=some t:=by rw [loS,h,y6,if_pos hi]
def qlY {z:Nat->Int} {d:Int} {t:LuS} {k f:Nat} (h:loS S k z d i=some t) (hi:i ∉ S.rows) (hq:q3k 0 (z i) d=f) (hf:q0L f):loS S k z d (i+1)=some { t with l:=q23 t.l i k f,iL:=q8D t.iL i k (decide (z i≠0)) }:=by rw [loS,h,y6,if_neg hi,hq,if_pos hf]
end
def aw_1 (h:AwN f1 f2 f4 f6 fq fh Q) {mi:List Int}:∃ r,q2R (awL f1 f4 f2 f6) mi 2 q2Q 0 0 1 1=(0,r)/\r.rows=[1]/\r.l 0 0=fq/\r.iL 0 0=true/\(∀ i m,(i≠0\/m≠0)->r.iL i m=false):=by
 have hq:=h.q;have e0:rsZ (awL f1 f4 f2 f6) q2Q 0 0 0=4*Q:=by
  show q1Z [ofZ f1]=_
  rw [q4O,h.o1]
 have e1:rsZ (awL f1 f4 f2 f6) q2Q 0 0 1=16*Q:=by
  show q1Z [ofZ f4]=_
  rw [q4O,h.o4]
 have v0:rsV (awL f1 f4 f2 f6) q2Q 0 0 0=f1:=by
  unfold rsV;rw [if_neg (by simp [q2Q]),e0,h.r1]
 have v1:rsV (awL f1 f4 f2 f6) q2Q 0 0 1=f4:=by
  unfold rsV;rw [if_neg (by simp [q2Q]),e1,h.r4]
 have a1:=qnl h.o1 Oq;have a4:=qnl h.o4 Oq;have hm:mxZ (rsV (awL f1 f4 f2 f6) q2Q 0 0) 2=16*Q:=by
  have h1:mxZ (rsV (awL f1 f4 f2 f6) q2Q 0 0) 1=4*Q:=by
   rw [qfj,v0,a1];exact if_pos (show (0:Int) < 4*Q by omega)
  rw [qfj,v1,a4,h1,if_pos ω]
 have hb:bsP (rsV (awL f1 f4 f2 f6) q2Q 0 0) q2Q mi 1 1 (mxZ (rsV (awL f1 f4 f2 f6) q2Q 0 0) 2) 2=((1:Nat):Int):=by
  rw [hm];refine qt6 (λhc=>?_) ?_
  .rw [v1,a4] at hc
   rcases hc with hc | hc | hc
   .simp [q2Q] at hc
   .exact h.z4 hc
   .omega
  .rw [qt7 (.inr (.inr (by rw [v0,a1]; omega)))]
   show (-1:Int) < 0
   omega
 have hl:=qcm (S:=pvS q2Q 0 (rsV (awL f1 f4 f2 f6) q2Q 0 0) 1) (i:=1) (qlY (S:=pvS q2Q 0 (rsV (awL f1 f4 f2 f6) q2Q 0 0) 1) (k:=0) (z:=rsZ (awL f1 f4 f2 f6) q2Q 0 0) (d:=ofZ (rsV (awL f1 f4 f2 f6) q2Q 0 0 1)) (i:=0) (f:=fq) rfl (by simp [pvS,q2Q]) (by
  rw [v1,h.o4,e0];unfold q3k;rw [if_neg ω,h.d]) h.nq) (by simp [pvS,q2Q])
 rw [e0,decide_eq_true (show (4*Q:Int)≠0 by omega)] at hl;refine ⟨_,qjL (by rw [v0]; exact h.n1) (by rw [v1]; exact h.n4) hb hl,rfl,?_,?_,λi m hi=>?_⟩
 .show q23 q2Q.l 0 0 fq 0 0=fq
  exact if_pos ⟨rfl,rfl⟩
 .show q8D q2Q.iL 0 0 true 0 0=true
  exact if_pos ⟨rfl,rfl⟩
 .show q8D q2Q.iL 0 0 true i m=false
  refine (if_neg λhc=>?_).trans rfl
  rcases hi with hi | hi
  .exact hi hc.1
  .exact hi hc.2
def aw_2 (h:AwN f1 f2 f4 f6 fq fh Q) {mi:List Int} {S:LuS} (hr:S.rows=[1]) (hl:S.l 0 0=fq) (hi:∀ i m,(i≠0\/m≠0)->S.iL i m=false) (hi0:S.iL 0 0=true):∃ r,q2R (awL f1 f4 f2 f6) mi 2 S 1 1 1 1=(0,r)/\r.rows=[1,0]/\r.l 0 0=fq/\r.iL 0 0=true/\(∀ i m,(i≠0\/m≠0)->r.iL i m=false):=by
 have hq:=h.q;obtain ⟨q,hqq⟩:∃ q:LuS,q={ S with u:=q23 S.u 0 1 f6,iU:=q8D S.iU 0 1 true }:=⟨_,rfl⟩;have hu:upS (awL f1 f4 f2 f6) S 1 1 1=some q:=by
  have ez:luZ (awL f1 f4 f2 f6) S.l S.u (S.rows.getD 0 0) 1 1 0=24*Q:=by
   rw [hr]
   show q1Z [ofZ f6]=_
   rw [q4O,h.o6]
  simp only [upS,y6,ez,h.r6];rw [if_pos h.n6,decide_eq_true ω,hqq]
 have qr:q.rows=[1]:=by rw [hqq]; exact hr
 have ql:q.l=S.l:=by rw [hqq]
 have qi:q.iL=S.iL:=by rw [hqq]
 have qu:q.u 0 1=f6:=by
  rw [hqq]
  show q23 S.u 0 1 f6 0 1=f6
  exact if_pos ⟨rfl,rfl⟩
 have e0:rsZ (awL f1 f4 f2 f6) q 1 1 0=2*Q:=by
  show q1Z ([ofZ f2] ++ [-(q1l (q.l 0 0) (q.u 0 1))])=_
  rw [q2X,q4O,ql,hl,qu,h.m,h.o2];omega
 have v0:rsV (awL f1 f4 f2 f6) q 1 1 0=fh:=by
  unfold rsV;rw [if_neg (by rw [qr]; simp),e0,h.rh]
 have v1:rsV (awL f1 f4 f2 f6) q 1 1 1=0:=by
  unfold rsV;rw [if_pos (by rw [qr]; simp)]
 have ah:=qnl h.oh Oq;have a0:abZ 0=0:=by unfold abZ; rw [q03 q4T]; rfl
 have hm:mxZ (rsV (awL f1 f4 f2 f6) q 1 1) 2=2*Q:=by
  have h1:mxZ (rsV (awL f1 f4 f2 f6) q 1 1) 1=2*Q:=by
   rw [qfj,v0,ah];exact if_pos (show (0:Int) < 2*Q by omega)
  rw [qfj,v1,a0,h1,if_neg ω]
 have hb:bsP (rsV (awL f1 f4 f2 f6) q 1 1) q mi 1 1 (mxZ (rsV (awL f1 f4 f2 f6) q 1 1) 2) 2=((0:Nat):Int):=by
  rw [hm,qt7 (.inl (by rw [qr]; simp))];refine qt6 (λhc=>?_) (show (-1:Int) < 0 by omega);rw [v0,ah] at hc
  rcases hc with hc | hc | hc
  .rw [qr] at hc; simp at hc
  .exact h.zh hc
  .omega
 have hlo:=qcm (S:=pvS q 1 (rsV (awL f1 f4 f2 f6) q 1 1) 0) (i:=1) (qcm (S:=pvS q 1 (rsV (awL f1 f4 f2 f6) q 1 1) 0) (k:=1) (z:=rsZ (awL f1 f4 f2 f6) q 1 1) (d:=ofZ (rsV (awL f1 f4 f2 f6) q 1 1 0)) (i:=0) rfl (by simp [pvS])) (by simp [pvS,qr]);refine ⟨pvS q 1 (rsV (awL f1 f4 f2 f6) q 1 1) 0,?_,?_,?_,?_,?_⟩
 .unfold q2R;rw [hu];exact qjL (by rw [v0]; exact h.nh) (by rw [v1]; unfold q0L; simp) hb hlo
 .show q.rows ++ [0]=_
  rw [qr]; rfl
 .show q.l 0 0=_
  rw [ql,hl]
 .show q.iL 0 0=_
  rw [qi,hi0]
 .intro i m hc
  show q.iL i m=_
  rw [qi,hi i m hc]
def qtm (h:AwN f1 f2 f4 f6 fq fh Q) {mi:List Int}:∃ f:LUt,qo5 (awL f1 f4 f2 f6) mi 2 [0,1] 1 1=.tu [pLU f,iv 2,iv 0]/\f.rows=[1,0]/\f.lv=[fq]:=by
 obtain ⟨r,c1,c2,c3,c4,c5⟩:=aw_1 h (mi:=mi);obtain ⟨t,d1,d2,d3,d4,d5⟩:=aw_2 h (mi:=mi) c2 c3 c5 c4;have e1:q0w (awL f1 f4 f2 f6) mi 2 [0,1] 1 1 1=(0,0,r):=by
  have:lfN [0,1] 0=0:=rfl;simp only [q0w,this,c1,if_true]
  rfl
 have e2:q0w (awL f1 f4 f2 f6) mi 2 [0,1] 1 1 2=(0,0,t):=by
  have:lfN [0,1] 1=1:=rfl;rw [q0w,e1];simp only [this,d1,if_true]
  rfl
 refine ⟨q84 t [0,1] 2,?_,?_,?_⟩
 .unfold qo5 qmN;rw [e2]
  rfl
 .show t.rows.map _=_
  rw [d2]; rfl
 .show (tM (fLt t) 2 2).2.2=[fq]
  have g0:fLt t 0 0=none:=if_neg λhc=>by omega
  have g1:fLt t 0 1=some fq:=by
   unfold fLt;have g:t.rows.getD 1 0=0:=by rw [d2]; rfl
   rw [g,if_pos ⟨ω,d4⟩,d3]
  have g2:fLt t 1 0=none:=if_neg λhc=>by omega
  have g3:fLt t 1 1=none:=if_neg λhc=>by omega
  simp [tM,tC,g0,g1,g2,g3]
end
def qtl:∃ Q,AwN 4607182418800017408 4611686018427387904 4616189618054758400 4618441417868443648 4598175219545276416 4602678819172646912 Q:=by
 obtain ⟨K,hK⟩:∃ K:Nat,K=65536:=⟨_,rfl⟩;obtain ⟨P,hP⟩:∃ P:Nat,P=K-2:=⟨_,rfl⟩;have p50:(4503599627370496:Int)=(2:Int) ^ 52:=by decide
 have p51:(6755399441055744:Int)=3*(2:Int) ^ 51:=by decide
 have hp:=q0P P;have b:∀ (f e a:Nat),f / 4503599627370496 % 2048=e->e≠0->e≠2047->f < 9223372036854775808->f % 4503599627370496=0->e=1021+a->ofZ f=(2:Int) ^ a*(2:Int) ^ P:=λf e a h1 h2 h3 h4 h5 h6=>by
  rw [qrC (m:=4503599627370496) h1 h2 h3 h4 ω,show (((4503599627370496:Nat):Int))=(2:Int) ^ 52 from p50,<- yH,<- yH]
  congr 1
  omega
 have o1:ofZ 4607182418800017408=4*(2:Int) ^ P:=b _ 1023 2 Oq Oq Oq Oq Oq Oq;have o2:ofZ 4611686018427387904=8*(2:Int) ^ P:=b _ 1024 3 Oq Oq Oq Oq Oq Oq;have o4:ofZ 4616189618054758400=16*(2:Int) ^ P:=b _ 1025 4 Oq Oq Oq Oq Oq Oq;have oq:ofZ 4598175219545276416=(2:Int) ^ P:=by have:=b 4598175219545276416 1021 0 ω ω ω ω ω ω; rw [this]; exact Int.one_mul _
 have oh:ofZ 4602678819172646912=2*(2:Int) ^ P:=b _ 1022 1 Oq Oq Oq Oq Oq Oq;have o6:ofZ 4618441417868443648=24*(2:Int) ^ P:=by
  rw [qrC (m:=6755399441055744) (e:=1025) ω ω ω ω ω,show (((6755399441055744:Nat):Int))=3*(2:Int) ^ 51 from p51,uY,<- yH,show (24:Int)=3*(2:Int) ^ 3 from rfl,uY,<- yH]
  congr 2
  omega
 have r:∀ z f:Nat,0 < z->rF 0 false z 4=f->fR 0 ((z:Int)*(2:Int) ^ P)=f:=λz f hz h=>by
  rw [hP,fR_u hK ω hz]; exact h
 have hm:q1l 4598175219545276416 4618441417868443648=6*(2:Int) ^ P:=by
  have h1:=(q80 hK (x:=4598175219545276416) (y:=4618441417868443648) (by unfold q0L; omega) (by unfold q0L; omega)).1;rw [oq,o6] at h1;refine Int.eq_of_mul_eq_mul_right (Int.ne_of_gt (q0P K)) (h1.trans ?_);have e:(2:Int) ^ K=4*(2:Int) ^ P:=by rw [show K=2+P by omega,yH]; rfl
  rw [e];generalize (2:Int) ^ P=x;rw [show (24:Int)*x=6*4*x from rfl];simp only [uY,xE,xU]
 have hd:fQ 0 (4*(2:Int) ^ P) (16*(2:Int) ^ P)=4598175219545276416:=by
  rw [fQ_K P ω ω]
  show rF 0 false 4 16=4598175219545276416
  kernel_rfl
 exact ⟨(2:Int) ^ P,hp,o1,o2,o4,o6,oq,oh,by unfold q0L; omega,by unfold q0L; omega,by unfold q0L; omega,by unfold q0L; omega,by unfold q0L; omega,ω,ω,ω,r 4 _ Oq κ,r 16 _ Oq κ,r 24 _ Oq κ,r 2 _ Oq κ,hd,hm⟩
def qtn:TOk (awL 4607182418800017408 4616189618054758400 4611686018427387904 4618441417868443648) 2 2:=by
 refine ⟨ω,ω,ω,λj i x _ _ h=>?_,λj i x _ _ h=>?_⟩
 .unfold awL at h
  repeat' split at h
  all_goals (cases h; omega)
 .unfold awL at h
  repeat' split at h
  all_goals (cases h; unfold q0L; omega)
end Go.Proofs.YtbjoghfmhgadkaaGreatDoor
namespace Go.E
open Go Go.RowKit
end Go.E
namespace Go.Proofs.YtbjoghfmhgadkaaGreatDoor
open Go Go.E Go.Sp
section
variable {pm cp ri:List Int} {vs l:List Nat}
end
section
variable {pm cp ri:List Int} {vs b:List Nat} {f:FuncId} {r:PV}
end

def qgB {l:List Int} (hn:l.length<=1000000):ACt 41 [pI l,pI l] (bv true):=by
 have q:((l.length:Int) != (l.length:Int))=false:=σ
 refine ac0 Tryz.func41 Tryz.ntmps41 [.tmp 4] ?_;refine wk1 q ?_;refine q0C (λi=>i<=l.length) [0,1] [] Lk Lk (λi:Nat=>[(5,iv i)]) (λ_=>[]) (λi=>l.length-i) 0 (zN _) ?_ ?_
 .refine LeM [] rfl rfl ?_;refine Zz ?_
  rfl
 .intro i hi
  by_cases hil:i < l.length
  .obtain ⟨x,hx⟩:∃ x,l[i]?=some x:=⟨_,zA hil⟩;have q2:(x != x)=false:=σ
   refine wk1 (x2 hx q2) ?_;refine ⟨i+1,ω,ω,?_⟩;refine LeM [] rfl rfl ?_;refine Zz ?_
   rfl
  .exact wk trivial
end Go.Proofs.YtbjoghfmhgadkaaGreatDoor
namespace Go.E
open Go Go.RowKit
section
variable {P:Program} {Tb:World->Prop} {s:Nat->PV} {h:Hp} {K:PV->Hp->FP->Prop} {t:TypeId} {dd:Nat}
def quD [NL] {a b c f}:ao P Tb (some dd) (.buildSlice t 4 #[(0,a),(1,b),(2,c),(3,f)]) s h K=nnK (h dd) dd (@oK _ (elK P t) ⟨λe=>@cK (4*ksz e.2.1<=16777216) ⟨vK (pe s a) λx=>vK (pe s b) λy=>vK (pe s c) λz=>vK (pe s f) λu=>q1K e.2.1 x (q1K e.2.1 y (q1K e.2.1 z (q1K e.2.1 u (K (.ow dd e.2.1 0 4) (q0R h dd ⟨e.1,e.2.1,[x,y,z,u],false⟩) ([],[dd])))))⟩⟩):=by
 have:=qeY (P:=P) (Tb:=Tb) (s:=s) (h:=h) (K:=K) (t:=t) (dd:=dd) (len:=4) (ps:=[(0,a),(1,b),(2,c),(3,f)]) rfl;simpa [oK,cK,q75,q74,vK] using this
attribute [go_sem ↓] quD
end
section
variable {P:Program} {Tb:World->Prop} {J:Nat->Prop} {n:Nat} {Q:SQ} {s:Nat->PV} {h:Hp}
def leK [NL] (J:Nat->Prop) (s:Nat->PV) (h:Hp) (C:(Nat->PV)->Hp->Prop):Prop:=∃ s' h',Le J s h s' h'/\C s' h'
def qsC [NL] {C:(Nat->PV)->Hp->Prop} {s':Nat->PV} {h':Hp} (hl:Le J s h s' h') (hC:C s' h'):leK J s h C:=⟨_,_,hl,hC⟩
def A_ler [NL] {i:Nat} {l:List Oper} {b:Code} (k:Nat) {l1 l2:List Oper} (hw:∀ K:(Nat->PV)->Hp->Prop,(∀ s h,AW P Tb J n b Q s h->K s h)->AL P Tb l (λs1 h1 acc=>leK J s1 h1 λs' h'=>AL P Tb l (λs h _=>K s h) l2 s' h' acc) l1 s h [])
  (e1:l.take k=l1:=by simp only [List.take_succ_cons,List.take_zero]; rfl) (e2:l.drop k=l2:=by simp only [List.drop_succ_cons,yN]; rfl):AW P Tb J n (.seq (.region i l.toArray false) b) Q s h:=by
 subst e1 e2;refine q4I λK hK=>q9D k λK1 hK1=>?_;refine q5L (λs h acc hq=>?_) (hw K1 λs h hb=>hK1 s h (hK s h hb));obtain ⟨s',h',q1,q2⟩:=hq;exact ⟨s',h',q1,q2⟩
end
end Go.E
namespace Go.Proofs.YtbjoghfmhgadkaaGreatDoor
open Go Go.E Go.Sp
structure LUs (f:LUt):Prop where
 h1:f.rows.length<=1000000
 h2:f.cols.length<=1000000
 h3:f.ls.length<=1000000
 h4:f.li.length<=1000000
 h5:f.lv.length<=1000000
 h6:f.us.length<=1000000
 h7:f.ui.length<=1000000
 h8:f.uv.length<=1000000
def qs5 {F:Nat->Nat->Option Nat} {mi:List Int} {n num den:Nat} {cols:List Int} (hn:n<=100) (hc:cols.length<=1000000):LUs (qmN F mi n cols num den):=by
 have hnn:n*n<=100*100:=z6 hn hn;unfold qmN
 split
 .rename_i h;have hG:=q24 (F:=F) (mi:=mi) (n:=n) (cols:=cols) (num:=num) (den:=den) n h;generalize (q0w F mi n cols num den n).2.2=S at *;have h1:=q0p (f:=fLt S) (R:=n) n;have h2:=q0p (f:=fUt S) (R:=n) n;have h3:=hG.len;unfold q84;refine ⟨?_,?_,?_,?_,?_,?_,?_,?_⟩ <;> simp only [zM] <;> omega
 .exact ⟨zN _,zN _,zN _,zN _,zN _,zN _,zN _,zN _⟩
def q7u:ACt 38 [] (bv true):=by
 obtain ⟨Q,hQ⟩:=qtl;have cF:=q2u (num:=1) (den:=1) (cols:=[0,1]) qtn Oq ⟨rfl,λx hx=>by
  simp at hx
  rcases hx with rfl | rfl <;> exact ⟨ω,ω⟩,σ⟩ ω ω ω
 obtain ⟨f,e1,e2,e3⟩:=qtm hQ (mi:=(tM (awL 4607182418800017408 4616189618054758400 4611686018427387904 4618441417868443648) 2 2).2.1);rw [e1] at cF;have cK:=qgB (l:=[1,0]) σ;obtain ⟨a1,a2,a3,a4,a5,a6,a7,a8⟩:=f;simp only at e2 e3;subst e2 e3;unfold pLU at cF;have D:ACt 36 [.ag [iv 2,iv 2,.sl none [iv 0,iv 2,iv 4],.sl none [iv 0,iv 1,iv 0,iv 1],.sl none [uv 4607182418800017408,uv 4616189618054758400,uv 4611686018427387904,uv 4618441417868443648]],.sl none [iv 0,iv 1],iv 1,iv 1] (.tu [.ag [.sl none [iv 1,iv 0],pI a2,pI a3,pI a4,.sl none [uv 4598175219545276416],pI a6,pI a7,pF a8],iv 2,iv 0]):=cF;have DK:ACt 41 [.sl none [iv 1,iv 0],.sl none [.vl (.int .i64 1),.vl (.int .i64 0)]] (bv true):=cK;clear cF cK;have hI:∀ z:Int,0 < z->z<=9->∀ f:Nat,fR 0 (z*(2:Int) ^ 65536)=f->ACt 68 [iv z,iv 0] (uv (f:Nat)):=λz h1 h2 f h=>by
  rw [<- h];exact q5e (z:=z) (mode:=0) Oq Oq (q6S (by have:=q0M (n:=z.natAbs) (k:=4) ω; omega))
 have r:∀ z f:Nat,0 < z->rF 0 false z 1=f->fR 0 ((z:Int)*(2:Int) ^ 65536)=f:=λz f hz h=>by
  have:=fR_u (z:=z) (K:=65536) (s:=0) rfl Oq hz;rw [Nat.sub_zero] at this;rw [this]; exact h
 have C2:ACt 68 [iv 2,iv 0] (uv 4611686018427387904):=hI 2 Oq Oq _ (r 2 _ Oq κ);have C4:ACt 68 [iv 4,iv 0] (uv 4616189618054758400):=hI 4 Oq Oq _ (r 4 _ Oq κ);have C6:ACt 68 [iv 6,iv 0] (uv 4618441417868443648):=hI 6 Oq Oq _ (r 6 _ Oq κ);clear hI r hQ;have b0:((0:Int) == 0)=true:=rfl;have b2:((2:Int) == 2)=true:=rfl;have bq:((4598175219545276416:Int) == 4598175219545276416)=true:=by decide
 have b1:((1:Int) == 1)=true:=rfl;refine ac0 Tryz.func38 Tryz.ntmps38 [.tmp 0] ?_;refine wk ?_;refine A_ler 8 λK hK=>?_
 try refine Zz ?_
 refine qsC (LeG [] (L:=[]) (B:=Go.E.h0) (xs:=[(17,.ag [iv 2,iv 2,.sl none [iv 0,iv 2,iv 4],.sl none [iv 0,iv 1,iv 0,iv 1],.sl none [uv 4607182418800017408,uv 4616189618054758400,uv 4611686018427387904,uv 4618441417868443648]]),(18,.sl none [iv 0,iv 1])]) (kv:=[]) (bs:=[]) (kb:=[]) rfl (λi hi=>hi.elim) BOk.h0 (λi hi=>(hi rfl).elim) (λi hi hm=>(hi rfl).elim) (λp hp=>by cases hp) (by simp [loN,win]) (by simp [q2i,q04,win,Go.E.h0]) ?_) ?_
 .have hno:∀ c,c < 100->∀ i,q04 [] i=some c->q0x (hpG [] Go.E.h0) (hpM [] []) i=none:=λc hc i hi=>by
   have e:i=c:=yM.inj hi;subst e;rw [q1I λhw=>by have:=hw.1; omega]; rfl
  have hcl:∀ (k:IntKind) (l:List Int),ClL (l.map λz=>PV.vl (.int k z)):=λk l x hx=>by
   obtain ⟨z,_,rfl⟩:=zR.1 hx; trivial
  try refine Zz ?_
  exact ⟨⟨q1i (T:=3) rfl (hcl .i64 [0,2,4]) (hno 11 Oq) rfl,q1i (T:=3) rfl (hcl .i64 [0,1,0,1]) (hno 12 Oq) rfl,q1i (T:=32) rfl (hcl .u64 [4607182418800017408,4616189618054758400,4611686018427387904,4618441417868443648]) (hno 16 Oq) rfl⟩,q1i (T:=3) rfl (hcl .i64 [0,1]) (hno 18 Oq) rfl⟩
 try refine Zz ?_
 refine q0K D ?_
 try refine Zz ?_
 refine hK _ _ ?_; clear hK K;refine qbR λK hK=>?_;simp -implicitDefEqProofs (disch:=omega) only [go_sem,Nat.reduceEqDiff,Nat.reduceAdd,↓reduceIte,i64_in,yQ,yJ,zW,yZ,uZ,u6,zY,yR,yK,yS,yL,q52,q53,q57,q58,q54,q55,q1p,q1q,q1r,q1s,q1n,q1o,b0,b2,bq,b1];refine q34 DK nz_v ?_;have bN:(((1:Nat):Int) == 1)=true:=rfl
 try refine Zz5 b0 b2 bq b1 bN ?_
 refine hK _ _ ?_; clear hK K;exact wk trivial
section
variable {raw:List Nat} {n st:Int} {rg:Bool}
def q8V (raw:List Nat) (n st:Int) (rg:Bool):Nat->Nat->Option Nat:=if rg then rgF (gF raw (q09 n 6) (q09 (q09 st 3:Nat) 4)) (q09 n 6) else gF raw (q09 n 6) (q09 st 4)
def q9X:TOk (q8V raw n st rg) (q09 n 6) (q09 n 6):=by
 have hN:q09 n 6 < 6:=by unfold q09; omega
 have hk:q09 (q09 st 3:Nat) 4 < 3:=by unfold q09; omega
 have hnn:q09 n 6*q09 n 6<=6*6:=z6 Oq Oq;unfold q8V
 split
 .exact qq2 Oq hk
 .exact qlp Oq Oq Oq
def q9Y (hr:raw.length<=9223372036854775807) (h1 : -9223372036854775808<=n) (h2:n<=9223372036854775807) (h3 : -9223372036854775808<=st) (h4:st<=9223372036854775807):ACt 34 [pF raw,iv n,iv st,bv rg] (.tu [pT (q09 n 6) (q09 n 6) (q8V raw n st rg),pI (q2t raw (q09 n 6))]):=by
 have hN:q09 n 6 < 6:=by unfold q09; omega
 have cM:=q4h (a:=n) (n:=6) h1 h2 Oq Oq;have cO:=qff (raw:=raw) (N:=q09 n 6) hr Oq;cases rg
 .have cG:=q4s (raw:=raw) (st:=st) (R:=q09 n 6) (C:=q09 n 6) hr Oq Oq h3 h4;have e:q8V raw n st false=gF raw (q09 n 6) (q09 st 4):=rfl;rw [e];generalize gF raw (q09 n 6) (q09 st 4)=G at *;generalize q09 n 6=N at *;generalize q2t raw N=o at *;unfold pT q5S at *;refine ac0 Tryz.func34 Tryz.ntmps34 [.cell 8 26,.tmp 9] ?_;exact wk trivial
 .have cR:=qa8 (raw:=raw) (st:=st) (n:=q09 n 6) hr Oq h3 h4;have e:q8V raw n st true=rgF (gF raw (q09 n 6) (q09 (q09 st 3:Nat) 4)) (q09 n 6):=rfl;rw [e];generalize rgF (gF raw (q09 n 6) (q09 (q09 st 3:Nat) 4)) (q09 n 6)=G at *;generalize q09 n 6=N at *;generalize q2t raw N=o at *;unfold pT q5S at *;refine ac0 Tryz.func34 Tryz.ntmps34 [.cell 8 26,.tmp 9] ?_;exact wk trivial
def thD (den:Int):Nat:=1+q09 den 1000
def thN (num den:Int):Nat:=q09 num (thD den+1)
def th_ok {num den:Int}:thN num den<=thD den/\1<=thD den/\thD den<=1000:=by
 have h1:q09 den 1000 < 1000:=by unfold q09; omega
 have h2:q09 num (thD den+1) < thD den+1:=q4i Oq;unfold thN;have h3:thD den=1+q09 den 1000:=rfl;omega
def q6y {num den:Int} (h5 : -9223372036854775808<=num) (h6:num<=9223372036854775807) (h7 : -9223372036854775808<=den) (h8:den<=9223372036854775807):ACt 35 [iv num,iv den] (.tu [iv (thN num den),iv (thD den)]):=by
 have h1:q09 den 1000 < 1000:=by unfold q09; omega
 have c1:=q4h (a:=den) (n:=1000) h7 h8 Oq Oq;have c2:=q4h (a:=num) (n:=thD den+1) h5 h6 Oq (by unfold thD; omega);have e1:(1:Int)+(q09 den 1000:Nat)=(thD den:Nat):=by unfold thD; omega
 have e2:((thD den:Nat):Int)+1=((thD den+1:Nat):Int):=rfl;have hb:thD den<=1000:=by unfold thD; omega
 have e3:thN num den=q09 num (thD den+1):=rfl;rw [e3];generalize thD den=d at *;generalize q09 den 1000=m at *;generalize q09 num (d+1)=p at *;refine ac0 Tryz.func35 Tryz.ntmps35 [.tmp 4,.tmp 5] ?_;exact wk1 (x2 e1 e2) trivial
end
section
variable {F:Nat->Nat->Option Nat} {mi:List Int} {n j k num den:Nat} {S q r:LuS} {cols:List Int}
def qit {l l' u u':Nat->Nat->Nat} {i j k:Nat}:∀ m,(∀ p,p < m->l i p=l' i p/\u p k=u' p k)->luL F l u i j k m=luL F l' u' i j k m
 | 0,_=>rfl
 | m+1,h=>by rw [luL,luL,qit m λp hp=>h p ω,(h m ω).1,(h m ω).2]
def qci {l l' u u':Nat->Nat->Nat} {i j k m:Nat} (h:∀ p,p < m->l i p=l' i p/\u p k=u' p k):luZ F l u i j k m=luZ F l' u' i j k m:=by
 unfold luZ;rw [qit m h]
def qoz:∀ (m:Nat) (q:LuS),upS F S j k m=some q->∀ c,c < m->q.u c k=fR 0 (luZ F q.l q.u (S.rows.getD c 0) j k c)/\q.iU c k=decide (luZ F q.l q.u (S.rows.getD c 0) j k c≠0)
 | 0,q,_,c,hc=>by omega
 | m+1,q,h,c,hc=>by
  unfold upS at h;obtain ⟨t,ht,h⟩:=yW.1 h;have ih:=qoz m t ht
  split at h
  .cases h;simp only;have e:∀ v c,c<=m->luZ F t.l (q23 t.u m k v) (S.rows.getD c 0) j k c=luZ F t.l t.u (S.rows.getD c 0) j k c:=λv c hc=>qci λp hp=>⟨rfl,if_neg λq=>by omega⟩;rw [e _ c ω]
   by_cases hcm:c=m
   .subst hcm;exact ⟨if_pos ⟨rfl,rfl⟩,if_pos ⟨rfl,rfl⟩⟩
   .obtain ⟨i1,i2⟩:=ih c Oq;exact ⟨(if_neg λq=>hcm q.1).trans i1,(if_neg λq=>hcm q.1).trans i2⟩
  .cases h
def qil {v:Nat->Nat}:∀ n i,i < n->abZ (v i)<=mxZ v n
 | n+1,i,h=>by
  rw [mxZ]
  by_cases e:i=n
  .subst e; split <;> omega
  .have:=qil (v:=v) n i Oq
   split <;> omega
def q8o {v:Nat->Nat} {w:Int}:∀ i,0<=bsP v S mi num den w i->¬ (den:Int)*abZ (v (bsP v S mi num den w i).toNat) < num*w
 | 0,h=>by simp [bsP] at h
 | i+1,h=>by
  rw [bsP] at h ⊢
  by_cases c:i ∈ S.rows\/(v i=0\/v i=9223372036854775808)\/(den:Int)*abZ (v i) < num*w
  .rw [if_pos c] at h ⊢;exact q8o i h
  .rw [if_neg c] at h ⊢
   by_cases c2:bsP v S mi num den w i < 0\/q3A mi i < q3A mi (bsP v S mi num den w i).toNat
   .rw [if_pos c2,zU];exact λq=>c (.inr (.inr q))
   .rw [if_neg c2] at h ⊢;exact q8o i h
def qqX {i:Nat} (h:i ∉ q.rows):rsV F q j k i=fR 0 (rsZ F q j k i):=if_neg h
def qhS (h:q2R F mi n S j k num den=(0,r)):∃ q p,upS F S j k k=some q/\p < n/\p ∉ q.rows/\ofZ (rsV F q j k p)≠0/\r=loE (pvS q k (rsV F q j k) p) k (rsZ F q j k) (ofZ (rsV F q j k p)) n/\(num=den->0 < den->∀ i,i < n->i ∉ q.rows->(ofZ (fR 0 (rsZ F q j k i))).natAbs<=(ofZ (rsV F q j k p)).natAbs)/\(∀ i,i < n->i ∉ q.rows->q0L (fR 0 (rsZ F q j k i))):=by
 cases hu:upS F S j k k with
 | none=>rw [qhT hu] at h; cases h
 | some q =>
  by_cases h2:∀ i,i < n->i ∉ q.rows->q0L (fR 0 (rsZ F q j k i))
  .by_cases h3:clB F mi q n j k num den < 0
   .rw [qm7 hu h2 h3] at h; cases h
   .have hrg:=qeI (F:=F) (mi:=mi) (q:=q) (n:=n) (j:=j) (k:=k) (num:=num) (den:=den);obtain ⟨p,hp⟩:∃ p,(clL F q n j k)[(clB F mi q n j k num den).toNat]?=some p:=⟨_,zA Oq⟩;obtain ⟨p1,p2,p3,p4,p5,p6⟩:=q7i Oq hp;refine ⟨q,p,rfl,p1,p2,q6P (by rw [p4]; exact h2 p p1 p2) (by rw [p4]; exact q4u) p6,?_,λhnd hd i hi hir=>?_,h2⟩
    .by_cases hb:∀ i ∈ clL F q n j k,i≠p->q0L (q3k 0 (rsZ F q j k i) (ofZ (rsV F q j k p)))
     .rw [qm5 hu h2 ω hp hb] at h;exact (Prod.mk.inj h).2.symm
     .refine absurd (λi hi hip=>Classical.byContradiction λhf=>?_) hb;rw [qm6 hu h2 ω hp hi hip hf] at h;cases h
    .have t:=q8o (v:=rsV F q j k) (S:=q) (mi:=mi) (num:=num) (den:=den) (w:=mxZ (rsV F q j k) n) n (by rw [p5]; omega);rw [p5,zU,hnd] at t;have t2:mxZ (rsV F q j k) n<=abZ (rsV F q j k p):=Int.not_lt.1 λhlt=>t (Int.mul_lt_mul_of_pos_left hlt Oq);have t3:=qil (v:=rsV F q j k) n i hi;rw [qqX hir] at t3;unfold abZ at t2 t3;omega
  .rw [qm8 hu h2] at h; cases h
structure FcI (F:Nat->Nat->Option Nat) (n:Nat) (cols:List Int) (num den k:Nat) (S:LuS):Prop where
 u:∀ c,c < k->∀ m,m < c->S.u m c=fR 0 (luZ F S.l S.u (S.rows.getD m 0) (lfN cols c) c m)/\S.iU m c=decide (luZ F S.l S.u (S.rows.getD m 0) (lfN cols c) c m≠0)
 d:∀ c,c < k->S.u c c=fR 0 (luZ F S.l S.u (S.rows.getD c 0) (lfN cols c) c c)/\ofZ (S.u c c)≠0/\S.iU c c=true
 l:∀ c,c < k->∀ i,i < n->i ∉ S.rows.take (c+1)->S.l i c=q3k 0 (luZ F S.l S.u i (lfN cols c) c c) (ofZ (S.u c c))/\S.iL i c=decide (luZ F S.l S.u i (lfN cols c) c c≠0)/\q0L (fR 0 (luZ F S.l S.u i (lfN cols c) c c))
 b:num=den->0 < den->∀ c,c < k->∀ i,i < n->i ∉ S.rows.take (c+1)->(ofZ (fR 0 (luZ F S.l S.u i (lfN cols c) c c))).natAbs<=(ofZ (S.u c c)).natAbs
def FcI_s (h:FcI F n cols num den k S) (hk:S.rows.length=k) (he:q2R F mi n S (lfN cols k) k num den=(0,r)):FcI F n cols num den (k+1) r:=by
 obtain ⟨q,p,hu,p1,p2,p3,e,hb,hfi⟩:=qhS he;obtain ⟨ql,qiL,qr,qo⟩:=qb4 k q hu;have hv:=qoz k q hu;generalize hV:rsV F q (lfN cols k) k=V at *;generalize hZ:rsZ F q (lfN cols k) k=Z at *;have rr:r.rows=S.rows ++ [p]:=by rw [e,q2K,qr]
 have ro:∀ a b,b≠k->r.l a b=S.l a b/\r.iL a b=S.iL a b/\r.u a b=S.u a b/\r.iU a b=S.iU a b:=λa b hb=>by
  obtain ⟨a1,a2,a3,a4⟩:=q26 (q:=q) (k:=k) (V:=V) (p:=p) (Z:=Z) (d:=ofZ (V p)) (n:=n) (a:=a) hb;obtain ⟨b1,b2⟩:=qo a b hb;rw [e];exact ⟨a1.trans (by rw [ql]),a2.trans (by rw [qiL]),a3.trans b1,a4.trans b2⟩
 have ru:∀ a,a≠k->r.u a k=q.u a k/\r.iU a k=q.iU a k:=λa ha=>by
  rw [e];exact ⟨if_neg λx=>ha x.1,if_neg λx=>ha x.1⟩
 have rk:r.u k k=V p/\r.iU k k=true:=by
  rw [e];exact ⟨if_pos ⟨rfl,rfl⟩,if_pos ⟨rfl,rfl⟩⟩
 have rl:∀ i,i < n->i ∉ S.rows ++ [p]->r.l i k=q3k 0 (Z i) (ofZ (V p))/\r.iL i k=decide (Z i≠0):=λi hi hr=>by
  rw [e];rw [<- qr] at hr;exact ⟨if_pos ⟨rfl,hi,hr⟩,if_pos ⟨rfl,hi,hr⟩⟩
 have gR:∀ c,c < k->r.rows.getD c 0=S.rows.getD c 0:=λc hc=>by rw [rr,zB,zB,yO ω]
 have gK:r.rows.getD k 0=p:=by
  subst hk;rw [rr,zB,tB]; rfl
 have tK:∀ c,c < k->r.rows.take (c+1)=S.rows.take (c+1):=λc hc=>by rw [rr,List.take_append_of_le_length ω]
 have tA:r.rows.take (k+1)=S.rows ++ [p]:=by rw [rr,zV (by simp; omega)]
 have zo:∀ c,c < k->∀ i m,m<=c->luZ F r.l r.u i (lfN cols c) c m=luZ F S.l S.u i (lfN cols c) c m:=λc hc i m hm=>qci λp hp=>⟨(ro i p Oq).1,(ro p c Oq).2.2.1⟩;have zk:∀ i m,m<=k->luZ F r.l r.u i (lfN cols k) k m=luZ F q.l q.u i (lfN cols k) k m:=λi m hm=>qci λp hp=>⟨(ro i p ω).1.trans (by rw [ql]),(ru p ω).1⟩;have zZ:∀ i,luZ F q.l q.u i (lfN cols k) k k=Z i:=λi=>by rw [<- hZ]; rfl
 have hVp:V p=fR 0 (Z p):=by rw [<- hV,<- hZ]; exact qqX p2
 refine ⟨λc hc m hm=>?_,λc hc=>?_,λc hc i hi hir=>?_,λhnd hd c hc i hi hir=>?_⟩
 .by_cases hck:c=k
  .subst hck;rw [gR m hm,zk _ m ω,(ru m ω).1,(ru m ω).2];exact hv m hm
  .rw [gR m ω,zo c ω _ m ω,(ro m c hck).2.2.1,(ro m c hck).2.2.2];exact h.u c Oq m hm
 .by_cases hck:c=k
  .subst hck;rw [gK,zk _ _ (zS _),rk.1,rk.2,zZ];exact ⟨hVp,p3,rfl⟩
  .rw [gR c ω,zo c ω _ c (zS _),(ro c c hck).2.2.1,(ro c c hck).2.2.2];exact h.d c Oq
 .by_cases hck:c=k
  .subst hck;rw [tA] at hir;rw [zk _ _ (zS _),rk.1,zZ,(rl i hi hir).1,(rl i hi hir).2];exact ⟨rfl,rfl,hfi i hi λhq=>hir (xQ _ (qr ▸ hq))⟩
  .rw [tK c ω] at hir;rw [zo c ω _ c (zS _),(ro c c hck).2.2.1,(ro i c hck).1,(ro i c hck).2.1];exact h.l c Oq i hi hir
 .by_cases hck:c=k
  .subst hck;rw [tA] at hir;rw [zk _ _ (zS _),rk.1,zZ];exact hb hnd hd i hi λhq=>hir (xQ _ (qr ▸ hq))
  .rw [tK c ω] at hir;rw [zo c ω _ c (zS _),(ro c c hck).2.2.1];exact h.b hnd hd c Oq i hi hir
def facE:∀ k,(q0w F mi n cols num den k).1=0->FcI F n cols num den k (q0w F mi n cols num den k).2.2
 | 0,_=>⟨λ_ h=>by omega,λ_ h=>by omega,λ_ h=>by omega,λ_ _ _ h=>by omega⟩
 | k+1,h=>by
  have hs:q0w F mi n cols num den (k+1)=if (q0w F mi n cols num den k).1=0 then ((q2R F mi n (q0w F mi n cols num den k).2.2 (lfN cols k) k num den).1,if (q2R F mi n (q0w F mi n cols num den k).2.2 (lfN cols k) k num den).1=9 then k else 0,(q2R F mi n (q0w F mi n cols num den k).2.2 (lfN cols k) k num den).2) else q0w F mi n cols num den k:=rfl
  have hk0:(q0w F mi n cols num den k).1=0:=Classical.byContradiction λhc=>by
   rw [hs,if_neg hc] at h;exact hc h
  have ih:=facE k hk0;have hG:=q24 (F:=F) (mi:=mi) (n:=n) (cols:=cols) (num:=num) (den:=den) k hk0;rw [hs,if_pos hk0] at h ⊢;simp only at h ⊢;generalize (q0w F mi n cols num den k).2.2=S at *;exact FcI_s ih hG.len (Prod.ext h rfl)
end
section
variable {f:Nat->Nat->Option Nat} {R C:Nat}
def qiK {j:Nat} (hj:j < C):(((tM f R C).2.1.take (tO f R (j+1))).drop (tO f R j))=(tZ f j R).map λq=>(q.1:Int):=by
 obtain ⟨b,c,e1,_⟩:=qbj (f:=f) (R:=R) hj;rw [e1,q8N];have ho:tO f R j=(tM f R j).2.1.length:=rfl;rw [ho,xC,List.take_length_add_append,List.drop_append_of_le_length (zS _),List.drop_length,List.nil_append];exact List.take_left' (by rw [zM])
def qn0 {l:List (Nat × Nat)} (h:l.Pairwise λa b=>a.1 < b.1):qep (l.map λq=>(q.1:Int)):=λi x y hx hy=>by
 rw [zC] at hx hy;obtain ⟨a,ha,rfl⟩:=xM.1 hx;obtain ⟨b,hb,rfl⟩:=xM.1 hy;obtain ⟨h1,e1⟩:=zE.1 ha;obtain ⟨h2,e2⟩:=zE.1 hb;have:=zP.1 h i (i+1) h1 h2 Oq;rw [e1,e2] at this;omega
def qiM {G:Nat->List Int->Prop} (hG:∀ j,j < C->G j ((tZ f j R).map λq=>(q.1:Int))):CmpOk C (tM f R C).1 (tM f R C).2.1 G:=by
 refine ⟨by rw [q1H (zN _)]; rfl,by rw [q1H (zS _)]; rfl,λj hj=>⟨tO f R j,tO f R (j+1),q1H ω,q1H ω,by rw [q8N]; omega,?_,?_,?_⟩⟩
 .obtain ⟨b,c,e1,_⟩:=qbj (f:=f) (R:=R) hj;rw [e1,q8N,u9,u9,zM];have ho:tO f R j=(tM f R j).2.1.length:=rfl;omega
 .rw [qiK hj];exact qn0 (q4A R)
 .rw [qiK hj];exact hG j hj
def q3t {k:Nat} (hk:k < C):qay (tM f R C).1 (tM f R C).2.1 (tM f R C).2.2 k=tZ f k R:=by
 rw [q4Y (q1H ω) (q1H ω),show tO f R (k+1)-tO f R k=(tZ f k R).length by rw [q8N]; omega]
 apply zX
 intro t;rw [zC]
 by_cases ht:t < (tZ f k R).length
 .obtain ⟨q,q1,q2,q3⟩:=q6E (f:=f) (R:=R) (C:=C) (j:=k) (k:=tO f R k+t) hk ω (by rw [q8N]; omega);rw [show tO f R k+t-tO f R k=t by omega] at q1;rw [zH ht,tG,q1,getD_some q2,getD_some q3,zU]
 .rw [zK (by simpa using ht),zK ω]; rfl
def qtF {i j:Nat} (hi:i < R):ctV (tZ f j R) i=(f j i).getD 0:=by
 cases h:f j i with
 | none =>
  unfold ctV;have:((tZ f j R).find? λe=>e.1 == i)=none:=List.find?_eq_none.2 λe he hq=>by
   have h1:=(q12.1 (show (e.1,e.2) ∈ tZ f j R from he)).2;rw [beq_iff_eq.1 hq,h] at h1;cases h1
  rw [this]; rfl
 | some x =>
  have hm:(i,x) ∈ tZ f j R:=q12.2 ⟨hi,h⟩;obtain ⟨t,ht⟩:=z9.1 hm;refine qm1 ?_ ht;exact List.Pairwise.map _ (λa b q=>Nat.ne_of_lt q) (q4A R)
end
section
variable {F:Nat->Nat->Option Nat} {mi:List Int} {n k num den:Nat} {S:LuS} {cols:List Int}
def qbf (h:FcI F n cols num den n S) {k:Nat} (hk:k < n):tZ (fUt S) k n=tZ (fUt S) k k ++ [(k,S.u k k)]:=by
 rw [q8M (a:=k+1) (λc hc=>if_neg λh=>by omega) n ω,qoL];have:fUt S k k=some (S.u k k):=if_pos ⟨zS _,(h.d k hk).2.2⟩;rw [this]
def qjQ (h:FcI F n cols num den n S) (hG:LuG n n S) (hR:RwOk n S) (hn:n<=100) (hc:q5J cols n):qmo (q84 S cols n)=0:=by
 have hrl:(q84 S cols n).rows.length=n:=by
  show (S.rows.map λz:Nat=>(z:Int)).length=n
  rw [zM,hG.len]
 have h1:=q0p (f:=fLt S) (R:=n) n;have h2:=q0p (f:=fUt S) (R:=n) n;have hL:∀ {j i x:Nat},fLt S j i=some x->j < i/\x=S.l (S.rows.getD i 0) j:=λ{j i x} h=>by
  unfold fLt at h
  split at h
  .rename_i q; cases h; exact ⟨q.1,rfl⟩
  .cases h
 have hU:∀ {j i x:Nat},fUt S j i=some x->i<=j/\x=S.u i j:=λ{j i x} h=>by
  unfold fUt at h
  split at h
  .rename_i q; cases h; exact ⟨q.1,rfl⟩
  .cases h
 unfold qmo;rw [hrl,if_neg ω,if_neg,if_neg,if_neg,if_pos]
 .refine ⟨λx hx=>?_,λx hx=>?_,λk hk a x ha hx=>?_⟩
  .obtain ⟨j,i,_,_,e⟩:=q2r n hx;rw [(hL e).2]; exact (hG.l _ _).1
  .obtain ⟨j,i,_,_,e⟩:=q2r n hx;rw [(hU e).2]; exact (hG.u _ _).1
  .have e1:(q84 S cols n).us[k+1]?=some (tO (fUt S) n (k+1):Int):=q1H Oq;rw [e1] at ha;have ha:=yM.inj ha;have e2:tO (fUt S) n (k+1)=tO (fUt S) n k+(tZ (fUt S) k k).length+1:=by rw [q8N,qbf h hk,u9]; rfl
   obtain ⟨q,q1,q2,q3⟩:=q6E (f:=fUt S) (R:=n) (C:=n) (j:=k) (k:=a) hk Oq Oq;rw [qbf h hk,show a-tO (fUt S) n k=(tZ (fUt S) k k).length by omega,tB] at q1;cases q1;have:x=S.u k k:=yM.inj (hx.symm.trans q3);rw [this];exact (h.d k hk).2.1
 .refine not_not_intro ⟨?_,?_⟩
  .rw [hrl];refine qiM λj hj=>⟨λz hz=>?_,λz hz=>?_⟩
   .obtain ⟨q,hq,rfl⟩:=zR.1 (zG hz);have:=(hL (q12.1 (show (q.1,q.2) ∈ _ from hq)).2).1;omega
   .obtain ⟨q,hq,rfl⟩:=zR.1 (zG hz);have:=(q12.1 (show (q.1,q.2) ∈ _ from hq)).1;omega
  .rw [hrl];refine qiM λj hj=>⟨λz hz=>?_,?_⟩
   .obtain ⟨q,hq,rfl⟩:=zR.1 (zG hz);omega
   .rw [qbf h hj,zQ,u9,yV,List.length_singleton,Nat.add_sub_cancel,tB]
 .exact not_not_intro ⟨h1.1,h2.1,h1.2.1,h2.2.1⟩
 .refine not_not_intro ⟨⟨by rw [hrl],λx hx=>?_,?_⟩,hc⟩
  .obtain ⟨y,hy,rfl⟩:=zR.1 (show x ∈ S.rows.map λz:Nat=>(z:Int) from hx);have:=hG.r y hy;omega
  .exact List.Pairwise.map _ (λa b q e=>q (by exact Int.ofNat.inj e)) hR.d
def qiq (hG:LuG n n S) (hn:n<=100) (hc:cols.length=n):LUb (q84 S cols n):=by
 have hnn:n*n<=100*100:=z6 hn hn;have h1:=q0p (f:=fLt S) (R:=n) n;have h2:=q0p (f:=fUt S) (R:=n) n;have h3:=hG.len;refine ⟨?_,?_,?_,?_,?_,?_,?_,?_,λx hx=>?_,λx hx=>?_⟩
 rotate_left 8
 .obtain ⟨j,i,_,_,e⟩:=q2r n hx;unfold fLt at e
  split at e
  .cases e; exact (hG.l _ _).2
  .cases e
 .obtain ⟨j,i,_,_,e⟩:=q2r n hx;unfold fUt at e
  split at e
  .cases e; exact (hG.u _ _).2
  .cases e
 all_goals
  unfold q84;simp only [zM];omega
def ldT (S:LuS) (i t:Nat):Nat:=(fLt S t i).getD 0
def udT (S:LuS) (t k:Nat):Nat:=(fUt S k t).getD 0
def ldT_z (hI:LuI n S) {i t:Nat} (h:t < i):ofZ (ldT S i t)=ofZ (S.l (S.rows.getD i 0) t):=by
 unfold ldT fLt
 by_cases hb:S.iL (S.rows.getD i 0) t=true
 .rw [if_pos ⟨h,hb⟩,zL]
 .rw [if_neg λq=>hb q.2,xH,qc2,hI.z _ _ (by simpa using hb)]
def qfH (h:FcI F n cols num den n S) {t k:Nat} (hk:k < n) (ht:t<=k):udT S t k=S.u t k:=by
 unfold udT fUt
 by_cases e:t=k
 .subst e;rw [if_pos ⟨zS _,(h.d t hk).2.2⟩]; rfl
 .obtain ⟨u1,u2⟩:=h.u k hk t Oq
  by_cases hz:luZ F S.l S.u (S.rows.getD t 0) (lfN cols k) k t=0
  .rw [hz] at u1 u2;have:S.iU t k=false:=by rw [u2]; simp
   rw [if_neg (by rw [this]; simp),u1];exact (if_pos rfl).symm
  .have:S.iU t k=true:=by rw [u2]; simpa using hz
   rw [if_pos ⟨ht,this⟩]; rfl
def qcD (hR:RwOk n S) {i c:Nat} (hi:i < n) (hc:c < i):S.rows.getD i 0 ∉ S.rows.take (c+1):=λhm=>by
 obtain ⟨t,ht⟩:=z9.1 hm;have htl:=(zE.1 ht).1;have:t < c+1:=by rw [yG] at htl; omega
 rw [xA,if_pos this] at ht;have e:=hR.idx (t:=t) Oq;rw [zB,ht,zL,hR.idx hi] at e;omega
def qcE (hR:RwOk n S) {i:Nat} (hi:i < n):S.rows.getD i 0 < n:=by
 rw [zB,zA (by rw [hR.l]; exact hi),zL];exact hR.b _ (yF _)
end
def qqZ {neg:Bool} {A B m:Nat} (hB:0 < B) (h1:m*B<=A) (h2:2*A<=(2*m+1)*B) (hm:m % 2=0):rq 0 neg A B=m:=by
 have hd:A / B=m:=by
  refine Nat.div_eq_of_lt_le ?_ ?_
  .exact h1
  .have:(2*m+1)*B=2*(m*B)+B:=by rw [xV,yB,xW]
   have e2:(m+1)*B=m*B+B:=by rw [xV,xW]
   omega
 have hr:A % B+m*B=A:=by have:=Nat.mod_add_div A B; rw [hd,Nat.mul_comm] at this; exact this
 have e:(2*m+1)*B=2*(m*B)+B:=by rw [xV,yB,xW]
 unfold rq;rw [hd,if_neg (by omega:¬ (0:Int)=1),if_neg (by omega:¬ (0:Int)=2),if_neg (by omega:¬ (0:Int)=3)]
 split
 .rfl
 .rw [if_neg];generalize m*B=x at *;omega
def q6h {neg:Bool} {x:Nat} (h:x < 9223372036854775808):q2M (sb neg x)=x:=by
 unfold q2M sb
 split <;> omega
def qmL {neg:Bool}:q2M (fin 0 neg 4503599627370496 (-52))<=4607182418800017408:=by
 unfold fin q5M;rw [if_neg ω,if_neg ω,if_neg ω,q6h ω];omega
def qqh {neg:Bool} {N D:Nat} (hN:0 < N) (hD:0 < D) (h:9007199254740992*N<=9007199254740993*D):q2M (rF 0 neg N D)<=4607182418800017408:=by
 have hk1:2*(N*4503599627370496)<=(2*4503599627370496+1)*D:=ω
 obtain ⟨K,hK⟩:∃ K,K=65536:=⟨_,rfl⟩;obtain ⟨u,r,h1,h2,h3,h4,h5⟩:=q6K (mode:=0) (neg:=neg) (N:=N) (D:=D) (K:=K) hN hD Oq;rw [h2];have big:∀ q:Int,q <= -53->∀ m,m<=9007199254740992->q2M (fin 0 neg m q)<=4607182418800017408:=λq hq m hm=>by
  unfold fin
  split
  .unfold q5M;rw [if_neg ω,if_neg ω,q6h ω];omega
  .unfold q5M
   split
   .rw [q6h ω]; omega
   .rw [if_neg ω,q6h ω]; omega
 rcases h5 with h5 | ⟨h5,h6⟩
 .exact big _ Oq r h4
 .have hu:u+52<=K:=by
   refine Classical.byContradiction λhc=>?_;obtain ⟨d,rfl⟩:∃ d,u=K-51+d:=⟨u-(K-51),ω⟩;have e1:D*2 ^ (K-51+d+52)=D*2*2 ^ d*2 ^ K:=by
    rw [show K-51+d+52=1+d+K by omega,xD,xD,Nat.pow_one,yB,yB,yB]
   rw [e1] at h6;have h7:=xB h6 (q0F K);have h8:D*2*1<=D*2*2 ^ d:=xS _ (q0F d);omega
  by_cases hu2:u+53<=K
  .exact big _ Oq r h4
  .have hr:r=4503599627370496:=by
    rw [h3];have e1:N*2 ^ K=N*4503599627370496*2 ^ u:=by
     rw [show K=52+u by omega,xD,<- yB]
    have hp:=q0F u;rw [show (u+52)=52+u by omega,xD,<- yB,e1] at h6;have h7:=xB h6 hp;rw [show (2:Nat) ^ 52=4503599627370496 by decide] at h7;rw [e1];refine qqZ (Nat.mul_pos hD hp) ?_ ?_ Oq
    .rw [<- yB];exact y7 _ (tF (y8 (Nat.mul_comm _ _)) h7)
    .rw [<- yB 2,<- yB (2*4503599627370496+1)];exact y7 _ hk1
   have hq:(u:Int)-K = -52:=by clear h2 h3 h6; omega
   rw [hr,hq];exact qmL
def qfg {x K:Nat} (hK:K=65536) (hf:q0L x) (hn:0 < q2M x / 4503599627370496):4503599627370496*2 ^ (K-1074)<=(ofZ x).natAbs:=by
 have he:q2M x / 4503599627370496=x / 4503599627370496 % 2048:=by unfold q2M; omega
 rw [he] at hn;unfold q0L at hf;unfold ofZ ofF;rw [if_neg hf,if_neg ω,zL,q0E,q0z];refine z6 Oq (Nat.pow_le_pow_right Oq Oq)
def qeO {Z:Int} {x l:Nat} (hZ:q0L (fR 0 Z)) (hle:(ofZ (fR 0 Z)).natAbs<=(ofZ x).natAbs) (hx:q0L x) (hn:0 < q2M x / 4503599627370496) (hl:l=q3k 0 Z (ofZ x)):q2M l<=4607182418800017408:=by
 obtain ⟨K,hK⟩:∃ K,K=65536:=⟨_,rfl⟩;have hd:=qfg hK hx hn;have hp:=q0F (K-1074);have hd0:ofZ x≠0:=λh=>by
  rw [h,Int.natAbs_zero] at hd;have:4503599627370496*1<=4503599627370496*2 ^ (K-1074):=xS _ hp;omega
 generalize ofZ x=d at *;rw [hl];unfold q3k;rw [if_neg hd0];unfold fQ
 by_cases h0:Z=0
 .rw [if_pos h0]; unfold q2M; omega
 .rw [if_neg h0];obtain ⟨u,r,a1,a2,a3,a4,a5,a6,a7⟩:=qmO hK h0 hZ;have hv:(ofZ (fR 0 Z)).natAbs=r*2 ^ u:=by rw [a4,q0E,q0z]
  have hu:4503599627370496*2 ^ u<=d.natAbs:=by
   rcases a6 with a6 | a6
   .rw [show u=K-1074 by omega]; exact hd
   .have:=y7 (2 ^ u) a6;omega
  refine qqh Oq Oq ?_;generalize 2 ^ u=w at *;generalize ofZ (fR 0 Z)=y at *;omega
section
variable {F:Nat->Nat->Option Nat} {mi:List Int} {n k num den:Nat} {S:LuS} {cols:List Int}
def qnL (h:FcI F n cols num den n S) (hG:LuG n n S) (hR:RwOk n S) (hnd:num=den) (hd:0 < den) {k:Nat} (hk:k < n) {q:Nat × Nat} (hq:q ∈ tZ (fLt S) k n) (hn:0 < q2M (S.u k k) / 4503599627370496):q2M q.2<=4607182418800017408:=by
 obtain ⟨h1,h2⟩:=q12.1 (show (q.1,q.2) ∈ _ from hq);unfold fLt at h2
 split at h2
 .rename_i h3;have ho:=qcD hR h1 h3.1;have hl:=qcE hR h1;obtain ⟨l1,l2,l3⟩:=h.l k hk _ hl ho;have hb:=h.b hnd hd k hk _ hl ho;exact qeO l3 hb (hG.u k k).1 hn (by rw [<- l1]; exact (yM.inj h2).symm)
 .cases h2
end
def q7T {raw:List Nat} {n st:Int} (hr:raw.length<=9223372036854775807) (h1 : -9223372036854775808<=n) (h2:n<=9223372036854775807) (h3 : -9223372036854775808<=st) (h4:st<=9223372036854775807) :
  ACt 9 [pF raw,iv n,iv st] (bv true):=by
 have hN:q09 n 6 < 6:=by unfold q09; omega
 have cP:=q9Y (rg:=false) hr h1 h2 h3 h4;have cA:=q7u;have hF:=q9X (raw:=raw) (n:=n) (st:=st) (rg:=false);generalize q8V raw n st false=F at *;generalize q09 n 6=N at *;have hpm:=q90 raw N;have hll:=q4f raw N;have hP:q5J (q2t raw N) N:=⟨by rw [hll],λx hx=>by have:=hpm.1 x hx; omega,hpm.2⟩;generalize q2t raw N=o at *;have c1:=q2u (num:=7) (den:=7) hF Oq hP Oq Oq Oq;have hs:=qs5 (F:=F) (mi:=(tM F N N).2.1) (n:=N) (cols:=o) (num:=7) (den:=7) Oq Oq;have hE:=facE (F:=F) (mi:=(tM F N N).2.1) (n:=N) (cols:=o) (num:=7) (den:=7) N;have hG:=q24 (F:=F) (mi:=(tM F N N).2.1) (n:=N) (cols:=o) (num:=7) (den:=7) N;have hR:=qdd (F:=F) (mi:=(tM F N N).2.1) (n:=N) (cols:=o) (num:=7) (den:=7);unfold qo5 qmN at c1;generalize hC:q0w F (tM F N N).2.1 N o 7 7 N=C at *;obtain ⟨e,m,S⟩:=C;simp only at *
 by_cases he:e=0
 case neg =>
  rw [if_neg he,if_neg he] at c1;have r1:(e != 0)=true:=by simpa using he
  unfold pLU pT q5S at *;refine ac0 Tryz.func9 Tryz.ntmps9 [.tmp 6] ?_;exact wk1 r1 trivial
 subst he;rw [if_pos rfl,if_pos rfl] at c1;have hE:=hE rfl;have hG:=hG rfl;have hR:=hR rfl;have cC:=qcz (qiq (cols:=o) hG Oq Oq);rw [qjQ hE hG hR ω hP] at cC;have hbd:=λ{k:Nat} (hk:k < N) {q:Nat × Nat} (hq:q ∈ tZ (fLt S) k N)=>qnL hE hG hR rfl Oq hk hq;have hUs:=λk (hk:k<=N)=>q1H (f:=fUt S) (R:=N) (C:=N) (j:=k) hk;have hLs:=λk (hk:k<=N)=>q1H (f:=fLt S) (R:=N) (C:=N) (j:=k) hk;have hLx:=λk t (hk:k < N)=>q6E (f:=fLt S) (R:=N) (C:=N) (j:=k) (k:=t) hk;have hUx:∀ k,k < N->∃ t:Nat,tO (fUt S) N (k+1)=t+1/\(tM (fUt S) N N).2.2[t]?=some (S.u k k):=λk hk=>by
  have e2:tO (fUt S) N (k+1)=tO (fUt S) N k+(tZ (fUt S) k k).length+1:=by rw [q8N,qbf hE hk,u9]; rfl
  obtain ⟨q,q1,q2,q3⟩:=q6E (f:=fUt S) (R:=N) (C:=N) (j:=k) (k:=tO (fUt S) N k+(tZ (fUt S) k k).length) hk Oq Oq;rw [qbf hE hk,show tO (fUt S) N k+(tZ (fUt S) k k).length-tO (fUt S) N k=(tZ (fUt S) k k).length by omega,tB] at q1;cases q1;exact ⟨_,e2,q3⟩
 have hFl:∀ k q,k < N->q ∈ tZ (fLt S) k N->q0L q.2/\q.2 < 18446744073709551616:=λk q hk hq=>by
  have h:=(q12.1 (show (q.1,q.2) ∈ _ from hq)).2;unfold fLt at h
  split at h
  .rw [<- yM.inj h]; exact hG.l _ _
  .cases h
 have hUu:=λk=>hG.u k k;have hOl:=λk=>q8N (f:=fLt S) (R:=N) (j:=k);have hMl:=q0p (f:=fLt S) (R:=N) N;have hMu:=q0p (f:=fUt S) (R:=N) N;have hNN:N*N<=5*5:=z6 Oq Oq;have hRl:(S.rows.map λz:Nat=>(z:Int)).length=N:=by rw [zM,hG.len]
 unfold q84 pLU pT q5S at *;dsimp only at *;generalize (S.rows.map λz:Nat=>(z:Int))=rws at *;generalize (tM (fUt S) N N).1=us at *;generalize (tM (fUt S) N N).2.1=ui at *;generalize (tM (fUt S) N N).2.2=uw at *;generalize (tM (fLt S) N N).1=ls at *;generalize (tM (fLt S) N N).2.1=li at *;generalize (tM (fLt S) N N).2.2=lv at *;have r1:((0:Int) != 0)=false:=rfl;have r2:((N:Int) != N)=false:=σ
 refine ac0 Tryz.func9 Tryz.ntmps9 [.tmp 6] ?_;refine wk1 (x3 r1 r2 hRl) ?_;refine q0C (λk=>k<=N) [7,9] [7,9] Lk Lk (λk:Nat=>[(12,iv k)]) (λ_=>[]) (λk=>N-k) 0 (zN _) ?_ ?_
 .refine LeM [] rfl rfl ?_;refine Zz ?_
  rfl
 .intro k hk
  by_cases hkn:k < N
  .have hkn':(k:Int) < N:=ω
   have g1:=hUs (k+1) Oq;obtain ⟨t,t1,t2⟩:=hUx k hkn;have g2:=hLs k Oq;have g3:=hLs (k+1) Oq;rw [t1] at g1;have hxk:=λt=>hLx k t hkn;have hol:=hOl k;obtain ⟨u1,u2⟩:=hUu k;have cA1:=qcO u2 u1;have hb:=λq hq=>hbd hkn (q:=q) hq;have hfl:=hFl k;have w1:IntKind.i64.wrap ((k:Int)+1)=((k+1:Nat):Int):=by rw [i64_in ω ω]; omega
   have htl:=(zE.1 t2).1;have w2:IntKind.i64.wrap (((t+1:Nat):Int)-1)=(t:Int):=by rw [i64_in ω ω]; omega
   generalize S.u k k=uk at *;generalize hZ:tZ (fLt S) k N=Z at *;generalize tO (fLt S) N k=a at *;generalize tO (fLt S) N (k+1)=b at *;refine wk1 (x6 hkn' w1 g1 w2 t2 g2) ?_;refine q0C (λc=>a<=c/\c<=b) [7,9,12,13] [7,9] Lk Lk (λc:Nat=>[(14,iv c)]) (λ_=>[]) (λc=>b-c) a ⟨zS _,ω⟩ ?_ ?_
   .refine LeM [] rfl rfl ?_;exact Zy
   .rintro c ⟨hc1,hc2⟩
    by_cases hcb:c < b
    .have hcb':(c:Int) < b:=ω
     obtain ⟨q,y1,y2,y3⟩:=hxk c hc1 hcb;have hqm:=zG y1;obtain ⟨f1,f2⟩:=hfl q hkn hqm;have cA2:=qcO f2 f1;have hbq:=hb q hqm;have hcl:=(zE.1 y3).1;have hm1:=hMl.2.1;have hm2:=hMl.2.2;have w3:IntKind.i64.wrap ((c:Int)+1)=((c+1:Nat):Int):=by rw [i64_in ω ω]; omega
     by_cases hu:0 < q2M uk / 4503599627370496
     .have hu':(0:Int) < ((q2M uk / 4503599627370496:Nat):Int):=ω
      have hq:=hbq hu;have hq':¬ (4607182418800017408:Int) < ((q2M q.2:Nat):Int):=ω
      refine wk1 (x6 hcb' w1 g3 y3 hu' (x2 hq' w3)) ?_;refine ⟨c+1,⟨ω,ω⟩,ω,?_⟩;refine LeM [] rfl rfl ?_;exact Zy
     .have hu':¬ (0:Int) < ((q2M uk / 4503599627370496:Nat):Int):=ω
      refine wk1 (x6 hcb' w1 g3 y3 hu' w3) ?_;refine ⟨c+1,⟨ω,ω⟩,ω,?_⟩;refine LeM [] rfl rfl ?_;exact Zy
    .have hcb':¬ (c:Int) < b:=ω
     refine wk1 (x3 hcb' w1 g3) ?_;refine ⟨k+1,ω,ω,?_⟩;refine LeM [] rfl rfl ?_;exact Zy
  .have hkn':¬ (k:Int) < N:=ω
   exact wk1 hkn' trivial
end Go.Proofs.YtbjoghfmhgadkaaGreatDoor
