/- CondSound. 5/7. -/
import Derived.Test.YtbjoghfmhgadkaaGreatDoorPs4
open Bool renaming bne_false->xT
open Int renaming natAbs_natCast->zF,natAbs_mul->zH,natAbs_neg->zS,natCast_mul->zW,sign_eq_neg_one_of_neg->zY,mul_assoc->zZ,sign_eq_one_of_pos->uP,toNat_natCast->uQ,pow_add->uR,sign_eq_zero_iff_zero->yL,mul_ne_zero->yN,lt_or_gt_of_ne->yP,zero_mul->yQ,mul_left_comm->yR,gcd->uS,lt_or_eq_of_le->xA,neg_mul->xS,gcd_eq_zero_iff->xV,natAbs->xZ,mul_comm->x9,ne_of_gt->uT,one_mul->wC
open List renaming getElem?_eq_getElem->zA,getElem?_range->zB,map_append->zC,mem_of_getElem?->zE,mem_map->zG,take_of_length_le->zK,getElem?_map->zL,length_map->zN,getElem?_eq_some_iff->zR,getD_eq_getElem?_getD->uU,length_take->zU,mem_range->zV,take_length->zX,range_succ->z7,map_singleton->z8,length_range->z9,getElem?_set->yA,mem_append->yB,map_congr_left->yC,length_append->yG,mem_replicate->yH,getElem?_eq_none->yJ,length_drop->yK,mem_or_eq_of_mem_set->yM,getElem?_take->yO,drop_zero->yS,mem_iff_getElem?->yU,length_set->yW,append_nil->yX,getElem?_drop->y9,mem_of_find?_eq_some->xC,ext_getElem?->xE,length_filterMap_le->xF,getElem?_replicate->xJ,getElem?_set_self->xN,find?_cons->xO,length_replicate->xP,mem_cons_of_mem->xQ,mem_of_mem_take->xR,mem_map_of_mem->xU,map_cons->xW,mem_cons_self->xY,map_map->x7,map_nil->x8
open Nat renaming zero_le->zD,mul_le_mul->zI,pow_le_pow_right->zJ,mul_le_mul_right->zM,le_refl->zO,le_trans->zP,pow_add->zQ,mul_assoc->yE,mul_le_mul_left->yF,le_mul_of_pos_left->yI,pow_pos->yV,lt_or_ge->y6,succ_mul->y7,pow_succ->y8,le_of_mul_le_mul_right->xB,add_sub_cancel_left->xG,mul_div_cancel_left->xK,le_of_lt->xL,mul_comm->xM,zero_mul->uV,gcd->wD
open Option renaming map_some->z6,map_none->yY,some_ne_none->yZ,some->xD,bind_some->xH,bind_eq_some_iff->xI,toList_some->xX
set_option linter.unusedSimpArgs false
set_option linter.unusedVariables false
set_option maxRecDepth 20000
set_option maxHeartbeats 2000000
set_option linter.defProp false
namespace Go.Proofs.YtbjoghfmhgadkaaGreatDoor
open Go Go.E Go.Sp
def dnH (n a c:Nat) (gl gu:Nat->Nat->Nat):Hp:=q1X 24 32 none 6000 10000 a (rU n gl) (q1X 24 32 none 6002 30000 c (rU n gu) h0)
def dnD (t:Nat):Nat->Nat->Nat:=λi j=>if i=j/\i < t then 4607182418800017408 else 0
def enS (g:Nat->Nat->Nat) (k:Nat):List (Nat × Nat)->Nat->Nat->Nat
 | []=>g
 | e :: l=>enS (q2N g e.1 k e.2) k l
def dnT (g:Nat->Nat->Nat) (E:Nat->List (Nat × Nat)):Nat->Nat->Nat->Nat
 | 0=>g
 | k+1=>enS (dnT g E k) k (E k)
def q9o {k:Nat} {e:Nat × Nat}:∀ (l:List (Nat × Nat)) (g:Nat->Nat->Nat),enS g k (l ++ [e])=q2N (enS g k l) e.1 k e.2
 | [],_=>rfl
 | _ :: l,_=>q9o l _
def dnD_0 {n:Nat} {t:Nat}:rU n (dnD t) t=rU n (λ_ _=>0) t:=by
 unfold rU dnD;refine yC λc _=>?_;rw [if_neg ω]
def dnD_s {t:Nat}:q2N (dnD t) t t 4607182418800017408=dnD (t+1):=by
 funext i j
 unfold q2N dnD
 by_cases h:i=t/\j=t
 .rw [if_pos h,if_pos ω]
 .rw [if_neg h]
  by_cases h2:i=j/\i < t
  .rw [if_pos h2,if_pos ω]
  .rw [if_neg h2,if_neg ω]
section
variable {n a c:Nat} {gl gu:Nat->Nat->Nat}
def q3F (ha:a<=100) (hc:c<=100):BOk (dnH n a c gl gu) win:=by
 unfold dnH;have w:∀ R j m:Nat,5000<=R->R<=40000->m<=100->j < m->win (j+R):=λR j m h1 h2 h3 h4=>⟨ω,ω⟩;exact q1Z (q1Z BOk.h0 (λ_ _=>q6Z) Oq ⟨⟨ω,ω⟩,λj hj=>w _ j _ Oq Oq hc hj⟩) (λ_ _=>q6Z) Oq ⟨⟨ω,ω⟩,λj hj=>w _ j _ Oq Oq ha hj⟩
def qlh {q:Nat->Prop} (hq:∀ i,10000<=i->q i):HId q (dnH n a c gl gu):=by
 unfold dnH;exact q7e (q7e qgj (λ_ _=>q6Z) λj _=>hq _ Oq) (λ_ _=>q6Z) λj _=>hq _ Oq
def qvR {i:Nat} (hi:i < 6000):dnH n a c gl gu i=none:=by
 unfold dnH;rw [q0L ω ω,q0L ω ω]
 rfl
def qlg:dnH n a c gl gu 6000=some ⟨24,none,(List.range a).map λj=>.ow (j+10000) none 0 n,false⟩:=by
 unfold dnH; rw [q1Q]; simp
def q1q (ha:a<=100):dnH n a c gl gu 6002=some ⟨24,none,(List.range c).map λj=>.ow (j+30000) none 0 n,false⟩:=by
 unfold dnH; rw [q0L ω ω,q1Q]; simp
def qfl {j:Nat} (hj:j < a):dnH n a c gl gu (j+10000)=some ⟨32,none,rU n gl j,false⟩:=by
 unfold dnH; rw [q1I ω hj]
def qbU {j:Nat} (ha:a<=100) (hj:j < c):dnH n a c gl gu (j+30000)=some ⟨32,none,rU n gu j,false⟩:=by
 unfold dnH; rw [q0L ω ω,q1I ω hj]
def qvS {r m v:Nat} (hr:r < a):q0Q (dnH n a c gl gu) (r+10000) ⟨32,none,(rU n gl r).set m (.vl (.int .u64 (v:Nat))),false⟩=dnH n a c (q2N gl r m v) gu:=by
 unfold dnH;rw [q2u ω hr σ,qai]
def dnH_u {r m v:Nat} (ha:a<=100) (hr:r < c):q0Q (dnH n a c gl gu) (r+30000) ⟨32,none,(rU n gu r).set m (.vl (.int .u64 (v:Nat))),false⟩=dnH n a c gl (q2N gu r m v):=by
 unfold dnH;rw [q2V ω ω,q2u ω hr σ,qai]
def qvQ {i:Nat} {x:Bk} (hb:dnH n 0 0 gl gu i=some x):x.xs=[]:=by
 unfold dnH at hb
 rcases q0i hb with ⟨rfl,rfl⟩ | ⟨_,h1,h2,_⟩ | ⟨_,_,hb⟩
 .rfl
 .omega
 rcases q0i hb with ⟨rfl,rfl⟩ | ⟨_,h1,h2,_⟩ | ⟨_,_,hb⟩
 .rfl
 .omega
 .cases hb
def qvU:q5v (dnH n n n gl gu) n 10000 none (λ_=>n)=some ((List.range n).map λj=>.sl none (rU n gl j),(List.range n).map (·+10000)):=by
 unfold dnH;rw [q5g ω,cO,if_pos λj _=>q6Z]
 congr 2
 refine yC λj _=>?_
 congr 1
 exact q9M
def qvT (hn:n<=100):q5v (dnH n n n gl gu) n 30000 none (λ_=>n)=some ((List.range n).map λj=>.sl none (rU n gu j),(List.range n).map (·+30000)):=by
 unfold dnH;rw [q43 ω ω,q5g ω,cO,if_pos λj _=>q6Z]
 congr 2
 refine yC λj _=>?_
 congr 1
 exact q9M
attribute [go_sem ↓] qvR qlg qfl qbU
def qj2 {f:LUt} {EL EU:Nat->List (Nat × Nat)} (hr:f.rows.length=n) (hn:n<=100) (hL:ColS n f.ls f.li f.lv EL) (hU:ColS n f.us f.ui f.uv EU):ACt 43 [pLU f] (.tu [tU n (dnT (dnD n) EL n),tU n (dnT (λ_ _=>0) EU n)]):=by
 obtain ⟨ro,co,ls,li,lv,us,ui,vu⟩:=f;unfold pLU;dsimp only at *;refine ac0 Tryz.func43 Tryz.ntmps43 [.tmp 2,.tmp 3] ?_;refine wk1 hr ?_;refine q0z (LeT (hw:=dnH n 0 0 (dnD 0) λ_ _=>0) tnW (λ_ h=>h.elim) (λi hi hw=>?_) (λi b hw hb=>?_) (λi j x hi hj ti tj=>?_) (xs:=[(1,.pt 1 0 0),(4,iv n),(5,.ow 6000 none 0 0),(6,.ow 6002 none 0 0),(7,iv 0)]) (kv:=[]) (bs:=[(1,⟨63,some 8,[.ag [pI ro,pI co,pI ls,pI li,pF lv,pI us,pI ui,pF vu]],false⟩)]) (kb:=[]) ?_) ?_
 .simp at hi;unfold win at hw;omega
 .unfold LeB;rw [q5z hw.1 hw.2];exact qvQ hb
 .unfold tnW at ti tj
  split at ti <;> split at tj <;> cases ti <;> cases tj <;> rfl
 .try refine Zz ?_
  exact ⟨_,q1q Oq,rfl⟩
 refine q0P (λt=>t<=n) [1,4] [1] Lk Lk (λt:Nat=>[(5,.ow 6000 none 0 t),(6,.ow 6002 none 0 t),(7,iv t)]) (λ_=>[]) (λt=>dnH n t t (dnD t) λ_ _=>0) (λt=>n-t) 0 (zD _) ?_ ?_
 .refine LeW [] rfl rfl ?_ ?_ (by simp [q0f,q0b,win]) ?_
  .exact Ow
  .exact q1K (q3F Oq Oq)
  .try refine Zz ?_
   exact ⟨⟨_,q1q Oq⟩,rfl⟩
 .intro t ht
  by_cases hlt:t < n
  .have hlt':(t:Int) < n:=ω
   have rt:(List.range t ++ [t])[t]?=some t:=σ
   have hset:((rU n (dnD t) t).set t (uv (4607182418800017408:Nat)))=(rU n (dnD t) t).set t (PV.vl (.int .u64 (4607182418800017408:Nat))):=rfl;refine wk1 hlt' ?_;refine q0z (q2Q (T1:=24) (T2:=32) (K:=none) (N:=6000) (R:=10000) (n:=t) (o:=23) (r:=21) (l:=(rU n (dnD t)) t) (hw:=dnH n t t (dnD t) λ_ _=>0) (hw':=dnH n (t+1) t (dnD t) λ_ _=>0) (λ_ h=>h) q6Z (λ_=>n) ?_ ?_ (λi h1 h2=>?_) qlg (qfl Oq) (λi h1 h2=>q1P h1 h2) (λj hj=>by
    rw [qfl ω];exact yZ _) (q3F ω ω) (qlh λi hi=>by omega) ?_ ω ω ω ω ω ω (xs:=[(1,.pt 1 0 0),(4,iv n),(5,.ow 6000 none 0 (t+1)),(6,.ow 6002 none 0 t),(7,iv t)]) (kv:=[]) (bs:=[(1,⟨63,some 8,[.ag [pI ro,pI co,pI ls,pI li,pF lv,pI us,pI ui,pF vu]],false⟩)]) (kb:=[]) (by simp [nmW]) ?_) ?_
   .try simp -implicitDefEqProofs (disch:=omega) only [go_sem,Nat.reduceEqDiff,Nat.reduceAdd,↓reduceIte]
   .try refine Zz ?_
    rw [dnD_0,qhi (j:=t)]
   .obtain ⟨w1,w2⟩:=h1
    repeat rw [q0A ω]
    rw [q0U ⟨w1,w2⟩]
   .unfold dnH;rw [q0L ω ω,q0L ω ω]
    rfl
   .try refine Zz ?_
    exact ⟨_,q1q Oq⟩
   have h2o:dnH n (t+1) t (dnD t) (λ_ _=>0) 6002=some ⟨24,none,(List.range t).map λj=>.ow (j+30000) none 0 n,false⟩:=q1q Oq;refine wk1 h2o ?_;clear h2o;refine q0z (q2Q (T1:=24) (T2:=32) (K:=none) (N:=6002) (R:=30000) (n:=t) (o:=28) (r:=26) (l:=(rU n λ_ _=>0) t) (hw:=dnH n (t+1) t (dnD t) λ_ _=>0) (hw':=dnH n (t+1) (t+1) (dnD t) λ_ _=>0) (λ_ h=>h) q6Z (λ_=>n) ?_ ?_ (λi h1 h2=>?_) (q1q Oq) (qbU Oq Oq) (λi h1 h2=>q1h (q1P h1 h2)) (λj hj=>by
    rw [qbU ω ω];exact yZ _) (q3F ω ω) (qlh λi hi=>by omega) ?_ ω ω ω ω ω ω (xs:=[(1,.pt 1 0 0),(4,iv n),(5,.ow 6000 none 0 (t+1)),(6,.ow 6002 none 0 (t+1)),(7,iv t)]) (kv:=[]) (bs:=[(1,⟨63,some 8,[.ag [pI ro,pI co,pI ls,pI li,pF lv,pI us,pI ui,pF vu]],false⟩)]) (kb:=[]) (by simp [nmW]) ?_) ?_
   .try simp -implicitDefEqProofs (disch:=omega) only [go_sem,Nat.reduceEqDiff,Nat.reduceAdd,↓reduceIte]
   .try refine Zz ?_
    rw [qhi (j:=t)]
   .obtain ⟨w1,w2⟩:=h1
    repeat rw [q0A ω]
    rw [q0U ⟨w1,w2⟩]
   .unfold dnH;rw [q0L ω ω,q0L ω ω]
    rfl
   .try refine Zz ?_
    exact ⟨_,q1q Oq⟩
   refine wk1 rt ?_;refine ⟨t+1,ω,ω,?_⟩;refine LeW [] rfl rfl ?_ ?_ (by simp [q0f,q0b,win]) ?_
   .exact q7a (q4A q3C) ((qvS ω).trans (by rw [dnD_s]))
   .exact q1K (q3F Oq Oq)
   .try refine Zz ?_
    exact ⟨⟨_,q1q Oq⟩,rfl⟩
  .obtain rfl:n=t:=ω
   have hlt':¬ (n:Int) < n:=ω
   refine wk1 hlt' ?_;obtain ⟨g0,hg0⟩:∃ g,g=dnD n:=⟨_,rfl⟩;rw [<- hg0];clear hg0 ht;refine q0P (λk=>k<=n) [1,4,5,6] [1] Lk Lk (λk:Nat=>[(8,iv k)]) (λ_=>[]) (λk=>dnH n n n (dnT g0 EL k) (dnT (λ_ _=>0) EU k)) (λk=>n-k) 0 (zD _) ?_ ?_
   .refine LeW [] rfl rfl ?_ ?_ (by simp [q0f,q0b,win]) ?_
    .exact Ow
    .exact q1K (q3F Oq Oq)
    .try refine Zz ?_
     exact ⟨rfl,_,q1q Oq⟩
   .intro k hk
    by_cases hkn:k < n
    .have hkn':(k:Int) < n:=ω
     have rk:(List.range n)[k]?=some k:=zB hkn;have wj:(k:Int)+1=((k+1:Nat):Int):=rfl;obtain ⟨a,l1,l2,l3,l4⟩:=hL.col k hkn;obtain ⟨c,u1,u2,u3,u4⟩:=hU.col k hkn;have hlb:=hL.len;have hub:=hU.len;have dL:dnT g0 EL (k+1)=enS (dnT g0 EL k) k (EL k):=rfl;have dU:dnT (λ_ _=>0) EU (k+1)=enS (dnT (λ_ _=>0) EU k) k (EU k):=rfl;generalize dnT g0 EL k=gl at *;generalize dnT (λ_ _=>0) EU k=gu at *;generalize EL k=el at *;generalize EU k=eu at *;refine wk1 (x2 hkn' l1) ?_;refine q0P (λt=>t<=el.length) [1,4,5,6,8] [1] Lk Lk (λt:Nat=>[(9,iv (a+t:Nat))]) (λ_=>[]) (λt=>dnH n n n (enS gl k (el.take t)) gu) (λt=>el.length-t) 0 (zD _) ?_ ?_
     .refine LeW [] rfl rfl ?_ ?_ (by simp [q0f,q0b,win]) ?_
      .exact Ow
      .exact q1K (q3F Oq Oq)
      .try refine Zz ?_
       exact ⟨_,q1q Oq⟩
     .intro t ht
      by_cases hlt:t < el.length
      .obtain ⟨e,he⟩:∃ e,el[t]?=some e:=⟨_,zA hlt⟩;obtain ⟨y1,y2,y3,y4,y5⟩:=l4 t e he;have hlt':((a+t:Nat):Int) < ((a+el.length:Nat):Int):=ω
       have re:(List.range n)[e.1]?=some e.1:=zB y3;obtain ⟨p,hp⟩:∃ p,p=a+t:=⟨_,rfl⟩;rw [<- hp] at y1 y2 hlt' ⊢;refine wk1 (x6 wj l2 hlt' y1 y2 re) ?_;refine ⟨t+1,ω,ω,?_⟩;rw [List.take_add_one,he,xX,q9o];refine LeW [] rfl rfl ?_ ?_ (by simp [q0f,q0b,win]) ?_
       .exact q7a (q4A q3C) (qvS y3)
       .exact q1K (q3F Oq Oq)
       .try refine Zz ?_
        exact ⟨ω,_,q1q Oq⟩
      .obtain rfl:t=el.length:=ω
       obtain ⟨b,hb⟩:∃ b,b=a+el.length:=⟨_,rfl⟩;have hlt':¬ (b:Int) < b:=ω
       rw [zX];rw [<- hb] at l2 ⊢;refine wk1 (x4 wj l2 hlt' u1) ?_;refine q0P (λt=>t<=eu.length) [1,4,5,6,8] [1] Lk Lk (λt:Nat=>[(10,iv (c+t:Nat))]) (λ_=>[]) (λt=>dnH n n n (enS gl k el) (enS gu k (eu.take t))) (λt=>eu.length-t) 0 (zD _) ?_ ?_
       .refine LeW [] rfl rfl ?_ ?_ (by simp [q0f,q0b,win]) ?_
        .exact Ow
        .exact q1K (q3F Oq Oq)
        .try refine Zz ?_
         exact ⟨_,q1q Oq⟩
       .intro t ht;have ho2:=q1q (n:=n) (a:=n) (c:=n) (gl:=enS gl k el) (gu:=enS gu k (eu.take t)) Oq
        by_cases hlt:t < eu.length
        .obtain ⟨e,he⟩:∃ e,eu[t]?=some e:=⟨_,zA hlt⟩;obtain ⟨y1,y2,y3,y4,y5⟩:=u4 t e he;have hlt':((c+t:Nat):Int) < ((c+eu.length:Nat):Int):=ω
         have re:(List.range n)[e.1]?=some e.1:=zB y3;have hr2:=qbU (n:=n) (a:=n) (c:=n) (gl:=enS gl k el) (gu:=enS gu k (eu.take t)) (j:=e.1) Oq y3;obtain ⟨p,hp⟩:∃ p,p=c+t:=⟨_,rfl⟩;rw [<- hp] at y1 y2 hlt' ⊢;refine wk1 (x6 wj u2 hlt' y1 y2 (x3 re ho2 hr2)) ?_;refine ⟨t+1,ω,ω,?_⟩;rw [List.take_add_one,he,xX,q9o];refine LeW [] rfl rfl ?_ ?_ (by simp [q0f,q0b,win]) ?_
         .exact q7a (q4A q3C) (dnH_u Oq y3)
         .exact q1K (q3F Oq Oq)
         .try refine Zz ?_
          exact ⟨ω,_,q1q Oq⟩
        .obtain rfl:t=eu.length:=ω
         obtain ⟨d,hd⟩:∃ d,d=c+eu.length:=⟨_,rfl⟩;have hlt':¬ (d:Int) < d:=ω
         rw [zX] at ho2 ⊢;rw [<- hd] at u2 ⊢;refine wk1 (x3 wj u2 hlt') ?_;refine ⟨k+1,ω,ω,?_⟩;rw [dL,dU];refine LeW [] rfl rfl ?_ ?_ (by simp [q0f,q0b,win]) ?_
         .exact Ow
         .exact q1K (q3F Oq Oq)
         .try refine Zz ?_
          exact ⟨_,q1q Oq⟩
    .obtain rfl:n=k:=ω
     have hlt':¬ (n:Int) < n:=ω
     generalize dnT g0 EL n=gl at *;generalize dnT (λ_ _=>0) EU n=gu at *;have ho2:=q1q (n:=n) (a:=n) (c:=n) (gl:=gl) (gu:=gu) Oq;have hc2:=qvT (gl:=gl) (gu:=gu) hn;have hc0:=qvU (n:=n) (gl:=gl) (gu:=gu);exact wk1 (x4 hlt' hc0 ho2 hc2) trivial
end
def q5p (st ix:List Int) (vs:List Nat) (k:Nat):List (Nat × Nat):=(List.range ((st.getD (k+1) 0).toNat-(st.getD k 0).toNat)).map λt=>((ix.getD ((st.getD k 0).toNat+t) 0).toNat,vs.getD ((st.getD k 0).toNat+t) 0)
def q7g {l:List Int} (h:qbu l):∀ (d i:Nat) (x y:Int),l[i]?=some x->l[i+d+1]?=some y->x < y
 | 0,i,x,y,hx,hy=>h i x y hx hy
 | d+1,i,x,y,hx,hy=>by
  obtain ⟨z,hz⟩:∃ z,l[i+d+1]?=some z:=⟨_,zA (by have:=(zR.1 hy).1; omega)⟩;have h1:=q7g h d i x z hx hz;have h2:=h (i+d+1) z y hz hy;omega
def q7h {l:List Int} (h:qbu l) {lo:Int} (h0:∀ z,l[0]?=some z->lo<=z):∀ (t:Nat) (z:Int),l[t]?=some z->lo+t<=z
 | 0,z,hz=>by have:=h0 z hz; omega
 | t+1,z,hz=>by
  obtain ⟨y,hy⟩:∃ y,l[t]?=some y:=⟨_,zA (by have:=(zR.1 hz).1; omega)⟩;have h1:=q7h h h0 t y hy;have h2:=h t y z hy hz;omega
def qqq {l:List Int} (h:qbu l) {t:Nat} {z y:Int} (hz:l[t]?=some z) (hy:l[l.length-1]?=some y):z<=y:=by
 have ht:=(zR.1 hz).1
 by_cases e:t=l.length-1
 .rw [e,hy] at hz; cases hz; exact Int.le_refl _
 .exact Int.le_of_lt (q7g h (l.length-1-t-1) t z y hz (by rw [<- hy]; congr 1; omega))
section
variable {n:Nat} {st ix:List Int} {vs:List Nat} {G:Nat->List Int->Prop}
def q3R {ix:List Int} {a b t:Nat} (ht:a+t < b):((ix.take b).drop a)[t]?=ix[a+t]?:=by
 rw [y9,yO,if_pos ht]
def q4u {a b k:Nat} (h1:st[k]?=some (a:Int)) (h2:st[k+1]?=some (b:Int)):q5p st ix vs k=(List.range (b-a)).map λt=>((ix.getD (a+t) 0).toNat,vs.getD (a+t) 0):=by
 unfold q5p;rw [getD_some h1,getD_some h2,uQ,uQ]
def qgB (h:CmpOk n st ix G) (hl:ix.length=vs.length) (hf:∀ x ∈ vs,q0M x) (hu:∀ x ∈ vs,x < 18446744073709551616) (hix:ix.length<=1000000) (hG:∀ k l,k < n->qbu l->G k l->(∀ z,l[0]?=some z->0<=z)/\∀ z,l[l.length-1]?=some z->z < n):ColS n st ix vs (q5p st ix vs):=by
 refine ⟨hix,λk hk=>?_,λk hk=>?_,λk hk=>?_⟩
 all_goals
  obtain ⟨a,b,h1,h2,h3,h4,h5,h6⟩:=h.col k hk;obtain ⟨g1,g2⟩:=hG k _ hk h5 h6;rw [q4u h1 h2];have hll:((ix.take b).drop a).length=b-a:=by rw [yK,zU]; omega
  have hb:∀ t,t < b-a->∃ z:Nat,ix[a+t]?=some (z:Int)/\t<=z/\z < n:=λt ht=>by
   obtain ⟨z,hz⟩:∃ z,ix[a+t]?=some z:=⟨_,zA Oq⟩;have hz2:=(q3R (ix:=ix) (a:=a) (b:=b) (t:=t) Oq).trans hz;have q1:=q7h h5 g1 t z hz2;obtain ⟨y,hy⟩:∃ y,((ix.take b).drop a)[((ix.take b).drop a).length-1]?=some y:=⟨_,zA Oq⟩;have q2:=qqq h5 hz2 hy;have q3:=g2 y hy;exact ⟨z.toNat,by rw [Int.toNat_of_nonneg ω]; exact hz,ω,ω⟩
 .refine ⟨a,h1,?_,?_,λt e he=>?_⟩
  .rw [h2,zN,z9]; congr 1; omega
  .rw [zN,z9]; omega
  .have ht:t < b-a:=by have:=(zR.1 he).1; simpa using this
   rw [zL,zB ht,z6] at he;cases he;obtain ⟨z,z1,z2,z3⟩:=hb t ht;obtain ⟨v,hv⟩:∃ v,vs[a+t]?=some v:=⟨_,zA Oq⟩;simp only [getD_some z1,getD_some hv,uQ];exact ⟨z1,hv,z3,hf v (zE hv),hu v (zE hv)⟩
 .rw [x7];unfold List.Nodup;rw [List.pairwise_iff_getElem];intro i j hi hj hij;simp at hi hj;obtain ⟨z,z1,_⟩:=hb i hi;obtain ⟨y,y1,_⟩:=hb j hj;simp only [List.getElem_map,List.getElem_range,Function.comp_apply,getD_some z1,getD_some y1,uQ];have:=q7g h5 (j-i-1) i z y ((q3R ω).trans z1) ((q3R ω).trans (by rw [<- y1]; congr 1; omega));omega
 .rw [zN,z9]
  by_cases e:b-a=0
  .omega
  .obtain ⟨z,z1,z2,z3⟩:=hb (b-a-1) Oq;omega
end
def q9w {L:List (Nat × Nat)} {t:Nat} {e:Nat × Nat} (h:(L.map (·.1)).Nodup) (he:L[t]?=some e):ctV L e.1=e.2:=by
 induction L generalizing t with
 | nil=>simp at he
 | cons d L ih =>
  rw [xW,List.nodup_cons] at h;cases t with
  | zero =>
   rw [List.getElem?_cons_zero] at he;cases he;unfold ctV;rw [xO,show (e.1 == e.1)=true by simp]; rfl
  | succ t =>
   rw [List.getElem?_cons_succ] at he;have hne:d.1≠e.1:=λq=>h.1 (by rw [q]; exact xU (zE he));unfold ctV;rw [xO,show (d.1 == e.1)=false by simpa using hne];exact ih h.2 he
def qff {k:Nat}:∀ (l:List (Nat × Nat)) (g:Nat->Nat->Nat) (i j:Nat),(l.map (·.1)).Nodup->enS g k l i j=if j=k then ((l.find? λe=>e.1 == i).map (·.2)).getD (g i j) else g i j
 | [],g,i,j,_=>by unfold enS; simp
 | e :: l,g,i,j,h=>by
  rw [xW,List.nodup_cons] at h;rw [enS,qff l _ i j h.2]
  by_cases hj:j=k
  .rw [if_pos hj,if_pos hj,xO]
   by_cases he:e.1=i
   .have h0:(l.find? λe=>e.1 == i)=none:=List.find?_eq_none.2 λd hd hq=>h.1 (by rw [he,<- (by simpa using hq:d.1=i)]; exact xU hd);rw [h0,show (e.1 == i)=true by simpa using he];simp [q2N,hj,he]
   .rw [show (e.1 == i)=false by simpa using he];simp only [q2N];rw [if_neg λq=>he q.1.symm]
  .rw [if_neg hj,if_neg hj];unfold q2N;rw [if_neg λq=>hj q.2]
def q9r {g:Nat->Nat->Nat} {E:Nat->List (Nat × Nat)}:∀ (m i j:Nat),(∀ k,k < m->((E k).map (·.1)).Nodup)->dnT g E m i j=if j < m then (((E j).find? λe=>e.1 == i).map (·.2)).getD (g i j) else g i j
 | 0,i,j,_=>by rw [dnT,if_neg ω]
 | m+1,i,j,h=>by
  rw [dnT,qff _ _ _ _ (h m ω),q9r m i j λk hk=>h k ω]
  by_cases hj:j=m
  .subst hj;rw [if_pos rfl,if_neg ω,if_pos ω]
  .rw [if_neg hj]
   by_cases h2:j < m
   .rw [if_pos h2,if_pos ω]
   .rw [if_neg h2,if_neg ω]
def dnL_v {n:Nat} {E:Nat->List (Nat × Nat)} (h:∀ k,k < n->((E k).map (·.1)).Nodup) {i j:Nat} (hj:j < n) (hij:j < i):dnT (dnD n) E n i j=ctV (E j) i:=by
 rw [q9r n i j h,if_pos hj];unfold ctV dnD;rw [if_neg ω]
def dnU_v {n:Nat} {E:Nat->List (Nat × Nat)} (h:∀ k,k < n->((E k).map (·.1)).Nodup) {i j:Nat} (hj:j < n):dnT (λ_ _=>0) E n i j=ctV (E j) i:=by
 rw [q9r n i j h,if_pos hj]
 rfl
def qfv {n:Nat} {st ix:List Int} {vs:List Nat} {E:Nat->List (Nat × Nat)} (h:ColS n st ix vs E) {i j:Nat} (hj:j < n):ctV (E j) i < 18446744073709551616/\q0M (ctV (E j) i):=by
 unfold ctV;cases hf:(E j).find? λe=>e.1 == i with
 | none=>exact ⟨σ,by unfold q0M; simp⟩
 | some e =>
  obtain ⟨t,ht⟩:=yU.1 (xC hf);obtain ⟨a,_,_,_,h4⟩:=h.col j hj;obtain ⟨_,_,_,h5,h6⟩:=h4 t e ht;exact ⟨h6,h5⟩
structure LUok (f:LUt) (n:Nat):Prop where
 b:LUb f
 rl:f.rows.length=n
 n2:n<=200
 rp:q3D f.rows n
 cp:q3D f.cols n
 sl:f.ls.length=n+1
 su:f.us.length=n+1
 L:ColS n f.ls f.li f.lv (q5p f.ls f.li f.lv)
 U:ColS n f.us f.ui f.uv (q5p f.us f.ui f.uv)
 gt:∀ k,k < n->∀ e ∈ q5p f.ls f.li f.lv k,k < e.1
 le:∀ k,k < n->∀ e ∈ q5p f.us f.ui f.uv k,e.1<=k
 dg:∀ k,k < n->∃ m x,q5p f.us f.ui f.uv k=m ++ [(k,x)]/\ofZ x≠0/\∀ e ∈ m,e.1 < k
def qaP {f:LUt} (hb:LUb f) (h:q7n f=0):LUok f f.rows.length:=by
 unfold q7n at h
 split at h
 .cases h
 split at h
 .cases h
 rename_i hn hp
 split at h
 .cases h
 rename_i hls
 split at h
 .cases h
 rename_i hst
 split at h
 .rename_i hf;obtain ⟨f1,f2,f3⟩:=hf;have hp:=Classical.not_not.1 hp;obtain ⟨s1,s2,s3,s4⟩:=Classical.not_not.1 hls;have hst:=Classical.not_not.1 hst;obtain ⟨c1,c2⟩:=hst;have L:=qgB (vs:=f.lv) c1 s3 f1 hb.hl hb.li λk l hk ha hg=>⟨λz hz=>by have:=hg.1 z hz; omega,hg.2⟩;have U:=qgB (vs:=f.uv) c2 s4 f2 hb.hu hb.ui λk l hk ha hg=>⟨hg.1,λz hz=>by have:=hg.2.symm.trans hz; cases this; omega⟩;have hgt:∀ k,k < f.rows.length->∀ e ∈ q5p f.ls f.li f.lv k,k < e.1:=λk hk e he=>by
   obtain ⟨a,b,h1,h2,h3,h4,h5,h6⟩:=c1.col k hk;rw [q4u h1 h2] at he;obtain ⟨t,ht,rfl⟩:=zG.1 he;have ht:=zV.1 ht;obtain ⟨z,hz⟩:∃ z,f.li[a+t]?=some z:=⟨_,zA Oq⟩;have:=q7h h5 (lo:=(k:Int)+1) (λz hz=>by have:=h6.1 z hz; omega) t z ((q3R Oq).trans hz);simp only [getD_some hz];omega
  have hU:∀ k,k < f.rows.length->∃ m x,q5p f.us f.ui f.uv k=m ++ [(k,x)]/\ofZ x≠0/\∀ e ∈ m,e.1 < k:=λk hk=>by
   obtain ⟨a,b,h1,h2,h3,h4,h5,h6⟩:=c2.col k hk;have hll:((f.ui.take b).drop a).length=b-a:=by rw [yK,zU]; omega
   have hlast:=h6.2;have hab:a < b:=by
    rcases y6 a b with q | q
    .exact q
    .rw [yJ ω] at hlast; cases hlast
   rw [hll,q3R ω] at hlast;obtain ⟨x,hx⟩:∃ x,f.uv[b-1]?=some x:=⟨_,zA Oq⟩;rw [show a+(b-a-1)=b-1 by omega] at hlast;refine ⟨(List.range (b-a-1)).map λt=>((f.ui.getD (a+t) 0).toNat,f.uv.getD (a+t) 0),x,?_,f3 k hk (b-1) x (by rw [h2]; congr 1; omega) hx,λe he=>?_⟩
   .rw [q4u h1 h2,show b-a=(b-a-1)+1 by omega,z7,zC,z8,show a+(b-a-1)=b-1 by omega,getD_some hlast,getD_some hx,uQ]
    rfl
   .obtain ⟨t,ht,rfl⟩:=zG.1 he;have ht:=zV.1 ht;obtain ⟨z,hz⟩:∃ z,f.ui[a+t]?=some z:=⟨_,zA Oq⟩;have hz2:=(q3R (ix:=f.ui) (a:=a) (b:=b) (t:=t) Oq).trans hz;have q1:=q7h h5 h6.1 t z hz2;have q2:=q7g h5 (b-a-1-t-1) t z k hz2 ((q3R ω).trans (by rw [<- hlast]; congr 1; omega));simp only [getD_some hz];omega
  refine ⟨hb,rfl,ω,hp.1,hp.2,s1,s2,L,U,hgt,λk hk e he=>?_,hU⟩;obtain ⟨m,x,m1,m2,m3⟩:=hU k hk;rw [m1] at he
  rcases yB.1 he with he | he
  .exact xL (m3 e he)
  .rw [List.mem_singleton.1 he]; exact zO _
 .cases h
end Go.Proofs.YtbjoghfmhgadkaaGreatDoor
namespace Go.E
open Go Go.RowKit
section
variable {T1 T2:TypeId} {K:Kd} {N R n:Nat} {row:Nat->List PV}
def qdR:qdS T1 T2 K N R n row=q1X T1 T2 K N R n row h0:=rfl
end
end Go.E
namespace Go.Proofs.YtbjoghfmhgadkaaGreatDoor
open Go Go.E Go.Sp
abbrev q5s (n:Nat) (rows:Nat->List Int):Hp:=q1X 87 46 (some 4) 5000 10000 n (qks rows) h0
def q0m {n:Nat} {rows:Nat->List Int} (hn:n<=1000):BOk (q5s n rows) win:=q1Z BOk.h0 (λ_ _=>clV) Oq ⟨⟨ω,ω⟩,λj hj=>⟨ω,ω⟩⟩
def wfB {H:Hp} (h:BOk H win):WfH H:=⟨λi b hb=>⟨(h.b i b hb).2.1,IdL_mono (λj hj=>by
 obtain ⟨c,hc⟩:=Option.ne_none_iff_exists'.1 hj;exact ⟨(h.b j c hc).1,hj⟩) _ (h.b i b hb).2.2⟩⟩
section
variable {b:List Nat} {n:Nat} {rows:Nat->List Int}
end
def psG (g:Nat->Int):List (Nat × Nat)->(Nat->List Int)->Nat->List Int
 | [],rows=>rows
 | e :: L,rows=>psG g L (q4H rows e.1 (-(g e.2)))
def ctG (g:Nat->Int) (L:List (Nat × Nat)) (r:Nat):Int:=q1L (L.map λe=>if e.1=r then g e.2 else 0)
def qeQ {g:Nat->Int}:∀ (A B:List (Nat × Nat)) (rows:Nat->List Int),psG g (A ++ B) rows=psG g B (psG g A rows)
 | [],_,_=>rfl
 | e :: A,B,rows=>by rw [List.cons_append,psG,psG,qeQ A B]
def qt2 {g:Nat->Int} {t:Nat} {L:List (Nat × Nat)} {e:Nat × Nat} {rows:Nat->List Int} (he:L[t]?=some e):psG g (L.take (t+1)) rows=q4H (psG g (L.take t) rows) e.1 (-(g e.2)):=by
 rw [q1g he,qeQ]; rfl
def q92 {g:Nat->Int} {r:Nat}:∀ (L:List (Nat × Nat)) (rows:Nat->List Int),q1L (psG g L rows r)=q1L (rows r)-ctG g L r
 | [],rows=>by unfold psG ctG; rw [x8,q1x]; omega
 | e :: L,rows=>by
  rw [psG,q92 L,qcs];have:ctG g (e :: L) r=(if e.1=r then g e.2 else 0)+ctG g L r:=by unfold ctG; rw [xW,q5M]
  rw [this]
  by_cases h:r=e.1
  .rw [if_pos h,if_pos h.symm]; omega
  .rw [if_neg h,if_neg λq=>h q.symm]; omega
def qkz {g:Nat->Int}:∀ (L:List (Nat × Nat)) (rows:Nat->List Int) (m:Nat),(∀ e ∈ L,bl (g e.2).natAbs<=67600)->(∀ r,(rows r).length<=m)->(∀ r,∀ z ∈ rows r,bl z.natAbs<=67600)->(∀ r,(psG g L rows r).length<=m+L.length)/\∀ r,∀ z ∈ psG g L rows r,bl z.natAbs<=67600
 | [],rows,m,_,h1,h2=>⟨h1,h2⟩
 | e :: L,rows,m,he,h1,h2=>by
  have hz:bl (-(g e.2)).natAbs<=67600:=by rw [zS]; exact he e xY
  have b1:=qgv (k:=e.1) h1 h2 hz;have b2:=qkz L _ (m+1) (λd hd=>he d (xQ _ hd)) b1.1 b1.2;rw [psG];exact ⟨λr=>by have:=b2.1 r; rw [List.length_cons]; omega,b2.2⟩
structure RB (rows:Nat->List Int) (m:Nat):Prop where
 l:∀ r,(rows r).length<=m
 b:∀ r,∀ z ∈ rows r,bl z.natAbs<=67600
def RB.pg {rows:Nat->List Int} {m:Nat} {g:Nat->Int} {L:List (Nat × Nat)} (h:RB rows m) (hL:∀ e ∈ L,bl (g e.2).natAbs<=67600):RB (psG g L rows) (m+L.length):=by
 obtain ⟨h1,h2⟩:=qkz L rows m hL h.l h.b;exact ⟨h1,h2⟩
def RB.mono {rows:Nat->List Int} {m m':Nat} (h:RB rows m) (hm:m<=m'):RB rows m':=⟨λr=>zP (h.l r) hm,h.b⟩
section
variable {D:Nat->Nat->Nat} {E:Nat->List (Nat × Nat)} {n k:Nat} {ys:List Nat} {rows:Nat->List Int}
end
section
variable {n k v:Nat} {ys:List Nat}
end
def qkp {a b:Int} (h:b < a):(a-b).sign=1:=uP Oq
def qko {a b:Int} (h:¬ b < a):¬ (a-b).sign > 0:=λq=>by
 rcases xA (Int.not_lt.1 h) with h | h
 .rw [zY ω] at q; omega
 .rw [show a-b=0 by omega] at q; exact absurd q (by decide)
def grZ (l:List Int):Int:=l.foldl max 0
def qoc {l:List Int} {i:Nat} {x:Int} (h:l[i]?=some x):grZ (l.take (i+1))=max (grZ (l.take i)) x:=by
 unfold grZ;rw [q1g h,List.foldl_append]
 rfl
def qi8 {l:List Int} {x:Int}:grZ (l ++ [x])=max (grZ l) x:=by
 unfold grZ;rw [List.foldl_append]
 rfl
def qbE:∀ (l:List Int) (a:Int),(l.foldl max a=a\/l.foldl max a ∈ l)/\a<=l.foldl max a
 | [],a=>⟨.inl rfl,Int.le_refl _⟩
 | x :: l,a=>by
  have h:=qbE l (max a x);rw [List.foldl_cons];refine ⟨?_,ω⟩
  rcases h.1 with h | h
  .rw [h]
   rcases Int.le_total a x with q | q
   .right; rw [Int.max_eq_right q]; exact xY
   .left; exact Int.max_eq_left q
  .right; exact xQ _ h
def q41 {l:List Int}:0<=grZ l:=(qbE l 0).2
def qod {p:Int->Prop} {l:List Int} (h0:p 0) (h:∀ x ∈ l,p x):p (grZ l):=by
 rcases (qbE l 0).1 with q | q
 .unfold grZ; rw [q]; exact h0
 .exact h _ q
def q42 {l:List Int} {k:Nat} (h:∀ x ∈ l,bl x.natAbs<=k):bl (grZ l).natAbs<=k:=qod (p:=λz=>bl z.natAbs<=k) (by simp [q06]) h
def q63 {v:Nat} (h:q0M v):bl (abZ v).natAbs<=66560:=by
 unfold abZ;rw [zF];exact qeX h
def btD (n:Nat) (v:List Nat) (F:Nat->Nat->Option Nat) (i j k:Nat):Int:=q1M (v.getD (k*n+i) 0) ((F j k).getD 0)
def btE (n:Nat) (v:List Nat) (F:Nat->Nat->Option Nat) (i j:Nat):Int:=(if i=j then q0s else 0)-sg (btD n v F i j) n
def btZ (n:Nat) (v:List Nat) (F:Nat->Nat->Option Nat) (i:Nat):Int:=sg (λj=>((btE n v F i j).natAbs:Int)) n
def btL (n:Nat) (v:List Nat) (F:Nat->Nat->Option Nat):List Int:=(List.range n).map (btZ n v F)
def pnZ (r c:Nat) (v:List Nat) (i:Nat):Int:=sg (λj=>abZ (v.getD (j*r+i) 0)) c
def pnL (r c:Nat) (v:List Nat):List Int:=(List.range r).map (pnZ r c v)
def nmZ (F:Nat->Nat->Option Nat) (C i:Nat):Int:=sg (λj=>abZ ((F j i).getD 0)) C
def nmL (F:Nat->Nat->Option Nat) (R C:Nat):List Int:=(List.range R).map (nmZ F C)
def q6I {g:Nat->Int} {K:Nat} (n:Nat) (hn:n<=1000) (h:∀ i,i < n->bl (g i).natAbs<=K):bl (sg g n).natAbs<=K+11:=by
 have e:∀ m,sg g m=q1L ((List.range m).map g):=λm=>by
  induction m with
  | zero=>rfl
  | succ m ih=>rw [sg,ih,z7,zC,z8,q0j]
 have:=q5K (K:=K) (i:=n) (l:=(List.range n).map g) (λx hx=>by
  obtain ⟨i,hi,rfl⟩:=zG.1 hx;exact h i (zV.1 hi)) Oq
 rw [zK σ] at this;rw [e];exact this
def q6u {g:Nat->Int} {n i:Nat} (h:i < n):((List.range n).map g)[i]?=some (g i):=by simp [h]
def rgm_s {g:Nat->Int} {n:Nat}:(List.range (n+1)).map g=(List.range n).map g ++ [g n]:=by rw [z7,zC]; rfl
def q2g {g:Nat->Int} {n:Nat}:((List.range n).map g).length=n:=σ
def q1o {v:List Nat} (hv:q1N v) {i:Nat}:v.getD i 0 < 18446744073709551616/\q0M (v.getD i 0):=by
 rw [uU];cases h:v[i]? with
 | none=>exact ⟨σ,by simp [q0M]⟩
 | some x=>exact hv x (zE h)
def TOk.finD {f:Nat->Nat->Option Nat} {R C j i:Nat} (h:TOk f R C) (hj:j < C) (hi:i < R):q0M ((f j i).getD 0):=(h.fin hj hi).1
section
variable {F:Nat->Nat->Option Nat} {n r c R C:Nat} {v:List Nat}
def qwJ (h:TOk F n n) (hv:q1N v) {i j k:Nat} (hj:j < n) (hk:k < n):bl (btD n v F i j k).natAbs<=67584:=qlQ (q1o hv).2 (h.finD hj hk)
def qgN (h:TOk F n n) (hv:q1N v) {i j:Nat} (hj:j < n):bl (btE n v F i j).natAbs<=67596:=by
 have h1:=q6I (g:=btD n v F i j) (K:=67584) n (by have:=h.r; omega) λk hk=>qwJ h hv hj hk;unfold btE;refine qgW (k:=67595) ?_ Oq
 split
 .have:=q4P; omega
 .simp [q06]
def qmD (h:TOk F n n) (hv:q1N v) {i:Nat}:bl (btZ n v F i).natAbs<=67607:=q6I (K:=67596) n (by have:=h.r; omega) λj hj=>by rw [zF]; exact qgN h hv hj
def qwI (h:TOk F n n) (hv:q1N v):∀ x ∈ btL n v F,bl x.natAbs<=67607:=λx hx=>by
 obtain ⟨i,_,rfl⟩:=zG.1 hx;exact qmD h hv
def qlD (hv:q1N v) (hc:c<=1000) {i:Nat}:bl (pnZ r c v i).natAbs<=66571:=q6I (K:=66560) c hc λj _=>q63 (q1o hv).2
def qeS (hv:q1N v) (hc:c<=1000):∀ x ∈ pnL r c v,bl x.natAbs<=66571:=λx hx=>by
 obtain ⟨i,_,rfl⟩:=zG.1 hx;exact qlD hv hc
def qlJ (h:TOk F R C) {i:Nat} (hi:i < R):bl (nmZ F C i).natAbs<=66571:=q6I (K:=66560) C (by have:=h.c; omega) λj hj=>q63 (h.finD hj hi)
def qlK (h:TOk F R C):∀ x ∈ nmL F R C,bl x.natAbs<=66571:=λx hx=>by
 obtain ⟨i,hi,rfl⟩:=zG.1 hx;exact qlJ h (zV.1 hi)
def mlt (z:Int):Prop:=∃ m:Int,z=m*(2:Int) ^ 64462
def qoH:mlt 0:=⟨0,(yQ _).symm⟩
def qoG {a b:Int} (ha:mlt a) (hb:mlt b):mlt (a+b):=by
 obtain ⟨x,rfl⟩:=ha;obtain ⟨y,rfl⟩:=hb;exact ⟨x+y,(Int.add_mul _ _ _).symm⟩
def qlU {v:Nat} (h:q0M v):mlt (abZ v):=by
 obtain ⟨z,hz⟩:=qhv h;unfold abZ mlt;generalize (64462:Nat)=k at *;rw [hz,q0H];exact ⟨(z.natAbs:Int),by rw [zW,q0T]⟩
def qec {g:Nat->Int}:∀ n,(∀ i,i < n->mlt (g i))->mlt (sg g n)
 | 0,_=>qoH
 | n+1,h=>qoG (qec n λi hi=>h i Oq) (h n Oq)
def qlC (hv:q1N v):mlt (grZ (pnL r c v)):=qod qoH λx hx=>by
 obtain ⟨i,_,rfl⟩:=zG.1 hx;exact qec c λj _=>qlU (q1o hv).2
def qlI (h:TOk F R C):mlt (grZ (nmL F R C)):=qod qoH λx hx=>by
 obtain ⟨i,hi,rfl⟩:=zG.1 hx;exact qec C λj hj=>qlU (h.finD hj (zV.1 hi))
def prZ (a b:Int):Int:=(mkV (a*b) (-131072)).getD 0
def qlA {a b:Int} (ha:mlt a) (hb:mlt b) (h1:bl a.natAbs<=66571) (h2:bl b.natAbs<=66571):mkV (a*b) (-131072)=some (prZ a b)/\bl (prZ a b).natAbs<=67606/\a*b=prZ a b*(2:Int) ^ 65536:=by
 obtain ⟨x,hx⟩:=ha;obtain ⟨y,hy⟩:=hb;obtain ⟨c,hc⟩:∃ c:Int,c=x*y*(2:Int) ^ 63388:=⟨_,rfl⟩;have e:a*b=c*(2:Int) ^ 65536:=by
  rw [hx,hy,hc];have:∀ p:Int,x*p*(y*p)=x*y*(p*p):=λp=>by rw [zZ,zZ,yR p y p]
  rw [this,zZ (x*y),<- uR,<- uR]
 have hb:bl c.natAbs<=67606:=by
  refine qmE e ?_;have:=q1W a.natAbs b.natAbs;rw [<- zH] at this;omega
 have hk:mkV (a*b) (-131072)=some c:=by rw [e]; exact q7K (by unfold q0Y; omega)
 unfold prZ;rw [hk];exact ⟨rfl,hb,e⟩
def q6Q:q0s=(2:Int) ^ 65536:=by
 have h:=q7J (z:=1) (by have:=q0K (n:=xZ 1) (k:=1) (by decide); omega);rw [q5W.1] at h;have h:=xD.inj h;rw [wC] at h;exact h
def mul_one {a:Int} (h:q0Y a):mkV (a*q0s) (-131072)=some a:=by rw [q6Q]; exact q7K h
end
def q8L (V:Int):od (V.natAbs:Int)=((od V).natAbs:Int)/\dyE (V.natAbs:Int)=dyE V:=by
 have hs:=q2Z V
 by_cases hv:V < 0
 .rw [decide_eq_true hv] at hs;have ho:od V < 0:=of_decide_eq_true hs;rw [show (V.natAbs:Int) = -V by omega,qeY,q9p];exact ⟨ω,rfl⟩
 .rw [decide_eq_false hv] at hs;have ho:¬ od V < 0:=of_decide_eq_false hs;rw [show (V.natAbs:Int)=V by omega];exact ⟨ω,rfl⟩
def qle {V:Int} (h:q0Y V):q0Y (V.natAbs:Int):=by unfold q0Y at *; rwa [zF]
section
variable {A B V z:Int} {v:Nat}
def q7p (h1 : -9223372036854775808<=z) (h2:z<=9223372036854775807) (hv:mkV z 0=some V):ACt 66 [iv z] (dT V):=by
 have hz:bl z.natAbs<=64:=q0K (Nat.lt_of_le_of_lt (show z.natAbs<=9223372036854775808 by omega) (by decide));have C1:=@q1m;have C2:=q31 (m:=z) (e:=0) rfl Oq Oq Oq hv;refine ac0 Tryz.func66 Tryz.ntmps66 [.cell 2 46] ?_;exact wk trivial
def q9E:ACt 66 [iv 1] (dT q0s):=q7p Oq Oq q5W.1
def qaS:ACt 66 [iv 0] (dT 0):=q7p Oq Oq (q1e _)
def qdD (hA:q0Y A):ACt 111 [dT A] (dT (A.natAbs:Int)):=by
 have C1:=q9F hA;have C2:=@q7R;have:=(q1B hA).2.2;have f1:=(q8L A).1.symm;have f2:=(q8L A).2;refine ac0 Tryz.func111 Tryz.ntmps111 [.cell 2 46] ?_;exact wk1 (x2 f1 f2) trivial
def q5a (h1:v < 18446744073709551616) (h2:q0M v):ACt 113 [uv (q3I v:Nat)] (dT (abZ v)):=by
 have:=q88 (f:=q3I v) (by have:=qg8 (f:=v); omega) (q0e (qjz h2))
 rwa [<- q95 h1 h2] at this
def qbp (h:q0M v):q0Y (abZ v):=by have:=q63 h; unfold q0Y; omega
end
def q8E {g:Nat->Int}:∀ n,q1L ((List.range n).map g)=sg g n
 | 0=>rfl
 | n+1=>by rw [z7,zC,z8,q0j,q8E n,sg]
def dy0:q0Y 0:=by simp [q0Y,q06]
def pPn (r c:Nat) (v:List Nat):PV:=.ag [iv r,iv c,pF v]
open Classical in
noncomputable def chP (r c:Nat) (v:List Nat):Int:=if v.length≠r*c then 2 else if ∀ x ∈ v,q0M x then 0 else 4
section
variable {l:List Int} {r c i j:Nat} {v:List Nat}
def q3s (hn:l.length<=1000000):ACt 127 [pVs l] (pV (grZ l)):=by
 have C1:=q1c qaS dy0;have N1:=q2J (V:=0);refine ac0 Tryz.func127 Tryz.ntmps127 [.cell 2 46] ?_;refine wk ?_;refine q0B (λi=>i<=l.length) [2,3,9,10] [2] Lk Lk (λi:Nat=>[(11,iv i)]) (λi=>[(3,⟨46,some 4,[pV (grZ (l.take i))],false⟩)]) (λi=>l.length-i) 0 (zD _) ?_ ?_
 .refine LeM [] rfl rfl ?_;refine Zz ?_;exact ⟨rfl,rfl⟩
 .intro i hi
  by_cases hlt:i < l.length
  .obtain ⟨x,hx⟩:∃ x,l[i]?=some x:=⟨_,zA hlt⟩;have C2:=qjx qb7 λho=>q9H (A:=x) (B:=grZ (l.take i)) ho.1 ho.2;have es:=qoc hx;generalize grZ (l.take i)=G at *
   by_cases h:G < x
   .rw [qkp h] at C2;rw [show max G x=x by omega] at es;refine wk1 hx ?_;refine ⟨i+1,ω,ω,?_⟩;rw [es];refine LeM [] rfl rfl ?_;refine Zz ?_
    first | done | omega | exact ⟨ω,rfl⟩
   .have q:=qko h;rw [show max G x=G by omega] at es;generalize (x-G).sign=s at *;refine wk1 hx ?_;refine ⟨i+1,ω,ω,?_⟩;rw [es];refine LeM [] rfl rfl ?_;refine Zz ?_
    first | done | omega | exact ⟨ω,rfl⟩
  .obtain rfl:i=l.length:=ω
   rw [zX];exact wk trivial
def qcv (hn:l.length<=1000000):ACt 73 [pVs l] (pV (grZ l)):=by
 have N1:=q2J (V:=0);refine ac0 Tryz.func73 Tryz.ntmps73 [.cell 2 46] ?_;refine wk ?_;refine q0B (λi=>i<=l.length) [0,2,3] [2] Lk Lk (λi:Nat=>[(4,iv i)]) (λi=>[(3,⟨46,some 4,[pV (grZ (l.take i))],false⟩)]) (λi=>l.length-i) 0 (zD _) ?_ ?_
 .refine LeM [] rfl rfl ?_;refine Zz ?_;exact ⟨rfl,q65 rfl⟩
 .intro i hi
  by_cases hlt:i < l.length
  .obtain ⟨x,hx⟩:∃ x,l[i]?=some x:=⟨_,zA hlt⟩;have C2:=q67 (A:=grZ (l.take i)) (B:=x);have es:=qoc hx;generalize grZ (l.take i)=G at *
   by_cases h:G < x
   .rw [decide_eq_true h] at C2;rw [show max G x=x by omega] at es;refine wk1 hx ?_;refine ⟨i+1,ω,ω,?_⟩;rw [es];refine LeM [] rfl rfl ?_;refine Zz ?_
    first | done | omega | exact ⟨ω,rfl⟩
   .rw [decide_eq_false h] at C2;rw [show max G x=G by omega] at es;refine wk1 hx ?_;refine ⟨i+1,ω,ω,?_⟩;rw [es];refine LeM [] rfl rfl ?_;refine Zz ?_
    first | done | omega | exact ⟨ω,rfl⟩
  .obtain rfl:i=l.length:=ω
   rw [zX];exact wk trivial
def qfs {n:Nat} (hr:r<=64) (hc:c<=64) (hn:n<=1000000):ACt 245 [iv r,iv c,iv n] (iv (if n≠r*c then 2 else 0)):=by
 have hm:r*c<=64*64:=zI hr hc;have w1:IntKind.i64.wrap ((r:Int)*(c:Int))=((r*c:Nat):Int):=by rw [<- zW,i64_in ω ω]
 generalize r*c=m at *;refine ac0 Tryz.func245 Tryz.ntmps245 [.tmp 6] ?_
 by_cases h:n=m
 .have q:((n:Int) != (m:Int))=false:=by simp; omega
  rw [if_neg (not_not_intro h)];exact wk1 (x2 w1 q) trivial
 .have q:((n:Int) != (m:Int))=true:=by simp; omega
  rw [if_pos h];exact wk1 (x2 w1 q) trivial
open Classical in
def qbZ (hr:r<=64) (hc:c<=64) (hn:v.length<=1000000) (hv:∀ x ∈ v,x < 18446744073709551616):ACt 208 [pPn r c v] (iv (chP r c v)):=by
 have C1:=qfs (n:=v.length) hr hc hn;obtain ⟨res,hres⟩:∃ res,res=chP r c v:=⟨_,rfl⟩;rw [<- hres];unfold chP at hres;unfold pPn;refine ac0 Tryz.func208 Tryz.ntmps208 [.tmp 2] ?_
 by_cases h:v.length=r*c
 rotate_left
 .rw [if_pos h] at C1 hres;subst hres;exact wk trivial
 rw [if_neg (not_not_intro h)] at C1 hres;refine wk ?_;refine q0B (λi=>i<=v.length/\∀ x ∈ v.take i,q0M x) [18,19] [] Lk Lk (λi:Nat=>[(20,iv i)]) (λ_=>[]) (λi=>v.length-i) 0 ⟨zD _,σ⟩ ?_ ?_
 .refine LeM [] rfl rfl ?_;refine Zz ?_
  rfl
 .rintro i ⟨hi,hf⟩
  by_cases hil:i < v.length
  .obtain ⟨x,hx⟩:∃ x,v[i]?=some x:=⟨_,zA hil⟩;have hmx:=zE hx;have cF:=q9k (hv x hmx)
   by_cases hfx:q0M x
   case neg =>
    rw [decide_eq_false hfx] at cF;rw [if_neg λh=>hfx (h x hmx)] at hres;subst hres;exact wk1 hx trivial
   rw [decide_eq_true hfx] at cF;refine wk1 hx ?_;refine ⟨i+1,⟨ω,?_⟩,ω,?_⟩
   .rw [q1g hx];intro y hy
    rcases yB.1 hy with hy | hy
    .exact hf y hy
    .simp at hy; subst hy; exact hfx
   .refine LeM [] rfl rfl ?_;refine Zz ?_;omega
  .obtain rfl:i=v.length:=ω
   rw [zX] at hf;rw [if_pos hf] at hres;subst hres;exact wk trivial
end
section
variable {r c i j:Nat} {v:List Nat}
def qpe (h:chP r c v=0) (hv:∀ x ∈ v,x < 18446744073709551616):v.length=r*c/\q1N v:=by
 unfold chP at h
 by_cases h1:v.length=r*c
 .rw [if_neg (not_not_intro h1)] at h;refine ⟨h1,λx hx=>⟨hv x hx,?_⟩⟩;refine Classical.byContradiction λhn=>?_;rw [if_neg λq=>hn (q x hx)] at h;cases h
 .rw [if_pos h1] at h;cases h
def qt8 (hr:r<=64) (hc:c<=64) (hl:v.length=r*c) (hi:i < r) (hj:j < c):IntKind.i64.wrap ((j:Int)*(r:Int))=((j*r:Nat):Int)/\IntKind.i64.wrap (((j*r:Nat):Int)+(i:Int))=((j*r+i:Nat):Int)/\∃ x,v[j*r+i]?=some x:=by
 have hm:r*c<=64*64:=zI hr hc;have hm2:j*r+r<=r*c:=by rw [<- y7,xM r c]; exact zM _ hj
 exact ⟨by rw [<- zW,i64_in ω ω],by rw [i64_in ω ω]; omega,_,zA ω⟩
def qj3 (hr:r<=64) (hc:c<=64) (hl:v.length=r*c) (hv:q1N v):ACt 128 [pPn r c v] (.tu [pV (grZ (pnL r c v)),iv 0]):=by
 have hm:r*c<=64*64:=zI hr hc;have C1:=qbZ hr hc (v:=v) Oq λx hx=>(hv x hx).1;rw [show chP r c v=0 by unfold chP; rw [if_neg (not_not_intro hl),if_pos λx hx=>(hv x hx).2]] at C1;have C2:=q1c qaS dy0;have N1:=q2J (V:=0);have hix:=λi j hi hj=>qt8 (i:=i) (j:=j) hr hc hl hi hj;obtain ⟨l,hll⟩:∃ l,l=pnL r c v:=⟨_,rfl⟩;have hlen:l.length=r:=by rw [hll]; exact q2g
 have hlg:∀ i,i < r->l[i]?=some (pnZ r c v i):=λi hi=>by rw [hll]; exact q6u hi
 rw [<- hll];have hlb:=λi=>qlD (r:=r) (c:=c) (i:=i) hv Oq;unfold pPn at *;clear hll;refine ac0 Tryz.func128 Tryz.ntmps128 [.cell 2 46,.tmp 3] ?_;refine wk ?_;refine q0B (λi=>i<=r) [1,2,5,20] [1,2] Lk Lk (λi:Nat=>[(21,iv i)]) (λi=>[(5,⟨46,some 4,[pV (grZ (l.take i))],false⟩)]) (λi=>r-i) 0 (zD _) ?_ ?_
 .refine LeM [] rfl rfl ?_;refine Zz ?_;exact ⟨rfl,rfl⟩
 .intro i hi
  by_cases hlt:i < r
  .have q1:(i:Int) < r:=ω
   obtain ⟨G,hG⟩:∃ G,G=grZ (l.take i):=⟨_,rfl⟩;rw [<- hG];refine wk1 q1 ?_;refine q0B (λj=>j<=c) [1,2,5,6,20,21,25] [1,2,5] Lk Lk (λj:Nat=>[(26,iv j),(7,.ow 1001 (some 4) 0 j)]) (λj=>[(1001,⟨46,some 4,((List.range j).map λj=>abZ (v.getD (j*r+i) 0)).map λV=>pV V,false⟩)]) (λj=>c-j) 0 (zD _) ?_ ?_
   .refine LeM [(1001,none)] rfl rfl ?_;refine Zz ?_;exact ⟨rfl,rfl⟩
   .intro j hj
    by_cases hlt2:j < c
    .have q2:(j:Int) < c:=ω
     obtain ⟨w1,w2,x,hx⟩:=hix i j hlt hlt2;obtain ⟨x1,x2⟩:=hv x (zE hx);have C3:=q9l x1 x2;have C4:=q1c (q5a x1 x2) (qbp x2);have N4:=q2J (V:=abZ x);have es:=rgm_s (g:=λj=>abZ (v.getD (j*r+i) 0)) (n:=j);rw [getD_some hx] at es;have ll:=q2g (g:=λj=>abZ (v.getD (j*r+i) 0)) (n:=j);generalize j*r=jr at *;refine wk1 (x4 q2 w1 w2 hx) ?_;refine ⟨j+1,ω,ω,?_⟩;rw [es];refine LeM [(1001,some 43)] rfl rfl ?_;refine Zz ?_;exact ⟨ω,q0O (by rw [zC]; rfl) clV⟩
    .obtain rfl:j=c:=ω
     have q2:¬ (j:Int) < j:=ω
     have hd:q0Y (pnZ r j v i):=by have:=hlb i; unfold q0Y; omega
     have C3:=q1c (q5B (l:=(List.range j).map λj=>abZ (v.getD (j*r+i) 0)) (by rw [q2g]; omega) (λz hz=>by
      obtain ⟨k,_,rfl⟩:=zG.1 hz;exact qbp (q1o hv).2) (by rw [q8E]; exact hd)) (by rw [q8E]; exact hd)
     rw [show q1L ((List.range j).map λj=>abZ (v.getD (j*r+i) 0))=pnZ r j v i from q8E j] at C3;have N3:=q2J (V:=pnZ r j v i);have ll:=q2g (g:=λj=>abZ (v.getD (j*r+i) 0)) (n:=j);generalize (List.range j).map (λj=>abZ (v.getD (j*r+i) 0))=L at *;have es:=qoc (hlg i hlt);rw [<- hG] at es;have C5:=qjx qb7 λho=>q9H (A:=pnZ r j v i) (B:=G) ho.1 ho.2;generalize pnZ r j v i=x at *
     by_cases h:G < x
     .rw [qkp h] at C5;rw [show max G x=x by omega] at es;refine wk1 q2 ?_;refine ⟨i+1,ω,ω,?_⟩;rw [es];refine LeM [] rfl rfl ?_;refine Zz ?_
      first | done | omega | exact ⟨ω,rfl⟩
     .have q:=qko h;rw [show max G x=G by omega] at es;generalize (x-G).sign=s at *;refine wk1 q2 ?_;refine ⟨i+1,ω,ω,?_⟩;rw [es];refine LeM [] rfl rfl ?_;refine Zz ?_
      first | done | omega | exact ⟨ω,rfl⟩
  .obtain rfl:i=r:=ω
   have q1:¬ (i:Int) < i:=ω
   rw [<- hlen,zX];exact wk1 (x2 q1 hlen) trivial
end

def qsg {e:Int} {n:Nat} {l:List Nat} (h:qh0 e n l=0):e=0/\l.length=n/\∀ x ∈ l,q0M x:=by
 unfold qh0 at h
 split at h
 .exact absurd h (by assumption)
 .split at h
  .cases h
  .split at h
   .cases h
   .rename_i h1 h2 h3;exact ⟨Decidable.not_not.1 h1,Decidable.not_not.1 h2,Classical.not_not.1 h3⟩




def qbF {l:List Nat} (h:q1N l) (i:Nat):l.getD i 0 < 18446744073709551616/\q0M (l.getD i 0):=by
 rw [uU];cases hx:l[i]? with
 | none=>exact ⟨σ,by unfold q0M; simp⟩
 | some x=>exact h x (zE hx)

section
variable {F:Nat->Nat->Option Nat} {l:List Int} {cs:List Nat} {cols:List (List Nat)} {j n M:Nat} {p:LSt}
end
def qdG {raw:List Nat} {k:Int} {st n:Nat}:q1N (qaW raw k st n):=λx hx=>by
 unfold qaW at hx;obtain ⟨i,_,rfl⟩:=zG.1 hx;have:=qeZ (k:=st) (q3K raw (k+i));exact ⟨this.2,this.1⟩


def gaS (l:List Nat) (o:List Int) (n:Nat):List Nat:=rwG n (λk=>l.getD (o.getD k 0).toNat 0) n
def scS (x:List Nat) (o:List Int) (n:Nat):Nat->List Nat
 | 0=>List.replicate n 0
 | k+1=>(scS x o n k).set (o.getD k 0).toNat (x.getD k 0)
def q6q {x:List Nat} {o:List Int} {n:Nat}:∀ k,(scS x o n k).length=n
 | 0=>xP
 | k+1=>by rw [scS,yW,q6q k]
def qfN {l:List Nat} {o:List Int} {n:Nat}:(gaS l o n).length=n:=q9Z
def qfO {l:List Nat} {o:List Int} {n:Nat} (hl:q1N l):q1N (gaS l o n):=λx hx=>by
 unfold gaS rwG at hx;obtain ⟨j,_,rfl⟩:=zG.1 hx
 split
 .exact qbF hl _
 .exact ⟨ω,by unfold q0M; simp⟩
section
variable {l:List Nat} {o:List Int} {n:Nat}
def q9C (hl:l.length=n) (ho:o.length=n) (hn:n<=1000000) (hb:∀ x ∈ o,0<=x/\x < n):qgu 207 [pF l,pI o] h0 (.ow 5000 none 0 n) (q0Q h0 5000 ⟨32,none,(scS l o n n).map λz:Nat=>uv z,false⟩):=by
 have hJ:∀ i,¬ (h0 i≠none):=λi h=>h rfl;refine qjw qlw Tryz.func207 rfl Tryz.ntmps207 κ ?_ ?_ ?_ ?_
 .intro i b hb; cases hb
 .exact qeU
 .exact IdL.of λx hx=>by
   simp at hx
   rcases hx with rfl | rfl <;> unfold IdP <;> trivial
 have hW:WfH h0:=⟨λi b hb=>by cases hb⟩;refine wk1 ho ?_;refine q0P (λk=>k<=n) [0,1] [] Lk Lk (λk:Nat=>[(6,iv k),(5,.ow 1001 none 0 n)]) (λk=>[(1001,⟨32,none,(scS l o n k).map λz:Nat=>uv z,false⟩)]) (λ_=>h0) (λk=>n-k) 0 (zD _) ?_ ?_
 .refine LeW [(1001,some 9)] rfl rfl ?_ ?_ (by simp [q0f,q0b,win]) ?_
  .exact Ow
  .exact hW
  .rw [scS]
   try refine Zz ?_
   simp
 .intro k hk
  by_cases hlt:k < n
  .obtain ⟨x,hx⟩:∃ x,o[k]?=some x:=⟨_,zA Oq⟩;obtain ⟨h1,h2⟩:=hb x (zE hx);obtain ⟨x,rfl⟩:∃ y:Nat,x=y:=⟨x.toNat,ω⟩;obtain ⟨u,hu⟩:∃ u,l[k]?=some u:=⟨_,zA Oq⟩;have hs:scS l o n (k+1)=(scS l o n k).set x u:=by rw [scS,getD_some hx,uQ,getD_some hu]
   have hsl:=q6q (x:=l) (o:=o) (n:=n) k;refine wk1 (x4 ho hx hu hsl) ?_;refine ⟨k+1,ω,ω,?_⟩;refine LeW [] rfl rfl ?_ ?_ (by simp [q0f,q0b,win]) ?_
   .exact Ow
   .exact hW
   .try refine Zz ?_
    exact ⟨ω,hs.symm⟩
  .obtain rfl:k=n:=ω
   refine wk1 ho ?_;refine (rtM (rs:=[.tmp 4]) rfl rfl Lq ?_ (.inl rfl));refine LeO hJ ?_ clU
   try simp -implicitDefEqProofs (disch:=omega) only [go_sem,Nat.reduceEqDiff,Nat.reduceAdd,↓reduceIte]
end
section
variable {n k z:Nat} {rows:Nat->List Int} {l:List PV}
def q9m {z:Int}:q8u (qks rows) k ((rows k ++ [z]).map λV=>pV V)=qks (q4H rows k z):=by
 funext j
 unfold q8u qks q4H
 by_cases h:j=k
 .subst h; rw [if_pos rfl,if_pos rfl]
 .rw [if_neg h,if_neg h]
end
section
variable {f:Nat->Nat->Option Nat} {x:List (Nat × Nat)} {b:List Nat} {R C J:Nat} {rows:Nat->List Int}
def qfw {g:Nat->Int} (h0:g 0=0) {r:Nat}:∀ i,ctG g (tZ f J i) r=if r < i then g ((f J r).getD 0) else 0
 | 0=>by unfold ctG tZ; simp [q1x]
 | i+1=>by
  have ih:=qfw h0 (r:=r) i;unfold ctG at *;rw [tZ_s,zC];cases h:f J i with
  | none =>
   rw [x8,yX,ih]
   by_cases hr:r < i
   .rw [if_pos hr,if_pos ω]
   .rw [if_neg hr]
    by_cases h2:r=i
    .subst h2; rw [if_pos ω,h]; exact h0.symm
    .rw [if_neg ω]
  | some v =>
   rw [z8,q0j,ih];dsimp only
   by_cases h2:r=i
   .subst h2; rw [if_neg ω,if_pos rfl,if_pos ω,h]; simp
   .rw [if_neg (show ¬ i=r from λq=>h2 q.symm)]
    by_cases hr:r < i
    .rw [if_pos hr,if_pos ω]; omega
    .rw [if_neg hr,if_neg ω]; rfl
end
def tF (f:Nat->Nat->Option Nat) (R C:Nat):List (Nat × Nat):=(List.range C).flatMap λj=>tZ f j R
section
variable {f:Nat->Nat->Option Nat} {R C:Nat}
def tF_s:tF f R (C+1)=tF f R C ++ tZ f C R:=by unfold tF; rw [z7,List.flatMap_append]; simp
def tM_F:∀ C,(tM f R C).2.1=(tF f R C).map (λe=>(e.1:Int))/\(tM f R C).2.2=(tF f R C).map (·.2)
 | 0=>⟨rfl,rfl⟩
 | C+1=>by
  obtain ⟨h1,h2⟩:=tM_F C;have e:(tM f R (C+1)).2=tC f C (tM f R C).2 R:=rfl;rw [e,q9S,tF_s,zC,zC,h1,h2];exact ⟨rfl,rfl⟩
def tF_m (h:TOk f R C):∀ m,m<=C->∀ e ∈ tF f R m,(e.2 < 18446744073709551616/\q0M e.2)/\e.1 < R
 | 0,_,e,he=>by cases he
 | m+1,hm,e,he=>by
  rw [tF_s] at he
  rcases yB.1 he with he | he
  .exact tF_m h m Oq e he
  .obtain ⟨q1,q2⟩:=q35.1 (show (e.1,e.2) ∈ tZ f m R from he);exact ⟨⟨h.u m e.1 e.2 Oq q1 q2,h.v m e.1 e.2 Oq q1 q2⟩,q1⟩
def qpX {g:Nat->Int} {A B:List (Nat × Nat)} {r:Nat}:ctG g (A ++ B) r=ctG g A r+ctG g B r:=by
 unfold ctG;rw [zC];generalize (A.map λe=>if e.1=r then g e.2 else 0)=X;generalize (B.map λe=>if e.1=r then g e.2 else 0)=Y
 induction Y generalizing X with
 | nil=>rw [yX,q1x]; omega
 | cons y Y ih=>rw [show X ++ y :: Y=(X ++ [y]) ++ Y by simp,ih,q0j,q5M]; omega
def qvY {g:Nat->Int} (h0:g 0=0) {r:Nat} (hr:r < R):∀ C,ctG g (tF f R C) r=sg (λj=>g ((f j r).getD 0)) C
 | 0=>rfl
 | C+1=>by rw [tF_s,qpX,qvY h0 hr C,qfw h0,if_pos hr,sg]
def qah:RB (λ_=>[]) 0:=⟨λ_=>zO _,λ_ z hz=>by cases hz⟩
def qnz {r:Nat} (hr:r < R):q1L (psG (λv => -(abZ v)) (tF f R C) (λ_=>[]) r)=nmZ f C r:=by
 rw [q92,qvY (g:=λv => -(abZ v)) (by rw [qkA]; rfl) hr,q1x];unfold nmZ;have:∀ n,sg (λj => -(abZ ((f j r).getD 0))) n = -(sg (λj=>abZ ((f j r).getD 0)) n):=λn=>by
  induction n with
  | zero=>rfl
  | succ n ih=>rw [sg,sg,ih]; omega
 rw [this]; omega
def qj8 (h:TOk f R C) (hR:R<=20) (hC:C<=20):ACt 67 [pT R C f] (.tu [pV (grZ (nmL f R C)),iv 0]):=by
 have C1:=q6k h;obtain ⟨m1,m2,m3⟩:=q1Y (f:=f) (R:=R) C;have hCR:C*R<=20*20:=zI hC hR;obtain ⟨e1,e2⟩:=tM_F (f:=f) (R:=R) C;have hLv:=tF_m h C (zO _);have hsum:=λr (hr:r < R)=>qnz (f:=f) (C:=C) hr;have hnb:=λi hi=>qlJ h (i:=i) hi;obtain ⟨l,hll⟩:∃ l,l=nmL f R C:=⟨_,rfl⟩;have hlen:l.length=R:=by rw [hll]; exact q2g
 have hlg:∀ i,i < R->l[i]?=some (nmZ f C i):=λi hi=>by rw [hll]; exact q6u hi
 rw [<- hll];clear hll;unfold pT q26 at *;generalize tF f R C=L at *;generalize (tM f R C).1=st at *;generalize (tM f R C).2.1=ix at *;generalize (tM f R C).2.2=vl at *;subst e1 e2;rw [zN] at m3;have hB:=λt=>qah.pg (g:=λv => -(abZ v)) (L:=L.take t) λe he=>by
  rw [zS];have:=q63 (hLv e (xR he)).1.2;omega
 refine ac0 Tryz.func67 Tryz.ntmps67 [.cell 2 46,.tmp 3] ?_;refine wk ?_;refine q0z (q6h (o:=19) (N:=5000) (R:=10000) (n:=R) (T1:=87) (T2:=46) (K:=some 4) (λ_ h=>h) ?_ ω ω ω ω (xs:=[(1,.pt 1 0 0),(2,.pt 2 0 0),(5,.ow 5000 none 0 R),(21,pI (L.map λe=>(e.1:Int))),(22,iv L.length),(23,iv 0)]) (kv:=[]) (kb:=[(1,some ⟨26,some 5,[.ag [iv R,iv C,pI st,pI (L.map λe=>(e.1:Int)),pF (L.map (·.2))]],false⟩),(2,some ⟨46,some 4,[.ag [bv false,bv false,q0W,iv 0]],false⟩)]) (by simp [nmW]) ?_) ?_
 .try simp -implicitDefEqProofs (disch:=omega) only [go_sem,Nat.reduceEqDiff,Nat.reduceAdd,↓reduceIte]
 .try refine Zz ?_
  exact if_pos rfl
 rw [qdR];refine q0P (λt:Nat=>t<=L.length) [1,2,5,21,22] [1,2] Lk Lk (λt=>[(23,iv t)]) (λ_=>[]) (λt=>q5s R (psG (λv => -(abZ v)) (L.take t) (λ_=>[]))) (λt=>L.length-t) 0 (zD _) ?_ ?_
 .refine LeW [] rfl rfl ?_ ?_ (by simp [q0f,q0b,win]) ?_
  .exact Ow
  .exact wfB (q0m Oq)
  .try simp -implicitDefEqProofs (disch:=omega) only [go_sem,Nat.reduceEqDiff,Nat.reduceAdd,↓reduceIte];first | done | rfl
 .intro t ht
  by_cases hlt:t < L.length
  .obtain ⟨⟨i,v⟩,e1⟩:∃ e,L[t]?=some e:=⟨_,zA hlt⟩;obtain ⟨⟨v1,v2⟩,hin⟩:=hLv (i,v) (zE e1);dsimp only at v1 v2 hin;have C2:=q9l v1 v2;have C3:=q1c (q5a v1 v2) (qbp v2);have N3:=q2J (V:=abZ v);have hr1:(List.range R)[i]?=some i:=zB hin;have hps:psG (λv => -(abZ v)) (L.take (t+1)) (λ_=>[])=q4H (psG (λv => -(abZ v)) (L.take t) (λ_=>[])) i (abZ v):=by
    rw [qt2 e1];dsimp only;rw [Int.neg_neg]
   have hli:(psG (λv => -(abZ v)) (L.take t) (λ_=>[]) i).length<=2000:=by have:=(hB t).l i; rw [zU] at this; omega
   generalize psG (λv => -(abZ v)) (L.take t) (λ_=>[])=rs at *;refine wk1 (x2 e1 hr1) ?_;refine ⟨t+1,ω,ω,?_⟩;rw [hps];unfold q5s;rw [<- q9m];refine q6g (r:=42) (k:=i) (row:=qks rs) (λ_ h=>h) hin clV ?_ ?_ (λi h1 h2 h3 h4=>?_) (λ_ _=>clV) BOk.h0 (.inl ω) ω ω ω (by simp [nmW]) ?_
   .try simp -implicitDefEqProofs (disch:=omega) only [go_sem,Nat.reduceEqDiff,Nat.reduceAdd,↓reduceIte]
   .try refine Zz ?_
    rw [zC]
    rfl
   .rw [q0A h2,q0A h4,q0A h3,q0A (by obtain ⟨w1,w2⟩:=h1; omega),q0U h1]
   .try refine Zz ?_
    omega
  .obtain rfl:t=L.length:=ω
   have hB2:=hB L.length;rw [zX] at hB2 ⊢;have hrl:=hB2.l;have hbb:=hB2.b;generalize psG (λv => -(abZ v)) L (λ_=>[])=rows at *;have hdy:=λr=>qa5 (hbb r) (by have:=hrl r; omega);refine wk ?_;refine q0P (λr=>r<=R) [2,45,46] [2] Lk Lk (λr:Nat=>[(47,iv r),(8,.ow 1001 (some 4) 0 r)]) (λr=>[(1001,⟨46,some 4,(l.take r).map λV=>pV V,false⟩)]) (λ_=>q5s R rows) (λr=>R-r) 0 (zD _) ?_ ?_
   .refine LeW [(1001,none)] rfl rfl ?_ ?_ (by simp [q0f,q0b,win]) ?_
    .exact Ow
    .exact wfB (q0m Oq)
    .try refine Zz ?_
     first | done | rfl | exact ⟨rfl,rfl⟩
   .intro r hr;have ll:(l.take r).length=r:=by rw [zU]; omega
    by_cases hlt2:r < R
    .have q2:(r:Int) < R:=ω
     have hr1:(List.range R)[r]?=some r:=zB hlt2;have hd:=hdy r;have C2:=q1c (q5B (l:=rows r) (by have:=hrl r; omega) (λz hz=>by have:=hbb r z hz; unfold q0Y; omega) hd) hd;rw [hsum r hlt2] at C2;have N2:=q2J (V:=nmZ f C r);have es:=q1g (hlg r hlt2);have hli:=hrl r;refine wk1 (x3 q2 hr1 ll) ?_;refine ⟨r+1,ω,ω,?_⟩;rw [es];refine LeW [(1001,some 55)] rfl rfl ?_ ?_ (by simp [q0f,q0b,win]) ?_
     .exact Ow
     .exact wfB (q0m Oq)
     .try refine Zz ?_
      exact ⟨ω,q0O (by rw [zC]; rfl) clV⟩
    .obtain rfl:r=R:=ω
     have q2:¬ (r:Int) < r:=ω
     have C2:=q3s (l:=l) Oq;have N2:=q2J (V:=grZ l);rw [zK ω];exact wk1 (x2 q2 hlen) trivial
def qcu (h:TOk f R C) (hR:R<=20) (hC:C<=20):ACt 18 [pT R C f] (.tu [pV (grZ (nmL f R C)),iv 0]):=by
 have C1:=qmy h;have cA:∀ {i j:Nat},i < R->j < C->_:=λ{i j} hi hj=>qa4 (i:=i) (j:=j) h hi hj;have hfi:∀ {i j:Nat},i < R->j < C->_:=λ{i j} hi hj=>h.fin (j:=j) (i:=i) hj hi;have N1:=q2J (V:=0);have hs0:=λi=>show sg (λj=>abZ ((f j i).getD 0)) 0=0 from rfl;have hss:=λi j=>show sg (λj=>abZ ((f j i).getD 0)) (j+1)=sg (λj=>abZ ((f j i).getD 0)) j+abZ ((f j i).getD 0) from rfl;have hsb:=λi j (hi:i < R) (hj:j<=C)=>q6I (g:=λj=>abZ ((f j i).getD 0)) (K:=66560) j Oq λk hk=>q63 (h.finD Oq hi);obtain ⟨l,hll⟩:∃ l,l=nmL f R C:=⟨_,rfl⟩;have hlen:l.length=R:=by rw [hll]; exact q2g
 have hlg:∀ i,i < R->l[i]?=some (sg (λj=>abZ ((f j i).getD 0)) C):=λi hi=>by rw [hll]; exact q6u hi
 rw [<- hll];clear hll;unfold pT q26 at *;generalize (tM f R C).1=st at *;generalize (tM f R C).2.1=ix at *;generalize (tM f R C).2.2=vl at *;refine ac0 Tryz.func18 Tryz.ntmps18 [.cell 2 46,.tmp 3] ?_;refine wk ?_;refine q0B (λi=>i<=R) [1,2] [1,2] Lk Lk (λi:Nat=>[(6,iv i),(5,.ow 1001 (some 4) 0 i)]) (λi=>[(1001,⟨46,some 4,(l.take i).map λV=>pV V,false⟩)]) (λi=>R-i) 0 (zD _) ?_ ?_
 .refine LeM [(1001,none)] rfl rfl ?_;refine Zz ?_
  first | done | rfl | exact ⟨rfl,rfl⟩
 .intro i hi;have ll:(l.take i).length=i:=by rw [zU]; omega
  by_cases hlt:i < R
  .have q1:(i:Int) < R:=ω
   have h0:=hs0 i;have h1:=hss i;have h2:=λj=>hsb i j hlt;have hg:=hlg i hlt;generalize sg (λj=>abZ ((f j i).getD 0))=S at *;refine wk1 q1 ?_;refine q0B (λj=>j<=C) [1,2,5,6,7] [1,2,1001] Lk Lk (λj:Nat=>[(8,iv j)]) (λj=>[(7,⟨46,some 4,[pV (S j)],false⟩)]) (λj=>C-j) 0 (zD _) ?_ ?_
   .refine LeM [] rfl rfl ?_;refine Zz ?_
    first | exact ⟨rfl,q65 h0,q0O rfl clV⟩ | exact q65 h0 | exact ⟨rfl,q65 h0⟩ | exact ⟨q65 h0,q0O rfl clV⟩
   .intro j hj
    by_cases hlt2:j < C
    .have q2:(j:Int) < C:=ω
     have C2:=cA hlt hlt2;obtain ⟨v2,v1⟩:=hfi hlt hlt2;have es:=h1 j;have hb:=h2 (j+1) Oq;rw [es] at hb;generalize (f j i).getD 0=x at *;have C3:=q1k v1 (q0e v2);have C4:ACt 46 [pV (ofZ x)] (pV (abZ x)):=q71;have C5:=qpU (A:=S j) (B:=abZ x) (by unfold q0Y; omega);refine wk1 q2 ?_;refine ⟨j+1,ω,ω,?_⟩;rw [es];refine LeM [] rfl rfl ?_;refine Zz ?_;exact ⟨ω,q0O rfl clV⟩
    .obtain rfl:j=C:=ω
     have q2:¬ (j:Int) < j:=ω
     have es:=q1g hg;have N2:=q2J (V:=S j);refine wk1 (x2 q2 ll) ?_;refine ⟨i+1,ω,ω,?_⟩;rw [es];refine LeM [(1001,some 39)] rfl rfl ?_;refine Zz ?_;exact ⟨ω,q0O (by rw [zC]; rfl) clV⟩
  .obtain rfl:i=R:=ω
   have q1:¬ (i:Int) < i:=ω
   have C2:=qcv (l:=l) Oq;have N2:=q2J (V:=grZ l);rw [zK ω];exact wk1 (x2 q1 hlen) trivial
end
def qdP {n:Nat} {a b:Nat->List Int} (h:∀ r,r < n->a r=b r):q5s n a=q5s n b:=by
 funext i
 unfold q5s q1X qks
 split
 .congr 2
  exact yC λj hj=>by rw [h j (zV.1 hj)]
 .split
  .rw [h _ ω]
  .rfl
def qtt {x y:Nat}:q1M x y=q1M y x:=by unfold q1M; rw [x9]
def q8N {x:Nat}:q1M x 0=0:=by rw [qtt,q8O]
open Classical in
noncomputable def btC (R C r c:Nat) (v:List Nat):Int:=if R≠C then 5 else if chP r c v≠0 then chP r c v else if r≠R\/c≠C then 5 else 0
noncomputable def btA (R C:Nat) (F:Nat->Nat->Option Nat) (r c:Nat) (v:List Nat):List Int × Int:=if btC R C r c v≠0 then ([],btC R C r c v) else (btL R v F,0)
section
variable {F:Nat->Nat->Option Nat} {n R C r c:Nat} {v:List Nat}
def btR (n:Nat) (v:List Nat) (F:Nat->Nat->Option Nat) (i J:Nat):Nat->List Int:=λr=>(List.range (if r < i then J+1 else J)).map λj=>((btE n v F r j).natAbs:Int)
def btR_0:btR n v F 0 0=λ_=>[]:=by
 funext r
 unfold btR;rw [if_neg ω]
 rfl
def btR_s {i J:Nat}:btR n v F (i+1) J=q4H (btR n v F i J) i ((btE n v F i J).natAbs:Int):=by
 funext r
 unfold btR q4H;dsimp only
 by_cases h:r=i
 .subst h;rw [if_pos rfl,if_pos ω,if_neg ω,z7,zC]
  rfl
 .rw [if_neg h]
  by_cases h2:r < i
  .rw [if_pos ω,if_pos h2]
  .rw [if_neg ω,if_neg h2]
def btR_n {J:Nat}:q5s n (btR n v F n J)=q5s n (btR n v F 0 (J+1)):=qdP λr hr=>by
 unfold btR;rw [if_pos hr,if_neg ω]
def qgM {i J r:Nat}:(btR n v F i J r).length<=J+1:=by
 unfold btR;rw [zN,z9]
 split <;> omega
def qpj {i:Nat}:q1L (btR n v F 0 n i)=btZ n v F i:=by
 unfold btR;rw [if_neg ω,q8E]
 rfl
def btT (n:Nat) (v:List Nat) (i:Nat) (e:Nat × Nat):Int := -(q1M (v.getD (e.1*n+i) 0) e.2)
def btO (i j:Nat):List Int:=if i=j then [q0s] else []
def qaA {i j:Nat}:∀ m,q1L ((tZ F j m).map (btT n v i)) = -(sg (btD n v F i j) m)
 | 0=>rfl
 | m+1=>by
  rw [tZ_s,zC,sg];cases h:F j m with
  | none =>
   rw [x8,yX,qaA m];have:btD n v F i j m=0:=by unfold btD; rw [h]; exact q8N
   omega
  | some x =>
   rw [z8,q0j,qaA m];have:btD n v F i j m=q1M (v.getD (m*n+i) 0) x:=by unfold btD; rw [h]; rfl
   unfold btT;dsimp only;omega
def qhV (A:List Int):∀ B:List Int,q1L (A ++ B)=q1L A+q1L B:=λB=>by
 induction B generalizing A with
 | nil=>rw [yX,q1x]; omega
 | cons y Y ih=>rw [show A ++ y :: Y=(A ++ [y]) ++ Y by simp,ih,q0j,q5M]; omega
def qpl {i j:Nat}:q1L (btO i j ++ (tZ F j n).map (btT n v i))=btE n v F i j:=by
 rw [qhV,qaA];unfold btO btE
 split
 .rw [q4i]; omega
 .rw [q1x]; omega
def qwH {i j:Nat}:∀ z ∈ btO i j,bl z.natAbs<=67600:=λz hz=>by
 unfold btO at hz
 split at hz
 .simp at hz; subst hz; have:=q4P; omega
 .cases hz
def qpk {i j:Nat}:(btO i j).length<=1:=by unfold btO; split <;> simp
def qwG (hv:q1N v) {i:Nat} {L:List (Nat × Nat)} (hL:∀ e ∈ L,q0M e.2):∀ z ∈ L.map (btT n v i),bl z.natAbs<=67600:=λz hz=>by
 obtain ⟨e,he,rfl⟩:=zG.1 hz;unfold btT;rw [zS];exact (q1d (q1o hv).2 (hL e he)).2
def qpO (h:TOk F R C) (hr:r<=64) (hc:c<=64) (hn:v.length<=1000000) (hv:∀ x ∈ v,x < 18446744073709551616):ACt 125 [pT R C F,pPn r c v] (iv (btC R C r c v)):=by
 have C1:=q6k h;have C2:=qbZ hr hc hn hv;unfold btC;unfold pT q26 pPn at *;generalize chP r c v=e at *
 by_cases h1:R=C
 rotate_left
 .rw [if_pos h1];have q1:((R:Int) != (C:Int))=true:=by simp; omega
  refine ac0 Tryz.func125 Tryz.ntmps125 [.tmp 4] ?_;exact wk1 q1 trivial
 have q1:((R:Int) != (C:Int))=false:=by simp; omega
 rw [if_neg (not_not_intro h1)]
 by_cases h2:e=0
 rotate_left
 .rw [if_pos h2];have q2:(e != 0)=true:=by simpa using h2
  refine ac0 Tryz.func125 Tryz.ntmps125 [.tmp 4] ?_;exact wk1 (x2 q1 q2) trivial
 subst h2;rw [if_neg (not_not_intro rfl)]
 by_cases h3:r=R
 rotate_left
 .rw [if_pos (.inl h3)];have q3:((r:Int) != (R:Int))=true:=by simp; omega
  refine ac0 Tryz.func125 Tryz.ntmps125 [.tmp 4] ?_;exact wk1 (x2 q1 q3) trivial
 have q3:((r:Int) != (R:Int))=false:=by simp; omega
 by_cases h4:c=C
 .have q4:((c:Int) != (C:Int))=false:=by simp; omega
  rw [if_neg ω];refine ac0 Tryz.func125 Tryz.ntmps125 [.tmp 4] ?_;exact wk1 (x3 q1 q3 q4) trivial
 .have q4:((c:Int) != (C:Int))=true:=by simp; omega
  rw [if_pos (.inr h4)];refine ac0 Tryz.func125 Tryz.ntmps125 [.tmp 4] ?_;exact wk1 (x3 q1 q3 q4) trivial
def qfi (h:TOk F n n) (hn:n<=20) (hl:v.length=n*n) (hv:q1N v):ACt 126 [pT n n F,pPn n n v] (pVs (btL n v F)):=by
 have hml:=q1Y (f:=F) (R:=n) n;have hg:=λj hj=>q25 (f:=F) (R:=n) (C:=n) (j:=j) hj;have hix:=λj k hj h1 h2=>q9R (f:=F) (R:=n) (C:=n) (j:=j) (k:=k) hj h1 h2;have hos:=λj=>qkX (f:=F) (R:=n) (j:=j);have hpi:=λi j hi hj=>qt8 (i:=i) (j:=j) (show n<=64 by omega) (show n<=64 by omega) hl hi hj;obtain ⟨o,ho⟩:∃ o,o=tO F n:=⟨_,rfl⟩;have hRC:=h.m;have hfin:rwP n (λr=>pV (btZ n v F r)) n=(btL n v F).map λV=>pV V:=by
  unfold rwP btL;rw [x7];exact yC λi hi=>by rw [if_pos (zV.1 hi)]; rfl
 have hZb:=λi=>qmD h hv (i:=i);unfold pVs;rw [<- hfin];unfold pT pPn;rw [<- ho] at hg hix hos;generalize (tM F n n).1=st at *;generalize (tM F n n).2.1=ix at *;generalize (tM F n n).2.2=vl at *;obtain ⟨m1,m2,m3⟩:=hml;unfold q26;refine ac0 Tryz.func126 Tryz.ntmps126 [.tmp 4] ?_;refine wk ?_;refine q0z (q6h (o:=16) (N:=5000) (R:=10000) (n:=n) (T1:=87) (T2:=46) (K:=some 4) (λ_ h=>h) ?_ ω ω ω ω (xs:=[(2,.pt 2 0 0),(3,.pt 3 0 0),(5,.ow 5000 none 0 n),(18,iv n),(19,iv 0)]) (kv:=[]) (kb:=[(2,some ⟨26,some 5,[.ag [iv n,iv n,pI st,pI ix,pF vl]],false⟩),(3,some ⟨28,some 3,[.ag [iv n,iv n,pF v]],false⟩)]) (by simp [nmW]) ?_) ?_
 .try simp -implicitDefEqProofs (disch:=omega) only [go_sem,Nat.reduceEqDiff,Nat.reduceAdd,↓reduceIte]
 .try refine Zz ?_
  exact if_pos rfl
 rw [qdR];have e0:q1X 87 46 (some 4) 5000 10000 n (λ_=>[]) h0=q5s n (btR n v F 0 0):=by rw [btR_0]; rfl
 rw [e0];refine q0P (λJ:Nat=>J<=n) [2,3,5,18] [2,3] Lk Lk (λJ=>[(19,iv J)]) (λ_=>[]) (λJ=>q5s n (btR n v F 0 J)) (λJ=>n-J) 0 (zD _) ?_ ?_
 .refine LeW [] rfl rfl ?_ ?_ (by simp [q0f,q0b,win]) ?_
  .exact Ow
  .exact wfB (q0m Oq)
  .try simp -implicitDefEqProofs (disch:=omega) only [go_sem,Nat.reduceEqDiff,Nat.reduceAdd,↓reduceIte];first | done | rfl
 .intro J hJ
  by_cases hlt:J < n
  .have hlt':(J:Int) < n:=ω
   have g1:=hg J Oq;have g2:=hg (J+1) Oq;have oJ:=hos J;have ww:IntKind.i64.wrap ((J:Int)+1)=((J+1:Nat):Int):=by rw [i64_in ω ω]; omega
   have hZ:=λk x=>q35 (f:=F) (j:=J) (i:=n) (k:=k) (x:=x);have hEs:=λi=>qpl (F:=F) (n:=n) (v:=v) (i:=i) (j:=J);have hEb:=λi=>qgN h hv (i:=i) hlt;obtain ⟨L,hL⟩:∃ L,L=tZ F J n:=⟨_,rfl⟩;have hLn:L.length<=n:=by rw [hL]; unfold tZ; exact zP (xF _ _) σ
   have hixJ:=hix J;rw [<- hL] at oJ hZ hixJ hEs;clear hL;have hLv:∀ e ∈ L,(e.2 < 18446744073709551616/\q0M e.2)/\e.1 < n:=λe he=>by
    obtain ⟨q1,q2⟩:=(hZ e.1 e.2).1 he;exact ⟨⟨h.u J e.1 e.2 hlt q1 q2,h.v J e.1 e.2 hlt q1 q2⟩,q1⟩
   have hTb:=λi=>qwG (n:=n) (i:=i) hv (L:=L) λe he=>(hLv e he).1.2;refine wk1 (x2 hlt' g1) ?_;refine q0P (λi:Nat=>i<=n) [2,3,5,6,18,19,23] [2,3] Lk Lk (λi=>[(24,iv i)]) (λ_=>[]) (λi=>q5s n (btR n v F i J)) (λi=>n-i) 0 (zD _) ?_ ?_
   .refine LeW [] rfl rfl ?_ ?_ (by simp [q0f,q0b,win]) ?_
    .exact Ow
    .exact wfB (q0m Oq)
    .try simp -implicitDefEqProofs (disch:=omega) only [go_sem,Nat.reduceEqDiff,Nat.reduceAdd,↓reduceIte];first | done | rfl
   .intro i hi
    by_cases hlti:i < n
    .have hli':(i:Int) < n:=ω
     have hTbi:=hTb i;have hEsi:=hEs i;have hEbi:=hEb i;have hpsh:=btR_s (n:=n) (v:=v) (F:=F) (i:=i) (J:=J);have hrl:=qgM (n:=n) (v:=v) (F:=F) (i:=i) (J:=J) (r:=i);have hpj:=λj hj=>hpi i j hlti hj;have hO1:=qwH (i:=i) (j:=J);have hO2:=qpk (i:=i) (j:=J);have hOe:=show btO i J=if i=J then [q0s] else [] from rfl
     have hTe:=λe=>show btT n v i e = -(q1M (v.getD (e.1*n+i) 0) e.2) from rfl;generalize btE n v F i J=E at *;generalize btR n v F i J=rows at *;generalize btO i J=z at *;generalize btT n v i=T at *;have hdy:q0Y E:=by unfold q0Y; omega
     refine wk1 hli' ?_;refine qqr λK hK=>?_;have fin:∀ (s:Nat->PV) (h:Hp),Le (λ_=>False) s h (stM [(2,.pt 2 0 0),(3,.pt 3 0 0),(5,.ow 5000 none 0 n),(6,iv J),(7,iv i),(8,.ow 1003 (some 4) 0 z.length),(18,iv n),(19,iv J),(23,iv n),(24,iv i)] []) (q0u (q5s n rows) (hpM [(2,⟨26,some 5,[.ag [iv n,iv n,pI st,pI ix,pF vl]],false⟩),(3,⟨28,some 3,[.ag [iv n,iv n,pF v]],false⟩),(1003,⟨46,some 4,z.map λV=>pV V,false⟩)] []))->K s h:=by
      intro s h hl;refine hK _ _ (q0z hl ?_); clear hK K hl;refine wk1 g1 ?_;refine q0P (λt:Nat=>t<=L.length) [2,3,5,6,7,18,19,23,24] [2,3] Lk Lk (λt=>[(9,iv ((o J+t:Nat):Int)),(8,.ow 1001 (some 4) 0 (z.length+t))]) (λt=>[(1001,⟨46,some 4,(z ++ (L.take t).map T).map λV=>pV V,false⟩)]) (λ_=>q5s n rows) (λt=>L.length-t) 0 (zD _) ?_ ?_
      .refine LeW [(1001,some 1003)] rfl rfl ?_ ?_ (by simp [q0f,q0b,win]) ?_
       .exact Ow
       .exact wfB (q0m Oq)
       .try refine Zz ?_
        exact q0O rfl clV
      .intro t ht;have htl:(z ++ (L.take t).map T).length=z.length+t:=by rw [yG,zN,zU]; omega
       by_cases hlt2:t < L.length
       .obtain ⟨⟨k,x⟩,e1,e2,e3⟩:=hixJ (o J+t) Oq Oq Oq;rw [xG] at e1;dsimp only at e2 e3;obtain ⟨⟨v1,v2⟩,hin⟩:=hLv (k,x) (zE e1);dsimp only at v1 v2 hin;have hq:((o J+t:Nat):Int) < ((o (J+1):Nat):Int):=ω
        obtain ⟨w1,w2,y,hy⟩:=hpj k hin;obtain ⟨y1,y2⟩:=hv y (zE hy);have C1:=q88 v1 (q0e v2);have C2:=q88 y1 (q0e y2);have M:=q1d y2 v2;have C3:=q9G (q5X y2) (q5X v2) M.1;have hmd:=(q50 M.1).2.2.2;have C4:=q1c (qcz hmd) (by unfold q0Y at *; rw [zS]; exact hmd);have N4:=q2J (V := -(q1M y x));have hob:=(zR.1 e2).1;have wt:IntKind.i64.wrap (((o J+t:Nat):Int)+1)=((o J+(t+1):Nat):Int):=by rw [i64_in ω ω]; omega
        have es:z ++ (L.take (t+1)).map T=z ++ (L.take t).map T ++ [-(q1M y x)]:=by
         rw [q1g e1,zC,<- List.append_assoc,z8,hTe];dsimp only;rw [getD_some hy]
        generalize z ++ (L.take t).map T=P at *;generalize k*n=kn at *;refine wk1 (x6 g2 ww hq e2 e3 (x5 w1 w2 hy wt htl)) ?_;refine ⟨t+1,ω,ω,?_⟩;rw [es];refine LeW [(1001,some 75)] rfl rfl ?_ ?_ (by simp [q0f,q0b,win]) ?_
        .exact Ow
        .exact wfB (q0m Oq)
        .try refine Zz ?_
         exact ⟨ω,q0O (by rw [zC]; rfl) clV⟩
       .obtain rfl:t=L.length:=ω
        have hq:¬ ((o J+L.length:Nat):Int) < ((o (J+1):Nat):Int):=ω
        rw [zX] at htl ⊢;have hPb:∀ y ∈ z ++ L.map T,q0Y y:=λy hy=>by
         rcases yB.1 hy with hy | hy
         .have:=hO1 y hy; unfold q0Y; omega
         .have:=hTbi y hy; unfold q0Y; omega
        generalize z ++ L.map T=P at *;have C1:=q1c (q5B (l:=P) ω hPb (by rw [hEsi]; exact hdy)) (by rw [hEsi]; exact hdy);rw [hEsi] at C1;have C2:=q1c (qjy qgJ λho=>qdD (A:=E) ho) (qle hdy);have N2:=q2J (V:=(E.natAbs:Int));have N1:=q2J (V:=E);have hr1:(List.range n)[i]?=some i:=zB hlti;refine wk1 (x5 g2 ww hq htl hr1) ?_;refine ⟨i+1,ω,ω,?_⟩;rw [hpsh];unfold q5s;rw [<- q9m];refine q6g (r:=86) (k:=i) (row:=qks rows) (λ_ h=>h) hlti clV ?_ ?_ (λi h1 h2 h3 h4=>?_) (λ_ _=>clV) BOk.h0 (.inl ω) ω ω ω (by simp [nmW]) ?_
        .try simp -implicitDefEqProofs (disch:=omega) only [go_sem,Nat.reduceEqDiff,Nat.reduceAdd,↓reduceIte]
        .try refine Zz ?_
         rw [zC]
         rfl
        .rw [q0A h2,q0A h4,q0A h3,q0A (by obtain ⟨w1,w2⟩:=h1; omega),q0U h1]
        .try refine Zz ?_
         omega
     by_cases hij:i=J
     .have q3:((i:Int) == (J:Int))=true:=by simp; omega
      rw [if_pos hij] at hOe;subst hOe;have C1:=q1c q9E (by have:=q4P; unfold q0Y; omega);have N1:=q2J (V:=q0s);refine wk1 q3 ?_;refine fin _ _ ?_;refine LeW [(1003,some 33)] rfl rfl ?_ ?_ (by simp [q0f,q0b,win]) ?_
      .exact Ow
      .exact wfB (q0m Oq)
      .try simp -implicitDefEqProofs (disch:=omega) only [go_sem,Nat.reduceEqDiff,Nat.reduceAdd,↓reduceIte]
     .have q3:((i:Int) == (J:Int))=false:=by simp; omega
      rw [if_neg hij] at hOe;subst hOe;refine wk1 q3 ?_;refine fin _ _ ?_;refine LeW [(1003,none)] rfl rfl ?_ ?_ (by simp [q0f,q0b,win]) ?_
      .exact Ow
      .exact wfB (q0m Oq)
      .try simp -implicitDefEqProofs (disch:=omega) only [go_sem,Nat.reduceEqDiff,Nat.reduceAdd,↓reduceIte]
    .obtain rfl:i=n:=ω
     have hli':¬ (i:Int) < i:=ω
     refine wk1 (x2 hli' ww) ?_;refine ⟨J+1,ω,ω,?_⟩;rw [<- btR_n];refine LeW [] rfl rfl ?_ ?_ (by simp [q0f,q0b,win]) ?_
     .exact Ow
     .exact wfB (q0m Oq)
     .try simp -implicitDefEqProofs (disch:=omega) only [go_sem,Nat.reduceEqDiff,Nat.reduceAdd,↓reduceIte]
      first | done | omega
  .obtain rfl:J=n:=ω
   have hlt':¬ (J:Int) < J:=ω
   have hrs:=λi=>qpj (n:=J) (v:=v) (F:=F) (i:=i);have hrl:=λi=>qgM (n:=J) (v:=v) (F:=F) (i:=0) (J:=J) (r:=i);have hrb:∀ i,i < J->∀ z ∈ btR J v F 0 J i,q0Y z:=λi _ z hz=>by
    unfold btR at hz;rw [if_neg ω] at hz;obtain ⟨j,hj,rfl⟩:=zG.1 hz;have:=qgN h hv (i:=i) (zV.1 hj);unfold q0Y;rw [zF];omega
   generalize btR J v F 0 J=rows at *;have hwl:=λm=>q9Y (n:=J) (g:=λr=>pV (btZ J v F r)) (m:=m);have hws:=λm=>qsu (n:=J) (g:=λr=>pV (btZ J v F r)) (m:=m);have hwc:=λm=>q1i (n:=J) (g:=λr=>pV (btZ J v F r)) (m:=m) λc=>trivial;clear hfin hg hix hos;refine wk1 hlt' ?_;refine q0P (λr=>r<=J) [93,94] [] Lk Lk (λr:Nat=>[(95,iv r),(11,.ow 1001 (some 4) 0 J)]) (λr=>[(1001,⟨46,some 4,rwP J (λr=>pV (btZ J v F r)) r,false⟩)]) (λ_=>q5s J rows) (λr=>J-r) 0 (zD _) ?_ ?_
   .refine LeW [(1001,some 92)] rfl rfl ?_ ?_ (by simp [q0f,q0b,win]) ?_
    .exact Ow
    .exact wfB (q0m Oq)
    .try refine Zz ?_
     exact ⟨rfl,qgg σ⟩
   .intro r hr
    by_cases hlt2:r < J
    .have q2:(r:Int) < J:=ω
     have hr1:(List.range J)[r]?=some r:=zB hlt2;have hd:q0Y (btZ J v F r):=by have:=hZb r; unfold q0Y; omega
     have C2:=q1c (q5B (l:=rows r) (by have:=hrl r; omega) (λz hz=>hrb r hlt2 z hz) (by rw [hrs r]; exact hd)) (by rw [hrs r]; exact hd);rw [hrs r] at C2;have N2:=q2J (V:=btZ J v F r);have hli:=hrl r;have e1:=hws r;have e2:=hwl r;have e3:=hwc r;generalize rwP J (λr=>pV (btZ J v F r)) r=W at *;refine wk1 (x3 q2 hr1 e2) ?_;refine ⟨r+1,ω,ω,?_⟩;rw [<- e1];refine LeW [] rfl rfl ?_ ?_ (by simp [q0f,q0b,win]) ?_
     .exact Ow
     .exact wfB (q0m Oq)
     .try refine Zz ?_
      exact ⟨ω,q0O rfl (q5n e3 trivial)⟩
    .obtain rfl:r=J:=ω
     have q2:¬ (r:Int) < r:=ω
     refine wk1 (x3 q2 (hwl r) (hwc r)) ?_;exact zK (Nat.le_of_eq (hwl r))
end
section
variable {F:Nat->Nat->Option Nat} {n R C r c:Nat} {v:List Nat}
end
def qqb {f:FuncId} {V U:Int} {x r:PV} (hc:q0G Tryz.prog f=true) (ha:q0Y V/\q0Y U->ACt f [dT V,dT U,x] r):ACt f [pV V,pV U,x] r:=q62 hc (λD w vs hR=>by
 obtain ⟨a,b,c,rfl,h1,h2,h3⟩:=rd_3 hR;obtain ⟨h4,h5⟩:=q2h.2 (q8y h1);obtain ⟨h6,h7⟩:=q2h.2 (q8y h2);refine ⟨?_,h5,h7⟩;unfold RdL;refine ⟨_,_,rfl,h4,?_⟩;unfold RdL;exact ⟨_,_,rfl,h6,RdL.one h3⟩) ha
def bnI (P B:Int):Nat × Nat × Bool:=if q0s<=B then (0,0,false) else (fQ 1 P (q0s+B),fQ 2 P (q0s-B),true)
noncomputable def bnA (R C:Nat) (F:Nat->Nat->Option Nat) (r c:Nat) (v:List Nat) (f:Int):Nat × Nat × Bool × Int :=
 if btC R C r c v≠0 then (0,0,false,btC R C r c v) else ((bnI (prZ (grZ (pnL r c v)) f) (grZ (btL R v F))).1,(bnI (prZ (grZ (pnL r c v)) f) (grZ (btL R v F))).2.1,(bnI (prZ (grZ (pnL r c v)) f) (grZ (btL R v F))).2.2,0)
abbrev pBn (q:Nat × Nat × Bool × Int):PV:=.tu [.ag [uv q.1,uv q.2.1],bv q.2.2.1,iv q.2.2.2]
section
variable {F:Nat->Nat->Option Nat} {n R C r c:Nat} {v:List Nat} {f P:Int}
def qgO (h:btC R C r c v=0):R=C/\r=R/\c=C/\chP r c v=0:=by
 unfold btC at h
 split at h
 .cases h
 .rename_i h1
  split at h
  .rename_i h2; exact absurd h h2
  .rename_i h2
   split at h
   .cases h
   .rename_i h3; exact ⟨ω,ω,ω,Classical.not_not.1 h2⟩
def q7X (h:TOk F R C) (hR:R<=20) (hC:C<=20) (hr:r<=64) (hc:c<=64) (hn:v.length<=1000000) (hv:∀ x ∈ v,x < 18446744073709551616):ACt 64 [pT R C F,pPn r c v] (.tu [pVs (btA R C F r c v).1,iv (btA R C F r c v).2]):=by
 have C1:=qpO h hr hc hn hv;have key:=λ(q:btC R C r c v=0)=>qgO q;have C2:btC R C r c v=0->ACt 126 [pT R C F,pPn r c v] (pVs (btL R v F)):=λq=>by
  obtain ⟨rfl,rfl,rfl,h4⟩:=qgO q;obtain ⟨h5,h6⟩:=qpe h4 hv;exact qfi h hR h5 h6
 unfold btA;unfold pT q26 pPn at *;generalize btC R C r c v=e at *;generalize (tM F R C).1=st at *;generalize (tM F R C).2.1=ix at *;generalize (tM F R C).2.2=vl at *
 by_cases h1:e=0
 .have C3:=C2 h1;subst h1;rw [if_neg (show ¬ (0:Int)≠0 by decide)];dsimp only;generalize btL R v F=l at *;clear C2 key;refine ac0 Tryz.func64 Tryz.ntmps64 [.tmp 4,.tmp 5] ?_;exact wk trivial
 .rw [if_pos h1];have q:(e != 0)=true:=by simpa using h1
  refine ac0 Tryz.func64 Tryz.ntmps64 [.tmp 4,.tmp 5] ?_;exact wk1 q trivial
def q60 (h:TOk F n n) (hn:n<=20) (hl:v.length=n*n) (hv:q1N v) (hm:mkV (grZ (pnL n n v)*f) (-131072)=some P):ACt 65 [pT n n F,pPn n n v,pV f] (.tu [.ag [uv (bnI P (grZ (btL n v F))).1,uv (bnI P (grZ (btL n v F))).2.1],bv (bnI P (grZ (btL n v F))).2.2]):=by
 have hm2:n*n<=20*20:=zI hn hn;have hch:chP n n v=0:=by unfold chP; rw [if_neg (not_not_intro hl),if_pos λx hx=>(hv x hx).2]
 have C1:=q7X (r:=n) (c:=n) (v:=v) h hn hn Oq Oq Oq λx hx=>(hv x hx).1;have hbt:btA n n F n n v=(btL n v F,0):=by
  unfold btA btC;rw [if_neg (not_not_intro rfl),if_neg (not_not_intro hch),if_neg (show ¬ (n≠n\/n≠n) by omega),if_neg (show ¬ (0:Int)≠0 by decide)]
 rw [hbt] at C1;dsimp only at C1;have C2:=q3s (l:=btL n v F) (by unfold btL; rw [q2g]; omega);have C5:=qj3 (r:=n) (c:=n) Oq Oq hl hv;have C6:=q1c (qjx qmB λho=>q9G ho.1 ho.2 hm) (q50 hm).2.2.2;have hB:=q42 (qwI h hv);have hB0:=q41 (l:=btL n v F);have hO:=q4P;have hO0:0 < q0s:=by rw [q6Q]; exact q0N _
 generalize grZ (pnL n n v)=N at *;generalize grZ (btL n v F)=B at *;generalize btL n v F=l at *;have C3:=q1c q9E (by unfold q0Y; omega);have C4:=qjx qb7 λho=>q9H (A:=B) (B:=q0s) ho.1 ho.2;have d1:q0Y (q0s+B):=by have:=qaE (a:=q0s) (b:=B) (k:=67607) Oq hB; unfold q0Y; omega
 have d2:q0Y (q0s-B):=by have:=qgW (a:=q0s) (b:=B) (k:=67607) Oq hB; unfold q0Y; omega
 have C7:=q1c (qjx qlz λho=>qdC (A:=q0s) (B:=B) ho.1 ho.2 d1) d1;have C8:=q1c (qjx qmC λho=>qm6 (A:=q0s) (B:=B) ho.1 ho.2 d2) d2;have C9:=qqb (x:=iv 1) qb6 λho=>q7V (mode:=1) (a:=P) (b:=q0s+B) Oq ho.1 ho.2 Oq;have N1:=q2J (V:=q0s);have N2:=q2J (V:=B);have N3:=q2J (V:=P);have N4:=q2J (V:=N);have N5:=q2J (V:=q0s+B);have N6:=q2J (V:=q0s-B);unfold bnI;unfold pT q26 pPn at *
 by_cases h1:q0s<=B
 .rw [if_pos h1];have q:(B-q0s).sign ≥ 0:=by
   rcases xA h1 with h1 | h1
   .rw [uP ω]; omega
   .rw [show B-q0s=0 by omega]; decide
  dsimp only;generalize (B-q0s).sign=s at *;refine ac0 Tryz.func65 Tryz.ntmps65 [.cell 6 34,.tmp 7] ?_;refine wk ?_
  rfl
 .rw [if_neg h1];have C10:=qqb (x:=iv 2) qb6 λho=>q7V (mode:=2) (a:=P) (b:=q0s-B) Oq ho.1 ho.2 Oq;rw [zY (show B-q0s < 0 by omega)] at C4;dsimp only;generalize fQ 1 P (q0s+B)=x at *;generalize fQ 2 P (q0s-B)=y at *;refine ac0 Tryz.func65 Tryz.ntmps65 [.cell 6 34,.tmp 7] ?_;exact wk trivial
def qph (h:TOk F R C) (hR:R<=20) (hC:C<=20) (hr:r<=64) (hc:c<=64) (hn:v.length<=1000000) (hv:∀ x ∈ v,x < 18446744073709551616):ACt 14 [pT R C F,pPn r c v] (pBn (bnA R C F r c v q0s)):=by
 have C1:=q7X h hR hC hr hc hn hv;have C2:=q1c q9E (by have:=q4P; unfold q0Y; omega);have C3:btC R C r c v=0->ACt 65 [pT R C F,pPn r c v,pV q0s] (.tu [.ag [uv (bnI (prZ (grZ (pnL r c v)) q0s) (grZ (btL R v F))).1,uv (bnI (prZ (grZ (pnL r c v)) q0s) (grZ (btL R v F))).2.1],bv (bnI (prZ (grZ (pnL r c v)) q0s) (grZ (btL R v F))).2.2]):=λq=>by
  obtain ⟨h5,h6⟩:=qpe (qgO q).2.2.2 hv;have hb:=q42 (qeS (r:=r) (c:=c) h6 Oq);have e1:=mul_one (a:=grZ (pnL r c v)) (by unfold q0Y; omega);have e2:prZ (grZ (pnL r c v)) q0s=grZ (pnL r c v):=by unfold prZ; rw [e1]; rfl
  rw [e2];obtain ⟨rfl,rfl,rfl,_⟩:=qgO q;exact q60 h hR h5 h6 e1
 unfold btA at C1;unfold bnA;unfold pT q26 pPn at *;generalize btC R C r c v=e at *;generalize bnI (prZ (grZ (pnL r c v)) q0s) (grZ (btL R v F))=q at *;generalize btL R v F=l at *;generalize (tM F R C).1=st at *;generalize (tM F R C).2.1=ix at *;generalize (tM F R C).2.2=vl at *
 by_cases h1:e=0
 .have C4:=C3 h1;subst h1;rw [if_neg (show ¬ (0:Int)≠0 by decide)] at C1 ⊢;dsimp only at C1 ⊢;have N1:=q2J (V:=q0s);refine ac0 Tryz.func14 Tryz.ntmps14 [.cell 4 34,.tmp 5,.tmp 6] ?_;exact wk trivial
 .rw [if_pos h1] at C1 ⊢;have q:(e != 0)=true:=by simpa using h1
  clear C3;refine ac0 Tryz.func14 Tryz.ntmps14 [.cell 4 34,.tmp 5,.tmp 6] ?_;refine wk1 q ?_
  rfl
def qb8 (h:TOk F R C) (hR:R<=20) (hC:C<=20) (hr:r<=64) (hc:c<=64) (hn:v.length<=1000000) (hv:∀ x ∈ v,x < 18446744073709551616):ACt 15 [pT R C F,pPn r c v] (pBn (bnA R C F r c v (grZ (nmL F R C)))):=by
 have C1:=q7X h hR hC hr hc hn hv;have C2:=qj8 h hR hC;have C3:btC R C r c v=0->ACt 65 [pT R C F,pPn r c v,pV (grZ (nmL F R C))] (.tu [.ag [uv (bnI (prZ (grZ (pnL r c v)) (grZ (nmL F R C))) (grZ (btL R v F))).1,uv (bnI (prZ (grZ (pnL r c v)) (grZ (nmL F R C))) (grZ (btL R v F))).2.1],bv (bnI (prZ (grZ (pnL r c v)) (grZ (nmL F R C))) (grZ (btL R v F))).2.2]):=λq=>by
  obtain ⟨rfl,rfl,rfl,h4⟩:=qgO q;obtain ⟨h5,h6⟩:=qpe h4 hv;exact q60 h hR h5 h6 (qlA (qlC h6) (qlI h) (q42 (qeS h6 Oq)) (q42 (qlK h))).1
 unfold btA at C1;unfold bnA;unfold pT q26 pPn at *;generalize btC R C r c v=e at *;generalize bnI (prZ (grZ (pnL r c v)) (grZ (nmL F R C))) (grZ (btL R v F))=q at *;generalize btL R v F=l at *;generalize grZ (nmL F R C)=M at *;generalize (tM F R C).1=st at *;generalize (tM F R C).2.1=ix at *;generalize (tM F R C).2.2=vl at *
 by_cases h1:e=0
 .have C4:=C3 h1;subst h1;rw [if_neg (show ¬ (0:Int)≠0 by decide)] at C1 ⊢;dsimp only at C1 ⊢;have N1:=q2J (V:=M);refine ac0 Tryz.func15 Tryz.ntmps15 [.cell 4 34,.tmp 5,.tmp 6] ?_;exact wk trivial
 .rw [if_pos h1] at C1 ⊢;have q:(e != 0)=true:=by simpa using h1
  clear C3;refine ac0 Tryz.func15 Tryz.ntmps15 [.cell 4 34,.tmp 5,.tmp 6] ?_;refine wk1 q ?_
  rfl
end
def imE (f:Nat->Nat->Option Nat) (y:List Nat) (r j:Nat):Int:=q1M ((f j r).getD 0) (y.getD j 0)
def imZ (f:Nat->Nat->Option Nat) (y:List Nat) (C r:Nat):Int:=((sg (imE f y r) C).natAbs:Int)
def imL (f:Nat->Nat->Option Nat) (y:List Nat) (C R:Nat):List Int:=(List.range R).map (imZ f y C)
def lwV (f:Nat->Nat->Option Nat) (R C:Nat) (y:List Nat):Nat:=if grZ (y.map abZ)=0 then 0 else if grZ (imL f y C R)=0 then 9218868437227405312 else fQ 1 (grZ (y.map abZ)) (grZ (imL f y C R))
def qnX {a:Int}:(a.sign == 0)=decide (a=0):=by
 by_cases h:a=0
 .rw [h]; rfl
 .rw [decide_eq_false h,beq_eq_false_iff_ne];exact λq=>h (yL.1 q)
section
variable {f:Nat->Nat->Option Nat} {y:List Nat} {R C J:Nat} {rows:Nat->List Int}
def LwI (f:Nat->Nat->Option Nat) (y:List Nat) (R J:Nat) (rows:Nat->List Int):Prop:=∀ r,r < R->q1L (rows r)=sg (imE f y r) J
def LwI.s (h:LwI f y R J rows):LwI f y R (J+1) (psG (λv => -(q1M v (y.getD J 0))) (tZ f J R) rows):=λr hr=>by
 rw [q92,h r hr,qfw (g:=λv => -(q1M v (y.getD J 0))) (by rw [q8O]; rfl) R,if_pos hr,sg];unfold imE;omega
def quU (h:TOk f R C) (hy:q1N y) {r j:Nat} (hr:r < R) (hj:j < C):bl (imE f y r j).natAbs<=67584:=qlQ (h.finD hj hr) (q1o hy).2
def quS (h:TOk f R C) (hy:q1N y) {r:Nat} (hr:r < R):bl (imZ f y C r).natAbs<=67595:=by
 unfold imZ;rw [zF];exact q6I (K:=67584) C (by have:=h.c; omega) λj hj=>quU h hy hr hj
def quT (h:TOk f R C) (hy:q1N y):∀ x ∈ imL f y C R,bl x.natAbs<=67595:=λx hx=>by
 obtain ⟨r,hr,rfl⟩:=zG.1 hx;exact quS h hy (zV.1 hr)
def qc9 (h:TOk f R C) (hR:R<=20) (hC:C<=20) (hy:q1N y) (hyl:y.length=C):ACt 89 [pT R C f,pF y] (uv (lwV f R C y:Nat)):=by
 have hml:=q1Y (f:=f) (R:=R) C;have hg:=λj hj=>q25 (f:=f) (R:=R) (C:=C) (j:=j) hj;have hix:=λj k hj h1 h2=>q9R (f:=f) (R:=R) (C:=C) (j:=j) (k:=k) hj h1 h2;have hos:=λj=>qkX (f:=f) (R:=R) (j:=j);obtain ⟨o,ho⟩:∃ o,o=tO f R:=⟨_,rfl⟩;have hRC:=h.m;have hT:=h;obtain ⟨res,hres⟩:∃ res,res=lwV f R C y:=⟨_,rfl⟩;rw [<- hres];unfold lwV at hres;obtain ⟨im,him⟩:∃ im,im=imL f y C R:=⟨_,rfl⟩;have hil:im.length=R:=by rw [him]; exact q2g
 have hig:∀ r,r < R->im[r]?=some (imZ f y C r):=λr hr=>by rw [him]; exact q6u hr
 have hib:bl (grZ im).natAbs<=67595:=by rw [him]; exact q42 (quT h hy)
 rw [<- him] at hres;clear him;unfold pT;rw [<- ho] at hg hix hos;generalize (tM f R C).1=st at *;generalize (tM f R C).2.1=ix at *;generalize (tM f R C).2.2=vl at *;obtain ⟨m1,m2,m3⟩:=hml;unfold q26;refine ac0 Tryz.func89 Tryz.ntmps89 [.tmp 4] ?_;refine wk ?_;refine q0z (q6h (o:=18) (N:=5000) (R:=10000) (n:=R) (T1:=87) (T2:=46) (K:=some 4) (λ_ h=>h) ?_ ω ω ω ω (xs:=[(1,pF y),(2,.pt 2 0 0),(5,.ow 5000 none 0 R),(20,iv C),(21,iv 0)]) (kv:=[]) (kb:=[(2,some ⟨26,some 5,[.ag [iv R,iv C,pI st,pI ix,pF vl]],false⟩)]) (by simp [nmW]) ?_) ?_
 .try simp -implicitDefEqProofs (disch:=omega) only [go_sem,Nat.reduceEqDiff,Nat.reduceAdd,↓reduceIte]
 .try refine Zz ?_
  exact if_pos rfl
 rw [qdR];refine q0P (λq:Nat × (Nat->List Int)=>q.1<=C/\LwI f y R q.1 q.2/\RB q.2 (q.1*R)) [1,2,5,20] [2] Lk Lk (λq=>[(21,iv q.1)]) (λ_=>[]) (λq=>q5s R q.2) (λq=>C-q.1) (0,λ_=>[]) ⟨zD _,λr hr=>by rw [q1x]; rfl,by rw [uV]; exact qah⟩ ?_ ?_
 .refine LeW [] rfl rfl ?_ ?_ (by simp [q0f,q0b,win]) ?_
  .exact Ow
  .exact wfB (q0m Oq)
  .try simp -implicitDefEqProofs (disch:=omega) only [go_sem,Nat.reduceEqDiff,Nat.reduceAdd,↓reduceIte];first | done | rfl
 .rintro ⟨J,rows⟩ ⟨hJ,hI,hB⟩;simp only at hJ hI hB ⊢;have hJR:J*R<=20*20:=zI Oq hR
  by_cases hlt:J < C
  .have hlt':(J:Int) < C:=ω
   have g1:=hg J Oq;have g2:=hg (J+1) Oq;have oJ:=hos J;have ww:IntKind.i64.wrap ((J:Int)+1)=((J+1:Nat):Int):=by rw [i64_in ω ω]; omega
   have hZ:=λk v=>q35 (f:=f) (j:=J) (i:=R) (k:=k) (x:=v);have hIs:=hI.s;obtain ⟨L,hL⟩:∃ L,L=tZ f J R:=⟨_,rfl⟩;have hLn:L.length<=R:=by rw [hL]; unfold tZ; exact zP (xF _ _) σ
   have hixJ:=hix J;rw [<- hL] at oJ hZ hixJ hIs;clear hL;obtain ⟨p,hp⟩:∃ p,y[J]?=some p:=⟨_,zA Oq⟩;obtain ⟨p1,p2⟩:=hy p (zE hp);rw [getD_some hp] at hIs;have hLv:∀ e ∈ L,(e.2 < 18446744073709551616/\q0M e.2)/\e.1 < R:=λe he=>by
    obtain ⟨q1,q2⟩:=(hZ e.1 e.2).1 he;exact ⟨⟨h.u J e.1 e.2 hlt q1 q2,h.v J e.1 e.2 hlt q1 q2⟩,q1⟩
   have hBL:=λt=>hB.pg (g:=λv => -(q1M v p)) (L:=L.take t) λe he=>by
    rw [zS];exact (q1d (hLv e (xR he)).1.2 p2).2
   refine wk1 (x2 hlt' g1) ?_;refine q0P (λt:Nat=>t<=L.length) [1,2,5,6,20,21] [2] Lk Lk (λt=>[(7,iv ((o J+t:Nat):Int))]) (λ_=>[]) (λt=>q5s R (psG (λv => -(q1M v p)) (L.take t) rows)) (λt=>L.length-t) 0 (zD _) ?_ ?_
   .refine LeW [] rfl rfl ?_ ?_ (by simp [q0f,q0b,win]) ?_
    .exact Ow
    .exact wfB (q0m Oq)
    .try simp -implicitDefEqProofs (disch:=omega) only [go_sem,Nat.reduceEqDiff,Nat.reduceAdd,↓reduceIte]
   .intro t ht
    by_cases hlt2:t < L.length
    .obtain ⟨⟨i,v⟩,e1,e2,e3⟩:=hixJ (o J+t) Oq Oq Oq;rw [xG] at e1;dsimp only at e2 e3;obtain ⟨⟨v1,v2⟩,hin⟩:=hLv (i,v) (zE e1);dsimp only at v1 v2 hin;have hq:((o J+t:Nat):Int) < ((o (J+1):Nat):Int):=ω
     have C1:=q88 v1 (q0e v2);have C2:=q88 p1 (q0e p2);have M:=q1d v2 p2;have C3:=q1c (q9G (q5X v2) (q5X p2) M.1) (q50 M.1).2.2.2;have N3:=q2J (V:=q1M v p);have N1:=qtl (q5X v2);have N2:=qtl (q5X p2);have hr1:(List.range R)[i]?=some i:=zB hin;have hob:=(zR.1 e2).1;have wt:IntKind.i64.wrap (((o J+t:Nat):Int)+1)=((o J+(t+1):Nat):Int):=by rw [i64_in ω ω]; omega
     have hps:psG (λv => -(q1M v p)) (L.take (t+1)) rows=q4H (psG (λv => -(q1M v p)) (L.take t) rows) i (q1M v p):=by
      rw [qt2 e1];dsimp only;rw [Int.neg_neg]
     have hli:(psG (λv => -(q1M v p)) (L.take t) rows i).length<=2000:=by have:=(hBL t).l i; rw [zU] at this; omega
     generalize psG (λv => -(q1M v p)) (L.take t) rows=rs at *;refine wk1 (x6 g1 g2 ww hq e2 (x4 e3 hr1 hp wt)) ?_;refine ⟨t+1,ω,ω,?_⟩;rw [hps];unfold q5s;rw [<- q9m];refine q6g (r:=66) (k:=i) (row:=qks rs) (λ_ h=>h) hin clV ?_ ?_ (λi h1 h2 h3 h4=>?_) (λ_ _=>clV) BOk.h0 (.inl ω) ω ω ω (by simp [nmW]) ?_
     .try simp -implicitDefEqProofs (disch:=omega) only [go_sem,Nat.reduceEqDiff,Nat.reduceAdd,↓reduceIte]
     .try refine Zz ?_
      rw [zC]
      rfl
     .rw [q0A h2,q0A h4,q0A h3,q0A (by obtain ⟨w1,w2⟩:=h1; omega),q0U h1]
     .try simp -implicitDefEqProofs (disch:=omega) only [go_sem,Nat.reduceEqDiff,Nat.reduceAdd,↓reduceIte]
    .obtain rfl:t=L.length:=ω
     have hq:¬ ((o J+L.length:Nat):Int) < ((o (J+1):Nat):Int):=ω
     have hB2:=hBL L.length;rw [zX] at hB2 ⊢;refine wk1 (x3 g2 ww hq) ?_;refine ⟨(J+1,psG (λv => -(q1M v p)) L rows),⟨hlt,hIs,hB2.mono (by rw [y7]; omega)⟩,by simp only; omega,?_⟩;simp only;refine LeW [] rfl rfl ?_ ?_ (by simp [q0f,q0b,win]) ?_
     .exact Ow
     .exact wfB (q0m Oq)
     .try simp -implicitDefEqProofs (disch:=omega) only [go_sem,Nat.reduceEqDiff,Nat.reduceAdd,↓reduceIte]
  .obtain rfl:J=C:=ω
   have hlt':¬ (J:Int) < J:=ω
   have hrl:=hB.l;have hbb:=hB.b;have hdy:=λr=>qa5 (hbb r) (by have:=hrl r; omega);clear hg hix;refine wk1 hlt' ?_;refine q0P (λr=>r<=R) [1,9,69,70] [] Lk Lk (λr:Nat=>[(71,iv r),(8,.ow 1001 (some 4) 0 r)]) (λr=>[(1001,⟨46,some 4,(im.take r).map λV=>pV V,false⟩)]) (λ_=>q5s R rows) (λr=>R-r) 0 (zD _) ?_ ?_
   .refine LeW [(1001,none)] rfl rfl ?_ ?_ (by simp [q0f,q0b,win]) ?_
    .exact Ow
    .exact wfB (q0m Oq)
    .try refine Zz ?_
     first | done | rfl | exact ⟨rfl,rfl⟩
   .intro r hr;have ll:(im.take r).length=r:=by rw [zU]; omega
    by_cases hlt2:r < R
    .have q2:(r:Int) < R:=ω
     have hr1:(List.range R)[r]?=some r:=zB hlt2;have hd:=hdy r;have C2:=q1c (q5B (l:=rows r) (by have:=hrl r; omega) (λz hz=>by have:=hbb r z hz; unfold q0Y; omega) hd) hd;have C3:=q1c (qjy qgJ λho=>qdD (A:=q1L (rows r)) ho) (qle hd);have ez:((q1L (rows r)).natAbs:Int)=imZ f y J r:=by unfold imZ; rw [hI r hlt2]
     rw [ez] at C3;have N1:=q2J (V:=q1L (rows r));have N2:=q2J (V:=imZ f y J r);have es:=q1g (hig r hlt2);have hli:=hrl r;generalize q1L (rows r)=sz at *;refine wk1 (x3 q2 hr1 ll) ?_;refine ⟨r+1,ω,ω,?_⟩;rw [es];refine LeW [(1001,some 80)] rfl rfl ?_ ?_ (by simp [q0f,q0b,win]) ?_
     .exact Ow
     .exact wfB (q0m Oq)
     .try refine Zz ?_
      exact ⟨ω,q0O (by rw [zC]; rfl) clV⟩
    .obtain rfl:r=R:=ω
     have q2:¬ (r:Int) < r:=ω
     rw [zK ω] at *;refine wk1 q2 ?_;refine q0P (λi=>i<=y.length) [8,82,83] [1001] Lk Lk (λi:Nat=>[(84,iv i),(9,.ow 1002 (some 4) 0 i)]) (λi=>[(1002,⟨46,some 4,((y.take i).map abZ).map λV=>pV V,false⟩)]) (λ_=>q5s r rows) (λi=>y.length-i) 0 (zD _) ?_ ?_
     .refine LeW [(1002,none)] rfl rfl ?_ ?_ (by simp [q0f,q0b,win]) ?_
      .exact Ow
      .exact wfB (q0m Oq)
      .try refine Zz ?_
       exact ⟨rfl,q0O rfl clV⟩
     .intro i hi;have l2:((y.take i).map abZ).length=i:=by rw [zN,zU]; omega
      by_cases hlt3:i < y.length
      .have q3:(i:Int) < y.length:=ω
       obtain ⟨x,hx⟩:∃ x,y[i]?=some x:=⟨_,zA hlt3⟩;obtain ⟨x1,xf⟩:=hy x (zE hx);have C2:=q9l x1 xf;have C3:=q1c (q5a x1 xf) (qbp xf);have N2:=q2J (V:=abZ x);have es:(y.take (i+1)).map abZ=(y.take i).map abZ ++ [abZ x]:=by rw [q1g hx,zC]; rfl
       generalize (y.take i).map abZ=W at *;refine wk1 (x3 q3 hx l2) ?_;refine ⟨i+1,ω,ω,?_⟩;rw [es];refine LeW [(1002,some 93)] rfl rfl ?_ ?_ (by simp [q0f,q0b,win]) ?_
       .exact Ow
       .exact wfB (q0m Oq)
       .try refine Zz ?_
        exact ⟨ω,q0O (by rw [zC]; rfl) clV,q0O rfl clV⟩
      .obtain rfl:i=y.length:=ω
       have q3:¬ (y.length:Int) < y.length:=ω
       rw [zX] at l2 ⊢;have hob:bl (grZ (y.map abZ)).natAbs<=66560:=q42 λz hz=>by
        obtain ⟨x,hx,rfl⟩:=zG.1 hz;exact q63 (hy x hx).2
       have C1:=q3s (l:=y.map abZ) Oq;have C2:=q3s (l:=im) Oq;generalize y.map abZ=W at *;generalize grZ W=P at *;generalize grZ im=Q at *;have N1:=q2J (V:=P);have N2:=q2J (V:=Q);have C3:=qjy qgI λho=>q4g (V:=P) ho;have C4:=qjy qgI λho=>q4g (V:=Q) ho
       by_cases h1:P=0
       .rw [if_pos h1] at hres;subst hres;refine wk1 (x3 q3 @qnX (decide_eq_true h1)) ?_
        rfl
       rw [if_neg h1] at hres
       by_cases h2:Q=0
       .rw [if_pos h2] at hres;subst hres;refine wk1 (x4 q3 @qnX (decide_eq_false h1) (decide_eq_true h2)) ?_
        rfl
       rw [if_neg h2] at hres;subst hres;have C5:=qqb (x:=iv 1) qb6 λho=>q7V (mode:=1) (a:=P) (b:=Q) Oq ho.1 ho.2 h2;exact wk1 (x4 q3 @qnX (decide_eq_false h1) (decide_eq_false h2)) trivial
end
open Classical in
noncomputable def lwA (R C:Nat) (f:Nat->Nat->Option Nat) (y:List Nat):Nat × Int:=if R≠C then (0,5) else if y.length≠C then (0,2) else if ∀ x ∈ y,q0M x then (lwV f R C y,0) else (0,4)
section
variable {f:Nat->Nat->Option Nat} {y:List Nat} {R C:Nat}
def qj9 {x:Nat} (hx:x < 18446744073709551616):ACt 87 [uv x] (bv (!decide (q0M x))):=by
 have C1:=q9k hx;refine ac0 Tryz.func87 Tryz.ntmps87 [.tmp 2] ?_;exact wk trivial
open Classical in
def qgK (h:TOk f R C) (hR:R<=20) (hC:C<=20) (hy:∀ x ∈ y,x < 18446744073709551616) (hl:y.length<=1000000):ACt 27 [pT R C f,pF y] (.tu [uv (lwA R C f y).1,iv (lwA R C f y).2]):=by
 have C1:=q6k h;have C2:=q2m (f:=87) (λx hx=>qj9 hx) hy hl;have C3:=λ(h1:q1N y) (h2:y.length=C)=>qc9 h hR hC h1 h2;unfold lwA;unfold pT q26 at *;generalize (tM f R C).1=st at *;generalize (tM f R C).2.1=ix at *;generalize (tM f R C).2.2=vl at *
 by_cases h1:R=C
 rotate_left
 .rw [if_pos h1];have q1:((R:Int) != (C:Int))=true:=by simp; omega
  refine ac0 Tryz.func27 Tryz.ntmps27 [.tmp 4,.tmp 5] ?_;refine wk1 q1 ?_
  rfl
 have q1:((R:Int) != (C:Int))=false:=by simp; omega
 rw [if_neg (not_not_intro h1)]
 by_cases h2:y.length=C
 rotate_left
 .rw [if_pos h2];have q2:((y.length:Int) != (C:Int))=true:=by simp; omega
  refine ac0 Tryz.func27 Tryz.ntmps27 [.tmp 4,.tmp 5] ?_;refine wk1 (x2 q1 q2) ?_
  rfl
 have q2:((y.length:Int) != (C:Int))=false:=by simp; omega
 rw [if_neg (not_not_intro h2)]
 by_cases h3:∀ x ∈ y,q0M x
 .rw [if_pos h3];rw [decide_eq_true h3] at C2;have C4:=C3 (λx hx=>⟨hy x hx,h3 x hx⟩) h2;clear C3;dsimp only;generalize lwV f R C y=z at *;refine ac0 Tryz.func27 Tryz.ntmps27 [.tmp 4,.tmp 5] ?_;exact wk1 (x2 q1 q2) trivial
 .rw [if_neg h3];rw [decide_eq_false h3] at C2;clear C3;refine ac0 Tryz.func27 Tryz.ntmps27 [.tmp 4,.tmp 5] ?_;refine wk1 (x2 q1 q2) ?_
  rfl
end
section
variable {f:Nat->Nat->Option Nat} {x:List (Nat × Nat)} {b:List Nat} {R C r:Nat}
end
end Go.Proofs.YtbjoghfmhgadkaaGreatDoor
namespace Go.E
open Go Go.RowKit
def LeE {J:Nat->Prop} {h:Hp} {a n:Nat} {T:TypeId} {xs:List PV} {e:Value} (hJ:∀ i,¬ J i) (hb:h a=some ⟨T,none,xs,false⟩) (hc:ClL xs):Le J (λ_=>.tu [.ow a none 0 n,.vl e]) h (λ_=>.tu [.ow 5000 none 0 n,.vl e]) (q0Q h0 5000 ⟨T,none,xs,false⟩):=by
 refine q4C (λi=>if i=5000 then some a else none) (λi b' hb'=>?_) (λi j k b c hi hj ti tj=>?_) (λ_=>.tu rfl λi x y hx hy=>?_) λi hi=>(hJ i hi).elim
 .by_cases hi:i=5000
  .subst hi;rw [q0I] at hb'; cases hb';unfold LeB;exact ⟨_,hb,rfl,rfl,⟨rfl,rfl⟩,q0O rfl hc⟩
  .rw [q0A hi] at hb'; cases hb'
 .split at ti
  .split at tj
   .rename_i e1 e2; rw [e1,e2]
   .cases tj
  .cases ti
 .rcases i with _ | _ | i
  .cases hx; cases hy; exact .ow (if_pos rfl) q0I
  .cases hx; cases hy; exact .cl trivial
  .simp at hx
def LeEn {J:Nat->Prop} {h:Hp} {T:TypeId} {e:Value} (hJ:∀ i,¬ J i):Le J (λ_=>.tu [.vl (.slice none 0 0),.vl e]) h (λ_=>.tu [.ow 5000 none 0 0,.vl e]) (q0Q h0 5000 ⟨T,none,[],false⟩):=by
 refine q4C (λ_=>none) (λi b' hb'=>?_) (λi j k b c hi hj ti tj=>by cases ti) (λ_=>.tu rfl λi x y hx hy=>?_) λi hi=>(hJ i hi).elim
 .by_cases hi:i=5000
  .subst hi;rw [q0I] at hb'; cases hb'
   rfl
  .rw [q0A hi] at hb'; cases hb'
 .rcases i with _ | _ | i
  .cases hx; cases hy; exact .nilow rfl q0I rfl
  .cases hx; cases hy; exact .cl trivial
  .simp at hx
end Go.E
namespace Go.Proofs.YtbjoghfmhgadkaaGreatDoor
open Go Go.E Go.Sp
def cLo (f:LUt) (i c:Nat):Nat:=ctV (q5p f.ls f.li f.lv c) i
def cUp (f:LUt) (i c:Nat):Nat:=ctV (q5p f.us f.ui f.uv c) i
open Classical in
noncomputable def lgE (f:LUt) (l:List Nat):List Nat × Int :=
 if qh0 (q7n f) f.rows.length l≠0 then ([],qh0 (q7n f) f.rows.length l) else
  match geL (cLo f) f.rows.length 0 (gaS l f.rows f.rows.length) with
  | none=>([],233)
  | some y=>match geU (cUp f) f.rows.length f.rows.length y with
   | none=>([],233)
   | some z=>(scS z f.cols f.rows.length f.rows.length,0)
def q8v (n:Nat) (g:Nat->Nat->Nat) (k:Nat):List Nat:=(List.range n).map (g k)
def qtP {n:Nat} {g:Nat->Nat->Nat} {k:Nat}:rU n g k=(q8v n g k).map λz:Nat=>uv z:=by
 unfold rU q8v;rw [x7]
 rfl
def q4l {n:Nat} {g:Nat->Nat->Nat} {k c:Nat} (hc:c < n):(q8v n g k)[c]?=some (g k c):=by
 unfold q8v;rw [zL,zB hc]; rfl
def q6t {n:Nat} {g:Nat->Nat->Nat} {k:Nat}:(q8v n g k).length=n:=by unfold q8v; simp
def rst_L {g:Nat->Nat->Nat} {D:Nat->Nat->Nat} {n k:Nat} {ys:List Nat} (hk:k < n) (hy:ys.length=n) (h:∀ c,c < k->g k c=D k c):q1L (q8I (ofZ (ys.getD k 0)) ((q8v n g k).take k) (ys.take k) k)=loZ D ys k:=by
 rw [qds];unfold loZ
 congr 1
 refine q6p k λi hi=>?_;have h1:((q8v n g k).take k)[i]?=some (g k i):=by rw [yO,if_pos hi]; exact q4l ω
 obtain ⟨y,hy2⟩:∃ y,ys[i]?=some y:=⟨_,zA Oq⟩;have h2:(ys.take k)[i]?=some y:=by rw [yO,if_pos hi]; exact hy2
 rw [getD_some h1,getD_some h2,getD_some hy2,h i hi]
def rst_U {g:Nat->Nat->Nat} {D:Nat->Nat->Nat} {n k:Nat} {ys:List Nat} (hk:k < n) (hy:ys.length=n) (h:∀ c,c < n->g k c=D k c):q1L (q8I (ofZ (ys.getD k 0)) ((q8v n g k).drop (k+1)) (ys.drop (k+1)) (n-(k+1)))=upZ D ys n k:=by
 rw [qds];unfold upZ
 congr 1
 refine q6p (n-(k+1)) λi hi=>?_;have h1:((q8v n g k).drop (k+1))[i]?=some (g k (k+1+i)):=by rw [y9]; exact q4l ω
 obtain ⟨y,hy2⟩:∃ y,ys[k+1+i]?=some y:=⟨_,zA Oq⟩;have h2:(ys.drop (k+1))[i]?=some y:=by rw [y9]; exact hy2
 rw [getD_some h1,getD_some h2,getD_some hy2,h _ ω]
def qcw {l:List Nat} {o:List Int} {n:Nat} (hl:l.length=n) (ho:o.length=n) (hn:n<=1000000) (hb:∀ x ∈ o,0<=x/\x < n):qgu 205 [pF l,pI o] h0 (.ow 5000 none 0 n) (q0Q h0 5000 ⟨32,none,(gaS l o n).map λz:Nat=>uv z,false⟩):=by
 have hJ:∀ i,¬ (h0 i≠none):=λi h=>h rfl;unfold gaS;have hgl:∀ m,(rwG n (λk=>l.getD (o.getD k 0).toNat 0) m).length=n:=λ_=>q9Z;generalize hg:(λk=>l.getD (o.getD k 0).toNat 0)=g at *;refine qjw qlx Tryz.func205 rfl Tryz.ntmps205 κ ?_ ?_ ?_ ?_
 .intro i b hb; cases hb
 .exact qeU
 .exact IdL.of λx hx=>by
   simp at hx
   rcases hx with rfl | rfl <;> unfold IdP <;> trivial
 have hW:WfH h0:=⟨λi b hb=>by cases hb⟩;refine wk1 ho ?_;refine q0P (λk=>k<=n) [0,1] [] Lk Lk (λk:Nat=>[(6,iv k),(5,.ow 1001 none 0 n)]) (λk=>[(1001,⟨32,none,(rwG n g k).map λz:Nat=>uv z,false⟩)]) (λ_=>h0) (λk=>n-k) 0 (zD _) ?_ ?_
 .rw [<- qsx];refine LeW [(1001,some 9)] rfl rfl ?_ ?_ (by simp [q0f,q0b,win]) ?_
  .exact Ow
  .exact hW
  .try refine Zz ?_
   simp
 .intro k hk
  by_cases hlt:k < n
  .obtain ⟨x,hx⟩:∃ x,o[k]?=some x:=⟨_,zA Oq⟩;obtain ⟨h1,h2⟩:=hb x (zE hx);obtain ⟨x,rfl⟩:∃ y:Nat,x=y:=⟨x.toNat,ω⟩;obtain ⟨u,hu⟩:∃ u,l[x]?=some u:=⟨_,zA Oq⟩;have hs:=qsv (n:=n) (g:=g) (m:=k);have hgk:g k=u:=by rw [<- hg]; simp only [getD_some hx,uQ,getD_some hu]
   rw [hgk] at hs;refine wk1 (x4 ho hx hu (hgl k)) ?_;refine ⟨k+1,ω,ω,?_⟩;refine LeW [] rfl rfl ?_ ?_ (by simp [q0f,q0b,win]) ?_
   .exact Ow
   .exact hW
   .try refine Zz ?_
    rw [<- hs];exact ⟨ω,rfl⟩
  .obtain rfl:k=n:=ω
   have hgk:=hgl k;refine wk1 ho ?_;refine (rtM (rs:=[.tmp 4]) rfl rfl Lq ?_ (.inl rfl));refine LeO hJ ?_ clU
   try simp -implicitDefEqProofs (disch:=omega) only [go_sem,Nat.reduceEqDiff,Nat.reduceAdd,↓reduceIte]
def qtz {f:LUt} {l:List Nat}:IdL win [pLU f,pF l]:=IdL.of λx hx=>by
 simp at hx
 rcases hx with rfl | rfl
 .unfold pLU IdP;unfold IdL IdL IdL IdL IdL IdL IdL IdL IdL;unfold IdP;exact ⟨trivial,trivial,trivial,trivial,trivial,trivial,trivial,trivial,trivial⟩
 .unfold IdP; trivial
def qm5 {f:LUt} {l:List Nat} (hb:LUb f) (hn:f.rows.length<=100) (hul:∀ x ∈ l,x < 18446744073709551616) (hl:l.length<=1000000) :
  qgu 124 [pLU f,pF l] h0 (.tu [.ow 5000 none 0 (lgE f l).1.length,iv (lgE f l).2]) (q0Q h0 5000 ⟨32,none,(lgE f l).1.map λz:Nat=>uv z,false⟩):=by
 have hJ:∀ i,¬ (h0 i≠none):=λi h=>h rfl;have cK:=qcx hb;have cS:=qgw (e:=q7n f) (n:=f.rows.length) hul hl;refine qjw qmA Tryz.func124 rfl Tryz.ntmps124 κ ?_ ?_ ?_ ?_
 .intro i b hb; cases hb
 .exact qeU
 .exact qtz
 unfold lgE
 by_cases hz0:qh0 (q7n f) f.rows.length l=0
 case neg =>
  rw [if_pos hz0];generalize qh0 (q7n f) f.rows.length l=e at *;generalize q7n f=e2 at *;have q:(e != 0)=true:=by simpa using hz0
  unfold pLU at *;dsimp only at *;refine wk1 q ?_;refine (rtM (rs:=[.tmp 4,.tmp 5]) rfl rfl Lq ?_ (.inl rfl));exact LeEn hJ
 rw [if_neg (not_not_intro hz0)];rw [hz0] at cS;obtain ⟨h1,h2,h3⟩:=qsg hz0;rw [h1] at cK cS;have hf:=qaP hb h1;have hfl:q1N l:=λx hx=>⟨hul x hx,h3 x hx⟩;have hrb:∀ x ∈ f.rows,0<=x/\x < f.rows.length:=λx hx=>hf.rp.2.1 x hx;have hcb:∀ x ∈ f.cols,0<=x/\x < f.rows.length:=λx hx=>hf.cp.2.1 x hx;have hcl:f.cols.length=f.rows.length:=by have:=hf.cp.1; omega
 have cG:=qcw (l:=l) (o:=f.rows) (n:=f.rows.length) h2 rfl Oq hrb;have hgl:=qfN (l:=l) (o:=f.rows) (n:=f.rows.length);have hgf:=qfO (o:=f.rows) (n:=f.rows.length) hfl;generalize gaS l f.rows f.rows.length=g at *;have cD:=qj2 (f:=f) rfl hn hf.L hf.U;have vL:∀ {i j:Nat},i < f.rows.length->j < i->dnT (dnD f.rows.length) (q5p f.ls f.li f.lv) f.rows.length i j=cLo f i j:=λhi hj=>dnL_v hf.L.nd Oq hj;have vU:∀ {i j:Nat},j < f.rows.length->dnT (λ_ _=>0) (q5p f.us f.ui f.uv) f.rows.length i j=cUp f i j:=λhj=>dnU_v hf.U.nd hj;have fL:∀ {i j:Nat},j < f.rows.length->cLo f i j < 18446744073709551616/\q0M (cLo f i j):=λhj=>qfv hf.L hj;have fU:∀ {i j:Nat},j < f.rows.length->cUp f i j < 18446744073709551616/\q0M (cUp f i j):=λhj=>qfv hf.U hj;have dU:∀ k,k < f.rows.length->ofZ (cUp f k k)≠0:=λk hk=>by
  obtain ⟨m,x,m1,m2,m3⟩:=hf.dg k hk;have:=q9w (t:=m.length) (e:=(k,x)) (hf.U.nd k hk) (by rw [m1]; simp);unfold cUp;rw [this];exact m2
 obtain ⟨gl,hgl2⟩:∃ q,q=dnT (dnD f.rows.length) (q5p f.ls f.li f.lv) f.rows.length:=⟨_,rfl⟩;obtain ⟨gu,hgu2⟩:∃ q,q=dnT (λ_ _=>0) (q5p f.us f.ui f.uv) f.rows.length:=⟨_,rfl⟩;rw [<- hgl2,<- hgu2] at cD;simp only [<- hgl2] at vL;simp only [<- hgu2] at vU;clear hgl2 hgu2 hf;generalize cLo f=DL at *;generalize cUp f=DU at *;generalize hnn:f.rows.length=n at *;unfold pLU at *;obtain ⟨F,hF⟩:∃ F:List Nat->List Nat × Int,F=λy=>(match geU DU n n y with
   | none=>([],233)
   | some z=>(scS z f.cols n n,(0:Int))):=⟨_,rfl⟩
 obtain ⟨res,hres⟩:∃ q,q=(match geL DL n 0 g with
  | none=>([],233)
  | some y=>F y):=⟨_,rfl⟩
 have hres':=hres;rw [hF] at hres';rw [<- hres'];clear hres';refine wk1 hnn ?_;refine qrV λK hK=>?_;refine Zz1 hnn ?_;refine jm cG ?_ (λi hi=>(hi trivial).elim) ?_
 .change Wn _ _;exact Ow
 try refine Zz ?_
 refine hK _ _ ?_; clear hK K;clear cG;have hW:WfH h0:=⟨λi b hb=>by cases hb⟩;refine wk ?_;refine q0z (LeT (hw:=h0) (λi=>if i=1001 then some 5000 else if i=5000 then none else some i) (λi hi=>(hJ i hi).elim) (λi hi hw=>?_) (λi b hw hb=>?_) (λi j x hi hj ti tj=>?_) (xs:=[(2,.pt 2 0 0),(6,iv n),(8,tU n gl),(9,tU n gu),(10,.ow 1001 none 0 n),(11,iv 0)]) (kv:=[]) (bs:=[(2,⟨63,some 8,[.ag [pI f.rows,pI f.cols,pI f.ls,pI f.li,pF f.lv,pI f.us,pI f.ui,pF f.uv]],false⟩),(1001,⟨32,none,g.map λz:Nat=>uv z,false⟩)]) (kb:=[]) ?_) ?_
 .simp at hi;unfold win at hw;omega
 .cases hb
 .have a1:∀ i,(win i/\(h0:Hp) i≠none\/i ∈ List.map (·.1) [(2,(⟨63,some 8,[.ag [pI f.rows,pI f.cols,pI f.ls,pI f.li,pF f.lv,pI f.us,pI f.ui,pF f.uv]],false⟩:Bk)),(1001,⟨32,none,g.map λz:Nat=>uv z,false⟩)] ++ [])->i=2\/i=1001:=λi hi=>by
   rcases hi with ⟨_,hi⟩ | hi
   .exact absurd rfl hi
   .simpa using hi
  rcases a1 i hi with rfl | rfl <;> rcases a1 j hj with rfl | rfl <;> simp at ti tj <;> omega
 .try simp -implicitDefEqProofs (disch:=omega) only [go_sem,Nat.reduceEqDiff,Nat.reduceAdd,↓reduceIte]
 refine q0P (λq:Nat × List Nat=>q.1<=n/\q.2.length=n/\q1N q.2/\(match geL DL (n-q.1) q.1 q.2 with | none=>([],233) | some y=>F y)=res) [2,6,8,9] [2] Lk Lk (λq=>[(11,iv q.1),(10,.ow 1001 none 0 n)]) (λq=>[(1001,⟨32,none,q.2.map λz:Nat=>uv z,false⟩)]) (λ_=>h0) (λq=>n-q.1) (0,g) ⟨zD _,hgl,hgf,hres.symm⟩ ?_ ?_
 .refine LeW [] rfl rfl ?_ ?_ (by simp [q0f,q0b,win]) ?_
  .exact Ow
  .exact hW
  .try refine Zz ?_
   rfl
 .rintro ⟨k,ys⟩ ⟨hk,hy,hfy,hv⟩;simp only at hk hy hfy hv ⊢
  by_cases hlt:k < n
  .have hlt':(k:Int) < n:=ω
   obtain ⟨u,hu⟩:∃ u,ys[k]?=some u:=⟨_,zA Oq⟩;obtain ⟨u1,u2⟩:=hfy u (zE hu);have rk:(List.range n)[k]?=some k:=zB hlt;have hrf:q1N ((q8v n gl k).take k):=λx hx=>by
    obtain ⟨c,hc⟩:=yU.1 hx;have hck:c < k:=by have:=(zR.1 hc).1; rw [zU] at this; omega
    rw [yO,if_pos hck,q4l ω] at hc;cases hc;rw [vL hlt hck];exact fL Oq
   have hrl:((q8v n gl k).take k).length=k:=by rw [zU,q6t]; omega
   have hS:=rst_L (g:=gl) (D:=DL) (n:=n) (k:=k) (ys:=ys) hlt hy λc hc=>vL hlt hc;rw [getD_some hu] at hS;rw [show n-k=(n-(k+1))+1 by omega,geL] at hv;have cR:=qaR (B:=ofZ u) (l:=(q8v n gl k).take k) (x:=ys.take k) (q40 u2) hrf (qf8 hfy) (by rw [hrl,zU]; omega) ω;rw [hrl,hS] at cR;generalize loZ DL ys k=S at *;unfold pF at cR;rw [List.map_take,List.map_take,<- qtP] at cR;have cZ:=q2J (V:=S);have cO1:=q1k u1 (q0e u2);have cQ:=@q91 S;have hqlt:fR 0 S < 18446744073709551616:=q86;generalize fR 0 S=v at *;have cF:=q2G hqlt;have es1:slP (some 1) none (some (iv (k:Int))) (.sl none (rU n gl k))=some (.sl none ((rU n gl k).take k)):=by
    simp [slP,qbe,ksz];omega
   have es2:slP (some 1) none (some (iv (k:Int))) (.ow 1001 none 0 n)=some (.ow 1001 none 0 k):=by
    simp [slP,qbe,ksz];omega
   have hset:((ys.map λz:Nat=>uv z).set k (uv (v:Nat)))[k]?=some (uv (v:Nat)):=xN (by rw [zN]; omega)
   by_cases hfx:q0M v
   .rw [decide_eq_true hfx] at cF;rw [if_pos hfx] at hv;refine wk1 (x6 hlt' hu rk es1 es2 (x2 hy hset)) ?_;refine ⟨(k+1,ys.set k v),⟨by simp only; omega,by simp only; rw [yW]; exact hy,q4r hfy hqlt hfx,hv⟩,by simp only; omega,?_⟩;simp only;refine LeW [] rfl rfl ?_ ?_ (by simp [q0f,q0b,win]) ?_
    .exact Ow
    .exact hW
    .try refine Zz ?_
     rfl
   .rw [decide_eq_false hfx] at cF;rw [if_neg hfx] at hv;subst hv;refine wk1 (x6 hlt' hu rk es1 es2 (x2 hy hset)) ?_;refine (rtM (rs:=[.tmp 4,.tmp 5]) rfl rfl Lq ?_ (.inl rfl));exact LeEn hJ
  .obtain rfl:n=k:=ω
   have hlt':¬ (n:Int) < n:=ω
   rw [Nat.sub_self,geL] at hv;simp only [hF] at hv;clear hF hres;refine wk1 hlt' ?_;refine q0P (λq:Nat × List Nat=>q.1<=n/\q.2.length=n/\q1N q.2/\(match geU DU n q.1 q.2 with | none=>([],233) | some z=>(scS z f.cols n n,(0:Int)))=res) [2,6,8,9] [2] Lk Lk (λq=>[(12,iv ((q.1:Int)-1)),(10,.ow 1001 none 0 n)]) (λq=>[(1001,⟨32,none,q.2.map λz:Nat=>uv z,false⟩)]) (λ_=>h0) (λq=>q.1) (n,ys) ⟨zO _,hy,hfy,hv⟩ ?_ ?_
   .refine LeW [] rfl rfl ?_ ?_ (by simp [q0f,q0b,win]) ?_
    .exact Ow
    .exact hW
    .try simp -implicitDefEqProofs (disch:=omega) only [go_sem,Nat.reduceEqDiff,Nat.reduceAdd,↓reduceIte]
   .clear hv hy hfy;rintro ⟨k,ys⟩ ⟨hk,hy,hfy,hv⟩;simp only at hk hy hfy hv ⊢
    by_cases hlt:k=0
    .subst hlt;rw [geU] at hv;simp only at hv;subst hv;have cS2:=q9C (l:=ys) (o:=f.cols) hy hcl Oq hcb;have hsl:=q6q (x:=ys) (o:=f.cols) (n:=n) n;dsimp only;rw [hsl];generalize scS ys f.cols n n=x at *;refine wk ?_;refine q0z (LeT (hw:=h0) (λi=>if i=1001 then none else some i) (λi hi=>(hJ i hi).elim) (λi hi hw=>?_) (λi b hw hb=>?_) (λi j x hi hj ti tj=>?_) (xs:=[(2,.pt 2 0 0),(10,pF ys)]) (kv:=[]) (bs:=[(2,⟨63,some 8,[.ag [pI f.rows,pI f.cols,pI f.ls,pI f.li,pF f.lv,pI f.us,pI f.ui,pF f.uv]],false⟩)]) (kb:=[]) ?_) ?_
     .simp at hi;unfold win at hw;omega
     .cases hb
     .split at ti <;> split at tj <;> cases ti <;> cases tj <;> rfl
     .try refine Zz ?_
      try exact q8r rfl clU (λi hi=>by split at hi <;> cases hi; omega) (by rw [yS]; exact zK (by rw [zN]; omega))
     refine qrV λK hK=>?_;refine Zz ?_;refine jm cS2 ?_ (λi hi=>(hi trivial).elim) ?_
     .change Wn _ _;exact Ow
     try refine Zz ?_
     refine hK _ _ ?_; clear hK K;refine wk ?_;refine (rtM (rs:=[.tmp 4,.tmp 5]) rfl rfl Lq ?_ (.inl rfl));refine LeE hJ ?_ clU
     try simp -implicitDefEqProofs (disch:=omega) only [go_sem,Nat.reduceEqDiff,Nat.reduceAdd,↓reduceIte]
    .obtain ⟨k,rfl⟩:∃ k',k=k'+1:=⟨k-1,ω⟩;have hkn:k < n:=ω
     obtain ⟨u,hu⟩:∃ u,ys[k]?=some u:=⟨_,zA Oq⟩;obtain ⟨u1,u2⟩:=hfy u (zE hu);have rk:(List.range n)[k]?=some k:=zB hkn;have hrf:q1N (q8v n gu k):=λx hx=>by
      obtain ⟨c,hc⟩:=yU.1 hx;have hck:c < n:=by have:=(zR.1 hc).1; rwa [q6t] at this
      rw [q4l hck] at hc;cases hc;rw [vU hck];exact fU hck
     have hrl:((q8v n gu k).drop (k+1)).length=n-(k+1):=by rw [yK,q6t]
     have hS:=rst_U (g:=gu) (D:=DU) (n:=n) (k:=k) (ys:=ys) hkn hy λc hc=>vU hc;rw [getD_some hu] at hS;rw [geU] at hv;have cR:=qaR (B:=ofZ u) (l:=(q8v n gu k).drop (k+1)) (x:=ys.drop (k+1)) (q40 u2) (q83 hrf) (q83 hfy) (by rw [hrl,yK]; omega) ω;rw [hrl,hS] at cR;have hdz:=dU k hkn;have hkk:=vU (i:=k) (j:=k) hkn;obtain ⟨d1,d2⟩:=fU (i:=k) (j:=k) hkn;rw [<- hkk] at hdz d1 d2 hv;generalize upZ DU ys n k=S at *;unfold pF at cR;rw [List.map_drop,List.map_drop,<- qtP] at cR;have cZ:=q2J (V:=S);have cO1:=q1k u1 (q0e u2);have cO2:=q1k d1 (q0e d2);have cQ:=qct (qeD (A:=S) (mode:=0) hdz);have hqlt:fQ 0 S (ofZ (gu k k)) < 18446744073709551616:=q87 hdz;generalize fQ 0 S (ofZ (gu k k))=v at *;have cF:=q2G hqlt;have ek:((k+1:Nat):Int)-1=(k:Int):=ω
     have wj:(k:Int)+1=((k+1:Nat):Int):=rfl;have ww:IntKind.i64.wrap ((k+1:Nat):Int)=((k+1:Nat):Int):=i64_in Oq Oq;have es1:slP (some 1) (some (iv ((k+1:Nat):Int))) none (.sl none (rU n gu k))=some (.sl none ((rU n gu k).drop (k+1))):=by
      simp [slP,qbe,ksz];rw [if_pos ω,xH,if_pos ω,zK (by simp [rU])]
     have es2:slP (some 1) (some (iv ((k+1:Nat):Int))) none (.ow 1001 none 0 n)=some (.ow 1001 none (k+1) (n-(k+1))):=by
      simp [slP,qbe,ksz];rw [if_pos ω,xH,if_pos ω]
     have htk:((ys.map λz:Nat=>uv z).drop (k+1)).take (n-(k+1))=(ys.map λz:Nat=>uv z).drop (k+1):=zK (by rw [yK,zN]; omega);have hset:((ys.map λz:Nat=>uv z).set k (uv (v:Nat)))[k]?=some (uv (v:Nat)):=xN (by rw [zN]; omega)
     by_cases hfx:q0M v
     .rw [decide_eq_true hfx] at cF;rw [if_pos hfx] at hv;refine wk1 (x6 ek wj ww htk hu (x4 rk es1 es2 hset)) ?_;refine ⟨(k,ys.set k v),⟨by simp only; omega,by simp only; rw [yW]; exact hy,q4r hfy hqlt hfx,hv⟩,by simp only; omega,?_⟩;simp only;refine LeW [] rfl rfl ?_ ?_ (by simp [q0f,q0b,win]) ?_
      .exact Ow
      .exact hW
      .try simp -implicitDefEqProofs (disch:=omega) only [go_sem,Nat.reduceEqDiff,Nat.reduceAdd,↓reduceIte]
     .rw [decide_eq_false hfx] at cF;rw [if_neg hfx] at hv;subst hv;refine wk1 (x6 ek wj ww htk hu (x4 rk es1 es2 hset)) ?_;refine (rtM (rs:=[.tmp 4,.tmp 5]) rfl rfl Lq ?_ (.inl rfl));exact LeEn hJ

def rgL (G:Nat->Nat->Option Nat) (i:Nat):Nat->List Int
 | 0=>[q0s]
 | k+1=>if k=i then rgL G i k else rgL G i k ++ [((ofZ ((G k i).getD 0)).natAbs:Int),((ofZ ((G i k).getD 0)).natAbs:Int)]
def rgF (G:Nat->Nat->Option Nat) (n j i:Nat):Option Nat:=if i=j then some (fR 2 (q1L (rgL G i n))) else G j i
def qdv {G:Nat->Nat->Option Nat} {n i:Nat} (h:TOk G n n) (hi:i < n):∀ k,k<=n->(rgL G i k).length<=2*k+1/\∀ x ∈ rgL G i k,bl x.natAbs<=67600
 | 0,_=>⟨zO _,λx hx=>by unfold rgL at hx; simp at hx; subst hx; exact q5W.2⟩
 | k+1,hk=>by
  obtain ⟨h1,h2⟩:=qdv h hi k Oq;unfold rgL
  split
  .exact ⟨ω,h2⟩
  .refine ⟨by simp; omega,λx hx=>?_⟩
   rcases yB.1 hx with hx | hx
   .exact h2 x hx
   .simp at hx
    rcases hx with rfl | rfl <;> rw [zF]
    .exact q40 (h.fin Oq Oq).1
    .exact q40 (h.fin Oq Oq).1
def qcI {raw:List Nat} {st:Int} {n:Nat} (hr:raw.length<=9223372036854775807) (hn:n<=100) (h3 : -9223372036854775808<=st) (h4:st<=9223372036854775807) :
  ACt 40 [pF raw,iv n,iv st] (pT n n (rgF (gF raw n (q1A (q1A st 3:Nat) 4)) n)):=by
 have hs3:q1A st 3 < 3:=by unfold q1A; omega
 have hnn:n*n<=100*100:=zI hn hn;have cM:=q8Q (a:=st) (n:=3) h3 h4 Oq Oq;have cG:=q56 (raw:=raw) (st:=(q1A st 3:Nat)) (R:=n) (C:=n) hr Oq Oq Oq Oq;have hG:=qoe (raw:=raw) (R:=n) (C:=n) (st:=q1A (q1A st 3:Nat) 4) Oq Oq Oq;generalize gF raw n (q1A (q1A st 3:Nat) 4)=G at *;have cA:∀ {i j:Nat},i < n->j < n->_:=λ{i j} hi hj=>qa4 (i:=i) (j:=j) hG hi hj;have cS:∀ {i j:Nat},i < n->j < n->_:=λ{i j} hi hj=>qcC (i:=i) (j:=j) hG hi hj;generalize hFn:rgF G n=F;have hpt:pT n n F=pM n n (tM F n n):=rfl;have hpG:pT n n G=q26 n n (tM G n n).1 (tM G n n).2.1 (tM G n n).2.2:=rfl;rw [hpG] at cG;simp only [hpG] at cA cS;rw [hpt];clear hpG hpt;unfold q26 at cG cA cS;generalize (tM G n n).1=gs at *;generalize (tM G n n).2.1=gi at *;generalize (tM G n n).2.2=gv at *;have c1:=q3c (z:=1) Oq Oq q5W.1;refine ac0 Tryz.func40 Tryz.ntmps40 [.cell 6 26] ?_;refine wk ?_;refine q0B (λj=>j<=n) [1,6,7,8] [6,7] Lk Lk (λj:Nat=>[(9,iv j)]) (λj=>[(8,⟨26,some 5,[.ag [iv n,iv n,.ow 1001 none 0 (tM F n j).1.length,.ow 1002 none 0 (tM F n j).2.1.length,.ow 1003 none 0 (tM F n j).2.2.length]],false⟩),(1001,⟨3,none,(tM F n j).1.map λz=>iv z,false⟩),(1002,⟨3,none,(tM F n j).2.1.map λz=>iv z,false⟩),(1003,⟨32,none,(tM F n j).2.2.map λz:Nat=>uv z,false⟩)]) (λj=>n-j) 0 (zD _) ?_ ?_
 .refine LeM [(1001,some 21),(1002,none),(1003,none)] rfl rfl ?_;refine Zz ?_;exact ⟨rfl,⟨rfl,rfl,rfl⟩,rfl,rfl,rfl⟩
 .intro j hj;have hg:=q1Y (f:=F) (R:=n) j;have hjn:j*n<=100*100:=zI Oq hn;refine wk ?_
  by_cases hlt:j < n
  .have hlt':(j:Int) < n:=ω
   refine wk1 hlt' ?_;have hM1:(tM F n (j+1)).1=(tM F n j).1 ++ [((tC F j (tM F n j).2 n).1.length:Int)]:=rfl;have hM2:(tM F n (j+1)).2=tC F j (tM F n j).2 n:=rfl;generalize (tM F n j).1=ms at *;generalize (tM F n j).2=mp at *;refine q0B (λi=>i<=n) [1,6,7,8,9] [6,7,1001] Lk Lk (λi:Nat=>[(10,iv i)]) (λi=>[(8,⟨26,some 5,[.ag [iv n,iv n,.ow 1001 none 0 ms.length,.ow 1002 none 0 (tC F j mp i).1.length,.ow 1003 none 0 (tC F j mp i).2.length]],false⟩),(1002,⟨3,none,(tC F j mp i).1.map λz=>iv z,false⟩),(1003,⟨32,none,(tC F j mp i).2.map λz:Nat=>uv z,false⟩)]) (λi=>n-i) 0 (zD _) ?_ ?_
   .refine LeM [] rfl rfl ?_;refine Zz ?_;exact ⟨rfl,⟨rfl,rfl⟩,rfl,rfl⟩
   .intro i hi;have hq:=q7y (f:=F) (j:=j) hg.2.1 i;refine wk ?_
    by_cases hlt2:i < n
    .have hlt2':(i:Int) < n:=ω
     refine wk1 hlt2' ?_
     by_cases hij:i=j
     .have e1:((i:Int) == (j:Int))=true:=by simp; omega
      have hF:F j i=some (fR 2 (q1L (rgL G i n))):=by rw [<- hFn]; unfold rgF; rw [if_pos hij]
      obtain ⟨z,hz⟩:∃ z,z=fR 2 (q1L (rgL G i n)):=⟨_,rfl⟩;rw [<- hz] at hF;have eg:=qd2 (p:=mp) hF;refine wk1 e1 ?_;refine q0B (λk=>k<=n) [1,6,7,8,9,10] [6,7,8,1001,1002,1003] Lk Lk (λk:Nat=>[(12,iv k),(11,.ow 1004 (some 4) 0 (rgL G i k).length)]) (λk=>[(1004,⟨46,some 4,(rgL G i k).map λV=>pV V,false⟩)]) (λk=>n-k) 0 (zD _) ?_ ?_
      .refine LeM [(1004,some 37)] rfl rfl ?_;refine Zz ?_;exact ⟨⟨rfl,rfl⟩,q0O rfl clV⟩
      .intro k hk;obtain ⟨d1,d2⟩:=qdv hG hlt2 k hk;refine wk ?_
       by_cases hlk:k < n
       .have hlk':(k:Int) < n:=ω
        refine wk1 hlk' ?_
        by_cases hki:k=i
        .have e2:((k:Int) != (i:Int))=false:=by simp; omega
         have es:rgL G i (k+1)=rgL G i k:=by rw [rgL,if_pos hki]
         refine wk1 e2 ?_;refine ⟨k+1,ω,ω,?_⟩;rw [es];refine LeM [] rfl rfl ?_;refine Zz ?_;exact ⟨ω,q0O rfl clV⟩
        .have e2:((k:Int) != (i:Int))=true:=by simp; omega
         obtain ⟨u,hu⟩:∃ u,u=(G k i).getD 0:=⟨_,rfl⟩;obtain ⟨v,hv⟩:∃ u,u=(G i k).getD 0:=⟨_,rfl⟩;obtain ⟨f1,f2⟩:=hG.fin (j:=k) (i:=i) hlk hlt2;obtain ⟨g1,g2⟩:=hG.fin (j:=i) (i:=k) hlt2 hlk;have cE:=cA hlt2 hlk;have cE2:=cA hlk hlt2;rw [<- hu] at f1 f2 cE;rw [<- hv] at g1 g2 cE2;have cO:=q1k f2 (q0e f1);have cO2:=q1k g2 (q0e g1);have es:rgL G i (k+1)=rgL G i k ++ [((ofZ u).natAbs:Int),((ofZ v).natAbs:Int)]:=by rw [rgL,if_neg hki,hu,hv]
         have C1:=@q71;refine wk1 e2 ?_;refine ⟨k+1,ω,ω,?_⟩;rw [es];refine LeM [(1004,some 60)] rfl rfl ?_;refine Zz ?_;exact ⟨ω,q0O σ clV⟩
       .have hlk':¬ (k:Int) < n:=ω
        obtain rfl:k=n:=ω
        have hsd:=qa5 d2 Oq;have C2:=q9u (l:=rgL G i k) Oq hsd;have C3:=q2J (V:=q1L (rgL G i k));have C4:=q5T (V:=q1L (rgL G i k)) (mode:=2);rw [<- hz] at C4;refine wk1 hlk' ?_;refine ⟨i+1,ω,ω,?_⟩;rw [eg];refine LeM [(1002,some 65),(1003,some 73)] rfl rfl ?_;refine Zz ?_;omega
     .have e1:((i:Int) == (j:Int))=false:=by simp; omega
      have hF:F j i=G j i:=by rw [<- hFn]; unfold rgF; rw [if_neg hij]
      have C5:=(cS hlt2 hlt);refine wk1 e1 ?_;have cE:=cA hlt2 hlt;cases hx:G j i with
      | none =>
       rw [hx] at hF;have eg:=qcE (p:=mp) hF;have ei:(none:Option Nat).isSome=false:=rfl;refine wk1 ei ?_;refine ⟨i+1,ω,ω,?_⟩;rw [eg];refine LeM [] rfl rfl ?_;refine Zz ?_;omega
      | some z =>
       rw [hx] at hF cE;rw [Option.getD_some] at cE;have eg:=qd2 (p:=mp) hF;have ei:(some z).isSome=true:=rfl;refine wk1 ei ?_;refine ⟨i+1,ω,ω,?_⟩;rw [eg];refine LeM [(1002,some 83),(1003,some 92)] rfl rfl ?_;refine Zz ?_;omega
    .have hlt2':¬ (i:Int) < n:=ω
     obtain rfl:i=n:=ω
     refine wk1 hlt2' ?_;refine ⟨j+1,ω,ω,?_⟩;rw [hM1,hM2];refine LeM [(1001,some 100)] rfl rfl ?_;refine Zz ?_;omega
  .have hlt':¬ (j:Int) < n:=ω
   obtain rfl:j=n:=ω
   exact wk1 hlt' trivial
def qdx {raw:List Nat} {R k i:Nat} (hk:k < 3):∀ m,∀ x ∈ rgL (gF raw R k) i m,bl x.natAbs<=66000
 | 0,x,hx=>by unfold rgL at hx; simp at hx; subst hx; exact q4P
 | m+1,x,hx=>by
  unfold rgL at hx
  split at hx
  .exact qdx hk m x hx
  .rcases yB.1 hx with hx | hx
   .exact qdx hk m x hx
   .simp at hx
    rcases hx with rfl | rfl
    all_goals
     rw [zF];exact gF_bl hk
def qtE {raw:List Nat} {n k:Nat} (hn:n<=100) (hk:k < 3):TOk (rgF (gF raw n k) n) n n:=by
 have hnn:n*n<=100*100:=zI hn hn;have hG:=qoe (raw:=raw) (R:=n) (C:=n) (st:=k) Oq Oq Oq;have key:∀ i,i < n->q0M (fR 2 (q1L (rgL (gF raw n k) i n))):=λi hi=>by
  have hl:=(qdv hG hi n (zO _)).1;have h1:=q5K (K:=66000) (qdx (raw:=raw) (R:=n) (i:=i) hk n) (i:=(rgL (gF raw n k) i n).length) Oq;rw [zX] at h1;obtain ⟨c,hc⟩:∃ c,c=900:=⟨_,rfl⟩;obtain ⟨K,hK⟩:∃ K,K=65536:=⟨_,rfl⟩;refine quf hK hc (Nat.lt_of_lt_of_le (q24 _) ?_);rw [<- zQ];exact zJ Oq Oq
 refine ⟨hG.r,hG.c,hG.m,λj i x hj hi h=>?_,λj i x hj hi h=>?_⟩
 .unfold rgF at h
  split at h
  .have h:=xD.inj h; rw [<- h]; exact q86
  .exact hG.u j i x hj hi h
 .unfold rgF at h
  split at h
  .have h:=xD.inj h; rw [<- h]; exact key i hi
  .exact hG.v j i x hj hi h
def qla {F:Nat->Nat->Option Nat} {mi:List Int} {n:Nat} {cols:List Int} {num den:Nat} (hn:n<=100) (hc:cols.length<=1000000):LUb (qgr F mi n cols num den)/\(qgr F mi n cols num den).rows.length<=n:=by
 have hnn:n*n<=100*100:=zI hn hn;unfold qgr
 by_cases h:(q27 F mi n cols num den n).1=0
 .rw [if_pos h];have hG:=q58 (F:=F) (mi:=mi) (n:=n) (cols:=cols) (num:=num) (den:=den) n h;generalize (q27 F mi n cols num den n).2.2=S at *;have k1:∀ j i x,fLt S j i=some x->q0M x/\x < 18446744073709551616:=λj i x hx=>by
   unfold fLt at hx
   split at hx
   .cases hx; exact hG.l _ _
   .cases hx
  have k2:∀ j i x,fUt S j i=some x->q0M x/\x < 18446744073709551616:=λj i x hx=>by
   unfold fUt at hx
   split at hx
   .cases hx; exact hG.u _ _
   .cases hx
  have h1:TOk (fLt S) n n:=⟨ω,ω,ω,λj i x _ _ hx=>(k1 j i x hx).2,λj i x _ _ hx=>(k1 j i x hx).1⟩;have h2:TOk (fUt S) n n:=⟨ω,ω,ω,λj i x _ _ hx=>(k2 j i x hx).2,λj i x _ _ hx=>(k2 j i x hx).1⟩;have l1:=q1Y (f:=fLt S) (R:=n) n;have l2:=q1Y (f:=fUt S) (R:=n) n;have hrl:=hG.len;unfold q9A;refine ⟨⟨?_,hc,?_,?_,?_,?_,?_,?_,h1.vl.2.2.2,h2.vl.2.2.2⟩,?_⟩ <;> dsimp only <;> (try rw [zN]) <;> omega
 .rw [if_neg h];exact ⟨⟨σ,σ,σ,σ,σ,σ,σ,σ,σ,σ⟩,zD _⟩
end Go.Proofs.YtbjoghfmhgadkaaGreatDoor
namespace Go.Sp
open Go Go.E
end Go.Sp
namespace Go.Proofs.YtbjoghfmhgadkaaGreatDoor
open Go Go.E Go.Sp
def qgy {f:LUt} {l:List Nat} (hb:LUb f) (hn:f.rows.length<=100) (hul:∀ x ∈ l,x < 18446744073709551616) (hl:l.length<=1000000):ACt 124 [pLU f,pF l] (.tu [pF (lgE f l).1,iv (lgE f l).2]):=by
 refine qkM (ids:=[5000]) (qm5 hb hn hul hl) ?_;generalize (lgE f l).1=xs;generalize (lgE f l).2=e;have h1:q3G (q0Q h0 5000 ⟨32,none,xs.map λz:Nat=>uv z,false⟩) (.ow 5000 none 0 xs.length)=some (pF xs,[5000]):=by
  unfold q3G;dsimp only;rw [q0I,xH,if_pos ⟨rfl,rfl,λx hx=>clU x hx⟩,yS,zK (by rw [zN]; exact zO _)]
 have h2:q3G (q0Q h0 5000 ⟨32,none,xs.map λz:Nat=>uv z,false⟩) (iv e)=some (iv e,[]):=by
  unfold q3G;dsimp only;exact if_pos trivial
 unfold q2n q2n q2n clo;simp only [h1,h2]
 rfl
section
variable (C:Nat) (F:Nat->Nat->Option Nat) (f:LUt) (b:List Nat) (dbl:Bool)
end
def qdo {x:List Nat} {o:List Int} {n:Nat} (hx:q1N x):∀ k,q1N (scS x o n k)
 | 0=>λv hv=>by
  unfold scS at hv;rw [yH] at hv;rw [hv.2]; exact ⟨ω,by unfold q0M; simp⟩
 | k+1=>λv hv=>by
  unfold scS at hv
  rcases yM hv with hv | rfl
  .exact qdo hx k v hv
  .exact qbF hx _
def qlW {f:LUt} {l:List Nat} (hb:LUb f) (hul:∀ x ∈ l,x < 18446744073709551616) (h:(lgE f l).2=0):q7n f=0/\l.length=f.rows.length/\q1N l/\(lgE f l).1.length=f.rows.length/\q1N (lgE f l).1:=by
 unfold lgE at h ⊢
 by_cases hz:qh0 (q7n f) f.rows.length l=0
 case neg=>rw [if_pos hz] at h; exact absurd h hz
 rw [if_neg (not_not_intro hz)] at h ⊢;obtain ⟨h1,h2,h3⟩:=qsg hz;have hf:=qaP hb h1;have hfl:q1N l:=λx hx=>⟨hul x hx,h3 x hx⟩;have hlr:∀ y,geL (cLo f) f.rows.length 0 (gaS l f.rows f.rows.length)=some y->y.length=f.rows.length/\q1N y:=λy hy=>qfM _ _ _ y qfN (qfO hfl) hy;have dU:∀ k,k < f.rows.length->ofZ (cUp f k k)≠0:=λk hk=>by
  obtain ⟨m,x,m1,m2,m3⟩:=hf.dg k hk;have:=q9w (t:=m.length) (e:=(k,x)) (hf.U.nd k hk) (by rw [m1]; simp);unfold cUp;rw [this];exact m2
 refine ⟨h1,h2,hfl,?_⟩;generalize geL (cLo f) f.rows.length 0 (gaS l f.rows f.rows.length)=R1 at *;cases R1 with
 | none=>cases h
 | some y =>
  obtain ⟨q1,q2⟩:=hlr y rfl;have hur:∀ z,geU (cUp f) f.rows.length f.rows.length y=some z->z.length=f.rows.length/\q1N z:=λz hz=>qfL dU _ y z (zO _) q1 q2 hz;dsimp only at h ⊢;generalize geU (cUp f) f.rows.length f.rows.length y=R2 at *;cases R2 with
  | none=>cases h
  | some z=>exact ⟨q6q _,qdo (hur z rfl).2 _⟩
section
variable {dbl:Bool} {x:List (Nat × Nat)} {d l:List Nat} {n:Nat}
end
section
variable {f g:Nat}
end
section
variable {l:List Nat}
end
end Go.Proofs.YtbjoghfmhgadkaaGreatDoor
namespace Go.E
open Go Go.RowKit
def qx5 {T:TypeId} {id n:Nat} {k:Kd} {h h':Hp} {l:List PV} [NL] (h1:h id=some ⟨T,k,l,false⟩) (hc:ClL l) (h2:h' id=none) (hn:l.length=n):LeV (q0b []) h h' (.ow id k 0 n) (.sl k l):=q8r (T:=T) (l:=l) h1 hc (λi hi=>by
 have hi:some i=some id:=hi;cases hi;exact h2) (by rw [yS]; exact zK ω)
end Go.E
namespace Go.Sp
open Go.E Go.Proofs.YtbjoghfmhgadkaaGreatDoor
end Go.Sp
namespace Go.Proofs.YtbjoghfmhgadkaaGreatDoor
open Go Go.E Go.Sp
def unN (n j:Nat):List Nat:=(List.replicate n 0).set j 4607182418800017408
section
variable {f:Nat->Nat->Option Nat} {g:LUt} {R C n j:Nat}
def qdL:(unN n j).length=n:=by unfold unN; simp
def qmk:∀ x ∈ unN n j,x < 18446744073709551616:=λx hx=>by
 unfold unN at hx
 rcases yM hx with h | h
 .have:=(yH.1 h).2; omega
 .omega
def unN_v:(List.replicate n (PV.vl (.int .u64 0))).set j (PV.vl (.int .u64 4607182418800017408))=(unN n j).map λz:Nat=>uv z:=by
 unfold unN;rw [List.map_set,List.map_replicate]
 rfl
end
end Go.Proofs.YtbjoghfmhgadkaaGreatDoor
namespace Go.Sp
open Go Go.E Go.Proofs.YtbjoghfmhgadkaaGreatDoor
end Go.Sp
namespace Go.Proofs.YtbjoghfmhgadkaaGreatDoor
open Go Go.E Go.Sp
section
variable {mode A:Int} {a b:Nat}
end
def mlk (k:Nat) (z:Int):Prop:=∃ m:Int,z=m*(2:Int) ^ (65536-k)
def qoL {k:Nat}:mlk k 0:=⟨0,(yQ _).symm⟩
def qoK {k:Nat} {a b:Int} (ha:mlk k a) (hb:mlk k b):mlk k (a+b):=by
 obtain ⟨x,rfl⟩:=ha;obtain ⟨y,rfl⟩:=hb;exact ⟨x+y,(Int.add_mul _ _ _).symm⟩
def qed {k:Nat} {a:Int} (ha:mlk k a):mlk k (-a):=by
 obtain ⟨x,rfl⟩:=ha;exact ⟨-x,(xS _ _).symm⟩
def qoI {k:Nat} {a b:Int} (ha:mlk k a) (hb:mlk k b):mlk k (a-b):=by
 rw [Int.sub_eq_add_neg];exact qoK ha (qed hb)
def qiC {j k:Nat} {a:Int} (h:j<=k) (hk:k<=65536) (ha:mlk j a):mlk k a:=by
 obtain ⟨x,rfl⟩:=ha;exact ⟨x*(2:Int) ^ (k-j),by rw [zZ,<- uR,show k-j+(65536-k)=65536-j by omega]⟩
def qoJ {j k K:Nat} {a b c:Int} (hK:K=65536) (ha:mlk j a) (hb:mlk k b) (hjk:j+k<=65536) (h:a*b=c*(2:Int) ^ K):mlk (j+k) c:=by
 obtain ⟨x,hx⟩:=ha;obtain ⟨y,hy⟩:=hb;refine ⟨x*y,Int.eq_of_mul_eq_mul_right (uT (q0N K)) ?_⟩;rw [<- h,hx,hy];have:∀ p q:Int,x*p*(y*q)=x*y*(p*q):=λp q=>by rw [zZ,zZ,yR p y q]
 rw [this,zZ (x*y),<- uR,<- uR,show 65536-j+(65536-k)=65536-(j+k)+K by omega]
section
variable {F:Nat->Nat->Option Nat} {n:Nat} {b z v:List Nat}
end
section
variable {f k t K B:Nat} {V d l:Int}
def q0a (u:Nat):((2:Int) ^ u).natAbs=2 ^ u:=by rw [Int.natAbs_pow]; rfl
def qbo (hf:q0M f):q3I f < 9223372036854775808/\q0M (q3I f):=by
 unfold q3I q0M at *;omega
def q98 {u:Nat} {m:Int} (h:65536<=u+k):mlk k (m*(2:Int) ^ u):=by
 obtain ⟨c,hc⟩:∃ c,u=c+(65536-k):=⟨u-(65536-k),ω⟩;exact ⟨m*(2:Int) ^ c,by rw [hc,uR,zZ]⟩
def flt_k (hK:K=65536) (hu:f < 18446744073709551616) (hf:q0M f) (ht:t<=1000) (h:2 ^ (K-t)<=(ofZ f).natAbs):mlk (t+53) (ofZ f):=by
 obtain ⟨a1,a2⟩:=qbo hf;have h1:=q94 a1 a2;have h2:=q95 hu hf;have hm:(if q3I f / 4503599627370496=0 then q3I f else 4503599627370496+q3I f % 4503599627370496:Nat) < 2 ^ 53:=by
  have:(2:Nat) ^ 53=9007199254740992:=by decide
  split <;> omega
 generalize (if q3I f / 4503599627370496=0 then q3I f else 4503599627370496+q3I f % 4503599627370496:Nat)=m at h1 hm;generalize qrC (q3I f)=u at h1;rw [h1] at h2;have h3:(ofZ f).natAbs=m*2 ^ u:=by
  have:(((ofZ f).natAbs:Nat):Int)=((m*2 ^ u:Nat):Int):=by rw [h2]; push_cast; rfl
  exact_mod_cast this
 have h4:2 ^ (K-t) < 2 ^ (53+u):=by
  rw [zQ];rw [h3] at h;exact Nat.lt_of_le_of_lt h (Nat.mul_lt_mul_of_pos_right hm (yV Oq))
 have h5:=(Nat.pow_lt_pow_iff_right (by omega:1 < 2)).1 h4;have h6:ofZ f=m*(2:Int) ^ u\/ofZ f = -(m*(2:Int) ^ u):=ω
 rcases h6 with e | e
 .rw [e]; exact q98 ω
 .rw [e,<- xS]; exact q98 ω
def fR_k (hK:K=65536) (hk:k<=1074) (h:mlk k V) (hf:q0M (fR 0 V)):mlk k (ofZ (fR 0 V))/\(ofZ (fR 0 V)).natAbs<=2*V.natAbs/\V.natAbs<=2*(ofZ (fR 0 V)).natAbs:=by
 by_cases h0:V=0
 .subst h0;have:ofZ (fR 0 0)=0:=by have:=q0V q2A; simpa [fR] using this
  rw [this];exact ⟨qoL,ω,ω⟩
 obtain ⟨u,r,h1,h2,_,h4,h5,h6,h7⟩:=qfa hK h0 hf;obtain ⟨m,hm⟩:=h;generalize ofZ (fR 0 V)=q at *;have hs:q.natAbs=r*2 ^ u:=by
  rw [h4,zH,q0a]
  congr 1
  unfold sgn
  split <;> omega
 have p:0 < 2 ^ u:=yV Oq
 by_cases hu:u+k<=K
 .obtain ⟨c,hc⟩:∃ c,(65536-k)=u+c:=⟨65536-k-u,ω⟩;have e:V-q=(m*(2:Int) ^ c-sgn (decide (V < 0)) r)*(2:Int) ^ u:=by
   rw [h4,hm,hc,uR,Int.sub_mul,zZ,x9 ((2:Int) ^ c)]
  have e2:(V-q).natAbs=(m*(2:Int) ^ c-sgn (decide (V < 0)) r).natAbs*2 ^ u:=by rw [e,zH,q0a]
  have e3:(m*(2:Int) ^ c-sgn (decide (V < 0)) r).natAbs=0:=by
   rcases Nat.eq_zero_or_pos (m*(2:Int) ^ c-sgn (decide (V < 0)) r).natAbs with z | z
   .exact z
   .have:=zM (2 ^ u) z;generalize (m*(2:Int) ^ c-sgn (decide (V < 0)) r).natAbs*2 ^ u=X at *;generalize 2 ^ u=Y at *;omega
  have e4:q=V:=by rw [e3,uV] at e2; omega
  rw [e4];exact ⟨⟨m,hm⟩,ω,ω⟩
 .refine ⟨by rw [h4]; exact q98 ω,?_⟩;have h8:4503599627370496*2 ^ u<=r*2 ^ u:=zM _ Oq;rw [<- hs] at h8;generalize 2 ^ u=Y at *;omega
def q6T {X Y:Int} {a:Nat} (h:(X-Y).natAbs<=a):Y.natAbs<=X.natAbs+a/\X.natAbs<=Y.natAbs+a:=ω
def qtY (hK:K=65536) (hl:0 < l) (hd0:d≠0) (hk:mlk k d) (hl2:l.natAbs<=2 ^ (K+B)) (hkB:k+B+2<=1000) (hf:q0M (fQ 0 d l)):mlk (k+B+55) (ofZ (fQ 0 d l)):=by
 have e:=qeJ hK hl hf;have hlt:fQ 0 d l < 18446744073709551616:=q87 Oq;generalize fQ 0 d l=f at *;rw [show k+B+55=(k+B+2)+53 by omega];refine flt_k hK hlt hf Oq ?_;refine Nat.le_of_not_lt λhn=>?_;obtain ⟨m,hm⟩:=hk;have hm0:m≠0:=λh=>hd0 (by rw [hm,h,yQ]);have hdn:2 ^ (K-k)<=d.natAbs:=by
  rw [hm,zH,q0a,<- hK];exact yI _ Oq
 have e2:=(q6T e).2;rw [zH,q0a,zH] at e2;generalize d.natAbs=A at *;generalize l.natAbs=L at *;generalize (ofZ f).natAbs=Qn at *;have a1:L*Qn<=2 ^ (K+B)*2 ^ (K-(k+B+2)):=zI hl2 (xL hn);rw [<- zQ,show K+B+(K-(k+B+2))=(2*K-k-3)+1 by omega,y8] at a1;have a2:L*2 ^ (K-1075)<=2 ^ (2*K-k-3):=by
  refine zP (zM _ hl2) ?_;rw [<- zQ];exact zJ Oq Oq
 have a3:A*2 ^ K=A*2 ^ (K-53)*2 ^ 53:=by rw [yE,<- zQ,show K-53+53=K by omega]
 have a4:2 ^ (2*K-k-3)*2 ^ 3<=A*2 ^ K:=by
  rw [<- zQ];refine zP ?_ (zM _ hdn);rw [<- zQ];exact zJ Oq Oq
 have a5:0 < 2 ^ (2*K-k-3):=yV Oq;have c53:(2:Nat) ^ 53=9007199254740992:=by decide
 rw [a3] at e2 a4;rw [c53] at e2 a4;generalize A*2 ^ (K-53)=X at *;generalize 2 ^ (2*K-k-3)=Y at *;generalize L*Qn=Z at *;generalize L*2 ^ (K-1075)=T at *;omega
def qnc (hK:K=65536) (hl:0 < l) (hf:q0M (fQ 0 d l)):l.natAbs*(ofZ (fQ 0 d l)).natAbs<=d.natAbs*2 ^ (K+1)+l.natAbs*2 ^ K:=by
 have e:=(q6T (qeJ hK hl hf)).1;rw [zH,zH,q0a] at e;have a1:d.natAbs*2 ^ (K-53)<=d.natAbs*2 ^ K:=yF _ (zJ Oq Oq);have a2:l.natAbs*2 ^ (K-1075)<=l.natAbs*2 ^ K:=yF _ (zJ Oq Oq);rw [y8,<- yE];omega
def qao {c:Nat} (hK:K=65536) (hl:0 < l) (hd:d.natAbs<=l.natAbs*2 ^ c) (hf:q0M (fQ 0 d l)):(ofZ (fQ 0 d l)).natAbs<=2 ^ (K+c+2):=by
 have e:=qnc hK hl hf;have a1:d.natAbs*2 ^ (K+1)<=l.natAbs*2 ^ c*2 ^ (K+1):=zM _ hd;have a2:2 ^ c*2 ^ (K+1)+2 ^ K<=2 ^ (K+c+2):=by
  rw [<- zQ,show c+(K+1)=K+c+1 by omega,y8 2 (K+c+1)];have:2 ^ K<=2 ^ (K+c+1):=zJ Oq Oq;omega
 rw [yE] at a1;have a3:l.natAbs*(ofZ (fQ 0 d l)).natAbs<=l.natAbs*2 ^ (K+c+2):=by
  refine zP (zP e (Nat.add_le_add_right a1 _)) ?_;rw [<- Nat.mul_add];exact yF _ a2
 exact Nat.le_of_mul_le_mul_left a3 Oq
end
def qni {m:Int} {k c:Nat} (h:c<=k):(2:Int) ^ c ∣ m*(2:Int) ^ k:=by
 obtain ⟨e,rfl⟩:∃ e,k=c+e:=⟨k-c,ω⟩;rw [uR,yR];exact Int.dvd_mul_right _ _
def q7G {x y K:Nat} (hK:K=65536) (hx:q0M x) (hy:q0M y):q1M x y*(2:Int) ^ K=ofZ x*ofZ y/\∀ c,c<=60000->(2:Int) ^ c ∣ q1M x y:=by
 obtain ⟨m,k,h,h1,h2,h3⟩:=q2B hx;obtain ⟨m',k',h',h1',h2',h3'⟩:=q2B hy;have e:ofZ x*ofZ y=m*m'*(2:Int) ^ (k+k'):=by
  rw [q0V h,q0V h',uR];simp only [zZ,yR,x9]
 have hb:bl (m*m').natAbs<=106:=by
  rw [zH];exact zP (q1W _ _) Oq
 have hm:=q51 (m:=m*m') (E := -131072+((k+k':Nat):Int)) Oq Oq;obtain ⟨t,ht⟩:∃ t,t=(-131072+((k+k':Nat):Int)+65536).toNat:=⟨_,rfl⟩;rw [<- ht] at hm;have hv:q1M x y=m*m'*(2:Int) ^ t:=by
  unfold q1M;rw [e,q1U,hm]; rfl
 refine ⟨?_,λc hc=>?_⟩
 .rw [hv,e,zZ,<- uR,show t+K=k+k' by omega]
 .rw [hv]; exact qni Oq
section
variable {F:Nat->Nat->Option Nat} {mi:List Int} {n:Nat} {S q r:LuS} {i j k m K a num den:Nat} {v:Nat->Nat} {w:Int}
def aL (a:Nat):Nat->Nat
 | 0=>0
 | m+1=>2*aL a m+a+72
def qxM (ha:a<=7):∀ m,m<=3->aL a m<=553/\aL a m<=553
 | 0,_=>by simp [aL]
 | 1,_=>by simp only [aL]; omega
 | 2,_=>by simp only [aL]; omega
 | 3,_=>by simp only [aL]; omega
 | m+4,h=>by omega
def quh {mode d l:Int} (hd:d≠0) (hl:l≠0):fQ mode (-d) (-l)=fQ mode d l:=by
 unfold fQ;rw [if_neg ω,if_neg hd,zS,zS]
 congr 1
 by_cases h1:d < 0 <;> by_cases h2:l < 0
 .rw [decide_eq_true h1,decide_eq_true h2,decide_eq_false ω,decide_eq_false ω]; rfl
 .rw [decide_eq_true h1,decide_eq_false h2,decide_eq_false ω,decide_eq_true ω]; rfl
 .rw [decide_eq_false h1,decide_eq_true h2,decide_eq_true ω,decide_eq_false ω]; rfl
 .rw [decide_eq_false h1,decide_eq_false h2,decide_eq_true ω,decide_eq_true ω]; rfl
def q3e:ofZ 0=0:=q0V q2A
def qtZ {d l:Int} {B c t:Nat} (hK:K=65536) (hl:l≠0) (hk:mlk k d) (hl2:l.natAbs<=2 ^ (K+B)) (hkB:k+B+2<=1000) (hd:d.natAbs<=l.natAbs*2 ^ c) (hf:q0M (q8z 0 d l)) (ht:t=k+B+55):mlk t (ofZ (q8z 0 d l))/\(ofZ (q8z 0 d l)).natAbs<=2 ^ (K+c+2):=by
 unfold q8z at hf ⊢;rw [if_neg hl] at hf ⊢;subst ht
 by_cases h0:d=0
 .subst h0;have:fQ 0 0 l=0:=by unfold fQ; rw [if_pos rfl]
  rw [this,q3e];exact ⟨qoL,zD _⟩
 .by_cases hp:0 < l
  .exact ⟨qtY hK hp h0 hk hl2 hkB hf,qao hK hp hd hf⟩
  .rw [<- quh h0 hl] at hf ⊢;exact ⟨qtY hK ω ω (qed hk) (by rw [zS]; exact hl2) hkB hf,qao hK ω (by rw [zS,zS]; exact hd) hf⟩
def qdy {l u:Nat->Nat->Nat} (hK:K=65536) (hF:mlk 0 (ofZ ((F j i).getD 0))/\(ofZ ((F j i).getD 0)).natAbs<=2 ^ (K+a)) (hfl:q4R l) (hfu:q4R u):∀ m,(∀ p,p < m->mlk (aL a p+a+72) (ofZ (l i p))/\(ofZ (l i p)).natAbs<=2 ^ (K+3))->(∀ p,p < m->mlk (aL a p) (ofZ (u p k))/\(ofZ (u p k)).natAbs<=2 ^ (K+a+5*p+1))->aL a m<=60000->mlk (aL a m) (luZ F l u i j k m)/\(luZ F l u i j k m).natAbs<=2 ^ (K+a+5*m)
 | 0,_,_,_=>by
  unfold luZ luL;rw [q4i];exact hF
 | m+1,hl,hu,hm=>by
  have hm':aL a (m+1)=2*aL a m+a+72:=rfl;obtain ⟨i1,i2⟩:=qdy hK hF hfl hfu m (λp hp=>hl p Oq) (λp hp=>hu p Oq) Oq;obtain ⟨l1,l2⟩:=hl m Oq;obtain ⟨u1,u2⟩:=hu m Oq;have e:=(q7G hK (hfl i m).1 (hfu m k).1).1;have e1:mlk (aL a (m+1)) (q1M (l i m) (u m k)):=by
   have:=qoJ hK l1 u1 Oq e.symm;rw [show aL a m+a+72+aL a m=aL a (m+1) by omega] at this;exact this
  have e2:(q1M (l i m) (u m k)).natAbs<=2 ^ (K+a+5*m+4):=by
   have h1:(q1M (l i m) (u m k)).natAbs*2 ^ K<=2 ^ (K+3)*2 ^ (K+a+5*m+1):=by
    have h2:=congrArg xZ e;rw [zH,zH,q0a] at h2;rw [h2];exact zI l2 u2
   rw [<- zQ,show K+3+(K+a+5*m+1)=K+a+5*m+4+K by omega,zQ] at h1;exact xB h1 (yV Oq)
  have e3:luZ F l u i j k (m+1)=luZ F l u i j k m-q1M (l i m) (u m k):=by
   unfold luZ;rw [luL,q0j,Int.sub_eq_add_neg]
  rw [e3];refine ⟨qoI (qiC Oq Oq i1) e1,?_⟩;have e4:2 ^ (K+a+5*m+4)=2 ^ (K+a+5*m)*16:=by rw [zQ]
  have e5:2 ^ (K+a+5*(m+1))=2 ^ (K+a+5*m)*32:=by rw [show K+a+5*(m+1)=K+a+5*m+5 by omega,zQ]
  rw [e4] at e2;rw [e5];generalize 2 ^ (K+a+5*m)=Y at *;omega
structure LBd (K a k:Nat) (S:LuS):Prop where
 l:∀ i p,p < k->mlk (aL a p+a+72) (ofZ (S.l i p))/\(ofZ (S.l i p)).natAbs<=2 ^ (K+3)
 z:∀ i p,k<=p->S.l i p=0
 u:∀ m c,m<=c->c < k->mlk (aL a m) (ofZ (S.u m c))/\(ofZ (S.u m c)).natAbs<=2 ^ (K+a+5*m+1)
 d:∀ c,c < k->ofZ (S.u c c)≠0
def q7N {g:Nat->Nat->Nat} {x y v:Nat}:q2N g x y v x y=v:=by unfold q2N; rw [if_pos ⟨rfl,rfl⟩]
def q3U {g:Nat->Nat->Nat} {x y v x' y':Nat} (h:¬ (x'=x/\y'=y)):q2N g x y v x' y'=g x' y':=by unfold q2N; rw [if_neg h]
def que {V:Int} {b c:Nat} (hK:K=65536) (hk:k<=1074) (h:mlk k V) (hb:V.natAbs<=2 ^ b) (hf:q0M (fR 0 V)) (hc:c=b+1):mlk k (ofZ (fR 0 V))/\(ofZ (fR 0 V)).natAbs<=2 ^ c:=by
 obtain ⟨h1,h2,_⟩:=fR_k hK hk h hf;refine ⟨h1,?_⟩;rw [hc,y8];omega
def qra (hK:K=65536) (ha:a<=7) (hk:k<=3) (hF:∀ i,mlk 0 (ofZ ((F j i).getD 0))/\(ofZ ((F j i).getD 0)).natAbs<=2 ^ (K+a)) (hg:q4R S.l) (hgu:q4R S.u) (hB:LBd K a k S):∀ (m:Nat) (q:LuS),m<=k->upS F S j k m=some q->q.l=S.l/\(∀ x c,c≠k->q.u x c=S.u x c)/\∀ p,p < m->mlk (aL a p) (ofZ (q.u p k))/\(ofZ (q.u p k)).natAbs<=2 ^ (K+a+5*p+1)
 | 0,q,_,h=>by unfold upS at h; cases h; exact ⟨rfl,λ_ _ _=>rfl,λp hp=>by omega⟩
 | m+1,q,hm,h=>by
  unfold upS at h;obtain ⟨t,ht,h⟩:=xI.1 h;obtain ⟨q1,q2,q3⟩:=qra hK ha hk hF hg hgu hB m t Oq ht;obtain ⟨g1,g2,_⟩:=qaX m t hg hgu ht
  split at h
  .rename_i hfin;cases h;refine ⟨q1,λx c hc=>by rw [<- q2 x c hc]; exact q3U λh=>hc h.2,λp hp=>?_⟩
   by_cases hpm:p=m
   .subst hpm
    show mlk _ (ofZ (q2N _ p k _ p k))/\(ofZ (q2N _ p k _ p k)).natAbs<=_
    rw [q7N];have hr:=qdy (l:=t.l) (u:=t.u) (k:=k) hK (hF (S.rows.getD p 0)) g1 g2 p (λp' hp'=>by rw [q1]; exact hB.l _ p' ω) (λp' hp'=>q3 p' hp') (by have:=(qxM ha p ω).1; omega);exact que hK (by have:=(qxM ha p Oq).1; omega) hr.1 hr.2 hfin rfl
   .show mlk _ (ofZ (q2N _ m k _ p k))/\(ofZ (q2N _ m k _ p k)).natAbs<=_
    rw [q3U λh=>hpm h.1];exact q3 p Oq
  .cases h
def quC {z:Nat->Int} {d:Int}:∀ (m:Nat) (q:LuS),loS S k z d m=some q->(∀ x c,c≠k->q.l x c=S.l x c)/\∀ x,(x < m/\x ∉ S.rows->q.l x k=q8z 0 (z x) d/\q0M (q8z 0 (z x) d))/\(¬ (x < m/\x ∉ S.rows)->q.l x k=S.l x k)
 | 0,q,h=>by unfold loS at h; cases h; exact ⟨λ_ _ _=>rfl,λx=>⟨λh=>by omega,λ_=>rfl⟩⟩
 | m+1,q,h=>by
  unfold loS at h;obtain ⟨t,ht,h⟩:=xI.1 h;obtain ⟨q1,q2⟩:=quC m t ht
  split at h
  .rename_i hm;cases h;refine ⟨q1,λx=>⟨λhx=>(q2 x).1 ⟨?_,hx.2⟩,λhx=>(q2 x).2 λh=>hx ⟨ω,h.2⟩⟩⟩
   rcases y6 x m with h1 | h1
   .exact h1
   .have:x=m:=ω
    subst this; exact absurd hm hx.2
  .rename_i hm
   split at h
   .rename_i hfin;cases h;refine ⟨λx c hc=>by rw [<- q1 x c hc]; exact q3U λh=>hc h.2,λx=>?_⟩
    show (x < m+1/\x ∉ S.rows->q2N t.l m k _ x k=_/\_)/\(_->q2N t.l m k _ x k=_)
    by_cases hx:x=m
    .subst hx;rw [q7N];exact ⟨λ_=>⟨rfl,hfin⟩,λh=>absurd ⟨ω,hm⟩ h⟩
    .rw [q3U λh=>hx h.1];exact ⟨λh=>(q2 x).1 ⟨ω,h.2⟩,λh=>(q2 x).2 λh'=>h ⟨ω,h'.2⟩⟩
   .cases h
def qlN:∀ (i c:Nat),c < i->abZ (v c)<=mxZ v i
 | 0,c,h=>by omega
 | i+1,c,h=>by
  unfold mxZ
  by_cases hc:c=i
  .subst hc; split <;> omega
  .have:=qlN i c Oq
   split <;> omega
def qgP:∀ i:Nat,0<=bsP v S mi num den w i->¬ (den:Int)*abZ (v (bsP v S mi num den w i).toNat) < num*w
 | 0,h=>by unfold bsP at h; omega
 | i+1,h=>by
  unfold bsP at h ⊢
  split
  .rename_i h1; rw [if_pos h1] at h; exact qgP i h
  .rename_i h1;rw [if_neg h1] at h
   split
   .rename_i h2;rw [uQ];exact λq=>h1 (.inr (.inr q))
   .rename_i h2;rw [if_neg h2] at h;exact qgP i h
def qvd (hK:K=65536) (ha:a<=7) (hk:k<=3) (hF:∀ i,mlk 0 (ofZ ((F j i).getD 0))/\(ofZ ((F j i).getD 0)).natAbs<=2 ^ (K+a)) (hg:LuG n k S) (hB:LBd K a k S) (he:q5e F mi n S j k 1 1=(0,r)):LBd K a (k+1) r:=by
 unfold q5e at he
 split at he
 .cases he
 .rename_i q hq;obtain ⟨g1,g2,g3⟩:=qaX k q hg.l hg.u hq;obtain ⟨q1,q2,q3⟩:=qra hK ha hk hF hg.l hg.u hB k q (zO _) hq;have hrest:∀ i,mlk (aL a k) (rsZ F q j k i)/\(rsZ F q j k i).natAbs<=2 ^ (K+a+5*k):=λi=>by
   unfold rsZ;exact qdy hK (hF i) g1 g2 k (λp hp=>by rw [q1]; exact hB.l i p hp) q3 (by have:=(qxM ha k hk).1; omega)
  have hak:=(qxM ha k hk).1;unfold qvg at he
  split at he
  .rename_i hfin
   split at he
   .cases he
   .rename_i hneg
    split at he
    .cases he
    .rename_i t ht;have hb0:0<=bsP (rsV F q j k) q mi 1 1 (mxZ (rsV F q j k) n) n:=ω
     have b1:=qbb n hb0;have b2:=qgP n hb0;have b3:=(qba (v:=rsV F q j k) (S:=q) (mi:=mi) (num:=1) (den:=1) (w:=mxZ (rsV F q j k) n) n).2;obtain ⟨p,hp⟩:∃ p,p=(bsP (rsV F q j k) q mi 1 1 (mxZ (rsV F q j k) n) n).toNat:=⟨_,rfl⟩;have hpn:p < n:=ω
     rw [<- hp] at ht b1 b2;obtain rfl:t=r:=(Prod.mk.inj he).2;have hmax:∀ i,i < n->(ofZ (rsV F q j k i)).natAbs<=(ofZ (rsV F q j k p)).natAbs:=λi hi=>by
      have:=qlN (v:=rsV F q j k) n i hi;unfold abZ at this b2;omega
     have hvp:rsV F q j k p=fR 0 (rsZ F q j k p):=by unfold rsV; rw [if_neg b1.1]
     have hfp:=hfin p hpn;have hvs:=que (c:=K+a+5*k+1) hK ω (hrest p).1 (hrest p).2 (by rw [<- hvp]; exact hfp) rfl;rw [<- hvp] at hvs;have hv0:ofZ (rsV F q j k p)≠0:=λh0=>by
      have h1:=(q7F hfp).1 h0;have h2:rsV F q j k p < 18446744073709551616:=by rw [hvp]; exact q86
      unfold q3I at h1;have:=b1.2;omega
     obtain ⟨t1,t2⟩:=quC (S:=pvS q k (rsV F q j k) p) n t ht;obtain ⟨_,t3,t4⟩:=qel (S:=pvS q k (rsV F q j k) p) n t g1 ht;have tl:∀ x c,c≠k->t.l x c=S.l x c:=λx c hc=>by rw [t1 x c hc]; show q.l x c=_; rw [q1]
     have tu:∀ x c,t.u x c=q2N q.u k k (rsV F q j k p) x c:=λx c=>by rw [t3]; rfl
     refine ⟨λi c hc=>?_,λi c hc=>?_,λm c hm hc=>?_,λc hc=>?_⟩
     .by_cases hck:c=k
      .subst hck
       by_cases hx:i < n/\i ∉ (pvS q c (rsV F q j c) p).rows
       .obtain ⟨e1,e2⟩:=(t2 i).1 hx;rw [e1];have hir:i ∉ q.rows:=λh=>hx.2 (List.mem_append_left _ h);have hvi:rsV F q j c i=fR 0 (rsZ F q j c i):=by unfold rsV; rw [if_neg hir]
        have h1:=(fR_k hK ω (hrest i).1 (by rw [<- hvi]; exact hfin i hx.1)).2.2;rw [<- hvi] at h1;have h2:=hmax i hx.1;have hB17:(ofZ (rsV F q j c p)).natAbs<=2 ^ (K+(a+17)):=zP hvs.2 (zJ Oq Oq);exact qtZ (c:=1) (B:=a+17) hK hv0 (hrest i).1 hB17 Oq Oq e2 Oq
       .rw [(t2 i).2 hx]
        show mlk _ (ofZ (q.l i c))/\(ofZ (q.l i c)).natAbs<=_
        rw [q1,hB.z i c (zO _),q3e];exact ⟨qoL,zD _⟩
      .rw [tl i c hck];exact hB.l i c Oq
     .rw [tl i c ω];exact hB.z i c Oq
     .rw [tu]
      by_cases hck:c=k
      .subst hck
       by_cases hmk:m=c
       .subst hmk;rw [q7N];exact hvs
       .rw [q3U λh=>hmk h.1];exact q3 m Oq
      .rw [q3U λh=>hck h.2,q2 m c hck];exact hB.u m c hm Oq
     .rw [tu]
      by_cases hck:c=k
      .subst hck;rw [q7N];exact hv0
      .rw [q3U λh=>hck h.2,q2 c c hck];exact hB.d c Oq
  .cases he
def qlb {cols:List Int} (hK:K=65536) (ha:a<=7) (hF:∀ j i,mlk 0 (ofZ ((F j i).getD 0))/\(ofZ ((F j i).getD 0)).natAbs<=2 ^ (K+a)):∀ k,k<=4->(q27 F mi n cols 1 1 k).1=0->LBd K a k (q27 F mi n cols 1 1 k).2.2
 | 0,_,_=>⟨λ_ _ h=>by omega,λ_ _ _=>rfl,λ_ _ _ h=>by omega,λ_ h=>by omega⟩
 | k+1,hk,h=>by
  unfold q27 at h ⊢
  split at h
  .rename_i h0;rw [if_pos h0];exact qvd hK ha Oq (hF _) (q58 k h0) (qlb hK ha hF k Oq h0) (Prod.ext h rfl)
  .rename_i h0; exact absurd h h0
end
end Go.Proofs.YtbjoghfmhgadkaaGreatDoor
namespace Go.E
open Go Go.RowKit
section
variable {J:Nat->Prop} {h:Hp} {a n:Nat} {T:TypeId} {xs:List PV} {v1 v2 v3:Value}
def qmo {i j k:Nat} (ti:(if i=5000 then some a else none)=some k) (tj:(if j=5000 then some a else none)=some k):i=j:=by
 split at ti
 .split at tj
  .rename_i e1 e2; rw [e1,e2]
  .cases tj
 .cases ti
def b5 [NL] {f:Nat->PV} {g:Nat->PV} (hJ:∀ i,¬ J i) (hb:h a=some ⟨T,none,xs,false⟩) (hc:ClL xs) (hv:∀ t,LeV (λi=>if i=5000 then some a else none) h (q0Q h0 5000 ⟨T,none,xs,false⟩) (f t) (g t)):Le J f h g (q0Q h0 5000 ⟨T,none,xs,false⟩) :=
 q4C (λi=>if i=5000 then some a else none) (λi b' hb'=>by
  by_cases hi:i=5000
  .subst hi;rw [q0I] at hb'; cases hb';unfold LeB;exact ⟨_,hb,rfl,rfl,⟨rfl,rfl⟩,q0O rfl hc⟩
  .rw [q0A hi] at hb'; cases hb') (λi j k b c hi hj ti tj=>qmo ti tj) hv λi hi=>(hJ i hi).elim
def b5n [NL] {f:Nat->PV} {g:Nat->PV} (hJ:∀ i,¬ J i) (hv:∀ t,LeV (λ_=>none) h (q0Q h0 5000 ⟨T,none,[],false⟩) (f t) (g t)):Le J f h g (q0Q h0 5000 ⟨T,none,[],false⟩) :=
 q4C (λ_=>none) (λi b' hb'=>by
  by_cases hi:i=5000
  .subst hi;rw [q0I] at hb'; cases hb'
   rfl
  .rw [q0A hi] at hb'; cases hb') (λi j k b c hi hj ti tj=>by cases ti) hv λi hi=>(hJ i hi).elim
def LePo [NL] (hJ:∀ i,¬ J i) (hb:h a=some ⟨T,none,xs,false⟩) (hc:ClL xs):Le J (λ_=>.ag [.vl v1,.vl v2,.ow a none 0 n]) h (λ_=>.ag [.vl v1,.vl v2,.ow 5000 none 0 n]) (q0Q h0 5000 ⟨T,none,xs,false⟩) :=
 b5 hJ hb hc λ_=>.ag rfl λi x y hx hy=>by
  rcases i with _ | _ | _ | i
  .cases hx; cases hy; exact .cl trivial
  .cases hx; cases hy; exact .cl trivial
  .cases hx; cases hy; exact .ow (if_pos rfl) q0I
  .simp at hx
def LePt [NL] (hJ:∀ i,¬ J i) (hb:h a=some ⟨T,none,xs,false⟩) (hc:ClL xs):Le J (λ_=>.tu [.ag [.vl v1,.vl v2,.ow a none 0 n],.vl v3]) h (λ_=>.tu [.ag [.vl v1,.vl v2,.ow 5000 none 0 n],.vl v3]) (q0Q h0 5000 ⟨T,none,xs,false⟩) :=
 b5 hJ hb hc λ_=>.tu rfl λi x y hx hy=>by
  rcases i with _ | _ | i
  .cases hx; cases hy;exact .ag rfl λi x y hx hy=>by
    rcases i with _ | _ | _ | i
    .cases hx; cases hy; exact .cl trivial
    .cases hx; cases hy; exact .cl trivial
    .cases hx; cases hy; exact .ow (if_pos rfl) q0I
    .simp at hx
  .cases hx; cases hy; exact .cl trivial
  .simp at hx
def LePn [NL] (hJ:∀ i,¬ J i):Le J (λ_=>.tu [.ag [.vl v1,.vl v2,.vl (.slice none 0 0)],.vl v3]) h (λ_=>.tu [.ag [.vl v1,.vl v2,.ow 5000 none 0 0],.vl v3]) (q0Q h0 5000 ⟨T,none,[],false⟩) :=
 b5n hJ λ_=>.tu rfl λi x y hx hy=>by
  rcases i with _ | _ | i
  .cases hx; cases hy;exact .ag rfl λi x y hx hy=>by
    rcases i with _ | _ | _ | i
    .cases hx; cases hy; exact .cl trivial
    .cases hx; cases hy; exact .cl trivial
    .cases hx; cases hy; exact .nilow rfl q0I rfl
    .simp at hx
  .cases hx; cases hy; exact .cl trivial
  .simp at hx
end
end Go.E
namespace Go.Proofs.YtbjoghfmhgadkaaGreatDoor
open Go Go.E Go.Sp
def qdI (n:Nat):q3D (qcB n) n:=by
 refine ⟨by rw [q4h],λx hx=>?_,?_⟩
 .unfold qcB at hx;obtain ⟨k,hk,rfl⟩:=zG.1 hx;have:=zV.1 hk;omega
 .unfold qcB;unfold List.Nodup;rw [List.pairwise_map];exact List.nodup_range.imp λh q=>h (Int.ofNat_inj.1 q)
def qiT {n:Nat} (hn:n<=1000000):ACt 29 [iv n] (pI (qcB n)):=by
 refine ac0 Tryz.func29 Tryz.ntmps29 [.tmp 2] ?_;refine wk ?_;refine q0B (λi=>i<=n) [0] [] Lk Lk (λi:Nat=>[(4,iv i),(3,.ow 1001 none 0 i)]) (λi=>[(1001,⟨3,none,(qcB i).map λz=>iv z,false⟩)]) (λi=>n-i) 0 (zD _) ?_ ?_
 .refine LeM [(1001,some 5)] rfl rfl ?_;refine Zz ?_
  first | done | rfl | exact ⟨rfl,rfl⟩
 .intro i hi;have l1:=q4h i;have l2:=qdH i
  by_cases hlt:i < n
  .have q:(i:Int) < n:=ω
   refine wk1 (x2 q l1) ?_;refine ⟨i+1,ω,ω,?_⟩;rw [l2];refine LeM [(1001,some 14)] rfl rfl ?_;refine Zz ?_;omega
  .obtain rfl:i=n:=ω
   have q:¬ (i:Int) < i:=ω
   exact wk1 (x2 q l1) trivial
section
variable {raw:List Nat} {r c:Nat} {st:Int} {g:LUt}
def qeT (hr:raw.length<=9223372036854775807) (h1:r<=64) (h2:c<=64) (h3 : -9223372036854775808<=st) (h4:st<=9223372036854775807) :
  qgu 63 [pF raw,iv r,iv c,iv st] h0 (.ag [iv r,iv c,.ow 5000 none 0 (r*c)]) (q0Q h0 5000 ⟨32,none,(qaW raw 500 (q1A st 4) (r*c)).map λz:Nat=>uv z,false⟩):=by
 have hJ:∀ i,¬ (h0 i≠none):=λi h=>h rfl;have hm:r*c<=64*64:=zI h1 h2;have w1:IntKind.i64.wrap ((r:Int)*(c:Int))=((r*c:Nat):Int):=by rw [<- zW,i64_in ω ω]
 generalize r*c=m at *;refine qjw qvx Tryz.func63 rfl Tryz.ntmps63 κ ?_ ?_ ?_ ?_
 .intro i b hb; cases hb
 .intro i b hb
  by_cases hi:i=5000
  .subst hi; exact ⟨ω,ω⟩
  .rw [q0A hi] at hb; cases hb
 .exact IdL.of λx hx=>by
   simp at hx
   rcases hx with rfl | rfl | rfl | rfl <;> unfold IdP <;> trivial
 have hW:WfH h0:=⟨λi b hb=>by cases hb⟩;refine wk ?_;refine q0P (λi=>i<=m) [0,1,2,3,8,9] [8] Lk Lk (λi:Nat=>[(10,iv i)]) (λi=>[(9,⟨28,some 3,[.ag [iv r,iv c,.ow 1001 none 0 i]],false⟩),(1001,⟨32,none,(qaW raw 500 (q1A st 4) i).map λz:Nat=>uv z,false⟩)]) (λ_=>h0) (λi=>m-i) 0 (zD _) ?_ ?_
 .refine LeW [(1001,none)] rfl rfl ?_ ?_ (by simp [q0f,q0b,win]) ?_
  .exact Ow
  .exact hW
  .try refine Zz ?_
   first | done | rfl | exact ⟨rfl,rfl⟩
 .intro i hi;have l1:=q6b (raw:=raw) (k:=500) (st:=q1A st 4) (n:=i);have l2:=qr8 (raw:=raw) (k:=500) (st:=q1A st 4) (n:=i)
  by_cases hlt:i < m
  .have q:(i:Int) < m:=ω
   have w2:IntKind.i64.wrap (500+(i:Int))=500+(i:Int):=i64_in Oq Oq;have C1:=q9I (raw:=raw) (k:=500+(i:Int)) hr Oq Oq;have C2:=qlG (x:=q44 raw (500+(i:Int))) (st:=st) (q3K _ _) h3 h4;generalize qaW raw 500 (q1A st 4) i=V at *;generalize q2M (q1A st 4) (q44 raw (500+(i:Int)))=z at *;generalize q44 raw (500+(i:Int))=w at *;have N1:Nz (uv (w:Nat)):=qcP;have N2:Nz (uv (z:Nat)):=qcP;refine wk1 (x4 w1 w2 q l1) ?_;refine ⟨i+1,ω,ω,?_⟩;rw [l2];refine LeW [(1001,some 30)] rfl rfl ?_ ?_ (by simp [q0f,q0b,win]) ?_
   .exact Ow
   .exact hW
   .try refine Zz ?_
    first | done | omega | exact ⟨ω,q0O (by rw [zC]; rfl) (by rw [<- zC]; exact clU)⟩
  .obtain rfl:i=m:=ω
   have q:¬ (i:Int) < i:=ω
   refine wk1 (x2 w1 q) ?_;refine (rtM (rs:=[.cell 8 28]) rfl rfl Lq ?_ (.inl rfl));refine LePo hJ ?_ clU
   try simp -implicitDefEqProofs (disch:=omega) only [go_sem,Nat.reduceEqDiff,Nat.reduceAdd,↓reduceIte]
end
noncomputable def ivL (g:LUt) (n:Nat):Nat->Nat->List Nat->List Nat × Int
 | 0,_,acc=>(acc,0)
 | k+1,j,acc=>if (lgE g (unN n j)).2≠0 then ([],(lgE g (unN n j)).2) else ivL g n k (j+1) (acc ++ (lgE g (unN n j)).1)
noncomputable def ivA (g:LUt):Nat × List Nat × Int:=if q7n g≠0 then (0,[],q7n g) else
 (if (ivL g g.rows.length g.rows.length 0 []).2=0 then g.rows.length else 0,(ivL g g.rows.length g.rows.length 0 []).1,(ivL g g.rows.length g.rows.length 0 []).2)
section
variable {g:LUt} {n:Nat}
def ql0 (hb:LUb g) (hn:n=g.rows.length):∀ k j acc,k+j=n->acc.length=j*n->q1N acc->((ivL g n k j acc).2=0->(ivL g n k j acc).1.length=n*n)/\q1N (ivL g n k j acc).1/\((ivL g n k j acc).2≠0->(ivL g n k j acc).1=[])
 | 0,j,acc,h1,h2,h3=>by
  obtain rfl:j=n:=ω
  exact ⟨λ_=>h2,h3,λh=>absurd rfl h⟩
 | k+1,j,acc,h1,h2,h3=>by
  rw [ivL]
  by_cases h:(lgE g (unN n j)).2=0
  .rw [if_neg (not_not_intro h)];obtain ⟨_,_,_,k1,k2⟩:=qlW hb qmk h;refine ql0 hb hn k (j+1) _ ω (by rw [yG,h2,k1,<- hn,y7]) λx hx=>?_
   rcases yB.1 hx with hx | hx
   .exact h3 x hx
   .exact k2 x hx
  .rw [if_pos h];exact ⟨λq=>absurd q h,λx hx=>(by cases hx),λ_=>rfl⟩
def qew (hb:LUb g):((ivA g).2.2=0->(ivA g).1=g.rows.length/\(ivA g).2.1.length=g.rows.length*g.rows.length)/\q1N (ivA g).2.1/\((ivA g).2.2≠0->(ivA g).2.1=[]/\(ivA g).1=0):=by
 unfold ivA
 by_cases h:q7n g=0
 .rw [if_neg (not_not_intro h)];obtain ⟨h1,h2,h3⟩:=ql0 hb rfl g.rows.length 0 [] ω σ (λx hx=>by cases hx);dsimp only;exact ⟨λq=>⟨if_pos q,h1 q⟩,h2,λq=>⟨h3 q,if_neg q⟩⟩
 .rw [if_pos h];exact ⟨λq=>absurd q h,λx hx=>(by cases hx),λ_=>⟨rfl,rfl⟩⟩
def qgx (hb:LUb g) (hn:g.rows.length<=20):qgu 62 [pLU g] h0 (.tu [.ag [iv (ivA g).1,iv (ivA g).1,.ow 5000 none 0 (ivA g).2.1.length],iv (ivA g).2.2]) (q0Q h0 5000 ⟨32,none,(ivA g).2.1.map λz:Nat=>uv z,false⟩):=by
 have hJ:∀ i,¬ (h0 i≠none):=λi h=>h rfl;have hJe:(λi=>(h0:Hp) i≠none)=λ_=>False:=funext λi=>eq_false (hJ i);have C2:=qcx hb;obtain ⟨res,hres⟩:∃ res,res=ivA g:=⟨_,rfl⟩;rw [<- hres];unfold ivA at hres;have C3:=λ(n j:Nat) (hn:n<=1000000)=>qgy (f:=g) (l:=unN n j) hb ω qmk (by rw [qdL]; omega);have hE:=λ(n j:Nat) (q:(lgE g (unN n j)).2=0)=>qlW hb qmk q;have hst:∀ n k j acc,ivL g n (k+1) j acc=if (lgE g (unN n j)).2≠0 then ([],(lgE g (unN n j)).2) else ivL g n k (j+1) (acc ++ (lgE g (unN n j)).1):=λ_ _ _ _=>rfl
 have hs0:∀ n j acc,ivL g n 0 j acc=(acc,0):=λ_ _ _=>rfl;unfold pLU at C2 C3 ⊢;generalize q7n g=e at *;refine qjw qvy Tryz.func62 rfl Tryz.ntmps62 κ ?_ ?_ ?_ ?_
 .intro i b hb; cases hb
 .intro i b hb
  by_cases hi:i=5000
  .subst hi; exact ⟨ω,ω⟩
  .rw [q0A hi] at hb; cases hb
 .exact IdL.of λx hx=>by
   simp at hx;subst hx;unfold IdP;exact IdL.of λx hx=>by
    simp at hx
    rcases hx with rfl | rfl | rfl | rfl | rfl | rfl | rfl | rfl <;> unfold IdP <;> trivial
 have hW:WfH h0:=⟨λi b hb=>by cases hb⟩;rw [hJe]
 by_cases h1:e=0
 rotate_left
 .rw [if_pos h1] at hres;subst hres;have q2:(e != 0)=true:=by simpa using h1
  clear C3;refine wk1 q2 ?_;refine (rtM (rs:=[.cell 2 28,.tmp 3]) rfl rfl Lq ?_ (.inl rfl));exact LePn hJ
 subst h1;rw [if_neg (show ¬ (0:Int)≠0 by decide)] at hres;obtain ⟨n,hnn⟩:∃ n,n=g.rows.length:=⟨_,rfl⟩;rw [<- hnn] at hres hn;have q0:((g.rows.length:Nat):Int)=n:=ω
 replace C3:=λj=>C3 n j Oq;replace hE:=λj=>hE n j;replace hst:=hst n;replace hs0:=hs0 n;refine wk1 q0 ?_;refine q0P (λq:Nat × List Nat=>q.1<=n/\q.2.length=q.1*n/\ivL g n (n-q.1) q.1 q.2=ivL g n n 0 []) [1,2,5,6] [1,2] Lk Lk (λq=>[(7,iv q.1)]) (λq=>[(6,⟨28,some 3,[.ag [iv n,iv n,.ow 1001 none 0 q.2.length]],false⟩),(1001,⟨32,none,q.2.map λz:Nat=>uv z,false⟩)]) (λ_=>h0) (λq=>n-q.1) (0,[]) ⟨zD _,σ,rfl⟩ ?_ ?_
 .refine LeW [(1001,none)] rfl rfl ?_ ?_ (by simp [q0f,q0b,win]) ?_
  .exact Ow
  .exact hW
  .try refine Zz ?_
   first | done | rfl | exact ⟨rfl,rfl⟩
 .rintro ⟨j,acc⟩ ⟨hj,hal,hiv⟩;simp only at hj hal hiv ⊢;have hjn:j*n<=20*20:=zI Oq hn
  by_cases hlt:j < n
  .have q3:(j:Int) < n:=ω
   rw [show n-j=(n-(j+1))+1 by omega,hst] at hiv;have c3:=C3 j;have hEj:=hE j;have hun:=unN_v (n:=n) (j:=j);have ul:=qdL (n:=n) (j:=j);generalize unN n j=U at *;generalize (lgE g U).1=l at *;generalize (lgE g U).2=e at *;clear C3 hE hst hs0;refine wk1 (x3 q3 hun ul) ?_;refine q0z (LeW [] rfl rfl (hw:=h0) (xs:=[(1,.pt 1 0 0),(2,.pt 2 0 0),(5,iv n),(6,.pt 6 0 0),(7,iv j),(8,pF U)]) (kv:=[]) (bs:=[(1,⟨63,some 8,[.ag [pI g.rows,pI g.cols,pI g.ls,pI g.li,pF g.lv,pI g.us,pI g.ui,pF g.uv]],false⟩),(2,⟨28,some 3,[.ag [iv 0,iv 0,q0W]],false⟩),(6,⟨28,some 3,[.ag [iv n,iv n,.ow 1001 none 0 acc.length]],false⟩),(1001,⟨32,none,acc.map λz:Nat=>uv z,false⟩)]) (kb:=[]) ?_ hW (by simp [q0f,q0b,win]) ?_) ?_
   .exact Ow
   .try refine Zz ?_
    refine qx5 (T:=32) (l:=U.map λz:Nat=>uv z) ?_ clU ?_ (by rw [zN,ul])
    .try simp -implicitDefEqProofs (disch:=omega) only [go_sem,Nat.reduceEqDiff,Nat.reduceAdd,↓reduceIte]
    .try simp -implicitDefEqProofs (disch:=omega) only [go_sem,Nat.reduceEqDiff,Nat.reduceAdd,↓reduceIte]
   by_cases h4:e=0
   rotate_left
   .have q4:(e != 0)=true:=by simpa using h4
    rw [if_pos h4] at hiv;rw [<- hiv] at hres;dsimp only at hres;rw [if_neg h4] at hres;subst hres;refine wk1 q4 ?_;refine (rtM (rs:=[.cell 2 28,.tmp 3]) rfl rfl Lq ?_ (.inl rfl));exact LePn hJ
   obtain ⟨_,_,_,k1,k2⟩:=hEj h4;subst h4;rw [if_neg (show ¬ (0:Int)≠0 by decide)] at hiv;refine wk ?_;refine ⟨(j+1,acc ++ l),⟨by simp only; omega,by simp only; rw [yG,hal,k1,<- hnn,y7],hiv⟩,by simp only; omega,?_⟩;simp only;refine LeW [(1001,some 49)] rfl rfl ?_ ?_ (by simp [q0f,q0b,win]) ?_
   .exact Ow
   .exact hW
   .try refine Zz ?_
    exact ⟨ω,q0O (by rw [zC]) clU⟩
  .obtain rfl:j=n:=ω
   have q3:¬ (j:Int) < j:=ω
   rw [Nat.sub_self,hs0] at hiv;rw [<- hiv,if_pos rfl] at hres;subst hres;refine wk1 q3 ?_;refine (rtM (rs:=[.cell 2 28,.tmp 3]) rfl rfl Lq ?_ (.inl rfl));refine LePt hJ ?_ clU
   try simp -implicitDefEqProofs (disch:=omega) only [go_sem,Nat.reduceEqDiff,Nat.reduceAdd,↓reduceIte]
end
section
variable {K a b c n k:Nat} {D:Nat->Nat->Nat} {F:Nat->Nat->Option Nat}
def fR_le {V:Int} (hK:K=65536) (hb:K<=b+1000) (hV:V.natAbs<=2 ^ b) (hf:q0M (fR 0 V)):(ofZ (fR 0 V)).natAbs<=2 ^ (b+1):=by
 by_cases h0:V=0
 .subst h0;have:ofZ (fR 0 0)=0:=by have:=q0V q2A; simpa [fR] using this
  rw [this];exact zD _
 obtain ⟨u,r,h1,h2,_,h4,h5,h6,h7⟩:=qfa hK h0 hf;generalize ofZ (fR 0 V)=q at *;have hs:q.natAbs=r*2 ^ u:=by
  rw [h4,zH,q0a]
  congr 1
  unfold sgn
  split <;> omega
 have e:q.natAbs<=V.natAbs+(V-q).natAbs:=ω
 rw [y8]
 rcases h6 with h6 | h6
 .have:2 ^ u<=2 ^ b:=zJ Oq Oq;omega
 .have h8:4503599627370496*2 ^ u<=r*2 ^ u:=zM _ h6;rw [<- hs] at h8;generalize 2 ^ u=Y at *;omega
def fQ_le {d l:Int} (hK:K=65536) (hl:l≠0) (hd:d.natAbs<=l.natAbs*2 ^ c) (hf:q0M (fQ 0 d l)):(ofZ (fQ 0 d l)).natAbs<=2 ^ (K+c+2):=by
 by_cases h0:d=0
 .subst h0;have:fQ 0 0 l=0:=by unfold fQ; rw [if_pos rfl]
  rw [this,q3e];exact zD _
 .by_cases hp:0 < l
  .exact qao hK hp hd hf
  .rw [<- quh h0 hl] at hf ⊢;exact qao hK ω (by rw [zS,zS]; exact hd) hf
def qe7 {x y:Nat} (hK:K=65536) (hx:q0M x) (hy:q0M y) (h1:(ofZ x).natAbs<=2 ^ (K+b)) (h2:(ofZ y).natAbs<=2 ^ (K+c)):(q1M x y).natAbs<=2 ^ (K+b+c):=by
 have e:=(q7G hK hx hy).1;have h3:(q1M x y).natAbs*2 ^ K<=2 ^ (K+b)*2 ^ (K+c):=by
  have h2':=congrArg xZ e;rw [zH,zH,q0a] at h2';rw [h2'];exact zI h1 h2
 rw [<- zQ,show K+b+(K+c)=K+b+c+K by omega,zQ] at h3;exact xB h3 (yV Oq)
def qnY {g:Nat->Int} {Y:Nat}:∀ m,(∀ i,i < m->(g i).natAbs<=Y)->(sg g m).natAbs<=m*Y
 | 0,_=>by simp [sg]
 | m+1,h=>by
  have:=qnY m λi hi=>h i Oq;have:=h m Oq;rw [sg,y7];omega
def szL (K b:Nat) (ys:List Nat):Prop:=∀ i,(q0M (ys.getD i 0))/\(ofZ (ys.getD i 0)).natAbs<=2 ^ (K+b)
def qd4 {ys:List Nat} {v:Nat} (h:szL K b ys) (hbc:b<=c) (hv:q0M v/\(ofZ v).natAbs<=2 ^ (K+c)):szL K c (ys.set k v):=λi=>by
 rw [uU,yA]
 split
 .split
  .exact hv
  .exact ⟨by simp [q0M],by simp [q3e]⟩
 .rw [<- uU];exact ⟨(h i).1,zP (h i).2 (zJ Oq Oq)⟩
def ql6 (hK:K=65536) (hn:n<=4) (hD:∀ i c,c < i->i < n->q0M (D i c)/\(ofZ (D i c)).natAbs<=2 ^ (K+3)):∀ (m k b:Nat) (ys zs:List Nat),k+m=n->szL K b ys->geL D m k ys=some zs->szL K (b+7*m) zs
 | 0,k,b,ys,zs,_,h,he=>by unfold geL at he; cases he; exact h
 | m+1,k,b,ys,zs,hk,h,he=>by
  unfold geL at he
  split at he
  .rename_i hfin;have h1:(loZ D ys k).natAbs<=2 ^ (K+(b+6)):=by
    have h2:=qnY (g:=λc=>q1M (D k c) (ys.getD c 0)) (Y:=2 ^ (K+3+b)) k λc hc=>qe7 hK (hD k c hc Oq).1 (h c).1 (hD k c hc Oq).2 (h c).2;have h3:=(h k).2;have h4:k*2 ^ (K+3+b)<=4*2 ^ (K+3+b):=zM _ Oq;have h5:2 ^ (K+3+b)=2 ^ (K+b)*8:=by rw [show K+3+b=K+b+3 by omega,zQ]
    have h6:2 ^ (K+(b+6))=2 ^ (K+b)*64:=by rw [show K+(b+6)=K+b+6 by omega,zQ]
    unfold loZ;rw [h6];rw [h5] at h2 h4;generalize 2 ^ (K+b)=Y at *;omega
   have h7:=fR_le hK Oq h1 hfin;have:=ql6 hK hn hD m (k+1) (b+7) _ zs Oq (qd4 h Oq ⟨hfin,h7⟩) he;rw [show b+7*(m+1)=b+7+7*m by omega];exact this
  .cases he
def sU (a:Nat):Nat->Nat
 | 0=>0
 | k+1=>sU a k+(aL a k+a+22)
def sU_4 (ha:a<=7):∀ n,n<=4->sU a n<=985
 | 0,_=>by simp [sU]
 | 1,_=>by simp only [sU,aL]; omega
 | 2,_=>by simp only [sU,aL]; omega
 | 3,_=>by simp only [sU,aL]; omega
 | 4,_=>by simp only [sU,aL]; omega
 | n+5,h=>by omega
def ql5 (hK:K=65536) (hn:n<=4) (hD:∀ i c,i<=c->c < n->q0M (D i c)/\(ofZ (D i c)).natAbs<=2 ^ (K+(a+16))) (hd:∀ i,i < n->2 ^ K<=(ofZ (D i i)).natAbs*2 ^ aL a i):∀ (k b:Nat) (ys zs:List Nat),k<=n->szL K b ys->geU D n k ys=some zs->szL K (b+sU a k) zs
 | 0,b,ys,zs,_,h,he=>by unfold geU at he; cases he; exact h
 | k+1,b,ys,zs,hk,h,he=>by
  unfold geU at he
  split at he
  .rename_i hfin;have h1:(upZ D ys n k).natAbs<=2 ^ (K+(b+a+19)):=by
    have h2:=qnY (g:=λi=>q1M (D k (k+1+i)) (ys.getD (k+1+i) 0)) (Y:=2 ^ (K+(a+16)+b)) (n-(k+1)) λc hc=>qe7 hK (hD k (k+1+c) Oq Oq).1 (h _).1 (hD k (k+1+c) Oq Oq).2 (h _).2;have h3:=(h k).2;have h4:(n-(k+1))*2 ^ (K+(a+16)+b)<=4*2 ^ (K+(a+16)+b):=zM _ Oq;have h5:2 ^ (K+b)<=2 ^ (K+(a+16)+b):=zJ Oq Oq;have h6:2 ^ (K+(b+a+19))=2 ^ (K+(a+16)+b)*8:=by rw [show K+(b+a+19)=K+(a+16)+b+3 by omega,zQ]
    unfold upZ;rw [h6];generalize 2 ^ (K+(a+16)+b)=Y at *;generalize 2 ^ (K+b)=X at *;omega
   have h0:ofZ (D k k)≠0:=λh0=>by
    have h9:=hd k (Nat.lt_of_succ_le hk);rw [h0,Int.natAbs_zero,uV] at h9;exact absurd h9 (Nat.not_le_of_gt (yV (by decide)))
   have h7:(upZ D ys n k).natAbs<=(ofZ (D k k)).natAbs*2 ^ (b+a+19+aL a k):=by
    refine zP h1 ?_;have h9:=hd k (Nat.lt_of_succ_le hk);clear h1 hd hK;rw [show b+a+19+aL a k=aL a k+(b+a+19) by omega,zQ 2 K,zQ 2 (aL a k),<- yE];exact zM _ h9
   have h8:=fQ_le hK h0 h7 hfin;have:=ql5 hK hn hD hd k (b+(aL a k+a+22)) _ zs Oq (qd4 h Oq ⟨hfin,zP h8 (zJ Oq Oq)⟩) he;rw [show b+sU a (k+1)=b+(aL a k+a+22)+sU a k by rw [sU]; omega];exact this
  .cases he
end
section
variable {K a n R C j:Nat} {F f:Nat->Nat->Option Nat} {S:LuS} {cols mi:List Int}
def qfz {e:Nat × Nat} (hj:j < C) (he:e ∈ q5p (tM f R C).1 (tM f R C).2.1 (tM f R C).2.2 j):f j e.1=some e.2/\e.1 < R:=by
 rw [q4u (q25 ω) (q25 ω)] at he;obtain ⟨t,ht,rfl⟩:=zG.1 he;rw [zV] at ht;obtain ⟨q,h1,h2,h3⟩:=q9R (f:=f) (R:=R) (k:=tO f R j+t) hj Oq Oq;have h4:=zE h1;obtain ⟨h5,h6⟩:=q35.1 (show (q.1,q.2) ∈ tZ f j R from h4);rw [uU,uU,h2,h3];exact ⟨h6,h5⟩
def qlm (L:List (Nat × Nat)) (r:Nat):ctV L r=0\/∃ e ∈ L,e.1=r/\e.2=ctV L r:=by
 unfold ctV;cases hf:L.find? λe=>e.1 == r with
 | none=>exact .inl rfl
 | some e =>
  have:=List.find?_some hf;exact .inr ⟨e,xC hf,by simpa using this,rfl⟩
def cLo_v {i c:Nat} (hc:c < n):cLo (q9A S cols n) i c=0\/(c < i/\i < n/\cLo (q9A S cols n) i c=S.l (S.rows.getD i 0) c):=by
 rcases qlm (q5p (tM (fLt S) n n).1 (tM (fLt S) n n).2.1 (tM (fLt S) n n).2.2 c) i with h | ⟨e,h1,h2,h3⟩
 .exact .inl h
 .obtain ⟨h4,h5⟩:=qfz hc h1;unfold fLt at h4
  split at h4
  .rename_i h6;refine .inr ⟨ω,ω,?_⟩
   show ctV (q5p (tM (fLt S) n n).1 (tM (fLt S) n n).2.1 (tM (fLt S) n n).2.2 c) i=_
   rw [<- h3,<- h2];exact (xD.inj h4).symm
  .cases h4
def qwC {i c:Nat} (hc:c < n):cUp (q9A S cols n) i c=0\/(i<=c/\cUp (q9A S cols n) i c=S.u i c):=by
 rcases qlm (q5p (tM (fUt S) n n).1 (tM (fUt S) n n).2.1 (tM (fUt S) n n).2.2 c) i with h | ⟨e,h1,h2,h3⟩
 .exact .inl h
 .obtain ⟨h4,h5⟩:=qfz hc h1;unfold fUt at h4
  split at h4
  .rename_i h6;refine .inr ⟨ω,?_⟩
   show ctV (q5p (tM (fUt S) n n).1 (tM (fUt S) n n).2.1 (tM (fUt S) n n).2.2 c) i=_
   rw [<- h3,<- h2];exact (xD.inj h4).symm
  .cases h4
def qev {g:LUt} {x:Nat}:∀ (k j:Nat) (acc:List Nat),x ∈ (ivL g n k j acc).1->x ∈ acc\/∃ j',(lgE g (unN n j')).2=0/\x ∈ (lgE g (unN n j')).1
 | 0,j,acc,h=>.inl h
 | k+1,j,acc,h=>by
  rw [ivL] at h
  by_cases h0:(lgE g (unN n j)).2=0
  .rw [if_neg (not_not_intro h0)] at h
   rcases qev k (j+1) _ h with h1 | h1
   .rcases yB.1 h1 with h2 | h2
    .exact .inl h2
    .exact .inr ⟨j,h0,h2⟩
   .exact .inr h1
  .rw [if_pos h0] at h; cases h
def qdp {x:List Nat} {o:List Int} {v:Nat}:∀ k,v ∈ scS x o n k->v=0\/∃ i,v=x.getD i 0
 | 0,h=>.inl (yH.1 h).2
 | k+1,h=>by
  rw [scS] at h
  rcases yM h with h | h
  .exact qdp k h
  .exact .inr ⟨k,h⟩
def qml {i:Nat}:(unN n j).getD i 0=0\/(unN n j).getD i 0=4607182418800017408:=by
 unfold unN;rw [uU,yA]
 split
 .split
  .exact .inr rfl
  .exact .inl rfl
 .rw [xJ]
  split
  .exact .inl rfl
  .exact .inl rfl
def qth (hK:K=65536):q0M 4607182418800017408/\(ofZ 4607182418800017408).natAbs<=2 ^ (K+0):=by
 refine ⟨by decide,?_⟩;have h:=q94 (a:=4607182418800017408) Oq (by decide);obtain ⟨u,hu⟩:∃ u,u=qrC 4607182418800017408:=⟨_,rfl⟩;have h1:u=65484:=by rw [hu]; decide
 rw [h,<- hu,zH,q0a];clear hu;have h2:(((if 4607182418800017408 / 4503599627370496=0 then 4607182418800017408 else 4503599627370496+4607182418800017408 % 4503599627370496:Nat):Int)).natAbs=2 ^ 52:=by decide
 rw [h2,<- zQ];exact zJ Oq Oq
def quY (hK:K=65536) {o:List Int}:szL K 0 (gaS (unN n j) o n):=λi=>by
 have h0:q0M 0/\(ofZ 0).natAbs<=2 ^ (K+0):=⟨by simp [q0M],by simp [q3e]⟩;rw [uU];cases h:(gaS (unN n j) o n)[i]? with
 | none=>exact h0
 | some v =>
  have hm:=zE h;unfold gaS rwG at hm;obtain ⟨c,_,hv⟩:=zG.1 hm;have:v=0\/v=4607182418800017408:=by
   rw [<- hv]
   split
   .exact qml
   .exact .inl rfl
  rcases this with rfl | rfl
  .exact h0
  .exact qth hK
def quR (hK:K=65536) (ha:a<=7) (hn:n<=4) (hF:∀ j i,mlk 0 (ofZ ((F j i).getD 0))/\(ofZ ((F j i).getD 0)).natAbs<=2 ^ (K+a)) (hc:cols.length<=1000000):∀ x ∈ (ivA (qgr F mi n cols 1 1)).2.1,(ofZ x).natAbs<=2 ^ (K+1015):=by
 intro x hx;have hb:LUb (qgr F mi n cols 1 1):=(qla Oq hc).1;unfold ivA at hx
 split at hx
 .cases hx
 rename_i hchk;have hchk:q7n (qgr F mi n cols 1 1)=0:=Classical.byContradiction λh=>hchk h;have hok:=qaP hb hchk;unfold qgr at hx hok
 by_cases h0:(q27 F mi n cols 1 1 n).1=0
 .rw [if_pos h0] at hx hok
  rcases qev _ _ _ hx with h | ⟨j',h1,h2⟩
  .cases h
  clear hb hchk hx;have hB:=qlb (mi:=mi) (cols:=cols) hK ha hF n hn h0;have hG:=q58 n h0;generalize (q27 F mi n cols 1 1 n).2.2=S at *;have hrl:(q9A S cols n).rows.length=n:=by show (S.rows.map _).length=n; rw [zN,hG.len]
  rw [hrl] at h1 h2 hok;unfold lgE at h1 h2;rw [hrl] at h1 h2
  split at h2
  .cases h2
  split at h2
  .cases h2
  rename_i y hy
  split at h2
  .cases h2
  rename_i z hz;have z0:q0M 0/\(ofZ 0).natAbs<=0:=⟨by simp [q0M],by simp [q3e]⟩;have y1:=ql6 (D:=cLo (q9A S cols n)) hK hn (λi c hc hi=>by
   rcases cLo_v (S:=S) (cols:=cols) (i:=i) (show c < n by omega) with e | ⟨_,_,e⟩
   .rw [e]; exact ⟨z0.1,zP z0.2 (zD _)⟩
   .rw [e]; exact ⟨(hG.l _ _).1,(hB.l _ c ω).2⟩) n 0 0 _ y ω (quY hK) hy
  have z1:=ql5 (D:=cUp (q9A S cols n)) (a:=a) hK hn (λi c hic hc=>by
   rcases qwC (S:=S) (cols:=cols) (i:=i) hc with e | ⟨_,e⟩
   .rw [e]; exact ⟨z0.1,zP z0.2 (zD _)⟩
   .rw [e]; exact ⟨(hG.u _ _).1,zP (hB.u i c hic hc).2 (zJ ω ω)⟩) (λi hi=>by
   have hd:ofZ (cUp (q9A S cols n) i i)≠0:=by
    obtain ⟨m,v,e1,e2,e3⟩:=hok.dg i hi;have hnd:=hok.U.nd i hi;have e4:ctV (q5p (q9A S cols n).us (q9A S cols n).ui (q9A S cols n).uv i) i=v:=by
     have:=q9w (t:=m.length) hnd (e:=(i,v)) (by rw [e1]; simp);exact this
    show ofZ (ctV _ i)≠0
    rw [e4];exact e2
   rcases qwC (S:=S) (cols:=cols) (i:=i) hi with e | ⟨_,e⟩
   .rw [e,q3e] at hd; exact absurd rfl hd
   .rw [e] at hd ⊢;obtain ⟨w,hw⟩:=(hB.u i i (zO _) hi).1;have hw0:w≠0:=λh=>hd (by rw [hw,h,yQ]);have hai:=(qxM ha i Oq).1;rw [hw,zH,q0a,<- hK,yE,<- zQ,show K-aL a i+aL a i=K by omega];exact yI _ Oq) n _ y z (zO _) y1 hz
  have hs:=sU_4 ha n hn
  rcases qdp _ h2 with e | ⟨i,e⟩
  .rw [e,q3e]; exact zD _
  .rw [e];exact zP (z1 i).2 (zJ Oq Oq)
 .rw [if_neg h0] at hx;cases hx
def qqS {f d:Nat} (hu:f < 18446744073709551616) (hf:q0M f) (hK:K=65536) (h:(ofZ f).natAbs<=2 ^ (K+1015)) (hd:d<=1000000):(f+d) % 18446744073709551616 < 18446744073709551616/\q0M ((f+d) % 18446744073709551616):=by
 obtain ⟨a1,a2⟩:=qbo hf;have h1:=q94 a1 a2;have h2:=q95 hu hf;obtain ⟨e,he⟩:∃ e,e=q3I f / 4503599627370496:=⟨_,rfl⟩;have hsmall:e < 2040:=by
  refine Nat.lt_of_not_le λhge=>?_;rw [<- he,if_neg ω] at h1;have hul:qrC (q3I f)=64461+e:=by unfold qrC; rw [<- he]; omega
  rw [hul] at h1;obtain ⟨m,hm⟩:∃ m,m=4503599627370496+q3I f % 4503599627370496:=⟨_,rfl⟩;obtain ⟨u,hu'⟩:∃ u,u=64461+e:=⟨_,rfl⟩;rw [<- hm,<- hu'] at h1;rw [h1] at h2;have h3:(ofZ f).natAbs=m*2 ^ u:=by
   have:(((ofZ f).natAbs:Nat):Int)=((m*2 ^ u:Nat):Int):=by rw [h2]; push_cast; rfl
   exact_mod_cast this
  rw [h3] at h;have h4:2 ^ 52*2 ^ u<=m*2 ^ u:=zM _ (by
   have:(2:Nat) ^ 52=4503599627370496:=by decide
   omega)
  rw [<- zQ] at h4;have:=(Nat.pow_le_pow_iff_right (by omega:1 < 2)).1 (zP h4 h);omega
 unfold q3I at he;unfold q0M;omega
end

def qnw {neg:Bool} {E:Nat} (hE:E=66507):ofF (sb neg 9218868437227405311)=some (sgn neg 9007199254740991*(2:Int) ^ E):=by
 unfold ofF;have h1:sb neg 9218868437227405311 / 4503599627370496 % 2048=2046:=by unfold sb; cases neg <;> simp
 have h2:sb neg 9218868437227405311 % 4503599627370496=4503599627370495:=by unfold sb; cases neg <;> simp
 have h3:decide (9223372036854775808<=sb neg 9218868437227405311)=neg:=by unfold sb; cases neg <;> simp
 rw [h1,if_neg ω,if_neg ω,h2,h3,show 64461+2046=E by omega]
def qnq {mode:Int} {neg:Bool} (hm:mode=1\/mode=2) (h:awy mode neg=true):q7E mode neg=sb neg 9218868437227405312:=by
 unfold q7E;unfold awy at h;rw [if_neg];rintro (h1 | ⟨h1,h2⟩ | ⟨h1,h2⟩)
 .omega
 .subst h1 h2; simp at h
 .subst h1 h2; simp at h
def qns {mode:Int} {neg:Bool} (hm:mode=1\/mode=2) (h:awy mode neg=false):q7E mode neg=sb neg 9218868437227405311:=by
 unfold q7E;unfold awy at h;rw [if_pos]
 rcases hm with rfl | rfl
 .exact .inr (.inl ⟨rfl,by simpa using h⟩)
 .exact .inr (.inr ⟨rfl,by simpa using h⟩)
def qn6 {mode:Int} {neg:Bool} {A B:Nat} (hm:mode=1\/mode=2) (hB:0 < B) (h:awy mode neg=true):A<=B*rq mode neg A B:=by
 have h1:=Nat.div_add_mod A B;have h2:=Nat.mod_lt A hB;have h3:B*(A / B+1)=B*(A / B)+B:=by rw [Nat.mul_add,Nat.mul_one]
 unfold awy at h;unfold rq
 split
 .omega
 .rcases hm with rfl | rfl
  .rw [if_pos rfl] at h ⊢;rw [if_pos h,h3]; omega
  .rw [if_neg (by omega:¬ (2:Int)=1)] at h ⊢;rw [if_pos rfl,if_neg (by simpa using h),h3]; omega
def qsz {mode:Int} {neg:Bool} {A B:Nat} (hm:mode=1\/mode=2) (h:awy mode neg=false):B*rq mode neg A B<=A:=by
 have h1:=Nat.div_add_mod A B;unfold awy at h;unfold rq
 split
 .omega
 .rcases hm with rfl | rfl
  .rw [if_pos rfl] at h ⊢;rw [if_neg (by simpa using h)]; omega
  .rw [if_neg (by omega:¬ (2:Int)=1)] at h ⊢;rw [if_pos rfl,if_pos (by simpa using h)]; omega
def qeI {mode:Int} {neg:Bool} {N D K:Nat} (hK:K=65536) (hm:mode=1\/mode=2) (hN:0 < N) (hD:0 < D) :
  (awy mode neg=true->rF mode neg N D=sb neg 9218868437227405312\/∃ y:Nat,ofF (rF mode neg N D)=some (sgn neg y)/\N*2 ^ K<=D*y)/\(awy mode neg=false->∃ y:Nat,ofF (rF mode neg N D)=some (sgn neg y)/\D*y<=N*2 ^ K):=by
 obtain ⟨u,r,h1,h2,h3,h4,h5⟩:=q6y (mode:=mode) (neg:=neg) (N:=N) (D:=D) (K:=K) hN hD Oq;rw [h2];have ha:awy mode neg=true->N*2 ^ K<=D*(r*2 ^ u):=λq=>by
  have:=qn6 (A:=N*2 ^ K) hm (Nat.mul_pos hD (q0F u)) q;rw [<- h3,yE,xM (2 ^ u)] at this;exact this
 have ht:awy mode neg=false->D*(r*2 ^ u)<=N*2 ^ K:=λq=>by
  have:=qsz (A:=N*2 ^ K) (B:=D*2 ^ u) hm q;rw [<- h3,yE,xM (2 ^ u)] at this;exact this
 have good:ofF (fin mode neg r ((u:Int)-K))=some (sgn neg r*(2:Int) ^ u)->(awy mode neg=true->fin mode neg r ((u:Int)-K)=sb neg 9218868437227405312\/∃ y:Nat,ofF (fin mode neg r ((u:Int)-K))=some (sgn neg y)/\N*2 ^ K<=D*y)/\(awy mode neg=false->∃ y:Nat,ofF (fin mode neg r ((u:Int)-K))=some (sgn neg y)/\D*y<=N*2 ^ K):=λq=>by
  rw [<- qdk] at q;exact ⟨λw=>.inr ⟨_,q,ha w⟩,λw=>⟨_,q,ht w⟩⟩
 have bad:fin mode neg r ((u:Int)-K)=q7E mode neg->9007199254740992*2 ^ (K+971)<=r*2 ^ u->(awy mode neg=true->fin mode neg r ((u:Int)-K)=sb neg 9218868437227405312\/∃ y:Nat,ofF (fin mode neg r ((u:Int)-K))=some (sgn neg y)/\N*2 ^ K<=D*y)/\(awy mode neg=false->∃ y:Nat,ofF (fin mode neg r ((u:Int)-K))=some (sgn neg y)/\D*y<=N*2 ^ K):=λq hb=>by
  rw [q];refine ⟨λw=>.inl (qnq hm w),λw=>⟨9007199254740991*2 ^ (K+971),?_,?_⟩⟩
  .rw [qns hm w,qnw (E:=K+971) ω,<- qdk]
  .refine zP (yF D (zP (zM _ Oq) hb)) (ht w)
 by_cases hu:u+1076 < 2047+K
 .exact good (q9h hK h1 h4 (by rcases h5 with h5 | h5; exact .inl h5; exact .inr h5.1) hu)
 have hr2:4503599627370496<=r:=by rcases h5 with h5 | h5; omega; exact h5.1
 by_cases hr:r=9007199254740992
 .refine bad ?_ ?_
  .unfold fin;rw [if_pos hr];unfold q4S;rw [if_neg ω,if_pos ω]
  .rw [hr];exact yF _ (zJ Oq Oq)
 .by_cases hu2:u+1076=2047+K
  .refine good ?_;unfold fin;rw [if_neg hr,q3o ω ω ω (.inr hr2),show ((u:Int)-K+65536).toNat=u by omega]
  .refine bad ?_ ?_
   .unfold fin;rw [if_neg hr];unfold q4S;rw [if_neg ω,if_pos ω]
   .obtain ⟨w,rfl⟩:∃ w,u=K+971+1+w:=⟨u-(K+971+1),ω⟩;have e:r*2 ^ (K+971+1+w)=r*2*2 ^ w*2 ^ (K+971):=by rw [show K+971+1+w=1+w+(K+971) by omega,zQ,zQ,Nat.pow_one,<- yE,<- yE]
    rw [e];refine zM _ ?_;have:=zI (show 9007199254740992<=r*2 by omega) (q0F w)
    rwa [Nat.mul_one] at this
def q57 {f:Nat} {V:Int} (h:ofF f=some V):q0M f/\ofZ f=V:=by
 refine ⟨λq=>?_,q0V h⟩;unfold ofF at h;rw [if_pos q] at h;cases h
def qkn (r:Nat):sgn true r = -(r:Int):=rfl
def qkq (r:Nat):sgn false r=(r:Int):=rfl
def fQ_up {a b:Int} {K:Nat} (hK:K=65536) (hb:0 < b):fQ 2 a b=9218868437227405312\/(q0M (fQ 2 a b)/\a*(2:Int) ^ K<=b*ofZ (fQ 2 a b)):=by
 have hp:=q0N K;unfold fQ
 by_cases ha:a=0
 .rw [if_pos ha,ha];refine .inr ⟨by simp [q0M],?_⟩;rw [q0V q2A]; simp
 .rw [if_neg ha,decide_eq_false (show ¬ b < 0 by omega),xT];obtain ⟨d1,d2⟩:=qeI (mode:=2) (neg:=decide (a < 0)) (N:=a.natAbs) (D:=b.natAbs) hK (.inr rfl) Oq Oq;have eb:((b.natAbs:Nat):Int)=b:=ω
  by_cases hn:a < 0
  .rw [decide_eq_true hn] at d1 d2 ⊢;obtain ⟨y,h1,h2⟩:=d2 rfl;obtain ⟨h3,h4⟩:=q57 h1;refine .inr ⟨h3,?_⟩;rw [h4,qkn];have h5:((b.natAbs*y:Nat):Int)<=((a.natAbs*2 ^ K:Nat):Int):=by exact_mod_cast h2
   rw [zW,zW,eb,q0T,show ((a.natAbs:Nat):Int) = -a by omega,xS] at h5;rw [Int.mul_neg];omega
  .rw [decide_eq_false hn] at d1 d2 ⊢
   rcases d1 rfl with h | ⟨y,h1,h2⟩
   .exact .inl h
   obtain ⟨h3,h4⟩:=q57 h1;refine .inr ⟨h3,?_⟩;rw [h4,qkq];have h5:((a.natAbs*2 ^ K:Nat):Int)<=((b.natAbs*y:Nat):Int):=by exact_mod_cast h2
   rw [zW,zW,eb,q0T,show ((a.natAbs:Nat):Int)=a by omega] at h5;exact h5
def fQ_dn {a b:Int} {K:Nat} (hK:K=65536) (hb:0 < b):fQ 1 a b=18442240474082181120\/(q0M (fQ 1 a b)/\b*ofZ (fQ 1 a b)<=a*(2:Int) ^ K):=by
 have hp:=q0N K;unfold fQ
 by_cases ha:a=0
 .rw [if_pos ha,ha];refine .inr ⟨by simp [q0M],?_⟩;rw [q0V q2A]; simp
 .rw [if_neg ha,decide_eq_false (show ¬ b < 0 by omega),xT];obtain ⟨d1,d2⟩:=qeI (mode:=1) (neg:=decide (a < 0)) (N:=a.natAbs) (D:=b.natAbs) hK (.inl rfl) Oq Oq;have eb:((b.natAbs:Nat):Int)=b:=ω
  by_cases hn:a < 0
  .rw [decide_eq_true hn] at d1 d2 ⊢
   rcases d1 rfl with h | ⟨y,h1,h2⟩
   .exact .inl h
   obtain ⟨h3,h4⟩:=q57 h1;refine .inr ⟨h3,?_⟩;rw [h4,qkn];have h5:((a.natAbs*2 ^ K:Nat):Int)<=((b.natAbs*y:Nat):Int):=by exact_mod_cast h2
   rw [zW,zW,eb,q0T,show ((a.natAbs:Nat):Int) = -a by omega,xS] at h5;rw [Int.mul_neg];omega
  .rw [decide_eq_false hn] at d1 d2 ⊢;obtain ⟨y,h1,h2⟩:=d2 rfl;obtain ⟨h3,h4⟩:=q57 h1;refine .inr ⟨h3,?_⟩;rw [h4,qkq];have h5:((b.natAbs*y:Nat):Int)<=((a.natAbs*2 ^ K:Nat):Int):=by exact_mod_cast h2
   rw [zW,zW,eb,q0T,show ((a.natAbs:Nat):Int)=a by omega] at h5;exact h5
open Go.Dt
def rK (K:Nat) (z:Int):Rat:=(z:Rat) / (((2:Int) ^ K:Int):Rat)
def pK0 (K:Nat):(((2:Int) ^ K:Int):Rat)≠0:=λh=>uT (q0N K) (by exact_mod_cast h)
def qkw {K:Nat} {a b:Int}:rK K (a+b)=rK K a+rK K b:=by unfold rK; rw [Rat.intCast_add,Rat.div_def,Rat.div_def,Rat.div_def,Rat.add_mul]
def qeG {K:Nat} {a b:Int}:rK K (a-b)=rK K a-rK K b:=by unfold rK; rw [Rat.intCast_sub,Rat.div_def,Rat.div_def,Rat.div_def]; grind
def qgq {K:Nat}:rK K 0=0:=by unfold rK; simp [Rat.div_def]
def qhn {K:Nat} {g:Nat->Int}:∀ n,rK K (sg g n)=sq (λi=>rK K (g i)) n
 | 0=>qgq
 | n+1=>by rw [sg,qkw,qhn n,sq]
def qtR {K:Nat} {x y:Nat} (hK:K=65536) (hx:q0M x) (hy:q0M y):rK K (q1M x y)=rK K (ofZ x)*rK K (ofZ y):=by
 have h:=(q7G hK hx hy).1;have p:=pK0 K;unfold rK;generalize (2:Int) ^ K=c at *;have h2:((q1M x y:Int):Rat)*((c:Int):Rat)=((ofZ x:Int):Rat)*((ofZ y:Int):Rat):=by
  rw [<- Rat.intCast_mul,<- Rat.intCast_mul,h]
 generalize ((q1M x y:Int):Rat)=a at *;generalize ((ofZ x:Int):Rat)=b at *;generalize ((ofZ y:Int):Rat)=d at *;generalize ((c:Int):Rat)=e at *
 grind
def pKp (K:Nat):0 < (((2:Int) ^ K:Int):Rat):=by exact_mod_cast q0N K
def q3S {K:Nat} {a b:Int}:rK K a<=rK K b ↔ a<=b:=by
 have p:=Rat.inv_pos.2 (pKp K);unfold rK;rw [Rat.div_def,Rat.div_def]
 constructor
 .intro h
  by_cases q:a<=b
  .exact q
  .exfalso
   have h2:((b:Int):Rat) < (a:Rat):=by exact_mod_cast (show b < a by omega)
   have:=Rat.mul_lt_mul_of_pos_right h2 p
   grind
 .intro h;exact Rat.mul_le_mul_of_nonneg_right (by exact_mod_cast h) (Rat.le_of_lt p)
def qtU {K:Nat} {a:Int}:rK K (a.natAbs:Int)=ab (rK K a):=by
 have h0:=qgq (K:=K);unfold ab
 by_cases h:a < 0
 .rw [if_pos (by rw [<- h0]; exact Rat.not_le.1 λq=>by have:=q3S.1 q; omega),show (a.natAbs:Int)=0-a by omega,qeG,h0]; grind
 .rw [if_neg (by rw [<- h0]; exact Rat.not_lt.2 (q3S.2 ω)),show (a.natAbs:Int)=a by omega]
def rK_P {K:Nat} {a b c:Int} (h:a*b=c*(2:Int) ^ K):rK K c=rK K a*rK K b:=by
 have p:=pK0 K;unfold rK;have h2:((c:Int):Rat)*(((2:Int) ^ K:Int):Rat)=(a:Rat)*(b:Rat):=by rw [<- Rat.intCast_mul,<- Rat.intCast_mul,h]
 generalize (((2:Int) ^ K:Int):Rat)=e at *;generalize ((a:Int):Rat)=u at *;generalize ((b:Int):Rat)=d at *;generalize ((c:Int):Rat)=g at *
 grind
def q6O {K:Nat} (hK:K=65536):rK K q0s=1:=by
 have p:=pK0 K;unfold rK;rw [q6Q,<- hK,Rat.div_def,Rat.mul_inv_cancel _ p]
section
variable {F:Nat->Nat->Option Nat} {n K:Nat} {b z v:List Nat}
abbrev mA (K:Nat) (F:Nat->Nat->Option Nat):Mx:=λr c=>rK K (ofZ ((F c r).getD 0))
abbrev mR (K n:Nat) (v:List Nat):Mx:=λr k=>rK K (ofZ (v.getD (k*n+r) 0))
def qpi (hK:K=65536) (h:TOk F n n) (hv:q1N v) {i:Nat} (hi:i < n):rK K (btZ n v F i)=sq (λj=>ab (E1 n (mA K F) (mR K n v) i j)) n:=by
 unfold btZ;rw [qhn];refine q00 n λj hj=>?_;rw [qtU]
 congr 1
 unfold btE E1;rw [qeG,qhn]
 congr 1
 .split
  .exact q6O hK
  .exact qgq
 .refine q00 n λk hk=>?_;unfold btD;exact qtR hK (q1o hv).2 (h.finD hj hk)
def quX {l:List Int} {x:Int} (h:x ∈ l):x<=grZ l:=by
 have key:∀ (l:List Int) (a:Int),x ∈ l->x<=l.foldl max a:=λl=>by
  induction l with
  | nil=>intro a h; cases h
  | cons y l ih =>
   intro a h;rw [List.foldl_cons]
   rcases List.mem_cons.1 h with rfl | h
   .have:=(qbE l (max a x)).2;omega
   .exact ih _ h
 exact key l 0 h
def qwF (hK:K=65536) (h:TOk F n n) (hv:q1N v) {i:Nat} (hi:i < n):sq (λj=>ab (E1 n (mA K F) (mR K n v) i j)) n<=rK K (grZ (btL n v F)):=by
 rw [<- qpi hK h hv hi];exact q3S.2 (quX (zG.2 ⟨i,zV.2 hi,rfl⟩))
def bt_1 (hK:K=65536) (hg:¬ q0s<=grZ (btL n v F)):rK K (grZ (btL n v F)) < 1:=by
 rw [<- q6O hK];exact Rat.not_le.1 λq=>hg (q3S.1 q)
def qr7 (hK:K=65536) (h:TOk F n n) (hv:q1N v) (hg:¬ q0s<=grZ (btL n v F)):det n (mA K F)≠0:=qpS (λi hi=>qwF hK h hv hi) (bt_1 hK hg)
end
def sgn_d {b k:Int} (hb:b≠0):sgn (decide (b*k < 0) != decide (b < 0)) k.natAbs=k:=by
 unfold sgn
 rcases Int.lt_trichotomy k 0 with h | rfl | h
 .rcases yP hb with g | g
  .have:=Int.mul_pos_of_neg_of_neg g h;rw [if_pos (by simp; omega)]; omega
  .have:=Int.mul_neg_of_pos_of_neg g h;rw [if_pos (by simp; omega)]; omega
 .simp
 .rcases yP hb with g | g
  .have:=Int.mul_neg_of_neg_of_pos g h;rw [if_neg (by simp; omega)]; omega
  .have:=Int.mul_pos g h;rw [if_neg (by simp; omega)]; omega
def qsk {s:Bool}:sgn s 0=0:=by cases s <;> rfl
def qhU {b k:Int} (ha:bl (b*k).natAbs<=20000000) (hb:bl b.natAbs<=20000000) (hb0:b≠0):ACt 279 [bT (b*k),bT b] (.tu [bT k,bT 0]):=by
 have cA:=q2c ha;have cB:=q2c hb;have cD:=q6F ha hb Oq;have e1:(b*k).natAbs / b.natAbs=k.natAbs:=by rw [zH,xK _ ω]
 have e2:(b*k).natAbs % b.natAbs=0:=by rw [zH,Nat.mul_mod_right]
 rw [e1,e2] at cD;have hk:bl k.natAbs<=20000000:=by
  have:=q07 (Nat.div_le_self (b*k).natAbs b.natAbs);rw [e1] at this; omega
 have cQ:=q36 (s:=decide (b*k < 0) != decide (b < 0)) (z:=k.natAbs) hk;have cR:=q36 (s:=decide (b*k < 0)) (z:=0) (by rw [q06]; omega);have cS:=q0n (a:=0) (by rw [show (0:Int).natAbs=0 from rfl,q06]; omega);rw [sgn_d hb0] at cQ;rw [qsk] at cR;have hs:¬ (0:Int).sign < 0:=σ
 generalize (0:Int).sign=sg at *;have d0:decide ((0:Int) < 0)=false:=rfl;unfold bT at *;rw [d0] at *;generalize decide (b*k < 0)=s at *;generalize decide (b < 0)=t at *;generalize decide (k < 0)=u at *;generalize (decide (b < 0))=t at *;generalize b*k=a at *;refine ac0 Tryz.func279 Tryz.ntmps279 [.cell 4 42,.cell 5 42] ?_;exact wk1 hs trivial
def q6i {b k:Int} (ha:bl (b*k).natAbs<=20000000) (hb:bl b.natAbs<=20000000) (hb0:b≠0):ACt 278 [bT (b*k),bT b] (.tu [bT k,bv true]):=by
 have cD:=qhU ha hb hb0;have cS:=q0n (a:=0) (by rw [show (0:Int).natAbs=0 from rfl,q06]; omega);have hs:((0:Int).sign != 0)=false:=σ
 generalize (0:Int).sign=sg at *;unfold bT at *;generalize decide (b*k < 0)=s at *;generalize decide (b < 0)=t at *;generalize decide (k < 0)=u at *;generalize b*k=a at *;refine ac0 Tryz.func278 Tryz.ntmps278 [.cell 4 42,.tmp 5] ?_;exact wk1 hs trivial
def qmx {a b:Int} (ha:bl a.natAbs<=20000000) (hb:bl b.natAbs<=20000000):ACt 277 [bT a,bT b] (bT (uS a b:Nat)):=by
 have cA:=q3P ha;have cB:=q3P hb;have hG:wD a.natAbs b.natAbs=uS a b:=rfl;rw [<- hG];clear hG;have d:∀ z:Nat,decide ((z:Int) < 0)=false:=λz=>decide_eq_false Oq;generalize a.natAbs=x0 at *;generalize b.natAbs=y0 at *;have cS:=λ(y:Nat) (h:bl y<=20000000)=>q0n (a:=y) (by rw [zF]; exact h);have cD:=λ(x y:Nat) (h1:bl x<=20000000) (h2:bl y<=20000000) (h3:y≠0)=>q6E h1 h2 h3;unfold bT at *;simp only [d] at cA cB cS cD ⊢;refine ac0 Tryz.func277 Tryz.ntmps277 [.cell 4 42] ?_;refine wk ?_;refine q0B (λp:Nat × Nat=>wD p.1 p.2=wD x0 y0/\bl p.1<=20000000/\bl p.2<=20000000) [0,1,2,3,4,5,6] [2,3,4] Lk Lk (λ_=>[]) (λp=>[(5,⟨42,some 2,[.ag [bv false,.fm (fL p.1)]],false⟩),(6,⟨42,some 2,[.ag [bv false,.fm (fL p.2)]],false⟩)]) (λp=>p.2) (x0,y0) ⟨rfl,ha,hb⟩ ?_ ?_
 .refine LeM [] rfl rfl ?_;exact Zy
 .rintro ⟨x,y⟩ ⟨hg,hx,hy⟩;dsimp only at hg hx hy ⊢;have c1:=cS y hy
  by_cases h0:y=0
  .subst h0;have hs:(((0:Nat):Int).sign != 0)=false:=σ
   generalize ((0:Nat):Int).sign=sg at *;rw [Nat.gcd_zero_right] at hg;refine wk1 hs ?_;rw [hg]
  .have c2:=cD x y hx hy h0;have hs:((y:Int).sign != 0)=true:=by rw [uP ω]; rfl
   have hm:bl (x % y)<=20000000:=zP (q07 (xL (Nat.mod_lt _ Oq))) hy;have hl:x % y < y:=Nat.mod_lt _ Oq;have hg2:wD y (x % y)=wD x0 y0:=by rw [<- hg,Nat.gcd_comm x y,Nat.gcd_rec y x,Nat.gcd_comm]
   generalize (y:Int).sign=sg at *;generalize x % y=r at *;generalize x / y=q at *;refine wk1 hs ?_;refine ⟨(y,r),⟨hg2,hy,hm⟩,hl,?_⟩;refine LeM [] rfl rfl ?_;exact Zy
abbrev qT (q:Rat):PV:=.ag [bv (decide (q.num < 0)),.fm (fL q.num),bv (decide ((q.den:Int) < 0)),.fm (fL (q.den:Nat))]
def qt1 {n d:Int} (h0:d≠0):n=(d.sign*(uS n d:Nat))*((n:Rat) / (d:Rat)).num/\d=(d.sign*(uS n d:Nat))*(((n:Rat) / (d:Rat)).den:Nat):=by
 rw [<- Rat.divInt_eq_div,Rat.num_divInt,Rat.den_divInt,if_neg h0,Int.gcd_comm d n];have g0:uS n d≠0:=λh=>h0 (xV.1 h).2;obtain ⟨x,hx⟩:=Int.gcd_dvd_left n d;obtain ⟨y,hy⟩:=Int.gcd_dvd_right n d;generalize uS n d=g at *;have hg:(g:Int)≠0:=ω
 have hs:d.sign*d.sign=1:=by
  rcases yP h0 with h | h
  .rw [zY h]; rfl
  .rw [uP h]; rfl
 constructor
 .have e:d.sign*n=g*(d.sign*x):=by rw [hx]; grind
  rw [e,Int.mul_ediv_cancel_left _ hg];have:d.sign*(g:Int)*(d.sign*x)=(d.sign*d.sign)*(g*x):=by grind
  rw [this,hs,wC]; exact hx
 .have e:d.natAbs / g=y.natAbs:=by rw [hy,zH,zF,xK _ ω]
  rw [e];have e2:d.sign*(d.natAbs:Int)=d:=Int.sign_mul_natAbs d;have e3:(d.natAbs:Int)=g*(y.natAbs:Int):=by rw [hy,zH,zF]; simp
  rw [zZ,<- e3,e2]
def q_le {n d:Int} (h0:d≠0):bl ((n:Rat) / (d:Rat)).num.natAbs<=bl n.natAbs/\bl ((n:Rat) / (d:Rat)).den<=bl d.natAbs:=by
 obtain ⟨h1,h2⟩:=qt1 (n:=n) h0;have g0:0 < (d.sign*(uS n d:Nat):Int).natAbs:=by
  refine Nat.pos_of_ne_zero λh=>?_;have h:=Int.natAbs_eq_zero.1 h;rw [h,yQ] at h2;exact h0 h2
 generalize (d.sign*(uS n d:Nat):Int)=g at *
 constructor
 .refine q07 ?_;have:n.natAbs=g.natAbs*((n:Rat) / (d:Rat)).num.natAbs:=by rw [<- zH,<- h1]
  rw [this];exact yI _ g0
 .refine q07 ?_;have:d.natAbs=g.natAbs*((n:Rat) / (d:Rat)).den:=by
   have:=congrArg xZ h2;rw [zH,zF] at this;exact this
  rw [this];exact yI _ g0
def q7C {n d:Int} (hn:bl n.natAbs<=20000000) (hd:bl d.natAbs<=20000000) (h0:d≠0):ACt 253 [bT n,bT d] (qT ((n:Rat) / (d:Rat))):=by
 have cG:=qmx hn hd;have cS:=q0n hd;obtain ⟨h1,h2⟩:=qt1 (n:=n) h0;have hgb:bl (uS n d)<=20000000:=zP (q07 (Nat.le_of_dvd ω (Int.natCast_dvd_natCast.1 (by rw [Int.dvd_natAbs]; exact Int.gcd_dvd_right n d)))) hd;have cN:=q6j (a:=(uS n d:Nat)) (by rw [zF]; exact hgb);have g0:uS n d≠0:=λh=>h0 (xV.1 h).2;generalize (n:Rat) / (d:Rat)=q at *;generalize uS n d=g at *
 rcases yP h0 with h | h
 .rw [zY h] at h1 h2 cS;have e:(-1:Int)*(g:Int) = -(g:Int):=ω
  rw [e] at h1 h2;have c1:=q6i (b := -(g:Int)) (k:=q.num) (by rw [<- h1]; exact hn) (by rw [zS,zF]; exact hgb) ω;have c2:=q6i (b := -(g:Int)) (k:=(q.den:Nat)) (by rw [<- h2]; exact hd) (by rw [zS,zF]; exact hgb) ω;rw [<- h1] at c1;rw [<- h2] at c2;have hs:(-1:Int) < 0:=ω
  unfold bT qT at *;generalize -(g:Int)=g' at *;generalize q.num=x at *;generalize (q.den:Int)=y at *;refine ac0 Tryz.func253 Tryz.ntmps253 [.cell 4 243] ?_;exact wk1 hs trivial
 .rw [uP h] at h1 h2 cS;rw [wC] at h1 h2;have c1:=q6i (b:=(g:Int)) (k:=q.num) (by rw [<- h1]; exact hn) (by rw [zF]; exact hgb) ω;have c2:=q6i (b:=(g:Int)) (k:=(q.den:Nat)) (by rw [<- h2]; exact hd) (by rw [zF]; exact hgb) ω;rw [<- h1] at c1;rw [<- h2] at c2;have hs:¬ (1:Int) < 0:=ω
  unfold bT qT at *;generalize (g:Int)=g' at *;generalize q.num=x at *;generalize (q.den:Int)=y at *;refine ac0 Tryz.func253 Tryz.ntmps253 [.cell 4 243] ?_;exact wk1 hs trivial
def quN {a b c d:PV}:ldU (some 4) (some 2) 0 (.ag [a,b,c,d])=some (.ag [a,b]):=by simp [ldU]
def quM {a b c d:PV}:ldU (some 4) (some 2) 2 (.ag [a,b,c,d])=some (.ag [c,d]):=by simp [ldU]
def qsV {a b c d x y:PV}:stU (some 4) (some 2) 0 (.ag [a,b,c,d]) (.ag [x,y])=some (.ag [x,y,c,d]):=by simp [stU]
attribute [go_sem] quN quM qsV
def qhq {q:Rat} (hq:bl q.num.natAbs<=20000000):ACt 252 [qT q] (bv (decide (q=0))):=by
 have cS:=q0n hq;have e:(q.num.sign == 0)=decide (q=0):=by
  rw [Bool.eq_iff_iff];simp [yL]
 unfold bT qT at *;generalize q.num.sign=s at *;generalize decide (q=0)=t at *;generalize decide (q.num < 0)=u at *;generalize decide ((q.den:Int) < 0)=u2 at *;generalize q.num=x at *;generalize (q.den:Int)=y at *;refine ac0 Tryz.func252 Tryz.ntmps252 [.tmp 2] ?_;exact wk1 e trivial
def qs (q:Rat) (b:Nat):Prop:=bl q.num.natAbs<=b/\bl q.den<=b
def qs.mono {q:Rat} {a b:Nat} (h:qs q a) (hab:a<=b):qs q b:=⟨zP h.1 hab,zP h.2 hab⟩
def qnd (q:Rat):q=(q.num:Rat) / ((q.den:Int):Rat):=by rw [<- Rat.divInt_eq_div]; exact (Rat.num_divInt_den q).symm
def q23 {a b:Int} {m n:Nat} (ha:bl a.natAbs<=m) (hb:bl b.natAbs<=n):bl (a*b).natAbs<=m+n:=by
 rw [zH];have:=q1W a.natAbs b.natAbs;omega
def q5U (q:Rat):((q.den:Int):Rat)≠0:=by
 have:=q.den_nz;intro h;have:(q.den:Int)=0:=by exact_mod_cast h
 omega
def qne (x y z w:Rat):x-((((y.num*z.num*(w.den:Nat):Int):Rat)) / ((((y.den:Nat)*(z.den:Nat)*w.num:Int)):Rat))=x-y*z / w:=by
 congr 1
 have hy:=qnd y;have hz:=qnd z;have hw:=qnd w;have y0:=q5U y;have z0:=q5U z;have w0:=q5U w;generalize y.num=yn at *;generalize z.num=zn at *;generalize w.num=wn at *;generalize (y.den:Int)=yd at *;generalize (z.den:Int)=zd at *;generalize (w.den:Int)=wd at *;subst hy hz hw;rw [Rat.intCast_mul,Rat.intCast_mul,Rat.intCast_mul,Rat.intCast_mul]
 by_cases h:(wn:Rat)=0
 .rw [h]; simp [Rat.div_def]
 .grind
def q_sub (x p:Rat):(((x.num*(p.den:Nat)-p.num*(x.den:Nat):Int):Rat)) / ((((x.den:Nat)*(p.den:Nat):Int)):Rat)=x-p:=by
 have hx:=qnd x;have hp:=qnd p;have x0:=q5U x;have p0:=q5U p;generalize x.num=xn at *;generalize p.num=pn at *;generalize (x.den:Int)=xd at *;generalize (p.den:Int)=pd at *;subst hx hp;rw [Rat.intCast_sub,Rat.intCast_mul,Rat.intCast_mul,Rat.intCast_mul]
 grind
def q_mul (x p:Rat):(((x.num*p.num:Int):Rat)) / ((((x.den:Nat)*(p.den:Nat):Int)):Rat)=x*p:=by
 have hx:=qnd x;have hp:=qnd p;have x0:=q5U x;have p0:=q5U p;generalize x.num=xn at *;generalize p.num=pn at *;generalize (x.den:Int)=xd at *;generalize (p.den:Int)=pd at *;subst hx hp;rw [Rat.intCast_mul,Rat.intCast_mul]
 grind
def qeL {x p:Rat} {a b:Nat} (ha:a<=5000000) (hb:b<=5000000) (hx:qs x a) (hp:qs p b):ACt 80 [bT x.num,bT p.num] (bT (x.num*p.num))/\ACt 80 [bT (x.den:Nat),bT (p.den:Nat)] (bT ((x.den:Nat)*(p.den:Nat)))/\ACt 253 [bT (x.num*p.num),bT ((x.den:Nat)*(p.den:Nat))] (qT (x*p))/\qs (x*p) (a+b):=by
 obtain ⟨x1,x2⟩:=hx;obtain ⟨p1,p2⟩:=hp;have dn:∀ q:Rat,((q.den:Nat):Int).natAbs=q.den:=λq=>zF _;have d0:∀ q:Rat,((q.den:Nat):Int)≠0:=λq h=>q.den_nz Oq;have m1:=q23 x1 p1;have m2:=q23 (a:=(x.den:Nat)) (b:=(p.den:Nat)) (by rw [dn]; exact x2) (by rw [dn]; exact p2);have h9:((x.den:Nat)*(p.den:Nat):Int)≠0:=yN (d0 x) (d0 p);have c10:=q7C (n:=x.num*p.num) (d:=(x.den:Nat)*(p.den:Nat)) Oq Oq h9;have m10:=q_le (n:=x.num*p.num) h9;rw [q_mul] at c10 m10;exact ⟨q1b ω ω,q1b (by rw [dn]; omega) (by rw [dn]; omega),c10,⟨ω,ω⟩⟩
def q5V {x y z w:Rat} {b:Nat} (hb:b<=1000000) (hx:qs x b) (hy:qs y b) (hz:qs z b) (hw:qs w b) (w0:w≠0):ACt 254 [qT x,qT y,qT z,qT w] (qT (x-y*z / w))/\qs (x-y*z / w) (4*b+1):=by
 obtain ⟨x1,x2⟩:=hx;obtain ⟨y1,y2⟩:=hy;obtain ⟨z1,z2⟩:=hz;obtain ⟨w1,w2⟩:=hw;have dn:∀ q:Rat,((q.den:Nat):Int).natAbs=q.den:=λq=>zF _;have d0:∀ q:Rat,((q.den:Nat):Int)≠0:=λq h=>q.den_nz Oq;have wn0:w.num≠0:=λh=>w0 (Rat.num_eq_zero.1 h);have c1:=q1b (a:=y.num) (b:=z.num) Oq Oq;have m1:=q23 y1 z1;have c2:=q1b (a:=y.num*z.num) (b:=(w.den:Nat)) ω (by rw [dn]; omega);have m2:=q23 (b:=(w.den:Nat)) m1 (by rw [dn]; exact w2);have c3:=q1b (a:=(y.den:Nat)) (b:=(z.den:Nat)) (by rw [dn]; omega) (by rw [dn]; omega);have m3:=q23 (a:=(y.den:Nat)) (b:=(z.den:Nat)) (by rw [dn]; exact y2) (by rw [dn]; exact z2);have c4:=q1b (a:=(y.den:Nat)*(z.den:Nat)) (b:=w.num) Oq Oq;have m4:=q23 m3 w1;have h4:((y.den:Nat)*(z.den:Nat)*w.num:Int)≠0:=yN (yN (d0 y) (d0 z)) wn0;have c5:=q7C (n:=y.num*z.num*(w.den:Nat)) (d:=(y.den:Nat)*(z.den:Nat)*w.num) Oq Oq h4;have m5:=q_le (n:=y.num*z.num*(w.den:Nat)) h4;have e5:=qne x y z w;obtain ⟨p,hp⟩:∃ p:Rat,p=(((y.num*z.num*(w.den:Nat):Int):Rat)) / ((((y.den:Nat)*(z.den:Nat)*w.num:Int)):Rat):=⟨_,rfl⟩;rw [<- hp] at c5 m5 e5;rw [<- e5];clear hp e5;have c6:=q1b (a:=x.num) (b:=(p.den:Nat)) ω (by rw [dn]; omega);have m6:=q23 (a:=x.num) (b:=(p.den:Nat)) x1 (by rw [dn]; exact m5.2);have c7:=q1b (a:=p.num) (b:=(x.den:Nat)) ω (by rw [dn]; omega);have m7:=q23 (a:=p.num) (b:=(x.den:Nat)) m5.1 (by rw [dn]; exact x2);have c8:=qdU (a:=x.num*(p.den:Nat)) (b:=p.num*(x.den:Nat)) Oq Oq;have m8:bl (x.num*(p.den:Nat)-p.num*(x.den:Nat)).natAbs<=4*b+1:=by
  have:=q07 (Int.natAbs_sub_le (x.num*(p.den:Nat)) (p.num*(x.den:Nat)));have:=q2o (a:=(x.num*(p.den:Nat)).natAbs) (b:=(p.num*(x.den:Nat)).natAbs) (k:=4*b) Oq Oq;omega
 have c9:=q1b (a:=(x.den:Nat)) (b:=(p.den:Nat)) (by rw [dn]; omega) (by rw [dn]; omega);have m9:=q23 (a:=(x.den:Nat)) (b:=(p.den:Nat)) (by rw [dn]; exact x2) (by rw [dn]; exact m5.2);have h9:((x.den:Nat)*(p.den:Nat):Int)≠0:=yN (d0 x) (d0 p);have c10:=q7C (n:=x.num*(p.den:Nat)-p.num*(x.den:Nat)) (d:=(x.den:Nat)*(p.den:Nat)) Oq Oq h9;have m10:=q_le (n:=x.num*(p.den:Nat)-p.num*(x.den:Nat)) h9;rw [q_sub] at c10 m10;refine ⟨?_,⟨ω,ω⟩⟩;unfold bT qT at *;refine ac0 Tryz.func254 Tryz.ntmps254 [.cell 8 243] ?_;exact wk trivial
end Go.Proofs.YtbjoghfmhgadkaaGreatDoor
namespace Go.E
open Go Go.RowKit
section
variable {T1 T2:TypeId} {K:Kd} {N R n m:Nat} {p:Nat->Nat} {row:Nat->List PV}
def q7w (T1 T2:TypeId) (K:Kd) (N R n m:Nat) (p:Nat->Nat) (row:Nat->List PV):Hp:=λi =>
 if i=N then some ⟨T1,none,(List.range n).map λj=>.ow (p j+R) K 0 m,false⟩
 else if R<=i/\i < R+n then some ⟨T2,K,row (i-R),false⟩ else none
def qkU:q7w T1 T2 K N R n m p row N=some ⟨T1,none,(List.range n).map λj=>.ow (p j+R) K 0 m,false⟩:=if_pos rfl
def qdQ {j:Nat} (hN:N < R) (hj:j < n):q7w T1 T2 K N R n m p row (j+R)=some ⟨T2,K,row j,false⟩:=by
 unfold q7w;rw [if_neg ω,if_pos ω,Nat.add_sub_cancel]
def qmw {i:Nat} (h1:i < N) (h2:i < R):q7w T1 T2 K N R n m p row i=none:=by
 unfold q7w;rw [if_neg ω,if_neg ω]
attribute [go_sem ↓] qkU qdQ qmw
def q5H {i:Nat} {b:Bk} (hb:q7w T1 T2 K N R n m p row i=some b):(i=N/\b=⟨T1,none,(List.range n).map λj=>.ow (p j+R) K 0 m,false⟩)\/(R<=i/\i < R+n/\b=⟨T2,K,row (i-R),false⟩):=by
 unfold q7w at hb
 split at hb
 .cases hb; exact .inl ⟨‹_›,rfl⟩
 .split at hb
  .rename_i hi; cases hb; exact .inr ⟨hi.1,hi.2,rfl⟩
  .cases hb
def qa3 {q:Nat->Prop} (hp:∀ j,j < n->q (p j+R)):IdL q ((List.range n).map λj=>.ow (p j+R) K 0 m):=IdL.of λx hx=>by
 obtain ⟨z,hz,rfl⟩:=zG.1 hx;unfold IdP; exact hp z (zV.1 hz)
def qmv (hrow:∀ j,∀ q,IdL q (row j)) (hp:∀ j,j < n->p j < n) (hN:5000<=N) (hNR:N < R) (hR:R+n<=1000000):WfH (q7w T1 T2 K N R n m p row):=⟨λi b hb=>by
 rcases q5H hb with ⟨_,rfl⟩ | ⟨h1,h2,rfl⟩
 .refine ⟨rfl,qa3 λj hj=>?_⟩;have:=hp j hj;exact ⟨⟨ω,ω⟩,by rw [qdQ hNR this]; exact yZ _⟩
 .exact ⟨rfl,hrow _ _⟩⟩
def qhS {q:Nat} {xs:List PV} (hNR:N < R) (hq:q < n):q0Q (q7w T1 T2 K N R n m p row) (q+R) ⟨T2,K,xs,false⟩=q7w T1 T2 K N R n m p (λj=>if j=q then xs else row j):=by
 funext i
 unfold q0Q q7w
 by_cases h:i=q+R
 .subst h;rw [if_pos rfl,if_neg ω,if_pos ω,Nat.add_sub_cancel]
  show _=some (Bk.mk T2 K (if q=q then xs else row q) false)
  rw [if_pos rfl]
 .rw [if_neg h]
  by_cases h1:i=N
  .rw [if_pos h1,if_pos h1]
  .rw [if_neg h1,if_neg h1]
   by_cases h2:R<=i/\i < R+n
   .rw [if_pos h2,if_pos h2]
    show _=some (Bk.mk T2 K (if i-R=q then xs else row (i-R)) false)
    rw [if_neg ω]
   .rw [if_neg h2,if_neg h2]
def qhT {p':Nat->Nat} {xs:List PV} (hx:xs=(List.range n).map λj=>.ow (p' j+R) K 0 m):q0Q (q7w T1 T2 K N R n m p row) N ⟨T1,none,xs,false⟩=q7w T1 T2 K N R n m p' row:=by
 funext i
 unfold q0Q q7w
 by_cases h:i=N
 .rw [if_pos h,if_pos h,hx]
 .rw [if_neg h,if_neg h,if_neg h]
def qhR (T1 T2:TypeId) (K:Kd) (N R n m:Nat):Hp:=λi =>
 if i=N then some ⟨T1,none,List.replicate n .un,false⟩
 else if R<=i/\i < R+n then some ⟨T2,K,List.replicate m .un,false⟩ else none
def q6B {i:Nat} {b:Bk} (hb:qhR T1 T2 K N R n m i=some b):(i=N/\b=⟨T1,none,List.replicate n .un,false⟩)\/(R<=i/\i < R+n/\b=⟨T2,K,List.replicate m .un,false⟩):=by
 unfold qhR at hb
 split at hb
 .cases hb; exact .inl ⟨‹_›,rfl⟩
 .split at hb
  .rename_i hi; cases hb; exact .inr ⟨hi.1,hi.2,rfl⟩
  .cases hb
end
end Go.E
namespace Go.Proofs.YtbjoghfmhgadkaaGreatDoor
open Go Go.E Go.Sp
def q6s (n:Nat) (D:Nat->Nat->Rat) (q:Nat):List PV:=(List.range n).map λc=>qT (D q c)
abbrev tQ (n:Nat) (p:Nat->Nat) (D:Nat->Nat->Rat):Hp:=q7w 270 243 (some 4) 5000 10000 n n p (q6s n D)
abbrev tQu (n:Nat):Hp:=qhR 270 243 (some 4) 5000 10000 n n
def q2v {n c q:Nat} {D:Nat->Nat->Rat} (hc:c < n):(q6s n D q)[c]?=some (qT (D q c)):=by
 unfold q6s;rw [zL,zB hc]; rfl
def q6r {n q:Nat} {D:Nat->Nat->Rat}:(q6s n D q).length=n:=by unfold q6s; simp
def clQ {n:Nat} {D:Nat->Nat->Rat} {q:Nat}:ClL (q6s n D q):=λx hx=>by
 obtain ⟨c,_,rfl⟩:=zG.1 hx;intro y hy;simp at hy
 rcases hy with rfl | rfl | rfl | rfl <;> trivial
def qaj {n:Nat} {D:Nat->Nat->Rat} (q:Nat) (r:Nat->Prop):IdL r (q6s n D q):=qgi clQ
def LeUn {J:Nat->Prop} {h:Hp} {n k:Nat} {p:Nat->Nat} {D:Nat->Nat->Rat} {l:List Nat} {d:Rat} (hn:n<=5) (hq:Wn h (tQ n p D)) (hl:h 1001=some ⟨3,none,l.map λz:Nat=>iv z,false⟩) (hk:l.length=k) :
  Le J (λ_=>.tu [.ow 1001 none 0 k,qT d]) h (λ_=>.tu [pN l,qT d]) (tQu n):=by
 refine q4C (λi=>if i < 5000 then none else some i) (λi b hb=>?_) (λi j k b c hi hj ti tj=>?_) (λ_=>.tu rfl λi x y hx hy=>?_) λi _ q1 _=>if_neg Oq
 .unfold LeB
  rcases q6B hb with ⟨rfl,rfl⟩ | ⟨a1,a2,rfl⟩
  .show ∃ b,h 5000=some b/\_
   refine ⟨_,(hq 5000 ⟨ω,ω⟩).trans qkU,rfl,rfl,⟨rfl,rfl⟩,σ,λc u v _ hv=>?_⟩;have:=zE hv;rw [(yH.1 this).2]; exact .un
  .have ei:(if i < 5000 then none else some i)=some i:=if_neg Oq;dsimp only;rw [ei];have e:tQ n p D i=some ⟨243,some 4,q6s n D (i-10000),false⟩:=by
    have:=qdQ (T1:=270) (T2:=243) (K:=some 4) (N:=5000) (R:=10000) (n:=n) (m:=n) (p:=p) (row:=q6s n D) (j:=i-10000) Oq Oq;rw [Nat.sub_add_cancel a1] at this;exact this
   refine ⟨_,(hq i ⟨ω,ω⟩).trans e,rfl,rfl,⟨rfl,rfl⟩,by simp [q6s],λc u v _ hv=>?_⟩;have:=zE hv;rw [(yH.1 this).2]; exact .un
 .replace ti:(if i < 5000 then none else some i)=some k:=ti;replace tj:(if j < 5000 then none else some j)=some k:=tj
  split at ti
  .cases ti
  .split at tj
   .cases tj
   .cases ti; cases tj; rfl
 .rcases i with _ | _ | i
  .cases hx; cases hy;refine q8r (T:=3) (l:=l.map λz:Nat=>iv z) hl (λx hx=>by obtain ⟨z,_,rfl⟩:=zG.1 hx; trivial) (λi hi=>?_) (by rw [yS]; exact zK (by rw [zN]; omega));replace hi:(if i < 5000 then none else some i)=some 1001:=hi
   split at hi
   .cases hi
   .cases hi; omega
  .cases hx; cases hy; exact .cl (by intro y hy; simp at hy; rcases hy with rfl | rfl | rfl | rfl <;> trivial)
  .simp at hx
def qsm (D:Nat->Nat->Rat) (q c:Nat) (v:Rat):Nat->Nat->Rat:=λa b=>if a=q/\b=c then v else D a b
def qhf {n c q:Nat} {D:Nat->Nat->Rat} {v:Rat}:(λj=>if j=q then (q6s n D q).set c (qT v) else q6s n D j)=q6s n (qsm D q c v):=by
 funext j
 by_cases h:j=q
 .subst h;rw [if_pos rfl];unfold q6s qsm;refine xE λi=>?_;rw [yA,zL,zL,zN,z9]
  rcases y6 i n with hn | hn
  .rw [zB hn,z6,z6]
   by_cases hc:c=i
   .rw [if_pos hc,if_pos ω,if_pos ⟨rfl,hc.symm⟩]
   .rw [if_neg hc,if_neg (λe=>hc e.2.symm)]
  .rw [yJ (by simpa using hn),yY,yY]
   split
   .rw [if_neg ω]
   .rfl
 .rw [if_neg h];unfold q6s qsm
  congr 1
  funext b
  rw [if_neg ω]
section
open Go.Dt
variable {A B:Mx} {j k n i:Nat}
def ql8 (h1:k<=i) (h2:i<=n) (h3:∀ t,k<=t->t < i->B t j=0) (h4:i=n\/B i j≠0):fnz B j k (n-k)=i:=by
 rcases qbH (A:=B) (j:=j) (n-k) k with ⟨q1,q2⟩ | ⟨q1,q2,q3⟩
 .rcases h4 with rfl | h4
  .omega
  .by_cases h:i=n
   .omega
   .exact (h4 (q2 i h1 Oq)).elim
 .rcases Nat.lt_trichotomy (fnz B j k (n-k)) i with h | h | h
  .exact (q3 (h3 _ q1 h)).elim
  .exact h
  .rcases h4 with rfl | h4
   .omega
   .exfalso
    have:∀ m s,s<=i->i < s+m->s<=fnz B j s m->fnz B j s m > i->False:=by
     intro m
     induction m with
     | zero=>intro s a b _ _; omega
     | succ m ih =>
      intro s a b c d;rw [fnz] at c d
      by_cases hz:B s j=0
      .rw [if_pos hz] at c d
       by_cases hs:s=i
       .subst hs; exact h4 hz
       .exact ih (s+1) Oq Oq Oq d
      .rw [if_neg hz] at d; omega
    exact this (n-k) k h1 Oq q1 h
end
open Go.Dt
def sB (b:Nat):Nat->Nat
 | 0=>b
 | j+1=>4*sB b j+1
def qn2 {b j:Nat} (hb:b<=100) (hj:j<=5):sB b j<=200000:=by
 rcases j with _ | _ | _ | _ | _ | _ | j <;> simp only [sB] <;> omega
def pvE (n:Nat) (A:Mx):Nat->List Nat
 | 0=>[]
 | j+1=>if fnz (ech n A j).1 j (ech n A j).2.1 (n-(ech n A j).2.1)=n then pvE n A j else pvE n A j ++ [j]
structure Ec where
 j:Nat
 k:Nat
 p:Nat->Nat
 D:Nat->Nat->Rat
 d:Rat
structure EcI (n b:Nat) (A:Mx) (x:Ec):Prop where
 j:x.j<=n
 kj:x.k<=x.j
 l:(pvE n A x.j).length=x.k
 e:(ech n A x.j).2=(x.k,x.d)
 m:∀ r c,r < n->c < n->x.D (x.p r) c=(ech n A x.j).1 r c
 pi:∀ r,r < n->x.p r < n
 pj:∀ r s,r < n->s < n->x.p r=x.p s->r=s
 s:∀ r c,r < n->c < n->qs (x.D (x.p r) c) (sB b x.j)
 sd:qs x.d (sB b x.j*(x.j+1))
section
variable {n b j k i:Nat} {A:Mx} {p:Nat->Nat} {E E':Nat->Nat->Rat} {d:Rat}
def EcI.no (h:EcI n b A ⟨j,k,p,E,d⟩) (hj:j < n) (hz:∀ t,k<=t->t < n->E (p t) j=0):EcI n b A ⟨j+1,k,p,E,d⟩/\pvE n A (j+1)=pvE n A j:=by
 obtain ⟨h1,h2,h3,h5,h6,h7,h8,h9,h10⟩:=h;dsimp only at h1 h2 h3 h5 h6 h7 h8 h9 h10;have hk:(ech n A j).2.1=k:=by rw [h5]
 have hf:fnz (ech n A j).1 j (ech n A j).2.1 (n-(ech n A j).2.1)=n:=by
  rw [hk];exact ql8 ω (zO _) (λt a c=>by rw [<- h6 t j c hj]; exact hz t a c) (.inl rfl)
 have he:ech n A (j+1)=ech n A j:=by rw [ech,est,if_pos hf]
 have hp:pvE n A (j+1)=pvE n A j:=by rw [pvE,if_pos hf]
 refine ⟨⟨hj,by dsimp only; omega,by dsimp only; rw [hp]; exact h3,by dsimp only; rw [he]; exact h5,λr c hr hc=>?_,h7,h8,λr c hr hc=>(h9 r c hr hc).mono ?_,h10.mono ?_⟩,hp⟩
 .dsimp only; rw [he]; exact h6 r c hr hc
 .dsimp only; rw [sB]; omega
 .dsimp only; rw [sB];exact zI Oq Oq
def pSw (p:Nat->Nat) (i k:Nat):Nat->Nat:=λr=>if r=i then p k else if r=k then p i else p r
def EcI.yes (h:EcI n b A ⟨j,k,p,E,d⟩) (hj:j < n) (h1:k<=i) (h2:i < n) (h3:∀ t,k<=t->t < i->E (p t) j=0) (h4:E (p i) j≠0)
  (hE:∀ r c,r < n->c < n->E' (pSw p i k r) c=el (λr c=>E (pSw p i k r) c) k j n r c) (hs:∀ r c,r < n->c < n->qs (E' (pSw p i k r) c) (4*sB b j+1))
  (hd:qs ((if i=k then d else -d)*E (pSw p i k k) j) (sB b j*(j+1)+sB b j)):EcI n b A ⟨j+1,k+1,pSw p i k,E',(if i=k then d else -d)*E (pSw p i k k) j⟩/\pvE n A (j+1)=pvE n A j ++ [j]:=by
 obtain ⟨g1,g2,g3,g5,g6,g7,g8,g9,g10⟩:=h;dsimp only at g1 g2 g3 g5 g6 g7 g8 g9 g10;have hk:(ech n A j).2.1=k:=by rw [g5]
 have hdd:(ech n A j).2.2=d:=by rw [g5]
 have hfk:fnz (ech n A j).1 j k (n-k)=i:=ql8 h1 (xL h2) (λt a c=>by rw [<- g6 t j ω hj]; exact h3 t a c) (.inr (by rw [<- g6 i j h2 hj]; exact h4));have hf:fnz (ech n A j).1 j (ech n A j).2.1 (n-(ech n A j).2.1)=i:=by rw [hk]; exact hfk
 have hsw:∀ r c,r < n->c < n->swp (ech n A j).1 i k r c=E (pSw p i k r) c:=λr c hr hc=>by
  unfold swp pSw
  by_cases e1:r=i
  .rw [if_pos e1,if_pos e1,g6 k c ω hc]
  .rw [if_neg e1,if_neg e1]
   by_cases e2:r=k
   .rw [if_pos e2,if_pos e2,g6 i c h2 hc]
   .rw [if_neg e2,if_neg e2,g6 r c hr hc]
 have he:ech n A (j+1)=(el (swp (ech n A j).1 i k) k j n,k+1,(if i=k then d else -d)*swp (ech n A j).1 i k k j):=by
  rw [ech,est,hf,if_neg ω,hk,hdd]
 have hp:pvE n A (j+1)=pvE n A j ++ [j]:=by rw [pvE,hf,if_neg ω]
 refine ⟨⟨hj,by dsimp only; omega,by dsimp only; rw [hp,yG,g3]; rfl,?_,λr c hr hc=>?_,λr hr=>?_,λr s hr hs' e=>?_,λr c hr hc=>(hs r c hr hc).mono ?_,hd.mono ?_⟩,hp⟩
 .dsimp only; rw [he,hsw k j ω hj]
 .dsimp only; rw [he,hE r c hr hc];unfold el;dsimp only;rw [hsw r c hr hc,hsw r j hr hj,hsw k c ω hc,hsw k j ω hj]
 .dsimp only;unfold pSw
  split
  .exact g7 k Oq
  .split
   .exact g7 i h2
   .exact g7 r hr
 .dsimp only at e;unfold pSw at e
  split at e <;> split at e <;> (try split at e) <;> (try split at e) <;> first | (have:=g8 _ _ ω ω e; omega) | omega
 .dsimp only; rw [sB]; omega
 .dsimp only; rw [sB];have:sB b j*(j+1)+sB b j=sB b j*(j+1+1):=(Nat.mul_succ _ _).symm;rw [this];exact zI Oq (zO _)
def qtg {R m:Nat} {K:Kd} (hi:i < n) (hk:k < n) (hik:i≠k):(((List.range n).map λj=>PV.ow (p j+R) K 0 m).set i (.ow (p k+R) K 0 m)).set k (.ow (p i+R) K 0 m)=(List.range n).map λj=>PV.ow (pSw p i k j+R) K 0 m:=by
 refine xE λt=>?_;rw [yA,yA,zL,zL,yW,zN,z9];unfold pSw
 by_cases h1:k=t
 .subst h1;rw [if_pos rfl,if_pos hk,zB hk,z6,if_neg (Ne.symm hik),if_pos rfl]
 .rw [if_neg h1]
  by_cases h2:i=t
  .subst h2;rw [if_pos rfl,if_pos hi,zB hi,z6,if_pos rfl]
  .rw [if_neg h2]
   rcases y6 t n with ht | ht
   .rw [zB ht,z6,z6,if_neg (Ne.symm h2),if_neg (Ne.symm h1)]
   .rw [yJ (by simpa using ht)]; rfl
def quW {h:Hp} {i:Nat} {a b:Bk}:q0Q (q0Q h i a) i b=q0Q h i b:=by
 funext j
 unfold q0Q
 split
 .rfl
 .rfl
def qhu:pSw p k k=p:=by
 funext r
 unfold pSw
 by_cases h:r=k
 .rw [if_pos h,h]
 .rw [if_neg h,if_neg h]
def qnp (g8:∀ r s,r < n->s < n->p r=p s->r=s) (h1:k < n) (h2:i < n):∀ r s,r < n->s < n->pSw p i k r=pSw p i k s->r=s:=λr s hr hs' e=>by
 unfold pSw at e
 split at e <;> split at e <;> (try split at e) <;> (try split at e) <;> first | (have:=g8 _ _ ω ω e; omega) | omega
def qtf (g7:∀ r,r < n->p r < n) (h1:k < n) (h2:i < n):∀ r,r < n->pSw p i k r < n:=λr hr=>by
 unfold pSw
 split
 .exact g7 k h1
 .split
  .exact g7 i h2
  .exact g7 r hr
end
def qs_1:qs 1 1:=⟨by show bl 1<=1; exact q0K (by decide),by show bl 1<=1; exact q0K (by decide)⟩
def qc3 {n b:Nat} {D:Nat->Nat->Rat} (hn:n<=5) (hb:b<=100) (hb1:1<=b) (hs:∀ r c,r < n->c < n->qs (D r c) b) :
  qgu 213 [.ow 5000 none 0 n,iv n] (tQ n (λi=>i) D) (.tu [pN (pvE n D n),qT (ech n D n).2.2]) (tQu n):=by
 refine qjw qlv Tryz.func213 rfl Tryz.ntmps213 κ ?_ ?_ ?_ ?_
 .intro i c hc
  rcases q5H hc with ⟨rfl,rfl⟩ | ⟨a1,a2,rfl⟩
  .exact ⟨⟨ω,ω⟩,rfl,qa3 λj hj=>⟨ω,ω⟩,_,if_pos rfl,rfl,σ⟩
  .exact ⟨⟨ω,ω⟩,rfl,qaj _ _,⟨243,some 4,List.replicate n .un,false⟩,by unfold tQu qhR; rw [if_neg ω,if_pos ⟨a1,a2⟩],rfl,by simp [q6s]⟩
 .intro i c hc
  rcases q6B hc with ⟨rfl,rfl⟩ | ⟨a1,a2,rfl⟩
  .exact ⟨ω,ω⟩
  .exact ⟨ω,ω⟩
 .exact IdL.of λx hx=>by
   simp at hx
   rcases hx with rfl | rfl <;> unfold IdP
   .exact ⟨ω,ω⟩
   .trivial
 have c1:=q3O (a:=1) Oq Oq;have hI:EcI n b D ⟨0,0,λi=>i,D,1⟩:=⟨by dsimp only; omega,zO _,rfl,rfl,λr c _ _=>rfl,λr h=>h,λr s _ _ h=>h,hs,qs_1.mono (by show 1<=b*(0+1); omega)⟩;have hW:∀ (p:Nat->Nat) (E:Nat->Nat->Rat),(∀ r,r < n->p r < n)->WfH (tQ n p E):=λp E h=>qmv qaj h Oq Oq Oq;have cl:∀ {τ h h'} {L:List Nat},LeL τ h h' (L.map λz:Nat=>iv z) (L.map λz:Nat=>iv z):=λ{_ _ _ _}=>q0O rfl λx hx=>by obtain ⟨z,_,rfl⟩:=zG.1 hx; trivial
 refine wk ?_;refine q0P (EcI n b D) [0,1,5,6] [5] Lk Lk (λx:Ec=>[(7,.ow 1001 none 0 x.k),(8,iv x.j)]) (λx=>[(6,⟨243,some 4,[qT x.d],false⟩),(1001,⟨3,none,(pvE n D x.j).map λz:Nat=>iv z,false⟩)]) (λx=>tQ n x.p x.D) (λx=>n-x.j) ⟨0,0,λi=>i,D,1⟩ hI ?_ ?_
 .refine LeW [(1001,none)] rfl rfl ?_ ?_ (by simp [q0f,q0b,win]) ?_
  .exact Ow
  .exact hW _ _ hI.pi
  .try refine Zz ?_
   refine ⟨rfl,⟨rfl,rfl,rfl⟩,rfl⟩
 .rintro ⟨j,k,p,E,d⟩ hi;have hi0:=hi;obtain ⟨h1,h2,h3,h5,h6,h7,h8,h9,h10⟩:=hi;dsimp only at h1 h2 h3 h5 h6 h7 h8 h9 h10
  by_cases hlt:j < n
  .have hlt':(j:Int) < n:=ω
   have hpvl:(pvE n D j).length=k:=h3;have hsb:=qn2 (b:=b) (j:=j) hb Oq;generalize hL:pvE n D j=L at *;refine wk1 (x2 hlt' hpvl) ?_;refine q0P (λi=>k<=i/\i<=n/\∀ t,k<=t->t < i->E (p t) j=0) [0,1,5,6,7,8,9] [5,6,1001] Lk Lk (λi:Nat=>[(10,iv i)]) (λ_=>[]) (λ_=>tQ n p E) (λi=>n-i) k ⟨zO _,ω,λt a b=>by omega⟩ ?_ ?_
   .refine LeW [] rfl rfl ?_ ?_ (by simp [q0f,q0b,win]) ?_
    .exact Ow
    .exact hW _ _ h7
    .try refine Zz ?_
     exact cl
   .rintro i ⟨g1,g2,g3⟩
    by_cases hin:i < n
    .have hin':(i:Int) < n:=ω
     have hri:(List.range n)[i]?=some i:=zB hin;have hel:=q2v (n:=n) (D:=E) (q:=p i) hlt;have hpi:=h7 i hin;have Cz:=qhq (q:=E (p i) j) (by have:=(h9 i j hin hlt).1; omega)
     by_cases hz:E (p i) j=0
     .rw [decide_eq_true hz] at Cz;refine wk1 (x3 hin' hri hel) ?_;refine ⟨i+1,⟨ω,ω,λt a b=>?_⟩,ω,?_⟩
      .by_cases ht:t=i
       .rw [ht]; exact hz
       .exact g3 t a Oq
      .refine LeW [] rfl rfl ?_ ?_ (by simp [q0f,q0b,win]) ?_
       .exact Ow
       .exact hW _ _ h7
       .try refine Zz ?_
        exact ⟨ω,cl⟩
     .rw [decide_eq_false hz] at Cz;have hie:((i:Int) == n)=false:=by simp; omega
      refine wk1 (x4 hin' hri hel hie) ?_;refine qqr λK hK=>?_;have hkn:k < n:=ω
      have q7:=qtf (p:=p) (i:=i) h7 hkn hin;have q8:=qnp (p:=p) (i:=i) h8 hkn hin;have fin:∀ (s:Nat->PV) (h:Hp),Le (λi=>tQ n (λi=>i) D i≠none) s h (stM [(0,.ow 5000 none 0 n),(1,iv n),(5,.pt 5 0 0),(6,.pt 6 0 0),(7,.ow 1001 none 0 k),(8,iv j),(9,iv k)] []) (q0u (tQ n (pSw p i k) E) (hpM [(5,⟨243,some 4,[.ag [bv false,q0W,bv false,q0W]],false⟩),(6,⟨243,some 4,[qT (if i=k then d else -d)],false⟩),(1001,⟨3,none,L.map λz:Nat=>iv z,false⟩)] []))->K s h:=by
       intro s h hl;refine hK _ _ (q0z hl ?_); clear hK K hl Cz;have hd0:qs (if i=k then d else -d) (sB b j*(j+1)):=by
        by_cases hik:i=k
        .rw [if_pos hik]; exact h10
        .rw [if_neg hik]; exact ⟨by rw [Rat.neg_num,zS]; exact h10.1,by rw [Rat.neg_den]; exact h10.2⟩
       have hm6:sB b j*(j+1)<=200000*6:=zI hsb Oq;have hpvs:∀ r c,r < n->c < n->qs (E (pSw p i k r) c) (sB b j):=λr c hr hc=>by
        unfold pSw
        split
        .exact h9 k c hkn hc
        .split
         .exact h9 i c hin hc
         .exact h9 r c hr hc
       obtain ⟨d1,hd1⟩:∃ d1,d1=(if i=k then d else -d):=⟨_,rfl⟩;obtain ⟨p1,hp1⟩:∃ p1,p1=pSw p i k:=⟨_,rfl⟩;rw [<- hd1] at hd0 ⊢;rw [<- hp1] at hpvs q7 q8 ⊢;have hrk:(List.range n)[k]?=some k:=zB hkn;have hel2:=q2v (n:=n) (D:=E) (q:=p1 k) hlt;have hpk:=q7 k hkn;obtain ⟨M1,M2,M3,M4⟩:=qeL (x:=d1) (p:=E (p1 k) j) Oq Oq hd0 (hpvs k j hkn hlt);unfold bT at M1 M2 M3;refine wk1 (x2 hrk hel2) ?_;have hkj:E (p1 k) j≠0:=by
        rw [hp1];unfold pSw
        split
        .rename_i e; rw [e]; exact hz
        .rw [if_pos rfl]; exact hz
       refine q0P (λx:Nat × (Nat->Nat->Rat)=>k+1<=x.1/\x.1<=n/\∀ r c,r < n->c < n->x.2 (p1 r) c=el (λr c=>E (p1 r) c) k j x.1 r c) [0,1,5,6,7,8,9] [5,6,1001] Lk Lk (λx:Nat × (Nat->Nat->Rat)=>[(11,iv x.1)]) (λ_=>[]) (λx=>tQ n p1 x.2) (λx=>n-x.1) (k+1,E) ⟨zO _,by dsimp only; omega,λr c _ _=>by rw [el_0 (zO _)]⟩ ?_ ?_
       .refine LeW [] rfl rfl ?_ ?_ (by simp [q0f,q0b,win]) ?_
        .exact Ow
        .exact hW _ _ q7
        .try refine Zz ?_
         exact ⟨ω,cl⟩
       .rintro ⟨i2,F⟩ ⟨f1,f2,f3⟩;dsimp only at f1 f2 f3 ⊢
        by_cases hi2:i2 < n
        .have hi2':(i2:Int) < n:=ω
         have hr2:(List.range n)[i2]?=some i2:=zB hi2;have hel3:=q2v (n:=n) (D:=F) (q:=p1 i2) hlt;have hp2:=q7 i2 hi2;refine wk1 (x3 hi2' hr2 hel3) ?_;have ef:F (p1 i2) j=E (p1 i2) j:=by
          rw [f3 i2 j hi2 hlt]; unfold el; rw [if_neg ω]
         rw [ef];refine q0P (λy:Nat × (Nat->Nat->Rat)=>j<=y.1/\y.1<=n/\∀ r e,r < n->e < n->y.2 (p1 r) e=if r=i2/\j<=e/\e < y.1 then E (p1 i2) e-E (p1 i2) j*E (p1 k) e / E (p1 k) j else el (λr c=>E (p1 r) c) k j i2 r e) [0,1,5,6,7,8,9,11,12] [5,6,1001,12] Lk Lk (λy:Nat × (Nat->Nat->Rat)=>[(13,iv y.1)]) (λ_=>[]) (λy=>tQ n p1 y.2) (λy=>n-y.1) (j,F) ⟨zO _,by dsimp only; omega,λr e hr he=>by dsimp only; rw [if_neg ω]; exact f3 r e hr he⟩ ?_ ?_
         .refine LeW [] rfl rfl ?_ ?_ (by simp [q0f,q0b,win]) ?_
          .exact Ow
          .exact hW _ _ q7
          .try refine Zz ?_
           exact cl
         .rintro ⟨c,G⟩ ⟨w1,w2,w3⟩;dsimp only at w1 w2 w3 ⊢
          by_cases hc:c < n
          .have hc':(c:Int) < n:=ω
           have x1:=q2v (n:=n) (D:=G) (q:=p1 i2) hc;have z1:=q2v (n:=n) (D:=G) (q:=p1 k) hc;have z2:=q2v (n:=n) (D:=G) (q:=p1 k) hlt;have v1:G (p1 i2) c=E (p1 i2) c:=by
            rw [w3 i2 c hi2 hc,if_neg ω]; unfold el; rw [if_neg ω]
           have v2:G (p1 k) c=E (p1 k) c:=by
            rw [w3 k c hkn hc,if_neg ω]; unfold el; rw [if_neg ω]
           have v3:G (p1 k) j=E (p1 k) j:=by
            rw [w3 k j hkn hlt,if_neg ω]; unfold el; rw [if_neg ω]
           rw [v1] at x1;rw [v2] at z1;rw [v3] at z2;obtain ⟨cM,_⟩:=q5V (x:=E (p1 i2) c) (y:=E (p1 i2) j) (z:=E (p1 k) c) (w:=E (p1 k) j) (b:=sB b j) Oq (hpvs i2 c hi2 hc) (hpvs i2 j hi2 hlt) (hpvs k c hkn hc) (hpvs k j hkn hlt) hkj;generalize hv:E (p1 i2) c-E (p1 i2) j*E (p1 k) c / E (p1 k) j=v at *;have dn:∀ q:Rat,decide (((q.den:Nat):Int) < 0)=false:=λq=>decide_eq_false Oq;unfold qT at cM;rw [dn,dn,dn,dn,dn] at cM;have rl:=q6r (n:=n) (D:=G) (q:=p1 i2);refine wk1 (x6 hc' hr2 hrk x1 z1 (x2 z2 rl)) ?_;refine ⟨(c+1,qsm G (p1 i2) c v),⟨by dsimp only; omega,by dsimp only; omega,λr e hr he=>?_⟩,by dsimp only; omega,?_⟩
           .dsimp only;unfold qsm
            by_cases hre:r=i2/\e=c
            .obtain ⟨rfl,rfl⟩:=hre;rw [if_pos ⟨rfl,rfl⟩,if_pos ⟨rfl,w1,ω⟩];exact hv.symm
            .rw [if_neg (λh=>hre ⟨q8 r i2 hr hi2 h.1,h.2⟩),w3 r e hr he]
             by_cases h3:r=i2/\j<=e/\e < c
             .rw [if_pos h3,if_pos ⟨h3.1,h3.2.1,ω⟩]
             .rw [if_neg h3,if_neg ω]
           .have ev:qT v=.ag [bv (decide (v.num < 0)),.fm (fL v.num),bv false,.fm (fL (v.den:Nat))]:=by
             unfold qT; rw [dn]
            refine LeW [] rfl rfl ?_ ?_ (by simp [q0f,q0b,win]) ?_
            .refine q7a (q4A q3C) ?_;rw [qhS ω hp2,<- ev,qhf]
            .exact hW _ _ q7
            .try refine Zz ?_
             exact ⟨ω,cl⟩
          .obtain rfl:n=c:=ω
           refine wk ?_;refine ⟨(i2+1,G),⟨by dsimp only; omega,by dsimp only; omega,λr e hr he=>?_⟩,by dsimp only; omega,?_⟩
           .dsimp only;rw [w3 r e hr he];unfold el
            by_cases h3:r=i2
            .subst h3
             by_cases h4:j<=e
             .rw [if_pos ⟨rfl,h4,he⟩,if_pos ⟨ω,ω,h4⟩]
             .rw [if_neg ω,if_neg ω,if_neg ω]
            .rw [if_neg ω]
             by_cases h4:k < r/\r < i2/\j<=e
             .rw [if_pos h4,if_pos ⟨h4.1,ω,h4.2.2⟩]
             .rw [if_neg h4,if_neg ω]
           .refine LeW [] rfl rfl ?_ ?_ (by simp [q0f,q0b,win]) ?_
            .exact Ow
            .exact hW _ _ q7
            .try refine Zz ?_
             exact ⟨ω,cl⟩
        .obtain rfl:n=i2:=ω
         refine wk ?_;have hsz:∀ r c,r < n->c < n->qs (F (p1 r) c) (4*sB b j+1):=λr c hr hc=>by
          rw [f3 r c hr hc];unfold el
          split
          .exact (q5V (x:=E (p1 r) c) (y:=E (p1 r) j) (z:=E (p1 k) c) (w:=E (p1 k) j) (b:=sB b j) Oq (hpvs r c hr hc) (hpvs r j hr hlt) (hpvs k c hkn hc) (hpvs k j hkn hlt) hkj).2
          .exact (hpvs r c hr hc).mono Oq
         obtain ⟨hy,hpy⟩:=EcI.yes (E':=F) hi0 hlt g1 hin g3 hz (by rw [<- hp1]; exact f3) (by rw [<- hp1]; exact hsz) (by rw [<- hp1,<- hd1]; exact M4);rw [<- hp1,<- hd1] at hy;refine ⟨_,hy,by dsimp only; omega,?_⟩;refine LeW [(1001,some 142)] rfl rfl ?_ ?_ (by simp [q0f,q0b,win]) ?_
         .exact Ow
         .exact hW _ _ hy.pi
         .try refine Zz ?_
          rw [hpy,hL];exact ⟨⟨hpvl,ω⟩,by rw [zC]; exact q0O rfl (by rw [<- zC]; exact λx hx=>by obtain ⟨z,_,rfl⟩:=zG.1 hx; trivial)⟩
      by_cases hik:i=k
      .have qik:((i:Int) != k)=false:=by simp [hik]
       refine wk1 qik ?_;refine fin _ _ ?_;refine LeW [] rfl rfl ?_ ?_ (by simp [q0f,q0b,win]) ?_
       .rw [show pSw p i k=p by rw [hik]; exact qhu];exact q3C
       .exact hW _ _ q7
       .try refine Zz ?_
        rw [if_pos hik];exact ⟨⟨rfl,rfl,rfl⟩,cl⟩
      .have qik:((i:Int) != k)=true:=by simp; omega
       have hrk:(List.range n)[k]?=some k:=zB hkn;have hpk:=h7 k hkn;have cN:=q6j (a:=d.num) (by have:=h10.1; have:sB b j*(j+1)<=200000*6:=zI hsb ω; omega);unfold bT at cN;refine wk1 (x3 qik hri hrk) ?_;refine fin _ _ ?_;refine LeW [] rfl rfl ?_ ?_ (by simp [q0f,q0b,win]) ?_
       .rw [qxN (by unfold win; omega)];refine q7a (q4A (q4A q3C)) ?_;rw [quW];exact qhT (qtg hin hkn hik)
       .exact hW _ _ q7
       .try refine Zz ?_
        rw [if_neg hik,Rat.neg_num,Rat.neg_den];exact ⟨⟨rfl,rfl,rfl⟩,cl⟩
    .obtain rfl:n=i:=ω
     refine wk ?_;obtain ⟨hno,hpno⟩:=EcI.no hi0 hlt g3;refine ⟨⟨j+1,k,p,E,d⟩,hno,by dsimp only; omega,?_⟩;refine LeW [] rfl rfl ?_ ?_ (by simp [q0f,q0b,win]) ?_
     .exact Ow
     .exact hW _ _ hno.pi
     .try refine Zz ?_
      rw [hpno,hL];exact ⟨ω,cl⟩
  .obtain rfl:n=j:=ω
   have hr1:d=(ech n D n).2.2:=by rw [h5]
   rw [<- hr1];refine wk ?_;refine (rtM (rs:=[.tmp 4,.cell 5 243]) rfl rfl Lq ?_ (.inl rfl));refine LeUn hn (p:=p) (D:=E) ?_ ?_ h3
   .exact Ow
   .try simp -implicitDefEqProofs (disch:=omega) only [go_sem,Nat.reduceEqDiff,Nat.reduceAdd,↓reduceIte]
abbrev pMM (n:Nat) (M:Nat->Nat->Int):PV:=.sl none ((List.range n).map λr=>.sl (some 2) ((List.range n).map λc=>bT (M r c)))
def q_ofI {z:Int}:qT (z:Rat)=.ag [bv (decide (z < 0)),.fm (fL z),bv false,.fm (fL 1)]:=by
 unfold qT;rw [Rat.num_intCast,Rat.den_intCast]; rfl
abbrev tXQ (n t:Nat) (D:Nat->Nat->Rat):Hp:=q1X 270 243 (some 4) 5000 10000 t (q6s n D) h0
def qsD {n:Nat} {D:Nat->Nat->Rat}:tXQ n n D=tQ n (λi=>i) D:=by
 show q1X _ _ _ _ _ _ _ _=q7w _ _ _ _ _ _ _ _ _
 funext i
 unfold q1X q7w
 split
 .congr 2
  refine yC λj _=>?_;rw [q6r]
 .rfl
def q6C {n t:Nat} {D:Nat->Nat->Rat} (ht:t<=1000):BOk (tXQ n t D) win:=q1Z BOk.h0 (λ_ _=>clQ) Oq ⟨⟨ω,ω⟩,λj hj=>⟨ω,ω⟩⟩
def clQc {l:List Nat} {f:Nat->Rat}:ClL (l.map λe=>qT (f e)):=λx hx=>by
 obtain ⟨c,_,rfl⟩:=zG.1 hx;intro y hy;simp at hy
 rcases hy with rfl | rfl | rfl | rfl <;> trivial
def qog {n:Nat} {M:Nat->Nat->Int} (hn:n<=5) (hM:∀ r c,r < n->c < n->bl (M r c).natAbs<=1000):qgu 214 [pMM n M] h0 (.ow 5000 none 0 n) (tQ n (λi=>i) λr c=>(M r c:Rat)):=by
 obtain ⟨D,hD⟩:∃ D:Nat->Nat->Rat,D=λr c=>(M r c:Rat):=⟨_,rfl⟩;rw [<- hD];refine qjw qlu Tryz.func214 rfl Tryz.ntmps214 κ ?_ ?_ ?_ ?_
 .intro i b hb; cases hb
 .intro i c hc
  rcases q5H hc with ⟨rfl,rfl⟩ | ⟨a1,a2,rfl⟩
  .exact ⟨ω,ω⟩
  .exact ⟨ω,ω⟩
 .exact IdL.of λx hx=>by simp at hx; subst hx; unfold IdP; trivial
 have c1:=q3O (a:=1) Oq Oq;rw [<- qsD];refine wk ?_;refine q0z (LeT (hw:=tXQ n 0 D) tnW (λ_ h=>(h rfl).elim) (λi hi hw=>?_) (λi b hw hb=>?_) (λi j x hi hj ti tj=>?_) (xs:=[(0,pMM n M),(3,.ow 5000 none 0 0),(4,iv 0)]) (kv:=[]) (bs:=[]) (kb:=[]) ?_) ?_
 .simp at hi
 .unfold LeB;rw [q5z hw.1 hw.2]
  rcases q0i hb with ⟨rfl,rfl⟩ | ⟨_,h1,h2,_⟩ | ⟨_,_,hb⟩
  .rfl
  .omega
  .cases hb
 .unfold tnW at ti tj
  split at ti <;> split at tj <;> cases ti <;> cases tj <;> rfl
 .try simp -implicitDefEqProofs (disch:=omega) only [go_sem,Nat.reduceEqDiff,Nat.reduceAdd,↓reduceIte]
 refine q0P (λt=>t<=n) [0] [] Lk Lk (λt:Nat=>[(3,.ow 5000 none 0 t),(4,iv t)]) (λ_=>[]) (λt=>tXQ n t D) (λt=>n-t) 0 (zD _) ?_ ?_
 .refine LeW [] rfl rfl ?_ ?_ (by simp [q0f,q0b,win]) ?_
  .exact Ow
  .exact wfB (q6C Oq)
  .try refine Zz ?_
   rfl
 .intro t ht;have hlr:(((List.range n).map λr=>PV.sl (some 2) ((List.range n).map λc=>bT (M r c))).length)=n:=σ
  by_cases hlt:t < n
  .have hlt':(t:Int) < n:=ω
   have hrt:((List.range n).map λr=>PV.sl (some 2) ((List.range n).map λc=>bT (M r c)))[t]?=some (PV.sl (some 2) ((List.range n).map λc=>bT (M t c))):=by rw [zL,zB hlt]; rfl
   refine wk1 (x2 hlr hlt') ?_;refine q0P (λc=>c<=n) [0,3,4] [] Lk Lk (λc:Nat=>[(5,.ow 1001 (some 4) 0 c),(6,iv c)]) (λc=>[(1001,⟨243,some 4,(List.range c).map λe=>qT (D t e),false⟩)]) (λ_=>tXQ n t D) (λc=>n-c) 0 (zD _) ?_ ?_
   .refine LeW [(1001,none)] rfl rfl ?_ ?_ (by simp [q0f,q0b,win]) ?_
    .exact Ow
    .exact wfB (q6C Oq)
    .try refine Zz ?_
     exact ⟨rfl,rfl⟩
   .intro c hc;have hlc:((List.range n).map λc=>bT (M t c)).length=n:=σ
    by_cases hcn:c < n
    .have hcn':(c:Int) < n:=ω
     have hrc:((List.range n).map λc=>bT (M t c))[c]?=some (bT (M t c)):=by rw [zL,zB hcn]; rfl
     have cN:=q2c (a:=M t c) (by have:=hM t c hlt hcn; omega);generalize ((List.range n).map λc=>bT (M t c))=rw1 at *;refine wk1 (x5 hlr hrt hlc hcn' hrc) ?_;refine ⟨c+1,ω,ω,?_⟩;refine LeW [(1001,some 34)] rfl rfl ?_ ?_ (by simp [q0f,q0b,win]) ?_
     .exact Ow
     .exact wfB (q6C Oq)
     .try refine Zz ?_
      refine ⟨ω,q0O ?_ clQc⟩;rw [zC]
      show _=_ ++ [qT (D t c)]
      rw [hD,q_ofI]
    .obtain rfl:n=c:=ω
     refine wk1 (x3 hlr hrt hlc) ?_;refine ⟨t+1,ω,ω,?_⟩;refine q2Q (T1:=270) (T2:=243) (K:=some 4) (N:=5000) (R:=10000) (n:=t) (o:=38) (r:=1001) (l:=q6s n D t) (hw:=tXQ n t D) (hw':=tXQ n (t+1) D) (λ_ h=>h rfl) clQ (λj=>(q6s n D j).length) ?_ ?_ (λi h1 h2=>?_) q1Q (q1I ω ω) (λi h1 h2=>q1P h1 h2) (λj hj=>q3N ω) (q6C ω) (q7e qgj (λ_ _=>clQ) λj hj=>by omega) ?_ ω ω ω ω ω ω (by simp [nmW]) ?_
     .try refine Zz ?_
      rw [q6r]
     .try refine Zz ?_
      rfl
     .obtain ⟨w1,w2⟩:=h1
      repeat rw [q0A ω]
      rw [q0U ⟨w1,w2⟩]
     .exact q0L Oq (.inr Oq)
     .try refine Zz ?_
      omega
  .obtain rfl:n=t:=ω
   refine wk1 hlr ?_;refine (rtM (rs:=[.tmp 2]) rfl rfl Lq ?_ (.inl rfl));exact LeF q3C (λi b hb=>((q6C Oq).b i b hb).1) (wfB (q6C Oq)) (.ow rfl q1Q)
def qfg {n:Nat} {A:Mx}:∀ j,(pvE n A j).length=(ech n A j).2.1
 | 0=>rfl
 | j+1=>by
  have ih:=qfg (n:=n) (A:=A) j;rw [pvE,ech,est]
  split
  .exact ih
  .rw [yG,ih]; rfl
def qll {n:Nat} {M:Nat->Nat->Int} (hn:n<=5) (hM:∀ r c,r < n->c < n->bl (M r c).natAbs<=100):ACt 135 [pMM n M] (bT (dtE n λr c=>(M r c:Rat)).num):=by
 have cF:=qog hn (λr c hr hc=>zP (hM r c hr hc) Oq);obtain ⟨D,hD⟩:∃ D:Nat->Nat->Rat,D=λr c=>(M r c:Rat):=⟨_,rfl⟩;rw [<- hD] at cF ⊢;have cE:=qc3 (D:=D) (b:=100) hn (zO _) Oq (λr c hr hc=>by
  rw [hD];exact ⟨by rw [Rat.num_intCast]; exact hM r c hr hc,by rw [Rat.den_intCast]; exact q0K (by decide)⟩)
 have hl:=qfg (n:=n) (A:=D) n;unfold dtE;have hlr:(((List.range n).map λr=>PV.sl (some 2) ((List.range n).map λc=>bT (M r c))).length)=n:=σ
 generalize (ech n D n).2.1=k at *;generalize (ech n D n).2.2=d at *;generalize pvE n D n=l at *;refine ac0 Tryz.func135 Tryz.ntmps135 [.cell 2 42] ?_;refine wk ?_;refine qrV λK hK=>?_;refine Zz ?_;refine jmF cF ?_ ?_
 .exact Ow
 try refine Zz1 hlr ?_
 refine jmF cE ?_ ?_
 .exact Ow
 try refine Zz ?_
 refine hK _ _ ?_; clear hK K;have q0:(0:Rat).num=0:=rfl
 by_cases hk:k < n
 .have hk':(k:Int) < n:=ω
  rw [if_pos hk,q0];exact wk1 (x3 hlr hl hk') trivial
 .have hk':¬ (k:Int) < n:=ω
  rw [if_neg hk];exact wk1 (x3 hlr hl hk') trivial
abbrev pZB (n:Nat) (b:Nat->Int):PV:=.sl (some 2) ((List.range n).map λr=>bT (b r))
def q8w (n:Nat) (M:Nat->Nat->Int) (r:Nat):List PV:=(List.range n).map λc=>bT (M r c)
def q3a {n r:Nat} {M:Nat->Nat->Int}:(q8w n M r).length=n:=by unfold q8w; simp
def clB {n r:Nat} {M:Nat->Nat->Int}:ClL (q8w n M r):=λx hx=>by
 obtain ⟨c,_,rfl⟩:=zG.1 hx;intro y hy;simp at hy
 rcases hy with rfl | rfl <;> trivial
def clBx {l:List Nat} {f:Nat->Int}:ClL (l.map λe=>bT (f e)):=λx hx=>by
 obtain ⟨c,_,rfl⟩:=zG.1 hx;intro y hy;simp at hy
 rcases hy with rfl | rfl <;> trivial
def q7k (M:Nat->Nat->Int) (j:Nat) (b:Nat->Int):Nat->Nat->Int:=λr c=>if c=j then b r else M r c
def qhg {n r j:Nat} {M:Nat->Nat->Int} {b:Nat->Int}:(q8w n M r).set j (bT (b r))=q8w n (q7k M j b) r:=by
 unfold q8w q7k;refine xE λi=>?_;rw [yA,zL,zL,zN,z9]
 rcases y6 i n with hn | hn
 .rw [zB hn,z6,z6]
  by_cases hc:j=i
  .rw [if_pos hc,if_pos ω,if_pos hc.symm]
  .rw [if_neg hc,if_neg (λe=>hc e.symm)]
 .rw [yJ (by simpa using hn),yY,yY]
  split
  .rw [if_neg ω]
  .rfl
abbrev tXB (n t:Nat) (M:Nat->Nat->Int):Hp:=q1X 113 42 (some 2) 5000 10000 t (q8w n M) h0
def q6D {n t:Nat} {M:Nat->Nat->Int} (ht:t<=1000):BOk (tXB n t M) win:=q1Z BOk.h0 (λ_ _=>clB) Oq ⟨⟨ω,ω⟩,λj hj=>⟨ω,ω⟩⟩
def q90 {n j:Nat} {M:Nat->Nat->Int} {b:Nat->Int} (hn:n<=5) (hj:j < n):ACt 136 [pMM n M,iv j,pZB n b] (pMM n (q7k M j b)):=by
 obtain ⟨M',hM'⟩:∃ M',M'=q7k M j b:=⟨_,rfl⟩;have hset:=λr=>qhg (n:=n) (r:=r) (j:=j) (M:=M) (b:=b);rw [<- hM'] at hset ⊢;refine ac0 Tryz.func136 Tryz.ntmps136 [.tmp 6] ?_;refine wk ?_;refine q0z (LeT (hw:=tXB n 0 M') tnW (λ_ h=>h.elim) (λi hi hw=>?_) (λi b hw hb=>?_) (λi j x hi hj ti tj=>?_) (xs:=[(0,pMM n M),(1,iv j),(2,pZB n b),(7,.ow 5000 none 0 0),(8,iv 0)]) (kv:=[]) (bs:=[]) (kb:=[]) ?_) ?_
 .simp at hi
 .unfold LeB;rw [q5z hw.1 hw.2]
  rcases q0i hb with ⟨rfl,rfl⟩ | ⟨_,h1,h2,_⟩ | ⟨_,_,hb⟩
  .rfl
  .omega
  .cases hb
 .unfold tnW at ti tj
  split at ti <;> split at tj <;> cases ti <;> cases tj <;> rfl
 .try simp -implicitDefEqProofs (disch:=omega) only [go_sem,Nat.reduceEqDiff,Nat.reduceAdd,↓reduceIte]
 refine q0P (λt=>t<=n) [0,1,2] [] Lk Lk (λt:Nat=>[(7,.ow 5000 none 0 t),(8,iv t)]) (λ_=>[]) (λt=>tXB n t M') (λt=>n-t) 0 (zD _) ?_ ?_
 .refine LeW [] rfl rfl ?_ ?_ (by simp [q0f,q0b,win]) ?_
  .exact Ow
  .exact wfB (q6D Oq)
  .try refine Zz ?_
   rfl
 .intro t ht;have hlr:(((List.range n).map λr=>PV.sl (some 2) ((List.range n).map λc=>bT (M r c))).length)=n:=σ
  by_cases hlt:t < n
  .have hlt':(t:Int) < n:=ω
   have hrt:((List.range n).map λr=>PV.sl (some 2) ((List.range n).map λc=>bT (M r c)))[t]?=some (PV.sl (some 2) (q8w n M t)):=by rw [zL,zB hlt]; rfl
   have hrb:((List.range n).map λr=>bT (b r))[t]?=some (bT (b t)):=by rw [zL,zB hlt]; rfl
   have hle:=q3a (n:=n) (r:=t) (M:=M);have hgj:(q8w n M t)[j]?=some (bT (M t j)):=by unfold q8w; rw [zL,zB hj]; rfl
   refine wk1 (x6 hlr hlt' hrt hle hrb hgj) ?_;refine ⟨t+1,ω,ω,?_⟩;refine q2Q (T1:=113) (T2:=42) (K:=some 2) (N:=5000) (R:=10000) (n:=t) (o:=32) (r:=21) (l:=q8w n M' t) (hw:=tXB n t M') (hw':=tXB n (t+1) M') (λ_ h=>h.elim) clB (λj=>(q8w n M' j).length) ?_ ?_ (λi h1 h2=>?_) q1Q (q1I ω ω) (λi h1 h2=>q1P h1 h2) (λj hj=>q3N ω) (q6D ω) (q7e qgj (λ_ _=>clB) λj hj=>by omega) ?_ ω ω ω ω ω ω (by simp [nmW]) ?_
   .try refine Zz ?_
    rw [q3a]
   .try refine Zz ?_
    rw [hset]
   .obtain ⟨w1,w2⟩:=h1
    repeat rw [q0A ω]
    rw [q0U ⟨w1,w2⟩]
   .exact q0L Oq (.inr Oq)
   .try refine Zz ?_
    omega
  .obtain rfl:n=t:=ω
   have hcl:(∀ j,j < n->ClL (q8w n M' j))=True:=eq_true λ_ _=>clB;refine wk1 (x2 hlr hcl) ?_
   rfl
def qld {n b:Nat} {A:Mx} (hn:n<=5) (hb:b<=100) (hb1:1<=b) (h:∀ r c,r < n->c < n->qs (A r c) b):∀ j,j<=n->(ech n A j).2.1<=j/\(∀ r c,r < n->c < n->qs ((ech n A j).1 r c) (sB b j))/\qs (ech n A j).2.2 (sB b j*(j+1))
 | 0,_=>⟨zO _,h,qs_1.mono (by show 1<=b*(0+1); omega)⟩
 | j+1,hj=>by
  obtain ⟨h1,h2,h3⟩:=qld hn hb hb1 h j Oq;have hsb:=qn2 (b:=b) (j:=j) hb Oq;have hm6:sB b j*(j+1)<=200000*6:=zI hsb Oq;have hs1:sB b j<=sB b (j+1):=by rw [sB]; omega
  have hs2:sB b j*(j+1)+sB b j<=sB b (j+1)*(j+1+1):=by
   have:sB b j*(j+1)+sB b j=sB b j*(j+1+1):=(Nat.mul_succ _ _).symm;rw [this];exact zI hs1 (zO _)
  rw [ech];generalize ech n A j=S at *;obtain ⟨B,k,d⟩:=S;dsimp only at h1 h2 h3;unfold est;dsimp only
  rcases qbH (A:=B) (j:=j) (n-k) k with ⟨q1,q2⟩ | ⟨q1,q2,q3⟩
  .rw [if_pos ω];exact ⟨by dsimp only; omega,λr c hr hc=>(h2 r c hr hc).mono hs1,h3.mono ω⟩
  .rw [if_neg ω];generalize fnz B j k (n-k)=i at *;have hsw:∀ r c,r < n->c < n->qs (swp B i k r c) (sB b j):=λr c hr hc=>by
    unfold swp
    split
    .exact h2 k c Oq hc
    .split
     .exact h2 i c Oq hc
     .exact h2 r c hr hc
   have hp0:swp B i k k j≠0:=by
    unfold swp
    split
    .rename_i e; rw [e]; exact q3
    .rw [if_pos rfl]; exact q3
   have hd:qs (if i=k then d else -d) (sB b j*(j+1)):=by
    split
    .exact h3
    .exact ⟨by rw [Rat.neg_num,zS]; exact h3.1,by rw [Rat.neg_den]; exact h3.2⟩
   refine ⟨by dsimp only; omega,λr c hr hc=>?_,((qeL ω ω hd (hsw k j ω ω)).2.2.2).mono hs2⟩;dsimp only;unfold el
   split
   .exact (q5V Oq (hsw r c hr hc) (hsw r j hr Oq) (hsw k c Oq hc) (hsw k j Oq Oq) hp0).2
   .exact (hsw r c hr hc).mono hs1
def qlf {n:Nat} {M:Nat->Nat->Int} (hn:n<=5) (hM:∀ r c,r < n->c < n->bl (M r c).natAbs<=100):bl (dtE n λr c=>(M r c:Rat)).num.natAbs<=1200000:=by
 have h:=(qld (n:=n) (b:=100) (A:=λr c=>(M r c:Rat)) hn (zO _) ω (λr c hr hc=>⟨by rw [Rat.num_intCast]; exact hM r c hr hc,by rw [Rat.den_intCast]; exact q0K (by decide)⟩) n (zO _)).2.2.1;have hm:sB 100 n*(n+1)<=200000*6:=zI (qn2 (zO _) hn) Oq;unfold dtE
 split
 .show bl 0<=_
  rw [q06]; omega
 .omega
def slX (n:Nat) (M:Nat->Nat->Int) (b:Nat->Int) (j:Nat):Int:=if (dtE n λr c=>(M r c:Rat)).num < 0 then -(dtE n λr c=>(q7k M j b r c:Rat)).num else (dtE n λr c=>(q7k M j b r c:Rat)).num
def qdg {n:Nat} {M:Nat->Nat->Int} {b:Nat->Int} (hn:n<=5) (hM:∀ r c,r < n->c < n->bl (M r c).natAbs<=100) (hb:∀ r,r < n->bl (b r).natAbs<=100) (h0:(dtE n λr c=>(M r c:Rat)).num≠0) :
  ACt 71 [pMM n M,pZB n b] (.tu [pZB n (slX n M b),bT ((dtE n λr c=>(M r c:Rat)).num.natAbs:Nat),bv true]):=by
 have cD:=qll hn hM;have hR:∀ j,∀ r c,r < n->c < n->bl (q7k M j b r c).natAbs<=100:=λj r c hr hc=>by
  unfold q7k
  split
  .exact hb r hr
  .exact hM r c hr hc
 have cR:=λj hj=>q90 (M:=M) (b:=b) (j:=j) hn hj;have cE:=λj=>qll hn (hR j);have hz:=qlf hn hM;have hy:=λj=>qlf hn (hR j);have hx:∀ j,slX n M b j=if (dtE n λr c=>(M r c:Rat)).num < 0 then -(dtE n λr c=>(q7k M j b r c:Rat)).num else (dtE n λr c=>(q7k M j b r c:Rat)).num:=λj=>rfl
 generalize slX n M b=x at *;generalize (dtE n λr c=>(M r c:Rat)).num=d at *;generalize hyy:(λj=>(dtE n λr c=>(q7k M j b r c:Rat)).num)=y at *;have hyj:∀ j,(dtE n λr c=>(q7k M j b r c:Rat)).num=y j:=λj=>congrFun hyy j;simp only [hyj] at cE hy hx;clear hyj hyy hR hM hb;have cS:=q0n (a:=d) Oq;have cA:=q3P (a:=d) Oq;have cN:=λj=>q6j (a:=y j) (by have:=hy j; omega);have hs0:(d.sign == 0)=false:=by simp [yL,h0]
 have hlr:(((List.range n).map λr=>PV.sl (some 2) ((List.range n).map λc=>bT (M r c))).length)=n:=σ
 unfold bT at cD cE cS cA cN ⊢;refine ac0 Tryz.func71 Tryz.ntmps71 [.tmp 4,.cell 5 42,.tmp 6] ?_;refine wk1 hs0 ?_;refine q0B (λj=>j<=n) [0,1,5,7] [5,7] Lk Lk (λj:Nat=>[(8,.ow 1001 (some 2) 0 j),(9,iv j)]) (λj=>[(1001,⟨42,some 2,(List.range j).map λe=>bT (x e),false⟩)]) (λj=>n-j) 0 (zD _) ?_ ?_
 .refine LeM [(1001,none)] rfl rfl ?_;refine Zz ?_;exact ⟨rfl,rfl⟩
 .intro j hj
  by_cases hlt:j < n
  .have hlt':(j:Int) < n:=ω
   have c1:=cR j hlt;have c2:=cE j;have c3:=cN j;have hxj:=hx j;have ha:(List.range (j+1)).map (λe=>bT (x e))=(List.range j).map (λe=>bT (x e)) ++ [bT (x j)]:=by rw [z7,zC]; rfl
   by_cases hd:d < 0
   .have hs:d.sign < 0:=by rw [zY hd]; omega
    rw [if_pos hd] at hxj;rw [<- hxj] at c3;refine wk1 (x3 hlr hlt' hs) ?_;refine ⟨j+1,ω,ω,?_⟩;refine LeM [(1001,some 36)] rfl rfl ?_;refine Zz ?_;exact ⟨ω,q0O (by rw [zC]; rfl) clBx⟩
   .have hs:¬ d.sign < 0:=by rw [uP ω]; omega
    rw [if_neg hd] at hxj;rw [<- hxj] at c2;refine wk1 (x3 hlr hlt' hs) ?_;refine ⟨j+1,ω,ω,?_⟩;refine LeM [(1001,some 36)] rfl rfl ?_;refine Zz ?_;exact ⟨ω,q0O (by rw [zC]; rfl) clBx⟩
  .obtain rfl:n=j:=ω
   have hcl:(∀ a,a ∈ List.range n->Cld (bT (x a)))=True:=eq_true λa _=>by
    intro y hy;simp at hy
    rcases hy with rfl | rfl <;> trivial
   exact wk1 (x2 hlr hcl) trivial
def qnW {z V:Int} {K:Nat} (hK:K=65536) (hV:V=z*(2:Int) ^ K):shI (od V) (dyE V)=z:=by
 by_cases h0:z=0
 .subst h0;rw [yQ] at hV;subst hV;rw [q1l];unfold dyE shI;simp
 .have hp:(2:Int) ^ K≠0:=uT (q0N K);have hV0:V≠0:=by rw [hV]; exact yN h0 hp
  have e:=q1J z;obtain ⟨o1,o2⟩:=qhx (m:=V) (o:=od z) (k:=tz z.natAbs+K) (qat h0) (by rw [hV,uR,<- zZ,e]);have hd:dyE V=(tz z.natAbs:Nat):=by unfold dyE; rw [if_neg hV0,o2]; omega
  rw [o1,hd];unfold shI;rw [if_pos ω,uQ];exact e
def qdY {z V:Int} {K:Nat} (hK:K=65536) (ho:q0Y V) (hV:V=z*(2:Int) ^ K):ACt 69 [dT V] (.tu [bT z,bv true]):=by
 obtain ⟨h1,h2,h3⟩:=q1B ho;have cN:=q0g ho;have cS:=q2l (s:=decide (od V < 0)) (a:=od V) (m:=dyE V) rfl Oq Oq Oq;rw [qnW hK hV] at cS;unfold dT at *;refine ac0 Tryz.func69 Tryz.ntmps69 [.cell 2 42,.tmp 3] ?_;exact wk trivial
def q5J {z:Int} {K:Nat} (hK:K=65536) (hz:bl z.natAbs<=65536):ACt 19 [bT z] (dT (z*(2:Int) ^ K)):=by
 have hm:=q51 (m:=z) (E:=0) Oq Oq;rw [show (0+65536:Int).toNat=65536 from rfl,<- hK] at hm;have C:=qfh (s:=decide (z < 0)) (m:=z) (e:=0) rfl Oq Oq Oq hm;generalize z*(2:Int) ^ K=V at *;unfold bT dT at *;refine ac0 Tryz.func19 Tryz.ntmps19 [.cell 2 46] ?_;exact wk trivial
def nmI (X:Nat->Nat->Int) (i:Nat):Nat->Int
 | 0=>0
 | m+1=>nmI X i m+((X m i).natAbs:Nat)
def mxI (n:Nat) (X:Nat->Nat->Int):Nat->Int
 | 0=>0
 | i+1=>if mxI n X i < nmI X i n then nmI X i n else mxI n X i
def qe2 {X:Nat->Nat->Int} {i n b:Nat} (h:∀ j,j < n->bl (X j i).natAbs<=b):∀ m,m<=n->bl (nmI X i m).natAbs<=b+m
 | 0,_=>by show bl 0<=_; rw [q06]; omega
 | m+1,hm=>by
  have ih:=qe2 h m Oq;have h1:=h m Oq;have h2:=q2o (a:=(nmI X i m).natAbs) (b:=(X m i).natAbs) (k:=b+m) Oq Oq;have h3:=q07 (Int.natAbs_add_le (nmI X i m) ((X m i).natAbs:Nat));rw [zF] at h3;rw [nmI];omega
def qe4 {X:Nat->Nat->Int} {n b:Nat} (h:∀ j i,j < n->i < n->bl (X j i).natAbs<=b):∀ i,i<=n->bl (mxI n X i).natAbs<=b+n
 | 0,_=>by show bl 0<=_; rw [q06]; omega
 | i+1,hi=>by
  rw [mxI]
  split
  .exact qe2 (λj hj=>h j i hj Oq) n (zO _)
  .exact qe4 h i Oq
def qe1 {n:Nat} {X:Nat->Nat->Int} (hn:n<=5) (hX:∀ j i,j < n->i < n->bl (X j i).natAbs<=1300000):ACt 20 [pMM n X] (bT (mxI n X n)):=by
 have hlr:(((List.range n).map λr=>PV.sl (some 2) ((List.range n).map λc=>bT (X r c))).length)=n:=σ
 have hN:=λi hi m hm=>qe2 (X:=X) (i:=i) (n:=n) (λj hj=>hX j i hj hi) m hm;have hM:=qe4 hX;refine ac0 Tryz.func20 Tryz.ntmps20 [.cell 2 42] ?_;refine wk ?_;refine q0B (λi=>i<=n) [0,2,3] [2] Lk Lk (λi:Nat=>[(4,iv i)]) (λi=>[(3,⟨42,some 2,[bT (mxI n X i)],false⟩)]) (λi=>n-i) 0 (zD _) ?_ ?_
 .refine LeM [] rfl rfl ?_;refine Zz ?_;exact ⟨rfl,rfl,(nfL rfl).mpr trivial⟩
 .intro i hi
  by_cases hlt:i < n
  .have hlt':(i:Int) < n:=ω
   refine wk1 (x2 hlr hlt') ?_;refine q0B (λj=>j<=n) [0,2,3,4,5] [2,3] Lk Lk (λj:Nat=>[(6,iv j)]) (λj=>[(5,⟨42,some 2,[bT (nmI X i j)],false⟩)]) (λj=>n-j) 0 (zD _) ?_ ?_
   .refine LeM [] rfl rfl ?_;refine Zz ?_;exact ⟨rfl,rfl,(nfL rfl).mpr trivial⟩
   .intro j hj
    by_cases hjn:j < n
    .have hjn':(j:Int) < n:=ω
     have hrt:((List.range n).map λr=>PV.sl (some 2) ((List.range n).map λc=>bT (X r c)))[j]?=some (PV.sl (some 2) ((List.range n).map λc=>bT (X j c))):=by rw [zL,zB hjn]; rfl
     have hrc:((List.range n).map λc=>bT (X j c))[i]?=some (bT (X j i)):=by rw [zL,zB hlt]; rfl
     have hrl:((List.range n).map λc=>bT (X j c)).length=n:=σ
     generalize ((List.range n).map λc=>bT (X j c))=rw1 at *;have c1:=q3P (a:=X j i) (by have:=hX j i hjn hlt; omega);have c2:=qd3 (a:=nmI X i j) (b:=((X j i).natAbs:Nat)) (by have:=hN i hlt j hj; omega) (by rw [zF]; have:=hX j i hjn hlt; omega);have e:nmI X i j+((X j i).natAbs:Nat)=nmI X i (j+1):=rfl;rw [e] at c2;unfold bT at c1 c2;rw [decide_eq_false (show ¬ (((X j i).natAbs:Nat):Int) < 0 by omega)] at c1 c2;refine wk1 (x5 hlr hjn' hrt hrl hrc) ?_;refine ⟨j+1,ω,ω,?_⟩;refine LeM [] rfl rfl ?_;refine Zz ?_;omega
    .obtain rfl:n=j:=ω
     have c3:=qdZ (a:=mxI n X i) (b:=nmI X i n) (by have:=hM i hi; omega) (by have:=hN i hlt n (zO _); omega);have hmx:=show mxI n X (i+1)=if mxI n X i < nmI X i n then nmI X i n else mxI n X i from rfl
     by_cases hc:mxI n X i < nmI X i n
     .rw [if_pos hc] at hmx;have hs:(mxI n X i-nmI X i n).sign < 0:=by rw [zY ω]; omega
      generalize (mxI n X i-nmI X i n).sign=sg at *;unfold bT at c3;refine wk1 (x2 hlr hs) ?_;refine ⟨i+1,ω,ω,?_⟩;rw [hmx];refine LeM [] rfl rfl ?_;refine Zz ?_;omega
     .rw [if_neg hc] at hmx;have hs:¬ (mxI n X i-nmI X i n).sign < 0:=by
       rcases xA (show 0<=mxI n X i-nmI X i n by omega) with h | h
       .rw [uP h]; omega
       .rw [<- h]; simp
      generalize (mxI n X i-nmI X i n).sign=sg at *;unfold bT at c3;refine wk1 (x2 hlr hs) ?_;refine ⟨i+1,ω,ω,?_⟩;rw [hmx];refine LeM [] rfl rfl ?_;refine Zz ?_;omega
  .obtain rfl:n=i:=ω
   exact wk1 hlr trivial
def unI (j r:Nat):Int:=if r=j then 1 else 0
def clSB {n:Nat} {l:List Nat} {X:Nat->Nat->Int}:ClL (l.map λe=>pZB n (X e)):=λx hx=>by
 obtain ⟨c,_,rfl⟩:=zG.1 hx
 trivial
def unV {τ:Nat->Option Nat} {h h':Hp} {n j id:Nat} {T:TypeId} (hb:h id=some ⟨T,some 2,(List.replicate n (.ag [bv false,q0W])).set j (bT 1),false⟩) (ht:∀ i,τ i=some id->h' i=none):LeV τ h h' (.ow id (some 2) 0 n) (pZB n (unI j)):=by
 have e:(((List.range n).map λr=>bT (unI j r)).drop 0).take n=(List.range n).map λr=>bT (unI j r):=by rw [yS]; exact zK σ
 show LeV τ h h' (.ow id (some 2) 0 n) (.sl (some 2) ((List.range n).map λr=>bT (unI j r)))
 rw [<- e];refine .fzg hb rfl rfl σ (λc u v hu hv=>?_) (λy hy=>?_) ht
 .have hc:c < n:=by have:=(zR.1 hv).1; simpa using this
  rw [zL,zB hc,z6] at hv;cases hv;dsimp only at hu;rw [yA,xP] at hu;unfold unI
  by_cases hj:j=c
  .rw [if_pos hj,if_pos ω] at hu;cases hu;rw [if_pos hj.symm];exact .cl (by intro y hy; simp at hy; rcases hy with rfl | rfl <;> trivial)
  .rw [if_neg hj,xJ,if_pos hc] at hu;cases hu;rw [if_neg (Ne.symm hj)];exact .ag rfl λi x y hx hy=>by
    rcases i with _ | _ | i
    .cases hx; cases hy; exact .cl trivial
    .cases hx; cases hy; exact (nfL rfl).mpr trivial
    .simp at hx
 .obtain ⟨z,_,rfl⟩:=zG.1 hy;intro y hy;simp at hy
  rcases hy with rfl | rfl <;> trivial
def q8W {n K:Nat} {F:Nat->Nat->Option Nat} {M:Nat->Nat->Int} (hK:K=65536) (h:TOk F n n) (hn:n<=5) (hM:∀ r c,r < n->c < n->bl (M r c).natAbs<=100) (hF:∀ r c,r < n->c < n->((F c r).getD 0 < 18446744073709551616/\ofF ((F c r).getD 0)=some (M r c*(2:Int) ^ K))/\q0Y (M r c*(2:Int) ^ K)) (h0:(dtE n λr c=>(M r c:Rat)).num≠0) :
  ACt 17 [pT n n F] (.tu [pMM n λj=>slX n M (unI j),bT ((dtE n λr c=>(M r c:Rat)).num.natAbs:Nat),bv true]):=by
 have cA:=λr c (hr:r < n) (hc:c < n)=>qa4 (i:=r) (j:=c) h hr hc;have cO:=λr c (hr:r < n) (hc:c < n)=>dv_of (q1k (hF r c hr hc).1.1 (hF r c hr hc).1.2);have cFl:=λr c (hr:r < n) (hc:c < n)=>qdY hK (hF r c hr hc).2 rfl;have cS:=λj=>qdg (b:=unI j) hn hM (λr _=>by unfold unI; split <;> exact q0K (by decide)) h0;have c1:=q3O (a:=1) Oq Oq;unfold pT q26 at *;generalize (tM F n n).1=ms at *;generalize (tM F n n).2.1=mi at *;generalize (tM F n n).2.2=mv at *;refine ac0 Tryz.func17 Tryz.ntmps17 [.tmp 2,.cell 3 42,.tmp 4] ?_;refine wk ?_;refine q0z (LeT (hw:=tXB n 0 M) tnW (λ_ h=>h.elim) (λi hi hw=>?_) (λi b hw hb=>?_) (λi j x hi hj ti tj=>?_) (xs:=[(1,.pt 1 0 0),(3,.pt 3 0 0),(5,.ow 5000 none 0 0),(6,iv 0)]) (kv:=[]) (bs:=[(1,⟨26,some 5,[.ag [iv n,iv n,pI ms,pI mi,pF mv]],false⟩),(3,⟨42,some 2,[.ag [bv false,q0W]],false⟩)]) (kb:=[]) ?_) ?_
 .simp at hi;unfold win at hw;omega
 .unfold LeB;rw [q5z hw.1 hw.2]
  rcases q0i hb with ⟨rfl,rfl⟩ | ⟨_,h1,h2,_⟩ | ⟨_,_,hb⟩
  .rfl
  .omega
  .cases hb
 .unfold tnW at ti tj
  split at ti <;> split at tj <;> cases ti <;> cases tj <;> rfl
 .try simp -implicitDefEqProofs (disch:=omega) only [go_sem,Nat.reduceEqDiff,Nat.reduceAdd,↓reduceIte]
 refine q0P (λt=>t<=n) [1,3] [1,3] Lk Lk (λt:Nat=>[(5,.ow 5000 none 0 t),(6,iv t)]) (λ_=>[]) (λt=>tXB n t M) (λt=>n-t) 0 (zD _) ?_ ?_
 .refine LeW [] rfl rfl ?_ ?_ (by simp [q0f,q0b,win]) ?_
  .exact Ow
  .exact wfB (q6D Oq)
  .try refine Zz ?_
   rfl
 .intro t ht
  by_cases hlt:t < n
  .have hlt':(t:Int) < n:=ω
   refine wk1 hlt' ?_;refine q0P (λc=>c<=n) [1,3,5,6] [1,3] Lk Lk (λc:Nat=>[(7,.ow 1001 (some 2) 0 c),(8,iv c)]) (λc=>[(1001,⟨42,some 2,(List.range c).map λe=>bT (M t e),false⟩)]) (λ_=>tXB n t M) (λc=>n-c) 0 (zD _) ?_ ?_
   .refine LeW [(1001,none)] rfl rfl ?_ ?_ (by simp [q0f,q0b,win]) ?_
    .exact Ow
    .exact wfB (q6D Oq)
    .try refine Zz ?_
     exact ⟨rfl,rfl⟩
   .intro c hc
    by_cases hcn:c < n
    .have hcn':(c:Int) < n:=ω
     have d1:=cA t c hlt hcn;have d2:=cO t c hlt hcn;have d3:=cFl t c hlt hcn;generalize M t c*(2:Int) ^ K=V at *;generalize (F c t).getD 0=x at *;refine wk1 hcn' ?_;refine ⟨c+1,ω,ω,?_⟩;refine LeW [(1001,some 41)] rfl rfl ?_ ?_ (by simp [q0f,q0b,win]) ?_
     .exact Ow
     .exact wfB (q6D Oq)
     .try refine Zz ?_
      exact ⟨ω,q0O (by rw [zC]; rfl) clBx⟩
    .obtain rfl:n=c:=ω
     refine wk ?_;refine ⟨t+1,ω,ω,?_⟩;refine q2Q (T1:=113) (T2:=42) (K:=some 2) (N:=5000) (R:=10000) (n:=t) (o:=45) (r:=1001) (l:=q8w n M t) (hw:=tXB n t M) (hw':=tXB n (t+1) M) (λ_ h=>h.elim) clB (λj=>(q8w n M j).length) ?_ ?_ (λi h1 h2=>?_) q1Q (q1I ω ω) (λi h1 h2=>q1P h1 h2) (λj hj=>q3N ω) (q6D ω) (q7e qgj (λ_ _=>clB) λj hj=>by omega) ?_ ω ω ω ω ω ω (by simp [nmW]) ?_
     .try refine Zz ?_
      rw [q3a]
     .try refine Zz ?_
      rfl
     .obtain ⟨w1,w2⟩:=h1
      repeat rw [q0A ω]
      rw [q0U ⟨w1,w2⟩]
     .exact q0L Oq (.inr Oq)
     .try refine Zz ?_
      omega
  .obtain rfl:n=t:=ω
   have hnn:¬ (n:Int) < n:=ω
   refine wk1 hnn ?_;refine q0z (LeM [] rfl rfl (xs:=[(1,.pt 1 0 0),(3,.pt 3 0 0),(5,pMM n M),(11,q0W),(12,iv 0)]) (kv:=[]) (bs:=[(1,⟨26,some 5,[.ag [iv n,iv n,pI ms,pI mi,pF mv]],false⟩),(3,⟨42,some 2,[.ag [bv false,q0W]],false⟩)]) (kb:=[]) ?_) ?_
   .try refine Zz ?_
    refine q5G (N:=5000) (R:=10000) (T1:=113) (T2:=42) (row:=q8w n M) (λ_=>n) ?_ (λj hj=>⟨?_,clB,q3a⟩) λi j hi hj=>?_
    .try simp -implicitDefEqProofs (disch:=omega) only [go_sem,Nat.reduceEqDiff,Nat.reduceAdd,↓reduceIte,@q3a]
    .try simp -implicitDefEqProofs (disch:=omega) only [go_sem,Nat.reduceEqDiff,Nat.reduceAdd,↓reduceIte]
    .obtain rfl:i=j:=by
      have hi:(some i:Option Nat)=some j:=hi;cases hi; rfl
     have a:i≠1:=ω
     have b:i≠3:=ω
     try refine Zz ?_
     rw [if_neg a,if_neg b]
   generalize hX:(λj=>slX n M (unI j))=X at *;have hXj:∀ j,slX n M (unI j)=X j:=λj=>congrFun hX j;simp only [hXj] at cS;refine q0B (λj=>j<=n/\(j=n->n=0)) [1,3,5] [1,3] Lk Lk (λj:Nat=>[(11,.ow 1002 none 0 j),(12,iv j)]) (λj=>[(1002,⟨113,none,(List.range j).map λe=>pZB n (X e),false⟩)]) (λj=>n-j) 0 ⟨zD _,λh=>h.symm⟩ ?_ ?_
   .refine LeM [(1002,none)] rfl rfl ?_;refine Zz ?_;exact ⟨rfl,rfl⟩
   .rintro j ⟨g1,g2⟩
    by_cases hlt:j < n
    .have hlt':(j:Int) < n:=ω
     refine wk1 hlt' ?_;refine q0z (LeM [] rfl rfl (xs:=[(1,.pt 1 0 0),(3,.pt 3 0 0),(5,pMM n M),(11,.ow 1002 none 0 j),(12,iv j),(13,pZB n (unI j))]) (kv:=[]) (bs:=[(1,⟨26,some 5,[.ag [iv n,iv n,pI ms,pI mi,pF mv]],false⟩),(3,⟨42,some 2,[.ag [bv false,q0W]],false⟩),(1002,⟨113,none,(List.range j).map λe=>pZB n (X e),false⟩)]) (kb:=[]) ?_) ?_
     .try refine Zz ?_
      refine ⟨unV (T:=42) ?_ λi hi=>?_,q0O rfl clSB⟩
      .try simp -implicitDefEqProofs (disch:=omega) only [go_sem,Nat.reduceEqDiff,Nat.reduceAdd,↓reduceIte]
      .have hi:(some i:Option Nat)=some 54:=hi;cases hi
       try simp -implicitDefEqProofs (disch:=omega) only [go_sem,Nat.reduceEqDiff,Nat.reduceAdd,↓reduceIte]
     have c2:=cS j
     by_cases he:j+1=n
     .have hq:((j:Int) == (n:Int)-1)=true:=by simp; omega
      have hz:((List.range j).map λe=>pZB n (X e)) ++ [pZB n (X j)]=(List.range (j+1)).map λe=>pZB n (X e):=by rw [z7,zC]; rfl
      refine wk1 (x2 hlt' hq) ?_;rw [zK σ,hz,he]
     .have hq:((j:Int) == (n:Int)-1)=false:=by simp; omega
      refine wk1 (x2 hlt' hq) ?_;refine ⟨j+1,⟨ω,λh=>by omega⟩,ω,?_⟩;refine LeM [(1002,some 72)] rfl rfl ?_;refine Zz ?_;exact ⟨ω,q0O (by rw [zC]; rfl) clSB⟩
    .have hn0:n=0:=g2 Oq;subst hn0;obtain rfl:j=0:=ω
     refine wk ?_;exact ⟨rfl,rfl⟩
end Go.Proofs.YtbjoghfmhgadkaaGreatDoor
namespace Go.Dt
def qkh {g:Nat->Rat}:∀ n,(∀ i,i < n->∃ z:Int,g i=(z:Rat))->∃ z:Int,sq g n=(z:Rat)
 | 0,_=>⟨0,rfl⟩
 | n+1,h=>by
  obtain ⟨a,ha⟩:=qkh n λi hi=>h i Oq;obtain ⟨b,hb⟩:=h n Oq;exact ⟨a+b,by rw [sq,ha,hb,Rat.intCast_add]⟩
def qfp:∀ (n:Nat) {A:Mx},(∀ i j,∃ z:Int,A i j=(z:Rat))->∃ z:Int,det n A=(z:Rat)
 | 0,_,_=>⟨1,rfl⟩
 | n+1,A,h=>by
  rw [det];refine qkh (n+1) λi _=>?_;obtain ⟨a,ha⟩:=h i 0;obtain ⟨b,hb⟩:=qfp n (A:=mn A i) λr c=>by unfold mn; exact h _ _
  obtain ⟨s,hs⟩:∃ s:Int,sg1 i=(s:Rat):=by
   unfold sg1
   split
   .exact ⟨1,rfl⟩
   .exact ⟨-1,rfl⟩
  exact ⟨s*a*b,by rw [ha,hb,hs,Rat.intCast_mul,Rat.intCast_mul]⟩
end Go.Dt
namespace Go.Proofs.YtbjoghfmhgadkaaGreatDoor
open Go Go.E Go.Sp Go.Dt
def q7Y {n:Nat} {M:Nat->Nat->Int}:(((dtE n λr c=>(M r c:Rat)).num:Int):Rat)=det n λr c=>(M r c:Rat):=by
 rw [qbT.1];obtain ⟨z,hz⟩:=qfp n (A:=λr c=>(M r c:Rat)) λi j=>⟨M i j,rfl⟩;rw [hz,Rat.num_intCast]
def qnO {n:Nat} {M:Nat->Nat->Int} (h0:det n (λr c=>(M r c:Rat))≠0) {j:Nat} (hj:j < n) {i:Nat} (hi:i < n) :
  mv n (λr c=>(M r c:Rat)) (λk=>((slX n M (unI j) k:Int):Rat) / (((dtE n λr c=>(M r c:Rat)).num.natAbs:Int):Rat)) i=if i=j then 1 else 0:=by
 obtain ⟨y,hy⟩:∃ x,∀ i,i < n->mv n (λr c=>(M r c:Rat)) x i=((unI j i:Int):Rat):=by
  rcases (qbT (n:=n) (A:=λr c=>(M r c:Rat))).2 with h | h
  .exact h.2.1 _
  .exact (h0 h.1).elim
 have hn:=q7Y (n:=n) (M:=M);have key:∀ k,k < n->((slX n M (unI j) k:Int):Rat)=y k*(((dtE n λr c=>(M r c:Rat)).num.natAbs:Int):Rat):=λk hk=>by
  have h1:=qv9 hk hy;have h2:=q7Y (n:=n) (M:=q7k M k (unI j));have h3:det n (λr c=>(q7k M k (unI j) r c:Rat))=det n (cw (λr c=>(M r c:Rat)) k λi=>((unI j i:Int):Rat)):=q3q n λr c _ _=>by
   unfold q7k cw;dsimp only
   split <;> rfl
  rw [h3,h1] at h2;unfold slX;generalize (dtE n λr c=>(q7k M k (unI j) r c:Rat)).num=u at *;generalize (dtE n λr c=>(M r c:Rat)).num=d at *;rw [<- hn] at h2
  split
  .rename_i hd;rw [show (d.natAbs:Int) = -d by omega,Rat.intCast_neg,Rat.intCast_neg,h2]; grind
  .rename_i hd;rw [show (d.natAbs:Int)=d by omega,h2]
 have hD:(((dtE n λr c=>(M r c:Rat)).num.natAbs:Int):Rat)≠0:=by
  intro h;have h:(((dtE n λr c=>(M r c:Rat)).num.natAbs:Int))=0:=by exact_mod_cast h
  have h4:(dtE n λr c=>(M r c:Rat)).num=0:=ω
  rw [h4] at hn;exact h0 (hn.symm.trans rfl)
 generalize (((dtE n λr c=>(M r c:Rat)).num.natAbs:Int):Rat)=D at *;have e:mv n (λr c=>(M r c:Rat)) (λk=>((slX n M (unI j) k:Int):Rat) / D) i=mv n (λr c=>(M r c:Rat)) y i:=by
  unfold mv;refine q00 n λc hc=>?_;dsimp only;rw [key c hc]
  congr 1
  rw [Rat.div_def,Rat.mul_assoc,Rat.mul_inv_cancel _ hD,Rat.mul_one]
 rw [e,hy i hi];unfold unI
 split <;> rfl
def qxJ (z:Int):ab ((z:Int):Rat)=((z.natAbs:Int):Rat):=by
 unfold ab
 by_cases h:z < 0
 .rw [if_pos (by exact_mod_cast h),show (z.natAbs:Int) = -z by omega,Rat.intCast_neg]
 .rw [if_neg (by intro h2; exact h (by exact_mod_cast h2)),show (z.natAbs:Int)=z by omega]
def qxL {x D:Rat} (hD:0 < D):ab (x / D)=ab x / D:=by
 rw [Rat.div_def,q8o,Rat.div_def]
 congr 1
 have:0 < D⁻¹:=Rat.inv_pos.2 hD;unfold ab;rw [if_neg (by grind)]
def qlL {n:Nat} {X:Nat->Nat->Int} {D:Rat} (hD:0 < D) (i:Nat):∀ m,sq (λj=>ab (((X j i:Int):Rat) / D)) m=((nmI X i m:Int):Rat) / D
 | 0=>by rw [sq,nmI]; simp [Rat.div_def]
 | m+1=>by
  rw [sq,qlL (n:=n) hD i m,nmI,qxL hD,qxJ,Rat.intCast_add,Rat.div_def,Rat.div_def,Rat.div_def,Rat.add_mul]
def qlP {n:Nat} {X:Nat->Nat->Int} {D:Rat} (hD:0 < D):∀ m,mx (λi=>sq (λj=>ab (((X j i:Int):Rat) / D)) n) m=((mxI n X m:Int):Rat) / D
 | 0=>by rw [mx,mxI]; simp [Rat.div_def]
 | m+1=>by
  have hi:0 < D⁻¹:=Rat.inv_pos.2 hD;have ih:=qlP (n:=n) (X:=X) hD m;have e:=qlL (n:=n) (X:=X) hD m n;have hc:(mxI n X m < nmI X m n) ↔ ((mxI n X m:Int):Rat) / D < ((nmI X m n:Int):Rat) / D:=by
   rw [Rat.div_def,Rat.div_def]
   constructor
   .intro h;exact Rat.mul_lt_mul_of_pos_right (by exact_mod_cast h) hi
   .intro h
    by_cases h2:mxI n X m < nmI X m n
    .exact h2
    .exfalso
     have h3:((nmI X m n:Int):Rat)<=((mxI n X m:Int):Rat):=by exact_mod_cast (show nmI X m n<=mxI n X m by omega)
     have h4:=Rat.mul_le_mul_of_nonneg_right h3 (Rat.le_of_lt hi)
     grind
  rw [mx,mxI,ih,e]
  by_cases h:mxI n X m < nmI X m n
  .rw [if_pos h,if_pos (hc.1 h)]
  .rw [if_neg h,if_neg λh2=>h (hc.2 h2)]
section
variable {F:Nat->Nat->Option Nat} {n K:Nat} {v:List Nat} {M:Nat->Nat->Int} {a b L P H:Int}
def qtS (h:a*L<=P*(2:Int) ^ K):rK K a*rK K L<=rK K P:=by
 have p:=pKp K;have h1:(a:Rat)*(L:Rat)<=(P:Rat)*(((2:Int) ^ K:Int):Rat):=by exact_mod_cast h
 unfold rK;generalize (((2:Int) ^ K:Int):Rat)=c at *;have e1:(a:Rat)=(a:Rat) / c*c:=(Rat.div_mul_cancel (by grind)).symm;have e2:(L:Rat)=(L:Rat) / c*c:=(Rat.div_mul_cancel (by grind)).symm;have e3:(P:Rat)=(P:Rat) / c*c:=(Rat.div_mul_cancel (by grind)).symm;rw [e1,e2,e3] at h1;generalize (a:Rat) / c=s at *;generalize (L:Rat) / c=t at *;generalize (P:Rat) / c=u at *;refine Classical.byContradiction λhn=>?_;have h2:=Rat.mul_lt_mul_of_pos_right (Rat.mul_lt_mul_of_pos_right (Rat.not_le.1 hn) p) p
 grind
def qtT (h:P*(2:Int) ^ K<=a*L):rK K P<=rK K a*rK K L:=by
 have p:=pKp K;have h1:(P:Rat)*(((2:Int) ^ K:Int):Rat)<=(a:Rat)*(L:Rat):=by exact_mod_cast h
 unfold rK;generalize (((2:Int) ^ K:Int):Rat)=c at *;have e1:(a:Rat)=(a:Rat) / c*c:=(Rat.div_mul_cancel (by grind)).symm;have e2:(L:Rat)=(L:Rat) / c*c:=(Rat.div_mul_cancel (by grind)).symm;have e3:(P:Rat)=(P:Rat) / c*c:=(Rat.div_mul_cancel (by grind)).symm;rw [e1,e2,e3] at h1;generalize (a:Rat) / c=s at *;generalize (L:Rat) / c=t at *;generalize (P:Rat) / c=u at *;refine Classical.byContradiction λhn=>?_;have h2:=Rat.mul_lt_mul_of_pos_right (Rat.mul_lt_mul_of_pos_right (Rat.not_le.1 hn) p) p
 grind
def qui (hK:K=65536) (ha:0<=a) (hb:0 < b):q0M (fQ 1 a b)/\b*ofZ (fQ 1 a b)<=a*(2:Int) ^ K:=by
 rcases fQ_dn hK hb with h | h
 .exfalso
  unfold fQ at h
  by_cases h0:a=0
  .rw [if_pos h0] at h; omega
  .rw [if_neg h0,decide_eq_false (show ¬ b < 0 by omega),xT,decide_eq_false (show ¬ a < 0 by omega)] at h;obtain ⟨_,d2⟩:=qeI (mode:=1) (neg:=false) (N:=a.natAbs) (D:=b.natAbs) hK (.inl rfl) Oq Oq;obtain ⟨y,h1,_⟩:=d2 rfl;have h3:=(q57 h1).1;rw [h] at h3;exact absurd h3 (by decide)
 .exact h
def bn_c {N:Rat} (hK:K=65536) (hP:0<=P) (hb0:0<=b) (hb1:¬ q0s<=b) (h1:rK K P<=(1+rK K b)*N) (h2:(1-rK K b)*N<=rK K P) :
  (q0M (fQ 1 P (q0s+b))/\rK K (ofZ (fQ 1 P (q0s+b)))<=N)/\(fQ 2 P (q0s-b)=9218868437227405312\/(q0M (fQ 2 P (q0s-b))/\N<=rK K (ofZ (fQ 2 P (q0s-b))))):=by
 have e1:rK K (q0s+b)=1+rK K b:=by rw [qkw,q6O hK]
 have e2:rK K (q0s-b)=1-rK K b:=by rw [qeG,q6O hK]
 have hb2:rK K b < 1:=by rw [<- q6O hK]; exact Rat.not_le.1 λq=>hb1 (q3S.1 q)
 have hb3:0<=rK K b:=by rw [<- qgq (K:=K)]; exact q3S.2 hb0
 have hone:0<=q0s:=by
  have:=q3S (K:=K) (a:=0) (b:=q0s);rw [qgq,q6O hK] at this;exact this.1 (by grind)
 refine ⟨?_,?_⟩
 .obtain ⟨f1,f2⟩:=qui (a:=P) (b:=q0s+b) hK hP Oq;refine ⟨f1,?_⟩;have h3:=qtS f2;rw [e1] at h3;generalize rK K (ofZ (fQ 1 P (q0s+b)))=x at *;generalize rK K b=β at *;refine Classical.byContradiction λhn=>?_;have h4:=Rat.mul_lt_mul_of_pos_left (Rat.not_le.1 hn) (show (0:Rat) < 1+β by grind)
  grind
 .rcases fQ_up (a:=P) (b:=q0s-b) hK Oq with h | ⟨f1,f2⟩
  .exact .inl h
  .refine .inr ⟨f1,?_⟩;have h3:=qtT f2;rw [e2] at h3;generalize rK K (ofZ (fQ 2 P (q0s-b)))=x at *;generalize rK K b=β at *;refine Classical.byContradiction λhn=>?_;have h4:=Rat.mul_lt_mul_of_pos_left (Rat.not_le.1 hn) (show (0:Rat) < 1-β by grind)
   grind
def qtQ {g:Nat->Int}:∀ m,rK K (grZ ((List.range m).map g))=mx (λi=>rK K (g i)) m
 | 0=>by show rK K 0=0; exact qgq
 | m+1=>by
  rw [z7,zC,z8,qi8,mx,<- qtQ m]
  by_cases h:grZ ((List.range m).map g) < g m
  .rw [Int.max_eq_right ω,if_pos (Rat.not_le.1 λq=>by have:=q3S.1 q; omega)]
  .rw [Int.max_eq_left ω,if_neg (Rat.not_lt.2 (q3S.2 ω))]
def qt7:rK K (grZ (pnL n n v))=mx (λi=>sq (λj=>ab (mR K n v i j)) n) n:=by
 unfold pnL;rw [qtQ]
 congr 1
 funext i
 unfold pnZ;rw [qhn];refine q00 n λj _=>?_;unfold abZ;exact qtU
def nrI (n:Nat) (M:Nat->Nat->Int):Int:=mxI n (λj=>slX n M (unI j)) n
def dtN (n:Nat) (M:Nat->Nat->Int):Int:=((dtE n λr c=>(M r c:Rat)).num.natAbs:Nat)
def qls (hK:K=65536) (h:TOk F n n) (hv:q1N v) (hM:∀ r c,r < n->c < n->ofZ ((F c r).getD 0)=M r c*(2:Int) ^ K) (hg:¬ q0s<=grZ (btL n v F)) :
  det n (λr c=>(M r c:Rat))≠0/\(dtE n λr c=>(M r c:Rat)).num≠0/\0 < dtN n M:=by
 have e:det n (mA K F)=det n (λr c=>(M r c:Rat)):=q3q n λr c hr hc=>by
  show rK K (ofZ ((F c r).getD 0))=_
  rw [hM r c hr hc];unfold rK;rw [Rat.intCast_mul,Rat.div_def,Rat.mul_assoc,Rat.mul_inv_cancel _ (pK0 K),Rat.mul_one]
 have h0:det n (λr c=>(M r c:Rat))≠0:=by rw [<- e]; exact qr7 hK h hv hg
 have h1:(dtE n λr c=>(M r c:Rat)).num≠0:=λh2=>h0 (by rw [<- q7Y,h2]; rfl);exact ⟨h0,h1,by unfold dtN; omega⟩
def qpf (hK:K=65536) (h:TOk F n n) (hv:q1N v) (hM:∀ r c,r < n->c < n->ofZ ((F c r).getD 0)=M r c*(2:Int) ^ K) (hg:¬ q0s<=grZ (btL n v F)) :
  rK K (grZ (pnL n n v))<=(1+rK K (grZ (btL n v F)))*((nrI n M:Rat) / (dtN n M:Rat))/\(1-rK K (grZ (btL n v F)))*((nrI n M:Rat) / (dtN n M:Rat))<=rK K (grZ (pnL n n v)):=by
 obtain ⟨h0,_,hd⟩:=qls hK h hv hM hg;have hD:(0:Rat) < (dtN n M:Rat):=by exact_mod_cast hd
 have hB:∀ j,j < n->∀ i,i < n->mv n (mA K F) (λk=>(λk j=>((slX n M (unI j) k:Int):Rat) / (dtN n M:Rat)) k j) i=if i=j then 1 else 0:=λj hj i hi=>by
  rw [<- qnO h0 hj hi];unfold mv;refine q00 n λk hk=>?_
  congr 1
  show rK K (ofZ ((F k i).getD 0))=_
  rw [hM i k hi hk];unfold rK;rw [Rat.intCast_mul,Rat.div_def,Rat.mul_assoc,Rat.mul_inv_cancel _ (pK0 K),Rat.mul_one]
 have hb0:0<=rK K (grZ (btL n v F)):=by rw [<- qgq (K:=K)]; exact q3S.2 q41
 have key:=qtn (n:=n) (A:=mA K F) (R:=mR K n v) (β:=rK K (grZ (btL n v F))) (B:=λk j=>((slX n M (unI j) k:Int):Rat) / (dtN n M:Rat)) (K:=(nrI n M:Rat) / (dtN n M:Rat)) (λi hi=>qwF hK h hv hi) hb0 hB (qlP (X:=λj=>slX n M (unI j)) hD n).symm;rw [qt7];exact key
end
section
variable {x y:List Nat} {t:Nat}
end
section
variable {f:Nat->Nat->Option Nat} {x:List Nat} {R C:Nat}
end


end Go.Proofs.YtbjoghfmhgadkaaGreatDoor
namespace Go.E
open Go Go.RowKit
end Go.E
namespace Go.Proofs.YtbjoghfmhgadkaaGreatDoor
open Go Go.E Go.Sp
section
variable {pm cp ri:List Int} {vs l:List Nat}
end
end Go.Proofs.YtbjoghfmhgadkaaGreatDoor
namespace Go.Sp
open Go Go.E Go.Proofs.YtbjoghfmhgadkaaGreatDoor
section
open Classical
end
section
variable {n:Nat} {f:Nat->Nat->Option Nat} {F:List Int × List Int × List Int × List Nat} {x r p:List Nat} {rho:Int}
end
end Go.Sp
namespace Go.E
open Go Go.RowKit
end Go.E
namespace Go.Proofs.YtbjoghfmhgadkaaGreatDoor
open Go Go.E Go.Sp
section
variable {n:Nat} {f:Nat->Nat->Option Nat} {F:List Int × List Int × List Int × List Nat} {x r p:List Nat} {rho:Int}
def quP {a0 a1 a2 a3 a4 a5 a6 a7 a8 a9 a10 a11 a12 a13 a14 a15 a16:PV}:ldU (some 17) (some 5) 0 (.ag [a0,a1,a2,a3,a4,a5,a6,a7,a8,a9,a10,a11,a12,a13,a14,a15,a16])=some (.ag [a0,a1,a2,a3,a4]):=by simp [ldU]
def quQ {a0 a1 a2 a3 a4 a5 a6 a7 a8 a9 a10 a11 a12 a13 a14 a15 a16:PV}:ldU (some 17) (some 4) 5 (.ag [a0,a1,a2,a3,a4,a5,a6,a7,a8,a9,a10,a11,a12,a13,a14,a15,a16])=some (.ag [a5,a6,a7,a8]):=by simp [ldU]
def quO {a0 a1 a2 a3 a4 a5 a6 a7 a8 a9 a10 a11 a12 a13 a14 a15 a16:PV}:ldU (some 17) (some 4) 13 (.ag [a0,a1,a2,a3,a4,a5,a6,a7,a8,a9,a10,a11,a12,a13,a14,a15,a16])=some (.ag [a13,a14,a15,a16]):=by simp [ldU]
def qs3 {a0 a1 a2 a3 a4 a5 a6 a7 a8 a9 a10 a11 a12 a13 a14 a15 a16 b0 b1 b2 b3:PV}:stU (some 17) (some 4) 13 (.ag [a0,a1,a2,a3,a4,a5,a6,a7,a8,a9,a10,a11,a12,a13,a14,a15,a16]) (.ag [b0,b1,b2,b3])=some (.ag [a0,a1,a2,a3,a4,a5,a6,a7,a8,a9,a10,a11,a12,b0,b1,b2,b3]):=by simp [stU]
attribute [go_sem] quP quQ quO qs3
end
section
variable {R C:Nat} {f:Nat->Nat->Option Nat} {F:List Int × List Int × List Int × List Nat} {b:List Nat} {steps:Int}
end
end Go.Proofs.YtbjoghfmhgadkaaGreatDoor
namespace Go.E
open Go Go.RowKit
def flS_5 {off:Nat} {a b c d e:PV} {cs:List PV}:flS (some (off,5)) (.ag [a,b,c,d,e]) cs=q8t cs off [a,b,c,d,e]:=by
 rw [q4K σ];simp [flS]
attribute [go_sem] flS_5
end Go.E
namespace Go.Proofs.YtbjoghfmhgadkaaGreatDoor
open Go Go.E Go.Sp
section
variable {R C:Nat} {f:Nat->Nat->Option Nat} {F:List Int × List Int × List Int × List Nat} {b:List Nat} {steps:Int}
end
section
variable {n k:Nat} {f:Nat->Nat->Option Nat} {F:List Int × List Int × List Int × List Nat} {x r p x' r' p' l:List Nat} {rho rho' e:Int}
end
section
variable {R C:Nat} {f:Nat->Nat->Option Nat} {F:List Int × List Int × List Int × List Nat} {b:List Nat} {steps:Int}
end
def qlo {h:Hp}:clo h .un=some (.un,[]):=by
 unfold clo q3G;exact if_pos trivial
section
variable {f:Nat->Nat->Option Nat} {n:Nat}
end

end Go.Proofs.YtbjoghfmhgadkaaGreatDoor
namespace Go.Sp
open Go Go.E Go.Proofs.YtbjoghfmhgadkaaGreatDoor
def qnu {z:Int} {K:Nat} (hK:K=65536) (h:z.natAbs<=9):ofZ (flz z)=z*(2:Int) ^ K:=by rw [hK]; exact q0V (qfS ω)
section
variable {c1 c2 c4 c8 K:Nat}
end
end Go.Sp
namespace Go.Dt
def fcN (m:Nat):Nat->Nat
 | 0=>1
 | n+1=>(n+1)*(m*fcN m n)
def qki {c:Rat}:∀ n,sq (λ_=>c) n=(n:Rat)*c
 | 0=>by rw [sq]; exact (Rat.zero_mul c).symm
 | n+1=>by rw [sq,qki n,show ((n+1:Nat):Rat)=(n:Rat)+1 by push_cast; rfl]; grind
def qxH (i:Nat):ab (sg1 i)=1:=by unfold sg1 ab; split <;> rfl
def qlk {m:Nat}:∀ (n:Nat) {A:Mx},(∀ i j,i < n->j < n->ab (A i j)<=(m:Rat))->ab (det n A)<=((fcN m n:Nat):Rat)
 | 0,_,_=>by rw [det]; exact Rat.le_refl
 | n+1,A,h=>by
  rw [det,fcN];refine Rat.le_trans (qhX (n+1)) (Rat.le_trans (q8B (n+1) (h:=λ_=>(m:Rat)*((fcN m n:Nat):Rat)) λi hi=>?_) ?_)
  .rw [q8o,q8o,qxH,Rat.one_mul];have h1:=h i 0 hi Oq;have h2:=qlk n (A:=mn A i) λr c hr hc=>by
    unfold mn;exact h _ _ (by split <;> omega) Oq
   exact Rat.le_trans (q4n h1 (qg9 _)) (q5Z h2 (Rat.le_trans (qg9 _) h1))
  .rw [qki]
   push_cast
   exact Rat.le_refl
set_option exponentiation.threshold 600
end Go.Dt
namespace Go.Proofs.YtbjoghfmhgadkaaGreatDoor
open Go Go.E Go.Sp Go.Dt
def sml (f:Nat):Prop:=f < 18446744073709551616/\f % 9223372036854775808 < 1500*4503599627370496
def qnN {f d:Nat} (h:sml f) (hd:d<=1000000):(f+d) % 18446744073709551616 < 18446744073709551616/\q0M ((f+d) % 18446744073709551616):=by
 unfold sml at h;unfold q0M;omega
def qhY {w:Nat} (hw:w < 18446744073709551616):sml (q2M 2 w):=by
 unfold q2M sml;rw [if_neg ω,if_pos rfl];obtain ⟨e,he⟩:∃ e,e=w / 256 % 81:=⟨_,rfl⟩;obtain ⟨h,hh⟩:∃ h,h=w / 2251799813685248 % 2:=⟨_,rfl⟩;obtain ⟨s,hs⟩:∃ s,s=w / 9223372036854775808:=⟨_,rfl⟩;rw [<- he,<- hh,<- hs];have:h < 2:=ω
 have:e < 81:=ω
 have:s < 2:=ω
 clear he hh hs hw;have hx:(983+e)*4503599627370496+h*2251799813685248 < 9223372036854775808:=ω
 have hx2:(983+e)*4503599627370496+h*2251799813685248 < 1500*4503599627370496:=ω
 have e1:(s*9223372036854775808+((983+e)*4503599627370496+h*2251799813685248)) % 9223372036854775808=(983+e)*4503599627370496+h*2251799813685248:=by
  rw [xM s,Nat.mul_add_mod,Nat.mod_eq_of_lt hx]
 have e2:=Nat.add_lt_add_of_le_of_lt (zM 9223372036854775808 (show s<=1 by omega)) hx;rw [Nat.add_assoc];exact ⟨e2,by rw [e1]; exact hx2⟩
section
variable {F:Nat->Nat->Option Nat} {n K:Nat} {v:List Nat}
def qga (z:Int):ab (z:Rat)=((z.natAbs:Int):Rat):=by
 unfold ab
 split
 .rename_i q;have q2:z < 0:=by exact_mod_cast q
  rw [show (z.natAbs:Int) = -z by omega]; push_cast; rfl
 .rename_i q;have q2:¬ z < 0:=λw=>q (by exact_mod_cast w);rw [show (z.natAbs:Int)=z by omega]
end
section
variable {R C:Nat} {F:Nat->Nat->Option Nat} {f:LUt}
end
section
variable {R C:Nat} {F:Nat->Nat->Option Nat} {f:LUt} {b:List Nat} {dbl:Bool} {steps:Int}
end
section
variable {F:Nat->Nat->Option Nat} {R:Nat}
end
end Go.Proofs.YtbjoghfmhgadkaaGreatDoor
