/- CondScales is proved. 5/7. -/
import Derived.Test.YtbjoghfmhgadkaaGreatDoorPw4
open Int renaming mul_le_mul_of_nonneg_right->zD,natCast_mul->zG,mul_assoc->zS,toNat_natCast->tG,natAbs_mul->zV,natAbs_neg->zX,mul_left_comm->zY,pow_add->tH,natAbs_natCast->z6,mul_comm->z9,ofNat_le->tJ,zero_mul->yF,le_refl->yK,mul_le_mul_of_nonneg_left->yP,le_of_mul_le_mul_right->yW,eq_of_mul_eq_mul_right->yX,le_of_lt->yY,sign_eq_zero_iff_zero->y7,natCast_add->xD,add_mul->xH,max_eq_right->xK,sign_eq_neg_one_of_neg->xS,one_mul->xV,sign_eq_one_of_pos->wC,le_trans->wD,max_eq_left->wH,mul_ne_zero->wI,mul_pos->wL,mul_nonneg->wM,natAbs_of_nonneg->wO,natAbs->wT,ofNat_lt->wV,ne_of_gt->wX,neg_mul->w4
open List renaming getElem?_eq_getElem->zA,getD_eq_getElem?_getD->zB,mem_of_getElem?->zC,getElem?_range->zF,map_append->zK,length_map->zL,mem_map->zN,getElem?_eq_some_iff->zQ,take_of_length_le->zU,mem_range->zW,length_take->z7,getElem?_map->z8,take_length->yA,map_congr_left->yB,mem_append->yC,length_append->yE,getElem?_eq_none->yH,map_singleton->yI,mem_iff_getElem?->yM,range_succ->yN,getElem?_concat_length->yS,mem_cons_of_mem->yU,length_drop->yZ,map_map->tL,mem_or_eq_of_mem_set->y6,map_cons->y9,foldl_cons->xC,getElem?_take->xE,mem_cons_self->xF,length_range->xI,mem_append_left->xM,append_nil->xN,getElem?_drop->xQ,mem_replicate->xR,pairwise_iff_getElem->xT,mem_of_find?_eq_some->xU,ext_getElem?->xW,getElem?_set->xX,length_filterMap_le->xY,getElem_mem->x8,getElem?_set_self->x9,find?_cons->wE,length_set->wF,drop_zero->wJ,idxOf_eq_length->wK,mem_of_mem_take->wN,mem_map_of_mem->wQ,find?_eq_none->wS,map_nil->wU
open Nat renaming zero_le->zE,le_refl->zH,pow_le_pow_right->zI,pow_add->zJ,mul_le_mul_right->zM,le_trans->zO,mul_assoc->zP,mul_le_mul->zR,mul_le_mul_left->yG,lt_of_le_of_lt->yL,mul_comm->yO,mul_lt_mul_of_pos_right->tP,le_of_mul_le_mul_right->yV,le_of_mul_le_mul_left->y8,pow_le_pow_iff_right->xA,pow_lt_pow_iff_right->xB,mul_one->xL,add_zero->xO,succ_mul->xP,add_sub_cancel_left->tQ,sub_self->tS,pow_zero->tT,div_add_mod->wG,pow_succ->wW,sub_zero->wY,add_mul->wZ,one_mul->tV,mul_pos->tW
open Option renaming getD_some->yJ,map_eq_some_iff->yQ,map_some->yR,some->xG,bind_some->xJ,bind_eq_some_iff->xZ,some_ne_none->wP,toList_some->wR
set_option linter.unusedSimpArgs false
set_option linter.unusedVariables false
set_option maxRecDepth 20000
set_option maxHeartbeats 2000000
set_option linter.defProp false
namespace Go.Proofs.YtbjoghfmhgadkaaGreatDoor
open Go Go.E Go.Sp
def loZ (D:Nat->Nat->Nat) (ys:List Nat) (k:Nat):Int:=ofZ (ys.getD k 0)-sg (λc=>q0v (D k c) (ys.getD c 0)) k
def upZ (D:Nat->Nat->Nat) (ys:List Nat) (n k:Nat):Int:=ofZ (ys.getD k 0)-sg (λi=>q0v (D k (k+1+i)) (ys.getD (k+1+i) 0)) (n-(k+1))
noncomputable def geL (D:Nat->Nat->Nat):Nat->Nat->List Nat->Option (List Nat)
 | 0,_,ys=>some ys
 | m+1,k,ys=>if q0I (fR 0 (loZ D ys k)) then geL D m (k+1) (ys.set k (fR 0 (loZ D ys k))) else none
noncomputable def geU (D:Nat->Nat->Nat) (n:Nat):Nat->List Nat->Option (List Nat)
 | 0,ys=>some ys
 | k+1,ys=>if q0I (fQ 0 (upZ D ys n k) (ofZ (D k k))) then geU D n k (ys.set k (fQ 0 (upZ D ys n k) (ofZ (D k k)))) else none
def qed {D:Nat->Nat->Nat} {n:Nat}:∀ (m k:Nat) (ys zs:List Nat),ys.length=n->q10 ys->geL D m k ys=some zs->zs.length=n/\q10 zs
 | 0,k,ys,zs,h1,h2,h=>by unfold geL at h; cases h; exact ⟨h1,h2⟩
 | m+1,k,ys,zs,h1,h2,h=>by
  unfold geL at h
  split at h
  .exact qed m _ _ zs (by simpa using h1) (q4w h2 q51 (by assumption)) h
  .cases h
def qec {D:Nat->Nat->Nat} {n:Nat} (hD:∀ k,k < n->ofZ (D k k)≠0):∀ (k:Nat) (ys zs:List Nat),k<=n->ys.length=n->q10 ys->geU D n k ys=some zs->zs.length=n/\q10 zs
 | 0,ys,zs,_,h1,h2,h=>by unfold geU at h; cases h; exact ⟨h1,h2⟩
 | k+1,ys,zs,hk,h1,h2,h=>by
  unfold geU at h
  split at h
  .exact qec hD k _ zs ω (by simpa using h1) (q4w h2 (qoF (hD k ω)) (by assumption)) h
  .cases h
def q5L (x:Int) (l:List Int):q1M (x :: l)=x+q1M l:=by
 have:∀ (l:List Int) (a:Int),l.foldl (·+·) a=a+l.foldl (·+·) 0:=λl=>by
  induction l with
  | nil=>intro a; simp
  | cons y l ih=>intro a; simp only [xC]; rw [ih (a+y),ih (0+y)]; omega
 unfold q1M;rw [xC,this]; omega
def qd3 {B:Int} {l x:List Nat}:∀ m,q1M (q7m B l x m)=B-sg (λi=>q0v (l.getD i 0) (x.getD i 0)) m
 | 0=>by rw [q7m,q4o]; unfold sg; omega
 | m+1=>by rw [q7m,q0c,qd3 m,show sg (λi=>q0v (l.getD i 0) (x.getD i 0)) (m+1)=sg (λi=>q0v (l.getD i 0) (x.getD i 0)) m+q0v (l.getD m 0) (x.getD m 0) from rfl]; omega
def ctV (L:List (Nat × Nat)) (r:Nat):Nat:=((L.find? λe=>e.1 == r).map (·.2)).getD 0
structure ColS (n:Nat) (st ix:List Int) (vs:List Nat) (E:Nat->List (Nat × Nat)):Prop where
 len:ix.length<=1000000
 col:∀ k,k < n->∃ a:Nat,st[k]?=some (a:Int)/\st[k+1]?=some ((a+(E k).length:Nat):Int)/\a+(E k).length<=ix.length/\∀ (t:Nat) (e:Nat × Nat),(E k)[t]?=some e->ix[a+t]?=some (e.1:Int)/\vs[a+t]?=some e.2/\e.1 < n/\q0I e.2/\e.2 < 18446744073709551616
 nd:∀ k,k < n->((E k).map (·.1)).Nodup
 sz:∀ k,k < n->(E k).length<=n
def dnH (n a c:Nat) (gl gu:Nat->Nat->Nat):Hp:=q1X 24 32 none 6000 10000 a (rU n gl) (q1X 24 32 none 6002 30000 c (rU n gu) h0)
def dnD (t:Nat):Nat->Nat->Nat:=λi j=>if i=j/\i < t then 4607182418800017408 else 0
def enS (g:Nat->Nat->Nat) (k:Nat):List (Nat × Nat)->Nat->Nat->Nat
 | []=>g
 | e :: l=>enS (q29 g e.1 k e.2) k l
def dnT (g:Nat->Nat->Nat) (E:Nat->List (Nat × Nat)):Nat->Nat->Nat->Nat
 | 0=>g
 | k+1=>enS (dnT g E k) k (E k)
def q91 {k:Nat} {e:Nat × Nat}:∀ (l:List (Nat × Nat)) (g:Nat->Nat->Nat),enS g k (l ++ [e])=q29 (enS g k l) e.1 k e.2
 | [],_=>rfl
 | _ :: l,_=>q91 l _
def dnD_0 {n:Nat} {t:Nat}:rU n (dnD t) t=rU n (λ_ _=>0) t:=by
 unfold rU dnD;refine yB λc _=>?_;rw [if_neg ω]
def dnD_s {t:Nat}:q29 (dnD t) t t 4607182418800017408=dnD (t+1):=by
 funext i j
 unfold q29 dnD
 by_cases h:i=t/\j=t
 .rw [if_pos h,if_pos ω]
 .rw [if_neg h]
  by_cases h2:i=j/\i < t
  .rw [if_pos h2,if_pos ω]
  .rw [if_neg h2,if_neg ω]
section
variable {n a c:Nat} {gl gu:Nat->Nat->Nat}
def q3H (ha:a<=100) (hc:c<=100):BOk (dnH n a c gl gu) win:=by
 unfold dnH;have w:∀ R j m:Nat,5000<=R->R<=40000->m<=100->j < m->win (j+R):=λR j m h1 h2 h3 h4=>⟨ω,ω⟩;exact q1i (q1i BOk.h0 (λ_ _=>q6N) Oq ⟨⟨ω,ω⟩,λj hj=>w _ j _ Oq Oq hc hj⟩) (λ_ _=>q6N) Oq ⟨⟨ω,ω⟩,λj hj=>w _ j _ Oq Oq ha hj⟩
def qkh {q:Nat->Prop} (hq:∀ i,10000<=i->q i):HId q (dnH n a c gl gu):=by
 unfold dnH;exact qcS (qcS qwx (λ_ _=>q6N) λj _=>hq _ Oq) (λ_ _=>q6N) λj _=>hq _ Oq
def quH {i:Nat} (hi:i < 6000):dnH n a c gl gu i=none:=by
 unfold dnH;rw [q0M ω ω,q0M ω ω]
 rfl
def qkg:dnH n a c gl gu 6000=some ⟨24,none,(List.range a).map λj=>.ow (j+10000) none 0 n,false⟩:=by
 unfold dnH; rw [q1k]; simp
def q1o (ha:a<=100):dnH n a c gl gu 6002=some ⟨24,none,(List.range c).map λj=>.ow (j+30000) none 0 n,false⟩:=by
 unfold dnH; rw [q0M ω ω,q1k]; simp
def qfM {j:Nat} (hj:j < a):dnH n a c gl gu (j+10000)=some ⟨32,none,rU n gl j,false⟩:=by
 unfold dnH; rw [q13 ω hj]
def qay {j:Nat} (ha:a<=100) (hj:j < c):dnH n a c gl gu (j+30000)=some ⟨32,none,rU n gu j,false⟩:=by
 unfold dnH; rw [q0M ω ω,q13 ω hj]
def quI {r m v:Nat} (hr:r < a):q0P (dnH n a c gl gu) (r+10000) ⟨32,none,(rU n gl r).set m (.vl (.int .u64 (v:Nat))),false⟩=dnH n a c (q29 gl r m v) gu:=by
 unfold dnH;rw [q2t ω hr σ,qaS]
def dnH_u {r m v:Nat} (ha:a<=100) (hr:r < c):q0P (dnH n a c gl gu) (r+30000) ⟨32,none,(rU n gu r).set m (.vl (.int .u64 (v:Nat))),false⟩=dnH n a c gl (q29 gu r m v):=by
 unfold dnH;rw [q2Y ω ω,q2t ω hr σ,qaS]
def quG {i:Nat} {x:Bk} (hb:dnH n 0 0 gl gu i=some x):x.xs=[]:=by
 unfold dnH at hb
 rcases q1E hb with ⟨rfl,rfl⟩ | ⟨_,h1,h2,_⟩ | ⟨_,_,hb⟩
 .rfl
 .omega
 rcases q1E hb with ⟨rfl,rfl⟩ | ⟨_,h1,h2,_⟩ | ⟨_,_,hb⟩
 .rfl
 .omega
 .cases hb
def quK:q5n (dnH n n n gl gu) n 10000 none (λ_=>n)=some ((List.range n).map λj=>.sl none (rU n gl j),(List.range n).map (·+10000)):=by
 unfold dnH;rw [q56 ω,cO,if_pos λj _=>q6N]
 congr 2
 refine yB λj _=>?_
 congr 1
 exact q8m
def quJ (hn:n<=100):q5n (dnH n n n gl gu) n 30000 none (λ_=>n)=some ((List.range n).map λj=>.sl none (rU n gu j),(List.range n).map (·+30000)):=by
 unfold dnH;rw [q46 ω ω,q56 ω,cO,if_pos λj _=>q6N]
 congr 2
 refine yB λj _=>?_
 congr 1
 exact q8m
attribute [go_sem ↓] quH qkg qfM qay
def qi9 {f:LUt} {EL EU:Nat->List (Nat × Nat)} (hr:f.rows.length=n) (hn:n<=100) (hL:ColS n f.ls f.li f.lv EL) (hU:ColS n f.us f.ui f.uv EU):ACt 43 [pLU f] (.tu [tU n (dnT (dnD n) EL n),tU n (dnT (λ_ _=>0) EU n)]):=by
 obtain ⟨ro,co,ls,li,lv,us,ui,vu⟩:=f;unfold pLU;dsimp only at *;refine ac0 Tryz.func43 Tryz.ntmps43 [.tmp 2,.tmp 3] ?_;refine wk1 hr ?_;refine q1g (LeT (hw:=dnH n 0 0 (dnD 0) λ_ _=>0) tnW (λ_ h=>h.elim) (λi hi hw=>?_) (λi b hw hb=>?_) (λi j x hi hj ti tj=>?_) (xs:=[(1,.pt 1 0 0),(4,iv n),(5,.ow 6000 none 0 0),(6,.ow 6002 none 0 0),(7,iv 0)]) (kv:=[]) (bs:=[(1,⟨63,some 8,[.ag [pI ro,pI co,pI ls,pI li,pF lv,pI us,pI ui,pF vu]],false⟩)]) (kb:=[]) ?_) ?_
 .simp at hi;unfold win at hw;omega
 .unfold LeB;rw [qcp hw.1 hw.2];exact quG hb
 .unfold tnW at ti tj
  split at ti <;> split at tj <;> cases ti <;> cases tj <;> rfl
 .try refine Zz ?_
  exact ⟨_,q1o Oq,rfl⟩
 refine q0U (λt=>t<=n) [1,4] [1] Lk Lk (λt:Nat=>[(5,.ow 6000 none 0 t),(6,.ow 6002 none 0 t),(7,iv t)]) (λ_=>[]) (λt=>dnH n t t (dnD t) λ_ _=>0) (λt=>n-t) 0 (zE _) ?_ ?_
 .refine LeW [] rfl rfl ?_ ?_ (by simp [q0y,q0n,win]) ?_
  .exact Ow
  .exact q1L (q3H Oq Oq)
  .try refine Zz ?_
   exact ⟨⟨_,q1o Oq⟩,rfl⟩
 .intro t ht
  by_cases hlt:t < n
  .have hlt':(t:Int) < n:=ω
   have rt:(List.range t ++ [t])[t]?=some t:=σ
   have hset:((rU n (dnD t) t).set t (uv (4607182418800017408:Nat)))=(rU n (dnD t) t).set t (PV.vl (.int .u64 (4607182418800017408:Nat))):=rfl;refine wk1 hlt' ?_;refine q1g (q4H (T1:=24) (T2:=32) (K:=none) (N:=6000) (R:=10000) (n:=t) (o:=23) (r:=21) (l:=(rU n (dnD t)) t) (hw:=dnH n t t (dnD t) λ_ _=>0) (hw':=dnH n (t+1) t (dnD t) λ_ _=>0) (λ_ h=>h) q6N (λ_=>n) ?_ ?_ (λi h1 h2=>?_) qkg (qfM Oq) (λi h1 h2=>q2L h1 h2) (λj hj=>by
    rw [qfM ω];exact wP _) (q3H ω ω) (qkh λi hi=>by omega) ?_ ω ω ω ω ω ω (xs:=[(1,.pt 1 0 0),(4,iv n),(5,.ow 6000 none 0 (t+1)),(6,.ow 6002 none 0 t),(7,iv t)]) (kv:=[]) (bs:=[(1,⟨63,some 8,[.ag [pI ro,pI co,pI ls,pI li,pF lv,pI us,pI ui,pF vu]],false⟩)]) (kb:=[]) (by simp [nmW]) ?_) ?_
   .try simp -implicitDefEqProofs (disch:=omega) only [go_sem,Nat.reduceEqDiff,Nat.reduceAdd,↓reduceIte]
   .try refine Zz ?_
    rw [dnD_0,qgx (j:=t)]
   .obtain ⟨w1,w2⟩:=h1
    repeat rw [q0A ω]
    rw [q0V ⟨w1,w2⟩]
   .unfold dnH;rw [q0M ω ω,q0M ω ω]
    rfl
   .try refine Zz ?_
    exact ⟨_,q1o Oq⟩
   have h2o:dnH n (t+1) t (dnD t) (λ_ _=>0) 6002=some ⟨24,none,(List.range t).map λj=>.ow (j+30000) none 0 n,false⟩:=q1o Oq;refine wk1 h2o ?_;clear h2o;refine q1g (q4H (T1:=24) (T2:=32) (K:=none) (N:=6002) (R:=30000) (n:=t) (o:=28) (r:=26) (l:=(rU n λ_ _=>0) t) (hw:=dnH n (t+1) t (dnD t) λ_ _=>0) (hw':=dnH n (t+1) (t+1) (dnD t) λ_ _=>0) (λ_ h=>h) q6N (λ_=>n) ?_ ?_ (λi h1 h2=>?_) (q1o Oq) (qay Oq Oq) (λi h1 h2=>q1j (q2L h1 h2)) (λj hj=>by
    rw [qay ω ω];exact wP _) (q3H ω ω) (qkh λi hi=>by omega) ?_ ω ω ω ω ω ω (xs:=[(1,.pt 1 0 0),(4,iv n),(5,.ow 6000 none 0 (t+1)),(6,.ow 6002 none 0 (t+1)),(7,iv t)]) (kv:=[]) (bs:=[(1,⟨63,some 8,[.ag [pI ro,pI co,pI ls,pI li,pF lv,pI us,pI ui,pF vu]],false⟩)]) (kb:=[]) (by simp [nmW]) ?_) ?_
   .try simp -implicitDefEqProofs (disch:=omega) only [go_sem,Nat.reduceEqDiff,Nat.reduceAdd,↓reduceIte]
   .try refine Zz ?_
    rw [qgx (j:=t)]
   .obtain ⟨w1,w2⟩:=h1
    repeat rw [q0A ω]
    rw [q0V ⟨w1,w2⟩]
   .unfold dnH;rw [q0M ω ω,q0M ω ω]
    rfl
   .try refine Zz ?_
    exact ⟨_,q1o Oq⟩
   refine wk1 rt ?_;refine ⟨t+1,ω,ω,?_⟩;refine LeW [] rfl rfl ?_ ?_ (by simp [q0y,q0n,win]) ?_
   .exact q9l (q5d q4k) ((quI ω).trans (by rw [dnD_s]))
   .exact q1L (q3H Oq Oq)
   .try refine Zz ?_
    exact ⟨⟨_,q1o Oq⟩,rfl⟩
  .obtain rfl:n=t:=ω
   have hlt':¬ (n:Int) < n:=ω
   refine wk1 hlt' ?_;obtain ⟨g0,hg0⟩:∃ g,g=dnD n:=⟨_,rfl⟩;rw [<- hg0];clear hg0 ht;refine q0U (λk=>k<=n) [1,4,5,6] [1] Lk Lk (λk:Nat=>[(8,iv k)]) (λ_=>[]) (λk=>dnH n n n (dnT g0 EL k) (dnT (λ_ _=>0) EU k)) (λk=>n-k) 0 (zE _) ?_ ?_
   .refine LeW [] rfl rfl ?_ ?_ (by simp [q0y,q0n,win]) ?_
    .exact Ow
    .exact q1L (q3H Oq Oq)
    .try refine Zz ?_
     exact ⟨rfl,_,q1o Oq⟩
   .intro k hk
    by_cases hkn:k < n
    .have hkn':(k:Int) < n:=ω
     have rk:(List.range n)[k]?=some k:=zF hkn;have wj:(k:Int)+1=((k+1:Nat):Int):=rfl;obtain ⟨a,l1,l2,l3,l4⟩:=hL.col k hkn;obtain ⟨c,u1,u2,u3,u4⟩:=hU.col k hkn;have hlb:=hL.len;have hub:=hU.len;have dL:dnT g0 EL (k+1)=enS (dnT g0 EL k) k (EL k):=rfl;have dU:dnT (λ_ _=>0) EU (k+1)=enS (dnT (λ_ _=>0) EU k) k (EU k):=rfl;generalize dnT g0 EL k=gl at *;generalize dnT (λ_ _=>0) EU k=gu at *;generalize EL k=el at *;generalize EU k=eu at *;refine wk1 (x2 hkn' l1) ?_;refine q0U (λt=>t<=el.length) [1,4,5,6,8] [1] Lk Lk (λt:Nat=>[(9,iv (a+t:Nat))]) (λ_=>[]) (λt=>dnH n n n (enS gl k (el.take t)) gu) (λt=>el.length-t) 0 (zE _) ?_ ?_
     .refine LeW [] rfl rfl ?_ ?_ (by simp [q0y,q0n,win]) ?_
      .exact Ow
      .exact q1L (q3H Oq Oq)
      .try refine Zz ?_
       exact ⟨_,q1o Oq⟩
     .intro t ht
      by_cases hlt:t < el.length
      .obtain ⟨e,he⟩:∃ e,el[t]?=some e:=⟨_,zA hlt⟩;obtain ⟨y1,y2,y3,y4,y5⟩:=l4 t e he;have hlt':((a+t:Nat):Int) < ((a+el.length:Nat):Int):=ω
       have re:(List.range n)[e.1]?=some e.1:=zF y3;obtain ⟨p,hp⟩:∃ p,p=a+t:=⟨_,rfl⟩;rw [<- hp] at y1 y2 hlt' ⊢;refine wk1 (x6 wj l2 hlt' y1 y2 re) ?_;refine ⟨t+1,ω,ω,?_⟩;rw [List.take_add_one,he,wR,q91];refine LeW [] rfl rfl ?_ ?_ (by simp [q0y,q0n,win]) ?_
       .exact q9l (q5d q4k) (quI y3)
       .exact q1L (q3H Oq Oq)
       .try refine Zz ?_
        exact ⟨ω,_,q1o Oq⟩
      .obtain rfl:t=el.length:=ω
       obtain ⟨b,hb⟩:∃ b,b=a+el.length:=⟨_,rfl⟩;have hlt':¬ (b:Int) < b:=ω
       rw [yA];rw [<- hb] at l2 ⊢;refine wk1 (x4 wj l2 hlt' u1) ?_;refine q0U (λt=>t<=eu.length) [1,4,5,6,8] [1] Lk Lk (λt:Nat=>[(10,iv (c+t:Nat))]) (λ_=>[]) (λt=>dnH n n n (enS gl k el) (enS gu k (eu.take t))) (λt=>eu.length-t) 0 (zE _) ?_ ?_
       .refine LeW [] rfl rfl ?_ ?_ (by simp [q0y,q0n,win]) ?_
        .exact Ow
        .exact q1L (q3H Oq Oq)
        .try refine Zz ?_
         exact ⟨_,q1o Oq⟩
       .intro t ht;have ho2:=q1o (n:=n) (a:=n) (c:=n) (gl:=enS gl k el) (gu:=enS gu k (eu.take t)) Oq
        by_cases hlt:t < eu.length
        .obtain ⟨e,he⟩:∃ e,eu[t]?=some e:=⟨_,zA hlt⟩;obtain ⟨y1,y2,y3,y4,y5⟩:=u4 t e he;have hlt':((c+t:Nat):Int) < ((c+eu.length:Nat):Int):=ω
         have re:(List.range n)[e.1]?=some e.1:=zF y3;have hr2:=qay (n:=n) (a:=n) (c:=n) (gl:=enS gl k el) (gu:=enS gu k (eu.take t)) (j:=e.1) Oq y3;obtain ⟨p,hp⟩:∃ p,p=c+t:=⟨_,rfl⟩;rw [<- hp] at y1 y2 hlt' ⊢;refine wk1 (x6 wj u2 hlt' y1 y2 (x3 re ho2 hr2)) ?_;refine ⟨t+1,ω,ω,?_⟩;rw [List.take_add_one,he,wR,q91];refine LeW [] rfl rfl ?_ ?_ (by simp [q0y,q0n,win]) ?_
         .exact q9l (q5d q4k) (dnH_u Oq y3)
         .exact q1L (q3H Oq Oq)
         .try refine Zz ?_
          exact ⟨ω,_,q1o Oq⟩
        .obtain rfl:t=eu.length:=ω
         obtain ⟨d,hd⟩:∃ d,d=c+eu.length:=⟨_,rfl⟩;have hlt':¬ (d:Int) < d:=ω
         rw [yA] at ho2 ⊢;rw [<- hd] at u2 ⊢;refine wk1 (x3 wj u2 hlt') ?_;refine ⟨k+1,ω,ω,?_⟩;rw [dL,dU];refine LeW [] rfl rfl ?_ ?_ (by simp [q0y,q0n,win]) ?_
         .exact Ow
         .exact q1L (q3H Oq Oq)
         .try refine Zz ?_
          exact ⟨_,q1o Oq⟩
    .obtain rfl:n=k:=ω
     have hlt':¬ (n:Int) < n:=ω
     generalize dnT g0 EL n=gl at *;generalize dnT (λ_ _=>0) EU n=gu at *;have ho2:=q1o (n:=n) (a:=n) (c:=n) (gl:=gl) (gu:=gu) Oq;have hc2:=quJ (gl:=gl) (gu:=gu) hn;have hc0:=quK (n:=n) (gl:=gl) (gu:=gu);exact wk1 (x4 hlt' hc0 ho2 hc2) trivial
end
def q55 (st ix:List Int) (vs:List Nat) (k:Nat):List (Nat × Nat):=(List.range ((st.getD (k+1) 0).toNat-(st.getD k 0).toNat)).map λt=>((ix.getD ((st.getD k 0).toNat+t) 0).toNat,vs.getD ((st.getD k 0).toNat+t) 0)
def q7R {l:List Int} (h:q9s l):∀ (d i:Nat) (x y:Int),l[i]?=some x->l[i+d+1]?=some y->x < y
 | 0,i,x,y,hx,hy=>h i x y hx hy
 | d+1,i,x,y,hx,hy=>by
  obtain ⟨z,hz⟩:∃ z,l[i+d+1]?=some z:=⟨_,zA (by have:=(zQ.1 hy).1; omega)⟩;have h1:=q7R h d i x z hx hz;have h2:=h (i+d+1) z y hz hy;omega
def q7S {l:List Int} (h:q9s l) {lo:Int} (h0:∀ z,l[0]?=some z->lo<=z):∀ (t:Nat) (z:Int),l[t]?=some z->lo+t<=z
 | 0,z,hz=>by have:=h0 z hz; omega
 | t+1,z,hz=>by
  obtain ⟨y,hy⟩:∃ y,l[t]?=some y:=⟨_,zA (by have:=(zQ.1 hz).1; omega)⟩;have h1:=q7S h h0 t y hy;have h2:=h t y z hy hz;omega
def qpn {l:List Int} (h:q9s l) {t:Nat} {z y:Int} (hz:l[t]?=some z) (hy:l[l.length-1]?=some y):z<=y:=by
 have ht:=(zQ.1 hz).1
 by_cases e:t=l.length-1
 .rw [e,hy] at hz; cases hz; exact yK _
 .exact yY (q7R h (l.length-1-t-1) t z y hz (by rw [<- hy]; congr 1; omega))
section
variable {n:Nat} {st ix:List Int} {vs:List Nat} {G:Nat->List Int->Prop}
def q3N {ix:List Int} {a b t:Nat} (ht:a+t < b):((ix.take b).drop a)[t]?=ix[a+t]?:=by
 rw [xQ,xE,if_pos ht]
def q3m {a b k:Nat} (h1:st[k]?=some (a:Int)) (h2:st[k+1]?=some (b:Int)):q55 st ix vs k=(List.range (b-a)).map λt=>((ix.getD (a+t) 0).toNat,vs.getD (a+t) 0):=by
 unfold q55;rw [getD_some h1,getD_some h2,tG,tG]
def qfZ (h:CmpOk n st ix G) (hl:ix.length=vs.length) (hf:∀ x ∈ vs,q0I x) (hu:∀ x ∈ vs,x < 18446744073709551616) (hix:ix.length<=1000000) (hG:∀ k l,k < n->q9s l->G k l->(∀ z,l[0]?=some z->0<=z)/\∀ z,l[l.length-1]?=some z->z < n):ColS n st ix vs (q55 st ix vs):=by
 refine ⟨hix,λk hk=>?_,λk hk=>?_,λk hk=>?_⟩
 all_goals
  obtain ⟨a,b,h1,h2,h3,h4,h5,h6⟩:=h.col k hk;obtain ⟨g1,g2⟩:=hG k _ hk h5 h6;rw [q3m h1 h2];have hll:((ix.take b).drop a).length=b-a:=by rw [yZ,z7]; omega
  have hb:∀ t,t < b-a->∃ z:Nat,ix[a+t]?=some (z:Int)/\t<=z/\z < n:=λt ht=>by
   obtain ⟨z,hz⟩:∃ z,ix[a+t]?=some z:=⟨_,zA Oq⟩;have hz2:=(q3N (ix:=ix) (a:=a) (b:=b) (t:=t) Oq).trans hz;have q1:=q7S h5 g1 t z hz2;obtain ⟨y,hy⟩:∃ y,((ix.take b).drop a)[((ix.take b).drop a).length-1]?=some y:=⟨_,zA Oq⟩;have q2:=qpn h5 hz2 hy;have q3:=g2 y hy;exact ⟨z.toNat,by rw [Int.toNat_of_nonneg ω]; exact hz,ω,ω⟩
 .refine ⟨a,h1,?_,?_,λt e he=>?_⟩
  .rw [h2,zL,xI]; congr 1; omega
  .rw [zL,xI]; omega
  .have ht:t < b-a:=by have:=(zQ.1 he).1; simpa using this
   rw [z8,zF ht,yR] at he;cases he;obtain ⟨z,z1,z2,z3⟩:=hb t ht;obtain ⟨v,hv⟩:∃ v,vs[a+t]?=some v:=⟨_,zA Oq⟩;simp only [getD_some z1,getD_some hv,tG];exact ⟨z1,hv,z3,hf v (zC hv),hu v (zC hv)⟩
 .rw [tL];unfold List.Nodup;rw [xT];intro i j hi hj hij;simp at hi hj;obtain ⟨z,z1,_⟩:=hb i hi;obtain ⟨y,y1,_⟩:=hb j hj;simp only [List.getElem_map,List.getElem_range,Function.comp_apply,getD_some z1,getD_some y1,tG];have:=q7R h5 (j-i-1) i z y ((q3N ω).trans z1) ((q3N ω).trans (by rw [<- y1]; congr 1; omega));omega
 .rw [zL,xI]
  by_cases e:b-a=0
  .omega
  .obtain ⟨z,z1,z2,z3⟩:=hb (b-a-1) Oq;omega
end
def q98 {L:List (Nat × Nat)} {t:Nat} {e:Nat × Nat} (h:(L.map (·.1)).Nodup) (he:L[t]?=some e):ctV L e.1=e.2:=by
 induction L generalizing t with
 | nil=>simp at he
 | cons d L ih =>
  rw [y9,List.nodup_cons] at h;cases t with
  | zero =>
   rw [List.getElem?_cons_zero] at he;cases he;unfold ctV;rw [wE,show (e.1 == e.1)=true by simp]; rfl
  | succ t =>
   rw [List.getElem?_cons_succ] at he;have hne:d.1≠e.1:=λq=>h.1 (by rw [q]; exact wQ (zC he));unfold ctV;rw [wE,show (d.1 == e.1)=false by simpa using hne];exact ih h.2 he
def qfG {k:Nat}:∀ (l:List (Nat × Nat)) (g:Nat->Nat->Nat) (i j:Nat),(l.map (·.1)).Nodup->enS g k l i j=if j=k then ((l.find? λe=>e.1 == i).map (·.2)).getD (g i j) else g i j
 | [],g,i,j,_=>by unfold enS; simp
 | e :: l,g,i,j,h=>by
  rw [y9,List.nodup_cons] at h;rw [enS,qfG l _ i j h.2]
  by_cases hj:j=k
  .rw [if_pos hj,if_pos hj,wE]
   by_cases he:e.1=i
   .have h0:(l.find? λe=>e.1 == i)=none:=wS.2 λd hd hq=>h.1 (by rw [he,<- (by simpa using hq:d.1=i)]; exact wQ hd);rw [h0,show (e.1 == i)=true by simpa using he];simp [q29,hj,he]
   .rw [show (e.1 == i)=false by simpa using he];simp only [q29];rw [if_neg λq=>he q.1.symm]
  .rw [if_neg hj,if_neg hj];unfold q29;rw [if_neg λq=>hj q.2]
def q94 {g:Nat->Nat->Nat} {E:Nat->List (Nat × Nat)}:∀ (m i j:Nat),(∀ k,k < m->((E k).map (·.1)).Nodup)->dnT g E m i j=if j < m then (((E j).find? λe=>e.1 == i).map (·.2)).getD (g i j) else g i j
 | 0,i,j,_=>by rw [dnT,if_neg ω]
 | m+1,i,j,h=>by
  rw [dnT,qfG _ _ _ _ (h m ω),q94 m i j λk hk=>h k ω]
  by_cases hj:j=m
  .subst hj;rw [if_pos rfl,if_neg ω,if_pos ω]
  .rw [if_neg hj]
   by_cases h2:j < m
   .rw [if_pos h2,if_pos ω]
   .rw [if_neg h2,if_neg ω]
def dnL_v {n:Nat} {E:Nat->List (Nat × Nat)} (h:∀ k,k < n->((E k).map (·.1)).Nodup) {i j:Nat} (hj:j < n) (hij:j < i):dnT (dnD n) E n i j=ctV (E j) i:=by
 rw [q94 n i j h,if_pos hj];unfold ctV dnD;rw [if_neg ω]
def dnU_v {n:Nat} {E:Nat->List (Nat × Nat)} (h:∀ k,k < n->((E k).map (·.1)).Nodup) {i j:Nat} (hj:j < n):dnT (λ_ _=>0) E n i j=ctV (E j) i:=by
 rw [q94 n i j h,if_pos hj]
 rfl
def qfT {n:Nat} {st ix:List Int} {vs:List Nat} {E:Nat->List (Nat × Nat)} (h:ColS n st ix vs E) {i j:Nat} (hj:j < n):ctV (E j) i < 18446744073709551616/\q0I (ctV (E j) i):=by
 unfold ctV;cases hf:(E j).find? λe=>e.1 == i with
 | none=>exact ⟨σ,by unfold q0I; simp⟩
 | some e =>
  obtain ⟨t,ht⟩:=yM.1 (xU hf);obtain ⟨a,_,_,_,h4⟩:=h.col j hj;obtain ⟨_,_,_,h5,h6⟩:=h4 t e ht;exact ⟨h6,h5⟩
structure LUok (f:LUt) (n:Nat):Prop where
 b:LUb f
 rl:f.rows.length=n
 n2:n<=200
 rp:q2q f.rows n
 cp:q2q f.cols n
 sl:f.ls.length=n+1
 su:f.us.length=n+1
 L:ColS n f.ls f.li f.lv (q55 f.ls f.li f.lv)
 U:ColS n f.us f.ui f.uv (q55 f.us f.ui f.uv)
 gt:∀ k,k < n->∀ e ∈ q55 f.ls f.li f.lv k,k < e.1
 le:∀ k,k < n->∀ e ∈ q55 f.us f.ui f.uv k,e.1<=k
 dg:∀ k,k < n->∃ m x,q55 f.us f.ui f.uv k=m ++ [(k,x)]/\ofZ x≠0/\∀ e ∈ m,e.1 < k
def qgE {f:LUt} (hb:LUb f) (h:q5o f=0):LUok f f.rows.length:=by
 unfold q5o at h
 split at h
 .cases h
 split at h
 .cases h
 rename_i hn hp
 split at h
 .cases h
 rename_i hls
 split at h
 .cases h
 rename_i hst
 split at h
 .rename_i hf;obtain ⟨f1,f2,f3⟩:=hf;have hp:=Classical.not_not.1 hp;obtain ⟨s1,s2,s3,s4⟩:=Classical.not_not.1 hls;have hst:=Classical.not_not.1 hst;obtain ⟨c1,c2⟩:=hst;have L:=qfZ (vs:=f.lv) c1 s3 f1 hb.hl hb.li λk l hk ha hg=>⟨λz hz=>by have:=hg.1 z hz; omega,hg.2⟩;have U:=qfZ (vs:=f.uv) c2 s4 f2 hb.hu hb.ui λk l hk ha hg=>⟨hg.1,λz hz=>by have:=hg.2.symm.trans hz; cases this; omega⟩;have hgt:∀ k,k < f.rows.length->∀ e ∈ q55 f.ls f.li f.lv k,k < e.1:=λk hk e he=>by
   obtain ⟨a,b,h1,h2,h3,h4,h5,h6⟩:=c1.col k hk;rw [q3m h1 h2] at he;obtain ⟨t,ht,rfl⟩:=zN.1 he;have ht:=zW.1 ht;obtain ⟨z,hz⟩:∃ z,f.li[a+t]?=some z:=⟨_,zA Oq⟩;have:=q7S h5 (lo:=(k:Int)+1) (λz hz=>by have:=h6.1 z hz; omega) t z ((q3N Oq).trans hz);simp only [getD_some hz];omega
  have hU:∀ k,k < f.rows.length->∃ m x,q55 f.us f.ui f.uv k=m ++ [(k,x)]/\ofZ x≠0/\∀ e ∈ m,e.1 < k:=λk hk=>by
   obtain ⟨a,b,h1,h2,h3,h4,h5,h6⟩:=c2.col k hk;have hll:((f.ui.take b).drop a).length=b-a:=by rw [yZ,z7]; omega
   have hlast:=h6.2;have hab:a < b:=by
    rcases Nat.lt_or_ge a b with q | q
    .exact q
    .rw [yH ω] at hlast; cases hlast
   rw [hll,q3N ω] at hlast;obtain ⟨x,hx⟩:∃ x,f.uv[b-1]?=some x:=⟨_,zA Oq⟩;rw [show a+(b-a-1)=b-1 by omega] at hlast;refine ⟨(List.range (b-a-1)).map λt=>((f.ui.getD (a+t) 0).toNat,f.uv.getD (a+t) 0),x,?_,f3 k hk (b-1) x (by rw [h2]; congr 1; omega) hx,λe he=>?_⟩
   .rw [q3m h1 h2,show b-a=(b-a-1)+1 by omega,yN,zK,yI,show a+(b-a-1)=b-1 by omega,getD_some hlast,getD_some hx,tG]
    rfl
   .obtain ⟨t,ht,rfl⟩:=zN.1 he;have ht:=zW.1 ht;obtain ⟨z,hz⟩:∃ z,f.ui[a+t]?=some z:=⟨_,zA Oq⟩;have hz2:=(q3N (ix:=f.ui) (a:=a) (b:=b) (t:=t) Oq).trans hz;have q1:=q7S h5 h6.1 t z hz2;have q2:=q7R h5 (b-a-1-t-1) t z k hz2 ((q3N ω).trans (by rw [<- hlast]; congr 1; omega));simp only [getD_some hz];omega
  refine ⟨hb,rfl,ω,hp.1,hp.2,s1,s2,L,U,hgt,λk hk e he=>?_,hU⟩;obtain ⟨m,x,m1,m2,m3⟩:=hU k hk;rw [m1] at he
  rcases yC.1 he with he | he
  .exact Nat.le_of_lt (m3 e he)
  .rw [List.mem_singleton.1 he]; exact zH _
 .cases h
def psG (g:Nat->Int):List (Nat × Nat)->(Nat->List Int)->Nat->List Int
 | [],rows=>rows
 | e :: L,rows=>psG g L (q4F rows e.1 (-(g e.2)))
def ctG (g:Nat->Int) (L:List (Nat × Nat)) (r:Nat):Int:=q1M (L.map λe=>if e.1=r then g e.2 else 0)
def qdn {g:Nat->Int}:∀ (A B:List (Nat × Nat)) (rows:Nat->List Int),psG g (A ++ B) rows=psG g B (psG g A rows)
 | [],_,_=>rfl
 | e :: A,B,rows=>by rw [List.cons_append,psG,psG,qdn A B]
def qsT {g:Nat->Int} {t:Nat} {L:List (Nat × Nat)} {e:Nat × Nat} {rows:Nat->List Int} (he:L[t]?=some e):psG g (L.take (t+1)) rows=q4F (psG g (L.take t) rows) e.1 (-(g e.2)):=by
 rw [q1a he,qdn]; rfl
def q9D {g:Nat->Int} {r:Nat}:∀ (L:List (Nat × Nat)) (rows:Nat->List Int),q1M (psG g L rows r)=q1M (rows r)-ctG g L r
 | [],rows=>by unfold psG ctG; rw [wU,q1w]; omega
 | e :: L,rows=>by
  rw [psG,q9D L,qc5];have:ctG g (e :: L) r=(if e.1=r then g e.2 else 0)+ctG g L r:=by unfold ctG; rw [y9,q5L]
  rw [this]
  by_cases h:r=e.1
  .rw [if_pos h,if_pos h.symm]; omega
  .rw [if_neg h,if_neg λq=>h q.symm]; omega
def qkA {g:Nat->Int}:∀ (L:List (Nat × Nat)) (rows:Nat->List Int) (m:Nat),(∀ e ∈ L,bl (g e.2).natAbs<=67600)->(∀ r,(rows r).length<=m)->(∀ r,∀ z ∈ rows r,bl z.natAbs<=67600)->(∀ r,(psG g L rows r).length<=m+L.length)/\∀ r,∀ z ∈ psG g L rows r,bl z.natAbs<=67600
 | [],rows,m,_,h1,h2=>⟨h1,h2⟩
 | e :: L,rows,m,he,h1,h2=>by
  have hz:bl (-(g e.2)).natAbs<=67600:=by rw [zX]; exact he e xF
  have b1:=qgQ (k:=e.1) h1 h2 hz;have b2:=qkA L _ (m+1) (λd hd=>he d (yU _ hd)) b1.1 b1.2;rw [psG];exact ⟨λr=>by have:=b2.1 r; rw [List.length_cons]; omega,b2.2⟩
structure RB (rows:Nat->List Int) (m:Nat):Prop where
 l:∀ r,(rows r).length<=m
 b:∀ r,∀ z ∈ rows r,bl z.natAbs<=67600
def RB.pg {rows:Nat->List Int} {m:Nat} {g:Nat->Int} {L:List (Nat × Nat)} (h:RB rows m) (hL:∀ e ∈ L,bl (g e.2).natAbs<=67600):RB (psG g L rows) (m+L.length):=by
 obtain ⟨h1,h2⟩:=qkA L rows m hL h.l h.b;exact ⟨h1,h2⟩
def RB.mono {rows:Nat->List Int} {m m':Nat} (h:RB rows m) (hm:m<=m'):RB rows m':=⟨λr=>zO (h.l r) hm,h.b⟩
section
variable {D:Nat->Nat->Nat} {E:Nat->List (Nat × Nat)} {n k:Nat} {ys:List Nat} {rows:Nat->List Int}
end
section
variable {n k v:Nat} {ys:List Nat}
end

def qr8 {e:Int} {n:Nat} {l:List Nat} (h:qdQ e n l=0):e=0/\l.length=n/\∀ x ∈ l,q0I x:=by
 unfold qdQ at h
 split at h
 .exact absurd h (by assumption)
 .split at h
  .cases h
  .split at h
   .cases h
   .rename_i h1 h2 h3;exact ⟨Decidable.not_not.1 h1,Decidable.not_not.1 h2,Classical.not_not.1 h3⟩




def qal {l:List Nat} (h:q10 l) (i:Nat):l.getD i 0 < 18446744073709551616/\q0I (l.getD i 0):=by
 rw [zB];cases hx:l[i]? with
 | none=>exact ⟨σ,by unfold q0I; simp⟩
 | some x=>exact h x (zC hx)

section
variable {F:Nat->Nat->Option Nat} {l:List Int} {cs:List Nat} {cols:List (List Nat)} {j n M:Nat} {p:LSt}
end
def qcj {raw:List Nat} {k:Int} {st n:Nat}:q10 (qq9 raw k st n):=λx hx=>by
 unfold qq9 at hx;obtain ⟨i,_,rfl⟩:=zN.1 hx;have:=q9H (k:=st) (q4G raw (k+i));exact ⟨this.2,this.1⟩


def gaS (l:List Nat) (o:List Int) (n:Nat):List Nat:=rwG n (λk=>l.getD (o.getD k 0).toNat 0) n
def scS (x:List Nat) (o:List Int) (n:Nat):Nat->List Nat
 | 0=>List.replicate n 0
 | k+1=>(scS x o n k).set (o.getD k 0).toNat (x.getD k 0)
def q69 {x:List Nat} {o:List Int} {n:Nat}:∀ k,(scS x o n k).length=n
 | 0=>List.length_replicate
 | k+1=>by rw [scS,wF,q69 k]
def qee {l:List Nat} {o:List Int} {n:Nat}:(gaS l o n).length=n:=q8x
def qef {l:List Nat} {o:List Int} {n:Nat} (hl:q10 l):q10 (gaS l o n):=λx hx=>by
 unfold gaS rwG at hx;obtain ⟨j,_,rfl⟩:=zN.1 hx
 split
 .exact qal hl _
 .exact ⟨ω,by unfold q0I; simp⟩
section
variable {l:List Nat} {o:List Int} {n:Nat}
def q8e (hl:l.length=n) (ho:o.length=n) (hn:n<=1000000) (hb:∀ x ∈ o,0<=x/\x < n):ql2 207 [pF l,pI o] h0 (.ow 5000 none 0 n) (q0P h0 5000 ⟨32,none,(scS l o n n).map λz:Nat=>uv z,false⟩):=by
 have hJ:∀ i,¬ (h0 i≠none):=λi h=>h rfl;refine qp8 qkr Tryz.func207 rfl Tryz.ntmps207 κ ?_ ?_ ?_ ?_
 .intro i b hb; cases hb
 .exact qdp
 .exact IdL.of λx hx=>by
   simp at hx
   rcases hx with rfl | rfl <;> unfold IdP <;> trivial
 have hW:WfH h0:=⟨λi b hb=>by cases hb⟩;refine wk1 ho ?_;refine q0U (λk=>k<=n) [0,1] [] Lk Lk (λk:Nat=>[(6,iv k),(5,.ow 1001 none 0 n)]) (λk=>[(1001,⟨32,none,(scS l o n k).map λz:Nat=>uv z,false⟩)]) (λ_=>h0) (λk=>n-k) 0 (zE _) ?_ ?_
 .refine LeW [(1001,some 9)] rfl rfl ?_ ?_ (by simp [q0y,q0n,win]) ?_
  .exact Ow
  .exact hW
  .rw [scS]
   try refine Zz ?_
   simp
 .intro k hk
  by_cases hlt:k < n
  .obtain ⟨x,hx⟩:∃ x,o[k]?=some x:=⟨_,zA Oq⟩;obtain ⟨h1,h2⟩:=hb x (zC hx);obtain ⟨x,rfl⟩:∃ y:Nat,x=y:=⟨x.toNat,ω⟩;obtain ⟨u,hu⟩:∃ u,l[k]?=some u:=⟨_,zA Oq⟩;have hs:scS l o n (k+1)=(scS l o n k).set x u:=by rw [scS,getD_some hx,tG,getD_some hu]
   have hsl:=q69 (x:=l) (o:=o) (n:=n) k;refine wk1 (x4 ho hx hu hsl) ?_;refine ⟨k+1,ω,ω,?_⟩;refine LeW [] rfl rfl ?_ ?_ (by simp [q0y,q0n,win]) ?_
   .exact Ow
   .exact hW
   .try refine Zz ?_
    exact ⟨ω,hs.symm⟩
  .obtain rfl:k=n:=ω
   refine wk1 ho ?_;refine (rtM (rs:=[.tmp 4]) rfl rfl Lq ?_ (.inl rfl));refine LeO hJ ?_ clU
   try simp -implicitDefEqProofs (disch:=omega) only [go_sem,Nat.reduceEqDiff,Nat.reduceAdd,↓reduceIte]
end
section
variable {n k z:Nat} {rows:Nat->List Int} {l:List PV}
def q9Z {z:Int}:q87 (qjs rows) k ((rows k ++ [z]).map λV=>pV V)=qjs (q4F rows k z):=by
 funext j
 unfold q87 qjs q4F
 by_cases h:j=k
 .subst h; rw [if_pos rfl,if_pos rfl]
 .rw [if_neg h,if_neg h]
end
section
variable {f:Nat->Nat->Option Nat} {x:List (Nat × Nat)} {b:List Nat} {R C J:Nat} {rows:Nat->List Int}
def qfU {g:Nat->Int} (h0:g 0=0) {r:Nat}:∀ i,ctG g (tZ f J i) r=if r < i then g ((f J r).getD 0) else 0
 | 0=>by unfold ctG tZ; simp [q1w]
 | i+1=>by
  have ih:=qfU h0 (r:=r) i;unfold ctG at *;rw [qpw,zK];cases h:f J i with
  | none =>
   rw [wU,xN,ih]
   by_cases hr:r < i
   .rw [if_pos hr,if_pos ω]
   .rw [if_neg hr]
    by_cases h2:r=i
    .subst h2; rw [if_pos ω,h]; exact h0.symm
    .rw [if_neg ω]
  | some v =>
   rw [yI,q0c,ih];dsimp only
   by_cases h2:r=i
   .subst h2; rw [if_neg ω,if_pos rfl,if_pos ω,h]; simp
   .rw [if_neg (show ¬ i=r from λq=>h2 q.symm)]
    by_cases hr:r < i
    .rw [if_pos hr,if_pos ω]; omega
    .rw [if_neg hr,if_neg ω]; rfl
end
section
variable {f:Nat->Nat->Option Nat} {x:List (Nat × Nat)} {b:List Nat} {R C r:Nat}
end
end Go.Proofs.YtbjoghfmhgadkaaGreatDoor
namespace Go.E
open Go Go.RowKit
def LeE {J:Nat->Prop} {h:Hp} {a n:Nat} {T:TypeId} {xs:List PV} {e:Value} (hJ:∀ i,¬ J i) (hb:h a=some ⟨T,none,xs,false⟩) (hc:ClL xs):Le J (λ_=>.tu [.ow a none 0 n,.vl e]) h (λ_=>.tu [.ow 5000 none 0 n,.vl e]) (q0P h0 5000 ⟨T,none,xs,false⟩):=by
 refine q4W (λi=>if i=5000 then some a else none) (λi b' hb'=>?_) (λi j k b c hi hj ti tj=>?_) (λ_=>.tu rfl λi x y hx hy=>?_) λi hi=>(hJ i hi).elim
 .by_cases hi:i=5000
  .subst hi;rw [q0H] at hb'; cases hb';unfold LeB;exact ⟨_,hb,rfl,rfl,⟨rfl,rfl⟩,q0R rfl hc⟩
  .rw [q0A hi] at hb'; cases hb'
 .split at ti
  .split at tj
   .rename_i e1 e2; rw [e1,e2]
   .cases tj
  .cases ti
 .rcases i with _ | _ | i
  .cases hx; cases hy; exact .ow (if_pos rfl) q0H
  .cases hx; cases hy; exact .cl trivial
  .simp at hx
def LeEn {J:Nat->Prop} {h:Hp} {T:TypeId} {e:Value} (hJ:∀ i,¬ J i):Le J (λ_=>.tu [.vl (.slice none 0 0),.vl e]) h (λ_=>.tu [.ow 5000 none 0 0,.vl e]) (q0P h0 5000 ⟨T,none,[],false⟩):=by
 refine q4W (λ_=>none) (λi b' hb'=>?_) (λi j k b c hi hj ti tj=>by cases ti) (λ_=>.tu rfl λi x y hx hy=>?_) λi hi=>(hJ i hi).elim
 .by_cases hi:i=5000
  .subst hi;rw [q0H] at hb'; cases hb'
   rfl
  .rw [q0A hi] at hb'; cases hb'
 .rcases i with _ | _ | i
  .cases hx; cases hy; exact .nilow rfl q0H rfl
  .cases hx; cases hy; exact .cl trivial
  .simp at hx
end Go.E
namespace Go.Proofs.YtbjoghfmhgadkaaGreatDoor
open Go Go.E Go.Sp
def cLo (f:LUt) (i c:Nat):Nat:=ctV (q55 f.ls f.li f.lv c) i
def cUp (f:LUt) (i c:Nat):Nat:=ctV (q55 f.us f.ui f.uv c) i
open Classical in
noncomputable def lgE (f:LUt) (l:List Nat):List Nat × Int :=
 if qdQ (q5o f) f.rows.length l≠0 then ([],qdQ (q5o f) f.rows.length l) else
  match geL (cLo f) f.rows.length 0 (gaS l f.rows f.rows.length) with
  | none=>([],233)
  | some y=>match geU (cUp f) f.rows.length f.rows.length y with
   | none=>([],233)
   | some z=>(scS z f.cols f.rows.length f.rows.length,0)
def q88 (n:Nat) (g:Nat->Nat->Nat) (k:Nat):List Nat:=(List.range n).map (g k)
def qsL {n:Nat} {g:Nat->Nat->Nat} {k:Nat}:rU n g k=(q88 n g k).map λz:Nat=>uv z:=by
 unfold rU q88;rw [tL]
 rfl
def q4r {n:Nat} {g:Nat->Nat->Nat} {k c:Nat} (hc:c < n):(q88 n g k)[c]?=some (g k c):=by
 unfold q88;rw [z8,zF hc]; rfl
def q6a {n:Nat} {g:Nat->Nat->Nat} {k:Nat}:(q88 n g k).length=n:=by unfold q88; simp
def rst_L {g:Nat->Nat->Nat} {D:Nat->Nat->Nat} {n k:Nat} {ys:List Nat} (hk:k < n) (hy:ys.length=n) (h:∀ c,c < k->g k c=D k c):q1M (q7m (ofZ (ys.getD k 0)) ((q88 n g k).take k) (ys.take k) k)=loZ D ys k:=by
 rw [qd3];unfold loZ
 congr 1
 refine q0z k λi hi=>?_;have h1:((q88 n g k).take k)[i]?=some (g k i):=by rw [xE,if_pos hi]; exact q4r ω
 obtain ⟨y,hy2⟩:∃ y,ys[i]?=some y:=⟨_,zA Oq⟩;have h2:(ys.take k)[i]?=some y:=by rw [xE,if_pos hi]; exact hy2
 rw [getD_some h1,getD_some h2,getD_some hy2,h i hi]
def rst_U {g:Nat->Nat->Nat} {D:Nat->Nat->Nat} {n k:Nat} {ys:List Nat} (hk:k < n) (hy:ys.length=n) (h:∀ c,c < n->g k c=D k c):q1M (q7m (ofZ (ys.getD k 0)) ((q88 n g k).drop (k+1)) (ys.drop (k+1)) (n-(k+1)))=upZ D ys n k:=by
 rw [qd3];unfold upZ
 congr 1
 refine q0z (n-(k+1)) λi hi=>?_;have h1:((q88 n g k).drop (k+1))[i]?=some (g k (k+1+i)):=by rw [xQ]; exact q4r ω
 obtain ⟨y,hy2⟩:∃ y,ys[k+1+i]?=some y:=⟨_,zA Oq⟩;have h2:(ys.drop (k+1))[i]?=some y:=by rw [xQ]; exact hy2
 rw [getD_some h1,getD_some h2,getD_some hy2,h _ ω]
def qc7 {l:List Nat} {o:List Int} {n:Nat} (hl:l.length=n) (ho:o.length=n) (hn:n<=1000000) (hb:∀ x ∈ o,0<=x/\x < n):ql2 205 [pF l,pI o] h0 (.ow 5000 none 0 n) (q0P h0 5000 ⟨32,none,(gaS l o n).map λz:Nat=>uv z,false⟩):=by
 have hJ:∀ i,¬ (h0 i≠none):=λi h=>h rfl;unfold gaS;have hgl:∀ m,(rwG n (λk=>l.getD (o.getD k 0).toNat 0) m).length=n:=λ_=>q8x;generalize hg:(λk=>l.getD (o.getD k 0).toNat 0)=g at *;refine qp8 qks Tryz.func205 rfl Tryz.ntmps205 κ ?_ ?_ ?_ ?_
 .intro i b hb; cases hb
 .exact qdp
 .exact IdL.of λx hx=>by
   simp at hx
   rcases hx with rfl | rfl <;> unfold IdP <;> trivial
 have hW:WfH h0:=⟨λi b hb=>by cases hb⟩;refine wk1 ho ?_;refine q0U (λk=>k<=n) [0,1] [] Lk Lk (λk:Nat=>[(6,iv k),(5,.ow 1001 none 0 n)]) (λk=>[(1001,⟨32,none,(rwG n g k).map λz:Nat=>uv z,false⟩)]) (λ_=>h0) (λk=>n-k) 0 (zE _) ?_ ?_
 .rw [<- qrs];refine LeW [(1001,some 9)] rfl rfl ?_ ?_ (by simp [q0y,q0n,win]) ?_
  .exact Ow
  .exact hW
  .try refine Zz ?_
   simp
 .intro k hk
  by_cases hlt:k < n
  .obtain ⟨x,hx⟩:∃ x,o[k]?=some x:=⟨_,zA Oq⟩;obtain ⟨h1,h2⟩:=hb x (zC hx);obtain ⟨x,rfl⟩:∃ y:Nat,x=y:=⟨x.toNat,ω⟩;obtain ⟨u,hu⟩:∃ u,l[x]?=some u:=⟨_,zA Oq⟩;have hs:=qrq (n:=n) (g:=g) (m:=k);have hgk:g k=u:=by rw [<- hg]; simp only [getD_some hx,tG,getD_some hu]
   rw [hgk] at hs;refine wk1 (x4 ho hx hu (hgl k)) ?_;refine ⟨k+1,ω,ω,?_⟩;refine LeW [] rfl rfl ?_ ?_ (by simp [q0y,q0n,win]) ?_
   .exact Ow
   .exact hW
   .try refine Zz ?_
    rw [<- hs];exact ⟨ω,rfl⟩
  .obtain rfl:k=n:=ω
   have hgk:=hgl k;refine wk1 ho ?_;refine (rtM (rs:=[.tmp 4]) rfl rfl Lq ?_ (.inl rfl));refine LeO hJ ?_ clU
   try simp -implicitDefEqProofs (disch:=omega) only [go_sem,Nat.reduceEqDiff,Nat.reduceAdd,↓reduceIte]
def qsz {f:LUt} {l:List Nat}:IdL win [pLU f,pF l]:=IdL.of λx hx=>by
 simp at hx
 rcases hx with rfl | rfl
 .unfold pLU IdP;unfold IdL IdL IdL IdL IdL IdL IdL IdL IdL;unfold IdP;exact ⟨trivial,trivial,trivial,trivial,trivial,trivial,trivial,trivial,trivial⟩
 .unfold IdP; trivial
def ql7 {f:LUt} {l:List Nat} (hb:LUb f) (hn:f.rows.length<=100) (hul:∀ x ∈ l,x < 18446744073709551616) (hl:l.length<=1000000) :
  ql2 124 [pLU f,pF l] h0 (.tu [.ow 5000 none 0 (lgE f l).1.length,iv (lgE f l).2]) (q0P h0 5000 ⟨32,none,(lgE f l).1.map λz:Nat=>uv z,false⟩):=by
 have hJ:∀ i,¬ (h0 i≠none):=λi h=>h rfl;have cK:=qc8 hb;have cS:=qgR (e:=q5o f) (n:=f.rows.length) hul hl;refine qp8 qkv Tryz.func124 rfl Tryz.ntmps124 κ ?_ ?_ ?_ ?_
 .intro i b hb; cases hb
 .exact qdp
 .exact qsz
 unfold lgE
 by_cases hz0:qdQ (q5o f) f.rows.length l=0
 case neg =>
  rw [if_pos hz0];generalize qdQ (q5o f) f.rows.length l=e at *;generalize q5o f=e2 at *;have q:(e != 0)=true:=by simpa using hz0
  unfold pLU at *;dsimp only at *;refine wk1 q ?_;refine (rtM (rs:=[.tmp 4,.tmp 5]) rfl rfl Lq ?_ (.inl rfl));exact LeEn hJ
 rw [if_neg (not_not_intro hz0)];rw [hz0] at cS;obtain ⟨h1,h2,h3⟩:=qr8 hz0;rw [h1] at cK cS;have hf:=qgE hb h1;have hfl:q10 l:=λx hx=>⟨hul x hx,h3 x hx⟩;have hrb:∀ x ∈ f.rows,0<=x/\x < f.rows.length:=λx hx=>hf.rp.2.1 x hx;have hcb:∀ x ∈ f.cols,0<=x/\x < f.rows.length:=λx hx=>hf.cp.2.1 x hx;have hcl:f.cols.length=f.rows.length:=by have:=hf.cp.1; omega
 have cG:=qc7 (l:=l) (o:=f.rows) (n:=f.rows.length) h2 rfl Oq hrb;have hgl:=qee (l:=l) (o:=f.rows) (n:=f.rows.length);have hgf:=qef (o:=f.rows) (n:=f.rows.length) hfl;generalize gaS l f.rows f.rows.length=g at *;have cD:=qi9 (f:=f) rfl hn hf.L hf.U;have vL:∀ {i j:Nat},i < f.rows.length->j < i->dnT (dnD f.rows.length) (q55 f.ls f.li f.lv) f.rows.length i j=cLo f i j:=λhi hj=>dnL_v hf.L.nd Oq hj;have vU:∀ {i j:Nat},j < f.rows.length->dnT (λ_ _=>0) (q55 f.us f.ui f.uv) f.rows.length i j=cUp f i j:=λhj=>dnU_v hf.U.nd hj;have fL:∀ {i j:Nat},j < f.rows.length->cLo f i j < 18446744073709551616/\q0I (cLo f i j):=λhj=>qfT hf.L hj;have fU:∀ {i j:Nat},j < f.rows.length->cUp f i j < 18446744073709551616/\q0I (cUp f i j):=λhj=>qfT hf.U hj;have dU:∀ k,k < f.rows.length->ofZ (cUp f k k)≠0:=λk hk=>by
  obtain ⟨m,x,m1,m2,m3⟩:=hf.dg k hk;have:=q98 (t:=m.length) (e:=(k,x)) (hf.U.nd k hk) (by rw [m1]; simp);unfold cUp;rw [this];exact m2
 obtain ⟨gl,hgl2⟩:∃ q,q=dnT (dnD f.rows.length) (q55 f.ls f.li f.lv) f.rows.length:=⟨_,rfl⟩;obtain ⟨gu,hgu2⟩:∃ q,q=dnT (λ_ _=>0) (q55 f.us f.ui f.uv) f.rows.length:=⟨_,rfl⟩;rw [<- hgl2,<- hgu2] at cD;simp only [<- hgl2] at vL;simp only [<- hgu2] at vU;clear hgl2 hgu2 hf;generalize cLo f=DL at *;generalize cUp f=DU at *;generalize hnn:f.rows.length=n at *;unfold pLU at *;obtain ⟨F,hF⟩:∃ F:List Nat->List Nat × Int,F=λy=>(match geU DU n n y with
   | none=>([],233)
   | some z=>(scS z f.cols n n,(0:Int))):=⟨_,rfl⟩
 obtain ⟨res,hres⟩:∃ q,q=(match geL DL n 0 g with
  | none=>([],233)
  | some y=>F y):=⟨_,rfl⟩
 have hres':=hres;rw [hF] at hres';rw [<- hres'];clear hres';refine wk1 hnn ?_;refine qqX λK hK=>?_;refine Zz1 hnn ?_;refine jm cG ?_ (λi hi=>(hi trivial).elim) ?_
 .change Wn _ _;exact Ow
 try refine Zz ?_
 refine hK _ _ ?_; clear hK K;clear cG;have hW:WfH h0:=⟨λi b hb=>by cases hb⟩;refine wk ?_;refine q1g (LeT (hw:=h0) (λi=>if i=1001 then some 5000 else if i=5000 then none else some i) (λi hi=>(hJ i hi).elim) (λi hi hw=>?_) (λi b hw hb=>?_) (λi j x hi hj ti tj=>?_) (xs:=[(2,.pt 2 0 0),(6,iv n),(8,tU n gl),(9,tU n gu),(10,.ow 1001 none 0 n),(11,iv 0)]) (kv:=[]) (bs:=[(2,⟨63,some 8,[.ag [pI f.rows,pI f.cols,pI f.ls,pI f.li,pF f.lv,pI f.us,pI f.ui,pF f.uv]],false⟩),(1001,⟨32,none,g.map λz:Nat=>uv z,false⟩)]) (kb:=[]) ?_) ?_
 .simp at hi;unfold win at hw;omega
 .cases hb
 .have a1:∀ i,(win i/\(h0:Hp) i≠none\/i ∈ List.map (·.1) [(2,(⟨63,some 8,[.ag [pI f.rows,pI f.cols,pI f.ls,pI f.li,pF f.lv,pI f.us,pI f.ui,pF f.uv]],false⟩:Bk)),(1001,⟨32,none,g.map λz:Nat=>uv z,false⟩)] ++ [])->i=2\/i=1001:=λi hi=>by
   rcases hi with ⟨_,hi⟩ | hi
   .exact absurd rfl hi
   .simpa using hi
  rcases a1 i hi with rfl | rfl <;> rcases a1 j hj with rfl | rfl <;> simp at ti tj <;> omega
 .try simp -implicitDefEqProofs (disch:=omega) only [go_sem,Nat.reduceEqDiff,Nat.reduceAdd,↓reduceIte]
 refine q0U (λq:Nat × List Nat=>q.1<=n/\q.2.length=n/\q10 q.2/\(match geL DL (n-q.1) q.1 q.2 with | none=>([],233) | some y=>F y)=res) [2,6,8,9] [2] Lk Lk (λq=>[(11,iv q.1),(10,.ow 1001 none 0 n)]) (λq=>[(1001,⟨32,none,q.2.map λz:Nat=>uv z,false⟩)]) (λ_=>h0) (λq=>n-q.1) (0,g) ⟨zE _,hgl,hgf,hres.symm⟩ ?_ ?_
 .refine LeW [] rfl rfl ?_ ?_ (by simp [q0y,q0n,win]) ?_
  .exact Ow
  .exact hW
  .try refine Zz ?_
   rfl
 .rintro ⟨k,ys⟩ ⟨hk,hy,hfy,hv⟩;simp only at hk hy hfy hv ⊢
  by_cases hlt:k < n
  .have hlt':(k:Int) < n:=ω
   obtain ⟨u,hu⟩:∃ u,ys[k]?=some u:=⟨_,zA Oq⟩;obtain ⟨u1,u2⟩:=hfy u (zC hu);have rk:(List.range n)[k]?=some k:=zF hlt;have hrf:q10 ((q88 n gl k).take k):=λx hx=>by
    obtain ⟨c,hc⟩:=yM.1 hx;have hck:c < k:=by have:=(zQ.1 hc).1; rw [z7] at this; omega
    rw [xE,if_pos hck,q4r ω] at hc;cases hc;rw [vL hlt hck];exact fL Oq
   have hrl:((q88 n gl k).take k).length=k:=by rw [z7,q6a]; omega
   have hS:=rst_L (g:=gl) (D:=DL) (n:=n) (k:=k) (ys:=ys) hlt hy λc hc=>vL hlt hc;rw [getD_some hu] at hS;rw [show n-k=(n-(k+1))+1 by omega,geL] at hv;have cR:=q9t (B:=ofZ u) (l:=(q88 n gl k).take k) (x:=ys.take k) (q42 u2) hrf (qew hfy) (by rw [hrl,z7]; omega) ω;rw [hrl,hS] at cR;generalize loZ DL ys k=S at *;unfold pF at cR;rw [List.map_take,List.map_take,<- qsL] at cR;have cZ:=q3D (V:=S);have cO1:=q28 u1 (q0i u2);have cQ:=@q9A S;have hqlt:fR 0 S < 18446744073709551616:=q51;generalize fR 0 S=v at *;have cF:=q2F hqlt;have es1:slP (some 1) none (some (iv (k:Int))) (.sl none (rU n gl k))=some (.sl none ((rU n gl k).take k)):=by
    simp [slP,qbP,ksz];omega
   have es2:slP (some 1) none (some (iv (k:Int))) (.ow 1001 none 0 n)=some (.ow 1001 none 0 k):=by
    simp [slP,qbP,ksz];omega
   have hset:((ys.map λz:Nat=>uv z).set k (uv (v:Nat)))[k]?=some (uv (v:Nat)):=x9 (by rw [zL]; omega)
   by_cases hfx:q0I v
   .rw [decide_eq_true hfx] at cF;rw [if_pos hfx] at hv;refine wk1 (x6 hlt' hu rk es1 es2 (x2 hy hset)) ?_;refine ⟨(k+1,ys.set k v),⟨by simp only; omega,by simp only; rw [wF]; exact hy,q4w hfy hqlt hfx,hv⟩,by simp only; omega,?_⟩;simp only;refine LeW [] rfl rfl ?_ ?_ (by simp [q0y,q0n,win]) ?_
    .exact Ow
    .exact hW
    .try refine Zz ?_
     rfl
   .rw [decide_eq_false hfx] at cF;rw [if_neg hfx] at hv;subst hv;refine wk1 (x6 hlt' hu rk es1 es2 (x2 hy hset)) ?_;refine (rtM (rs:=[.tmp 4,.tmp 5]) rfl rfl Lq ?_ (.inl rfl));exact LeEn hJ
  .obtain rfl:n=k:=ω
   have hlt':¬ (n:Int) < n:=ω
   rw [tS,geL] at hv;simp only [hF] at hv;clear hF hres;refine wk1 hlt' ?_;refine q0U (λq:Nat × List Nat=>q.1<=n/\q.2.length=n/\q10 q.2/\(match geU DU n q.1 q.2 with | none=>([],233) | some z=>(scS z f.cols n n,(0:Int)))=res) [2,6,8,9] [2] Lk Lk (λq=>[(12,iv ((q.1:Int)-1)),(10,.ow 1001 none 0 n)]) (λq=>[(1001,⟨32,none,q.2.map λz:Nat=>uv z,false⟩)]) (λ_=>h0) (λq=>q.1) (n,ys) ⟨zH _,hy,hfy,hv⟩ ?_ ?_
   .refine LeW [] rfl rfl ?_ ?_ (by simp [q0y,q0n,win]) ?_
    .exact Ow
    .exact hW
    .try simp -implicitDefEqProofs (disch:=omega) only [go_sem,Nat.reduceEqDiff,Nat.reduceAdd,↓reduceIte]
   .clear hv hy hfy;rintro ⟨k,ys⟩ ⟨hk,hy,hfy,hv⟩;simp only at hk hy hfy hv ⊢
    by_cases hlt:k=0
    .subst hlt;rw [geU] at hv;simp only at hv;subst hv;have cS2:=q8e (l:=ys) (o:=f.cols) hy hcl Oq hcb;have hsl:=q69 (x:=ys) (o:=f.cols) (n:=n) n;dsimp only;rw [hsl];generalize scS ys f.cols n n=x at *;refine wk ?_;refine q1g (LeT (hw:=h0) (λi=>if i=1001 then none else some i) (λi hi=>(hJ i hi).elim) (λi hi hw=>?_) (λi b hw hb=>?_) (λi j x hi hj ti tj=>?_) (xs:=[(2,.pt 2 0 0),(10,pF ys)]) (kv:=[]) (bs:=[(2,⟨63,some 8,[.ag [pI f.rows,pI f.cols,pI f.ls,pI f.li,pF f.lv,pI f.us,pI f.ui,pF f.uv]],false⟩)]) (kb:=[]) ?_) ?_
     .simp at hi;unfold win at hw;omega
     .cases hb
     .split at ti <;> split at tj <;> cases ti <;> cases tj <;> rfl
     .try refine Zz ?_
      try exact q5f rfl clU (λi hi=>by split at hi <;> cases hi; omega) (by rw [wJ]; exact zU (by rw [zL]; omega))
     refine qqX λK hK=>?_;refine Zz ?_;refine jm cS2 ?_ (λi hi=>(hi trivial).elim) ?_
     .change Wn _ _;exact Ow
     try refine Zz ?_
     refine hK _ _ ?_; clear hK K;refine wk ?_;refine (rtM (rs:=[.tmp 4,.tmp 5]) rfl rfl Lq ?_ (.inl rfl));refine LeE hJ ?_ clU
     try simp -implicitDefEqProofs (disch:=omega) only [go_sem,Nat.reduceEqDiff,Nat.reduceAdd,↓reduceIte]
    .obtain ⟨k,rfl⟩:∃ k',k=k'+1:=⟨k-1,ω⟩;have hkn:k < n:=ω
     obtain ⟨u,hu⟩:∃ u,ys[k]?=some u:=⟨_,zA Oq⟩;obtain ⟨u1,u2⟩:=hfy u (zC hu);have rk:(List.range n)[k]?=some k:=zF hkn;have hrf:q10 (q88 n gu k):=λx hx=>by
      obtain ⟨c,hc⟩:=yM.1 hx;have hck:c < n:=by have:=(zQ.1 hc).1; rwa [q6a] at this
      rw [q4r hck] at hc;cases hc;rw [vU hck];exact fU hck
     have hrl:((q88 n gu k).drop (k+1)).length=n-(k+1):=by rw [yZ,q6a]
     have hS:=rst_U (g:=gu) (D:=DU) (n:=n) (k:=k) (ys:=ys) hkn hy λc hc=>vU hc;rw [getD_some hu] at hS;rw [geU] at hv;have cR:=q9t (B:=ofZ u) (l:=(q88 n gu k).drop (k+1)) (x:=ys.drop (k+1)) (q42 u2) (q8J hrf) (q8J hfy) (by rw [hrl,yZ]; omega) ω;rw [hrl,hS] at cR;have hdz:=dU k hkn;have hkk:=vU (i:=k) (j:=k) hkn;obtain ⟨d1,d2⟩:=fU (i:=k) (j:=k) hkn;rw [<- hkk] at hdz d1 d2 hv;generalize upZ DU ys n k=S at *;unfold pF at cR;rw [List.map_drop,List.map_drop,<- qsL] at cR;have cZ:=q3D (V:=S);have cO1:=q28 u1 (q0i u2);have cO2:=q28 d1 (q0i d2);have cQ:=qc6 (qde (A:=S) (mode:=0) hdz);have hqlt:fQ 0 S (ofZ (gu k k)) < 18446744073709551616:=qoF hdz;generalize fQ 0 S (ofZ (gu k k))=v at *;have cF:=q2F hqlt;have ek:((k+1:Nat):Int)-1=(k:Int):=ω
     have wj:(k:Int)+1=((k+1:Nat):Int):=rfl;have ww:IntKind.i64.wrap ((k+1:Nat):Int)=((k+1:Nat):Int):=i64_in Oq Oq;have es1:slP (some 1) (some (iv ((k+1:Nat):Int))) none (.sl none (rU n gu k))=some (.sl none ((rU n gu k).drop (k+1))):=by
      simp [slP,qbP,ksz];rw [if_pos ω,xJ,if_pos ω,zU (by simp [rU])]
     have es2:slP (some 1) (some (iv ((k+1:Nat):Int))) none (.ow 1001 none 0 n)=some (.ow 1001 none (k+1) (n-(k+1))):=by
      simp [slP,qbP,ksz];rw [if_pos ω,xJ,if_pos ω]
     have htk:((ys.map λz:Nat=>uv z).drop (k+1)).take (n-(k+1))=(ys.map λz:Nat=>uv z).drop (k+1):=zU (by rw [yZ,zL]; omega);have hset:((ys.map λz:Nat=>uv z).set k (uv (v:Nat)))[k]?=some (uv (v:Nat)):=x9 (by rw [zL]; omega)
     by_cases hfx:q0I v
     .rw [decide_eq_true hfx] at cF;rw [if_pos hfx] at hv;refine wk1 (x6 ek wj ww htk hu (x4 rk es1 es2 hset)) ?_;refine ⟨(k,ys.set k v),⟨by simp only; omega,by simp only; rw [wF]; exact hy,q4w hfy hqlt hfx,hv⟩,by simp only; omega,?_⟩;simp only;refine LeW [] rfl rfl ?_ ?_ (by simp [q0y,q0n,win]) ?_
      .exact Ow
      .exact hW
      .try simp -implicitDefEqProofs (disch:=omega) only [go_sem,Nat.reduceEqDiff,Nat.reduceAdd,↓reduceIte]
     .rw [decide_eq_false hfx] at cF;rw [if_neg hfx] at hv;subst hv;refine wk1 (x6 ek wj ww htk hu (x4 rk es1 es2 hset)) ?_;refine (rtM (rs:=[.tmp 4,.tmp 5]) rfl rfl Lq ?_ (.inl rfl));exact LeEn hJ

def rgL (G:Nat->Nat->Option Nat) (i:Nat):Nat->List Int
 | 0=>[q04]
 | k+1=>if k=i then rgL G i k else rgL G i k ++ [((ofZ ((G k i).getD 0)).natAbs:Int),((ofZ ((G i k).getD 0)).natAbs:Int)]
def rgF (G:Nat->Nat->Option Nat) (n j i:Nat):Option Nat:=if i=j then some (fR 2 (q1M (rgL G i n))) else G j i
def qd7 {G:Nat->Nat->Option Nat} {n i:Nat} (h:TOk G n n) (hi:i < n):∀ k,k<=n->(rgL G i k).length<=2*k+1/\∀ x ∈ rgL G i k,bl x.natAbs<=67600
 | 0,_=>⟨zH _,λx hx=>by unfold rgL at hx; simp at hx; subst hx; exact q5R.2⟩
 | k+1,hk=>by
  obtain ⟨h1,h2⟩:=qd7 h hi k Oq;unfold rgL
  split
  .exact ⟨ω,h2⟩
  .refine ⟨by simp; omega,λx hx=>?_⟩
   rcases yC.1 hx with hx | hx
   .exact h2 x hx
   .simp at hx
    rcases hx with rfl | rfl <;> rw [z6]
    .exact q42 (h.fin Oq Oq).1
    .exact q42 (h.fin Oq Oq).1
def qbf {raw:List Nat} {st:Int} {n:Nat} (hr:raw.length<=9223372036854775807) (hn:n<=100) (h3 : -9223372036854775808<=st) (h4:st<=9223372036854775807) :
  ACt 40 [pF raw,iv n,iv st] (pT n n (rgF (gF raw n (q06 (q06 st 3:Nat) 4)) n)):=by
 have hs3:q06 st 3 < 3:=by unfold q06; omega
 have hnn:n*n<=100*100:=zR hn hn;have cM:=q5U (a:=st) (n:=3) h3 h4 Oq Oq;have cG:=q50 (raw:=raw) (st:=(q06 st 3:Nat)) (R:=n) (C:=n) hr Oq Oq Oq Oq;have hG:=qna (raw:=raw) (R:=n) (C:=n) (st:=q06 (q06 st 3:Nat) 4) Oq Oq Oq;generalize gF raw n (q06 (q06 st 3:Nat) 4)=G at *;have cA:∀ {i j:Nat},i < n->j < n->_:=λ{i j} hi hj=>qj2 (i:=i) (j:=j) hG hi hj;have cS:∀ {i j:Nat},i < n->j < n->_:=λ{i j} hi hj=>qb9 (i:=i) (j:=j) hG hi hj;generalize hFn:rgF G n=F;have hpt:pT n n F=pM n n (tM F n n):=rfl;have hpG:pT n n G=q2w n n (tM G n n).1 (tM G n n).2.1 (tM G n n).2.2:=rfl;rw [hpG] at cG;simp only [hpG] at cA cS;rw [hpt];clear hpG hpt;unfold q2w at cG cA cS;generalize (tM G n n).1=gs at *;generalize (tM G n n).2.1=gi at *;generalize (tM G n n).2.2=gv at *;have c1:=q37 (z:=1) Oq Oq q5R.1;refine ac0 Tryz.func40 Tryz.ntmps40 [.cell 6 26] ?_;refine wk ?_;refine q0B (λj=>j<=n) [1,6,7,8] [6,7] Lk Lk (λj:Nat=>[(9,iv j)]) (λj=>[(8,⟨26,some 5,[.ag [iv n,iv n,.ow 1001 none 0 (tM F n j).1.length,.ow 1002 none 0 (tM F n j).2.1.length,.ow 1003 none 0 (tM F n j).2.2.length]],false⟩),(1001,⟨3,none,(tM F n j).1.map λz=>iv z,false⟩),(1002,⟨3,none,(tM F n j).2.1.map λz=>iv z,false⟩),(1003,⟨32,none,(tM F n j).2.2.map λz:Nat=>uv z,false⟩)]) (λj=>n-j) 0 (zE _) ?_ ?_
 .refine LeM [(1001,some 21),(1002,none),(1003,none)] rfl rfl ?_;refine Zz ?_;exact ⟨rfl,⟨rfl,rfl,rfl⟩,rfl,rfl,rfl⟩
 .intro j hj;have hg:=q0w (f:=F) (R:=n) j;have hjn:j*n<=100*100:=zR Oq hn;refine wk ?_
  by_cases hlt:j < n
  .have hlt':(j:Int) < n:=ω
   refine wk1 hlt' ?_;have hM1:(tM F n (j+1)).1=(tM F n j).1 ++ [((tC F j (tM F n j).2 n).1.length:Int)]:=rfl;have hM2:(tM F n (j+1)).2=tC F j (tM F n j).2 n:=rfl;generalize (tM F n j).1=ms at *;generalize (tM F n j).2=mp at *;refine q0B (λi=>i<=n) [1,6,7,8,9] [6,7,1001] Lk Lk (λi:Nat=>[(10,iv i)]) (λi=>[(8,⟨26,some 5,[.ag [iv n,iv n,.ow 1001 none 0 ms.length,.ow 1002 none 0 (tC F j mp i).1.length,.ow 1003 none 0 (tC F j mp i).2.length]],false⟩),(1002,⟨3,none,(tC F j mp i).1.map λz=>iv z,false⟩),(1003,⟨32,none,(tC F j mp i).2.map λz:Nat=>uv z,false⟩)]) (λi=>n-i) 0 (zE _) ?_ ?_
   .refine LeM [] rfl rfl ?_;refine Zz ?_;exact ⟨rfl,⟨rfl,rfl⟩,rfl,rfl⟩
   .intro i hi;have hq:=q7b (f:=F) (j:=j) hg.2.1 i;refine wk ?_
    by_cases hlt2:i < n
    .have hlt2':(i:Int) < n:=ω
     refine wk1 hlt2' ?_
     by_cases hij:i=j
     .have e1:((i:Int) == (j:Int))=true:=by simp; omega
      have hF:F j i=some (fR 2 (q1M (rgL G i n))):=by rw [<- hFn]; unfold rgF; rw [if_pos hij]
      obtain ⟨z,hz⟩:∃ z,z=fR 2 (q1M (rgL G i n)):=⟨_,rfl⟩;rw [<- hz] at hF;have eg:=q8q (p:=mp) hF;refine wk1 e1 ?_;refine q0B (λk=>k<=n) [1,6,7,8,9,10] [6,7,8,1001,1002,1003] Lk Lk (λk:Nat=>[(12,iv k),(11,.ow 1004 (some 4) 0 (rgL G i k).length)]) (λk=>[(1004,⟨46,some 4,(rgL G i k).map λV=>pV V,false⟩)]) (λk=>n-k) 0 (zE _) ?_ ?_
      .refine LeM [(1004,some 37)] rfl rfl ?_;refine Zz ?_;exact ⟨⟨rfl,rfl⟩,q0R rfl clV⟩
      .intro k hk;obtain ⟨d1,d2⟩:=qd7 hG hlt2 k hk;refine wk ?_
       by_cases hlk:k < n
       .have hlk':(k:Int) < n:=ω
        refine wk1 hlk' ?_
        by_cases hki:k=i
        .have e2:((k:Int) != (i:Int))=false:=by simp; omega
         have es:rgL G i (k+1)=rgL G i k:=by rw [rgL,if_pos hki]
         refine wk1 e2 ?_;refine ⟨k+1,ω,ω,?_⟩;rw [es];refine LeM [] rfl rfl ?_;refine Zz ?_;exact ⟨ω,q0R rfl clV⟩
        .have e2:((k:Int) != (i:Int))=true:=by simp; omega
         obtain ⟨u,hu⟩:∃ u,u=(G k i).getD 0:=⟨_,rfl⟩;obtain ⟨v,hv⟩:∃ u,u=(G i k).getD 0:=⟨_,rfl⟩;obtain ⟨f1,f2⟩:=hG.fin (j:=k) (i:=i) hlk hlt2;obtain ⟨g1,g2⟩:=hG.fin (j:=i) (i:=k) hlt2 hlk;have cE:=cA hlt2 hlk;have cE2:=cA hlk hlt2;rw [<- hu] at f1 f2 cE;rw [<- hv] at g1 g2 cE2;have cO:=q28 f2 (q0i f1);have cO2:=q28 g2 (q0i g1);have es:rgL G i (k+1)=rgL G i k ++ [((ofZ u).natAbs:Int),((ofZ v).natAbs:Int)]:=by rw [rgL,if_neg hki,hu,hv]
         have C1:=@q96;refine wk1 e2 ?_;refine ⟨k+1,ω,ω,?_⟩;rw [es];refine LeM [(1004,some 60)] rfl rfl ?_;refine Zz ?_;exact ⟨ω,q0R σ clV⟩
       .have hlk':¬ (k:Int) < n:=ω
        obtain rfl:k=n:=ω
        have hsd:=qaG d2 Oq;have C2:=q95 (l:=rgL G i k) Oq hsd;have C3:=q3D (V:=q1M (rgL G i k));have C4:=q35 (V:=q1M (rgL G i k)) (mode:=2);rw [<- hz] at C4;refine wk1 hlk' ?_;refine ⟨i+1,ω,ω,?_⟩;rw [eg];refine LeM [(1002,some 65),(1003,some 73)] rfl rfl ?_;refine Zz ?_;omega
     .have e1:((i:Int) == (j:Int))=false:=by simp; omega
      have hF:F j i=G j i:=by rw [<- hFn]; unfold rgF; rw [if_neg hij]
      have C5:=(cS hlt2 hlt);refine wk1 e1 ?_;have cE:=cA hlt2 hlt;cases hx:G j i with
      | none =>
       rw [hx] at hF;have eg:=q7a (p:=mp) hF;have ei:(none:Option Nat).isSome=false:=rfl;refine wk1 ei ?_;refine ⟨i+1,ω,ω,?_⟩;rw [eg];refine LeM [] rfl rfl ?_;refine Zz ?_;omega
      | some z =>
       rw [hx] at hF cE;rw [yJ] at cE;have eg:=q8q (p:=mp) hF;have ei:(some z).isSome=true:=rfl;refine wk1 ei ?_;refine ⟨i+1,ω,ω,?_⟩;rw [eg];refine LeM [(1002,some 83),(1003,some 92)] rfl rfl ?_;refine Zz ?_;omega
    .have hlt2':¬ (i:Int) < n:=ω
     obtain rfl:i=n:=ω
     refine wk1 hlt2' ?_;refine ⟨j+1,ω,ω,?_⟩;rw [hM1,hM2];refine LeM [(1001,some 100)] rfl rfl ?_;refine Zz ?_;omega
  .have hlt':¬ (j:Int) < n:=ω
   obtain rfl:j=n:=ω
   exact wk1 hlt' trivial
def qd8 {raw:List Nat} {R k i:Nat} (hk:k < 3):∀ m,∀ x ∈ rgL (gF raw R k) i m,bl x.natAbs<=66000
 | 0,x,hx=>by unfold rgL at hx; simp at hx; subst hx; exact q5S
 | m+1,x,hx=>by
  unfold rgL at hx
  split at hx
  .exact qd8 hk m x hx
  .rcases yC.1 hx with hx | hx
   .exact qd8 hk m x hx
   .simp at hx
    rcases hx with rfl | rfl
    all_goals
     rw [z6];exact gF_bl hk
def qd9 {raw:List Nat} {n k:Nat} (hn:n<=100) (hk:k < 3):TOk (rgF (gF raw n k) n) n n:=by
 have hnn:n*n<=100*100:=zR hn hn;have hG:=qna (raw:=raw) (R:=n) (C:=n) (st:=k) Oq Oq Oq;have key:∀ i,i < n->q0I (fR 2 (q1M (rgL (gF raw n k) i n))):=λi hi=>by
  have hl:=(qd7 hG hi n (zH _)).1;have h1:=q5J (K:=66000) (qd8 (raw:=raw) (R:=n) (i:=i) hk n) (i:=(rgL (gF raw n k) i n).length) Oq;rw [yA] at h1;obtain ⟨c,hc⟩:∃ c,c=900:=⟨_,rfl⟩;obtain ⟨K,hK⟩:∃ K,K=65536:=⟨_,rfl⟩;refine qtj hK hc (Nat.lt_of_lt_of_le (q27 _) ?_);rw [<- zJ];exact zI Oq Oq
 refine ⟨hG.r,hG.c,hG.m,λj i x hj hi h=>?_,λj i x hj hi h=>?_⟩
 .unfold rgF at h
  split at h
  .have h:=xG.inj h; rw [<- h]; exact q51
  .exact hG.u j i x hj hi h
 .unfold rgF at h
  split at h
  .have h:=xG.inj h; rw [<- h]; exact key i hi
  .exact hG.v j i x hj hi h
def qti {F:Nat->Nat->Option Nat} {mi:List Int} {n:Nat} {cols:List Int} {num den:Nat} (hn:n<=100) (hc:cols.length<=1000000):LUb (qcA F mi n cols num den)/\(qcA F mi n cols num den).rows.length<=n:=by
 have hnn:n*n<=100*100:=zR hn hn;unfold qcA
 by_cases h:(q1C F mi n cols num den n).1=0
 .rw [if_pos h];have hG:=q2m (F:=F) (mi:=mi) (n:=n) (cols:=cols) (num:=num) (den:=den) n h;generalize (q1C F mi n cols num den n).2.2=S at *;have k1:∀ j i x,fLt S j i=some x->q0I x/\x < 18446744073709551616:=λj i x hx=>by
   unfold fLt at hx
   split at hx
   .cases hx; exact hG.l _ _
   .cases hx
  have k2:∀ j i x,fUt S j i=some x->q0I x/\x < 18446744073709551616:=λj i x hx=>by
   unfold fUt at hx
   split at hx
   .cases hx; exact hG.u _ _
   .cases hx
  have h1:TOk (fLt S) n n:=⟨ω,ω,ω,λj i x _ _ hx=>(k1 j i x hx).2,λj i x _ _ hx=>(k1 j i x hx).1⟩;have h2:TOk (fUt S) n n:=⟨ω,ω,ω,λj i x _ _ hx=>(k2 j i x hx).2,λj i x _ _ hx=>(k2 j i x hx).1⟩;have l1:=q0w (f:=fLt S) (R:=n) n;have l2:=q0w (f:=fUt S) (R:=n) n;have hrl:=hG.len;unfold q8a;refine ⟨⟨?_,hc,?_,?_,?_,?_,?_,?_,h1.vl.2.2.2,h2.vl.2.2.2⟩,?_⟩ <;> dsimp only <;> (try rw [zL]) <;> omega
 .rw [if_neg h];exact ⟨⟨σ,σ,σ,σ,σ,σ,σ,σ,σ,σ⟩,zE _⟩
end Go.Proofs.YtbjoghfmhgadkaaGreatDoor
namespace Go.Sp
open Go Go.E
end Go.Sp
namespace Go.Proofs.YtbjoghfmhgadkaaGreatDoor
open Go Go.E Go.Sp
def qgT {f:LUt} {l:List Nat} (hb:LUb f) (hn:f.rows.length<=100) (hul:∀ x ∈ l,x < 18446744073709551616) (hl:l.length<=1000000):ACt 124 [pLU f,pF l] (.tu [pF (lgE f l).1,iv (lgE f l).2]):=by
 refine qjP (ids:=[5000]) (ql7 hb hn hul hl) ?_;generalize (lgE f l).1=xs;generalize (lgE f l).2=e;have h1:q3E (q0P h0 5000 ⟨32,none,xs.map λz:Nat=>uv z,false⟩) (.ow 5000 none 0 xs.length)=some (pF xs,[5000]):=by
  unfold q3E;dsimp only;rw [q0H,xJ,if_pos ⟨rfl,rfl,λx hx=>clU x hx⟩,wJ,zU (by rw [zL]; exact zH _)]
 have h2:q3E (q0P h0 5000 ⟨32,none,xs.map λz:Nat=>uv z,false⟩) (iv e)=some (iv e,[]):=by
  unfold q3E;dsimp only;exact if_pos trivial
 unfold q2d q2d q2d clo;simp only [h1,h2]
 rfl
section
variable (C:Nat) (F:Nat->Nat->Option Nat) (f:LUt) (b:List Nat) (dbl:Bool)
end
def qdZ {x:List Nat} {o:List Int} {n:Nat} (hx:q10 x):∀ k,q10 (scS x o n k)
 | 0=>λv hv=>by
  unfold scS at hv;rw [xR] at hv;rw [hv.2]; exact ⟨ω,by unfold q0I; simp⟩
 | k+1=>λv hv=>by
  unfold scS at hv
  rcases y6 hv with hv | rfl
  .exact qdZ hx k v hv
  .exact qal hx _
def qkX {f:LUt} {l:List Nat} (hb:LUb f) (hul:∀ x ∈ l,x < 18446744073709551616) (h:(lgE f l).2=0):q5o f=0/\l.length=f.rows.length/\q10 l/\(lgE f l).1.length=f.rows.length/\q10 (lgE f l).1:=by
 unfold lgE at h ⊢
 by_cases hz:qdQ (q5o f) f.rows.length l=0
 case neg=>rw [if_pos hz] at h; exact absurd h hz
 rw [if_neg (not_not_intro hz)] at h ⊢;obtain ⟨h1,h2,h3⟩:=qr8 hz;have hf:=qgE hb h1;have hfl:q10 l:=λx hx=>⟨hul x hx,h3 x hx⟩;have hlr:∀ y,geL (cLo f) f.rows.length 0 (gaS l f.rows f.rows.length)=some y->y.length=f.rows.length/\q10 y:=λy hy=>qed _ _ _ y qee (qef hfl) hy;have dU:∀ k,k < f.rows.length->ofZ (cUp f k k)≠0:=λk hk=>by
  obtain ⟨m,x,m1,m2,m3⟩:=hf.dg k hk;have:=q98 (t:=m.length) (e:=(k,x)) (hf.U.nd k hk) (by rw [m1]; simp);unfold cUp;rw [this];exact m2
 refine ⟨h1,h2,hfl,?_⟩;generalize geL (cLo f) f.rows.length 0 (gaS l f.rows f.rows.length)=R1 at *;cases R1 with
 | none=>cases h
 | some y =>
  obtain ⟨q1,q2⟩:=hlr y rfl;have hur:∀ z,geU (cUp f) f.rows.length f.rows.length y=some z->z.length=f.rows.length/\q10 z:=λz hz=>qec dU _ y z (zH _) q1 q2 hz;dsimp only at h ⊢;generalize geU (cUp f) f.rows.length f.rows.length y=R2 at *;cases R2 with
  | none=>cases h
  | some z=>exact ⟨q69 _,qdZ (hur z rfl).2 _⟩
section
variable {dbl:Bool} {x:List (Nat × Nat)} {d l:List Nat} {n:Nat}
end
section
variable {R C:Nat} {F:Nat->Nat->Option Nat} {f:LUt}
end
section
variable {R C:Nat} {F:Nat->Nat->Option Nat} {f:LUt} {b:List Nat} {dbl:Bool} {steps:Int}
end
end Go.Proofs.YtbjoghfmhgadkaaGreatDoor
namespace Go.E
open Go Go.RowKit
end Go.E
namespace Go.Proofs.YtbjoghfmhgadkaaGreatDoor
open Go Go.E Go.Sp
def mpt_T:mpT Tryz.prog 200=some (none,q05):=κ
def mpt_D:mpT Tryz.prog 216=some (some 4,.ag [bv false,bv false,q05,iv 0]):=κ
attribute [go_sem] mpt_T mpt_D
abbrev wkB (n:Nat) (ms mi:List Int) (mv:List Nat) (r:List PV):Bk:=⟨148,some 11,[.ag ([iv n,iv n,pI ms,pI mi,pF mv] ++ r)],false⟩
end Go.Proofs.YtbjoghfmhgadkaaGreatDoor
namespace Go.E
open Go Go.RowKit
end Go.E
namespace Go.Proofs.YtbjoghfmhgadkaaGreatDoor
open Go Go.E Go.Sp
section
variable {S:LuS} {n m v:Nat} {g:Nat->Option (List Int)} {H:Hp}
end
end Go.Proofs.YtbjoghfmhgadkaaGreatDoor
namespace Go.E
open Go Go.RowKit
end Go.E
namespace Go.Proofs.YtbjoghfmhgadkaaGreatDoor
open Go Go.E Go.Sp
abbrev inB (l:List Nat):Bk:=⟨3,none,l.map λz:Nat=>iv z,false⟩
section
variable {rs vs:List Nat} {row v:Nat} {B:Hp}
end
end Go.Proofs.YtbjoghfmhgadkaaGreatDoor
namespace Go.E
open Go Go.RowKit
def qak {B:Hp} {i:Nat}:∀ {L:List (Nat × Bk)},hpG L B i≠none->B i≠none\/i ∈ L.map (·.1)
 | [],h=>.inl h
 | p :: L,h=>by
  unfold hpG at h
  split at h
  .rename_i e; exact .inr (by rw [y9,e]; exact xF)
  .exact (qak h).imp id λhm=>by rw [y9]; exact yU _ hm
def mkR_t {a b:PV} {l:List PV}:mkR (a :: b :: l)=.tu (a :: b :: l):=rfl
attribute [go_sem] mkR_t
end Go.E
namespace Go.Proofs.YtbjoghfmhgadkaaGreatDoor
open Go Go.E Go.Sp
section
variable {F:Nat->Nat->Option Nat} {S:LuS} {n j k:Nat} {H:Hp}
def qcl:∀ (m:Nat) (q:LuS),upS F S j k m=some q->q.l=S.l/\q.iL=S.iL/\q.rows=S.rows/\∀ a b,b≠k->q.u a b=S.u a b/\q.iU a b=S.iU a b
 | 0,q,h=>by unfold upS at h; cases h; exact ⟨rfl,rfl,rfl,λ_ _ _=>⟨rfl,rfl⟩⟩
 | m+1,q,h=>by
  unfold upS at h;obtain ⟨t,ht,h⟩:=xZ.1 h;obtain ⟨q1,q2,q3,q4⟩:=qcl m t ht
  split at h
  .cases h;exact ⟨q1,q2,q3,λa b hb=>⟨(if_neg λe=>hb e.2).trans (q4 a b hb).1,(if_neg λe=>hb e.2).trans (q4 a b hb).2⟩⟩
  .cases h
end
end Go.Proofs.YtbjoghfmhgadkaaGreatDoor
namespace Go.Sp
open Go.E
def awy (mode:Int) (neg:Bool):Bool:=if mode=1 then neg else !neg
def qnE (mode:Int) (neg:Bool) (q:Nat) (e p:Int) (inx:Bool):Nat :=
 if p<=e then q*2 ^ (e-p).toNat
 else q / 2 ^ (p-e).toNat+(if ¬ (q % 2 ^ (p-e).toNat=0/\inx=false)/\awy mode neg=true then 1 else 0)
def qnD {mode:Int} {neg:Bool} {N M:Nat} {e p:Int} (hm:mode=1\/mode=2) (hM:0 < M) (hk:N % M≠0->e < p):qnE mode neg (N / M) e p (decide (N % M≠0))=rq mode neg (N*2 ^ (e-p).toNat) (M*2 ^ (p-e).toNat):=by
 unfold qnE
 by_cases hpe:p<=e
 .rw [if_pos hpe,show (p-e).toNat=0 by omega,tT,xL];have hr:N % M=0:=by
   rcases Nat.eq_zero_or_pos (N % M) with h | h
   .exact h
   .have:=hk ω; omega
  have hd:N=N / M*M:=by have:=wG N M; rw [yO] at this; omega
  rw [q34 (by rw [hd,Nat.mul_right_comm]; exact Nat.mul_mod_left _ _)]
  conv=>rhs; rw [hd,Nat.mul_right_comm,Nat.mul_div_cancel _ hM]
 .rw [if_neg hpe,show (e-p).toNat=0 by omega,tT,xL];have hk0:0 < (p-e).toNat:=ω
  rw [qm1 hM (λ_=>hk0)];have hu:upS mode neg (q9R N M (p-e).toNat) (decide (N / M / 2 ^ (p-e).toNat % 2=1))=awy mode neg:=by
   unfold upS awy
   rcases hm with rfl | rfl
   .rfl
   .rfl
  rw [hu]
  congr 1
  refine qeX (and_congr ?_ Iff.rfl) _ _;rw [decide_eq_false_iff_not,Decidable.not_not]
  constructor
  .intro h
   by_cases h0:N / M % 2 ^ (p-e).toNat=0
   .exact .inr λh1=>h ⟨h0,h1⟩
   .exact .inl h0
  .rintro (h | h) ⟨h1,h2⟩
   .exact h h1
   .exact h h2
end Go.Sp
namespace Go.Proofs.YtbjoghfmhgadkaaGreatDoor
open Go Go.E Go.Sp
section
variable {neg inx:Bool} {q:Nat} {e p mode:Int}
def qcd (hm:mode=1\/mode=2) (hq:q≠0) (hb:bl q<=900000) (he1 : -900000<=e) (he2:e<=900000) (hp1 : -100000<=p) (hp2:p<=1000000):ACt 248 [reT neg q e inx,iv p,iv mode] (bT (sgn neg (qnE mode neg q e p inx))):=by
 have C1:=@q2s;have C2:=@q6o;have s0:∀ n:Nat,sgn false n=n:=λn=>rfl;have s1:∀ n:Nat,sgn true n = -(n:Int):=λn=>rfl
 by_cases hpe:p<=e
 .have hsl:shI ((q:Nat):Int) (e-p)=((q*2 ^ (e-p).toNat:Nat):Int):=by
   unfold shI; rw [if_pos ω,<- q0N]; simp
  have hbq:bl (q*2 ^ (e-p).toNat)<=2000000:=by rw [q1F hq]; omega
  rw [show qnE mode neg q e p inx=q*2 ^ (e-p).toNat from if_pos hpe];generalize q*2 ^ (e-p).toNat=z at *;refine ac0 Tryz.func248 Tryz.ntmps248 [.cell 6 42] ?_;cases neg
  .exact wk1 (x2 hsl s0) trivial
  .exact wk1 (x2 hsl s1) trivial
 .obtain ⟨k,hk⟩:∃ k:Nat,p-e=k:=⟨(p-e).toNat,by omega⟩;have hbq:bl (q / 2 ^ k)<=2000000:=zO (q0r (Nat.div_le_self _ _)) Oq;have C3:=qce (neg:=neg) (inx:=inx) (e:=e) (q:=q) (k:=k) hq Oq Oq Oq;have C4:=@q1n;have C5:=@q6p;have hb2:bl (1:Int).natAbs<=1:=by show bl 1<=_; rw [q59]; omega
  have hm2:qnE mode neg q e p inx=q / 2 ^ k+(if ¬ (q % 2 ^ k=0/\inx=false)/\awy mode neg=true then 1 else 0):=by
   unfold qnE; rw [if_neg hpe,show (p-e).toNat=k by omega]
  generalize qnE mode neg q e p inx=m at *;generalize Go.Sp.hf q k inx=H at *;generalize hr:q % 2 ^ k=r at *;generalize hz:q / 2 ^ k=z at *;have hbz:bl ((z:Int)+1).natAbs<=2000001:=by
   have:=q5a (k:=2000000) (a:=z) (b:=1) ω (by rw [q59]; omega);exact this
  have e2:((z+1:Nat):Int)=(z:Int)+1:=rfl
  by_cases hex:r=0/\inx=false
  .have f:(decide (r=0) && !inx)=true:=by simp [hex]
   rw [if_neg λh=>h.1 hex,xO] at hm2;subst hm2;refine ac0 Tryz.func248 Tryz.ntmps248 [.cell 6 42] ?_;cases neg
   .exact wk1 (x3 hk f s0) trivial
   .exact wk1 (x3 hk f s1) trivial
  .have f:(decide (r=0) && !inx)=false:=by
    rw [Bool.and_eq_false_iff]
    by_cases h:r=0
    .exact .inr (by cases inx <;> simp_all)
    .exact .inl (decide_eq_false h)
   rcases hm with rfl | rfl
   .cases neg
    .rw [if_neg λh=>Bool.noConfusion h.2,xO] at hm2;subst hm2;refine ac0 Tryz.func248 Tryz.ntmps248 [.cell 6 42] ?_;exact wk1 (x3 hk f s0) trivial
    .rw [if_pos ⟨hex,rfl⟩] at hm2;subst hm2;refine ac0 Tryz.func248 Tryz.ntmps248 [.cell 6 42] ?_;exact wk1 (x4 hk f s1 e2) trivial
   .cases neg
    .rw [if_pos ⟨hex,rfl⟩] at hm2;subst hm2;refine ac0 Tryz.func248 Tryz.ntmps248 [.cell 6 42] ?_;exact wk1 (x4 hk f s0 e2) trivial
    .rw [if_neg λh=>Bool.noConfusion h.2,xO] at hm2;subst hm2;refine ac0 Tryz.func248 Tryz.ntmps248 [.cell 6 42] ?_;exact wk1 (x3 hk f s1) trivial
def qfC:ACt 250 [bv neg,iv mode] (uv (q6f mode neg:Nat)):=by
 have C1:=q2R (f:=9218868437227405312) (neg:=neg) Oq;have C2:=q2R (f:=9218868437227405311) (neg:=neg) Oq;have e:q6f mode neg=sb neg (if mode=3\/mode=1/\neg=false\/mode=2/\neg=true then 9218868437227405311 else 9218868437227405312):=by
  unfold q6f;cases neg <;> simp <;> split <;> rfl
 rw [e];clear e;refine ac0 Tryz.func250 Tryz.ntmps250 [.tmp 4] ?_
 by_cases m3:mode=3
 .rw [if_pos (.inl m3)];exact wk trivial
 .by_cases m1:mode=1
  .have m2:mode≠2:=ω
   cases neg
   .rw [if_pos (.inr (.inl ⟨m1,rfl⟩))];exact wk trivial
   .rw [if_neg (by simp [m1])];exact wk trivial
  .by_cases m2:mode=2
   .cases neg
    .rw [if_neg (by simp [m2])];exact wk trivial
    .rw [if_pos (.inr (.inr ⟨m2,rfl⟩))];exact wk trivial
   .rw [if_neg (by simp [m1,m2,m3])];exact wk trivial
def q8M {N M:Nat} (hm:mode=0\/mode=1\/mode=2) (hM:0 < M) (hN:M<=N) (hmb:N % M≠0->55<=bl (N / M)) (hb:bl (N / M)<=200000) (he1 : -400000<=e) (he2:e<=400000):ACt 210 [reT neg (N / M) e (decide (N % M≠0)),iv mode] (uv (rE mode neg N M e:Nat)):=by
 rcases hm with rfl | hm
 .exact q9V hM hN hmb hb he1 he2
 have hp:=Nat.div_pos hN hM;have hL1:=q3s (n:=N / M) Oq;have hval:=qbj (mode:=mode) (neg:=neg) (e:=e) hM hN;have hnle:=qhD (mode:=mode) (neg:=neg) (e:=e) (q:=max (e+(bl (N / M):Int)-53) (-1074)) hM hN Oq;have hmul:=qnD (neg:=neg) (e:=e) (p:=max (e+(bl (N / M):Int)-53) (-1074)) hm hM (λh=>by have:=hmb h; omega);have C1:=q9x (neg:=neg) (q:=N / M) (e:=e) (inx:=decide (N % M≠0)) Oq Oq Oq;obtain ⟨L,hL⟩:∃ L,bl (N / M)=L:=⟨_,rfl⟩;rw [hL] at hmb hb hval hnle hmul hL1 C1;obtain ⟨q,hq⟩:∃ q,max (e+(L:Int)-53) (-1074)=q:=⟨_,rfl⟩;rw [hq] at hval hnle hmul;have hq':max (e+(L:Int)-1-52) (-1074)=q:=by omega
 have C2:=qcd (mode:=mode) (neg:=neg) (inx:=decide (N % M≠0)) (q:=N / M) (e:=e) (p:=q) hm Oq Oq Oq Oq Oq Oq;rw [hmul] at C2;obtain ⟨r,hr⟩:∃ r,rq mode neg (N*2 ^ (e-q).toNat) (M*2 ^ (q-e).toNat)=r:=⟨_,rfl⟩;rw [hr] at hval hnle C2;have hbr:bl r<=54:=q0O (yL hnle (by decide));have hsn:=q0h neg r;have hbs:bl (sgn neg r).natAbs<=54:=by rw [hsn]; exact hbr
 have C3:=@q6q;have C4:=@qe2;have C5:=@q2R;have C6:=@qfC;have e2:IntKind.u64.wrap ((r:Nat):Int)=r:=u64_in Oq Oq;rw [hval];generalize N / M=d at *;generalize decide (N % M≠0)=ix at *;clear hmul hmb hp hval hr;unfold Go.Sp.fin Go.Sp.q4g;have comp:∀ (q2:Int) (n2:Nat),0<=q2+1075->¬ 2047<=q2+1075->4503599627370496<=n2->n2 < 9007199254740992->∃ x:Nat,q2+1075=x/\(q2+1075).toNat=x/\IntKind.u64.wrap (x:Int)=x/\(q0q Tryz.prog .shl 32 (.int .u64 (x:Int)) (.int .u64 52)=some (.int .u64 ((x*4503599627370496:Nat):Int)))/\IntKind.u64.wrap ((n2:Int)-4503599627370496)=((n2-4503599627370496:Nat):Int)/\q0d .or .u64 ((x*4503599627370496:Nat):Int) ((n2-4503599627370496:Nat):Int)=((x*4503599627370496+(n2-4503599627370496):Nat):Int)/\x*4503599627370496+(n2-4503599627370496) < 9223372036854775808:=λq2 n2 h1 h2 h3 h4 =>
  ⟨(q2+1075).toNat,ω,rfl,u64_in ω ω,q68 ω,by rw [u64_in ω ω]; omega,qdr ω ω,ω⟩
 refine ac0 Tryz.func210 Tryz.ntmps210 [.tmp 4] ?_
 by_cases h53:r=9007199254740992
 .rw [if_pos h53,if_neg ω]
  by_cases hov:2047<=q+1+1075
  .rw [if_pos hov];exact wk1 (x3 hq' hsn e2) trivial
  .rw [if_neg hov];obtain ⟨x,f1,f2,f3,f4,f5,f6,f7⟩:=comp (q+1) 4503599627370496 Oq hov Oq Oq;rw [f2,tS,xO];rw [tS,xO] at f6 f7;replace f5:IntKind.u64.wrap (4503599627370496-4503599627370496)=0:=f5;replace f6:q0d .or .u64 ((x*4503599627370496:Nat):Int) 0=((x*4503599627370496:Nat):Int):=f6;exact wk1 (x6 hq' hsn e2 f1 f3 (x3 f4 f5 f6)) trivial
 .rw [if_neg h53]
  by_cases h52:r < 4503599627370496
  .rw [if_pos h52];exact wk1 (x3 hq' hsn e2) trivial
  .rw [if_neg h52]
   by_cases hov:2047<=q+1075
   .rw [if_pos hov];exact wk1 (x3 hq' hsn e2) trivial
   .rw [if_neg hov];obtain ⟨x,f1,f2,f3,f4,f5,f6,f7⟩:=comp q r Oq hov Oq Oq;rw [f2];exact wk1 (x6 hq' hsn e2 f1 f3 (x3 f4 f5 f6)) trivial
def q6v {a b:Int} (hm:mode=0\/mode=1\/mode=2) (hA:q0Z a) (hB:q0Z b) (hb0:b≠0):ACt 129 [dT a,dT b,iv mode] (uv (fQ mode a b:Nat)):=by
 have C1:=q9w hA;have C2:=q9w hB;have C3:=q4m hA;have C4:=q4m hB;have q1:(b.sign == 0)=false:=by
  rw [beq_eq_false_iff_ne]; intro h; exact hb0 (y7.1 h)
 refine ac0 Tryz.func129 Tryz.ntmps129 [.tmp 6] ?_
 by_cases ha0:a=0
 .have q2:(a.sign == 0)=true:=by rw [ha0]; rfl
  rw [show ((fQ mode a b:Nat):Int)=0 by rw [show fQ mode a b=0 from if_pos ha0]; rfl];exact wk1 (x2 q1 q2) trivial
 .have q2:(a.sign == 0)=false:=by
   rw [beq_eq_false_iff_ne]; intro h; exact ha0 (y7.1 h)
  obtain ⟨k,⟨c1,c2,c3⟩,C5⟩:=qca hA hB ha0 hb0;have hob:=q39 hb0;have hd1:=q1B hA;have hd2:=q1B hB;have hge:=q8Y (N:=(od a).natAbs*2 ^ k) (M:=(od b).natAbs) Oq (k:=57) Oq;have hle:bl ((od a).natAbs*2 ^ k / (od b).natAbs)<=140000:=zO (q0r (Nat.div_le_self _ _)) c3;have hMN:(od b).natAbs<=(od a).natAbs*2 ^ k:=by
   rcases Nat.lt_or_ge ((od a).natAbs*2 ^ k) (od b).natAbs with h | h
   .have:=q0r (Nat.le_of_lt h); omega
   .exact h
  have C6:=q8M (mode:=mode) (neg:=decide (a < 0) != decide (b < 0)) (e:=dyE a-k-dyE b) hm Oq hMN (λ_=>by omega) Oq Oq Oq;rw [qjw ha0 hb0,show rF mode (decide (a < 0) != decide (b < 0)) a.natAbs b.natAbs=fQ mode a b from (if_neg ha0).symm] at C6;exact wk1 (x2 q1 q2) trivial
end
def ulpE (a:Nat):Nat:=64461+max (a / 4503599627370496) 1
def qmr {a:Nat} (ha:a < 9223372036854775808) (hf:q0I a):ofZ a=(((if a / 4503599627370496=0 then a else 4503599627370496+a % 4503599627370496):Nat):Int)*(2:Int) ^ ulpE a:=by
 refine q0S ?_;unfold q0I at hf;have h2:a / 4503599627370496 % 2048=a / 4503599627370496:=Nat.mod_eq_of_lt Oq;rw [h2] at hf;unfold ofF ulpE;rw [h2,if_neg hf,decide_eq_false ω]
 by_cases h0:a / 4503599627370496=0
 .rw [if_pos h0,if_pos h0,h0,show max 0 1=1 from rfl,show a % 4503599627370496=a by omega]; rfl
 .rw [if_neg h0,if_neg h0,show max (a / 4503599627370496) 1=a / 4503599627370496 by omega]; rfl
def qmt {f:Nat} (hf:f < 18446744073709551616) (h:q0I f):((ofZ f).natAbs:Int)=ofZ (q2S f):=by
 have h1:q2S f / 4503599627370496 % 2048=f / 4503599627370496 % 2048:=by unfold q2S; omega
 have h2:q2S f % 4503599627370496=f % 4503599627370496:=by unfold q2S; omega
 have hn:¬ 9223372036854775808<=q2S f:=by have:=qfx (f:=f); omega
 unfold q0I at h;have e:∀ x:Option Int,x.getD 0=x.getD 0:=λ_=>rfl;unfold ofZ ofF;rw [h1,if_neg h,if_neg h,h2,decide_eq_false hn];have key:∀ (b:Bool) (m k:Nat),((sgn b m*(2:Int) ^ k).natAbs:Int)=sgn false m*(2:Int) ^ k:=λb m k=>by
  rw [q0G]
  push_cast
  congr 1
  cases b <;> simp [sgn]
 split
 .exact key _ _ _
 .exact key _ _ _
def qhH {f:Nat} (h:q0I f):∃ z:Int,ofZ f=z*(2:Int) ^ 64462:=by
 obtain ⟨m,k,h1,_,h2,_⟩:=q2A h;refine ⟨m*(2:Int) ^ (k-64462),?_⟩;rw [q0S h1,zS,<- tH]
 congr 2
 omega
def qjq {a b:Int} (h:b < a):(a-b).sign=1:=wC Oq
def qjp {a b:Int} (h:¬ b < a):¬ (a-b).sign > 0:=λq=>by
 rcases Int.lt_or_eq_of_le (Int.not_lt.1 h) with h | h
 .rw [xS ω] at q; omega
 .rw [show a-b=0 by omega] at q; exact absurd q (by decide)
def grZ (l:List Int):Int:=l.foldl max 0
def qtV {l:List Int} {i:Nat} {x:Int} (h:l[i]?=some x):grZ (l.take (i+1))=max (grZ (l.take i)) x:=by
 unfold grZ;rw [q1a h,List.foldl_append]
 rfl
def qea:∀ (l:List Int) (a:Int),(l.foldl max a=a\/l.foldl max a ∈ l)/\a<=l.foldl max a
 | [],a=>⟨.inl rfl,yK _⟩
 | x :: l,a=>by
  have h:=qea l (max a x);rw [xC];refine ⟨?_,ω⟩
  rcases h.1 with h | h
  .rw [h]
   rcases Int.le_total a x with q | q
   .right; rw [xK q]; exact xF
   .left; exact wH q
  .right; exact yU _ h
def qtW {l:List Int}:0<=grZ l:=(qea l 0).2
def qn8 {p:Int->Prop} {l:List Int} (h0:p 0) (h:∀ x ∈ l,p x):p (grZ l):=by
 rcases (qea l 0).1 with q | q
 .unfold grZ; rw [q]; exact h0
 .exact h _ q
def q8H {l:List Int} {k:Nat} (h:∀ x ∈ l,bl x.natAbs<=k):bl (grZ l).natAbs<=k:=qn8 (p:=λz=>bl z.natAbs<=k) (by simp [q0m]) h
def q82 {v:Nat} (h:q0I v):bl (abZ v).natAbs<=66560:=by
 unfold abZ;rw [z6];exact qmq h
def btD (n:Nat) (v:List Nat) (F:Nat->Nat->Option Nat) (i j k:Nat):Int:=q0v (v.getD (k*n+i) 0) ((F j k).getD 0)
def btE (n:Nat) (v:List Nat) (F:Nat->Nat->Option Nat) (i j:Nat):Int:=(if i=j then q04 else 0)-sg (btD n v F i j) n
def btZ (n:Nat) (v:List Nat) (F:Nat->Nat->Option Nat) (i:Nat):Int:=sg (λj=>((btE n v F i j).natAbs:Int)) n
def btL (n:Nat) (v:List Nat) (F:Nat->Nat->Option Nat):List Int:=(List.range n).map (btZ n v F)
def pnZ (r c:Nat) (v:List Nat) (i:Nat):Int:=sg (λj=>abZ (v.getD (j*r+i) 0)) c
def pnL (r c:Nat) (v:List Nat):List Int:=(List.range r).map (pnZ r c v)
def nmZ (F:Nat->Nat->Option Nat) (C i:Nat):Int:=sg (λj=>abZ ((F j i).getD 0)) C
def nmL (F:Nat->Nat->Option Nat) (R C:Nat):List Int:=(List.range R).map (nmZ F C)
def q7h {g:Nat->Int} {K:Nat} (n:Nat) (hn:n<=1000) (h:∀ i,i < n->bl (g i).natAbs<=K):bl (sg g n).natAbs<=K+11:=by
 have e:∀ m,sg g m=q1M ((List.range m).map g):=λm=>by
  induction m with
  | zero=>rfl
  | succ m ih=>rw [sg,ih,yN,zK,yI,q0c]
 have:=q5J (K:=K) (i:=n) (l:=(List.range n).map g) (λx hx=>by
  obtain ⟨i,hi,rfl⟩:=zN.1 hx;exact h i (zW.1 hi)) Oq
 rw [zU σ] at this;rw [e];exact this
def q8y {g:Nat->Int} {n i:Nat} (h:i < n):((List.range n).map g)[i]?=some (g i):=by simp [h]
def rgm_s {g:Nat->Int} {n:Nat}:(List.range (n+1)).map g=(List.range n).map g ++ [g n]:=by rw [yN,zK]; rfl
def q3O {g:Nat->Int} {n:Nat}:((List.range n).map g).length=n:=σ
def q2Q {v:List Nat} (hv:q10 v) {i:Nat}:v.getD i 0 < 18446744073709551616/\q0I (v.getD i 0):=by
 rw [zB];cases h:v[i]? with
 | none=>exact ⟨σ,by simp [q0I]⟩
 | some x=>exact hv x (zC h)
def TOk.finD {f:Nat->Nat->Option Nat} {R C j i:Nat} (h:TOk f R C) (hj:j < C) (hi:i < R):q0I ((f j i).getD 0):=(h.fin hj hi).1
section
variable {F:Nat->Nat->Option Nat} {n r c R C:Nat} {v:List Nat}
def qvB (h:TOk F n n) (hv:q10 v) {i j k:Nat} (hj:j < n) (hk:k < n):bl (btD n v F i j k).natAbs<=67584:=qkN (q2Q hv).2 (h.finD hj hk)
def qfb (h:TOk F n n) (hv:q10 v) {i j:Nat} (hj:j < n):bl (btE n v F i j).natAbs<=67596:=by
 have h1:=q7h (g:=btD n v F i j) (K:=67584) n (by have:=h.r; omega) λk hk=>qvB h hv hj hk;unfold btE;refine qfl (k:=67595) ?_ Oq
 split
 .have:=q5S; omega
 .simp [q0m]
def qky (h:TOk F n n) (hv:q10 v) {i:Nat}:bl (btZ n v F i).natAbs<=67607:=q7h (K:=67596) n (by have:=h.r; omega) λj hj=>by rw [z6]; exact qfb h hv hj
def qvA (h:TOk F n n) (hv:q10 v):∀ x ∈ btL n v F,bl x.natAbs<=67607:=λx hx=>by
 obtain ⟨i,_,rfl⟩:=zN.1 hx;exact qky h hv
def qkC (hv:q10 v) (hc:c<=1000) {i:Nat}:bl (pnZ r c v i).natAbs<=66571:=q7h (K:=66560) c hc λj _=>q82 (q2Q hv).2
def qs0 (hv:q10 v) (hc:c<=1000):∀ x ∈ pnL r c v,bl x.natAbs<=66571:=λx hx=>by
 obtain ⟨i,_,rfl⟩:=zN.1 hx;exact qkC hv hc
def qkI (h:TOk F R C) {i:Nat} (hi:i < R):bl (nmZ F C i).natAbs<=66571:=q7h (K:=66560) C (by have:=h.c; omega) λj hj=>q82 (h.finD hj hi)
def qsk (h:TOk F R C):∀ x ∈ nmL F R C,bl x.natAbs<=66571:=λx hx=>by
 obtain ⟨i,hi,rfl⟩:=zN.1 hx;exact qkI h (zW.1 hi)
def mlt (z:Int):Prop:=∃ m:Int,z=m*(2:Int) ^ 64462
def qnH:mlt 0:=⟨0,(yF _).symm⟩
def qnG {a b:Int} (ha:mlt a) (hb:mlt b):mlt (a+b):=by
 obtain ⟨x,rfl⟩:=ha;obtain ⟨y,rfl⟩:=hb;exact ⟨x+y,(xH _ _ _).symm⟩
def qkS {v:Nat} (h:q0I v):mlt (abZ v):=by
 obtain ⟨z,hz⟩:=qhH h;unfold abZ mlt;generalize (64462:Nat)=k at *;rw [hz,q0G];exact ⟨(z.natAbs:Int),by rw [zG,q0N]⟩
def qeD {g:Nat->Int}:∀ n,(∀ i,i < n->mlt (g i))->mlt (sg g n)
 | 0,_=>qnH
 | n+1,h=>qnG (qeD n λi hi=>h i Oq) (h n Oq)
def qsY (hv:q10 v):mlt (grZ (pnL r c v)):=qn8 qnH λx hx=>by
 obtain ⟨i,_,rfl⟩:=zN.1 hx;exact qeD c λj _=>qkS (q2Q hv).2
def qsj (h:TOk F R C):mlt (grZ (nmL F R C)):=qn8 qnH λx hx=>by
 obtain ⟨i,hi,rfl⟩:=zN.1 hx;exact qeD C λj hj=>qkS (h.finD hj (zW.1 hi))
def prZ (a b:Int):Int:=(mkV (a*b) (-131072)).getD 0
def qsU {a b:Int} (ha:mlt a) (hb:mlt b) (h1:bl a.natAbs<=66571) (h2:bl b.natAbs<=66571):mkV (a*b) (-131072)=some (prZ a b)/\bl (prZ a b).natAbs<=67606/\a*b=prZ a b*(2:Int) ^ 65536:=by
 obtain ⟨x,hx⟩:=ha;obtain ⟨y,hy⟩:=hb;obtain ⟨c,hc⟩:∃ c:Int,c=x*y*(2:Int) ^ 63388:=⟨_,rfl⟩;have e:a*b=c*(2:Int) ^ 65536:=by
  rw [hx,hy,hc];have:∀ p:Int,x*p*(y*p)=x*y*(p*p):=λp=>by rw [zS,zS,zY p y p]
  rw [this,zS (x*y),<- tH,<- tH]
 have hb:bl c.natAbs<=67606:=by
  refine qlA e ?_;have:=q1s a.natAbs b.natAbs;rw [<- zV] at this;omega
 have hk:mkV (a*b) (-131072)=some c:=by rw [e]; exact qaa (by unfold q0Z; omega)
 unfold prZ;rw [hk];exact ⟨rfl,hb,e⟩
def q2O:q04=(2:Int) ^ 65536:=by
 have h:=q6h (z:=1) (by have:=q0O (n:=wT 1) (k:=1) (by decide); omega);rw [q5R.1] at h;have h:=xG.inj h;rw [xV] at h;exact h
end
def q7r (V:Int):od (V.natAbs:Int)=((od V).natAbs:Int)/\dyE (V.natAbs:Int)=dyE V:=by
 have hs:=q21 V
 by_cases hv:V < 0
 .rw [decide_eq_true hv] at hs;have ho:od V < 0:=of_decide_eq_true hs;rw [show (V.natAbs:Int) = -V by omega,qdu,q92];exact ⟨ω,rfl⟩
 .rw [decide_eq_false hv] at hs;have ho:¬ od V < 0:=of_decide_eq_false hs;rw [show (V.natAbs:Int)=V by omega];exact ⟨ω,rfl⟩
def qkf {V:Int} (h:q0Z V):q0Z (V.natAbs:Int):=by unfold q0Z at *; rwa [z6]
section
variable {A B V z:Int} {v:Nat}
def q7Y (h1 : -9223372036854775808<=z) (h2:z<=9223372036854775807) (hv:mkV z 0=some V):ACt 66 [iv z] (dT V):=by
 have hz:bl z.natAbs<=64:=q0O (yL (show z.natAbs<=9223372036854775808 by omega) (by decide));have C1:=@q1n;have C2:=q3X (m:=z) (e:=0) rfl Oq Oq Oq hv;refine ac0 Tryz.func66 Tryz.ntmps66 [.cell 2 46] ?_;exact wk trivial
def qcb:ACt 66 [iv 1] (dT q04):=q7Y Oq Oq q5R.1
def q9v:ACt 66 [iv 0] (dT 0):=q7Y Oq Oq (q1R _)
def qcg (hA:q0Z A):ACt 111 [dT A] (dT (A.natAbs:Int)):=by
 have C1:=q8g hA;have C2:=@q6q;have:=(q1B hA).2.2;have f1:=(q7r A).1.symm;have f2:=(q7r A).2;refine ac0 Tryz.func111 Tryz.ntmps111 [.cell 2 46] ?_;exact wk1 (x2 f1 f2) trivial
def q53 (h1:v < 18446744073709551616) (h2:q0I v):ACt 113 [uv (q2S v:Nat)] (dT (abZ v)):=by
 have:=q8N (f:=q2S v) (by have:=qfx (f:=v); omega) (q0i (qjE h2))
 rwa [<- qmt h1 h2] at this
def qbY (h:q0I v):q0Z (abZ v):=by have:=q82 h; unfold q0Z; omega
end
section
variable {g:Nat->Option (List Int)} {Z:Nat->Int} {rows:List Nat} {n m:Nat} {H:Hp}
end
def q7g {g:Nat->Int}:∀ n,q1M ((List.range n).map g)=sg g n
 | 0=>rfl
 | n+1=>by rw [yN,zK,yI,q0c,q7g n,sg]
def dy0:q0Z 0:=by simp [q0Z,q0m]
def pPn (r c:Nat) (v:List Nat):PV:=.ag [iv r,iv c,pF v]
open Classical in
noncomputable def chP (r c:Nat) (v:List Nat):Int:=if v.length≠r*c then 2 else if ∀ x ∈ v,q0I x then 0 else 4
section
variable {l:List Int} {r c i j:Nat} {v:List Nat}
def q3o (hn:l.length<=1000000):ACt 127 [pVs l] (pV (grZ l)):=by
 have C1:=q1u q9v dy0;have N1:=q3D (V:=0);refine ac0 Tryz.func127 Tryz.ntmps127 [.cell 2 46] ?_;refine wk ?_;refine q0B (λi=>i<=l.length) [2,3,9,10] [2] Lk Lk (λi:Nat=>[(11,iv i)]) (λi=>[(3,⟨46,some 4,[pV (grZ (l.take i))],false⟩)]) (λi=>l.length-i) 0 (zE _) ?_ ?_
 .refine LeM [] rfl rfl ?_;refine Zz ?_;exact ⟨rfl,rfl⟩
 .intro i hi
  by_cases hlt:i < l.length
  .obtain ⟨x,hx⟩:∃ x,l[i]?=some x:=⟨_,zA hlt⟩;have C2:=qlI qbK λho=>q8i (A:=x) (B:=grZ (l.take i)) ho.1 ho.2;have es:=qtV hx;generalize grZ (l.take i)=G at *
   by_cases h:G < x
   .rw [qjq h] at C2;rw [show max G x=x by omega] at es;refine wk1 hx ?_;refine ⟨i+1,ω,ω,?_⟩;rw [es];refine LeM [] rfl rfl ?_;refine Zz ?_
    first | done | omega | exact ⟨ω,rfl⟩
   .have q:=qjp h;rw [show max G x=G by omega] at es;generalize (x-G).sign=s at *;refine wk1 hx ?_;refine ⟨i+1,ω,ω,?_⟩;rw [es];refine LeM [] rfl rfl ?_;refine Zz ?_
    first | done | omega | exact ⟨ω,rfl⟩
  .obtain rfl:i=l.length:=ω
   rw [yA];exact wk trivial
def qfP {n:Nat} (hr:r<=64) (hc:c<=64) (hn:n<=1000000):ACt 245 [iv r,iv c,iv n] (iv (if n≠r*c then 2 else 0)):=by
 have hm:r*c<=64*64:=zR hr hc;have w1:IntKind.i64.wrap ((r:Int)*(c:Int))=((r*c:Nat):Int):=by rw [<- zG,i64_in ω ω]
 generalize r*c=m at *;refine ac0 Tryz.func245 Tryz.ntmps245 [.tmp 6] ?_
 by_cases h:n=m
 .have q:((n:Int) != (m:Int))=false:=by simp; omega
  rw [if_neg (not_not_intro h)];exact wk1 (x2 w1 q) trivial
 .have q:((n:Int) != (m:Int))=true:=by simp; omega
  rw [if_pos h];exact wk1 (x2 w1 q) trivial
open Classical in
def qbB (hr:r<=64) (hc:c<=64) (hn:v.length<=1000000) (hv:∀ x ∈ v,x < 18446744073709551616):ACt 208 [pPn r c v] (iv (chP r c v)):=by
 have C1:=qfP (n:=v.length) hr hc hn;obtain ⟨res,hres⟩:∃ res,res=chP r c v:=⟨_,rfl⟩;rw [<- hres];unfold chP at hres;unfold pPn;refine ac0 Tryz.func208 Tryz.ntmps208 [.tmp 2] ?_
 by_cases h:v.length=r*c
 rotate_left
 .rw [if_pos h] at C1 hres;subst hres;exact wk trivial
 rw [if_neg (not_not_intro h)] at C1 hres;refine wk ?_;refine q0B (λi=>i<=v.length/\∀ x ∈ v.take i,q0I x) [18,19] [] Lk Lk (λi:Nat=>[(20,iv i)]) (λ_=>[]) (λi=>v.length-i) 0 ⟨zE _,σ⟩ ?_ ?_
 .refine LeM [] rfl rfl ?_;refine Zz ?_
  rfl
 .rintro i ⟨hi,hf⟩
  by_cases hil:i < v.length
  .obtain ⟨x,hx⟩:∃ x,v[i]?=some x:=⟨_,zA hil⟩;have hmx:=zC hx;have cF:=q9X (hv x hmx)
   by_cases hfx:q0I x
   case neg =>
    rw [decide_eq_false hfx] at cF;rw [if_neg λh=>hfx (h x hmx)] at hres;subst hres;exact wk1 hx trivial
   rw [decide_eq_true hfx] at cF;refine wk1 hx ?_;refine ⟨i+1,⟨ω,?_⟩,ω,?_⟩
   .rw [q1a hx];intro y hy
    rcases yC.1 hy with hy | hy
    .exact hf y hy
    .simp at hy; subst hy; exact hfx
   .refine LeM [] rfl rfl ?_;refine Zz ?_;omega
  .obtain rfl:i=v.length:=ω
   rw [yA] at hf;rw [if_pos hf] at hres;subst hres;exact wk trivial
end
section
variable {Z:Nat->Int} {v:Nat->Nat} {n num den:Nat} {mi:List Int} {L:List Nat} {H:Hp}
end
section
variable {F:Nat->Nat->Option Nat} {mi:List Int} {n j k num den:Nat} {S q:LuS}
def q7n:∀ i,rsV F q j k i=if i ∈ q.rows then 0 else fR 0 (rsZ F q j k i):=λ_=>rfl
def qu5 (h:upS F S j k k=none):q1r F mi n S j k num den=(233,S):=by
 unfold q1r;rw [h]
def q6t:(∀ i,i < n->q0I (rsV F q j k i)) ↔ ∀ i,i < n->i ∉ q.rows->q0I (fR 0 (rsZ F q j k i)):=by
 constructor
 .intro h i hi hr;have:=h i hi
  rwa [q7n,if_neg hr] at this
 .intro h i hi;rw [q7n]
  split
  .unfold q0I; simp
  .exact h i hi (by assumption)
def qu4 (h:upS F S j k k=some q) (h2:¬ ∀ i,i < n->i ∉ q.rows->q0I (fR 0 (rsZ F q j k i))):q1r F mi n S j k num den=(233,S):=by
 unfold q1r;rw [h];simp only;unfold qif;rw [if_neg (mt q6t.1 h2)]
noncomputable def q8b (F:Nat->Nat->Option Nat) (q:LuS) (n j k:Nat):List Nat:=opR q.rows (rsZ F q j k) n
noncomputable def q8V (F:Nat->Nat->Option Nat) (mi:List Int) (q:LuS) (n j k num den:Nat):Int:=bsT (rsV F q j k) mi num den (mxT (rsV F q j k) (q8b F q n j k) (q8b F q n j k).length) (q8b F q n j k) (q8b F q n j k).length
def qih:(bsP (rsV F q j k) q mi num den (mxZ (rsV F q j k) n) n < 0 ↔ q8V F mi q n j k num den < 0)/\(0<=q8V F mi q n j k num den->bsP (rsV F q j k) q mi num den (mxZ (rsV F q j k) n) n=((q8b F q n j k).getD (q8V F mi q n j k num den).toNat 0:Nat)):=by
 unfold q8V q8b;rw [qkL (z:=rsZ F q j k) (rows:=q.rows) q7n];exact qkz (z:=rsZ F q j k) q7n n
def qkn : -1<=q8V F mi q n j k num den/\q8V F mi q n j k num den < (q8b F q n j k).length:=qbL _
def qu3 (h:upS F S j k k=some q) (h2:∀ i,i < n->i ∉ q.rows->q0I (fR 0 (rsZ F q j k i))) (h3:q8V F mi q n j k num den < 0):q1r F mi n S j k num den=(9,S):=by
 unfold q1r;rw [h];simp only;unfold qif;rw [if_pos (q6t.2 h2),if_pos (qih.1.2 h3)]
def qbH {p:Nat} (h3:0<=q8V F mi q n j k num den) (hp:(q8b F q n j k)[(q8V F mi q n j k num den).toNat]?=some p):p < n/\p ∉ q.rows/\rsZ F q j k p≠0/\rsV F q j k p=fR 0 (rsZ F q j k p)/\bsP (rsV F q j k) q mi num den (mxZ (rsV F q j k) n) n=(p:Nat)/\¬ (rsV F q j k p=0\/rsV F q j k p=9223372036854775808):=by
 have hm:=q9L.1 (zC hp);have hb:=qih.2 h3;rw [getD_some hp] at hb;have ho:=(qbM (v:=rsV F q j k) (S:=q) (mi:=mi) (num:=num) (den:=den) (w:=mxZ (rsV F q j k) n) n (by rw [hb]; omega)).2;rw [hb,tG] at ho;exact ⟨hm.1,hm.2.1,hm.2.2,by rw [q7n,if_neg hm.2.1],hb,ho⟩
def q9F {f:Nat} (hf:q0I f) (hl:f < 18446744073709551616) (h:¬ (f=0\/f=9223372036854775808)):ofZ f≠0:=λe=>h ((q6n hl).2 ((q5T hf).1 e))
def qjy {d:Int} (hd:d≠0):q4D 0 0 d=0:=by
 unfold q4D;rw [if_neg hd];unfold fQ;rw [if_pos rfl]
def qu2 {p:Nat} (h:upS F S j k k=some q) (h2:∀ i,i < n->i ∉ q.rows->q0I (fR 0 (rsZ F q j k i))) (h3:0<=q8V F mi q n j k num den) (hp:(q8b F q n j k)[(q8V F mi q n j k num den).toNat]?=some p) {i:Nat} (hi:i ∈ q8b F q n j k) (hip:i≠p) (hf:¬ q0I (q4D 0 (rsZ F q j k i) (ofZ (rsV F q j k p)))):q1r F mi n S j k num den=(233,S):=by
 obtain ⟨p1,p2,p3,p4,p5,p6⟩:=qbH h3 hp;have hm:=q9L.1 hi;unfold q1r;rw [h];simp only;unfold qif;rw [if_pos (q6t.2 h2),if_neg (λc=>by have:=qih.1.1 c; omega),p5,tG,qeM (i:=i) (by
  show i ∉ q.rows ++ [p]
  rw [yC,not_or];exact ⟨hm.2.1,by simpa using hip⟩) hf n hm.1]
noncomputable def clS (F:Nat->Nat->Option Nat) (q:LuS) (n j k p:Nat):LuS:=loE (pvS q k (rsV F q j k) p) k (rsZ F q j k) (ofZ (rsV F q j k p)) n
def qu1 {p:Nat} (h:upS F S j k k=some q) (h2:∀ i,i < n->i ∉ q.rows->q0I (fR 0 (rsZ F q j k i))) (h3:0<=q8V F mi q n j k num den) (hp:(q8b F q n j k)[(q8V F mi q n j k num den).toNat]?=some p) (hf:∀ i ∈ q8b F q n j k,i≠p->q0I (q4D 0 (rsZ F q j k i) (ofZ (rsV F q j k p)))):q1r F mi n S j k num den=(0,clS F q n j k p):=by
 obtain ⟨p1,p2,p3,p4,p5,p6⟩:=qbH h3 hp;have hd:ofZ (rsV F q j k p)≠0:=q9F (by rw [p4]; exact h2 p p1 p2) (by rw [p4]; exact q51) p6;unfold q1r;rw [h];simp only;unfold qif;rw [if_pos (q6t.2 h2),if_neg (λc=>by have:=qih.1.1 c; omega),p5,tG,q6k n λi hi hr=>?_]
 .rfl
 .have hr:i ∉ q.rows ++ [p]:=hr;rw [yC,not_or] at hr
  by_cases hz:rsZ F q j k i=0
  .rw [hz,qjy hd]; unfold q0I; simp
  .exact hf i (q9L.2 ⟨hi,hr.1,hz⟩) (by simpa using hr.2)
section
variable {p:Nat} {Z:Nat->Int} {V:Nat->Nat} {d:Int}
def q4z:(loE (pvS q k V p) k Z d n).rows=q.rows ++ [p]:=rfl
def q47 {a b:Nat} (hb:b≠k):(loE (pvS q k V p) k Z d n).l a b=q.l a b/\(loE (pvS q k V p) k Z d n).iL a b=q.iL a b/\(loE (pvS q k V p) k Z d n).u a b=q.u a b/\(loE (pvS q k V p) k Z d n).iU a b=q.iU a b:=by
 unfold loE pvS;exact ⟨if_neg λh=>hb h.1,if_neg λh=>hb h.1,if_neg λh=>hb h.2,if_neg λh=>hb h.2⟩
def clS_I (hI:LuI k S) (h1:q.l=S.l) (h2:q.iL=S.iL) (hr:q.rows=S.rows) (hp:p ∉ q.rows) (hd:d≠0):LuI (k+1) (loE (pvS q k V p) k Z d n):=by
 refine ⟨λi m hz=>?_,λi m hm=>?_,?_⟩
 .by_cases hmk:m=k
  .subst hmk;unfold loE pvS at hz ⊢;dsimp only at hz ⊢
   by_cases h:m=m/\i < n/\i ∉ q.rows ++ [p]
   .rw [if_pos h] at hz ⊢;have:Z i=0:=by simpa using hz
    rw [this,qjy hd]; exact qa4
   .rw [if_neg h] at hz ⊢;rw [h1];rw [h2] at hz;exact hI.z i m hz
  .rw [(q47 hmk).2.1,h2] at hz;rw [(q47 hmk).1,h1];exact hI.z i m hz
 .rw [(q47 ω).2.1,h2];exact hI.f i m Oq
 .rw [q4z];rw [hr] at hp ⊢;exact List.nodup_append.2 ⟨hI.r,σ,λa ha b hb=>by simp at hb; subst hb; exact λe=>hp (e ▸ ha)⟩
end
end
end Go.Proofs.YtbjoghfmhgadkaaGreatDoor
namespace Go.E
open Go Go.RowKit
def qtU {h:Hp} {d i:Nat}:hdl h d i=if i=d then none else h i:=rfl
attribute [go_sem] qtU
end Go.E
namespace Go.Proofs.YtbjoghfmhgadkaaGreatDoor
open Go Go.E Go.Sp
abbrev plB (rows:List Nat) (n:Nat):Bk:=⟨3,none,plL rows n,false⟩
abbrev mpsB (S:LuS) (n k:Nat):Bk:=⟨216,none,(List.range k).map λm=>.fm (fMap (dM S n m)),false⟩
abbrev lnsL (S:LuS) (n k:Nat):Bk:=⟨205,some 2,(List.range k).map (lnL S n),false⟩
abbrev lnsU (S:LuS) (k:Nat):Bk:=⟨205,some 2,(List.range k).map (lnU S),false⟩
abbrev cnS (mi:List Int) (n:Nat):PV:=.sl none ((List.range n).map λi=>iv (q3T mi i))
abbrev wkL (n:Nat) (ms mi:List Int) (mv:List Nat) (S:LuS) (k a b c d:Nat):List (Nat × Bk):=[(5000,wkB n ms mi mv [cnS mi n,.ow 5001 none 0 n,.ow a none 0 k,.ow b none 0 k,.ow c (some 2) 0 k,.ow d (some 2) 0 k]),(5001,plB S.rows n),(a,inB S.rows),(b,mpsB S n k),(c,lnsL S n k),(d,lnsU S k)]
section
variable {n k:Nat} {ms mi:List Int} {mv:List Nat} {S:LuS}
def luW (n:Nat) (ms mi:List Int) (mv:List Nat) (S:LuS) (k:Nat):Hp:=hpG (wkL n ms mi mv S k 5002 5003 5004 5005) h0
def luW_0:luW n ms mi mv S k 5000=some (wkB n ms mi mv [cnS mi n,.ow 5001 none 0 n,.ow 5002 none 0 k,.ow 5003 none 0 k,.ow 5004 (some 2) 0 k,.ow 5005 (some 2) 0 k]):=rfl
def luW_1:luW n ms mi mv S k 5001=some (plB S.rows n):=rfl
def luW_2:luW n ms mi mv S k 5002=some (inB S.rows):=rfl
def luW_3:luW n ms mi mv S k 5003=some (mpsB S n k):=rfl
def luW_4:luW n ms mi mv S k 5004=some (lnsL S n k):=rfl
def luW_5:luW n ms mi mv S k 5005=some (lnsU S k):=rfl
def qtC {i:Nat} (h:luW n ms mi mv S k i≠none):5000<=i/\i<=5005:=by
 unfold luW at h
 rcases qak h with h | h
 .exact absurd rfl h
 .simp at h; omega
def qtB {i:Nat} (h:i < 5000\/5005 < i):luW n ms mi mv S k i=none:=Classical.byContradiction λhq=>by have:=qtC hq; omega
attribute [go_sem ↓] luW_0 luW_1 luW_2 luW_3 luW_4 luW_5 qtB
def luK (n:Nat) (ms mi:List Int) (mv:List Nat) (S:LuS) (k:Nat) (rows:List Nat):Hp:=hpG [(5000,wkB n ms mi mv [cnS mi n,.ow 5001 none 0 n,.ow 5012 none 0 (k+1),.ow 5003 none 0 k,.ow 5004 (some 2) 0 k,.ow 5005 (some 2) 0 k]),(5001,plB rows n),(5012,inB rows),(5003,mpsB S n k),(5004,lnsL S n k),(5005,lnsU S k)] h0
section
variable {rows:List Nat}
def luK_0:luK n ms mi mv S k rows 5000=some (wkB n ms mi mv [cnS mi n,.ow 5001 none 0 n,.ow 5012 none 0 (k+1),.ow 5003 none 0 k,.ow 5004 (some 2) 0 k,.ow 5005 (some 2) 0 k]):=rfl
def luK_1:luK n ms mi mv S k rows 5001=some (plB rows n):=rfl
def luK_2:luK n ms mi mv S k rows 5012=some (inB rows):=rfl
def luK_3:luK n ms mi mv S k rows 5003=some (mpsB S n k):=rfl
def luK_4:luK n ms mi mv S k rows 5004=some (lnsL S n k):=rfl
def luK_5:luK n ms mi mv S k rows 5005=some (lnsU S k):=rfl
def qtE {i:Nat} (h:luK n ms mi mv S k rows i≠none):5000<=i/\i<=5012:=by
 unfold luK at h
 rcases qak h with h | h
 .exact absurd rfl h
 .simp at h; omega
def qtD {i:Nat} (h:i < 5000\/5012 < i):luK n ms mi mv S k rows i=none:=Classical.byContradiction λhq=>by have:=qtE hq; omega
attribute [go_sem ↓] luK_0 luK_1 luK_2 luK_3 luK_4 luK_5 qtD
end
def ld6_d {a0 a1 a2 a3 a4 a5:PV}:ldU (some 6) (some 4) 1 (.ag [a0,a1,a2,a3,a4,a5])=some (.ag [a1,a2,a3,a4]):=by simp [ldU]
attribute [go_sem] ld6_d
end

def qcx {f:Nat->Nat->Option Nat} {j a:Nat} (h:∀ k,a<=k->f j k=none):∀ n,a<=n->tZ f j n=tZ f j a
 | 0,hn=>by
  obtain rfl:a=0:=ω
  rfl
 | n+1,hn=>by
  by_cases e:a=n+1
  .subst e; rfl
  .rw [qpw,qcx h n ω,h n ω]; simp
section
variable {S:LuS} {n j:Nat}
structure RwOk (n:Nat) (S:LuS):Prop where
 d:S.rows.Nodup
 b:∀ x ∈ S.rows,x < n
 l:S.rows.length=n
 p:∀ i m,S.iL i m=true->m < S.rows.idxOf i
end
abbrev inX (l:List Nat):List PV:=l.map λz:Nat=>iv z
section
variable {key:Nat->Nat} {ls:List Nat}
abbrev atB (l:List Nat):Bk:=⟨3,none,inX l,false⟩
def srH (l:List Nat):Hp:=hpG [(5000,atB l)] h0
def srH_0 {l:List Nat}:srH l 5000=some (atB l):=rfl
def qr0 {l:List Nat} {i:Nat} (h:srH l i≠none):i=5000:=by
 unfold srH at h
 rcases qak h with h | h
 .exact absurd rfl h
 .simpa using h
def qrZ {l:List Nat} {i:Nat} (h:i≠5000):srH l i=none:=Classical.byContradiction λhq=>h (qr0 hq)
attribute [go_sem ↓] srH_0 qrZ
end
section
variable {key:Nat->Nat} {ls:List Nat} {m:Nat} {fv:PV} {f:FuncId} {ys:List PV} {l0:List Nat}
end
end Go.Proofs.YtbjoghfmhgadkaaGreatDoor
namespace Go.E
open Go Go.RowKit
def qt8 [NL] {K:Kd} {x:PV} {A:Prop}:q1U none (.qt K x) A=A:=by simp [q1U,q44,qbz]
def qwN {τ:Nat->Option Nat} {h h':Hp} {K:Kd} {x:PV}:LeV τ h h' (.qt K x) (.qt K x)=True:=eq_true (.cl trivial)
attribute [go_sem] qt8 qwN
end Go.E
namespace Go.Proofs.YtbjoghfmhgadkaaGreatDoor
open Go Go.E Go.Sp
section
variable {n k:Nat} {rs vs:Nat->List Nat} {K:Nat->Nat} {f:Nat->Nat->Option Nat} {a0 a1 a2 a3 a4 a5 a7 a8 a9 a10:PV} {pl:List PV}
end
section
variable {F:Nat->Nat->Option Nat} {mi:List Int} {n j k num den:Nat} {S q r:LuS} {cols:List Int}
def qoV (h:q1r F mi n S j k num den=(0,r)):∃ q p,upS F S j k k=some q/\p < n/\p ∉ q.rows/\ofZ (rsV F q j k p)≠0/\r=loE (pvS q k (rsV F q j k) p) k (rsZ F q j k) (ofZ (rsV F q j k p)) n:=by
 cases hu:upS F S j k k with
 | none=>rw [qu5 hu] at h; cases h
 | some q =>
  by_cases h2:∀ i,i < n->i ∉ q.rows->q0I (fR 0 (rsZ F q j k i))
  .by_cases h3:q8V F mi q n j k num den < 0
   .rw [qu3 hu h2 h3] at h; cases h
   .have hrg:=qkn (F:=F) (mi:=mi) (q:=q) (n:=n) (j:=j) (k:=k) (num:=num) (den:=den);obtain ⟨p,hp⟩:∃ p,(q8b F q n j k)[(q8V F mi q n j k num den).toNat]?=some p:=⟨_,zA Oq⟩;obtain ⟨p1,p2,p3,p4,p5,p6⟩:=qbH Oq hp;refine ⟨q,p,rfl,p1,p2,q9F (by rw [p4]; exact h2 p p1 p2) (by rw [p4]; exact q51) p6,?_⟩
    by_cases hb:∀ i ∈ q8b F q n j k,i≠p->q0I (q4D 0 (rsZ F q j k i) (ofZ (rsV F q j k p)))
    .rw [qu1 hu h2 ω hp hb] at h;exact (Prod.mk.inj h).2.symm
    .refine absurd (λi hi hip=>Classical.byContradiction λhf=>?_) hb;rw [qu2 hu h2 ω hp hi hip hf] at h;cases h
  .rw [qu4 hu h2] at h; cases h
def RwI (S:LuS):Prop:=∀ i m,S.iL i m=true->m < S.rows.idxOf i
def RwI_s {p:Nat} {Z:Nat->Int} {V:Nat->Nat} {d:Int} (h:RwI S) (hf:∀ i m,k<=m->S.iL i m=false) (hk:S.rows.length=k) (h2:q.iL=S.iL) (hr:q.rows=S.rows):RwI (loE (pvS q k V p) k Z d n):=λi m hm=>by
 rw [q4z,hr]
 by_cases hmk:m=k
 .subst hmk;unfold loE pvS at hm;dsimp only at hm
  by_cases hc:m=m/\i < n/\i ∉ q.rows ++ [p]
  .obtain ⟨_,_,hc⟩:=hc;rw [hr] at hc;rw [wK hc,yE];simp; omega
  .rw [if_neg hc,h2,hf i m (zH _)] at hm;cases hm
 .rw [(q47 hmk).2.1,h2] at hm;have:=h i m hm;rw [List.idxOf_append]
  split
  .exact this
  .rename_i hni;rw [wK hni] at this;omega
def facI:∀ k,(q1C F mi n cols num den k).1=0->LuI k (q1C F mi n cols num den k).2.2/\RwI (q1C F mi n cols num den k).2.2
 | 0,_=>⟨⟨λ_ _ _=>by simp [q1C,qc0]; exact qa4,λ_ _ _=>rfl,by simp [q1C,qc0]⟩,λ_ _ h=>by simp [q1C,qc0] at h⟩
 | k+1,h=>by
  have hs:q1C F mi n cols num den (k+1)=if (q1C F mi n cols num den k).1=0 then ((q1r F mi n (q1C F mi n cols num den k).2.2 (lfN cols k) k num den).1,if (q1r F mi n (q1C F mi n cols num den k).2.2 (lfN cols k) k num den).1=9 then k else 0,(q1r F mi n (q1C F mi n cols num den k).2.2 (lfN cols k) k num den).2) else q1C F mi n cols num den k:=rfl
  have hk0:(q1C F mi n cols num den k).1=0:=Classical.byContradiction λhc=>by
   rw [hs,if_neg hc] at h;exact hc h
  obtain ⟨i1,i2⟩:=facI k hk0;have hG:=q2m (F:=F) (mi:=mi) (n:=n) (cols:=cols) (num:=num) (den:=den) k hk0;rw [hs,if_pos hk0] at h ⊢;simp only at h ⊢;generalize (q1C F mi n cols num den k).2.2=S at *;have he:q1r F mi n S (lfN cols k) k num den=(0,(q1r F mi n S (lfN cols k) k num den).2):=Prod.ext h rfl;obtain ⟨q,p,hu,p1,p2,p3,e⟩:=qoV he;obtain ⟨ql,qiL,qr,_⟩:=qcl k q hu;rw [e];exact ⟨clS_I i1 ql qiL qr p2 p3,RwI_s i2 i1.f hG.len qiL qr⟩
def qth (h:(q1C F mi n cols num den n).1=0):RwOk n (q1C F mi n cols num den n).2.2:=by
 obtain ⟨i1,i2⟩:=facI n h;have hG:=q2m (F:=F) (mi:=mi) (n:=n) (cols:=cols) (num:=num) (den:=den) n h;exact ⟨i1.r,hG.r,hG.len,i2⟩
end

end Go.Proofs.YtbjoghfmhgadkaaGreatDoor
namespace Go.E
open Go Go.RowKit
def qt5 {off:Nat} {a b c d e:PV} {cs:List PV}:flS (some (off,5)) (.ag [a,b,c,d,e]) cs=q86 cs off [a,b,c,d,e]:=by
 rw [q4L σ];simp [flS]
attribute [go_sem] qt5
end Go.E
namespace Go.Proofs.YtbjoghfmhgadkaaGreatDoor
open Go Go.E Go.Sp
section
variable {F:Nat->Nat->Option Nat} {n:Nat} {cols:List Int} {num den:Nat}
end
def qms {f m e:Nat} (h1:f / 4503599627370496 % 2048=e) (h2:e≠0) (h3:e≠2047) (h4:f < 9223372036854775808) (h5:4503599627370496+f % 4503599627370496=m):ofZ f=(m:Int)*(2:Int) ^ (64461+e):=by
 refine q0S ?_;unfold ofF;rw [h1,if_neg h3,if_neg h2,decide_eq_false ω,h5]
 rfl
def fR_u {z K s:Nat} (hK:K=65536) (hs:s<=K) (hz:0 < z):fR 0 ((z:Int)*(2:Int) ^ (K-s))=rF 0 false z (2 ^ s):=by
 have hp:=q0L (K-s);have hpos:0 < (z:Int)*(2:Int) ^ (K-s):=wL Oq hp;unfold fR;rw [if_neg ω,decide_eq_false ω,q0G,z6,<- hK,show (2:Nat) ^ K=2 ^ s*2 ^ (K-s) by rw [<- zJ]; congr 1; omega];exact q38 hz (q0E _) (q0E _)
section
variable {K:Nat}
end
def qmf {m:Int} {k c:Nat} (h:c<=k):(2:Int) ^ c ∣ m*(2:Int) ^ k:=by
 obtain ⟨e,rfl⟩:∃ e,k=c+e:=⟨k-c,ω⟩;rw [tH,zY];exact Int.dvd_mul_right _ _
def q9J {x y K:Nat} (hK:K=65536) (hx:q0I x) (hy:q0I y):q0v x y*(2:Int) ^ K=ofZ x*ofZ y/\∀ c,c<=60000->(2:Int) ^ c ∣ q0v x y:=by
 obtain ⟨m,k,h,h1,h2,h3⟩:=q2A hx;obtain ⟨m',k',h',h1',h2',h3'⟩:=q2A hy;have e:ofZ x*ofZ y=m*m'*(2:Int) ^ (k+k'):=by
  rw [q0S h,q0S h',tH];simp only [zS,zY,z9]
 have hb:bl (m*m').natAbs<=106:=by
  rw [zV];exact zO (q1s _ _) Oq
 have hm:=q5V (m:=m*m') (E := -131072+((k+k':Nat):Int)) Oq Oq;obtain ⟨t,ht⟩:∃ t,t=(-131072+((k+k':Nat):Int)+65536).toNat:=⟨_,rfl⟩;rw [<- ht] at hm;have hv:q0v x y=m*m'*(2:Int) ^ t:=by
  unfold q0v;rw [e,q1S,hm]; rfl
 refine ⟨?_,λc hc=>?_⟩
 .rw [hv,e,zS,<- tH,show t+K=k+k' by omega]
 .rw [hv]; exact qmf Oq
section
variable {f1 f2 f4 f6 fq fh:Nat} {Q:Int}
section
variable {F:Nat->Nat->Option Nat} {mi:List Int} {S q t:LuS} {j k p:Nat}
end
section
variable {v:Nat->Nat} {S:LuS} {mi:List Int} {num den i:Nat} {w:Int}
end
end
end Go.Proofs.YtbjoghfmhgadkaaGreatDoor
namespace Go.E
open Go Go.RowKit
end Go.E
namespace Go.Proofs.YtbjoghfmhgadkaaGreatDoor
open Go Go.E Go.Sp
section
variable {pm cp ri:List Int} {vs l:List Nat}
end
section
variable {pm cp ri:List Int} {vs b:List Nat} {f:FuncId} {r:PV}
end


end Go.Proofs.YtbjoghfmhgadkaaGreatDoor
namespace Go.E
open Go Go.RowKit
section
variable {P:Program} {Tb:World->Prop} {s:Nat->PV} {h:Hp} {K:PV->Hp->FP->Prop} {t:TypeId} {dd:Nat}
def qp0 [NL] {a b c f}:ao P Tb (some dd) (.buildSlice t 4 #[(0,a),(1,b),(2,c),(3,f)]) s h K=nnK (h dd) dd (@oK _ (elK P t) ⟨λe=>@cK (4*ksz e.2.1<=16777216) ⟨vK (pe s a) λx=>vK (pe s b) λy=>vK (pe s c) λz=>vK (pe s f) λu=>q1U e.2.1 x (q1U e.2.1 y (q1U e.2.1 z (q1U e.2.1 u (K (.ow dd e.2.1 0 4) (q0P h dd ⟨e.1,e.2.1,[x,y,z,u],false⟩) ([],[dd])))))⟩⟩):=by
 have:=qcO (P:=P) (Tb:=Tb) (s:=s) (h:=h) (K:=K) (t:=t) (dd:=dd) (len:=4) (ps:=[(0,a),(1,b),(2,c),(3,f)]) rfl;simpa [oK,cK,q6L,q6K,vK] using this
attribute [go_sem ↓] qp0
end
section
variable {P:Program} {Tb:World->Prop} {J:Nat->Prop} {n:Nat} {Q:SQ} {s:Nat->PV} {h:Hp}
end
end Go.E
namespace Go.Proofs.YtbjoghfmhgadkaaGreatDoor
open Go Go.E Go.Sp
section
variable {raw:List Nat} {n st:Int} {rg:Bool}
end
section
variable {F:Nat->Nat->Option Nat} {mi:List Int} {n j k num den:Nat} {S q r:LuS} {cols:List Int}
def qkU {l l' u u':Nat->Nat->Nat} {i j k:Nat}:∀ m,(∀ p,p < m->l i p=l' i p/\u p k=u' p k)->luL F l u i j k m=luL F l' u' i j k m
 | 0,_=>rfl
 | m+1,h=>by rw [luL,luL,qkU m λp hp=>h p ω,(h m ω).1,(h m ω).2]
def qeK {l l' u u':Nat->Nat->Nat} {i j k m:Nat} (h:∀ p,p < m->l i p=l' i p/\u p k=u' p k):luZ F l u i j k m=luZ F l' u' i j k m:=by
 unfold luZ;rw [qkU m h]
def qqb:∀ (m:Nat) (q:LuS),upS F S j k m=some q->∀ c,c < m->q.u c k=fR 0 (luZ F q.l q.u (S.rows.getD c 0) j k c)/\q.iU c k=decide (luZ F q.l q.u (S.rows.getD c 0) j k c≠0)
 | 0,q,_,c,hc=>by omega
 | m+1,q,h,c,hc=>by
  unfold upS at h;obtain ⟨t,ht,h⟩:=xZ.1 h;have ih:=qqb m t ht
  split at h
  .cases h;simp only;have e:∀ v c,c<=m->luZ F t.l (q29 t.u m k v) (S.rows.getD c 0) j k c=luZ F t.l t.u (S.rows.getD c 0) j k c:=λv c hc=>qeK λp hp=>⟨rfl,if_neg λq=>by omega⟩;rw [e _ c ω]
   by_cases hcm:c=m
   .subst hcm;exact ⟨if_pos ⟨rfl,rfl⟩,if_pos ⟨rfl,rfl⟩⟩
   .obtain ⟨i1,i2⟩:=ih c Oq;exact ⟨(if_neg λq=>hcm q.1).trans i1,(if_neg λq=>hcm q.1).trans i2⟩
  .cases h
def qdx {v:Nat->Nat}:∀ n i,i < n->abZ (v i)<=mxZ v n
 | n+1,i,h=>by
  rw [mxZ]
  by_cases e:i=n
  .subst e; split <;> omega
  .have:=qdx (v:=v) n i Oq
   split <;> omega
def q9d {v:Nat->Nat} {w:Int}:∀ i,0<=bsP v S mi num den w i->¬ (den:Int)*abZ (v (bsP v S mi num den w i).toNat) < num*w
 | 0,h=>by simp [bsP] at h
 | i+1,h=>by
  rw [bsP] at h ⊢
  by_cases c:i ∈ S.rows\/(v i=0\/v i=9223372036854775808)\/(den:Int)*abZ (v i) < num*w
  .rw [if_pos c] at h ⊢;exact q9d i h
  .rw [if_neg c] at h ⊢
   by_cases c2:bsP v S mi num den w i < 0\/q3T mi i < q3T mi (bsP v S mi num den w i).toNat
   .rw [if_pos c2,tG];exact λq=>c (.inr (.inr q))
   .rw [if_neg c2] at h ⊢;exact q9d i h
def qrv {i:Nat} (h:i ∉ q.rows):rsV F q j k i=fR 0 (rsZ F q j k i):=if_neg h
def qie (h:q1r F mi n S j k num den=(0,r)):∃ q p,upS F S j k k=some q/\p < n/\p ∉ q.rows/\ofZ (rsV F q j k p)≠0/\r=loE (pvS q k (rsV F q j k) p) k (rsZ F q j k) (ofZ (rsV F q j k p)) n/\(num=den->0 < den->∀ i,i < n->i ∉ q.rows->(ofZ (fR 0 (rsZ F q j k i))).natAbs<=(ofZ (rsV F q j k p)).natAbs)/\(∀ i,i < n->i ∉ q.rows->q0I (fR 0 (rsZ F q j k i))):=by
 cases hu:upS F S j k k with
 | none=>rw [qu5 hu] at h; cases h
 | some q =>
  by_cases h2:∀ i,i < n->i ∉ q.rows->q0I (fR 0 (rsZ F q j k i))
  .by_cases h3:q8V F mi q n j k num den < 0
   .rw [qu3 hu h2 h3] at h; cases h
   .have hrg:=qkn (F:=F) (mi:=mi) (q:=q) (n:=n) (j:=j) (k:=k) (num:=num) (den:=den);obtain ⟨p,hp⟩:∃ p,(q8b F q n j k)[(q8V F mi q n j k num den).toNat]?=some p:=⟨_,zA Oq⟩;obtain ⟨p1,p2,p3,p4,p5,p6⟩:=qbH Oq hp;refine ⟨q,p,rfl,p1,p2,q9F (by rw [p4]; exact h2 p p1 p2) (by rw [p4]; exact q51) p6,?_,λhnd hd i hi hir=>?_,h2⟩
    .by_cases hb:∀ i ∈ q8b F q n j k,i≠p->q0I (q4D 0 (rsZ F q j k i) (ofZ (rsV F q j k p)))
     .rw [qu1 hu h2 ω hp hb] at h;exact (Prod.mk.inj h).2.symm
     .refine absurd (λi hi hip=>Classical.byContradiction λhf=>?_) hb;rw [qu2 hu h2 ω hp hi hip hf] at h;cases h
    .have t:=q9d (v:=rsV F q j k) (S:=q) (mi:=mi) (num:=num) (den:=den) (w:=mxZ (rsV F q j k) n) n (by rw [p5]; omega);rw [p5,tG,hnd] at t;have t2:mxZ (rsV F q j k) n<=abZ (rsV F q j k p):=Int.not_lt.1 λhlt=>t (Int.mul_lt_mul_of_pos_left hlt Oq);have t3:=qdx (v:=rsV F q j k) n i hi;rw [qrv hir] at t3;unfold abZ at t2 t3;omega
  .rw [qu4 hu h2] at h; cases h
structure FcI (F:Nat->Nat->Option Nat) (n:Nat) (cols:List Int) (num den k:Nat) (S:LuS):Prop where
 u:∀ c,c < k->∀ m,m < c->S.u m c=fR 0 (luZ F S.l S.u (S.rows.getD m 0) (lfN cols c) c m)/\S.iU m c=decide (luZ F S.l S.u (S.rows.getD m 0) (lfN cols c) c m≠0)
 d:∀ c,c < k->S.u c c=fR 0 (luZ F S.l S.u (S.rows.getD c 0) (lfN cols c) c c)/\ofZ (S.u c c)≠0/\S.iU c c=true
 l:∀ c,c < k->∀ i,i < n->i ∉ S.rows.take (c+1)->S.l i c=q4D 0 (luZ F S.l S.u i (lfN cols c) c c) (ofZ (S.u c c))/\S.iL i c=decide (luZ F S.l S.u i (lfN cols c) c c≠0)/\q0I (fR 0 (luZ F S.l S.u i (lfN cols c) c c))
 b:num=den->0 < den->∀ c,c < k->∀ i,i < n->i ∉ S.rows.take (c+1)->(ofZ (fR 0 (luZ F S.l S.u i (lfN cols c) c c))).natAbs<=(ofZ (S.u c c)).natAbs
def FcI_s (h:FcI F n cols num den k S) (hk:S.rows.length=k) (he:q1r F mi n S (lfN cols k) k num den=(0,r)):FcI F n cols num den (k+1) r:=by
 obtain ⟨q,p,hu,p1,p2,p3,e,hb,hfi⟩:=qie he;obtain ⟨ql,qiL,qr,qo⟩:=qcl k q hu;have hv:=qqb k q hu;generalize hV:rsV F q (lfN cols k) k=V at *;generalize hZ:rsZ F q (lfN cols k) k=Z at *;have rr:r.rows=S.rows ++ [p]:=by rw [e,q4z,qr]
 have ro:∀ a b,b≠k->r.l a b=S.l a b/\r.iL a b=S.iL a b/\r.u a b=S.u a b/\r.iU a b=S.iU a b:=λa b hb=>by
  obtain ⟨a1,a2,a3,a4⟩:=q47 (q:=q) (k:=k) (V:=V) (p:=p) (Z:=Z) (d:=ofZ (V p)) (n:=n) (a:=a) hb;obtain ⟨b1,b2⟩:=qo a b hb;rw [e];exact ⟨a1.trans (by rw [ql]),a2.trans (by rw [qiL]),a3.trans b1,a4.trans b2⟩
 have ru:∀ a,a≠k->r.u a k=q.u a k/\r.iU a k=q.iU a k:=λa ha=>by
  rw [e];exact ⟨if_neg λx=>ha x.1,if_neg λx=>ha x.1⟩
 have rk:r.u k k=V p/\r.iU k k=true:=by
  rw [e];exact ⟨if_pos ⟨rfl,rfl⟩,if_pos ⟨rfl,rfl⟩⟩
 have rl:∀ i,i < n->i ∉ S.rows ++ [p]->r.l i k=q4D 0 (Z i) (ofZ (V p))/\r.iL i k=decide (Z i≠0):=λi hi hr=>by
  rw [e];rw [<- qr] at hr;exact ⟨if_pos ⟨rfl,hi,hr⟩,if_pos ⟨rfl,hi,hr⟩⟩
 have gR:∀ c,c < k->r.rows.getD c 0=S.rows.getD c 0:=λc hc=>by rw [rr,zB,zB,List.getElem?_append_left ω]
 have gK:r.rows.getD k 0=p:=by
  subst hk;rw [rr,zB,yS]; rfl
 have tK:∀ c,c < k->r.rows.take (c+1)=S.rows.take (c+1):=λc hc=>by rw [rr,List.take_append_of_le_length ω]
 have tA:r.rows.take (k+1)=S.rows ++ [p]:=by rw [rr,zU (by simp; omega)]
 have zo:∀ c,c < k->∀ i m,m<=c->luZ F r.l r.u i (lfN cols c) c m=luZ F S.l S.u i (lfN cols c) c m:=λc hc i m hm=>qeK λp hp=>⟨(ro i p Oq).1,(ro p c Oq).2.2.1⟩;have zk:∀ i m,m<=k->luZ F r.l r.u i (lfN cols k) k m=luZ F q.l q.u i (lfN cols k) k m:=λi m hm=>qeK λp hp=>⟨(ro i p ω).1.trans (by rw [ql]),(ru p ω).1⟩;have zZ:∀ i,luZ F q.l q.u i (lfN cols k) k k=Z i:=λi=>by rw [<- hZ]; rfl
 have hVp:V p=fR 0 (Z p):=by rw [<- hV,<- hZ]; exact qrv p2
 refine ⟨λc hc m hm=>?_,λc hc=>?_,λc hc i hi hir=>?_,λhnd hd c hc i hi hir=>?_⟩
 .by_cases hck:c=k
  .subst hck;rw [gR m hm,zk _ m ω,(ru m ω).1,(ru m ω).2];exact hv m hm
  .rw [gR m ω,zo c ω _ m ω,(ro m c hck).2.2.1,(ro m c hck).2.2.2];exact h.u c Oq m hm
 .by_cases hck:c=k
  .subst hck;rw [gK,zk _ _ (zH _),rk.1,rk.2,zZ];exact ⟨hVp,p3,rfl⟩
  .rw [gR c ω,zo c ω _ c (zH _),(ro c c hck).2.2.1,(ro c c hck).2.2.2];exact h.d c Oq
 .by_cases hck:c=k
  .subst hck;rw [tA] at hir;rw [zk _ _ (zH _),rk.1,zZ,(rl i hi hir).1,(rl i hi hir).2];exact ⟨rfl,rfl,hfi i hi λhq=>hir (xM _ (qr ▸ hq))⟩
  .rw [tK c ω] at hir;rw [zo c ω _ c (zH _),(ro c c hck).2.2.1,(ro i c hck).1,(ro i c hck).2.1];exact h.l c Oq i hi hir
 .by_cases hck:c=k
  .subst hck;rw [tA] at hir;rw [zk _ _ (zH _),rk.1,zZ];exact hb hnd hd i hi λhq=>hir (xM _ (qr ▸ hq))
  .rw [tK c ω] at hir;rw [zo c ω _ c (zH _),(ro c c hck).2.2.1];exact h.b hnd hd c Oq i hi hir
def facE:∀ k,(q1C F mi n cols num den k).1=0->FcI F n cols num den k (q1C F mi n cols num den k).2.2
 | 0,_=>⟨λ_ h=>by omega,λ_ h=>by omega,λ_ h=>by omega,λ_ _ _ h=>by omega⟩
 | k+1,h=>by
  have hs:q1C F mi n cols num den (k+1)=if (q1C F mi n cols num den k).1=0 then ((q1r F mi n (q1C F mi n cols num den k).2.2 (lfN cols k) k num den).1,if (q1r F mi n (q1C F mi n cols num den k).2.2 (lfN cols k) k num den).1=9 then k else 0,(q1r F mi n (q1C F mi n cols num den k).2.2 (lfN cols k) k num den).2) else q1C F mi n cols num den k:=rfl
  have hk0:(q1C F mi n cols num den k).1=0:=Classical.byContradiction λhc=>by
   rw [hs,if_neg hc] at h;exact hc h
  have ih:=facE k hk0;have hG:=q2m (F:=F) (mi:=mi) (n:=n) (cols:=cols) (num:=num) (den:=den) k hk0;rw [hs,if_pos hk0] at h ⊢;simp only at h ⊢;generalize (q1C F mi n cols num den k).2.2=S at *;exact FcI_s ih hG.len (Prod.ext h rfl)
end
section
variable {f:Nat->Nat->Option Nat} {R C:Nat}
def qj0 {j:Nat} (hj:j < C):(((tM f R C).2.1.take (tO f R (j+1))).drop (tO f R j))=(tZ f j R).map λq=>(q.1:Int):=by
 obtain ⟨b,c,e1,_⟩:=qdC (f:=f) (R:=R) hj;rw [e1,qaF];have ho:tO f R j=(tM f R j).2.1.length:=rfl;rw [ho,List.append_assoc,List.take_length_add_append,List.drop_append_of_le_length (zH _),List.drop_length,List.nil_append];exact List.take_left' (by rw [zL])
def qpN {l:List (Nat × Nat)} (h:l.Pairwise λa b=>a.1 < b.1):q9s (l.map λq=>(q.1:Int)):=λi x y hx hy=>by
 rw [z8] at hx hy;obtain ⟨a,ha,rfl⟩:=yQ.1 hx;obtain ⟨b,hb,rfl⟩:=yQ.1 hy;obtain ⟨h1,e1⟩:=zQ.1 ha;obtain ⟨h2,e2⟩:=zQ.1 hb;have:=xT.1 h i (i+1) h1 h2 Oq;rw [e1,e2] at this;omega
def qj1 {G:Nat->List Int->Prop} (hG:∀ j,j < C->G j ((tZ f j R).map λq=>(q.1:Int))):CmpOk C (tM f R C).1 (tM f R C).2.1 G:=by
 refine ⟨by rw [q1N (zE _)]; rfl,by rw [q1N (zH _)]; rfl,λj hj=>⟨tO f R j,tO f R (j+1),q1N ω,q1N ω,by rw [qaF]; omega,?_,?_,?_⟩⟩
 .obtain ⟨b,c,e1,_⟩:=qdC (f:=f) (R:=R) hj;rw [e1,qaF,yE,yE,zL];have ho:tO f R j=(tM f R j).2.1.length:=rfl;omega
 .rw [qj0 hj];exact qpN (qaE R)
 .rw [qj0 hj];exact hG j hj
def qoY {k:Nat} (hk:k < C):q55 (tM f R C).1 (tM f R C).2.1 (tM f R C).2.2 k=tZ f k R:=by
 rw [q3m (q1N ω) (q1N ω),show tO f R (k+1)-tO f R k=(tZ f k R).length by rw [qaF]; omega]
 apply xW
 intro t;rw [z8]
 by_cases ht:t < (tZ f k R).length
 .obtain ⟨q,q1,q2,q3⟩:=q64 (f:=f) (R:=R) (C:=C) (j:=k) (k:=tO f R k+t) hk ω (by rw [qaF]; omega);rw [show tO f R k+t-tO f R k=t by omega] at q1;rw [zF ht,yR,q1,getD_some q2,getD_some q3,tG]
 .rw [yH (by simpa using ht),yH ω]; rfl
def ctV_Z {i j:Nat} (hi:i < R):ctV (tZ f j R) i=(f j i).getD 0:=by
 cases h:f j i with
 | none =>
  unfold ctV;have:((tZ f j R).find? λe=>e.1 == i)=none:=wS.2 λe he hq=>by
   have h1:=(q2M.1 (show (e.1,e.2) ∈ tZ f j R from he)).2;rw [beq_iff_eq.1 hq,h] at h1;cases h1
  rw [this]; rfl
 | some x =>
  have hm:(i,x) ∈ tZ f j R:=q2M.2 ⟨hi,h⟩;obtain ⟨t,ht⟩:=yM.1 hm;refine q98 ?_ ht;exact List.Pairwise.map _ (λa b q=>Nat.ne_of_lt q) (qaE R)
end
section
variable {F:Nat->Nat->Option Nat} {mi:List Int} {n k num den:Nat} {S:LuS} {cols:List Int}
def qlx (h:FcI F n cols num den n S) {k:Nat} (hk:k < n):tZ (fUt S) k n=tZ (fUt S) k k ++ [(k,S.u k k)]:=by
 rw [qcx (a:=k+1) (λc hc=>if_neg λh=>by omega) n ω,qpw];have:fUt S k k=some (S.u k k):=if_pos ⟨zH _,(h.d k hk).2.2⟩;rw [this]
def quk (h:FcI F n cols num den n S) (hG:LuG n n S) (hR:RwOk n S) (hn:n<=100) (hc:q2q cols n):q5o (q8a S cols n)=0:=by
 have hrl:(q8a S cols n).rows.length=n:=by
  show (S.rows.map λz:Nat=>(z:Int)).length=n
  rw [zL,hG.len]
 have h1:=q0w (f:=fLt S) (R:=n) n;have h2:=q0w (f:=fUt S) (R:=n) n;have hL:∀ {j i x:Nat},fLt S j i=some x->j < i/\x=S.l (S.rows.getD i 0) j:=λ{j i x} h=>by
  unfold fLt at h
  split at h
  .rename_i q; cases h; exact ⟨q.1,rfl⟩
  .cases h
 have hU:∀ {j i x:Nat},fUt S j i=some x->i<=j/\x=S.u i j:=λ{j i x} h=>by
  unfold fUt at h
  split at h
  .rename_i q; cases h; exact ⟨q.1,rfl⟩
  .cases h
 unfold q5o;rw [hrl,if_neg ω,if_neg,if_neg,if_neg,if_pos]
 .refine ⟨λx hx=>?_,λx hx=>?_,λk hk a x ha hx=>?_⟩
  .obtain ⟨j,i,_,_,e⟩:=q2g n hx;rw [(hL e).2]; exact (hG.l _ _).1
  .obtain ⟨j,i,_,_,e⟩:=q2g n hx;rw [(hU e).2]; exact (hG.u _ _).1
  .have e1:(q8a S cols n).us[k+1]?=some (tO (fUt S) n (k+1):Int):=q1N Oq;rw [e1] at ha;have ha:=xG.inj ha;have e2:tO (fUt S) n (k+1)=tO (fUt S) n k+(tZ (fUt S) k k).length+1:=by rw [qaF,qlx h hk,yE]; rfl
   obtain ⟨q,q1,q2,q3⟩:=q64 (f:=fUt S) (R:=n) (C:=n) (j:=k) (k:=a) hk Oq Oq;rw [qlx h hk,show a-tO (fUt S) n k=(tZ (fUt S) k k).length by omega,yS] at q1;cases q1;have:x=S.u k k:=xG.inj (hx.symm.trans q3);rw [this];exact (h.d k hk).2.1
 .refine not_not_intro ⟨?_,?_⟩
  .rw [hrl];refine qj1 λj hj=>⟨λz hz=>?_,λz hz=>?_⟩
   .obtain ⟨q,hq,rfl⟩:=zN.1 (zC hz);have:=(hL (q2M.1 (show (q.1,q.2) ∈ _ from hq)).2).1;omega
   .obtain ⟨q,hq,rfl⟩:=zN.1 (zC hz);have:=(q2M.1 (show (q.1,q.2) ∈ _ from hq)).1;omega
  .rw [hrl];refine qj1 λj hj=>⟨λz hz=>?_,?_⟩
   .obtain ⟨q,hq,rfl⟩:=zN.1 (zC hz);omega
   .rw [qlx h hj,zK,yE,yI,List.length_singleton,Nat.add_sub_cancel,yS]
 .exact not_not_intro ⟨h1.1,h2.1,h1.2.1,h2.2.1⟩
 .refine not_not_intro ⟨⟨by rw [hrl],λx hx=>?_,?_⟩,hc⟩
  .obtain ⟨y,hy,rfl⟩:=zN.1 (show x ∈ S.rows.map λz:Nat=>(z:Int) from hx);have:=hG.r y hy;omega
  .exact List.Pairwise.map _ (λa b q e=>q (by exact Int.ofNat.inj e)) hR.d
def qsy (hG:LuG n n S) (hn:n<=100) (hc:cols.length=n):LUb (q8a S cols n):=by
 have hnn:n*n<=100*100:=zR hn hn;have h1:=q0w (f:=fLt S) (R:=n) n;have h2:=q0w (f:=fUt S) (R:=n) n;have h3:=hG.len;refine ⟨?_,?_,?_,?_,?_,?_,?_,?_,λx hx=>?_,λx hx=>?_⟩
 rotate_left 8
 .obtain ⟨j,i,_,_,e⟩:=q2g n hx;unfold fLt at e
  split at e
  .cases e; exact (hG.l _ _).2
  .cases e
 .obtain ⟨j,i,_,_,e⟩:=q2g n hx;unfold fUt at e
  split at e
  .cases e; exact (hG.u _ _).2
  .cases e
 all_goals
  unfold q8a;simp only [zL];omega
end
def qrx {neg:Bool} {A B m:Nat} (hB:0 < B) (h1:m*B<=A) (h2:2*A<=(2*m+1)*B) (hm:m % 2=0):rq 0 neg A B=m:=by
 have hd:A / B=m:=by
  refine Nat.div_eq_of_lt_le ?_ ?_
  .exact h1
  .have:(2*m+1)*B=2*(m*B)+B:=by rw [wZ,zP,tV]
   have e2:(m+1)*B=m*B+B:=by rw [wZ,tV]
   omega
 have hr:A % B+m*B=A:=by have:=Nat.mod_add_div A B; rw [hd,yO] at this; exact this
 have e:(2*m+1)*B=2*(m*B)+B:=by rw [wZ,zP,tV]
 unfold rq;rw [hd,if_neg (by omega:¬ (0:Int)=1),if_neg (by omega:¬ (0:Int)=2),if_neg (by omega:¬ (0:Int)=3)]
 split
 .rfl
 .rw [if_neg];generalize m*B=x at *;omega
def q7M {neg:Bool} {x:Nat} (h:x < 9223372036854775808):q2S (sb neg x)=x:=by
 unfold q2S sb
 split <;> omega
def qoA {neg:Bool}:q2S (fin 0 neg 4503599627370496 (-52))<=4607182418800017408:=by
 unfold fin q4g;rw [if_neg ω,if_neg ω,if_neg ω,q7M ω];omega
def qsM {neg:Bool} {N D:Nat} (hN:0 < N) (hD:0 < D) (h:9007199254740992*N<=9007199254740993*D):q2S (rF 0 neg N D)<=4607182418800017408:=by
 have hk1:2*(N*4503599627370496)<=(2*4503599627370496+1)*D:=ω
 obtain ⟨K,hK⟩:∃ K,K=65536:=⟨_,rfl⟩;obtain ⟨u,r,h1,h2,h3,h4,h5⟩:=q2j (mode:=0) (neg:=neg) (N:=N) (D:=D) (K:=K) hN hD Oq;rw [h2];have big:∀ q:Int,q <= -53->∀ m,m<=9007199254740992->q2S (fin 0 neg m q)<=4607182418800017408:=λq hq m hm=>by
  unfold fin
  split
  .unfold q4g;rw [if_neg ω,if_neg ω,q7M ω];omega
  .unfold q4g
   split
   .rw [q7M ω]; omega
   .rw [if_neg ω,q7M ω]; omega
 rcases h5 with h5 | ⟨h5,h6⟩
 .exact big _ Oq r h4
 .have hu:u+52<=K:=by
   refine Classical.byContradiction λhc=>?_;obtain ⟨d,rfl⟩:∃ d,u=K-51+d:=⟨u-(K-51),ω⟩;have e1:D*2 ^ (K-51+d+52)=D*2*2 ^ d*2 ^ K:=by
    rw [show K-51+d+52=1+d+K by omega,zJ,zJ,Nat.pow_one,zP,zP,zP]
   rw [e1] at h6;have h7:=yV h6 (q0E K);have h8:D*2*1<=D*2*2 ^ d:=yG _ (q0E d);omega
  by_cases hu2:u+53<=K
  .exact big _ Oq r h4
  .have hr:r=4503599627370496:=by
    rw [h3];have e1:N*2 ^ K=N*4503599627370496*2 ^ u:=by
     rw [show K=52+u by omega,zJ,<- zP]
    have hp:=q0E u;rw [show (u+52)=52+u by omega,zJ,<- zP,e1] at h6;have h7:=yV h6 hp;rw [show (2:Nat) ^ 52=4503599627370496 by decide] at h7;rw [e1];refine qrx (tW hD hp) ?_ ?_ Oq
    .rw [<- zP];exact zM _ (zO (Nat.le_of_eq (yO _ _)) h7)
    .rw [<- zP 2,<- zP (2*4503599627370496+1)];exact zM _ hk1
   have hq:(u:Int)-K = -52:=by clear h2 h3 h6; omega
   rw [hr,hq];exact qoA
section
variable {F:Nat->Nat->Option Nat} {mi:List Int} {n k num den:Nat} {S:LuS} {cols:List Int}
end
def qa1 {d l:Int} {K:Nat} (hK:K=65536) (hl:l≠0) (hf:q0I (fQ 0 d l)):(d*(2:Int) ^ K-l*ofZ (fQ 0 d l)).natAbs<=d.natAbs*2 ^ (K-53)+l.natAbs*2 ^ (K-1075):=by
 rcases Int.lt_or_gt_of_ne hl with h | h
 .have e:fQ 0 d l=fQ 0 (-d) (-l):=by
   unfold fQ
   by_cases hd:d=0
   .rw [if_pos hd,if_pos ω]
   .rw [if_neg hd,if_neg ω,zX,zX,decide_eq_true h,decide_eq_false (by omega:¬ -l < 0)]
    congr 1
    by_cases h0:d < 0
    .rw [decide_eq_true h0,decide_eq_false (by omega:¬ -d < 0)]; rfl
    .rw [decide_eq_false h0,decide_eq_true (by omega : -d < 0)]; rfl
  rw [e] at hf ⊢;have:=q9C hK (show 0 < -l by omega) hf;rw [zX,zX,w4,w4] at this;rw [show d*(2:Int) ^ K-l*ofZ (fQ 0 (-d) (-l)) = -(-(d*(2:Int) ^ K) - -(l*ofZ (fQ 0 (-d) (-l)))) by
   generalize d*(2:Int) ^ K=a;generalize l*ofZ (fQ 0 (-d) (-l))=b;omega,zX]
  exact this
 .exact q9C hK h hf
def fR_Q {d:Int}:fR 0 d=fQ 0 d q04:=by
 obtain ⟨K,hK⟩:∃ K,K=65536:=⟨_,rfl⟩;rw [q2O,<- hK];have hp:=q0L K;have e:((2:Int) ^ K).natAbs=2 ^ K:=natAbs_pow _;unfold fR fQ;rw [<- hK,e,decide_eq_false (Int.not_lt.2 (yY hp))]
 split
 .rfl
 .cases decide (d < 0) <;> rfl
section
variable {F:Nat->Nat->Option Nat} {mi:List Int} {n k num den:Nat} {S:LuS} {cols:List Int}
end
def tl (m:Nat) (g:Nat->Int) (n:Nat):Int:=sg (λi=>if m<=i then g i else 0) n
abbrev ab (x:Int):Int:=(x.natAbs:Int)
def q1y {g h:Nat->Int}:∀ n,(∀ i,i < n->g i<=h i)->sg g n<=sg h n
 | 0,_=>yK _
 | n+1,e=>by
  rw [sg,sg];have h1:=q1y n λi hi=>e i Oq;have h2:=e n Oq;omega
def q4K {g:Nat->Int} {c:Int}:∀ n,sg (λi=>g i*c) n=sg g n*c
 | 0=>by rw [sg,sg,yF]
 | n+1=>by rw [sg,sg,q4K n,xH]
def q32 {c:Int}:∀ n:Nat,sg (λ_=>c) n=n*c
 | 0=>by rw [sg]; simp
 | n+1=>by rw [sg,q32 n]; push_cast; rw [xH,xV]
section
variable {m n k:Nat} {g h:Nat->Int}
def tl_s (hm:m < n):tl m g n=g m+tl (m+1) g n:=by
 unfold tl;have e:∀ i,i < n->(if m<=i then g i else 0)=(if m=i then g i else 0)+(if m+1<=i then g i else 0):=λi _=>by
  by_cases h1:m=i
  .subst h1;rw [if_pos (zH _),if_pos rfl,if_neg ω]; omega
  .by_cases h2:m<=i
   .rw [if_pos h2,if_neg h1,if_pos ω]; omega
   .rw [if_neg h2,if_neg h1,if_neg ω]; rfl
 rw [q0z n e,q7i,q5x,if_pos hm]
def q5H (e:∀ i,m<=i->i < n->g i<=h i):tl m g n<=tl m h n:=q1y n λi hi=>by
 by_cases c:m<=i
 .rw [if_pos c,if_pos c]; exact e i c hi
 .rw [if_neg c,if_neg c]; exact yK _
def q1d (e:∀ i,m<=i->i < n->g i=h i):tl m g n=tl m h n:=q0z n λi hi=>by
 by_cases c:m<=i
 .rw [if_pos c,if_pos c]; exact e i c hi
 .rw [if_neg c,if_neg c]
def qcq:tl m (λi=>g i+h i) n=tl m g n+tl m h n:=by
 unfold tl;rw [<- q7i];refine q0z n λi _=>?_
 by_cases c:m<=i
 .rw [if_pos c,if_pos c,if_pos c]
 .rw [if_neg c,if_neg c,if_neg c]; rfl
def q75 {c:Int}:tl m (λi=>g i*c) n=tl m g n*c:=by
 unfold tl;rw [<- q4K];refine q0z n λi _=>?_
 by_cases e:m<=i
 .rw [if_pos e,if_pos e]
 .rw [if_neg e,if_neg e,yF]
def tl_nn (e:∀ i,m≤i→i < n→0≤g i):0≤tl m g n:=by
 have h0:tl m (fun _=>0) n=0:=q8v n fun i _=>by split <;> rfl
 rw [← h0];exact q5H e
def qg9 (e:∀ i,m≤i→i < n→0≤g i) {i:Nat} (h1:m≤i) (h2:i < n):g i≤tl m g n:=by
 have:=q5H (m:=m) (n:=n) (g:=fun c=>if i=c then g c else 0) (h:=g) fun c c1 c2=>by
  by_cases q:i=c
  .rw [if_pos q]; exact Int.le_refl _
  .rw [if_neg q]; exact e c c1 c2
 refine Int.le_trans ?_ this;have e2:tl m (fun c=>if i=c then g c else 0) n=sg (fun c=>if i=c then g c else 0) n:=q0z n fun c _=>by
  by_cases q:m≤c
  .rw [if_pos q]
  .rw [if_neg q,if_neg (by omega)]
 rw [e2,q5x,if_pos h2];exact Int.le_refl _
def qga {c:Int} (hc:0<=c):tl m (λ_=>c) n<=n*c:=by
 rw [<- q32];refine q1y n λi _=>?_
 split
 .exact yK _
 .exact hc
end
section
variable {K:Nat} {e:Int}
structure UnE (K:Nat) (e:Int):Prop where
 k:K=65536
 p:q04=1152921504606846976*e
 s:(2:Int) ^ (K-53)=128*e
 t:(2:Int) ^ (K-1075)<=e
 e:0 < e
def unE:∃ K e,UnE K e:=by
 obtain ⟨K,hK⟩:∃ K,K=65536:=⟨_,rfl⟩;refine ⟨K,(2:Int) ^ (K-60),hK,?_,?_,?_,q0L _⟩
 .rw [q2O,<- hK,show (1152921504606846976:Int)=2 ^ 60 by decide,<- tH]
  congr 1; omega
 .rw [show (128:Int)=2 ^ 7 by decide,<- tH]
  congr 1; omega
 .rw [<- q0N,<- q0N];exact tJ.2 (zI Oq Oq)
def qfA (u:UnE K e) {V:Int} (hf:q0I (fR 0 V)) (hV:ab V<=4722366482869645213696*e):ab (V-ofZ (fR 0 V))<=1048576*e:=by
 have hp:q04≠0:=by have:=u.p; have:=u.e; omega
 rw [fR_Q] at hf ⊢;have h:=tJ.2 (qa1 u.k hp hf);generalize ofZ (fQ 0 V q04)=y at *;have e2:V*(2:Int) ^ K-q04*y=(V-y)*q04:=by rw [u.k,<- q2O,Int.sub_mul,z9 q04]
 rw [e2,zV,xD,zG,zG,zG,q0N,q0N,u.s] at h;have hon:((q04.natAbs:Nat):Int)=1152921504606846976*e:=by rw [u.p]; have:=u.e; omega
 rw [hon] at h;have ht:=u.t;have he:=u.e;unfold ab at *;generalize ((V-y).natAbs:Int)=d at *;generalize ((V.natAbs:Nat):Int)=v at *;generalize (2:Int) ^ (K-1075)=t at *;have h1:1152921504606846976*e*t<=1152921504606846976*e*e:=yP ht Oq;have h2:v*(128*e)<=4722366482869645213696*e*(128*e):=zD hV Oq;have h3:d*1152921504606846976*e<=(604462909807314587353088+1152921504606846976)*e*e:=by
  have a1:d*(1152921504606846976*e)=d*1152921504606846976*e:=by rw [zS]
  have a2:4722366482869645213696*e*(128*e)=604462909807314587353088*e*e:=by
   rw [zS,zY e,<- zS,<- zS]; rfl
  rw [xH,xH];rw [a1] at h;rw [a2] at h2;generalize d*1152921504606846976*e=A at *;generalize v*(128*e)=B at *;generalize 1152921504606846976*e*t=D at *;generalize 604462909807314587353088*e*e=E at *;generalize 1152921504606846976*e*e=G at *;omega
 have h4:=yW h3 he;omega
def qfB (u:UnE K e) {V:Int} (hV:ab V<=4722366482869645213696*e):q0I (fR 0 V):=by
 refine q9W (c:=100) u.k Oq ?_;have hp:=u.p;have h2:((2 ^ 100*2 ^ K:Nat):Int)=1267650600228229401496703205376*q04:=by
  rw [q2O,<- u.k,zG,q0N,q0N]; rfl
 have:=u.e;unfold ab at hV;refine wV.1 ?_;rw [h2];generalize ((V.natAbs:Nat):Int)=v at *;omega
def qso (u:UnE K e) {x y:Nat} (hx:q0I x) (hy:q0I y):ab (q0v x y)*q04=ab (ofZ x)*ab (ofZ y):=by
 have h:=(q9J u.k hx hy).1;rw [u.k,<- q2O] at h;have hp:((q04.natAbs:Nat):Int)=q04:=by have:=u.p; have:=u.e; omega
 unfold ab;rw [<- zG,<- zV,<- h,zV,zG,hp]
end
section
variable {K:Nat} {e:Int} {F:Nat->Nat->Option Nat} {mi:List Int} {n j k:Nat} {S q r:LuS}
structure DmC (F:Nat->Nat->Option Nat) (n j:Nat) (e:Int):Prop where
 f:∀ i,i < n->q0I ((F j i).getD 0)
 c:tl 0 (λi=>ab (ofZ ((F j i).getD 0))) n<=590295810358705651712*e
 m:q04<=tl 0 (λi=>if i=j then ab (ofZ ((F j i).getD 0)) else -ab (ofZ ((F j i).getD 0))) n
structure DmI (n k:Nat) (e:Int) (S:LuS):Prop where
 r:S.rows=List.range k
 l:∀ m,m < k->tl (m+1) (λi=>ab (ofZ (S.l i m))) n<=q04
 d:∀ m,m < k->q04<=2*ab (ofZ (S.u m m))
 b:∀ m c,m<=c->c < k->ab (ofZ (S.u m c))<=1180591620717411303424*e
def sum_q (u:UnE K e) {l:Nat->Nat->Nat} {m v:Nat} (hl:q4f l) (hv:q0I v) (h:tl (m+1) (λi=>ab (ofZ (l i m))) n<=q04):tl (m+1) (λi=>ab (q0v (l i m) v)) n<=ab (ofZ v):=by
 have hp:0 < q04:=by have:=u.p; have:=u.e; omega
 refine yW (a:=q04) ?_ hp;rw [<- q75,q1d (h:=λi=>ab (ofZ (l i m))*ab (ofZ v)) λi _ _=>qso u (hl i m).1 hv,q75,z9 (ab (ofZ v))];exact zD h (by unfold ab; omega)
def qjR (u:UnE K e) (hl:q4f S.l) (hL:∀ m,m < j->tl (m+1) (λi=>ab (ofZ (S.l i m))) n<=q04) (hr:S.rows=List.range j) (hn:n<=16) (hj:j < n) (hF:DmC F n j e):∀ m,m<=j->∃ q,upS F S j j m=some q/\tl m (λi=>ab (luZ F q.l q.u i j j m)) n<=590295810358705651712*e+m*(1048576*e)/\q04-m*(1048576*e)<=tl m (λi=>if i=j then ab (luZ F q.l q.u i j j m) else -ab (luZ F q.l q.u i j j m)) n/\∀ c,c < m->ab (ofZ (q.u c j))<=1180591620717411303424*e
 | 0,_=>by
  have ez:∀ i,luZ F S.l S.u i j j 0=ofZ ((F j i).getD 0):=λi=>q4o _;refine ⟨S,rfl,?_,?_,λc h=>by omega⟩
  .rw [q1d (h:=λi=>ab (ofZ ((F j i).getD 0))) λi _ _=>by rw [ez]];have:=hF.c;omega
  .rw [q1d (h:=λi=>if i=j then ab (ofZ ((F j i).getD 0)) else -ab (ofZ ((F j i).getD 0))) λi _ _=>by rw [ez]];have:=hF.m;omega
 | m+1,hm=>by
  obtain ⟨q,h1,h2,h3,h4⟩:=qjR u hl hL hr hn hj hF m Oq;obtain ⟨ql,qi,qr,qo⟩:=qcl m q h1;have he:=u.e;have hg:S.rows.getD m 0=m:=by rw [hr,zB,zF ω]; rfl
  have hnn:∀ i,m<=i->i < n->0<=ab (luZ F q.l q.u i j j m):=λi _ _=>by unfold ab; omega
  have hsm:=qg9 hnn (zH m) Oq;have hme:(m:Int)*(1048576*e)<=16*(1048576*e):=zD Oq Oq;have hb:ab (luZ F q.l q.u m j j m)<=4722366482869645213696*e:=ω
  have hfin:=qfB u hb;have hnear:=qfA u hfin hb;have hsq:=sum_q u hl hfin (hL m Oq);have hs:∀ i,luZ F q.l (q29 q.u m j (fR 0 (luZ F q.l q.u m j j m))) i j j (m+1)=luZ F q.l q.u i j j m + -(q0v (S.l i m) (fR 0 (luZ F q.l q.u m j j m))):=λi=>by rw [luZ_s,ql]
  refine ⟨{ q with u:=q29 q.u m j (fR 0 (luZ F q.l q.u m j j m)),iU:=q8c q.iU m j (decide (luZ F q.l q.u m j j m≠0)) },?_,?_,?_,λc hc=>?_⟩
  .unfold upS;rw [h1,xJ,hg,if_pos hfin]
  .dsimp only;rw [q1d (h:=λi=>ab (luZ F q.l q.u i j j m + -(q0v (S.l i m) (fR 0 (luZ F q.l q.u m j j m))))) λi _ _=>by rw [hs]];have q1:tl (m+1) (λi=>ab (luZ F q.l q.u i j j m + -(q0v (S.l i m) (fR 0 (luZ F q.l q.u m j j m))))) n<=tl (m+1) (λi=>ab (luZ F q.l q.u i j j m)+ab (q0v (S.l i m) (fR 0 (luZ F q.l q.u m j j m)))) n:=q5H λi _ _=>by unfold ab; omega
   rw [qcq] at q1;rw [tl_s ω] at h2;generalize tl (m+1) (λi=>ab (luZ F q.l q.u i j j m)) n=a1 at *;generalize tl (m+1) (λi=>ab (q0v (S.l i m) (fR 0 (luZ F q.l q.u m j j m)))) n=a2 at *;generalize ofZ (fR 0 (luZ F q.l q.u m j j m))=a3 at *;generalize luZ F q.l q.u m j j m=a4 at *;refine wD q1 ?_;have e1:((m+1:Nat):Int)*(1048576*e)=m*(1048576*e)+1048576*e:=by rw [xD,xH]; simp
   rw [e1];generalize (m:Int)*(1048576*e)=a5 at *;unfold ab at *;omega
  .dsimp only;rw [q1d (h:=λi=>if i=j then ab (luZ F q.l q.u i j j m + -(q0v (S.l i m) (fR 0 (luZ F q.l q.u m j j m)))) else -ab (luZ F q.l q.u i j j m + -(q0v (S.l i m) (fR 0 (luZ F q.l q.u m j j m))))) λi _ _=>by rw [hs]];have q1:tl (m+1) (λi=>if i=j then ab (luZ F q.l q.u i j j m) else -ab (luZ F q.l q.u i j j m)) n<=tl (m+1) (λi=>(if i=j then ab (luZ F q.l q.u i j j m + -(q0v (S.l i m) (fR 0 (luZ F q.l q.u m j j m)))) else -ab (luZ F q.l q.u i j j m + -(q0v (S.l i m) (fR 0 (luZ F q.l q.u m j j m)))))+ab (q0v (S.l i m) (fR 0 (luZ F q.l q.u m j j m)))) n:=q5H λi _ _=>by
    by_cases c:i=j
    .rw [if_pos c,if_pos c]; unfold ab; omega
    .rw [if_neg c,if_neg c]; unfold ab; omega
   rw [qcq] at q1;rw [tl_s ω,if_neg ω] at h3;generalize tl (m+1) (λi=>if i=j then ab (luZ F q.l q.u i j j m) else -ab (luZ F q.l q.u i j j m)) n=a1 at *;generalize tl (m+1) (λi=>ab (q0v (S.l i m) (fR 0 (luZ F q.l q.u m j j m)))) n=a2 at *;generalize tl (m+1) (λi=>if i=j then ab (luZ F q.l q.u i j j m + -(q0v (S.l i m) (fR 0 (luZ F q.l q.u m j j m)))) else -ab (luZ F q.l q.u i j j m + -(q0v (S.l i m) (fR 0 (luZ F q.l q.u m j j m))))) n=a6 at *;generalize ofZ (fR 0 (luZ F q.l q.u m j j m))=a3 at *;generalize luZ F q.l q.u m j j m=a4 at *;have e1:((m+1:Nat):Int)*(1048576*e)=m*(1048576*e)+1048576*e:=by rw [xD,xH]; simp
   rw [e1];generalize (m:Int)*(1048576*e)=a5 at *;generalize q04=a7 at *;unfold ab at *;omega
  .dsimp only
   by_cases hcm:c=m
   .subst hcm;rw [show q29 q.u c j (fR 0 (luZ F q.l q.u c j j c)) c j=fR 0 (luZ F q.l q.u c j j c) from if_pos ⟨rfl,rfl⟩];generalize ofZ (fR 0 (luZ F q.l q.u c j j c))=a3 at *;generalize luZ F q.l q.u c j j c=a4 at *;generalize (c:Int)*(1048576*e)=a5 at *;unfold ab at *;omega
   .rw [show q29 q.u m j (fR 0 (luZ F q.l q.u m j j m)) c j=q.u c j from if_neg λx=>hcm x.1];exact h4 c Oq
def qkM {v:Nat->Nat} {w:Int} (hw:0<=w):∀ n,(∀ i,i < n->abZ (v i)<=w)->mxZ v n<=w
 | 0,_=>hw
 | n+1,h=>by
  rw [mxZ];have h1:=h n Oq;have h2:=qkM hw n λi hi=>h i Oq
  split <;> omega
def qfe {v:Nat->Nat} {w:Int} {p:Nat} (h1:∀ i,i < n->i≠p->i ∈ S.rows\/abZ (v i) < w) (h2:p ∉ S.rows/\¬ (v p=0\/v p=9223372036854775808)/\w<=abZ (v p)):∀ i,i<=n->bsP v S mi 1 1 w i=if p < i then (p:Int) else -1
 | 0,_=>by rw [if_neg ω]; rfl
 | i+1,hi=>by
  rw [bsP,qfe h1 h2 i ω]
  by_cases c:i=p
  .subst c;have hz:(if i < i then (i:Int) else -1) = -1:=if_neg Oq;have hc:¬ (i ∈ S.rows\/(v i=0\/v i=9223372036854775808)\/((1:Nat):Int)*abZ (v i) < ((1:Nat):Int)*w):=λx=>by
    rcases x with x | x | x
    .exact h2.1 x
    .exact h2.2.1 x
    .have:=h2.2.2; omega
   have hn1:(-1:Int) < 0:=ω
   rw [hz,if_neg hc,if_pos (.inl hn1),if_pos (Nat.lt_succ_self i)]
  .rw [if_pos (by
    rcases h1 i Oq c with x | x
    .exact .inl x
    .exact .inr (.inr Oq))]
   by_cases h:p < i
   .rw [if_pos h,if_pos ω]
   .rw [if_neg h,if_neg ω]
def qdh {Z d:Int} (hd:d≠0) (h:ab Z<=ab d):q2S (q4D 0 Z d)<=4607182418800017408:=by
 unfold q4D;rw [if_neg hd];unfold fQ
 by_cases h0:Z=0
 .rw [if_pos h0]; unfold q2S; omega
 .rw [if_neg h0];unfold ab at h;exact qsM Oq Oq Oq
def qey {x:Nat} (h:q2S x<=4607182418800017408):q0I x:=by
 unfold q2S at h;unfold q0I;omega
end
def mul4 {x y e:Int}:x*e*(y*e)=x*y*(e*e):=by
 rw [zS,zY e,<- zS]
section
variable {K:Nat} {e:Int} {F:Nat->Nat->Option Nat} {mi:List Int} {n j k:Nat} {S q r:LuS}
def qqq {m:Nat} {g:Nat->Int}:tl m (λi => -g i) n = -tl m g n:=by
 have:=q75 (m:=m) (n:=n) (g:=g) (c := -1);rw [q1d (g:=λi=>g i * -1) (h:=λi => -g i) λi _ _=>by omega] at this;omega
def qsR (u:UnE K e) {Z d:Int} (hd:d≠0) (h:ab Z<=ab d):ab (ofZ (q4D 0 Z d))*ab d<=ab Z*q04+ab d*(129*e):=by
 have hf:=qey (qdh hd h);have eq:q4D 0 Z d=fQ 0 Z d:=if_neg hd;rw [eq] at hf ⊢;have h2:=tJ.2 (qa1 u.k hd hf);rw [xD,zG,zG,q0N,q0N,u.s,u.k,<- q2O,<- u.k] at h2;have hp:((q04.natAbs:Nat):Int)=q04:=by have:=u.p; have:=u.e; omega
 have ht:=yP u.t (show 0<=ab d by unfold ab; omega);have he:=u.e;have h3:ab (d*ofZ (fQ 0 Z d))<=ab (Z*q04)+ab (Z*q04-d*ofZ (fQ 0 Z d)):=by unfold ab; omega
 have e1:ab (d*ofZ (fQ 0 Z d))=ab (ofZ (fQ 0 Z d))*ab d:=by unfold ab; rw [zV,zG,z9]
 have e2:ab (Z*q04)=ab Z*q04:=by unfold ab; rw [zV,zG,hp]
 rw [e1,e2] at h3;have h4:ab Z*(128*e)<=ab d*(128*e):=zD h Oq;have e3:ab d*(129*e)=ab d*(128*e)+ab d*e:=by rw [<- Int.mul_add]; congr 1; omega
 rw [e3];unfold ab at *;generalize ((Z*q04-d*ofZ (fQ 0 Z d)).natAbs:Int)=x1 at *;generalize ((ofZ (fQ 0 Z d)).natAbs:Int)*(d.natAbs:Int)=x2 at *;generalize (Z.natAbs:Int)*q04=x3 at *;generalize (Z.natAbs:Int)*(128*e)=x4 at *;generalize (d.natAbs:Int)*(128*e)=x5 at *;generalize (d.natAbs:Int)*e=x6 at *;generalize (d.natAbs:Int)*(2:Int) ^ (K-1075)=x7 at *;omega
def l_sum (u:UnE K e) {Z:Nat->Int} {d:Int} {m:Nat} (hn:n<=16) (hd:d≠0) (hZ:∀ i,m<=i->i < n->ab (Z i)<=ab d) (hT:tl m (λi=>ab (Z i)) n+576460752303423488*e<=ab d) (hD:ab d<=2361183241434822606848*e):tl m (λi=>ab (ofZ (q4D 0 (Z i) d))) n<=q04:=by
 have he:=u.e;have hd0:0 < ab d:=by unfold ab; omega
 refine yW (a:=ab d) ?_ hd0;rw [<- q75];have h1:tl m (λi=>ab (ofZ (q4D 0 (Z i) d))*ab d) n<=tl m (λi=>ab (Z i)*q04+ab d*(129*e)) n:=q5H λi a b=>qsR u hd (hZ i a b);have hc0:0<=ab d*(129*e):=wM Oq Oq;have h2:=qga (m:=m) (n:=n) hc0;rw [qcq,q75 (g:=λi=>ab (Z i)) (c:=q04)] at h1;have h3:(n:Int)*(ab d*(129*e))<=16*(ab d*(129*e)):=zD Oq hc0;have a1:ab d*(2064*e)<=2361183241434822606848*e*(2064*e):=zD hD Oq;have a2:1152921504606846976*e*(576460752303423488*e)<=1152921504606846976*e*(ab d-tl m (λi=>ab (Z i)) n):=yP Oq Oq;rw [mul4] at a1 a2;have hee:0 < e*e:=wL he he;have e4:16*(ab d*(129*e))=ab d*(2064*e):=by rw [zY,<- zS 16]; rfl
 rw [e4] at h3;have e5:1152921504606846976*e*(ab d-tl m (λi=>ab (Z i)) n)=q04*ab d-tl m (λi=>ab (Z i)) n*q04:=by rw [<- u.p,Int.mul_sub,z9 q04 (tl m _ n)]
 rw [e5] at a2;generalize e*e=E at *;generalize tl m (λi=>ab (Z i)) n*q04=x1 at *;generalize q04*ab d=x2 at *;generalize ab d*(2064*e)=x3 at *;generalize tl m (λ_=>ab d*(129*e)) n=x4 at *;omega
def qoW (u:UnE K e) (hI:DmI n j e S) (hG:LuG n j S) (hn:n<=16) (hj:j < n) (hF:DmC F n j e):∃ r,q1r F mi n S j j 1 1=(0,r)/\DmI n (j+1) e r:=by
 obtain ⟨q,h1,h2,h3,h4⟩:=qjR u hG.l hI.l hI.r hn hj hF j (zH _);obtain ⟨ql,qi,qr,qo⟩:=qcl j q h1;have he:=u.e;have hqr:q.rows=List.range j:=qr.trans hI.r;have hme:(j:Int)*(1048576*e)<=16*(1048576*e):=zD Oq Oq;have hm0:0<=(j:Int)*(1048576*e):=wM Oq Oq;have eZ:∀ i,luZ F q.l q.u i j j j=rsZ F q j j i:=λi=>rfl;simp only [eZ] at h2 h3;have hVd:∀ i,rsV F q j j i=if i ∈ q.rows then 0 else fR 0 (rsZ F q j j i):=λi=>rfl
 generalize hZ:rsZ F q j j=Z at *;generalize hV:rsV F q j j=V at *;rw [tl_s hj] at h2 h3;rw [if_pos rfl,q1d (m:=j+1) (h:=λi => -ab (Z i)) λi a _=>if_neg ω,qqq] at h3;have hT0:0<=tl (j+1) (λi=>ab (Z i)) n:=tl_nn λi _ _=>by unfold ab; omega
 have hTi:∀ i,j+1<=i->i < n->ab (Z i)<=tl (j+1) (λi=>ab (Z i)) n:=λi a b=>qg9 (g:=λi=>ab (Z i)) (λi _ _=>by unfold ab; omega) a b;have hp:=u.p;have hni:∀ i,i ∉ q.rows ↔ j<=i:=λi=>by rw [hqr]; simp
 have hbZ:∀ i,j<=i->i < n->ab (Z i)<=4722366482869645213696*e:=λi a b=>by
  by_cases c:i=j
  .subst c; omega
  .have:=hTi i Oq b;have:0<=ab (Z j):=by unfold ab; omega
   omega
 have hfi:∀ i,j<=i->i < n->q0I (fR 0 (Z i)):=λi a b=>qfB u (hbZ i a b);have hnr:∀ i,j<=i->i < n->ab (Z i-ofZ (fR 0 (Z i)))<=1048576*e:=λi a b=>qfA u (hfi i a b) (hbZ i a b);have hVj:∀ i,j<=i->V i=fR 0 (Z i):=λi a=>by rw [hVd,if_neg ((hni i).2 a)]
 have hVl:∀ i,i < j->V i=0:=λi a=>by rw [hVd,if_pos (by rw [hqr]; simpa using a)]
 have hdj:=hnr j (zH _) hj;have hlt:∀ i,i < n->i≠j->i ∈ q.rows\/abZ (V i) < abZ (V j):=λi hi hne=>by
  by_cases c:i < j
  .exact .inl (by rw [hqr]; simpa using c)
  .right
   have a1:=hnr i Oq hi;have a2:=hTi i Oq hi;rw [hVj i ω,hVj j (zH _)];unfold abZ;unfold ab at *;omega
 have hV0:0<=abZ (V j):=by unfold abZ; omega
 have hw:mxZ V n=abZ (V j):=Int.le_antisymm (qkM hV0 n λi hi=>by
  by_cases c:i=j
  .subst c; exact yK _
  .rcases hlt i hi c with a | a
   .rw [hVl i (by rw [hqr] at a; simpa using a),qfy]; exact hV0
   .omega) (qdx n j hj)
 have hd2:q04<=2*ab (ofZ (V j)):=by
  rw [hVj j (zH _)];unfold ab at *;omega
 have hd0:ofZ (V j)≠0:=λh=>by rw [h] at hd2; unfold ab at hd2; omega
 have hz:¬ (V j=0\/V j=9223372036854775808):=λh=>hd0 ((q5T (by rw [hVj j (zH _)]; exact hfi j (zH _) hj)).2 ((q6n (by rw [hVj j (zH _)]; exact q51)).1 h));have hbs:=qfe (v:=V) (S:=q) (mi:=mi) (w:=abZ (V j)) hlt ⟨(hni j).2 (zH _),hz,yK _⟩ n (zH _);rw [if_pos hj] at hbs;have hZd:∀ i,j+1<=i->i < n->ab (Z i)<=ab (ofZ (V j)):=λi a b=>by
  have:=hTi i a b;rw [hVj j (zH _)];unfold ab at *;omega
 have hlo:=q6k (S:=pvS q j V j) (k:=j) (z:=Z) (d:=ofZ (V j)) n λi hi hir=>by
  have hir:i ∉ q.rows ++ [j]:=hir;have:j+1<=i:=by
   have a1:=(hni i).1 λh=>hir (xM _ h);have:i≠j:=λh=>hir (by rw [h]; simp);omega
  exact qey (qdh hd0 (hZd i this hi))
 refine ⟨loE (pvS q j V j) j Z (ofZ (V j)) n,?_,?_,λm hm=>?_,λm hm=>?_,λm c hmc hc=>?_⟩
 .unfold q1r;rw [h1];simp only;unfold qif;rw [hZ,hV,hw,hbs,if_pos,if_neg ω,tG,hlo];intro i hi
  by_cases c:i < j
  .rw [hVl i c]; unfold q0I; simp
  .rw [hVj i ω]; exact hfi i ω hi
 .rw [q4z,hqr,yN]
 .by_cases c:m=j
  .subst c;rw [q1d (h:=λi=>ab (ofZ (q4D 0 (Z i) (ofZ (V m))))) λi a b=>by
    have hir:i ∉ q.rows ++ [m]:=by rw [hqr]; simp; omega
    exact congrArg (λx=>ab (ofZ x)) (if_pos ⟨rfl,b,hir⟩)]
   refine l_sum u hn hd0 hZd ?_ ?_
   .rw [hVj m (zH _)];unfold ab at *;omega
   .rw [hVj m (zH _)];unfold ab at *;omega
  .rw [q1d (h:=λi=>ab (ofZ (S.l i m))) λi _ _=>by rw [(q47 c).1,ql]];exact hI.l m Oq
 .by_cases c:m=j
  .subst c;rw [show (loE (pvS q m V m) m Z (ofZ (V m)) n).u m m=V m from if_pos ⟨rfl,rfl⟩];exact hd2
  .rw [(q47 c).2.2.1,(qo m m c).1];exact hI.d m Oq
 .by_cases hcj:c=j
  .subst hcj
   by_cases hmc2:m=c
   .subst hmc2;rw [show (loE (pvS q m V m) m Z (ofZ (V m)) n).u m m=V m from if_pos ⟨rfl,rfl⟩,hVj m (zH _)];unfold ab at *;omega
   .rw [show (loE (pvS q c V c) c Z (ofZ (V c)) n).u m c=q.u m c from if_neg λx=>hmc2 x.1];exact h4 m Oq
  .rw [(q47 hcj).2.2.1,(qo m c hcj).1];exact hI.b m c hmc Oq
def qat (u:UnE K e) (hn:n<=16) (hF:∀ j,j < n->DmC F n j e):∀ k,k<=n->(q1C F mi n (q2I n) 1 1 k).1=0/\DmI n k e (q1C F mi n (q2I n) 1 1 k).2.2
 | 0,_=>⟨rfl,rfl,λ_ h=>by omega,λ_ h=>by omega,λ_ _ _ h=>by omega⟩
 | k+1,hk=>by
  obtain ⟨i1,i2⟩:=qat u hn hF k Oq;have hG:=q2m (F:=F) (mi:=mi) (n:=n) (cols:=q2I n) (num:=1) (den:=1) k i1;have hx:(q2I n)[k]?=some ((k:Nat):Int):=by
   unfold q2I;rw [z8,zF ω]; rfl
  have hl:lfN (q2I n) k=k:=qeS hx;obtain ⟨r,r1,r2⟩:=qoW (mi:=mi) u i2 hG hn Oq (hF k Oq);have hs:q1C F mi n (q2I n) 1 1 (k+1)=if (q1C F mi n (q2I n) 1 1 k).1=0 then ((q1r F mi n (q1C F mi n (q2I n) 1 1 k).2.2 (lfN (q2I n) k) k 1 1).1,if (q1r F mi n (q1C F mi n (q2I n) 1 1 k).2.2 (lfN (q2I n) k) k 1 1).1=9 then k else 0,(q1r F mi n (q1C F mi n (q2I n) 1 1 k).2.2 (lfN (q2I n) k) k 1 1).2) else q1C F mi n (q2I n) 1 1 k:=rfl
  rw [hs,if_pos i1,hl,r1];exact ⟨rfl,r2⟩
end
section
variable {r c i j:Nat} {v:List Nat}
def qup (h:chP r c v=0) (hv:∀ x ∈ v,x < 18446744073709551616):v.length=r*c/\q10 v:=by
 unfold chP at h
 by_cases h1:v.length=r*c
 .rw [if_neg (not_not_intro h1)] at h;refine ⟨h1,λx hx=>⟨hv x hx,?_⟩⟩;refine Classical.byContradiction λhn=>?_;rw [if_neg λq=>hn (q x hx)] at h;cases h
 .rw [if_pos h1] at h;cases h
def qsZ (hr:r<=64) (hc:c<=64) (hl:v.length=r*c) (hi:i < r) (hj:j < c):IntKind.i64.wrap ((j:Int)*(r:Int))=((j*r:Nat):Int)/\IntKind.i64.wrap (((j*r:Nat):Int)+(i:Int))=((j*r+i:Nat):Int)/\∃ x,v[j*r+i]?=some x:=by
 have hm:r*c<=64*64:=zR hr hc;have hm2:j*r+r<=r*c:=by rw [<- xP,yO r c]; exact zM _ hj
 exact ⟨by rw [<- zG,i64_in ω ω],by rw [i64_in ω ω]; omega,_,zA ω⟩
def qia (hr:r<=64) (hc:c<=64) (hl:v.length=r*c) (hv:q10 v):ACt 128 [pPn r c v] (.tu [pV (grZ (pnL r c v)),iv 0]):=by
 have hm:r*c<=64*64:=zR hr hc;have C1:=qbB hr hc (v:=v) Oq λx hx=>(hv x hx).1;rw [show chP r c v=0 by unfold chP; rw [if_neg (not_not_intro hl),if_pos λx hx=>(hv x hx).2]] at C1;have C2:=q1u q9v dy0;have N1:=q3D (V:=0);have hix:=λi j hi hj=>qsZ (i:=i) (j:=j) hr hc hl hi hj;obtain ⟨l,hll⟩:∃ l,l=pnL r c v:=⟨_,rfl⟩;have hlen:l.length=r:=by rw [hll]; exact q3O
 have hlg:∀ i,i < r->l[i]?=some (pnZ r c v i):=λi hi=>by rw [hll]; exact q8y hi
 rw [<- hll];have hlb:=λi=>qkC (r:=r) (c:=c) (i:=i) hv Oq;unfold pPn at *;clear hll;refine ac0 Tryz.func128 Tryz.ntmps128 [.cell 2 46,.tmp 3] ?_;refine wk ?_;refine q0B (λi=>i<=r) [1,2,5,20] [1,2] Lk Lk (λi:Nat=>[(21,iv i)]) (λi=>[(5,⟨46,some 4,[pV (grZ (l.take i))],false⟩)]) (λi=>r-i) 0 (zE _) ?_ ?_
 .refine LeM [] rfl rfl ?_;refine Zz ?_;exact ⟨rfl,rfl⟩
 .intro i hi
  by_cases hlt:i < r
  .have q1:(i:Int) < r:=ω
   obtain ⟨G,hG⟩:∃ G,G=grZ (l.take i):=⟨_,rfl⟩;rw [<- hG];refine wk1 q1 ?_;refine q0B (λj=>j<=c) [1,2,5,6,20,21,25] [1,2,5] Lk Lk (λj:Nat=>[(26,iv j),(7,.ow 1001 (some 4) 0 j)]) (λj=>[(1001,⟨46,some 4,((List.range j).map λj=>abZ (v.getD (j*r+i) 0)).map λV=>pV V,false⟩)]) (λj=>c-j) 0 (zE _) ?_ ?_
   .refine LeM [(1001,none)] rfl rfl ?_;refine Zz ?_;exact ⟨rfl,rfl⟩
   .intro j hj
    by_cases hlt2:j < c
    .have q2:(j:Int) < c:=ω
     obtain ⟨w1,w2,x,hx⟩:=hix i j hlt hlt2;obtain ⟨x1,x2⟩:=hv x (zC hx);have C3:=q9Y x1 x2;have C4:=q1u (q53 x1 x2) (qbY x2);have N4:=q3D (V:=abZ x);have es:=rgm_s (g:=λj=>abZ (v.getD (j*r+i) 0)) (n:=j);rw [getD_some hx] at es;have ll:=q3O (g:=λj=>abZ (v.getD (j*r+i) 0)) (n:=j);generalize j*r=jr at *;refine wk1 (x4 q2 w1 w2 hx) ?_;refine ⟨j+1,ω,ω,?_⟩;rw [es];refine LeM [(1001,some 43)] rfl rfl ?_;refine Zz ?_;exact ⟨ω,q0R (by rw [zK]; rfl) clV⟩
    .obtain rfl:j=c:=ω
     have q2:¬ (j:Int) < j:=ω
     have hd:q0Z (pnZ r j v i):=by have:=hlb i; unfold q0Z; omega
     have C3:=q1u (q5C (l:=(List.range j).map λj=>abZ (v.getD (j*r+i) 0)) (by rw [q3O]; omega) (λz hz=>by
      obtain ⟨k,_,rfl⟩:=zN.1 hz;exact qbY (q2Q hv).2) (by rw [q7g]; exact hd)) (by rw [q7g]; exact hd)
     rw [show q1M ((List.range j).map λj=>abZ (v.getD (j*r+i) 0))=pnZ r j v i from q7g j] at C3;have N3:=q3D (V:=pnZ r j v i);have ll:=q3O (g:=λj=>abZ (v.getD (j*r+i) 0)) (n:=j);generalize (List.range j).map (λj=>abZ (v.getD (j*r+i) 0))=L at *;have es:=qtV (hlg i hlt);rw [<- hG] at es;have C5:=qlI qbK λho=>q8i (A:=pnZ r j v i) (B:=G) ho.1 ho.2;generalize pnZ r j v i=x at *
     by_cases h:G < x
     .rw [qjq h] at C5;rw [show max G x=x by omega] at es;refine wk1 q2 ?_;refine ⟨i+1,ω,ω,?_⟩;rw [es];refine LeM [] rfl rfl ?_;refine Zz ?_
      first | done | omega | exact ⟨ω,rfl⟩
     .have q:=qjp h;rw [show max G x=G by omega] at es;generalize (x-G).sign=s at *;refine wk1 q2 ?_;refine ⟨i+1,ω,ω,?_⟩;rw [es];refine LeM [] rfl rfl ?_;refine Zz ?_
      first | done | omega | exact ⟨ω,rfl⟩
  .obtain rfl:i=r:=ω
   have q1:¬ (i:Int) < i:=ω
   rw [<- hlen,yA];exact wk1 (x2 q1 hlen) trivial
end
def tF (f:Nat->Nat->Option Nat) (R C:Nat):List (Nat × Nat):=(List.range C).flatMap λj=>tZ f j R
section
variable {f:Nat->Nat->Option Nat} {R C:Nat}
def tF_s:tF f R (C+1)=tF f R C ++ tZ f C R:=by unfold tF; rw [yN,List.flatMap_append]; simp
def tM_F:∀ C,(tM f R C).2.1=(tF f R C).map (λe=>(e.1:Int))/\(tM f R C).2.2=(tF f R C).map (·.2)
 | 0=>⟨rfl,rfl⟩
 | C+1=>by
  obtain ⟨h1,h2⟩:=tM_F C;have e:(tM f R (C+1)).2=tC f C (tM f R C).2 R:=rfl;rw [e,q8r,tF_s,zK,zK,h1,h2];exact ⟨rfl,rfl⟩
def tF_m (h:TOk f R C):∀ m,m<=C->∀ e ∈ tF f R m,(e.2 < 18446744073709551616/\q0I e.2)/\e.1 < R
 | 0,_,e,he=>by cases he
 | m+1,hm,e,he=>by
  rw [tF_s] at he
  rcases yC.1 he with he | he
  .exact tF_m h m Oq e he
  .obtain ⟨q1,q2⟩:=q2M.1 (show (e.1,e.2) ∈ tZ f m R from he);exact ⟨⟨h.u m e.1 e.2 Oq q1 q2,h.v m e.1 e.2 Oq q1 q2⟩,q1⟩
def qoR {g:Nat->Int} {A B:List (Nat × Nat)} {r:Nat}:ctG g (A ++ B) r=ctG g A r+ctG g B r:=by
 unfold ctG;rw [zK];generalize (A.map λe=>if e.1=r then g e.2 else 0)=X;generalize (B.map λe=>if e.1=r then g e.2 else 0)=Y
 induction Y generalizing X with
 | nil=>rw [xN,q1w]; omega
 | cons y Y ih=>rw [show X ++ y :: Y=(X ++ [y]) ++ Y by simp,ih,q0c,q5L]; omega
def quN {g:Nat->Int} (h0:g 0=0) {r:Nat} (hr:r < R):∀ C,ctG g (tF f R C) r=sg (λj=>g ((f j r).getD 0)) C
 | 0=>rfl
 | C+1=>by rw [tF_s,qoR,quN h0 hr C,qfU h0,if_pos hr,sg]
def qaR:RB (λ_=>[]) 0:=⟨λ_=>zH _,λ_ z hz=>by cases hz⟩
def qmz {r:Nat} (hr:r < R):q1M (psG (λv => -(abZ v)) (tF f R C) (λ_=>[]) r)=nmZ f C r:=by
 rw [q9D,quN (g:=λv => -(abZ v)) (by rw [qfy]; rfl) hr,q1w];unfold nmZ;have:∀ n,sg (λj => -(abZ ((f j r).getD 0))) n = -(sg (λj=>abZ ((f j r).getD 0)) n):=λn=>by
  induction n with
  | zero=>rfl
  | succ n ih=>rw [sg,sg,ih]; omega
 rw [this]; omega
def qii (h:TOk f R C) (hR:R<=20) (hC:C<=20):ACt 67 [pT R C f] (.tu [pV (grZ (nmL f R C)),iv 0]):=by
 have C1:=q63 h;obtain ⟨m1,m2,m3⟩:=q0w (f:=f) (R:=R) C;have hCR:C*R<=20*20:=zR hC hR;obtain ⟨e1,e2⟩:=tM_F (f:=f) (R:=R) C;have hLv:=tF_m h C (zH _);have hsum:=λr (hr:r < R)=>qmz (f:=f) (C:=C) hr;have hnb:=λi hi=>qkI h (i:=i) hi;obtain ⟨l,hll⟩:∃ l,l=nmL f R C:=⟨_,rfl⟩;have hlen:l.length=R:=by rw [hll]; exact q3O
 have hlg:∀ i,i < R->l[i]?=some (nmZ f C i):=λi hi=>by rw [hll]; exact q8y hi
 rw [<- hll];clear hll;unfold pT q2w at *;generalize tF f R C=L at *;generalize (tM f R C).1=st at *;generalize (tM f R C).2.1=ix at *;generalize (tM f R C).2.2=vl at *;subst e1 e2;rw [zL] at m3;have hB:=λt=>qaR.pg (g:=λv => -(abZ v)) (L:=L.take t) λe he=>by
  rw [zX];have:=q82 (hLv e (wN he)).1.2;omega
 refine ac0 Tryz.func67 Tryz.ntmps67 [.cell 2 46,.tmp 3] ?_;refine wk ?_;refine q1g (q62 (o:=19) (N:=5000) (R:=10000) (n:=R) (T1:=87) (T2:=46) (K:=some 4) (λ_ h=>h) ?_ ω ω ω ω (xs:=[(1,.pt 1 0 0),(2,.pt 2 0 0),(5,.ow 5000 none 0 R),(21,pI (L.map λe=>(e.1:Int))),(22,iv L.length),(23,iv 0)]) (kv:=[]) (kb:=[(1,some ⟨26,some 5,[.ag [iv R,iv C,pI st,pI (L.map λe=>(e.1:Int)),pF (L.map (·.2))]],false⟩),(2,some ⟨46,some 4,[.ag [bv false,bv false,q05,iv 0]],false⟩)]) (by simp [nmW]) ?_) ?_
 .try simp -implicitDefEqProofs (disch:=omega) only [go_sem,Nat.reduceEqDiff,Nat.reduceAdd,↓reduceIte]
 .try refine Zz ?_
  exact if_pos rfl
 rw [qcu];refine q0U (λt:Nat=>t<=L.length) [1,2,5,21,22] [1,2] Lk Lk (λt=>[(23,iv t)]) (λ_=>[]) (λt=>q5k R (psG (λv => -(abZ v)) (L.take t) (λ_=>[]))) (λt=>L.length-t) 0 (zE _) ?_ ?_
 .refine LeW [] rfl rfl ?_ ?_ (by simp [q0y,q0n,win]) ?_
  .exact Ow
  .exact wfB (q0g Oq)
  .try simp -implicitDefEqProofs (disch:=omega) only [go_sem,Nat.reduceEqDiff,Nat.reduceAdd,↓reduceIte];first | done | rfl
 .intro t ht
  by_cases hlt:t < L.length
  .obtain ⟨⟨i,v⟩,e1⟩:∃ e,L[t]?=some e:=⟨_,zA hlt⟩;obtain ⟨⟨v1,v2⟩,hin⟩:=hLv (i,v) (zC e1);dsimp only at v1 v2 hin;have C2:=q9Y v1 v2;have C3:=q1u (q53 v1 v2) (qbY v2);have N3:=q3D (V:=abZ v);have hr1:(List.range R)[i]?=some i:=zF hin;have hps:psG (λv => -(abZ v)) (L.take (t+1)) (λ_=>[])=q4F (psG (λv => -(abZ v)) (L.take t) (λ_=>[])) i (abZ v):=by
    rw [qsT e1];dsimp only;rw [Int.neg_neg]
   have hli:(psG (λv => -(abZ v)) (L.take t) (λ_=>[]) i).length<=2000:=by have:=(hB t).l i; rw [z7] at this; omega
   generalize psG (λv => -(abZ v)) (L.take t) (λ_=>[])=rs at *;refine wk1 (x2 e1 hr1) ?_;refine ⟨t+1,ω,ω,?_⟩;rw [hps];unfold q5k;rw [<- q9Z];refine q60 (r:=42) (k:=i) (row:=qjs rs) (λ_ h=>h) hin clV ?_ ?_ (λi h1 h2 h3 h4=>?_) (λ_ _=>clV) BOk.h0 (.inl ω) ω ω ω (by simp [nmW]) ?_
   .try simp -implicitDefEqProofs (disch:=omega) only [go_sem,Nat.reduceEqDiff,Nat.reduceAdd,↓reduceIte]
   .try refine Zz ?_
    rw [zK]
    rfl
   .rw [q0A h2,q0A h4,q0A h3,q0A (by obtain ⟨w1,w2⟩:=h1; omega),q0V h1]
   .try refine Zz ?_
    omega
  .obtain rfl:t=L.length:=ω
   have hB2:=hB L.length;rw [yA] at hB2 ⊢;have hrl:=hB2.l;have hbb:=hB2.b;generalize psG (λv => -(abZ v)) L (λ_=>[])=rows at *;have hdy:=λr=>qaG (hbb r) (by have:=hrl r; omega);refine wk ?_;refine q0U (λr=>r<=R) [2,45,46] [2] Lk Lk (λr:Nat=>[(47,iv r),(8,.ow 1001 (some 4) 0 r)]) (λr=>[(1001,⟨46,some 4,(l.take r).map λV=>pV V,false⟩)]) (λ_=>q5k R rows) (λr=>R-r) 0 (zE _) ?_ ?_
   .refine LeW [(1001,none)] rfl rfl ?_ ?_ (by simp [q0y,q0n,win]) ?_
    .exact Ow
    .exact wfB (q0g Oq)
    .try refine Zz ?_
     first | done | rfl | exact ⟨rfl,rfl⟩
   .intro r hr;have ll:(l.take r).length=r:=by rw [z7]; omega
    by_cases hlt2:r < R
    .have q2:(r:Int) < R:=ω
     have hr1:(List.range R)[r]?=some r:=zF hlt2;have hd:=hdy r;have C2:=q1u (q5C (l:=rows r) (by have:=hrl r; omega) (λz hz=>by have:=hbb r z hz; unfold q0Z; omega) hd) hd;rw [hsum r hlt2] at C2;have N2:=q3D (V:=nmZ f C r);have es:=q1a (hlg r hlt2);have hli:=hrl r;refine wk1 (x3 q2 hr1 ll) ?_;refine ⟨r+1,ω,ω,?_⟩;rw [es];refine LeW [(1001,some 55)] rfl rfl ?_ ?_ (by simp [q0y,q0n,win]) ?_
     .exact Ow
     .exact wfB (q0g Oq)
     .try refine Zz ?_
      exact ⟨ω,q0R (by rw [zK]; rfl) clV⟩
    .obtain rfl:r=R:=ω
     have q2:¬ (r:Int) < r:=ω
     have C2:=q3o (l:=l) Oq;have N2:=q3D (V:=grZ l);rw [zU ω];exact wk1 (x2 q2 hlen) trivial
end
def qct {n:Nat} {a b:Nat->List Int} (h:∀ r,r < n->a r=b r):q5k n a=q5k n b:=by
 funext i
 unfold q5k q1X qjs
 split
 .congr 2
  exact yB λj hj=>by rw [h j (zW.1 hj)]
 .split
  .rw [h _ ω]
  .rfl
def qsp {x y:Nat}:q0v x y=q0v y x:=by unfold q0v; rw [z9]
def q7u {x:Nat}:q0v x 0=0:=by rw [qsp,q7v]
open Classical in
noncomputable def btC (R C r c:Nat) (v:List Nat):Int:=if R≠C then 5 else if chP r c v≠0 then chP r c v else if r≠R\/c≠C then 5 else 0
noncomputable def btA (R C:Nat) (F:Nat->Nat->Option Nat) (r c:Nat) (v:List Nat):List Int × Int:=if btC R C r c v≠0 then ([],btC R C r c v) else (btL R v F,0)
section
variable {F:Nat->Nat->Option Nat} {n R C r c:Nat} {v:List Nat}
def btR (n:Nat) (v:List Nat) (F:Nat->Nat->Option Nat) (i J:Nat):Nat->List Int:=λr=>(List.range (if r < i then J+1 else J)).map λj=>((btE n v F r j).natAbs:Int)
def btR_0:btR n v F 0 0=λ_=>[]:=by
 funext r
 unfold btR;rw [if_neg ω]
 rfl
def btR_s {i J:Nat}:btR n v F (i+1) J=q4F (btR n v F i J) i ((btE n v F i J).natAbs:Int):=by
 funext r
 unfold btR q4F;dsimp only
 by_cases h:r=i
 .subst h;rw [if_pos rfl,if_pos ω,if_neg ω,yN,zK]
  rfl
 .rw [if_neg h]
  by_cases h2:r < i
  .rw [if_pos ω,if_pos h2]
  .rw [if_neg ω,if_neg h2]
def btR_n {J:Nat}:q5k n (btR n v F n J)=q5k n (btR n v F 0 (J+1)):=qct λr hr=>by
 unfold btR;rw [if_pos hr,if_neg ω]
def qfa {i J r:Nat}:(btR n v F i J r).length<=J+1:=by
 unfold btR;rw [zL,xI]
 split <;> omega
def qod {i:Nat}:q1M (btR n v F 0 n i)=btZ n v F i:=by
 unfold btR;rw [if_neg ω,q7g]
 rfl
def btT (n:Nat) (v:List Nat) (i:Nat) (e:Nat × Nat):Int := -(q0v (v.getD (e.1*n+i) 0) e.2)
def btO (i j:Nat):List Int:=if i=j then [q04] else []
def q9c {i j:Nat}:∀ m,q1M ((tZ F j m).map (btT n v i)) = -(sg (btD n v F i j) m)
 | 0=>rfl
 | m+1=>by
  rw [qpw,zK,sg];cases h:F j m with
  | none =>
   rw [wU,xN,q9c m];have:btD n v F i j m=0:=by unfold btD; rw [h]; exact q7u
   omega
  | some x =>
   rw [yI,q0c,q9c m];have:btD n v F i j m=q0v (v.getD (m*n+i) 0) x:=by unfold btD; rw [h]; rfl
   unfold btT;dsimp only;omega
def qgf (A:List Int):∀ B:List Int,q1M (A ++ B)=q1M A+q1M B:=λB=>by
 induction B generalizing A with
 | nil=>rw [xN,q1w]; omega
 | cons y Y ih=>rw [show A ++ y :: Y=(A ++ [y]) ++ Y by simp,ih,q0c,q5L]; omega
def qof {i j:Nat}:q1M (btO i j ++ (tZ F j n).map (btT n v i))=btE n v F i j:=by
 rw [qgf,q9c];unfold btO btE
 split
 .rw [q4o]; omega
 .rw [q1w]; omega
def quz {i j:Nat}:∀ z ∈ btO i j,bl z.natAbs<=67600:=λz hz=>by
 unfold btO at hz
 split at hz
 .simp at hz; subst hz; have:=q5S; omega
 .cases hz
def qoe {i j:Nat}:(btO i j).length<=1:=by unfold btO; split <;> simp
def quy (hv:q10 v) {i:Nat} {L:List (Nat × Nat)} (hL:∀ e ∈ L,q0I e.2):∀ z ∈ L.map (btT n v i),bl z.natAbs<=67600:=λz hz=>by
 obtain ⟨e,he,rfl⟩:=zN.1 hz;unfold btT;rw [zX];exact (q1f (q2Q hv).2 (hL e he)).2
def qoM (h:TOk F R C) (hr:r<=64) (hc:c<=64) (hn:v.length<=1000000) (hv:∀ x ∈ v,x < 18446744073709551616):ACt 125 [pT R C F,pPn r c v] (iv (btC R C r c v)):=by
 have C1:=q63 h;have C2:=qbB hr hc hn hv;unfold btC;unfold pT q2w pPn at *;generalize chP r c v=e at *
 by_cases h1:R=C
 rotate_left
 .rw [if_pos h1];have q1:((R:Int) != (C:Int))=true:=by simp; omega
  refine ac0 Tryz.func125 Tryz.ntmps125 [.tmp 4] ?_;exact wk1 q1 trivial
 have q1:((R:Int) != (C:Int))=false:=by simp; omega
 rw [if_neg (not_not_intro h1)]
 by_cases h2:e=0
 rotate_left
 .rw [if_pos h2];have q2:(e != 0)=true:=by simpa using h2
  refine ac0 Tryz.func125 Tryz.ntmps125 [.tmp 4] ?_;exact wk1 (x2 q1 q2) trivial
 subst h2;rw [if_neg (not_not_intro rfl)]
 by_cases h3:r=R
 rotate_left
 .rw [if_pos (.inl h3)];have q3:((r:Int) != (R:Int))=true:=by simp; omega
  refine ac0 Tryz.func125 Tryz.ntmps125 [.tmp 4] ?_;exact wk1 (x2 q1 q3) trivial
 have q3:((r:Int) != (R:Int))=false:=by simp; omega
 by_cases h4:c=C
 .have q4:((c:Int) != (C:Int))=false:=by simp; omega
  rw [if_neg ω];refine ac0 Tryz.func125 Tryz.ntmps125 [.tmp 4] ?_;exact wk1 (x3 q1 q3 q4) trivial
 .have q4:((c:Int) != (C:Int))=true:=by simp; omega
  rw [if_pos (.inr h4)];refine ac0 Tryz.func125 Tryz.ntmps125 [.tmp 4] ?_;exact wk1 (x3 q1 q3 q4) trivial
def qfI (h:TOk F n n) (hn:n<=20) (hl:v.length=n*n) (hv:q10 v):ACt 126 [pT n n F,pPn n n v] (pVs (btL n v F)):=by
 have hml:=q0w (f:=F) (R:=n) n;have hg:=λj hj=>q1N (f:=F) (R:=n) (C:=n) (j:=j) hj;have hix:=λj k hj h1 h2=>q64 (f:=F) (R:=n) (C:=n) (j:=j) (k:=k) hj h1 h2;have hos:=λj=>qaF (f:=F) (R:=n) (j:=j);have hpi:=λi j hi hj=>qsZ (i:=i) (j:=j) (show n<=64 by omega) (show n<=64 by omega) hl hi hj;obtain ⟨o,ho⟩:∃ o,o=tO F n:=⟨_,rfl⟩;have hRC:=h.m;have hfin:rwP n (λr=>pV (btZ n v F r)) n=(btL n v F).map λV=>pV V:=by
  unfold rwP btL;rw [tL];exact yB λi hi=>by rw [if_pos (zW.1 hi)]; rfl
 have hZb:=λi=>qky h hv (i:=i);unfold pVs;rw [<- hfin];unfold pT pPn;rw [<- ho] at hg hix hos;generalize (tM F n n).1=st at *;generalize (tM F n n).2.1=ix at *;generalize (tM F n n).2.2=vl at *;obtain ⟨m1,m2,m3⟩:=hml;unfold q2w;refine ac0 Tryz.func126 Tryz.ntmps126 [.tmp 4] ?_;refine wk ?_;refine q1g (q62 (o:=16) (N:=5000) (R:=10000) (n:=n) (T1:=87) (T2:=46) (K:=some 4) (λ_ h=>h) ?_ ω ω ω ω (xs:=[(2,.pt 2 0 0),(3,.pt 3 0 0),(5,.ow 5000 none 0 n),(18,iv n),(19,iv 0)]) (kv:=[]) (kb:=[(2,some ⟨26,some 5,[.ag [iv n,iv n,pI st,pI ix,pF vl]],false⟩),(3,some ⟨28,some 3,[.ag [iv n,iv n,pF v]],false⟩)]) (by simp [nmW]) ?_) ?_
 .try simp -implicitDefEqProofs (disch:=omega) only [go_sem,Nat.reduceEqDiff,Nat.reduceAdd,↓reduceIte]
 .try refine Zz ?_
  exact if_pos rfl
 rw [qcu];have e0:q1X 87 46 (some 4) 5000 10000 n (λ_=>[]) h0=q5k n (btR n v F 0 0):=by rw [btR_0]; rfl
 rw [e0];refine q0U (λJ:Nat=>J<=n) [2,3,5,18] [2,3] Lk Lk (λJ=>[(19,iv J)]) (λ_=>[]) (λJ=>q5k n (btR n v F 0 J)) (λJ=>n-J) 0 (zE _) ?_ ?_
 .refine LeW [] rfl rfl ?_ ?_ (by simp [q0y,q0n,win]) ?_
  .exact Ow
  .exact wfB (q0g Oq)
  .try simp -implicitDefEqProofs (disch:=omega) only [go_sem,Nat.reduceEqDiff,Nat.reduceAdd,↓reduceIte];first | done | rfl
 .intro J hJ
  by_cases hlt:J < n
  .have hlt':(J:Int) < n:=ω
   have g1:=hg J Oq;have g2:=hg (J+1) Oq;have oJ:=hos J;have ww:IntKind.i64.wrap ((J:Int)+1)=((J+1:Nat):Int):=by rw [i64_in ω ω]; omega
   have hZ:=λk x=>q2M (f:=F) (j:=J) (i:=n) (k:=k) (x:=x);have hEs:=λi=>qof (F:=F) (n:=n) (v:=v) (i:=i) (j:=J);have hEb:=λi=>qfb h hv (i:=i) hlt;obtain ⟨L,hL⟩:∃ L,L=tZ F J n:=⟨_,rfl⟩;have hLn:L.length<=n:=by rw [hL]; unfold tZ; exact zO (xY _ _) σ
   have hixJ:=hix J;rw [<- hL] at oJ hZ hixJ hEs;clear hL;have hLv:∀ e ∈ L,(e.2 < 18446744073709551616/\q0I e.2)/\e.1 < n:=λe he=>by
    obtain ⟨q1,q2⟩:=(hZ e.1 e.2).1 he;exact ⟨⟨h.u J e.1 e.2 hlt q1 q2,h.v J e.1 e.2 hlt q1 q2⟩,q1⟩
   have hTb:=λi=>quy (n:=n) (i:=i) hv (L:=L) λe he=>(hLv e he).1.2;refine wk1 (x2 hlt' g1) ?_;refine q0U (λi:Nat=>i<=n) [2,3,5,6,18,19,23] [2,3] Lk Lk (λi=>[(24,iv i)]) (λ_=>[]) (λi=>q5k n (btR n v F i J)) (λi=>n-i) 0 (zE _) ?_ ?_
   .refine LeW [] rfl rfl ?_ ?_ (by simp [q0y,q0n,win]) ?_
    .exact Ow
    .exact wfB (q0g Oq)
    .try simp -implicitDefEqProofs (disch:=omega) only [go_sem,Nat.reduceEqDiff,Nat.reduceAdd,↓reduceIte];first | done | rfl
   .intro i hi
    by_cases hlti:i < n
    .have hli':(i:Int) < n:=ω
     have hTbi:=hTb i;have hEsi:=hEs i;have hEbi:=hEb i;have hpsh:=btR_s (n:=n) (v:=v) (F:=F) (i:=i) (J:=J);have hrl:=qfa (n:=n) (v:=v) (F:=F) (i:=i) (J:=J) (r:=i);have hpj:=λj hj=>hpi i j hlti hj;have hO1:=quz (i:=i) (j:=J);have hO2:=qoe (i:=i) (j:=J);have hOe:=show btO i J=if i=J then [q04] else [] from rfl
     have hTe:=λe=>show btT n v i e = -(q0v (v.getD (e.1*n+i) 0) e.2) from rfl;generalize btE n v F i J=E at *;generalize btR n v F i J=rows at *;generalize btO i J=z at *;generalize btT n v i=T at *;have hdy:q0Z E:=by unfold q0Z; omega
     refine wk1 hli' ?_;refine A_jn λK hK=>?_;have fin:∀ (s:Nat->PV) (h:Hp),Le (λ_=>False) s h (stM [(2,.pt 2 0 0),(3,.pt 3 0 0),(5,.ow 5000 none 0 n),(6,iv J),(7,iv i),(8,.ow 1003 (some 4) 0 z.length),(18,iv n),(19,iv J),(23,iv n),(24,iv i)] []) (q0u (q5k n rows) (hpM [(2,⟨26,some 5,[.ag [iv n,iv n,pI st,pI ix,pF vl]],false⟩),(3,⟨28,some 3,[.ag [iv n,iv n,pF v]],false⟩),(1003,⟨46,some 4,z.map λV=>pV V,false⟩)] []))->K s h:=by
      intro s h hl;refine hK _ _ (q1g hl ?_); clear hK K hl;refine wk1 g1 ?_;refine q0U (λt:Nat=>t<=L.length) [2,3,5,6,7,18,19,23,24] [2,3] Lk Lk (λt=>[(9,iv ((o J+t:Nat):Int)),(8,.ow 1001 (some 4) 0 (z.length+t))]) (λt=>[(1001,⟨46,some 4,(z ++ (L.take t).map T).map λV=>pV V,false⟩)]) (λ_=>q5k n rows) (λt=>L.length-t) 0 (zE _) ?_ ?_
      .refine LeW [(1001,some 1003)] rfl rfl ?_ ?_ (by simp [q0y,q0n,win]) ?_
       .exact Ow
       .exact wfB (q0g Oq)
       .try refine Zz ?_
        exact q0R rfl clV
      .intro t ht;have htl:(z ++ (L.take t).map T).length=z.length+t:=by rw [yE,zL,z7]; omega
       by_cases hlt2:t < L.length
       .obtain ⟨⟨k,x⟩,e1,e2,e3⟩:=hixJ (o J+t) Oq Oq Oq;rw [tQ] at e1;dsimp only at e2 e3;obtain ⟨⟨v1,v2⟩,hin⟩:=hLv (k,x) (zC e1);dsimp only at v1 v2 hin;have hq:((o J+t:Nat):Int) < ((o (J+1):Nat):Int):=ω
        obtain ⟨w1,w2,y,hy⟩:=hpj k hin;obtain ⟨y1,y2⟩:=hv y (zC hy);have C1:=q8N v1 (q0i v2);have C2:=q8N y1 (q0i y2);have M:=q1f y2 v2;have C3:=q8h (q6F y2) (q6F v2) M.1;have hmd:=(q43 M.1).2.2.2;have C4:=q1u (qcc hmd) (by unfold q0Z at *; rw [zX]; exact hmd);have N4:=q3D (V := -(q0v y x));have hob:=(zQ.1 e2).1;have wt:IntKind.i64.wrap (((o J+t:Nat):Int)+1)=((o J+(t+1):Nat):Int):=by rw [i64_in ω ω]; omega
        have es:z ++ (L.take (t+1)).map T=z ++ (L.take t).map T ++ [-(q0v y x)]:=by
         rw [q1a e1,zK,<- List.append_assoc,yI,hTe];dsimp only;rw [getD_some hy]
        generalize z ++ (L.take t).map T=P at *;generalize k*n=kn at *;refine wk1 (x6 g2 ww hq e2 e3 (x5 w1 w2 hy wt htl)) ?_;refine ⟨t+1,ω,ω,?_⟩;rw [es];refine LeW [(1001,some 75)] rfl rfl ?_ ?_ (by simp [q0y,q0n,win]) ?_
        .exact Ow
        .exact wfB (q0g Oq)
        .try refine Zz ?_
         exact ⟨ω,q0R (by rw [zK]; rfl) clV⟩
       .obtain rfl:t=L.length:=ω
        have hq:¬ ((o J+L.length:Nat):Int) < ((o (J+1):Nat):Int):=ω
        rw [yA] at htl ⊢;have hPb:∀ y ∈ z ++ L.map T,q0Z y:=λy hy=>by
         rcases yC.1 hy with hy | hy
         .have:=hO1 y hy; unfold q0Z; omega
         .have:=hTbi y hy; unfold q0Z; omega
        generalize z ++ L.map T=P at *;have C1:=q1u (q5C (l:=P) ω hPb (by rw [hEsi]; exact hdy)) (by rw [hEsi]; exact hdy);rw [hEsi] at C1;have C2:=q1u (qjD qf7 λho=>qcg (A:=E) ho) (qkf hdy);have N2:=q3D (V:=(E.natAbs:Int));have N1:=q3D (V:=E);have hr1:(List.range n)[i]?=some i:=zF hlti;refine wk1 (x5 g2 ww hq htl hr1) ?_;refine ⟨i+1,ω,ω,?_⟩;rw [hpsh];unfold q5k;rw [<- q9Z];refine q60 (r:=86) (k:=i) (row:=qjs rows) (λ_ h=>h) hlti clV ?_ ?_ (λi h1 h2 h3 h4=>?_) (λ_ _=>clV) BOk.h0 (.inl ω) ω ω ω (by simp [nmW]) ?_
        .try simp -implicitDefEqProofs (disch:=omega) only [go_sem,Nat.reduceEqDiff,Nat.reduceAdd,↓reduceIte]
        .try refine Zz ?_
         rw [zK]
         rfl
        .rw [q0A h2,q0A h4,q0A h3,q0A (by obtain ⟨w1,w2⟩:=h1; omega),q0V h1]
        .try refine Zz ?_
         omega
     by_cases hij:i=J
     .have q3:((i:Int) == (J:Int))=true:=by simp; omega
      rw [if_pos hij] at hOe;subst hOe;have C1:=q1u qcb (by have:=q5S; unfold q0Z; omega);have N1:=q3D (V:=q04);refine wk1 q3 ?_;refine fin _ _ ?_;refine LeW [(1003,some 33)] rfl rfl ?_ ?_ (by simp [q0y,q0n,win]) ?_
      .exact Ow
      .exact wfB (q0g Oq)
      .try simp -implicitDefEqProofs (disch:=omega) only [go_sem,Nat.reduceEqDiff,Nat.reduceAdd,↓reduceIte]
     .have q3:((i:Int) == (J:Int))=false:=by simp; omega
      rw [if_neg hij] at hOe;subst hOe;refine wk1 q3 ?_;refine fin _ _ ?_;refine LeW [(1003,none)] rfl rfl ?_ ?_ (by simp [q0y,q0n,win]) ?_
      .exact Ow
      .exact wfB (q0g Oq)
      .try simp -implicitDefEqProofs (disch:=omega) only [go_sem,Nat.reduceEqDiff,Nat.reduceAdd,↓reduceIte]
    .obtain rfl:i=n:=ω
     have hli':¬ (i:Int) < i:=ω
     refine wk1 (x2 hli' ww) ?_;refine ⟨J+1,ω,ω,?_⟩;rw [<- btR_n];refine LeW [] rfl rfl ?_ ?_ (by simp [q0y,q0n,win]) ?_
     .exact Ow
     .exact wfB (q0g Oq)
     .try simp -implicitDefEqProofs (disch:=omega) only [go_sem,Nat.reduceEqDiff,Nat.reduceAdd,↓reduceIte]
      first | done | omega
  .obtain rfl:J=n:=ω
   have hlt':¬ (J:Int) < J:=ω
   have hrs:=λi=>qod (n:=J) (v:=v) (F:=F) (i:=i);have hrl:=λi=>qfa (n:=J) (v:=v) (F:=F) (i:=0) (J:=J) (r:=i);have hrb:∀ i,i < J->∀ z ∈ btR J v F 0 J i,q0Z z:=λi _ z hz=>by
    unfold btR at hz;rw [if_neg ω] at hz;obtain ⟨j,hj,rfl⟩:=zN.1 hz;have:=qfb h hv (i:=i) (zW.1 hj);unfold q0Z;rw [z6];omega
   generalize btR J v F 0 J=rows at *;have hwl:=λm=>q8w (n:=J) (g:=λr=>pV (btZ J v F r)) (m:=m);have hws:=λm=>qrp (n:=J) (g:=λr=>pV (btZ J v F r)) (m:=m);have hwc:=λm=>q1l (n:=J) (g:=λr=>pV (btZ J v F r)) (m:=m) λc=>trivial;clear hfin hg hix hos;refine wk1 hlt' ?_;refine q0U (λr=>r<=J) [93,94] [] Lk Lk (λr:Nat=>[(95,iv r),(11,.ow 1001 (some 4) 0 J)]) (λr=>[(1001,⟨46,some 4,rwP J (λr=>pV (btZ J v F r)) r,false⟩)]) (λ_=>q5k J rows) (λr=>J-r) 0 (zE _) ?_ ?_
   .refine LeW [(1001,some 92)] rfl rfl ?_ ?_ (by simp [q0y,q0n,win]) ?_
    .exact Ow
    .exact wfB (q0g Oq)
    .try refine Zz ?_
     exact ⟨rfl,qgD σ⟩
   .intro r hr
    by_cases hlt2:r < J
    .have q2:(r:Int) < J:=ω
     have hr1:(List.range J)[r]?=some r:=zF hlt2;have hd:q0Z (btZ J v F r):=by have:=hZb r; unfold q0Z; omega
     have C2:=q1u (q5C (l:=rows r) (by have:=hrl r; omega) (λz hz=>hrb r hlt2 z hz) (by rw [hrs r]; exact hd)) (by rw [hrs r]; exact hd);rw [hrs r] at C2;have N2:=q3D (V:=btZ J v F r);have hli:=hrl r;have e1:=hws r;have e2:=hwl r;have e3:=hwc r;generalize rwP J (λr=>pV (btZ J v F r)) r=W at *;refine wk1 (x3 q2 hr1 e2) ?_;refine ⟨r+1,ω,ω,?_⟩;rw [<- e1];refine LeW [] rfl rfl ?_ ?_ (by simp [q0y,q0n,win]) ?_
     .exact Ow
     .exact wfB (q0g Oq)
     .try refine Zz ?_
      exact ⟨ω,q0R rfl (q5h e3 trivial)⟩
    .obtain rfl:r=J:=ω
     have q2:¬ (r:Int) < r:=ω
     refine wk1 (x3 q2 (hwl r) (hwc r)) ?_;exact zU (Nat.le_of_eq (hwl r))
end
section
variable {F:Nat->Nat->Option Nat} {n R C r c:Nat} {v:List Nat}
end
def qp9 {f:FuncId} {V U:Int} {x r:PV} (hc:q0J Tryz.prog f=true) (ha:q0Z V/\q0Z U->ACt f [dT V,dT U,x] r):ACt f [pV V,pV U,x] r:=q6P hc (λD w vs hR=>by
 obtain ⟨a,b,c,rfl,h1,h2,h3⟩:=rd_3 hR;obtain ⟨h4,h5⟩:=q3C.2 (q8z h1);obtain ⟨h6,h7⟩:=q3C.2 (q8z h2);refine ⟨?_,h5,h7⟩;unfold RdL;refine ⟨_,_,rfl,h4,?_⟩;unfold RdL;exact ⟨_,_,rfl,h6,RdL.one h3⟩) ha
def bnI (P B:Int):Nat × Nat × Bool:=if q04<=B then (0,0,false) else (fQ 1 P (q04+B),fQ 2 P (q04-B),true)
noncomputable def bnA (R C:Nat) (F:Nat->Nat->Option Nat) (r c:Nat) (v:List Nat) (f:Int):Nat × Nat × Bool × Int :=
 if btC R C r c v≠0 then (0,0,false,btC R C r c v) else ((bnI (prZ (grZ (pnL r c v)) f) (grZ (btL R v F))).1,(bnI (prZ (grZ (pnL r c v)) f) (grZ (btL R v F))).2.1,(bnI (prZ (grZ (pnL r c v)) f) (grZ (btL R v F))).2.2,0)
abbrev pBn (q:Nat × Nat × Bool × Int):PV:=.tu [.ag [uv q.1,uv q.2.1],bv q.2.2.1,iv q.2.2.2]
section
variable {F:Nat->Nat->Option Nat} {n R C r c:Nat} {v:List Nat} {f P:Int}
def qog (h:btC R C r c v=0):R=C/\r=R/\c=C/\chP r c v=0:=by
 unfold btC at h
 split at h
 .cases h
 .rename_i h1
  split at h
  .rename_i h2; exact absurd h h2
  .rename_i h2
   split at h
   .cases h
   .rename_i h3; exact ⟨ω,ω,ω,Classical.not_not.1 h2⟩
def qax (h:TOk F R C) (hR:R<=20) (hC:C<=20) (hr:r<=64) (hc:c<=64) (hn:v.length<=1000000) (hv:∀ x ∈ v,x < 18446744073709551616):ACt 64 [pT R C F,pPn r c v] (.tu [pVs (btA R C F r c v).1,iv (btA R C F r c v).2]):=by
 have C1:=qoM h hr hc hn hv;have key:=λ(q:btC R C r c v=0)=>qog q;have C2:btC R C r c v=0->ACt 126 [pT R C F,pPn r c v] (pVs (btL R v F)):=λq=>by
  obtain ⟨rfl,rfl,rfl,h4⟩:=qog q;obtain ⟨h5,h6⟩:=qup h4 hv;exact qfI h hR h5 h6
 unfold btA;unfold pT q2w pPn at *;generalize btC R C r c v=e at *;generalize (tM F R C).1=st at *;generalize (tM F R C).2.1=ix at *;generalize (tM F R C).2.2=vl at *
 by_cases h1:e=0
 .have C3:=C2 h1;subst h1;rw [if_neg (show ¬ (0:Int)≠0 by decide)];dsimp only;generalize btL R v F=l at *;clear C2 key;refine ac0 Tryz.func64 Tryz.ntmps64 [.tmp 4,.tmp 5] ?_;exact wk trivial
 .rw [if_pos h1];have q:(e != 0)=true:=by simpa using h1
  refine ac0 Tryz.func64 Tryz.ntmps64 [.tmp 4,.tmp 5] ?_;exact wk1 q trivial
def qcI (h:TOk F n n) (hn:n<=20) (hl:v.length=n*n) (hv:q10 v) (hm:mkV (grZ (pnL n n v)*f) (-131072)=some P):ACt 65 [pT n n F,pPn n n v,pV f] (.tu [.ag [uv (bnI P (grZ (btL n v F))).1,uv (bnI P (grZ (btL n v F))).2.1],bv (bnI P (grZ (btL n v F))).2.2]):=by
 have hm2:n*n<=20*20:=zR hn hn;have hch:chP n n v=0:=by unfold chP; rw [if_neg (not_not_intro hl),if_pos λx hx=>(hv x hx).2]
 have C1:=qax (r:=n) (c:=n) (v:=v) h hn hn Oq Oq Oq λx hx=>(hv x hx).1;have hbt:btA n n F n n v=(btL n v F,0):=by
  unfold btA btC;rw [if_neg (not_not_intro rfl),if_neg (not_not_intro hch),if_neg (show ¬ (n≠n\/n≠n) by omega),if_neg (show ¬ (0:Int)≠0 by decide)]
 rw [hbt] at C1;dsimp only at C1;have C2:=q3o (l:=btL n v F) (by unfold btL; rw [q3O]; omega);have C5:=qia (r:=n) (c:=n) Oq Oq hl hv;have C6:=q1u (qlI qkw λho=>q8h ho.1 ho.2 hm) (q43 hm).2.2.2;have hB:=q8H (qvA h hv);have hB0:=qtW (l:=btL n v F);have hO:=q5S;have hO0:0 < q04:=by rw [q2O]; exact q0L _
 generalize grZ (pnL n n v)=N at *;generalize grZ (btL n v F)=B at *;generalize btL n v F=l at *;have C3:=q1u qcb (by unfold q0Z; omega);have C4:=qlI qbK λho=>q8i (A:=B) (B:=q04) ho.1 ho.2;have d1:q0Z (q04+B):=by have:=qfm (a:=q04) (b:=B) (k:=67607) Oq hB; unfold q0Z; omega
 have d2:q0Z (q04-B):=by have:=qfl (a:=q04) (b:=B) (k:=67607) Oq hB; unfold q0Z; omega
 have C7:=q1u (qlI qku λho=>qcf (A:=q04) (B:=B) ho.1 ho.2 d1) d1;have C8:=q1u (qlI qkx λho=>ql8 (A:=q04) (B:=B) ho.1 ho.2 d2) d2;have C9:=qp9 (x:=iv 1) qbJ λho=>q6v (mode:=1) (a:=P) (b:=q04+B) Oq ho.1 ho.2 Oq;have N1:=q3D (V:=q04);have N2:=q3D (V:=B);have N3:=q3D (V:=P);have N4:=q3D (V:=N);have N5:=q3D (V:=q04+B);have N6:=q3D (V:=q04-B);unfold bnI;unfold pT q2w pPn at *
 by_cases h1:q04<=B
 .rw [if_pos h1];have q:(B-q04).sign ≥ 0:=by
   rcases Int.lt_or_eq_of_le h1 with h1 | h1
   .rw [wC ω]; omega
   .rw [show B-q04=0 by omega]; decide
  dsimp only;generalize (B-q04).sign=s at *;refine ac0 Tryz.func65 Tryz.ntmps65 [.cell 6 34,.tmp 7] ?_;refine wk ?_
  rfl
 .rw [if_neg h1];have C10:=qp9 (x:=iv 2) qbJ λho=>q6v (mode:=2) (a:=P) (b:=q04-B) Oq ho.1 ho.2 Oq;rw [xS (show B-q04 < 0 by omega)] at C4;dsimp only;generalize fQ 1 P (q04+B)=x at *;generalize fQ 2 P (q04-B)=y at *;refine ac0 Tryz.func65 Tryz.ntmps65 [.cell 6 34,.tmp 7] ?_;exact wk trivial
def q7D (h:TOk F R C) (hR:R<=20) (hC:C<=20) (hr:r<=64) (hc:c<=64) (hn:v.length<=1000000) (hv:∀ x ∈ v,x < 18446744073709551616):ACt 15 [pT R C F,pPn r c v] (pBn (bnA R C F r c v (grZ (nmL F R C)))):=by
 have C1:=qax h hR hC hr hc hn hv;have C2:=qii h hR hC;have C3:btC R C r c v=0->ACt 65 [pT R C F,pPn r c v,pV (grZ (nmL F R C))] (.tu [.ag [uv (bnI (prZ (grZ (pnL r c v)) (grZ (nmL F R C))) (grZ (btL R v F))).1,uv (bnI (prZ (grZ (pnL r c v)) (grZ (nmL F R C))) (grZ (btL R v F))).2.1],bv (bnI (prZ (grZ (pnL r c v)) (grZ (nmL F R C))) (grZ (btL R v F))).2.2]):=λq=>by
  obtain ⟨rfl,rfl,rfl,h4⟩:=qog q;obtain ⟨h5,h6⟩:=qup h4 hv;exact qcI h hR h5 h6 (qsU (qsY h6) (qsj h) (q8H (qs0 h6 Oq)) (q8H (qsk h))).1
 unfold btA at C1;unfold bnA;unfold pT q2w pPn at *;generalize btC R C r c v=e at *;generalize bnI (prZ (grZ (pnL r c v)) (grZ (nmL F R C))) (grZ (btL R v F))=q at *;generalize btL R v F=l at *;generalize grZ (nmL F R C)=M at *;generalize (tM F R C).1=st at *;generalize (tM F R C).2.1=ix at *;generalize (tM F R C).2.2=vl at *
 by_cases h1:e=0
 .have C4:=C3 h1;subst h1;rw [if_neg (show ¬ (0:Int)≠0 by decide)] at C1 ⊢;dsimp only at C1 ⊢;have N1:=q3D (V:=M);refine ac0 Tryz.func15 Tryz.ntmps15 [.cell 4 34,.tmp 5,.tmp 6] ?_;exact wk trivial
 .rw [if_pos h1] at C1 ⊢;have q:(e != 0)=true:=by simpa using h1
  clear C3;refine ac0 Tryz.func15 Tryz.ntmps15 [.cell 4 34,.tmp 5,.tmp 6] ?_;refine wk1 q ?_
  rfl
end
def imE (f:Nat->Nat->Option Nat) (y:List Nat) (r j:Nat):Int:=q0v ((f j r).getD 0) (y.getD j 0)
def imZ (f:Nat->Nat->Option Nat) (y:List Nat) (C r:Nat):Int:=((sg (imE f y r) C).natAbs:Int)
def imL (f:Nat->Nat->Option Nat) (y:List Nat) (C R:Nat):List Int:=(List.range R).map (imZ f y C)
def lwV (f:Nat->Nat->Option Nat) (R C:Nat) (y:List Nat):Nat:=if grZ (y.map abZ)=0 then 0 else if grZ (imL f y C R)=0 then 9218868437227405312 else fQ 1 (grZ (y.map abZ)) (grZ (imL f y C R))
def qmV {a:Int}:(a.sign == 0)=decide (a=0):=by
 by_cases h:a=0
 .rw [h]; rfl
 .rw [decide_eq_false h,beq_eq_false_iff_ne];exact λq=>h (y7.1 q)
section
variable {f:Nat->Nat->Option Nat} {y:List Nat} {R C J:Nat} {rows:Nat->List Int}
def LwI (f:Nat->Nat->Option Nat) (y:List Nat) (R J:Nat) (rows:Nat->List Int):Prop:=∀ r,r < R->q1M (rows r)=sg (imE f y r) J
def LwI.s (h:LwI f y R J rows):LwI f y R (J+1) (psG (λv => -(q0v v (y.getD J 0))) (tZ f J R) rows):=λr hr=>by
 rw [q9D,h r hr,qfU (g:=λv => -(q0v v (y.getD J 0))) (by rw [q7v]; rfl) R,if_pos hr,sg];unfold imE;omega
def qtS (h:TOk f R C) (hy:q10 y) {r j:Nat} (hr:r < R) (hj:j < C):bl (imE f y r j).natAbs<=67584:=qkN (h.finD hj hr) (q2Q hy).2
def qtQ (h:TOk f R C) (hy:q10 y) {r:Nat} (hr:r < R):bl (imZ f y C r).natAbs<=67595:=by
 unfold imZ;rw [z6];exact q7h (K:=67584) C (by have:=h.c; omega) λj hj=>qtS h hy hr hj
def qtR (h:TOk f R C) (hy:q10 y):∀ x ∈ imL f y C R,bl x.natAbs<=67595:=λx hx=>by
 obtain ⟨r,hr,rfl⟩:=zN.1 hx;exact qtQ h hy (zW.1 hr)
def qcH (h:TOk f R C) (hR:R<=20) (hC:C<=20) (hy:q10 y) (hyl:y.length=C):ACt 89 [pT R C f,pF y] (uv (lwV f R C y:Nat)):=by
 have hml:=q0w (f:=f) (R:=R) C;have hg:=λj hj=>q1N (f:=f) (R:=R) (C:=C) (j:=j) hj;have hix:=λj k hj h1 h2=>q64 (f:=f) (R:=R) (C:=C) (j:=j) (k:=k) hj h1 h2;have hos:=λj=>qaF (f:=f) (R:=R) (j:=j);obtain ⟨o,ho⟩:∃ o,o=tO f R:=⟨_,rfl⟩;have hRC:=h.m;have hT:=h;obtain ⟨res,hres⟩:∃ res,res=lwV f R C y:=⟨_,rfl⟩;rw [<- hres];unfold lwV at hres;obtain ⟨im,him⟩:∃ im,im=imL f y C R:=⟨_,rfl⟩;have hil:im.length=R:=by rw [him]; exact q3O
 have hig:∀ r,r < R->im[r]?=some (imZ f y C r):=λr hr=>by rw [him]; exact q8y hr
 have hib:bl (grZ im).natAbs<=67595:=by rw [him]; exact q8H (qtR h hy)
 rw [<- him] at hres;clear him;unfold pT;rw [<- ho] at hg hix hos;generalize (tM f R C).1=st at *;generalize (tM f R C).2.1=ix at *;generalize (tM f R C).2.2=vl at *;obtain ⟨m1,m2,m3⟩:=hml;unfold q2w;refine ac0 Tryz.func89 Tryz.ntmps89 [.tmp 4] ?_;refine wk ?_;refine q1g (q62 (o:=18) (N:=5000) (R:=10000) (n:=R) (T1:=87) (T2:=46) (K:=some 4) (λ_ h=>h) ?_ ω ω ω ω (xs:=[(1,pF y),(2,.pt 2 0 0),(5,.ow 5000 none 0 R),(20,iv C),(21,iv 0)]) (kv:=[]) (kb:=[(2,some ⟨26,some 5,[.ag [iv R,iv C,pI st,pI ix,pF vl]],false⟩)]) (by simp [nmW]) ?_) ?_
 .try simp -implicitDefEqProofs (disch:=omega) only [go_sem,Nat.reduceEqDiff,Nat.reduceAdd,↓reduceIte]
 .try refine Zz ?_
  exact if_pos rfl
 rw [qcu];refine q0U (λq:Nat × (Nat->List Int)=>q.1<=C/\LwI f y R q.1 q.2/\RB q.2 (q.1*R)) [1,2,5,20] [2] Lk Lk (λq=>[(21,iv q.1)]) (λ_=>[]) (λq=>q5k R q.2) (λq=>C-q.1) (0,λ_=>[]) ⟨zE _,λr hr=>by rw [q1w]; rfl,by rw [Nat.zero_mul]; exact qaR⟩ ?_ ?_
 .refine LeW [] rfl rfl ?_ ?_ (by simp [q0y,q0n,win]) ?_
  .exact Ow
  .exact wfB (q0g Oq)
  .try simp -implicitDefEqProofs (disch:=omega) only [go_sem,Nat.reduceEqDiff,Nat.reduceAdd,↓reduceIte];first | done | rfl
 .rintro ⟨J,rows⟩ ⟨hJ,hI,hB⟩;simp only at hJ hI hB ⊢;have hJR:J*R<=20*20:=zR Oq hR
  by_cases hlt:J < C
  .have hlt':(J:Int) < C:=ω
   have g1:=hg J Oq;have g2:=hg (J+1) Oq;have oJ:=hos J;have ww:IntKind.i64.wrap ((J:Int)+1)=((J+1:Nat):Int):=by rw [i64_in ω ω]; omega
   have hZ:=λk v=>q2M (f:=f) (j:=J) (i:=R) (k:=k) (x:=v);have hIs:=hI.s;obtain ⟨L,hL⟩:∃ L,L=tZ f J R:=⟨_,rfl⟩;have hLn:L.length<=R:=by rw [hL]; unfold tZ; exact zO (xY _ _) σ
   have hixJ:=hix J;rw [<- hL] at oJ hZ hixJ hIs;clear hL;obtain ⟨p,hp⟩:∃ p,y[J]?=some p:=⟨_,zA Oq⟩;obtain ⟨p1,p2⟩:=hy p (zC hp);rw [getD_some hp] at hIs;have hLv:∀ e ∈ L,(e.2 < 18446744073709551616/\q0I e.2)/\e.1 < R:=λe he=>by
    obtain ⟨q1,q2⟩:=(hZ e.1 e.2).1 he;exact ⟨⟨h.u J e.1 e.2 hlt q1 q2,h.v J e.1 e.2 hlt q1 q2⟩,q1⟩
   have hBL:=λt=>hB.pg (g:=λv => -(q0v v p)) (L:=L.take t) λe he=>by
    rw [zX];exact (q1f (hLv e (wN he)).1.2 p2).2
   refine wk1 (x2 hlt' g1) ?_;refine q0U (λt:Nat=>t<=L.length) [1,2,5,6,20,21] [2] Lk Lk (λt=>[(7,iv ((o J+t:Nat):Int))]) (λ_=>[]) (λt=>q5k R (psG (λv => -(q0v v p)) (L.take t) rows)) (λt=>L.length-t) 0 (zE _) ?_ ?_
   .refine LeW [] rfl rfl ?_ ?_ (by simp [q0y,q0n,win]) ?_
    .exact Ow
    .exact wfB (q0g Oq)
    .try simp -implicitDefEqProofs (disch:=omega) only [go_sem,Nat.reduceEqDiff,Nat.reduceAdd,↓reduceIte]
   .intro t ht
    by_cases hlt2:t < L.length
    .obtain ⟨⟨i,v⟩,e1,e2,e3⟩:=hixJ (o J+t) Oq Oq Oq;rw [tQ] at e1;dsimp only at e2 e3;obtain ⟨⟨v1,v2⟩,hin⟩:=hLv (i,v) (zC e1);dsimp only at v1 v2 hin;have hq:((o J+t:Nat):Int) < ((o (J+1):Nat):Int):=ω
     have C1:=q8N v1 (q0i v2);have C2:=q8N p1 (q0i p2);have M:=q1f v2 p2;have C3:=q1u (q8h (q6F v2) (q6F p2) M.1) (q43 M.1).2.2.2;have N3:=q3D (V:=q0v v p);have N1:=qsb (q6F v2);have N2:=qsb (q6F p2);have hr1:(List.range R)[i]?=some i:=zF hin;have hob:=(zQ.1 e2).1;have wt:IntKind.i64.wrap (((o J+t:Nat):Int)+1)=((o J+(t+1):Nat):Int):=by rw [i64_in ω ω]; omega
     have hps:psG (λv => -(q0v v p)) (L.take (t+1)) rows=q4F (psG (λv => -(q0v v p)) (L.take t) rows) i (q0v v p):=by
      rw [qsT e1];dsimp only;rw [Int.neg_neg]
     have hli:(psG (λv => -(q0v v p)) (L.take t) rows i).length<=2000:=by have:=(hBL t).l i; rw [z7] at this; omega
     generalize psG (λv => -(q0v v p)) (L.take t) rows=rs at *;refine wk1 (x6 g1 g2 ww hq e2 (x4 e3 hr1 hp wt)) ?_;refine ⟨t+1,ω,ω,?_⟩;rw [hps];unfold q5k;rw [<- q9Z];refine q60 (r:=66) (k:=i) (row:=qjs rs) (λ_ h=>h) hin clV ?_ ?_ (λi h1 h2 h3 h4=>?_) (λ_ _=>clV) BOk.h0 (.inl ω) ω ω ω (by simp [nmW]) ?_
     .try simp -implicitDefEqProofs (disch:=omega) only [go_sem,Nat.reduceEqDiff,Nat.reduceAdd,↓reduceIte]
     .try refine Zz ?_
      rw [zK]
      rfl
     .rw [q0A h2,q0A h4,q0A h3,q0A (by obtain ⟨w1,w2⟩:=h1; omega),q0V h1]
     .try simp -implicitDefEqProofs (disch:=omega) only [go_sem,Nat.reduceEqDiff,Nat.reduceAdd,↓reduceIte]
    .obtain rfl:t=L.length:=ω
     have hq:¬ ((o J+L.length:Nat):Int) < ((o (J+1):Nat):Int):=ω
     have hB2:=hBL L.length;rw [yA] at hB2 ⊢;refine wk1 (x3 g2 ww hq) ?_;refine ⟨(J+1,psG (λv => -(q0v v p)) L rows),⟨hlt,hIs,hB2.mono (by rw [xP]; omega)⟩,by simp only; omega,?_⟩;simp only;refine LeW [] rfl rfl ?_ ?_ (by simp [q0y,q0n,win]) ?_
     .exact Ow
     .exact wfB (q0g Oq)
     .try simp -implicitDefEqProofs (disch:=omega) only [go_sem,Nat.reduceEqDiff,Nat.reduceAdd,↓reduceIte]
  .obtain rfl:J=C:=ω
   have hlt':¬ (J:Int) < J:=ω
   have hrl:=hB.l;have hbb:=hB.b;have hdy:=λr=>qaG (hbb r) (by have:=hrl r; omega);clear hg hix;refine wk1 hlt' ?_;refine q0U (λr=>r<=R) [1,9,69,70] [] Lk Lk (λr:Nat=>[(71,iv r),(8,.ow 1001 (some 4) 0 r)]) (λr=>[(1001,⟨46,some 4,(im.take r).map λV=>pV V,false⟩)]) (λ_=>q5k R rows) (λr=>R-r) 0 (zE _) ?_ ?_
   .refine LeW [(1001,none)] rfl rfl ?_ ?_ (by simp [q0y,q0n,win]) ?_
    .exact Ow
    .exact wfB (q0g Oq)
    .try refine Zz ?_
     first | done | rfl | exact ⟨rfl,rfl⟩
   .intro r hr;have ll:(im.take r).length=r:=by rw [z7]; omega
    by_cases hlt2:r < R
    .have q2:(r:Int) < R:=ω
     have hr1:(List.range R)[r]?=some r:=zF hlt2;have hd:=hdy r;have C2:=q1u (q5C (l:=rows r) (by have:=hrl r; omega) (λz hz=>by have:=hbb r z hz; unfold q0Z; omega) hd) hd;have C3:=q1u (qjD qf7 λho=>qcg (A:=q1M (rows r)) ho) (qkf hd);have ez:((q1M (rows r)).natAbs:Int)=imZ f y J r:=by unfold imZ; rw [hI r hlt2]
     rw [ez] at C3;have N1:=q3D (V:=q1M (rows r));have N2:=q3D (V:=imZ f y J r);have es:=q1a (hig r hlt2);have hli:=hrl r;generalize q1M (rows r)=sz at *;refine wk1 (x3 q2 hr1 ll) ?_;refine ⟨r+1,ω,ω,?_⟩;rw [es];refine LeW [(1001,some 80)] rfl rfl ?_ ?_ (by simp [q0y,q0n,win]) ?_
     .exact Ow
     .exact wfB (q0g Oq)
     .try refine Zz ?_
      exact ⟨ω,q0R (by rw [zK]; rfl) clV⟩
    .obtain rfl:r=R:=ω
     have q2:¬ (r:Int) < r:=ω
     rw [zU ω] at *;refine wk1 q2 ?_;refine q0U (λi=>i<=y.length) [8,82,83] [1001] Lk Lk (λi:Nat=>[(84,iv i),(9,.ow 1002 (some 4) 0 i)]) (λi=>[(1002,⟨46,some 4,((y.take i).map abZ).map λV=>pV V,false⟩)]) (λ_=>q5k r rows) (λi=>y.length-i) 0 (zE _) ?_ ?_
     .refine LeW [(1002,none)] rfl rfl ?_ ?_ (by simp [q0y,q0n,win]) ?_
      .exact Ow
      .exact wfB (q0g Oq)
      .try refine Zz ?_
       exact ⟨rfl,q0R rfl clV⟩
     .intro i hi;have l2:((y.take i).map abZ).length=i:=by rw [zL,z7]; omega
      by_cases hlt3:i < y.length
      .have q3:(i:Int) < y.length:=ω
       obtain ⟨x,hx⟩:∃ x,y[i]?=some x:=⟨_,zA hlt3⟩;obtain ⟨x1,xf⟩:=hy x (zC hx);have C2:=q9Y x1 xf;have C3:=q1u (q53 x1 xf) (qbY xf);have N2:=q3D (V:=abZ x);have es:(y.take (i+1)).map abZ=(y.take i).map abZ ++ [abZ x]:=by rw [q1a hx,zK]; rfl
       generalize (y.take i).map abZ=W at *;refine wk1 (x3 q3 hx l2) ?_;refine ⟨i+1,ω,ω,?_⟩;rw [es];refine LeW [(1002,some 93)] rfl rfl ?_ ?_ (by simp [q0y,q0n,win]) ?_
       .exact Ow
       .exact wfB (q0g Oq)
       .try refine Zz ?_
        exact ⟨ω,q0R (by rw [zK]; rfl) clV,q0R rfl clV⟩
      .obtain rfl:i=y.length:=ω
       have q3:¬ (y.length:Int) < y.length:=ω
       rw [yA] at l2 ⊢;have hob:bl (grZ (y.map abZ)).natAbs<=66560:=q8H λz hz=>by
        obtain ⟨x,hx,rfl⟩:=zN.1 hz;exact q82 (hy x hx).2
       have C1:=q3o (l:=y.map abZ) Oq;have C2:=q3o (l:=im) Oq;generalize y.map abZ=W at *;generalize grZ W=P at *;generalize grZ im=Q at *;have N1:=q3D (V:=P);have N2:=q3D (V:=Q);have C3:=qjD qf6 λho=>q4m (V:=P) ho;have C4:=qjD qf6 λho=>q4m (V:=Q) ho
       by_cases h1:P=0
       .rw [if_pos h1] at hres;subst hres;refine wk1 (x3 q3 @qmV (decide_eq_true h1)) ?_
        rfl
       rw [if_neg h1] at hres
       by_cases h2:Q=0
       .rw [if_pos h2] at hres;subst hres;refine wk1 (x4 q3 @qmV (decide_eq_false h1) (decide_eq_true h2)) ?_
        rfl
       rw [if_neg h2] at hres;subst hres;have C5:=qp9 (x:=iv 1) qbJ λho=>q6v (mode:=1) (a:=P) (b:=Q) Oq ho.1 ho.2 h2;exact wk1 (x4 q3 @qmV (decide_eq_false h1) (decide_eq_false h2)) trivial
end
open Classical in
noncomputable def lwA (R C:Nat) (f:Nat->Nat->Option Nat) (y:List Nat):Nat × Int:=if R≠C then (0,5) else if y.length≠C then (0,2) else if ∀ x ∈ y,q0I x then (lwV f R C y,0) else (0,4)
section
variable {f:Nat->Nat->Option Nat} {y:List Nat} {R C:Nat}
def qij {x:Nat} (hx:x < 18446744073709551616):ACt 87 [uv x] (bv (!decide (q0I x))):=by
 have C1:=q9X hx;refine ac0 Tryz.func87 Tryz.ntmps87 [.tmp 2] ?_;exact wk trivial
open Classical in
def qf8 (h:TOk f R C) (hR:R<=20) (hC:C<=20) (hy:∀ x ∈ y,x < 18446744073709551616) (hl:y.length<=1000000):ACt 27 [pT R C f,pF y] (.tu [uv (lwA R C f y).1,iv (lwA R C f y).2]):=by
 have C1:=q63 h;have C2:=q2n (f:=87) (λx hx=>qij hx) hy hl;have C3:=λ(h1:q10 y) (h2:y.length=C)=>qcH h hR hC h1 h2;unfold lwA;unfold pT q2w at *;generalize (tM f R C).1=st at *;generalize (tM f R C).2.1=ix at *;generalize (tM f R C).2.2=vl at *
 by_cases h1:R=C
 rotate_left
 .rw [if_pos h1];have q1:((R:Int) != (C:Int))=true:=by simp; omega
  refine ac0 Tryz.func27 Tryz.ntmps27 [.tmp 4,.tmp 5] ?_;refine wk1 q1 ?_
  rfl
 have q1:((R:Int) != (C:Int))=false:=by simp; omega
 rw [if_neg (not_not_intro h1)]
 by_cases h2:y.length=C
 rotate_left
 .rw [if_pos h2];have q2:((y.length:Int) != (C:Int))=true:=by simp; omega
  refine ac0 Tryz.func27 Tryz.ntmps27 [.tmp 4,.tmp 5] ?_;refine wk1 (x2 q1 q2) ?_
  rfl
 have q2:((y.length:Int) != (C:Int))=false:=by simp; omega
 rw [if_neg (not_not_intro h2)]
 by_cases h3:∀ x ∈ y,q0I x
 .rw [if_pos h3];rw [decide_eq_true h3] at C2;have C4:=C3 (λx hx=>⟨hy x hx,h3 x hx⟩) h2;clear C3;dsimp only;generalize lwV f R C y=z at *;refine ac0 Tryz.func27 Tryz.ntmps27 [.tmp 4,.tmp 5] ?_;exact wk1 (x2 q1 q2) trivial
 .rw [if_neg h3];rw [decide_eq_false h3] at C2;clear C3;refine ac0 Tryz.func27 Tryz.ntmps27 [.tmp 4,.tmp 5] ?_;refine wk1 (x2 q1 q2) ?_
  rfl
end
section
variable {f g:Nat}
end
section
variable {l:List Nat}
end
end Go.Proofs.YtbjoghfmhgadkaaGreatDoor
namespace Go.E
open Go Go.RowKit
def qwR {T:TypeId} {id n:Nat} {k:Kd} {h h':Hp} {l:List PV} [NL] (h1:h id=some ⟨T,k,l,false⟩) (hc:ClL l) (h2:h' id=none) (hn:l.length=n):LeV (q0n []) h h' (.ow id k 0 n) (.sl k l):=q5f (T:=T) (l:=l) h1 hc (λi hi=>by
 have hi:some i=some id:=hi;cases hi;exact h2) (by rw [wJ]; exact zU ω)
end Go.E
namespace Go.Sp
open Go.E Go.Proofs.YtbjoghfmhgadkaaGreatDoor
end Go.Sp
namespace Go.Proofs.YtbjoghfmhgadkaaGreatDoor
open Go Go.E Go.Sp
def unN (n j:Nat):List Nat:=(List.replicate n 0).set j 4607182418800017408
section
variable {f:Nat->Nat->Option Nat} {g:LUt} {R C n j:Nat}
def q8l:(unN n j).length=n:=by unfold unN; simp
def qln:∀ x ∈ unN n j,x < 18446744073709551616:=λx hx=>by
 unfold unN at hx
 rcases y6 hx with h | h
 .have:=(xR.1 h).2; omega
 .omega
def unN_v:(List.replicate n (PV.vl (.int .u64 0))).set j (PV.vl (.int .u64 4607182418800017408))=(unN n j).map λz:Nat=>uv z:=by
 unfold unN;rw [List.map_set,List.map_replicate]
 rfl
end
end Go.Proofs.YtbjoghfmhgadkaaGreatDoor
namespace Go.Sp
open Go Go.E Go.Proofs.YtbjoghfmhgadkaaGreatDoor
end Go.Sp
namespace Go.Proofs.YtbjoghfmhgadkaaGreatDoor
open Go Go.E Go.Sp
section
variable {mode A:Int} {a b:Nat}
end
section
variable {F:Nat->Nat->Option Nat} {n:Nat} {b z v:List Nat}
end
section
variable {f k t K B:Nat} {V d l:Int}
def q2x (u:Nat):((2:Int) ^ u).natAbs=2 ^ u:=by rw [Int.natAbs_pow]; rfl
def qbn {X Y:Int} {a:Nat} (h:(X-Y).natAbs<=a):Y.natAbs<=X.natAbs+a/\X.natAbs<=Y.natAbs+a:=ω
def qmb (hK:K=65536) (hl:0 < l) (hf:q0I (fQ 0 d l)):l.natAbs*(ofZ (fQ 0 d l)).natAbs<=d.natAbs*2 ^ (K+1)+l.natAbs*2 ^ K:=by
 have e:=(qbn (q9C hK hl hf)).1;rw [zV,zV,q2x] at e;have a1:d.natAbs*2 ^ (K-53)<=d.natAbs*2 ^ K:=yG _ (zI Oq Oq);have a2:l.natAbs*2 ^ (K-1075)<=l.natAbs*2 ^ K:=yG _ (zI Oq Oq);rw [wW,<- zP];omega
def qjx {c:Nat} (hK:K=65536) (hl:0 < l) (hd:d.natAbs<=l.natAbs*2 ^ c) (hf:q0I (fQ 0 d l)):(ofZ (fQ 0 d l)).natAbs<=2 ^ (K+c+2):=by
 have e:=qmb hK hl hf;have a1:d.natAbs*2 ^ (K+1)<=l.natAbs*2 ^ c*2 ^ (K+1):=zM _ hd;have a2:2 ^ c*2 ^ (K+1)+2 ^ K<=2 ^ (K+c+2):=by
  rw [<- zJ,show c+(K+1)=K+c+1 by omega,wW 2 (K+c+1)];have:2 ^ K<=2 ^ (K+c+1):=zI Oq Oq;omega
 rw [zP] at a1;have a3:l.natAbs*(ofZ (fQ 0 d l)).natAbs<=l.natAbs*2 ^ (K+c+2):=by
  refine zO (zO e (Nat.add_le_add_right a1 _)) ?_;rw [<- Nat.mul_add];exact yG _ a2
 exact y8 a3 Oq
end
section
variable {F:Nat->Nat->Option Nat} {mi:List Int} {n:Nat} {S q r:LuS} {i j k m K a num den:Nat} {v:Nat->Nat} {w:Int}
def fQ_nn {mode d l:Int} (hd:d≠0) (hl:l≠0):fQ mode (-d) (-l)=fQ mode d l:=by
 unfold fQ;rw [if_neg ω,if_neg hd,zX,zX]
 congr 1
 by_cases h1:d < 0 <;> by_cases h2:l < 0
 .rw [decide_eq_true h1,decide_eq_true h2,decide_eq_false ω,decide_eq_false ω]; rfl
 .rw [decide_eq_true h1,decide_eq_false h2,decide_eq_false ω,decide_eq_true ω]; rfl
 .rw [decide_eq_false h1,decide_eq_true h2,decide_eq_true ω,decide_eq_false ω]; rfl
 .rw [decide_eq_false h1,decide_eq_false h2,decide_eq_true ω,decide_eq_true ω]; rfl
def q7q:ofZ 0=0:=q0S q1Z
end
end Go.Proofs.YtbjoghfmhgadkaaGreatDoor
namespace Go.E
open Go Go.RowKit
section
variable {J:Nat->Prop} {h:Hp} {a n:Nat} {T:TypeId} {xs:List PV} {v1 v2 v3:Value}
def qlq {i j k:Nat} (ti:(if i=5000 then some a else none)=some k) (tj:(if j=5000 then some a else none)=some k):i=j:=by
 split at ti
 .split at tj
  .rename_i e1 e2; rw [e1,e2]
  .cases tj
 .cases ti
def b5 [NL] {f:Nat->PV} {g:Nat->PV} (hJ:∀ i,¬ J i) (hb:h a=some ⟨T,none,xs,false⟩) (hc:ClL xs) (hv:∀ t,LeV (λi=>if i=5000 then some a else none) h (q0P h0 5000 ⟨T,none,xs,false⟩) (f t) (g t)):Le J f h g (q0P h0 5000 ⟨T,none,xs,false⟩) :=
 q4W (λi=>if i=5000 then some a else none) (λi b' hb'=>by
  by_cases hi:i=5000
  .subst hi;rw [q0H] at hb'; cases hb';unfold LeB;exact ⟨_,hb,rfl,rfl,⟨rfl,rfl⟩,q0R rfl hc⟩
  .rw [q0A hi] at hb'; cases hb') (λi j k b c hi hj ti tj=>qlq ti tj) hv λi hi=>(hJ i hi).elim
def b5n [NL] {f:Nat->PV} {g:Nat->PV} (hJ:∀ i,¬ J i) (hv:∀ t,LeV (λ_=>none) h (q0P h0 5000 ⟨T,none,[],false⟩) (f t) (g t)):Le J f h g (q0P h0 5000 ⟨T,none,[],false⟩) :=
 q4W (λ_=>none) (λi b' hb'=>by
  by_cases hi:i=5000
  .subst hi;rw [q0H] at hb'; cases hb'
   rfl
  .rw [q0A hi] at hb'; cases hb') (λi j k b c hi hj ti tj=>by cases ti) hv λi hi=>(hJ i hi).elim
def LePt [NL] (hJ:∀ i,¬ J i) (hb:h a=some ⟨T,none,xs,false⟩) (hc:ClL xs):Le J (λ_=>.tu [.ag [.vl v1,.vl v2,.ow a none 0 n],.vl v3]) h (λ_=>.tu [.ag [.vl v1,.vl v2,.ow 5000 none 0 n],.vl v3]) (q0P h0 5000 ⟨T,none,xs,false⟩) :=
 b5 hJ hb hc λ_=>.tu rfl λi x y hx hy=>by
  rcases i with _ | _ | i
  .cases hx; cases hy;exact .ag rfl λi x y hx hy=>by
    rcases i with _ | _ | _ | i
    .cases hx; cases hy; exact .cl trivial
    .cases hx; cases hy; exact .cl trivial
    .cases hx; cases hy; exact .ow (if_pos rfl) q0H
    .simp at hx
  .cases hx; cases hy; exact .cl trivial
  .simp at hx
def LePn [NL] (hJ:∀ i,¬ J i):Le J (λ_=>.tu [.ag [.vl v1,.vl v2,.vl (.slice none 0 0)],.vl v3]) h (λ_=>.tu [.ag [.vl v1,.vl v2,.ow 5000 none 0 0],.vl v3]) (q0P h0 5000 ⟨T,none,[],false⟩) :=
 b5n hJ λ_=>.tu rfl λi x y hx hy=>by
  rcases i with _ | _ | i
  .cases hx; cases hy;exact .ag rfl λi x y hx hy=>by
    rcases i with _ | _ | _ | i
    .cases hx; cases hy; exact .cl trivial
    .cases hx; cases hy; exact .cl trivial
    .cases hx; cases hy; exact .nilow rfl q0H rfl
    .simp at hx
  .cases hx; cases hy; exact .cl trivial
  .simp at hx
end
end Go.E
namespace Go.Proofs.YtbjoghfmhgadkaaGreatDoor
open Go Go.E Go.Sp
def q74 (n:Nat):q2q (q2I n) n:=by
 refine ⟨by rw [q4n],λx hx=>?_,?_⟩
 .unfold q2I at hx;obtain ⟨k,hk,rfl⟩:=zN.1 hx;have:=zW.1 hk;omega
 .unfold q2I;unfold List.Nodup;rw [List.pairwise_map];exact List.nodup_range.imp λh q=>h (Int.ofNat_inj.1 q)
def qh1 {n:Nat} (hn:n<=1000000):ACt 29 [iv n] (pI (q2I n)):=by
 refine ac0 Tryz.func29 Tryz.ntmps29 [.tmp 2] ?_;refine wk ?_;refine q0B (λi=>i<=n) [0] [] Lk Lk (λi:Nat=>[(4,iv i),(3,.ow 1001 none 0 i)]) (λi=>[(1001,⟨3,none,(q2I i).map λz=>iv z,false⟩)]) (λi=>n-i) 0 (zE _) ?_ ?_
 .refine LeM [(1001,some 5)] rfl rfl ?_;refine Zz ?_
  first | done | rfl | exact ⟨rfl,rfl⟩
 .intro i hi;have l1:=q4n i;have l2:=qck i
  by_cases hlt:i < n
  .have q:(i:Int) < n:=ω
   refine wk1 (x2 q l1) ?_;refine ⟨i+1,ω,ω,?_⟩;rw [l2];refine LeM [(1001,some 14)] rfl rfl ?_;refine Zz ?_;omega
  .obtain rfl:i=n:=ω
   have q:¬ (i:Int) < i:=ω
   exact wk1 (x2 q l1) trivial
section
variable {raw:List Nat} {r c:Nat} {st:Int} {g:LUt}
end
noncomputable def ivL (g:LUt) (n:Nat):Nat->Nat->List Nat->List Nat × Int
 | 0,_,acc=>(acc,0)
 | k+1,j,acc=>if (lgE g (unN n j)).2≠0 then ([],(lgE g (unN n j)).2) else ivL g n k (j+1) (acc ++ (lgE g (unN n j)).1)
noncomputable def ivA (g:LUt):Nat × List Nat × Int:=if q5o g≠0 then (0,[],q5o g) else
 (if (ivL g g.rows.length g.rows.length 0 []).2=0 then g.rows.length else 0,(ivL g g.rows.length g.rows.length 0 []).1,(ivL g g.rows.length g.rows.length 0 []).2)
section
variable {g:LUt} {n:Nat}
def qk1 (hb:LUb g) (hn:n=g.rows.length):∀ k j acc,k+j=n->acc.length=j*n->q10 acc->((ivL g n k j acc).2=0->(ivL g n k j acc).1.length=n*n)/\q10 (ivL g n k j acc).1/\((ivL g n k j acc).2≠0->(ivL g n k j acc).1=[])
 | 0,j,acc,h1,h2,h3=>by
  obtain rfl:j=n:=ω
  exact ⟨λ_=>h2,h3,λh=>absurd rfl h⟩
 | k+1,j,acc,h1,h2,h3=>by
  rw [ivL]
  by_cases h:(lgE g (unN n j)).2=0
  .rw [if_neg (not_not_intro h)];obtain ⟨_,_,_,k1,k2⟩:=qkX hb qln h;refine qk1 hb hn k (j+1) _ ω (by rw [yE,h2,k1,<- hn,xP]) λx hx=>?_
   rcases yC.1 hx with hx | hx
   .exact h3 x hx
   .exact k2 x hx
  .rw [if_pos h];exact ⟨λq=>absurd q h,λx hx=>(by cases hx),λ_=>rfl⟩
def qk3 (hb:LUb g):((ivA g).2.2=0->(ivA g).1=g.rows.length/\(ivA g).2.1.length=g.rows.length*g.rows.length)/\q10 (ivA g).2.1/\((ivA g).2.2≠0->(ivA g).2.1=[]/\(ivA g).1=0):=by
 unfold ivA
 by_cases h:q5o g=0
 .rw [if_neg (not_not_intro h)];obtain ⟨h1,h2,h3⟩:=qk1 hb rfl g.rows.length 0 [] ω σ (λx hx=>by cases hx);dsimp only;exact ⟨λq=>⟨if_pos q,h1 q⟩,h2,λq=>⟨h3 q,if_neg q⟩⟩
 .rw [if_pos h];exact ⟨λq=>absurd q h,λx hx=>(by cases hx),λ_=>⟨rfl,rfl⟩⟩
def qgS (hb:LUb g) (hn:g.rows.length<=20):ql2 62 [pLU g] h0 (.tu [.ag [iv (ivA g).1,iv (ivA g).1,.ow 5000 none 0 (ivA g).2.1.length],iv (ivA g).2.2]) (q0P h0 5000 ⟨32,none,(ivA g).2.1.map λz:Nat=>uv z,false⟩):=by
 have hJ:∀ i,¬ (h0 i≠none):=λi h=>h rfl;have hJe:(λi=>(h0:Hp) i≠none)=λ_=>False:=funext λi=>eq_false (hJ i);have C2:=qc8 hb;obtain ⟨res,hres⟩:∃ res,res=ivA g:=⟨_,rfl⟩;rw [<- hres];unfold ivA at hres;have C3:=λ(n j:Nat) (hn:n<=1000000)=>qgT (f:=g) (l:=unN n j) hb ω qln (by rw [q8l]; omega);have hE:=λ(n j:Nat) (q:(lgE g (unN n j)).2=0)=>qkX hb qln q;have hst:∀ n k j acc,ivL g n (k+1) j acc=if (lgE g (unN n j)).2≠0 then ([],(lgE g (unN n j)).2) else ivL g n k (j+1) (acc ++ (lgE g (unN n j)).1):=λ_ _ _ _=>rfl
 have hs0:∀ n j acc,ivL g n 0 j acc=(acc,0):=λ_ _ _=>rfl;unfold pLU at C2 C3 ⊢;generalize q5o g=e at *;refine qp8 qus Tryz.func62 rfl Tryz.ntmps62 κ ?_ ?_ ?_ ?_
 .intro i b hb; cases hb
 .intro i b hb
  by_cases hi:i=5000
  .subst hi; exact ⟨ω,ω⟩
  .rw [q0A hi] at hb; cases hb
 .exact IdL.of λx hx=>by
   simp at hx;subst hx;unfold IdP;exact IdL.of λx hx=>by
    simp at hx
    rcases hx with rfl | rfl | rfl | rfl | rfl | rfl | rfl | rfl <;> unfold IdP <;> trivial
 have hW:WfH h0:=⟨λi b hb=>by cases hb⟩;rw [hJe]
 by_cases h1:e=0
 rotate_left
 .rw [if_pos h1] at hres;subst hres;have q2:(e != 0)=true:=by simpa using h1
  clear C3;refine wk1 q2 ?_;refine (rtM (rs:=[.cell 2 28,.tmp 3]) rfl rfl Lq ?_ (.inl rfl));exact LePn hJ
 subst h1;rw [if_neg (show ¬ (0:Int)≠0 by decide)] at hres;obtain ⟨n,hnn⟩:∃ n,n=g.rows.length:=⟨_,rfl⟩;rw [<- hnn] at hres hn;have q0:((g.rows.length:Nat):Int)=n:=ω
 replace C3:=λj=>C3 n j Oq;replace hE:=λj=>hE n j;replace hst:=hst n;replace hs0:=hs0 n;refine wk1 q0 ?_;refine q0U (λq:Nat × List Nat=>q.1<=n/\q.2.length=q.1*n/\ivL g n (n-q.1) q.1 q.2=ivL g n n 0 []) [1,2,5,6] [1,2] Lk Lk (λq=>[(7,iv q.1)]) (λq=>[(6,⟨28,some 3,[.ag [iv n,iv n,.ow 1001 none 0 q.2.length]],false⟩),(1001,⟨32,none,q.2.map λz:Nat=>uv z,false⟩)]) (λ_=>h0) (λq=>n-q.1) (0,[]) ⟨zE _,σ,rfl⟩ ?_ ?_
 .refine LeW [(1001,none)] rfl rfl ?_ ?_ (by simp [q0y,q0n,win]) ?_
  .exact Ow
  .exact hW
  .try refine Zz ?_
   first | done | rfl | exact ⟨rfl,rfl⟩
 .rintro ⟨j,acc⟩ ⟨hj,hal,hiv⟩;simp only at hj hal hiv ⊢;have hjn:j*n<=20*20:=zR Oq hn
  by_cases hlt:j < n
  .have q3:(j:Int) < n:=ω
   rw [show n-j=(n-(j+1))+1 by omega,hst] at hiv;have c3:=C3 j;have hEj:=hE j;have hun:=unN_v (n:=n) (j:=j);have ul:=q8l (n:=n) (j:=j);generalize unN n j=U at *;generalize (lgE g U).1=l at *;generalize (lgE g U).2=e at *;clear C3 hE hst hs0;refine wk1 (x3 q3 hun ul) ?_;refine q1g (LeW [] rfl rfl (hw:=h0) (xs:=[(1,.pt 1 0 0),(2,.pt 2 0 0),(5,iv n),(6,.pt 6 0 0),(7,iv j),(8,pF U)]) (kv:=[]) (bs:=[(1,⟨63,some 8,[.ag [pI g.rows,pI g.cols,pI g.ls,pI g.li,pF g.lv,pI g.us,pI g.ui,pF g.uv]],false⟩),(2,⟨28,some 3,[.ag [iv 0,iv 0,q05]],false⟩),(6,⟨28,some 3,[.ag [iv n,iv n,.ow 1001 none 0 acc.length]],false⟩),(1001,⟨32,none,acc.map λz:Nat=>uv z,false⟩)]) (kb:=[]) ?_ hW (by simp [q0y,q0n,win]) ?_) ?_
   .exact Ow
   .try refine Zz ?_
    refine qwR (T:=32) (l:=U.map λz:Nat=>uv z) ?_ clU ?_ (by rw [zL,ul])
    .try simp -implicitDefEqProofs (disch:=omega) only [go_sem,Nat.reduceEqDiff,Nat.reduceAdd,↓reduceIte]
    .try simp -implicitDefEqProofs (disch:=omega) only [go_sem,Nat.reduceEqDiff,Nat.reduceAdd,↓reduceIte]
   by_cases h4:e=0
   rotate_left
   .have q4:(e != 0)=true:=by simpa using h4
    rw [if_pos h4] at hiv;rw [<- hiv] at hres;dsimp only at hres;rw [if_neg h4] at hres;subst hres;refine wk1 q4 ?_;refine (rtM (rs:=[.cell 2 28,.tmp 3]) rfl rfl Lq ?_ (.inl rfl));exact LePn hJ
   obtain ⟨_,_,_,k1,k2⟩:=hEj h4;subst h4;rw [if_neg (show ¬ (0:Int)≠0 by decide)] at hiv;refine wk ?_;refine ⟨(j+1,acc ++ l),⟨by simp only; omega,by simp only; rw [yE,hal,k1,<- hnn,xP],hiv⟩,by simp only; omega,?_⟩;simp only;refine LeW [(1001,some 49)] rfl rfl ?_ ?_ (by simp [q0y,q0n,win]) ?_
   .exact Ow
   .exact hW
   .try refine Zz ?_
    exact ⟨ω,q0R (by rw [zK]) clU⟩
  .obtain rfl:j=n:=ω
   have q3:¬ (j:Int) < j:=ω
   rw [tS,hs0] at hiv;rw [<- hiv,if_pos rfl] at hres;subst hres;refine wk1 q3 ?_;refine (rtM (rs:=[.cell 2 28,.tmp 3]) rfl rfl Lq ?_ (.inl rfl));refine LePt hJ ?_ clU
   try simp -implicitDefEqProofs (disch:=omega) only [go_sem,Nat.reduceEqDiff,Nat.reduceAdd,↓reduceIte]
end
section
variable {K a b c n k:Nat} {D:Nat->Nat->Nat} {F:Nat->Nat->Option Nat}
def fR_le {V:Int} (hK:K=65536) (hb:K<=b+1000) (hV:V.natAbs<=2 ^ b) (hf:q0I (fR 0 V)):(ofZ (fR 0 V)).natAbs<=2 ^ (b+1):=by
 by_cases h0:V=0
 .subst h0;have:ofZ (fR 0 0)=0:=by have:=q0S q1Z; simpa [fR] using this
  rw [this];exact zE _
 obtain ⟨u,r,h1,h2,_,h4,h5,h6,h7⟩:=qoD hK h0 hf;generalize ofZ (fR 0 V)=q at *;have hs:q.natAbs=r*2 ^ u:=by
  rw [h4,zV,q2x]
  congr 1
  unfold sgn
  split <;> omega
 have e:q.natAbs<=V.natAbs+(V-q).natAbs:=ω
 rw [wW]
 rcases h6 with h6 | h6
 .have:2 ^ u<=2 ^ b:=zI Oq Oq;omega
 .have h8:4503599627370496*2 ^ u<=r*2 ^ u:=zM _ h6;rw [<- hs] at h8;generalize 2 ^ u=Y at *;omega
def fQ_le {d l:Int} (hK:K=65536) (hl:l≠0) (hd:d.natAbs<=l.natAbs*2 ^ c) (hf:q0I (fQ 0 d l)):(ofZ (fQ 0 d l)).natAbs<=2 ^ (K+c+2):=by
 by_cases h0:d=0
 .subst h0;have:fQ 0 0 l=0:=by unfold fQ; rw [if_pos rfl]
  rw [this,q7q];exact zE _
 .by_cases hp:0 < l
  .exact qjx hK hp hd hf
  .rw [<- fQ_nn h0 hl] at hf ⊢;exact qjx hK ω (by rw [zX,zX]; exact hd) hf
def qdz {x y:Nat} (hK:K=65536) (hx:q0I x) (hy:q0I y) (h1:(ofZ x).natAbs<=2 ^ (K+b)) (h2:(ofZ y).natAbs<=2 ^ (K+c)):(q0v x y).natAbs<=2 ^ (K+b+c):=by
 have e:=(q9J hK hx hy).1;have h3:(q0v x y).natAbs*2 ^ K<=2 ^ (K+b)*2 ^ (K+c):=by
  have h2':=congrArg wT e;rw [zV,zV,q2x] at h2';rw [h2'];exact zR h1 h2
 rw [<- zJ,show K+b+(K+c)=K+b+c+K by omega,zJ] at h3;exact yV h3 (Nat.pow_pos Oq)
def qmW {g:Nat->Int} {Y:Nat}:∀ m,(∀ i,i < m->(g i).natAbs<=Y)->(sg g m).natAbs<=m*Y
 | 0,_=>by simp [sg]
 | m+1,h=>by
  have:=qmW m λi hi=>h i Oq;have:=h m Oq;rw [sg,xP];omega
def szL (K b:Nat) (ys:List Nat):Prop:=∀ i,(q0I (ys.getD i 0))/\(ofZ (ys.getD i 0)).natAbs<=2 ^ (K+b)
def qdF {ys:List Nat} {v:Nat} (h:szL K b ys) (hbc:b<=c) (hv:q0I v/\(ofZ v).natAbs<=2 ^ (K+c)):szL K c (ys.set k v):=λi=>by
 rw [zB,xX]
 split
 .split
  .exact hv
  .exact ⟨by simp [q0I],by simp [q7q]⟩
 .rw [<- zB];exact ⟨(h i).1,zO (h i).2 (zI Oq Oq)⟩
end
section
variable {K a n R C j:Nat} {F f:Nat->Nat->Option Nat} {S:LuS} {cols mi:List Int}
def qfX {e:Nat × Nat} (hj:j < C) (he:e ∈ q55 (tM f R C).1 (tM f R C).2.1 (tM f R C).2.2 j):f j e.1=some e.2/\e.1 < R:=by
 rw [q3m (q1N ω) (q1N ω)] at he;obtain ⟨t,ht,rfl⟩:=zN.1 he;rw [zW] at ht;obtain ⟨q,h1,h2,h3⟩:=q64 (f:=f) (R:=R) (k:=tO f R j+t) hj Oq Oq;have h4:=zC h1;obtain ⟨h5,h6⟩:=q2M.1 (show (q.1,q.2) ∈ tZ f j R from h4);rw [zB,zB,h2,h3];exact ⟨h6,h5⟩
def qkj (L:List (Nat × Nat)) (r:Nat):ctV L r=0\/∃ e ∈ L,e.1=r/\e.2=ctV L r:=by
 unfold ctV;cases hf:L.find? λe=>e.1 == r with
 | none=>exact .inl rfl
 | some e =>
  have:=List.find?_some hf;exact .inr ⟨e,xU hf,by simpa using this,rfl⟩
def cLo_v {i c:Nat} (hc:c < n):cLo (q8a S cols n) i c=0\/(c < i/\i < n/\cLo (q8a S cols n) i c=S.l (S.rows.getD i 0) c):=by
 rcases qkj (q55 (tM (fLt S) n n).1 (tM (fLt S) n n).2.1 (tM (fLt S) n n).2.2 c) i with h | ⟨e,h1,h2,h3⟩
 .exact .inl h
 .obtain ⟨h4,h5⟩:=qfX hc h1;unfold fLt at h4
  split at h4
  .rename_i h6;refine .inr ⟨ω,ω,?_⟩
   show ctV (q55 (tM (fLt S) n n).1 (tM (fLt S) n n).2.1 (tM (fLt S) n n).2.2 c) i=_
   rw [<- h3,<- h2];exact (xG.inj h4).symm
  .cases h4
def cUp_v {i c:Nat} (hc:c < n):cUp (q8a S cols n) i c=0\/(i<=c/\cUp (q8a S cols n) i c=S.u i c):=by
 rcases qkj (q55 (tM (fUt S) n n).1 (tM (fUt S) n n).2.1 (tM (fUt S) n n).2.2 c) i with h | ⟨e,h1,h2,h3⟩
 .exact .inl h
 .obtain ⟨h4,h5⟩:=qfX hc h1;unfold fUt at h4
  split at h4
  .rename_i h6;refine .inr ⟨ω,?_⟩
   show ctV (q55 (tM (fUt S) n n).1 (tM (fUt S) n n).2.1 (tM (fUt S) n n).2.2 c) i=_
   rw [<- h3,<- h2];exact (xG.inj h4).symm
  .cases h4
def qeW {g:LUt} {x:Nat}:∀ (k j:Nat) (acc:List Nat),x ∈ (ivL g n k j acc).1->x ∈ acc\/∃ j',(lgE g (unN n j')).2=0/\x ∈ (lgE g (unN n j')).1
 | 0,j,acc,h=>.inl h
 | k+1,j,acc,h=>by
  rw [ivL] at h
  by_cases h0:(lgE g (unN n j)).2=0
  .rw [if_neg (not_not_intro h0)] at h
   rcases qeW k (j+1) _ h with h1 | h1
   .rcases yC.1 h1 with h2 | h2
    .exact .inl h2
    .exact .inr ⟨j,h0,h2⟩
   .exact .inr h1
  .rw [if_pos h0] at h; cases h
def qd0 {x:List Nat} {o:List Int} {v:Nat}:∀ k,v ∈ scS x o n k->v=0\/∃ i,v=x.getD i 0
 | 0,h=>.inl (xR.1 h).2
 | k+1,h=>by
  rw [scS] at h
  rcases y6 h with h | h
  .exact qd0 k h
  .exact .inr ⟨k,h⟩
def qcn {i:Nat}:(unN n j).getD i 0=0\/(unN n j).getD i 0=4607182418800017408:=by
 unfold unN;rw [zB,xX]
 split
 .split
  .exact .inr rfl
  .exact .inl rfl
 .rw [List.getElem?_replicate]
  split
  .exact .inl rfl
  .exact .inl rfl
def qkE (hK:K=65536):q0I 4607182418800017408/\(ofZ 4607182418800017408).natAbs<=2 ^ (K+0):=by
 refine ⟨by decide,?_⟩;have h:=qmr (a:=4607182418800017408) Oq (by decide);obtain ⟨u,hu⟩:∃ u,u=ulpE 4607182418800017408:=⟨_,rfl⟩;have h1:u=65484:=by rw [hu]; decide
 rw [h,<- hu,zV,q2x];clear hu;have h2:(((if 4607182418800017408 / 4503599627370496=0 then 4607182418800017408 else 4503599627370496+4607182418800017408 % 4503599627370496:Nat):Int)).natAbs=2 ^ 52:=by decide
 rw [h2,<- zJ];exact zI Oq Oq
def qtX (hK:K=65536) {o:List Int}:szL K 0 (gaS (unN n j) o n):=λi=>by
 have h0:q0I 0/\(ofZ 0).natAbs<=2 ^ (K+0):=⟨by simp [q0I],by simp [q7q]⟩;rw [zB];cases h:(gaS (unN n j) o n)[i]? with
 | none=>exact h0
 | some v =>
  have hm:=zC h;unfold gaS rwG at hm;obtain ⟨c,_,hv⟩:=zN.1 hm;have:v=0\/v=4607182418800017408:=by
   rw [<- hv]
   split
   .exact qcn
   .exact .inl rfl
  rcases this with rfl | rfl
  .exact h0
  .exact qkE hK
end
section
variable {K b c n k:Nat} {D:Nat->Nat->Nat} {F:Nat->Nat->Option Nat} {mi:List Int}
def qtl {d l:Int} (hK:K=65536) (hl:l≠0) (hc:c<=900) (hd:d.natAbs<=l.natAbs*2 ^ c):q0I (fQ 0 d l):=by
 unfold fQ
 split
 .unfold q0I; simp
 .rename_i h0;obtain ⟨u,r,h1,h2,h3,h4,h5⟩:=q2j (mode:=0) (neg:=decide (d < 0) != decide (l < 0)) (N:=d.natAbs) (D:=l.natAbs) (K:=K) Oq Oq Oq;rw [h2];have hu:u+1076 < 2047+K:=by
   rcases h5 with h5 | ⟨_,h5⟩
   .omega
   .have h6:l.natAbs*2 ^ (u+52)<=l.natAbs*2 ^ c*2 ^ K:=zO h5 (zM _ hd);rw [zP,<- zJ] at h6;have:=(xA (by omega:1 < 2)).1 (y8 h6 Oq);omega
  have:=q4S (mode:=0) (neg:=decide (d < 0) != decide (l < 0)) hK h1 h4 Oq hu;intro hn;unfold ofF at this;rw [if_pos hn] at this;cases this
def qkb (hK:K=65536) (hn:n<=4) (hD:∀ i c,c < i->i < n->q0I (D i c)/\(ofZ (D i c)).natAbs<=2 ^ (K+3)):∀ (m k b:Nat) (ys:List Nat),k+m=n->b+7*m<=200->szL K b ys->∃ zs,geL D m k ys=some zs/\szL K (b+7*m) zs
 | 0,k,b,ys,_,_,h=>⟨ys,rfl,h⟩
 | m+1,k,b,ys,hk,hb,h=>by
  have h1:(loZ D ys k).natAbs<=2 ^ (K+(b+6)):=by
   have h2:=qmW (g:=λc=>q0v (D k c) (ys.getD c 0)) (Y:=2 ^ (K+3+b)) k λc hc=>qdz hK (hD k c hc Oq).1 (h c).1 (hD k c hc Oq).2 (h c).2;have h3:=(h k).2;have h4:k*2 ^ (K+3+b)<=4*2 ^ (K+3+b):=zM _ Oq;have h5:2 ^ (K+3+b)=2 ^ (K+b)*8:=by rw [show K+3+b=K+b+3 by omega,zJ]
   have h6:2 ^ (K+(b+6))=2 ^ (K+b)*64:=by rw [show K+(b+6)=K+b+6 by omega,zJ]
   unfold loZ;rw [h6];rw [h5] at h2 h4;generalize 2 ^ (K+b)=Y at *;omega
  have hfin:q0I (fR 0 (loZ D ys k)):=by
   refine q9W (c:=b+7) hK Oq (yL h1 ?_);rw [<- zJ];exact Nat.pow_lt_pow_right Oq Oq
  have h7:=fR_le hK Oq h1 hfin;obtain ⟨zs,z1,z2⟩:=qkb hK hn hD m (k+1) (b+7) _ Oq Oq (qdF (k:=k) h Oq ⟨hfin,h7⟩);refine ⟨zs,?_,?_⟩
  .unfold geL;rw [if_pos hfin];exact z1
  .rw [show b+7*(m+1)=b+7+7*m by omega];exact z2
def qka (hK:K=65536) (hn:n<=4) (hD:∀ i c,i<=c->c < n->q0I (D i c)/\(ofZ (D i c)).natAbs<=2 ^ (K+16)) (hd:∀ i,i < n->2 ^ K<=(ofZ (D i i)).natAbs*2):∀ (k b:Nat) (ys:List Nat),k<=n->b+23*k<=200->szL K b ys->∃ zs,geU D n k ys=some zs/\szL K (b+23*k) zs
 | 0,b,ys,_,_,h=>⟨ys,rfl,h⟩
 | k+1,b,ys,hk,hb,h=>by
  have h1:(upZ D ys n k).natAbs<=2 ^ (K+(b+19)):=by
   have h2:=qmW (g:=λi=>q0v (D k (k+1+i)) (ys.getD (k+1+i) 0)) (Y:=2 ^ (K+16+b)) (n-(k+1)) λc hc=>qdz hK (hD k (k+1+c) Oq Oq).1 (h _).1 (hD k (k+1+c) Oq Oq).2 (h _).2;have h3:=(h k).2;have h4:(n-(k+1))*2 ^ (K+16+b)<=4*2 ^ (K+16+b):=zM _ Oq;have h5:2 ^ (K+b)<=2 ^ (K+16+b):=zI Oq Oq;have h6:2 ^ (K+(b+19))=2 ^ (K+16+b)*8:=by rw [show K+(b+19)=K+16+b+3 by omega,zJ]
   unfold upZ;rw [h6];generalize 2 ^ (K+16+b)=Y at *;generalize 2 ^ (K+b)=X at *;omega
  have h9:=hd k (Nat.lt_of_succ_le hk);have h0:ofZ (D k k)≠0:=λh0=>by
   rw [h0,Int.natAbs_zero,Nat.zero_mul] at h9;exact absurd h9 (Nat.not_le_of_gt (Nat.pow_pos (by decide)))
  have h7:(upZ D ys n k).natAbs<=(ofZ (D k k)).natAbs*2 ^ (b+20):=by
   refine zO h1 ?_;rw [zJ 2 K,show b+20=1+(b+19) by omega,zJ 2 1,<- zP];exact zM _ h9
  have hfin:=qtl hK h0 Oq h7;have h8:=fQ_le hK h0 h7 hfin;obtain ⟨zs,z1,z2⟩:=qka hK hn hD hd k (b+23) _ Oq Oq (qdF (k:=k) h Oq ⟨hfin,zO h8 (zI Oq Oq)⟩);refine ⟨zs,?_,?_⟩
  .unfold geU;rw [if_pos hfin];exact z1
  .rw [show b+23*(k+1)=b+23+23*k by omega];exact z2
structure DmF (K n:Nat) (f:LUt):Prop where
 b:LUb f
 c:q5o f=0
 rl:f.rows.length=n
 l:∀ i c,c < i->i < n->q0I (cLo f i c)/\(ofZ (cLo f i c)).natAbs<=2 ^ (K+3)
 u:∀ i c,i<=c->c < n->q0I (cUp f i c)/\(ofZ (cUp f i c)).natAbs<=2 ^ (K+16)
 d:∀ i,i < n->2 ^ K<=(ofZ (cUp f i i)).natAbs*2
def qoC {e:Int} (u:UnE K e) (hn:n<=4) (hF:∀ j,j < n->DmC F n j e):DmF K n (qcA F mi n (q2I n) 1 1):=by
 obtain ⟨e0,hI⟩:=qat (mi:=mi) u Oq hF n (zH _);have hE:=facE (F:=F) (mi:=mi) (n:=n) (cols:=q2I n) (num:=1) (den:=1) n e0;have hG:=q2m (F:=F) (mi:=mi) (n:=n) (cols:=q2I n) (num:=1) (den:=1) n e0;have hR:=qth (F:=F) (mi:=mi) (n:=n) (cols:=q2I n) (num:=1) (den:=1) e0;unfold qcA;rw [if_pos e0];generalize (q1C F mi n (q2I n) 1 1 n).2.2=S at *;have hck:=quk hE hG hR Oq (q74 n);have hb:=qsy (cols:=q2I n) hG Oq (q4n n);have hrl:(q8a S (q2I n) n).rows.length=n:=by show (S.rows.map _).length=n; rw [zL,hG.len]
 have z0:q0I 0/\(ofZ 0).natAbs<=0:=⟨by simp [q0I],by simp [q7q]⟩;have hp:q04=(2:Int) ^ K:=by rw [u.k]; exact q2O
 have he:=u.e;have hp1:=u.p;have cK:((2 ^ K:Nat):Int)=q04:=by rw [q0N,hp]
 have c16:((2 ^ (K+16):Nat):Int)=65536*q04:=by rw [zJ,zG,cK,z9]; rfl
 have c3:((2 ^ (K+3):Nat):Int)=8*q04:=by rw [zJ,zG,cK,z9]; rfl
 have hl1:∀ i m,m < i->i < n->ab (ofZ (S.l i m))<=q04:=λi m hm hi=>by
  refine wD ?_ (hI.l m Oq);exact qg9 (g:=λi=>ab (ofZ (S.l i m))) (λi _ _=>by unfold ab; omega) (show m+1<=i by omega) hi
 refine ⟨hb,hck,hrl,λi c hc hi=>?_,λi c hic hc=>?_,λi hi=>?_⟩
 .rcases cLo_v (S:=S) (cols:=q2I n) (i:=i) (show c < n by omega) with e | ⟨_,_,e⟩
  .rw [e]; exact ⟨z0.1,zO z0.2 (zE _)⟩
  .rw [e,hI.r,zB,zF hi,yJ];refine ⟨(hG.l _ _).1,tJ.1 ?_⟩;have:=hl1 i c hc hi;rw [c3];unfold ab at this;omega
 .rcases cUp_v (S:=S) (cols:=q2I n) (i:=i) hc with e | ⟨_,e⟩
  .rw [e]; exact ⟨z0.1,zO z0.2 (zE _)⟩
  .rw [e];refine ⟨(hG.u _ _).1,tJ.1 ?_⟩;have:=hI.b i c hic hc;rw [c16];unfold ab at this;omega
 .have e:cUp (q8a S (q2I n) n) i i=S.u i i:=by
   show ctV (q55 (tM (fUt S) n n).1 (tM (fUt S) n n).2.1 (tM (fUt S) n n).2.2 i) i=_
   rw [qoY hi,ctV_Z hi];unfold fUt;rw [if_pos ⟨zH _,(hE.d i hi).2.2⟩]; rfl
  rw [e];refine tJ.1 ?_;have:=hI.d i hi;rw [cK];unfold ab at this;omega
def qtH (hK:K=65536) (hn:n<=4) {f:LUt} (h:DmF K n f) (j:Nat):(lgE f (unN n j)).2=0/\∀ x ∈ (lgE f (unN n j)).1,(ofZ x).natAbs<=2 ^ (K+120):=by
 have hs:qdQ (q5o f) f.rows.length (unN n j)=0:=by
  unfold qdQ;rw [h.c,if_neg (not_not_intro rfl),h.rl,if_neg (not_not_intro q8l),if_neg];refine not_not_intro λx hx=>?_;obtain ⟨i,hi⟩:=yM.1 hx;have:=qcn (n:=n) (j:=j) (i:=i);rw [zB,hi,yJ] at this
  rcases this with rfl | rfl
  .unfold q0I; simp
  .exact (qkE hK).1
 obtain ⟨y,y1,y2⟩:=qkb (D:=cLo f) hK hn h.l n 0 0 (gaS (unN n j) f.rows n) Oq Oq (qtX hK);obtain ⟨z,z1,z2⟩:=qka (D:=cUp f) hK hn h.u h.d n (0+7*n) y (zH _) Oq y2;have e:lgE f (unN n j)=(scS z f.cols n n,0):=by
  unfold lgE;rw [if_neg (not_not_intro hs),h.rl,y1];simp only;rw [z1]
 rw [e];refine ⟨rfl,λx hx=>?_⟩
 rcases qd0 _ hx with e | ⟨i,e⟩
 .rw [e,q7q]; exact zE _
 .rw [e];exact zO (z2 i).2 (zI Oq Oq)
def qk2 {f:LUt} (h:∀ j,(lgE f (unN n j)).2=0):∀ k j acc,(ivL f n k j acc).2=0
 | 0,_,_=>rfl
 | k+1,j,acc=>by
  rw [ivL,if_neg (not_not_intro (h j))];exact qk2 h k (j+1) _
def qk4 {e:Int} (u:UnE K e) (hn:n<=4) (hF:∀ j,j < n->DmC F n j e):(ivA (qcA F mi n (q2I n) 1 1)).2.2=0/\(ivA (qcA F mi n (q2I n) 1 1)).1=n/\∀ x ∈ (ivA (qcA F mi n (q2I n) 1 1)).2.1,(ofZ x).natAbs<=2 ^ (K+120):=by
 have h:=qoC (mi:=mi) u hn hF;generalize qcA F mi n (q2I n) 1 1=f at *;have hl:=qtH u.k hn h;have hz:=qk2 λj=>(hl j).1;unfold ivA;rw [if_neg (not_not_intro h.c),h.rl];dsimp only;rw [hz,if_pos rfl];refine ⟨rfl,rfl,λx hx=>?_⟩
 rcases qeW _ _ _ hx with q | ⟨j',q1,q2⟩
 .cases q
 .exact (hl j').2 x q2
end
section
variable {T:Nat->Nat->Option Nat} {mi:List Int} {n k num den:Nat} {S q:LuS}
end

def qmu {neg:Bool} {E:Nat} (hE:E=66507):ofF (sb neg 9218868437227405311)=some (sgn neg 9007199254740991*(2:Int) ^ E):=by
 unfold ofF;have h1:sb neg 9218868437227405311 / 4503599627370496 % 2048=2046:=by unfold sb; cases neg <;> simp
 have h2:sb neg 9218868437227405311 % 4503599627370496=4503599627370495:=by unfold sb; cases neg <;> simp
 have h3:decide (9223372036854775808<=sb neg 9218868437227405311)=neg:=by unfold sb; cases neg <;> simp
 rw [h1,if_neg ω,if_neg ω,h2,h3,show 64461+2046=E by omega]
def qmn {mode:Int} {neg:Bool} (hm:mode=1\/mode=2) (h:awy mode neg=true):q6f mode neg=sb neg 9218868437227405312:=by
 unfold q6f;unfold awy at h;rw [if_neg];rintro (h1 | ⟨h1,h2⟩ | ⟨h1,h2⟩)
 .omega
 .subst h1 h2; simp at h
 .subst h1 h2; simp at h
def qmp {mode:Int} {neg:Bool} (hm:mode=1\/mode=2) (h:awy mode neg=false):q6f mode neg=sb neg 9218868437227405311:=by
 unfold q6f;unfold awy at h;rw [if_pos]
 rcases hm with rfl | rfl
 .exact .inr (.inl ⟨rfl,by simpa using h⟩)
 .exact .inr (.inr ⟨rfl,by simpa using h⟩)
def qm3 {mode:Int} {neg:Bool} {A B:Nat} (hm:mode=1\/mode=2) (hB:0 < B) (h:awy mode neg=true):A<=B*rq mode neg A B:=by
 have h1:=wG A B;have h2:=Nat.mod_lt A hB;have h3:B*(A / B+1)=B*(A / B)+B:=by rw [Nat.mul_add,xL]
 unfold awy at h;unfold rq
 split
 .omega
 .rcases hm with rfl | rfl
  .rw [if_pos rfl] at h ⊢;rw [if_pos h,h3]; omega
  .rw [if_neg (by omega:¬ (2:Int)=1)] at h ⊢;rw [if_pos rfl,if_neg (by simpa using h),h3]; omega
def qrw {mode:Int} {neg:Bool} {A B:Nat} (hm:mode=1\/mode=2) (h:awy mode neg=false):B*rq mode neg A B<=A:=by
 have h1:=wG A B;unfold awy at h;unfold rq
 split
 .omega
 .rcases hm with rfl | rfl
  .rw [if_pos rfl] at h ⊢;rw [if_neg (by simpa using h)]; omega
  .rw [if_neg (by omega:¬ (2:Int)=1)] at h ⊢;rw [if_pos rfl,if_pos (by simpa using h)]; omega
def qsO {mode:Int} {neg:Bool} {N D K:Nat} (hK:K=65536) (hm:mode=1\/mode=2) (hN:0 < N) (hD:0 < D) :
  (awy mode neg=true->rF mode neg N D=sb neg 9218868437227405312\/∃ y:Nat,ofF (rF mode neg N D)=some (sgn neg y)/\N*2 ^ K<=D*y)/\(awy mode neg=false->∃ y:Nat,ofF (rF mode neg N D)=some (sgn neg y)/\D*y<=N*2 ^ K):=by
 obtain ⟨u,r,h1,h2,h3,h4,h5⟩:=q2j (mode:=mode) (neg:=neg) (N:=N) (D:=D) (K:=K) hN hD Oq;rw [h2];have ha:awy mode neg=true->N*2 ^ K<=D*(r*2 ^ u):=λq=>by
  have:=qm3 (A:=N*2 ^ K) hm (tW hD (q0E u)) q;rw [<- h3,zP,yO (2 ^ u)] at this;exact this
 have ht:awy mode neg=false->D*(r*2 ^ u)<=N*2 ^ K:=λq=>by
  have:=qrw (A:=N*2 ^ K) (B:=D*2 ^ u) hm q;rw [<- h3,zP,yO (2 ^ u)] at this;exact this
 have good:ofF (fin mode neg r ((u:Int)-K))=some (sgn neg r*(2:Int) ^ u)->(awy mode neg=true->fin mode neg r ((u:Int)-K)=sb neg 9218868437227405312\/∃ y:Nat,ofF (fin mode neg r ((u:Int)-K))=some (sgn neg y)/\N*2 ^ K<=D*y)/\(awy mode neg=false->∃ y:Nat,ofF (fin mode neg r ((u:Int)-K))=some (sgn neg y)/\D*y<=N*2 ^ K):=λq=>by
  rw [<- qdU] at q;exact ⟨λw=>.inr ⟨_,q,ha w⟩,λw=>⟨_,q,ht w⟩⟩
 have bad:fin mode neg r ((u:Int)-K)=q6f mode neg->9007199254740992*2 ^ (K+971)<=r*2 ^ u->(awy mode neg=true->fin mode neg r ((u:Int)-K)=sb neg 9218868437227405312\/∃ y:Nat,ofF (fin mode neg r ((u:Int)-K))=some (sgn neg y)/\N*2 ^ K<=D*y)/\(awy mode neg=false->∃ y:Nat,ofF (fin mode neg r ((u:Int)-K))=some (sgn neg y)/\D*y<=N*2 ^ K):=λq hb=>by
  rw [q];refine ⟨λw=>.inl (qmn hm w),λw=>⟨9007199254740991*2 ^ (K+971),?_,?_⟩⟩
  .rw [qmp hm w,qmu (E:=K+971) ω,<- qdU]
  .refine zO (yG D (zO (zM _ Oq) hb)) (ht w)
 by_cases hu:u+1076 < 2047+K
 .exact good (q4S hK h1 h4 (by rcases h5 with h5 | h5; exact .inl h5; exact .inr h5.1) hu)
 have hr2:4503599627370496<=r:=by rcases h5 with h5 | h5; omega; exact h5.1
 by_cases hr:r=9007199254740992
 .refine bad ?_ ?_
  .unfold fin;rw [if_pos hr];unfold q4g;rw [if_neg ω,if_pos ω]
  .rw [hr];exact yG _ (zI Oq Oq)
 .by_cases hu2:u+1076=2047+K
  .refine good ?_;unfold fin;rw [if_neg hr,q3h ω ω ω (.inr hr2),show ((u:Int)-K+65536).toNat=u by omega]
  .refine bad ?_ ?_
   .unfold fin;rw [if_neg hr];unfold q4g;rw [if_neg ω,if_pos ω]
   .obtain ⟨w,rfl⟩:∃ w,u=K+971+1+w:=⟨u-(K+971+1),ω⟩;have e:r*2 ^ (K+971+1+w)=r*2*2 ^ w*2 ^ (K+971):=by rw [show K+971+1+w=1+w+(K+971) by omega,zJ,zJ,Nat.pow_one,<- zP,<- zP]
    rw [e];refine zM _ ?_;have:=zR (show 9007199254740992<=r*2 by omega) (q0E w)
    rwa [xL] at this
def qex {f:Nat} {V:Int} (h:ofF f=some V):q0I f/\ofZ f=V:=by
 refine ⟨λq=>?_,q0S h⟩;unfold ofF at h;rw [if_pos q] at h;cases h
def qrc (r:Nat):sgn true r = -(r:Int):=rfl
def qrd (r:Nat):sgn false r=(r:Int):=rfl
def fQ_up {a b:Int} {K:Nat} (hK:K=65536) (hb:0 < b):fQ 2 a b=9218868437227405312\/(q0I (fQ 2 a b)/\a*(2:Int) ^ K<=b*ofZ (fQ 2 a b)):=by
 have hp:=q0L K;unfold fQ
 by_cases ha:a=0
 .rw [if_pos ha,ha];refine .inr ⟨by simp [q0I],?_⟩;rw [q0S q1Z]; simp
 .rw [if_neg ha,decide_eq_false (show ¬ b < 0 by omega),Bool.bne_false];obtain ⟨d1,d2⟩:=qsO (mode:=2) (neg:=decide (a < 0)) (N:=a.natAbs) (D:=b.natAbs) hK (.inr rfl) Oq Oq;have eb:((b.natAbs:Nat):Int)=b:=ω
  by_cases hn:a < 0
  .rw [decide_eq_true hn] at d1 d2 ⊢;obtain ⟨y,h1,h2⟩:=d2 rfl;obtain ⟨h3,h4⟩:=qex h1;refine .inr ⟨h3,?_⟩;rw [h4,qrc];have h5:((b.natAbs*y:Nat):Int)<=((a.natAbs*2 ^ K:Nat):Int):=by exact_mod_cast h2
   rw [zG,zG,eb,q0N,show ((a.natAbs:Nat):Int) = -a by omega,w4] at h5;rw [Int.mul_neg];omega
  .rw [decide_eq_false hn] at d1 d2 ⊢
   rcases d1 rfl with h | ⟨y,h1,h2⟩
   .exact .inl h
   obtain ⟨h3,h4⟩:=qex h1;refine .inr ⟨h3,?_⟩;rw [h4,qrd];have h5:((a.natAbs*2 ^ K:Nat):Int)<=((b.natAbs*y:Nat):Int):=by exact_mod_cast h2
   rw [zG,zG,eb,q0N,show ((a.natAbs:Nat):Int)=a by omega] at h5;exact h5
def fR_fQ {mode V:Int} {K:Nat} (hK:K=65536):fR mode V=fQ mode V ((2:Int) ^ K):=by
 have hp:=q0L K;unfold fR fQ;rw [decide_eq_false (show ¬ (2:Int) ^ K < 0 by omega),Bool.bne_false,<- hK]
 congr 2
def fR_up {V:Int}:fR 2 V=9218868437227405312\/(q0I (fR 2 V)/\V<=ofZ (fR 2 V)):=by
 obtain ⟨K,hK⟩:∃ K:Nat,K=65536:=⟨_,rfl⟩;have hp:=q0L K;rw [fR_fQ hK]
 rcases fQ_up (a:=V) hK hp with h | ⟨h1,h2⟩
 .exact .inl h
 .refine .inr ⟨h1,?_⟩;rw [z9] at h2;exact Int.le_of_mul_le_mul_left h2 hp
def fR_ub {mode V:Int} {K c:Nat} (hK:K=65536) (hc:c=900) (h:V.natAbs < 2 ^ c*2 ^ K):(ofZ (fR mode V)).natAbs<=2*V.natAbs+2 ^ K:=by
 unfold fR
 split
 .rw [qa4]; exact zE _
 .rw [<- hK];obtain ⟨u,r,h1,h2,h3,h4,h5⟩:=q2j (mode:=mode) (neg:=decide (V < 0)) (N:=V.natAbs) (D:=2 ^ K) (K:=K) Oq (q0E _) Oq;rw [h2];have hu:u+1076 < 2047+K:=by
   rcases h5 with h5 | ⟨_,h5⟩
   .omega
   .have h6:2 ^ K*2 ^ (u+52) < 2 ^ c*2 ^ K*2 ^ K:=yL h5 (tP h (q0E K));rw [<- zJ,<- zJ,<- zJ] at h6;have:=(xB (by omega:1 < 2)).1 h6;omega
  have hv:=q4S (mode:=mode) (neg:=decide (V < 0)) hK h1 h4 Oq hu;rw [q0S hv,q0G];have hs:(sgn (decide (V < 0)) r).natAbs=r:=by unfold sgn; split <;> omega
  rw [hs];have e53:r*2 ^ u<=9007199254740992*2 ^ u:=zM _ h4
  rcases h5 with h5 | ⟨_,h5⟩
  .have:9007199254740992*2 ^ u<=2 ^ K:=by
    rw [show (9007199254740992:Nat)=2 ^ 53 by decide,<- zJ];exact zI Oq Oq
   exact zO e53 (zO this (Nat.le_add_left _ _))
  .rw [yO V.natAbs] at h5;have h6:2 ^ (u+52)<=V.natAbs:=y8 h5 (q0E K);have h7:9007199254740992*2 ^ u=2*2 ^ (u+52):=by
    rw [zJ,show (2:Nat) ^ 52=4503599627370496 by decide];generalize 2 ^ u=x;omega
   rw [h7] at e53;exact zO e53 (zO (yG 2 h6) (Nat.le_add_right _ _))
section
variable {raw:List Nat} {n k:Nat}
end
section
variable {x y:List Nat} {t:Nat}
end
section
variable {f:Nat->Nat->Option Nat} {x:List Nat} {R C:Nat}
end

end Go.Proofs.YtbjoghfmhgadkaaGreatDoor
namespace Go.Sp
open Go Go.E Go.Proofs.YtbjoghfmhgadkaaGreatDoor
section
open Classical
end
section
variable {n:Nat} {f:Nat->Nat->Option Nat} {F:List Int × List Int × List Int × List Nat} {x r p:List Nat} {rho:Int}
end
end Go.Sp
namespace Go.E
open Go Go.RowKit
end Go.E
namespace Go.Proofs.YtbjoghfmhgadkaaGreatDoor
open Go Go.E Go.Sp
section
variable {n:Nat} {f:Nat->Nat->Option Nat} {F:List Int × List Int × List Int × List Nat} {x r p:List Nat} {rho:Int}
def qtO {a0 a1 a2 a3 a4 a5 a6 a7 a8 a9 a10 a11 a12 a13 a14 a15 a16:PV}:ldU (some 17) (some 5) 0 (.ag [a0,a1,a2,a3,a4,a5,a6,a7,a8,a9,a10,a11,a12,a13,a14,a15,a16])=some (.ag [a0,a1,a2,a3,a4]):=by simp [ldU]
def qtP {a0 a1 a2 a3 a4 a5 a6 a7 a8 a9 a10 a11 a12 a13 a14 a15 a16:PV}:ldU (some 17) (some 4) 5 (.ag [a0,a1,a2,a3,a4,a5,a6,a7,a8,a9,a10,a11,a12,a13,a14,a15,a16])=some (.ag [a5,a6,a7,a8]):=by simp [ldU]
def qtN {a0 a1 a2 a3 a4 a5 a6 a7 a8 a9 a10 a11 a12 a13 a14 a15 a16:PV}:ldU (some 17) (some 4) 13 (.ag [a0,a1,a2,a3,a4,a5,a6,a7,a8,a9,a10,a11,a12,a13,a14,a15,a16])=some (.ag [a13,a14,a15,a16]):=by simp [ldU]
def qrY {a0 a1 a2 a3 a4 a5 a6 a7 a8 a9 a10 a11 a12 a13 a14 a15 a16 b0 b1 b2 b3:PV}:stU (some 17) (some 4) 13 (.ag [a0,a1,a2,a3,a4,a5,a6,a7,a8,a9,a10,a11,a12,a13,a14,a15,a16]) (.ag [b0,b1,b2,b3])=some (.ag [a0,a1,a2,a3,a4,a5,a6,a7,a8,a9,a10,a11,a12,b0,b1,b2,b3]):=by simp [stU]
attribute [go_sem] qtO qtP qtN qrY
end
section
variable {R C:Nat} {f:Nat->Nat->Option Nat} {F:List Int × List Int × List Int × List Nat} {b:List Nat} {steps:Int}
end
end Go.Proofs.YtbjoghfmhgadkaaGreatDoor
namespace Go.E
open Go Go.RowKit
def flS_5 {off:Nat} {a b c d e:PV} {cs:List PV}:flS (some (off,5)) (.ag [a,b,c,d,e]) cs=q86 cs off [a,b,c,d,e]:=by
 rw [q4L σ];simp [flS]
attribute [go_sem] flS_5
end Go.E
namespace Go.Proofs.YtbjoghfmhgadkaaGreatDoor
open Go Go.E Go.Sp
section
variable {R C:Nat} {f:Nat->Nat->Option Nat} {F:List Int × List Int × List Int × List Nat} {b:List Nat} {steps:Int}
end
section
variable {n k:Nat} {f:Nat->Nat->Option Nat} {F:List Int × List Int × List Int × List Nat} {x r p x' r' p' l:List Nat} {rho rho' e:Int}
end
section
variable {R C:Nat} {f:Nat->Nat->Option Nat} {F:List Int × List Int × List Int × List Nat} {b:List Nat} {steps:Int}
end
def qkl {h:Hp}:clo h .un=some (.un,[]):=by
 unfold clo q3E;exact if_pos trivial
section
variable {f:Nat->Nat->Option Nat} {n:Nat}
end

end Go.Proofs.YtbjoghfmhgadkaaGreatDoor
namespace Go.Sp
open Go Go.E Go.Proofs.YtbjoghfmhgadkaaGreatDoor
def qds {z:Int} {K:Nat} (hK:K=65536) (h:z.natAbs<=9):ofZ (flz z)=z*(2:Int) ^ K:=by rw [hK]; exact q0S (qej ω)
def ofZ_0:ofZ 0=0:=by have:=qds (z:=0) rfl ω; rw [qhj,yF] at this; exact this
section
variable {c1 c2 c4 c8 K:Nat}
end
end Go.Sp
namespace Go.Proofs.YtbjoghfmhgadkaaGreatDoor
open Go Go.E Go.Sp
section
variable {K:Nat} {e:Int} {raw:List Nat} {G:Nat->Nat->Option Nat} {n s:Nat}
def qdX {g:Nat->Int}:∀ n,sg (λi => -g i) n = -sg g n
 | 0=>by rw [sg,sg]; rfl
 | n+1=>by rw [sg,sg,qdX n]; omega
def qd6 {i:Nat}:∀ m,q1M (rgL G i m)=q04+sg (λk=>if k=i then 0 else ab (ofZ ((G k i).getD 0))+ab (ofZ ((G i k).getD 0))) m
 | 0=>by unfold rgL; rw [q4o,sg]; omega
 | m+1=>by
  unfold rgL;rw [sg]
  by_cases h:m=i
  .rw [if_pos h,if_pos h,qd6 m]; omega
  .rw [if_neg h,if_neg h,show ∀ (a b:Int) (l:List Int),l ++ [a,b]=(l ++ [a]) ++ [b] from λa b l=>by simp,q0c,q0c,qd6 m];unfold ab;omega
def qrf {g:Nat->Int} (n:Nat) (h:∀ i,i < n->0<=g i):0<=sg g n:=by
 have h0:sg (λ_=>(0:Int)) n=0:=q8v n λi _=>rfl;rw [<- h0];exact q1y n h
def qa7 (hK:K=65536) (w:Nat):∃ z:Int,ofZ (q2J 0 w)=z*(2:Int) ^ K/\z.natAbs<=9:=by
 unfold q2J;rw [if_neg ω,if_neg ω,if_neg ω];have hs:=q4p w;exact ⟨q31 w,qds hK Oq,ω⟩
def qmy {w K:Nat} (hK:K=65536):(ofZ (q2J 1 w)).natAbs<=2 ^ (K+4):=by
 obtain ⟨t,ht⟩:∃ t,t=w / 4503599627370496 % 8:=⟨_,rfl⟩;obtain ⟨r,hr⟩:∃ r,r=w % 4503599627370496:=⟨_,rfl⟩;have hx:q2J 1 w=w / 9223372036854775808*9223372036854775808+(1019+t)*4503599627370496+r:=by rw [ht,hr]; rfl
 have ht8:t < 8:=ω
 have hr5:r < 4503599627370496:=ω
 rw [hx];generalize w / 9223372036854775808=q;have h1:(q*9223372036854775808+(1019+t)*4503599627370496+r) / 4503599627370496 % 2048=1019+t:=ω
 have h2:(q*9223372036854775808+(1019+t)*4503599627370496+r) % 4503599627370496=r:=ω
 unfold ofZ ofF;rw [h1,if_neg ω,if_neg ω,h2,yJ,q0G,q0h];obtain ⟨c,hc⟩:∃ c,c=65487:=⟨_,rfl⟩;refine zO (zR (show 4503599627370496+r<=2 ^ 53 by omega) (zI Oq (show 64461+(1019+t)<=c by omega))) ?_;rw [<- zJ];exact zI Oq Oq
def qsc (u:UnE K e) {w:Nat} (hs:s=0\/s=1):ab (ofZ (q2J s w))<=16*q04:=by
 have hp:q04=(2:Int) ^ K:=by rw [u.k]; exact q2O
 have he:=u.e;have hpp:=u.p
 rcases hs with rfl | rfl
 .obtain ⟨z,h1,h2⟩:=qa7 u.k w;unfold ab;rw [h1,<- hp,zV,zG,show ((q04.natAbs:Nat):Int)=q04 by omega];exact zD Oq Oq
 .have h:=tJ.2 (qmy (w:=w) u.k);rw [q0N,tH,<- hp,show (2:Int) ^ 4=16 by decide,z9] at h;exact h
def gF_sm (u:UnE K e) (hs:s=0\/s=1) (j i:Nat):ab (ofZ ((gF raw n s j i).getD 0))<=16*q04:=by
 have hpp:=u.p;have he:=u.e;unfold gF
 split
 .exact qsc u hs
 .rw [Option.getD_none,qa4]; unfold ab; omega
def qfL (u:UnE K e) (hn:n<=4) (hs:s=0\/s=1) (j:Nat) (hj:j < n):DmC (rgF (gF raw n s) n) n j e:=by
 have hT:=qd9 (raw:=raw) (n:=n) (k:=s) Oq (by rcases hs with h | h <;> omega);have hG:=λj i=>gF_sm (raw:=raw) (n:=n) u hs j i;have hp:q04=(2:Int) ^ K:=by rw [u.k]; exact q2O
 have he:=u.e;have hpp:=u.p;refine ⟨λi hi=>(hT.fin hj hi).1,?_,?_⟩
 all_goals
  generalize gF raw n s=G at *;obtain ⟨V,hV⟩:∃ V,V=q1M (rgL G j n):=⟨_,rfl⟩;have hVs:=qd6 (G:=G) (i:=j) n;rw [<- hV] at hVs;have hV0:0<=sg (λk=>if k=j then 0 else ab (ofZ ((G k j).getD 0))+ab (ofZ ((G j k).getD 0))) n:=qrf n λk _=>by
   split
   .exact yK _
   .unfold ab; omega
  have hV1:sg (λk=>if k=j then 0 else ab (ofZ ((G k j).getD 0))+ab (ofZ ((G j k).getD 0))) n<=128*q04:=by
   have a1:=q1y (g:=λk=>if k=j then 0 else ab (ofZ ((G k j).getD 0))+ab (ofZ ((G j k).getD 0))) (h:=λ_=>32*q04) n λk _=>by
    split
    .omega
    .have:=hG k j;have:=hG j k;omega
   rw [q32] at a1;have a2:(n:Int)*(32*q04)<=4*(32*q04):=zD Oq Oq;omega
  have hfi:q0I (fR 2 V):=by
   refine q9W (c:=100) u.k Oq (wV.1 ?_);rw [zG,q0N,q0N,<- hp,show (2:Int) ^ 100=1267650600228229401496703205376 by decide];omega
  obtain ⟨c9,hc9⟩:∃ c,c=900:=⟨_,rfl⟩;have hub:=tJ.2 (fR_ub (mode:=2) (V:=V) u.k hc9 (wV.1 (by
   rw [zG,q0N,q0N,<- hp];have:(1267650600228229401496703205376:Int)<=2 ^ c9:=by
    rw [show (1267650600228229401496703205376:Int)=((2 ^ 100:Nat):Int) by decide,<- q0N];exact tJ.2 (zI Oq Oq)
   have a2:1267650600228229401496703205376*q04<=2 ^ c9*q04:=zD this Oq;generalize (2:Int) ^ c9*q04=X at *;omega)))
  rw [xD,q0N,<- hp] at hub;have hup:V<=ofZ (fR 2 V):=by
   rcases fR_up (V:=V) with h | h
   .rw [h] at hfi; exact absurd hfi (by unfold q0I; omega)
   .exact h.2
  have hFz:∀ i,ofZ ((rgF G n j i).getD 0)=if i=j then ofZ (fR 2 V) else ofZ ((G j i).getD 0):=λi=>by
   unfold rgF
   by_cases h:i=j
   .rw [if_pos h,if_pos h,h,<- hV]; rfl
   .rw [if_neg h,if_neg h]
  simp only [hFz];clear hFz hT hV;have hGj:=λi=>hG j i;generalize hgz:(λi=>ofZ ((G j i).getD 0))=gz at *;have hgi:∀ i,ofZ ((G j i).getD 0)=gz i:=λi=>by rw [<- hgz]
  simp only [hgi] at *;generalize ofZ (fR 2 V)=d at *
 .have hd:ab d<=259*q04:=by unfold ab; omega
  have a1:=q1y (g:=λi=>if 0<=i then ab (if i=j then d else gz i) else 0) (h:=λi=>(if j=i then 259*q04 else 0)+16*q04) n λi _=>by
   rw [if_pos (zE _)]
   by_cases h:i=j
   .rw [if_pos h,if_pos h.symm]; omega
   .rw [if_neg h,if_neg λq=>h q.symm];have:=hGj i;omega
  rw [q7i (g:=λi=>if j=i then 259*q04 else 0) (h:=λ_=>16*q04),q5x (g:=λ_=>259*q04),if_pos hj,q32] at a1;have a2:(n:Int)*(16*q04)<=4*(16*q04):=zD Oq Oq;refine wD a1 ?_;omega
 .unfold tl;rw [q0z (h:=λi=>(if j=i then ab d else 0) + -(if i=j then 0 else ab (gz i))) n λi _=>by
   rw [if_pos (zE _)]
   show (if i=j then ab (if i=j then d else gz i) else -ab (if i=j then d else gz i))=_
   by_cases h:i=j
   .rw [if_pos h,if_pos h,if_pos h.symm,if_pos h]; omega
   .rw [if_neg h,if_neg h,if_neg (λq=>h q.symm),if_neg h]; omega]
  rw [q7i (g:=λi=>if j=i then ab d else 0) (h:=λi => -(if i=j then 0 else ab (gz i))),q5x (g:=λ_=>ab d),if_pos hj,qdX (g:=λi=>if i=j then 0 else ab (gz i))];have a1:=q1y (g:=λk=>if k=j then 0 else ab (gz k)) (h:=λk=>if k=j then 0 else ab (ofZ ((G k j).getD 0))+ab (gz k)) n λk _=>by
   split
   .exact yK _
   .unfold ab; omega
  unfold ab at *;omega
end
section
variable {V W n:Int} {x:Nat}
def qfQ (h1 : -200000<=n) (h2:n<=200000) (hv:mkV (od V) (dyE V+n)=some W):ACt 49 [pV V,iv n] (pV W):=qvw κ λho=>q1u (qcy ho h1 h2 hv) (q43 hv).2.2.2
def q8L {mode:Int} (hx:x < 18446744073709551616) (hf:q0I x) (h1 : -5000<=n) (h2:n<=5000) (hv:mkV (od (ofZ x)) (dyE (ofZ x)+n)=some W):ACt 24 [uv x,iv n,iv mode] (uv (if q2P x=1 then fR mode W else x:Nat)):=by
 have cN:=qaW hx hf;have cK:=qaY hx;have cO:=q28 hx (q0i hf);have cS:=qfQ Oq Oq hv;have cR:=q35 (V:=W) (mode:=mode)
 by_cases hk:q2P x=1
 .rw [if_pos hk];rw [hk] at cK;have q:(((1:Nat):Int) != 1)=false:=rfl;have m1:min 5000 n=n:=ω
  have m2:max (-5000) n=n:=ω
  refine ac0 Tryz.func24 Tryz.ntmps24 [.tmp 6] ?_;exact wk1 (x3 q m1 m2) trivial
 .rw [if_neg hk];have q:(((q2P x:Nat):Int) != 1)=true:=by simp; omega
  refine ac0 Tryz.func24 Tryz.ntmps24 [.tmp 6] ?_;exact wk1 q trivial
end
section
attribute [local instance] lNL
end
end Go.Proofs.YtbjoghfmhgadkaaGreatDoor
namespace Go.Sp
open Go Go.E Go.Proofs.YtbjoghfmhgadkaaGreatDoor
end Go.Sp
namespace Go.Proofs.YtbjoghfmhgadkaaGreatDoor
open Go Go.E Go.Sp
section
variable {n:Nat} {o:List Int} {vs:List Nat}
end
section
variable {n U:Nat} {o:List Int} {vs b:List Nat} {h:Nat->Nat} {c:Nat->Int} {f:Nat->Nat->Option Nat}
end
def qmc {x:Nat} (hx:x < 18446744073709551616) (hf:q0I x) (hz:ofZ x≠0):q2P x=1:=by
 have h3:=q6m hf;have h0:q2P x≠0:=λh=>by
  have:=(qeV hx).1 h;have e:x=0\/x=9223372036854775808:=by unfold q2S at this; omega
  refine hz ?_
  rcases e with q | q
  .rw [q,ofZ_0]
  .rw [q]; exact q0S (by unfold ofF; rw [if_neg (by decide),if_pos (by decide),show sgn (decide (9223372036854775808<=9223372036854775808)) (9223372036854775808 % 4503599627370496)=0 from rfl,yF])
 unfold q0I at hf;unfold q2P at h3 h0 ⊢;rw [if_neg (λq=>hf q.1),if_neg hf] at h0 ⊢
 split
 .rename_i q; rw [if_pos q] at h0; exact absurd rfl h0
 .rfl
section
variable {F:Nat->Nat->Option Nat} {R:Nat}
end
noncomputable def ckT (raw:List Nat) (N:Nat) (st:Int) (rg:Bool):Nat->Nat->Option Nat:=if rg then rgF (gF raw N (q06 (q06 st 3:Nat) 4)) N else gF raw N (q06 st 4)
noncomputable def ckL (raw:List Nat) (N:Nat) (st:Int) (rg:Bool):LUt:=qcA (ckT raw N st rg) (tM (ckT raw N st rg) N N).2.1 N (q2I N) 1 1
open Classical in
noncomputable def ckB (raw:List Nat) (N:Nat) (st:Int) (rg wild:Bool):List Nat:=if wild=true\/(ivA (ckL raw N st rg)).2.2≠0\/(ivA (ckL raw N st rg)).1≠N then qq9 raw 500 (q06 2 4) (N*N) else (ivA (ckL raw N st rg)).2.1
def spX (raw:List Nat) (s k x:Nat):Nat:=(x+s*(q5s raw (k:Int) % 100000)) % 18446744073709551616
def spL (raw:List Nat) (s:Nat) (p:List Nat) (i:Nat):List Nat:=(List.range p.length).map λk=>if k < i then spX raw s k (p.getD k 0) else p.getD k 0
noncomputable def ckV (raw:List Nat) (N:Nat) (st:Int) (rg:Bool) (sp:Int) (wild:Bool):List Nat:=spL raw (q06 sp 4) (ckB raw N st rg wild) (ckB raw N st rg wild).length
section
variable {raw p:List Nat} {s i N:Nat} {st sp n:Int} {rg wild:Bool}
def q67:(spL raw s p i).length=p.length:=by unfold spL; simp
def spL_0:spL raw s p 0=p:=by
 unfold spL;refine xW λk=>?_;rw [z8]
 by_cases h:k < p.length
 .rw [zF h,yR,if_neg ω,zB,zA h]; rfl
 .rw [yH (by simpa using h),yH ω]; rfl
def qmN (h:i < p.length):(spL raw s p i)[i]?=some (p.getD i 0):=by
 unfold spL;rw [z8,zF h,yR,if_neg ω]
def spL_s (h:i < p.length):(spL raw s p i).set i (spX raw s i (p.getD i 0))=spL raw s p (i+1):=by
 refine xW λk=>?_;rw [xX,q67];unfold spL;rw [z8,z8]
 by_cases hk:k < p.length
 .rw [zF hk,yR,yR]
  by_cases e:i=k
  .subst e; rw [if_pos rfl,if_pos hk,if_pos ω]
  .rw [if_neg e]
   by_cases h2:k < i
   .rw [if_pos h2,if_pos ω]
   .rw [if_neg h2,if_neg ω]
 .rw [yH (by simpa using hk),if_neg ω]; rfl
def spL_u (hp:∀ x ∈ p,x < 18446744073709551616):∀ x ∈ spL raw s p i,x < 18446744073709551616:=λx hx=>by
 unfold spL at hx;obtain ⟨k,hk,rfl⟩:=zN.1 hx
 split
 .exact Nat.mod_lt _ Oq
 .have hk:=zW.1 hk;rw [zB,zA hk];exact hp _ (x8 hk)
def qkp (hN:N<=100):TOk (ckT raw N st rg) N N:=by
 unfold ckT;cases rg
 .rw [if_neg (by decide)];exact qna Oq Oq (by have:=zR hN hN; omega)
 .rw [if_pos rfl];exact qd9 hN (by unfold q06; omega)
def qo9 (hN:N<=100):LUb (ckL raw N st rg)/\(ckL raw N st rg).rows.length<=N:=qti hN (by rw [q4n]; omega)
def qf4 (hN:N<=100):(ckB raw N st rg wild).length=N*N/\∀ x ∈ ckB raw N st rg wild,x < 18446744073709551616:=by
 unfold ckB
 split
 .exact ⟨qg6,λx hx=>(qcj x hx).1⟩
 .rename_i h;have hI:=qk3 (g:=ckL raw N st rg) (qo9 hN).1;have h2:(ivA (ckL raw N st rg)).2.2=0:=Classical.not_not.1 λq=>h (.inr (.inl q));have h3:(ivA (ckL raw N st rg)).1=N:=Classical.not_not.1 λq=>h (.inr (.inr q));refine ⟨?_,λx hx=>(hI.2.1 x hx).1⟩;rw [(hI.1 h2).2,<- (hI.1 h2).1,h3]
def qko (hN:N<=100):(ckV raw N st rg sp wild).length=N*N/\∀ x ∈ ckV raw N st rg sp wild,x < 18446744073709551616:=by
 obtain ⟨h1,h2⟩:=qf4 (raw:=raw) (st:=st) (rg:=rg) (wild:=wild) hN;unfold ckV;exact ⟨by rw [q67]; exact h1,spL_u h2⟩
end
def qtk {m:Int} {t K:Nat} (hK:K=65536) (hm:m.natAbs < 9007199254740992) (h1:K<=t+1070) (h2:t<=K+900):ofZ (fR 0 (m*(2:Int) ^ t))=m*(2:Int) ^ t/\fR 0 (m*(2:Int) ^ t) < 18446744073709551616/\q0I (fR 0 (m*(2:Int) ^ t)):=by
 have key:ofF (fR 0 (m*(2:Int) ^ t))=some (m*(2:Int) ^ t)/\fR 0 (m*(2:Int) ^ t) < 18446744073709551616:=by
  unfold fR;rw [<- hK]
  by_cases h0:m=0
  .subst h0;rw [yF,if_pos rfl];exact ⟨q1Z,ω⟩
  .have hp:=q0L t;have hne:m*(2:Int) ^ t≠0:=wI h0 (wX hp);have hsg:decide (m*(2:Int) ^ t < 0)=decide (m < 0):=by
    rw [decide_eq_decide]
    constructor
    .intro h
     rcases Int.lt_or_le m 0 with h1 | h1
     .exact h1
     .have:=wM h1 (yY hp); omega
    .intro h; exact Int.mul_neg_of_neg_of_pos h hp
   rw [if_neg hne,hsg,q0G];have hb:bl m.natAbs<=53:=q0O hm;have:=qaZ (mode:=0) (neg:=decide (m < 0)) (N:=m.natAbs*2 ^ t) (D:=2 ^ K) (M:=m.natAbs) (f:=(t:Int)-K) (q0E K) Oq hb Oq Oq (by
    rcases Nat.le_total K t with h | h
    .obtain ⟨d,rfl⟩:∃ d,t=K+d:=⟨t-K,ω⟩;rw [show (-(((K+d:Nat):Int)-K)).toNat=0 by omega,show (((K+d:Nat):Int)-K).toNat=d by omega,tT,xL,zJ,yO (2 ^ K) m.natAbs,zP]
    .obtain ⟨d,rfl⟩:∃ d,K=t+d:=⟨K-t,ω⟩;rw [show (-((t:Int)-((t+d:Nat):Int))).toNat=d by omega,show ((t:Int)-((t+d:Nat):Int)).toNat=0 by omega,tT,xL,zJ,yO _ m.natAbs,zP])
   rw [q07,show ((t:Int)-K+65536).toNat=t by omega] at this;exact this
 refine ⟨q0S key.1,key.2,λh=>?_⟩;have:=key.1;unfold ofF at this;rw [if_pos h] at this;cases this
structure gdX (x:Nat):Prop where
 u:x < 18446744073709551616
 f:q0I x
 z:ofZ x=0\/∃ (m:Int) (t:Nat),ofZ x=m*(2:Int) ^ t/\m.natAbs < 9007199254740992/\m≠0/\64560<=t/\t<=66000
def scW (n:Int) (x:Nat):Int:=(mkV (od (ofZ x)) (dyE (ofZ x)+n)).getD 0
def scX (n:Int) (x:Nat):Nat:=if q2P x=1 then fR 0 (scW n x) else x
def q7j {x:Nat} {n:Int} (h:gdX x) (h1 : -30<=n) (h2:n<=30):ACt 24 [uv x,iv n,iv 0] (uv (scX n x:Nat))/\scX n x < 18446744073709551616/\q0I (scX n x)/\ofZ (scX n x)*(2:Int) ^ 30=ofZ x*(2:Int) ^ (n+30).toNat:=by
 rcases h.z with h0 | ⟨m,t,e,hm,hm0,t1,t2⟩
 .have hv:mkV (od (ofZ x)) (dyE (ofZ x)+n)=some 0:=by rw [h0,q18,q1R]
  have hw:scW n x=0:=by unfold scW; rw [hv]; rfl
  have hA:=q8L (mode:=0) h.u h.f Oq Oq hv;have hy:scX n x=if q2P x=1 then fR 0 0 else x:=by unfold scX; rw [hw]
  rw [<- hy] at hA;have hz:fR 0 0=0:=if_pos rfl;rw [hz] at hy;refine ⟨hA,?_,?_,?_⟩
  .rw [hy]; split
   .omega
   .exact h.u
  .rw [hy]; split
   .unfold q0I; omega
   .exact h.f
  .have:ofZ (scX n x)=0:=by
    rw [hy]; split
    .exact q0S q1Z
    .exact h0
   rw [this,h0,yF,yF]
 .obtain ⟨t',ht'⟩:∃ t':Nat,(t':Int)=t+n:=⟨(t+n).toNat,ω⟩;obtain ⟨K,hK⟩:∃ K,K=65536:=⟨_,rfl⟩;have hne:ofZ x≠0:=by rw [e]; exact wI hm0 (wX (q0L _))
  have hb:bl m.natAbs<=53:=q0O hm;have hv:mkV (od (ofZ x)) (dyE (ofZ x)+n)=some (m*(2:Int) ^ t'):=by
   have e1:=q1K (ofZ x);have e2:dyE (ofZ x)+n=((n-65536:Int))+(tz (ofZ x).natAbs:Nat):=by unfold dyE; rw [if_neg hne]; omega
   rw [e2,<- q1S,e1,e,q1S];have hmk:=q5V (m:=m) (E:=n-65536+(t:Nat)) Oq Oq;rw [show (n-65536+((t:Nat):Int)+65536).toNat=t' by omega] at hmk;exact hmk
  have hw:scW n x=m*(2:Int) ^ t':=by unfold scW; rw [hv]; rfl
  have hk:=qmc h.u h.f hne;have hy:scX n x=fR 0 (m*(2:Int) ^ t'):=by unfold scX; rw [if_pos hk,hw]
  have hA:=q8L (mode:=0) h.u h.f Oq Oq hv;rw [if_pos hk,<- hy] at hA;obtain ⟨r1,r2,r3⟩:=qtk (m:=m) (t:=t') hK hm Oq Oq;rw [<- hy] at r1 r2 r3;refine ⟨hA,r2,r3,?_⟩;rw [r1,e,zS,zS,<- tH,<- tH]
  congr 2
  omega
def gd_0 {x:Nat} (hx:x < 18446744073709551616) (hf:q0I x) (h:ofZ x=0):gdX x:=⟨hx,hf,.inl h⟩
def q9T {x:Nat} (hx:x < 18446744073709551616) (h1:100<=x / 4503599627370496 % 2048) (h2:x / 4503599627370496 % 2048<=1500):gdX x:=by
 have hf:q0I x:=by unfold q0I; omega
 refine ⟨hx,hf,.inr ⟨sgn (decide (9223372036854775808<=x)) (4503599627370496+x % 4503599627370496),64461+x / 4503599627370496 % 2048,?_,?_,?_,ω,ω⟩⟩
 .refine q0S ?_;unfold ofF;rw [if_neg ω,if_neg ω]
 .rw [q0h]; omega
 .intro h;have:=congrArg wT h;rw [q0h] at this;omega
def qn9 {x K:Nat} (hK:K=65536) (hx:x < 18446744073709551616) (hf:q0I x) (h1:2 ^ (K-10)<=(ofZ x).natAbs) (h2:(ofZ x).natAbs<=2 ^ (K+400)):gdX x:=by
 obtain ⟨e,he⟩:∃ e,e=x / 4503599627370496 % 2048:=⟨_,rfl⟩;have hb:100<=e/\e<=1500:=by
  unfold q0I at hf;rw [<- he] at hf;unfold ofZ ofF at h1 h2;rw [<- he,if_neg hf] at h1 h2
  by_cases h0:e=0
  .rw [if_pos h0,yJ,q0G,q0h] at h1
   exfalso
   obtain ⟨c,hc⟩:∃ c,c=64462:=⟨_,rfl⟩;rw [<- hc] at h1;have h3:2 ^ (K-10) < 2 ^ 52*2 ^ c:=yL h1 (tP Oq (q0E _));rw [<- zJ] at h3;have:=(xB (by omega:1 < 2)).1 h3;omega
  .rw [if_neg h0,yJ,q0G,q0h] at h1 h2;have h3:2 ^ (K-10) < 2 ^ 53*2 ^ (64461+e):=yL h1 (tP Oq (q0E _));have h4:2 ^ 52*2 ^ (64461+e)<=2 ^ (K+400):=zO (zM _ Oq) h2;rw [<- zJ] at h3 h4;have h5:=(xB (by omega:1 < 2)).1 h3;have h6:=(xA (by omega:1 < 2)).1 h4;omega
 rw [he] at hb;exact q9T hx hb.1 hb.2
section
variable {F F':Nat->Nat->Option Nat} {n:Nat} {v v':List Nat} {a b c:Int}
def qe9 {c:Int} (hc:0<=c):∀ l:List Int,grZ (l.map λx=>x*c)=grZ l*c:=by
 have key:∀ (l:List Int) (a:Int),(l.map λx=>x*c).foldl max (a*c)=l.foldl max a*c:=λl=>by
  induction l with
  | nil=>intro a; rfl
  | cons x l ih =>
   intro a;rw [y9,xC,xC,<- ih]
   congr 1
   rcases Int.le_total a x with h | h
   .rw [xK h,xK (zD h hc)]
   .rw [wH h,wH (zD h hc)]
 intro l;have:=key l 0;rw [yF] at this;exact this
def qk9 {l l':List Int} {c d:Int} (hc:0<=c) (hd:0<=d) (h:l'.map (λx=>x*c)=l.map λx=>x*d):grZ l'*c=grZ l*d:=by rw [<- qe9 hc,<- qe9 hd,h]
def qlJ {x y:Nat} {c d:Int} (hc:0<=c) (hd:0<=d) (h:ofZ y*c=ofZ x*d):abZ y*c=abZ x*d:=by
 have:=congrArg wT h;rw [zV,zV] at this;have h2:=congrArg (Int.ofNat) this;have h3:((ofZ y).natAbs:Int)*(c.natAbs:Int)=((ofZ x).natAbs:Int)*(d.natAbs:Int):=by rw [<- zG,<- zG]; exact h2
 rw [wO hc,wO hd] at h3;exact h3
def bn_sc (hc:0 < c) (ha:0<=a) (hb:0<=b) (hab:a*b=c*c) (hF:∀ j i,j < n->i < n->ofZ ((F' j i).getD 0)*c=ofZ ((F j i).getD 0)*a) (hv:∀ k,ofZ (v'.getD k 0)*c=ofZ (v.getD k 0)*b):btL n v' F'=btL n v F/\grZ (pnL n n v')*grZ (nmL F' n n)=grZ (pnL n n v)*grZ (nmL F n n):=by
 have hc0:0<=c:=ω
 have hcc:c*c≠0:=wI Oq Oq;have hm:∀ k j i,j < n->i < n->q0v (v'.getD k 0) ((F' j i).getD 0)=q0v (v.getD k 0) ((F j i).getD 0):=λk j i hj hi=>by
  unfold q0v
  congr 2
  refine yX hcc ?_;rw [show ofZ (v'.getD k 0)*ofZ ((F' j i).getD 0)*(c*c)=ofZ (v'.getD k 0)*c*(ofZ ((F' j i).getD 0)*c) by simp only [zS,z9,zY],hF j i hj hi,hv k,<- hab];simp only [zS,z9,zY]
 refine ⟨?_,?_⟩
 .unfold btL;refine yB λi hi=>?_;unfold btZ;refine q0z n λj hj=>?_;unfold btE;rw [q0z n λk hk=>show btD n v' F' i j k=btD n v F i j k from hm _ j k hj hk]
 .have h1:grZ (pnL n n v')*c=grZ (pnL n n v)*b:=by
   refine qk9 hc0 hb ?_;unfold pnL;rw [tL,tL];refine yB λi hi=>?_
   show pnZ n n v' i*c=pnZ n n v i*b
   unfold pnZ;rw [<- q4K,<- q4K];exact q0z n λj hj=>qlJ hc0 hb (hv _)
  have h2:grZ (nmL F' n n)*c=grZ (nmL F n n)*a:=by
   refine qk9 hc0 ha ?_;unfold nmL;rw [tL,tL];refine yB λi hi=>?_;have hi:=zW.1 hi
   show nmZ F' n i*c=nmZ F n i*a
   unfold nmZ;rw [<- q4K,<- q4K];exact q0z n λj hj=>qlJ hc0 ha (hF j i hj hi)
  refine yX hcc ?_;rw [show grZ (pnL n n v')*grZ (nmL F' n n)*(c*c)=grZ (pnL n n v')*c*(grZ (nmL F' n n)*c) by simp only [zS,z9,zY],h1,h2,<- hab];simp only [zS,z9,zY]
end
section
variable {raw:List Nat} {n s:Nat} {st sp k:Int}
def qsd {w:Nat} (hw:w < 18446744073709551616) (hs:s=0\/s=1):gdX (q2J s w):=by
 obtain ⟨K,hK⟩:∃ K,K=65536:=⟨_,rfl⟩;obtain ⟨h1,h2⟩:=q9H (k:=s) hw
 rcases hs with rfl | rfl
 .obtain ⟨z,e,hz⟩:=qa7 hK w
  by_cases h0:z=0
  .exact gd_0 h2 h1 (by rw [e,h0,yF])
  .exact ⟨h2,h1,.inr ⟨z,K,e,ω,h0,ω,ω⟩⟩
 .have hx:q2J 1 w=w / 9223372036854775808*9223372036854775808+(1019+w / 4503599627370496 % 8)*4503599627370496+w % 4503599627370496:=if_pos rfl;refine q9T h2 ?_ ?_ <;> rw [hx] <;> omega
def rg_gd (hn:n<=4) (hs:s=0\/s=1) {j i x:Nat} (hj:j < n) (hi:i < n) (h:rgF (gF raw n s) n j i=some x):gdX x:=by
 obtain ⟨K,e,u⟩:=unE;have hT:=qd9 (raw:=raw) (n:=n) (k:=s) Oq (by rcases hs with h | h <;> omega);have hd:=qfL (raw:=raw) u hn hs j hj
 by_cases hij:i=j
 .subst hij;have hg:(rgF (gF raw n s) n i i).getD 0=x:=by rw [h]; rfl
  have hm:=hd.m;have hc:=hd.c;have he:=u.e;have hp:=u.p;have a1:tl 0 (λc=>if c=i then ab (ofZ ((rgF (gF raw n s) n i c).getD 0)) else -ab (ofZ ((rgF (gF raw n s) n i c).getD 0))) n<=sg (λc=>if i=c then ab (ofZ x) else 0) n:=q1y n λc _=>by
   rw [if_pos (zE _)]
   show (if c=i then ab (ofZ ((rgF (gF raw n s) n i c).getD 0)) else -ab (ofZ ((rgF (gF raw n s) n i c).getD 0)))<=_
   by_cases q:c=i
   .subst q; rw [if_pos rfl,if_pos rfl,hg]; exact yK _
   .rw [if_neg q,if_neg λr=>q r.symm]; unfold ab; omega
  rw [q5x (g:=λ_=>ab (ofZ x)),if_pos hj] at a1;have a2:=qg9 (m:=0) (n:=n) (g:=λc=>ab (ofZ ((rgF (gF raw n s) n i c).getD 0))) (λ_ _ _=>by unfold ab; omega) (zE i) hj;rw [hg] at a2;have hP:q04=(2:Int) ^ K:=by rw [u.k]; exact q2O
  refine qn9 u.k (hT.u i i x hj hj h) (hT.v i i x hj hj h) (tJ.1 ?_) (tJ.1 ?_)
  .have q1:((2 ^ (K-10):Nat):Int)<=((2 ^ K:Nat):Int):=tJ.2 (zI Oq Oq);rw [q0N K,<- hP] at q1;unfold ab at *;omega
  .have q1:((2 ^ (K+9):Nat):Int)<=((2 ^ (K+400):Nat):Int):=tJ.2 (zI Oq Oq);rw [zJ 2 K 9,zG,q0N K,<- hP,show (((2:Nat) ^ 9:Nat):Int)=512 by decide] at q1;unfold ab at *;omega
 .unfold rgF at h;rw [if_neg hij] at h;unfold gF at h
  split at h
  .cases h; exact qsd (q4G _ _) hs
  .cases h
def zrX (x:Nat):Nat:=if q2S x / 4503599627370496 < 100 then 0 else x
def zr_gd {x:Nat} (hx:x < 18446744073709551616) (h:x / 4503599627370496 % 2048<=1500):gdX (zrX x):=by
 have he:q2S x / 4503599627370496=x / 4503599627370496 % 2048:=by unfold q2S; omega
 unfold zrX
 split
 .exact gd_0 Oq (by unfold q0I; omega) (q0S q1Z)
 .exact q9T hx Oq h
def qpM {x K:Nat} (hK:K=65536) (hf:q0I x) (h:(ofZ x).natAbs<=2 ^ (K+120)):x / 4503599627370496 % 2048<=1200:=by
 obtain ⟨e,he⟩:∃ e,e=x / 4503599627370496 % 2048:=⟨_,rfl⟩;unfold q0I at hf;rw [<- he] at hf ⊢;unfold ofZ ofF at h;rw [<- he,if_neg hf] at h
 by_cases h0:e=0
 .omega
 .rw [if_neg h0,yJ,q0G,q0h] at h;have h4:2 ^ 52*2 ^ (64461+e)<=2 ^ (K+120):=zO (zM _ Oq) h;rw [<- zJ] at h4;have h6:=(xA (by omega:1 < 2)).1 h4;omega
def qr1 {x d:Nat} (h:x / 4503599627370496 % 2048<=1200) (hd:d<=400000):(x+d) % 18446744073709551616 / 4503599627370496 % 2048<=1500:=ω
def ck_gd (hn:n<=4) (hst:q06 (q06 st 3:Nat) 4=0\/q06 (q06 st 3:Nat) 4=1):∀ x ∈ ckV raw n st true sp false,gdX (zrX x):=by
 obtain ⟨K,e,u⟩:=unE;have hd:=qk4 (mi:=(tM (ckT raw n st true) n n).2.1) u hn (F:=ckT raw n st true) (n:=n) λj hj=>qfL (raw:=raw) u hn hst j hj;have hL:ivA (ckL raw n st true)=ivA (qcA (ckT raw n st true) (tM (ckT raw n st true) n n).2.1 n (q2I n) 1 1):=rfl;have hB:ckB raw n st true false=(ivA (ckL raw n st true)).2.1:=by
  unfold ckB;rw [if_neg];rw [hL];rintro (h | h | h)
  .cases h
  .exact h hd.1
  .exact h hd.2.1
 have hI:=qk3 (g:=ckL raw n st true) (qo9 Oq).1;have hE:∀ x ∈ ckB raw n st true false,x / 4503599627370496 % 2048<=1200:=λx hx=>by
  rw [hB] at hx;exact qpM u.k (hI.2.1 x hx).2 (hd.2.2 x (by rw [<- hL]; exact hx))
 have hlen:=qf4 (raw:=raw) (N:=n) (st:=st) (rg:=true) (wild:=false) Oq;intro x hx;have hxu:=(qko (raw:=raw) (N:=n) (st:=st) (rg:=true) (sp:=sp) (wild:=false) Oq).2 x hx;unfold ckV spL at hx;obtain ⟨c,hc,rfl⟩:=zN.1 hx;have hc:=zW.1 hc;have hg:(ckB raw n st true false).getD c 0 / 4503599627370496 % 2048<=1200:=by
  rw [zB,zA hc,yJ];exact hE _ (x8 hc)
 rw [if_pos hc] at hxu ⊢;refine zr_gd hxu ?_;unfold spX;have h4:q06 sp 4 < 4:=by unfold q06; omega
 refine qr1 hg ?_;have:q06 sp 4*(q5s raw (c:Int) % 100000)<=3*100000:=zR Oq Oq;omega
def scF (k:Int) (F:Nat->Nat->Option Nat):Nat->Nat->Option Nat:=λj i=>(F j i).map (scX k)
def qrI {F:Nat->Nat->Option Nat} {j:Nat} {p:List Int × List Nat}:∀ i,tC (scF k F) j (p.1,p.2.map (scX k)) i=((tC F j p i).1,(tC F j p i).2.map (scX k))
 | 0=>rfl
 | i+1=>by
  have ih:=qrI (F:=F) (j:=j) (p:=p) i;cases h:F j i with
  | none =>
   have h2:scF k F j i=none:=by unfold scF; rw [h]; rfl
   rw [q7a h,q7a h2,ih]
  | some x =>
   have h2:scF k F j i=some (scX k x):=by unfold scF; rw [h]; rfl
   rw [q8q h,q8q h2,ih,zK]
   rfl
def qrE {F:Nat->Nat->Option Nat} {R:Nat}:∀ C,tM (scF k F) R C=((tM F R C).1,(tM F R C).2.1,(tM F R C).2.2.map (scX k))
 | 0=>rfl
 | C+1=>by
  rw [tM,qrE C];have:=qrI (k:=k) (F:=F) (j:=C) (p:=(tM F R C).2) R;dsimp only;rw [this]
  rfl
def qro {F:Nat->Nat->Option Nat} {R C:Nat} (h:TOk F R C) (hg:∀ j i x,j < C->i < R->F j i=some x->gdX x) (h1 : -30<=k) (h2:k<=30):TOk (scF k F) R C:=⟨h.r,h.c,h.m,λj i x hj hi hx=>by
 unfold scF at hx;obtain ⟨v,hv,rfl⟩:=yQ.1 hx;exact (q7j (hg j i v hj hi hv) h1 h2).2.1,λj i x hj hi hx=>by
 unfold scF at hx;obtain ⟨v,hv,rfl⟩:=yQ.1 hx;exact (q7j (hg j i v hj hi hv) h1 h2).2.2.1⟩
def qun {v:List Nat} (hl:v.length=n*n) (hf:∀ x ∈ v,q0I x):btC n n n n v=0:=by
 have h:chP n n v=0:=by
  unfold chP;rw [if_neg (not_not_intro hl),if_pos hf]
 unfold btC;rw [if_neg (not_not_intro rfl),h,if_neg (not_not_intro rfl),if_neg ω]
def qoU {F:Nat->Nat->Option Nat} {v:List Nat} (hF:∀ j i x,j < n->i < n->F j i=some x->gdX x) (hv:∀ x ∈ v,gdX x) (hl:v.length=n*n) (h1 : -30<=k) (h2:k<=30):∃ x y ok,bnA n n F n n v (grZ (nmL F n n))=(x,y,ok,0)/\bnA n n (scF k F) n n (v.map (scX (-k))) (grZ (nmL (scF k F) n n))=(x,y,ok,0):=by
 have hc:(0:Int) < 2 ^ 30:=by decide
 have e0:∀ j,ofZ 0*(2:Int) ^ 30=ofZ 0*(2:Int) ^ j:=λj=>by rw [show ofZ 0=0 from q0S q1Z,yF,yF]
 obtain ⟨b1,b2⟩:=bn_sc (F:=F) (F':=scF k F) (n:=n) (v:=v) (v':=v.map (scX (-k))) (c:=2 ^ 30) (a:=2 ^ (k+30).toNat) (b:=2 ^ (-k+30).toNat) hc (yY (q0L _)) (yY (q0L _)) (by
  rw [<- tH,<- tH]; congr 1; omega) (λj i hj hi=>by
  unfold scF;cases h:F j i with
  | none=>exact e0 _
  | some x=>exact (q7j (hF j i x hj hi h) h1 h2).2.2.2) λc=>by
  rw [zB,zB,z8];cases h:v[c]? with
  | none=>exact e0 _
  | some x=>exact (q7j (hv x (zC h)) Oq Oq).2.2.2
 have z1:=qun hl λx hx=>(hv x hx).f;have z2:=qun (v:=v.map (scX (-k))) (by rw [zL]; exact hl) λx hx=>by
  obtain ⟨y,hy,rfl⟩:=zN.1 hx;exact (q7j (hv y hy) Oq Oq).2.2.1
 have hp:prZ (grZ (pnL n n (v.map (scX (-k))))) (grZ (nmL (scF k F) n n))=prZ (grZ (pnL n n v)) (grZ (nmL F n n)):=by unfold prZ; rw [b2]
 unfold bnA;rw [z1,z2,if_neg (not_not_intro rfl),if_neg (not_not_intro rfl),hp,b1];exact ⟨_,_,_,rfl,rfl⟩
end
end Go.Proofs.YtbjoghfmhgadkaaGreatDoor
namespace Go.E
open Go Go.RowKit
section
variable {P:Program} {Tb:World->Prop}
variable {d:Option Nat} {ty t:TypeId} {pos:String} {af:Array Edge} {g:Option (Nat × Bool)} {s:Nat->PV} {h:Hp} {K:PV->Hp->FP->Prop} {ops r:List Oper} {KL:(Nat->PV)->Hp->List FP->Prop} {acc:List FP} {dd:Nat}
def qv7 [NL] {a b c f}:ao P Tb (some dd) (.buildSlice t 4 #[(0,a),(1,b),(2,c),(3,f)]) s h K=nnK (h dd) dd (@oK _ (elK P t) ⟨λe=>@cK (4*ksz e.2.1<=16777216) ⟨vK (pe s a) λx=>vK (pe s b) λy=>vK (pe s c) λz=>vK (pe s f) λu=>q1U e.2.1 x (q1U e.2.1 y (q1U e.2.1 z (q1U e.2.1 u (K (.ow dd e.2.1 0 4) (q0P h dd ⟨e.1,e.2.1,[x,y,z,u],false⟩) ([],[dd])))))⟩⟩):=by
 have:=qcO (P:=P) (Tb:=Tb) (s:=s) (h:=h) (K:=K) (t:=t) (dd:=dd) (len:=4) (ps:=[(0,a),(1,b),(2,c),(3,f)]) rfl;simpa [oK,cK,q6L,q6K,vK] using this
attribute [go_sem ↓] qv7
end
end Go.E
namespace Go.Proofs.YtbjoghfmhgadkaaGreatDoor
open Go Go.E Go.Sp
def nzL {w:World} {D B:Nat->Prop} (hB:∀ g,B g->∃ cs T,Blk w g T cs/\∀ u ∈ cs.toList,q4E u=true):∀ (l:List PV) (vs:List Value),(∀ x ∈ l,Nz x)->RdL w D l (λ_=>none) h0 vs->RdL w (λk=>D k/\¬ B k) l (λ_=>none) h0 vs
 | [],vs,_,h=>by unfold RdL at h ⊢; exact h
 | x :: l,vs,hl,h=>by
  unfold RdL at h ⊢;obtain ⟨a,b,rfl,h1,h2⟩:=h;exact ⟨a,b,rfl,hl x xF w D B a hB h1,nzL hB l b (λy hy=>hl y (yU _ hy)) h2⟩
def qsa {l:List PV} (hl:∀ x ∈ l,Nz x):Nz (.tu l):=λw D B v hB h=>by
 unfold Rd at h ⊢;obtain ⟨vs,rfl,h1⟩:=h;exact ⟨vs,rfl,nzL hB l vs hl h1⟩
def nz_ag {l:List PV} (hl:∀ x ∈ l,Nz x):Nz (.ag l):=λw D B v hB h=>by
 unfold Rd at h ⊢;obtain ⟨vs,rfl,h1⟩:=h;exact ⟨vs,rfl,nzL hB l vs hl h1⟩
def qtr:q90 Tryz.prog 34=true:=κ
def eq_iv {k m:IntKind} {a b c d:Int}:bnP Tryz.prog .eql 34 (.ag [.vl (.int k a),.vl (.int m b)]) (.ag [.vl (.int k c),.vl (.int m d)])=some (.vl (.bool (a == c && b == d))):=qvJ qtr
attribute [go_sem] eq_iv
def qoE {mode:Int} {z y K s:Nat} (hs:s<=K) (hz:0 < z) (hy:0 < y):fQ mode ((z:Int)*(2:Int) ^ (K-s)) ((y:Int)*(2:Int) ^ K)=rF mode false z (y*2 ^ s):=by
 have hpos:0 < (z:Int)*(2:Int) ^ (K-s):=wL Oq (q0L _);have hpos2:0 < (y:Int)*(2:Int) ^ K:=wL Oq (q0L _);unfold fQ;rw [if_neg ω,decide_eq_false ω,decide_eq_false ω,q0G,q0G,z6,z6,show y*(2:Nat) ^ K=y*2 ^ s*2 ^ (K-s) by rw [zP,<- zJ]; congr 2; omega];exact q38 hz (tW hy (q0E _)) (q0E _)
def qdy {x y K:Nat} {V:Int} (hK:K=65536) (hx:q0I x) (hy:q0I y) (h:ofZ x*ofZ y=V*(2:Int) ^ K):q0v x y=V:=yX (wX (q0L K)) ((q9J hK hx hy).1.trans h)
def awF (a b:Nat):Nat->Nat->Option Nat:=λj i=>if i=j then (if j=0 then some a else some b) else none
section
variable {K:Nat} {f1 f4 fq:Nat}
def awB (hK:K=65536) (h1:q0I f1) (h4:q0I f4) (hq:q0I fq) (o1:ofZ f1=(2:Int) ^ K) (o4:ofZ f4=4*(2:Int) ^ K) (oq:4*ofZ fq=(2:Int) ^ K) (i:Nat) (hi:i < 2):btZ 2 [f1,0,0,fq] (awF f1 f4) i=0:=by
 have e1:q04=(2:Int) ^ K:=by rw [q2O,hK]
 have m1:q0v f1 f1=(2:Int) ^ K:=qdy hK h1 h1 (by rw [o1]);have m2:q0v fq f4=(2:Int) ^ K:=qdy hK hq h4 (by rw [o4,<- oq]; generalize ofZ fq=z; rw [zY,<- zS]);have hi:i=0\/i=1:=ω
 unfold btZ btE btD
 rcases hi with rfl | rfl
 .simp [sg,awF,m1,m2,q7v,q7u,e1]
 .simp [sg,awF,m1,m2,q7v,q7u,e1]
def qhg {a b:Int} (ha:0<=a):grZ [a,b]=max a b:=by unfold grZ; simp [xK ha]
def awP {v:List Nat} (hv:v=[f1,0,0,fq]) (hK:K=65536) (o1:ofZ f1=(2:Int) ^ K) (o4:ofZ f4=4*(2:Int) ^ K) (oq:4*ofZ fq=(2:Int) ^ K):grZ (pnL 2 2 v)=(2:Int) ^ K/\grZ (nmL (awF f1 f4) 2 2)=4*(2:Int) ^ K:=by
 have hp:=q0L K;have a1:abZ f1=(2:Int) ^ K:=by unfold abZ; rw [o1]; omega
 have a4:abZ f4=4*(2:Int) ^ K:=by unfold abZ; rw [o4]; omega
 have aq:4*abZ fq=(2:Int) ^ K:=by unfold abZ; omega
 have s2:∀ g:Nat->Int,sg g 2=0+g 0+g 1:=λg=>rfl;have r2:∀ g:Nat->Int,(List.range 2).map g=[g 0,g 1]:=λg=>rfl;have b0:=qfy;have hq:0<=abZ fq:=by unfold abZ; omega
 subst hv
 constructor
 .unfold pnL;rw [r2];have p0:pnZ 2 2 [f1,0,0,fq] 0=(2:Int) ^ K:=by
   unfold pnZ;rw [s2]
   show 0+abZ f1+abZ 0=_
   rw [b0,a1]; omega
  have p1:pnZ 2 2 [f1,0,0,fq] 1=abZ fq:=by
   unfold pnZ;rw [s2]
   show 0+abZ 0+abZ fq=_
   rw [b0]; omega
  rw [p0,p1,qhg (yY hp)];generalize (2:Int) ^ K=P at *;omega
 .unfold nmL;rw [r2];have p0:nmZ (awF f1 f4) 2 0=(2:Int) ^ K:=by
   unfold nmZ;rw [s2]
   show 0+abZ f1+abZ 0=_
   rw [b0,a1]; omega
  have p1:nmZ (awF f1 f4) 2 1=4*(2:Int) ^ K:=by
   unfold nmZ;rw [s2]
   show 0+abZ 0+abZ f4=_
   rw [b0,a4]; omega
  rw [p0,p1,qhg (yY hp)];generalize (2:Int) ^ K=P at *;omega
def aw43 (hK:K=65536) (u1:f1 < 18446744073709551616/\q0I f1) (u4:f4 < 18446744073709551616/\q0I f4) (uq:fq < 18446744073709551616/\q0I fq) (o1:ofZ f1=(2:Int) ^ K) (o4:ofZ f4=4*(2:Int) ^ K) (oq:4*ofZ fq=(2:Int) ^ K) (x4:f4=rF 1 false 4 1) (y4:f4=rF 2 false 4 1) (xq:fq=rF 1 false 1 4):bnA 2 2 (awF f1 f4) 2 2 [f1,0,0,fq] (grZ (nmL (awF f1 f4) 2 2))=(f4,f4,true,0)/\lwA 2 2 (awF f1 f4) [0,f1]=(fq,0):=by
 have hp:=q0L K;have e1:q04=(2:Int) ^ K:=by rw [q2O,hK]
 obtain ⟨g1,g2⟩:=awP (v:=[f1,0,0,fq]) rfl hK o1 o4 oq;have hb:=λi hi=>awB (i:=i) hK u1.2 u4.2 uq.2 o1 o4 oq hi;have q1:fQ 1 (4*(2:Int) ^ K) ((2:Int) ^ K)=f4:=by
  have:=qoE (mode:=1) (z:=4) (y:=1) (K:=K) (s:=0) Oq Oq Oq;rw [wY,show (((1:Nat):Int)*(2:Int) ^ K)=(2:Int) ^ K from xV _] at this;rw [x4]; exact this
 have q2:fQ 2 (4*(2:Int) ^ K) ((2:Int) ^ K)=f4:=by
  have:=qoE (mode:=2) (z:=4) (y:=1) (K:=K) (s:=0) Oq Oq Oq;rw [wY,show (((1:Nat):Int)*(2:Int) ^ K)=(2:Int) ^ K from xV _] at this;rw [y4]; exact this
 have q3:fQ 1 ((2:Int) ^ K) (4*(2:Int) ^ K)=fq:=by
  have:=qoE (mode:=1) (z:=1) (y:=4) (K:=K) (s:=0) Oq Oq Oq;rw [wY,show (((1:Nat):Int)*(2:Int) ^ K)=(2:Int) ^ K from xV _] at this;rw [xq]; exact this
 constructor
 .have h0:btC 2 2 2 2 [f1,0,0,fq]=0:=by
   unfold btC chP;rw [if_neg ω,if_neg (by
    rw [if_neg σ,if_pos (λx hx=>by
     simp at hx
     rcases hx with rfl | rfl | rfl
     .exact u1.2
     .simp [q0I]
     .exact uq.2)]; decide),if_neg ω]
  have h1:grZ (btL 2 [f1,0,0,fq] (awF f1 f4))=0:=by
   unfold btL
   show grZ [btZ 2 [f1,0,0,fq] (awF f1 f4) 0,btZ 2 [f1,0,0,fq] (awF f1 f4) 1]=0
   rw [hb 0 ω,hb 1 ω]; rfl
  have h2:prZ ((2:Int) ^ K) (4*(2:Int) ^ K)=4*(2:Int) ^ K:=by
   have hb4:q0Z (4*(2:Int) ^ K):=by
    unfold q0Z;rw [q0G,q1F (by decide)];have:bl (4:Int).natAbs<=3:=q0O (by decide);omega
   have:=qaa hb4;unfold prZ;rw [z9];rw [<- hK] at this;rw [this]; rfl
  unfold bnA;rw [h0,if_neg (show ¬ (0:Int)≠0 by decide),g1,g2,h1,h2];unfold bnI;rw [if_neg ω,e1,Int.add_zero,Int.sub_zero,q1,q2]
 .unfold lwA;rw [if_neg ω,if_neg σ,if_pos (λx hx=>by
   simp at hx
   rcases hx with rfl | rfl
   .simp [q0I]
   .exact u1.2)]
  have a1:abZ f1=(2:Int) ^ K:=by unfold abZ; rw [o1]; omega
  have m4:q0v f4 f1=4*(2:Int) ^ K:=qdy hK u4.2 u1.2 (by rw [o1,o4]);have v1:grZ ([0,f1].map abZ)=(2:Int) ^ K:=by
   show grZ [abZ 0,abZ f1]=_
   rw [qfy,a1,qhg ω];omega
  have s2:∀ g:Nat->Int,sg g 2=0+g 0+g 1:=λg=>rfl;have v2:grZ (imL (awF f1 f4) [0,f1] 2 2)=4*(2:Int) ^ K:=by
   unfold imL
   show grZ [imZ (awF f1 f4) [0,f1] 2 0,imZ (awF f1 f4) [0,f1] 2 1]=_
   have p0:imZ (awF f1 f4) [0,f1] 2 0=0:=by
    unfold imZ;rw [s2]
    show ((0+q0v f1 0+q0v 0 f1).natAbs:Int)=0
    rw [q7u,q7v]; rfl
   have p1:imZ (awF f1 f4) [0,f1] 2 1=4*(2:Int) ^ K:=by
    unfold imZ;rw [s2]
    show ((0+q0v 0 0+q0v f4 f1).natAbs:Int)=_
    rw [q7u,m4];omega
   rw [p0,p1,qhg ω];omega
  unfold lwV;rw [v1,v2,if_neg ω,if_neg ω,q3]
end
def qfp:ACt 16 [] (bv true):=by
 obtain ⟨K,hK⟩:∃ K:Nat,K=65536:=⟨_,rfl⟩;have p52:(4503599627370496:Int)=(2:Int) ^ 52:=by decide
 have o1:ofZ 4607182418800017408=(2:Int) ^ K:=by
  rw [qms (m:=4503599627370496) (e:=1023) ω ω ω ω ω,show (((4503599627370496:Nat):Int))=(2:Int) ^ 52 from p52,<- tH]
  congr 1
  omega
 have o4:ofZ 4616189618054758400=4*(2:Int) ^ K:=by
  rw [qms (m:=4503599627370496) (e:=1025) ω ω ω ω ω,show (((4503599627370496:Nat):Int))=(2:Int) ^ 52 from p52,<- tH,show (4:Int)=(2:Int) ^ 2 from rfl,<- tH]
  congr 1
  omega
 have oq:4*ofZ 4598175219545276416=(2:Int) ^ K:=by
  rw [qms (m:=4503599627370496) (e:=1021) ω ω ω ω ω,show (((4503599627370496:Nat):Int))=(2:Int) ^ 52 from p52,<- tH,show (4:Int)=(2:Int) ^ 2 from rfl,<- tH]
  congr 1
  omega
 have x4:4616189618054758400=rF 1 false 4 1:=κ
 have y4:4616189618054758400=rF 2 false 4 1:=κ
 have z4:rF 0 false 4 1=4616189618054758400:=κ
 have xq:4598175219545276416=rF 1 false 1 4:=κ
 have f4:flz 4=4616189618054758400:=by
  have h1:=fR_u (z:=4) (K:=65536) (s:=0) rfl Oq Oq;have h2:fR 0 (((4:Nat):Int)*(2:Int) ^ (65536-0))=flz 4:=rfl;rw [<- h2,h1];exact z4
 obtain ⟨r1,r2⟩:=aw43 (f1:=4607182418800017408) (f4:=4616189618054758400) (fq:=4598175219545276416) hK ⟨ω,by unfold q0I; omega⟩ ⟨ω,by unfold q0I; omega⟩ ⟨ω,by unfold q0I; omega⟩ o1 o4 oq x4 y4 xq;have hm:TOk (awF 4607182418800017408 4616189618054758400) 2 2:=by
  refine ⟨ω,ω,ω,λj i x _ _ h=>?_,λj i x _ _ h=>?_⟩
  .unfold awF at h
   split at h
   .split at h <;> cases h <;> omega
   .cases h
  .unfold awF at h
   split at h
   .split at h <;> cases h <;> (unfold q0I; omega)
   .cases h
 have C1:ACt 68 [iv 4,iv 0] (uv (4616189618054758400:Nat)):=by
  rw [<- f4];exact q6E (z:=4) (mode:=0) Oq Oq (q6h (by have:=q0O (n:=(4:Int).natAbs) (k:=4) (by decide); omega))
 have C2:=q7D (r:=2) (c:=2) (v:=[4607182418800017408,0,0,4598175219545276416]) hm ω ω ω ω σ (λx hx=>by simp at hx; rcases hx with rfl | rfl | rfl <;> omega);have C3:=qf8 (y:=[0,4607182418800017408]) hm ω ω (λx hx=>by simp at hx; rcases hx with rfl | rfl <;> omega) σ;rw [r1] at C2;rw [r2] at C3;clear r1 r2 o1 o4 oq x4 y4 xq z4 f4 p52;have D2:ACt 15 [.ag [iv 2,iv 2,.sl none [iv 0,iv 1,iv 2],.sl none [iv 0,iv 1],.sl none [uv 4607182418800017408,uv 4616189618054758400]],.ag [iv 2,iv 2,.sl none [uv 4607182418800017408,uv 0,uv 0,uv 4598175219545276416]]] (.tu [.ag [uv 4616189618054758400,uv 4616189618054758400],bv true,iv 0]):=C2;have D3:ACt 27 [.ag [iv 2,iv 2,.sl none [iv 0,iv 1,iv 2],.sl none [iv 0,iv 1],.sl none [uv 4607182418800017408,uv 4616189618054758400]],.sl none [uv 0,uv 4607182418800017408]] (.tu [uv 4598175219545276416,iv 0]):=C3;have D1:ACt 68 [iv 4,iv 0] (uv 4616189618054758400):=C1;clear C1 C2 C3;have N2:Nz (.tu [.ag [uv 4616189618054758400,uv 4616189618054758400],bv true,iv 0]):=qsa λx hx=>by
  simp at hx
  rcases hx with rfl | rfl | rfl
  .exact nz_ag λx hx=>by simp at hx; subst hx; exact qa6
  .exact qa6
  .exact qa6
 have N3:Nz (.tu [uv 4598175219545276416,iv 0]):=qsa λx hx=>by
  simp at hx
  rcases hx with rfl | rfl <;> exact qa6
 have b1:((4616189618054758400:Int) == 4616189618054758400)=true:=by decide
 have b2:((4598175219545276416:Int) == 4598175219545276416)=true:=by decide
 have b3:((0:Int) == 0)=true:=rfl;refine ac0 Tryz.func16 Tryz.ntmps16 [.tmp 0] ?_;exact wk1 (x3 b1 b2 b3) trivial
end Go.Proofs.YtbjoghfmhgadkaaGreatDoor
namespace Go.E
open Go Go.RowKit
section
variable {J:Nat->Prop} {h:Hp} {a n:Nat} {T:TypeId} {xs:List PV} {v1 v2:Value} {x y:PV}
def LeTP [NL] (hJ:∀ i,¬ J i) (hb:h a=some ⟨T,none,xs,false⟩) (hc:ClL xs) (hx:∀ τ h h',LeV τ h h' x y):Le J (λ_=>.tu [x,.ag [.vl v1,.vl v2,.ow a none 0 n]]) h (λ_=>.tu [y,.ag [.vl v1,.vl v2,.ow 5000 none 0 n]]) (q0P h0 5000 ⟨T,none,xs,false⟩) :=
 b5 hJ hb hc λ_=>.tu rfl λi x y hx' hy=>by
  rcases i with _ | _ | i
  .cases hx'; cases hy; exact hx _ _ _
  .cases hx'; cases hy;exact .ag rfl λi x y hx hy=>by
    rcases i with _ | _ | _ | i
    .cases hx; cases hy; exact .cl trivial
    .cases hx; cases hy; exact .cl trivial
    .cases hx; cases hy; exact .ow (if_pos rfl) q0H
    .simp at hx
  .simp at hx'
end
end Go.E
namespace Go.Proofs.YtbjoghfmhgadkaaGreatDoor
open Go Go.E Go.Sp
section
variable {raw:List Nat} {N:Nat} {st sp n:Int}
def qmj (hr:raw.length<=9223372036854775807) (h1 : -9223372036854775808<=n) (h2:n<=9223372036854775807) (h3 : -9223372036854775808<=st) (h4:st<=9223372036854775807) (h5 : -9223372036854775808<=sp) (h6:sp<=9223372036854775807) (hst:q06 (q06 st 3:Nat) 4=0\/q06 (q06 st 3:Nat) 4=1) :
  ql2 13 [pF raw,iv n,iv st,bv true,iv sp,bv false] h0 (.tu [pT (q06 n 5) (q06 n 5) (ckT raw (q06 n 5) st true),.ag [iv (q06 n 5),iv (q06 n 5),.ow 5000 none 0 (q06 n 5*q06 n 5)]]) (q0P h0 5000 ⟨32,none,(ckV raw (q06 n 5) st true sp false).map λz:Nat=>uv z,false⟩):=by
 have hJ:∀ i,¬ (h0 i≠none):=λi h=>h rfl;have hJe:(λi=>(h0:Hp) i≠none)=λ_=>False:=funext λi=>eq_false (hJ i);have cM:=q5U (a:=n) (n:=5) h1 h2 Oq Oq;have cS:=q5U (a:=sp) (n:=4) h5 h6 Oq Oq;have hs:q06 sp 4 < 4:=by unfold q06; omega
 have hN:q06 n 5 < 5:=by unfold q06; omega
 generalize q06 n 5=N at *;have cG:=q50 (raw:=raw) (st:=st) (R:=N) (C:=N) hr Oq Oq h3 h4;have cR:ACt 40 [pF raw,iv N,iv st] (pT N N (ckT raw N st true)):=qbf (raw:=raw) (st:=st) (n:=N) hr Oq h3 h4;have hF:=qkp (raw:=raw) (N:=N) (st:=st) (rg:=true) Oq;have cI:=qh1 (n:=N) Oq;have cL:=qhP (num:=1) (den:=1) hF Oq (cols:=q2I N) (q74 N) Oq Oq Oq;obtain ⟨hLb,hLr⟩:=qo9 (raw:=raw) (N:=N) (st:=st) (rg:=true) Oq;have cV:=qgS hLb Oq;obtain ⟨hBl,hBu⟩:=qf4 (raw:=raw) (N:=N) (st:=st) (rg:=true) (wild:=false) Oq;have hI:(ivA (ckL raw N st true)).2.2=0/\(ivA (ckL raw N st true)).1=N:=by
  obtain ⟨K,e,u⟩:=unE;have hd:=qk4 (mi:=(tM (ckT raw N st true) N N).2.1) u Oq (F:=ckT raw N st true) (n:=N) λj hj=>qfL (raw:=raw) u Oq hst j hj;exact ⟨hd.1,hd.2.1⟩
 have hBe:ckB raw N st true false=(ivA (ckL raw N st true)).2.1:=by
  unfold ckB;rw [if_neg];rintro (h | h | h)
  .cases h
  .exact h hI.1
  .exact h hI.2
 unfold ckV;unfold facP at cL;change ACt _ _ (.tu [pLU (ckL raw N st true),_,_]) at cL;generalize q06 sp 4=s at *;generalize ckL raw N st true=f at *;rw [hI.1,hI.2,<- hBe] at cV;generalize ckB raw N st true false=p at *;have hNN:N*N<=5*5:=zR Oq Oq;rw [hBl] at cV ⊢;clear hBe hI;generalize ckT raw N st true=F at *;generalize gF raw N (q06 st 4)=F0 at *;unfold pLU at cL cV;unfold pT q2w at *;generalize (tM F N N).1=ms at *;generalize (tM F N N).2.1=mi at *;generalize (tM F N N).2.2=mv at *;generalize (tM F0 N N).1=ms0 at *;generalize (tM F0 N N).2.1=mi0 at *;generalize (tM F0 N N).2.2=mv0 at *;have b0:((0:Int) != 0)=false:=rfl;have b1:((N:Int) != N)=false:=σ
 refine qp8 quv Tryz.func13 rfl Tryz.ntmps13 κ ?_ ?_ ?_ ?_
 .intro i b hb; cases hb
 .intro i b hb
  by_cases hi:i=5000
  .subst hi; exact ⟨ω,ω⟩
  .rw [q0A hi] at hb; cases hb
 .exact IdL.of λx hx=>by
   simp at hx
   rcases hx with rfl | rfl | rfl | rfl | rfl | rfl <;> unfold IdP <;> trivial
 rw [hJe];refine wk ?_;refine qqX λK hK=>?_;refine Zz ?_;refine jmF cV ?_ ?_
 .exact Ow
 try refine Zz ?_
 refine hK _ _ ?_; clear hK K;refine wk1 (x2 b0 b1) ?_;refine q0U (λi=>i<=N*N) [0,4,12,13,14,18] [12,13,14,18] Lk Lk (λi:Nat=>[(20,iv i)]) (λ_=>[]) (λi=>q0P h0 5000 ⟨32,none,(spL raw s p i).map λz:Nat=>uv z,false⟩) (λi=>N*N-i) 0 (zE _) ?_ ?_
 .rw [spL_0];refine LeW [] rfl rfl ?_ ?_ (by simp [q0y,q0n,win]) ?_
  .exact Ow
  .exact qll _
  .try refine Zz ?_
   rfl
 .intro i hi
  by_cases hlt:i < N*N
  .have q:(i:Int) < ((N*N:Nat):Int):=ω
   have C1:=qch (raw:=raw) (k:=(i:Int)) hr Oq Oq;have l1:=q67 (raw:=raw) (s:=s) (p:=p) (i:=i);have l2:=qmN (raw:=raw) (s:=s) (p:=p) (i:=i) Oq;have l3:=spL_s (raw:=raw) (s:=s) (p:=p) (i:=i) Oq;have hx:p.getD i 0 < 18446744073709551616:=by
    rw [zB,zA ω];exact hBu _ (x8 _)
   have e1:((q5s raw (i:Int):Nat):Int).tmod 100000=((q5s raw (i:Int) % 100000:Nat):Int):=rfl;have e6:spX raw s i (p.getD i 0)=(p.getD i 0+s*(q5s raw (i:Int) % 100000)) % 18446744073709551616:=rfl;have hw:=q4G raw (i:Int);generalize spL raw s p i=P at *;generalize p.getD i 0=x at *;generalize spX raw s i x=y at *;generalize q5s raw (i:Int)=w at *;obtain ⟨m,hm⟩:∃ m,m=w % 100000:=⟨_,rfl⟩;rw [<- hm] at e1 e6;have hmm:m < 100000:=ω
   have e2:IntKind.i64.wrap ((m:Nat):Int)=(m:Int):=i64_in Oq Oq;have hsm:s*m<=3*100000:=zR Oq Oq;have e3:IntKind.i64.wrap ((s:Int)*(m:Int))=((s*m:Nat):Int):=by rw [<- zG,i64_in ω ω]
   have e4:IntKind.u64.wrap ((s*m:Nat):Int)=((s*m:Nat):Int):=u64_in Oq Oq;have e5:IntKind.u64.wrap ((x:Int)+((s*m:Nat):Int))=((y:Nat):Int):=by rw [q0s,e6]; omega
   have N1:Nz (uv (w:Nat)):=qa6;have N2:Nz (iv (s:Nat)):=qa6;generalize s*m=sm at *;refine wk1 (x6 q l1 l2 e1 e2 (x3 e3 e4 e5)) ?_;refine ⟨i+1,ω,ω,?_⟩;rw [<- l3];refine LeW [] rfl rfl ?_ ?_ (by simp [q0y,q0n,win]) ?_
   .intro c hc
    by_cases ec:c=5000
    .subst ec;rw [q0H,q0H,List.map_set]
    .rw [q0A ec,q0V hc,q0A ec,q0A ec]
   .exact qll _
   .try refine Zz ?_
    omega
  .obtain rfl:i=N*N:=ω
   have q:¬ ((N*N:Nat):Int) < ((N*N:Nat):Int):=ω
   have l1:=q67 (raw:=raw) (s:=s) (p:=p) (i:=N*N);rw [hBl] at l1;refine wk1 q ?_;refine (rtM (rs:=[.cell 12 26,.cell 13 28]) rfl rfl Lq ?_ (.inl rfl));refine LeTP hJ ?_ clU λτ h h'=>?_
   .try simp -implicitDefEqProofs (disch:=omega) only [go_sem,Nat.reduceEqDiff,Nat.reduceAdd,↓reduceIte]
   .try simp -implicitDefEqProofs (disch:=omega) only [go_sem,Nat.reduceEqDiff,Nat.reduceAdd,↓reduceIte]
end
end Go.Proofs.YtbjoghfmhgadkaaGreatDoor
