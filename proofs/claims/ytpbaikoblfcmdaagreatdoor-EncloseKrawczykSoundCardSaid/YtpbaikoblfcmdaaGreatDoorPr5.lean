/- EncloseKrawczykSound. 5/7. -/
import Derived.Test.YtpbaikoblfcmdaaGreatDoorPr4
open Bool renaming bne_false->xI
open Int renaming natCast_mul->zO,natAbs_natCast->uU,toNat_natCast->zU,sign_eq_zero_iff_zero->zV,mul_assoc->zW,sign_eq_one_of_pos->zZ,natAbs_neg->z7,sign_eq_neg_one_of_neg->yC,pow_add->yE,mul_left_comm->yJ,mul_comm->yQ,lt_or_eq_of_le->uV,eq_of_mul_eq_mul_right->yU,le_of_mul_le_mul_left->yV,neg_mul->yX,ne_of_gt->xR,le_refl->xS,one_mul->xU
open List renaming getElem?_eq_getElem->zA,mem_of_getElem?->zB,map_append->zD,length_map->zE,take_of_length_le->zF,getElem?_range->zG,getElem?_map->zH,getD_eq_getElem?_getD->zI,getElem?_eq_some_iff->zJ,mem_map->zK,take_length->zL,mem_range->zP,mem_append->zQ,length_take->zR,map_congr_left->zS,length_range->zX,range_succ->zY,length_append->uW,map_singleton->uX,getElem?_set_self->z8,mem_iff_getElem?->z9,drop_zero->yB,length_drop->yF,mem_or_eq_of_mem_set->yG,getElem?_take->yI,getElem?_eq_none->yK,mem_cons_of_mem->yM,mem_map_of_mem->yO,getElem?_drop->yR,mem_cons_self->yS,append_assoc->yW,length_filterMap_le->yY,map_map->y8,foldl_cons->xA,find?_cons->xB,length_set->xC,append_nil->xD,length_singleton->xE,mem_of_mem_take->xF,map_cons->xK,mem_replicate->xM,map_replicate->xN,map_nil->xO
open Nat renaming zero_le->zC,mul_le_mul->zM,le_trans->zN,le_refl->z6,mul_le_mul_right->uY,succ_mul->yP,lt_succ_iff_lt_or_eq->yZ,mul_assoc->uZ,add_sub_cancel_left->y7,mul_comm->y9,pow_add->xG,pow_le_pow_right->xH,mul_le_mul_left->xJ,le_of_eq->xP,sub_self->xQ
open Option renaming ne_none_iff_exists'->yA,some_ne_none->yH,bind_some->yL,map_some->yN,bind_eq_some_iff->y6,toList_some->xL,some->xT
set_option linter.unusedSimpArgs false
set_option linter.unusedVariables false
set_option maxRecDepth 20000
set_option maxHeartbeats 2000000
set_option linter.defProp false
namespace Go.E
open Go Go.RowKit
section
variable {T1 T2:TypeId} {K:Kd} {N R n:Nat} {row:Nat->List PV} {B B':Hp}
def q1G {i:Nat} (h1:i≠N) (h2:i≠n+R):q1V T1 T2 K N R (n+1) row B i=q1V T1 T2 K N R n row B i:=by
 unfold q1V;rw [if_neg h1,if_neg h1]
 by_cases h:R<=i/\i < R+n
 .rw [if_pos h,if_pos ω]
 .rw [if_neg h,if_neg ω]
def q1t {i:Nat} (h:B i=B' i):q1V T1 T2 K N R n row B i=q1V T1 T2 K N R n row B' i:=by
 unfold q1V; rw [h]
def q26 {j:Nat} (hj:j < n):q1V T1 T2 K N R n row B (j+R)≠none:=by
 unfold q1V
 split
 .exact yH _
 .rw [if_pos ω]; exact yH _
end
end Go.E
namespace Go.Proofs.YtpbaikoblfcmdaaGreatDoor
open Go Go.E Go.Sp
section
open Classical
def qkJ:LuS:=⟨[],λ_ _=>0,λ_ _=>false,λ_ _=>0,λ_ _=>false⟩
variable (F:Nat->Nat->Option Nat) (mi:List Int) (n:Nat) (cols:List Int) (num den:Nat)
noncomputable def q3Z:Nat->Int × Nat × LuS
 | 0=>(0,0,qkJ)
 | k+1=>if (q3Z k).1=0 then ((q6o F mi n (q3Z k).2.2 (lfN cols k) k num den).1,if (q6o F mi n (q3Z k).2.2 (lfN cols k) k num den).1=9 then k else 0,(q6o F mi n (q3Z k).2.2 (lfN cols k) k num den).2) else q3Z k
noncomputable def qnz:LUt:=if (q3Z F mi n cols num den n).1=0 then qwx (q3Z F mi n cols num den n).2.2 cols n else ⟨[],[],[],[],[],[],[],[]⟩
noncomputable def facP:PV:=.tu [pLU (qnz F mi n cols num den),iv (if (q3Z F mi n cols num den n).1=0 then n else (q3Z F mi n cols num den n).2.1:Nat),iv (q3Z F mi n cols num den n).1]
end
section
variable {F:Nat->Nat->Option Nat} {mi:List Int} {n:Nat} {cols:List Int} {num den:Nat} {S r:LuS} {j k:Nat}
def q8P {g:Nat->Nat->Nat} {r c v:Nat} (h:q61 g) (h1:q0I v) (h2:v < 18446744073709551616):q61 (q3s g r c v):=λx y=>by
 unfold q3s
 split
 .exact ⟨h1,h2⟩
 .exact h x y
def qm9:∀ (m:Nat) (q:LuS),q61 S.l->q61 S.u->upS F S j k m=some q->q61 q.l/\q61 q.u/\q.rows=S.rows
 | 0,q,h1,h2,h=>by unfold upS at h; cases h; exact ⟨h1,h2,rfl⟩
 | m+1,q,h1,h2,h=>by
  unfold upS at h;obtain ⟨t,ht,h⟩:=y6.1 h;obtain ⟨q1,q2,q3⟩:=qm9 m t h1 h2 ht
  split at h
  .cases h; exact ⟨q1,q8P q2 (by assumption) q2e,q3⟩
  .cases h
def qng {z:Nat->Int} {d:Int}:∀ (m:Nat) (q:LuS),q61 S.l->loS S k z d m=some q->q61 q.l/\q.u=S.u/\q.rows=S.rows
 | 0,q,h1,h=>by unfold loS at h; cases h; exact ⟨h1,rfl,rfl⟩
 | m+1,q,h1,h=>by
  unfold loS at h;obtain ⟨t,ht,h⟩:=y6.1 h;obtain ⟨q1,q2,q3⟩:=qng m t h1 ht
  split at h
  .cases h; exact ⟨q1,q2,q3⟩
  .split at h
   .cases h; exact ⟨q8P q1 (by assumption) qfp,q2,q3⟩
   .cases h
structure LuG (n k:Nat) (S:LuS):Prop where
 l:q61 S.l
 u:q61 S.u
 r:∀ x ∈ S.rows,x < n
 len:S.rows.length=k
def qsL (h:LuG n k S) (he:q6o F mi n S j k num den=(0,r)):LuG n (k+1) r:=by
 unfold q6o at he
 split at he
 .cases he
 .rename_i q hq;obtain ⟨q1,q2,q3⟩:=qm9 k q h.l h.u hq;unfold colG at he
  split at he
  .rename_i hfin
   split at he
   .cases he
   .rename_i hneg
    split at he
    .cases he
    .rename_i t ht;obtain ⟨p,hp⟩:∃ p,p=(bsP (rsV F q j k) q mi num den (mxZ (rsV F q j k) n) n).toNat:=⟨_,rfl⟩;have hpn:p < n:=by have:=(qiJ (v:=rsV F q j k) (S:=q) (mi:=mi) (num:=num) (den:=den) (w:=mxZ (rsV F q j k) n) n).2; omega
     rw [<- hp] at ht;have hvl:rsV F q j k p < 18446744073709551616:=by
      unfold rsV
      split
      .omega
      .exact q2e
     obtain ⟨t1,t2,t3⟩:=qng (S:=pvS q k (rsV F q j k) p) n t q1 ht;cases he;refine ⟨t1,?_,?_,?_⟩
     .rw [t2]; exact q8P q2 (hfin p hpn) hvl
     .rw [t3];intro x hx
      rcases zQ.1 hx with hx | hx
      .exact h.r x (by rw [<- q3]; exact hx)
      .simp at hx; subst hx; exact hpn
     .rw [t3]
      show (q.rows ++ [p]).length=k+1
      rw [uW,q3,h.len]; rfl
  .cases he
def qax:∀ k,(q3Z F mi n cols num den k).1=0->LuG n k (q3Z F mi n cols num den k).2.2
 | 0,_=>⟨λ_ _=>⟨by unfold q0I; simp [q3Z,qkJ],by simp [q3Z,qkJ]⟩,λ_ _=>⟨by unfold q0I; simp [q3Z,qkJ],by simp [q3Z,qkJ]⟩,λx hx=>by simp [q3Z,qkJ] at hx,rfl⟩
 | k+1,h=>by
  unfold q3Z at h ⊢
  split at h
  .rename_i h0;rw [if_pos h0];have ih:=qax k h0;exact qsL ih (Prod.ext h rfl)
  .rename_i h0; exact absurd h h0
def qcc {k:Nat} (h:(q3Z F mi n cols num den k).1≠0):∀ k',k<=k'->q3Z F mi n cols num den k'=q3Z F mi n cols num den k
 | 0,hk=>by
  obtain rfl:k=0:=ω
  rfl
 | k'+1,hk=>by
  by_cases e:k=k'+1
  .subst e; rfl
  .have ih:=qcc h k' Oq;rw [q3Z,ih,if_neg h]
def qyo:(q6o F mi n S j k num den).1=0\/(q6o F mi n S j k num den).1=233\/(q6o F mi n S j k num den).1=9:=by
 unfold q6o
 split
 .exact .inr (.inl rfl)
 .unfold colG
  split
  .split
   .exact .inr (.inr rfl)
   .split
    .exact .inr (.inl rfl)
    .exact .inl rfl
  .exact .inr (.inl rfl)
def q29 (n a b c d:Nat):Hp:=q1V 25 33 none 6000 10000 a (rU n λ_ _=>0) (q1V 69 4 none 6001 20000 b (rB n λ_ _=>false) (q1V 25 33 none 6002 30000 c (rU n λ_ _=>0) (q1V 69 4 none 6003 40000 d (rB n λ_ _=>false) h0)))
def qvL:q29 n n n n n=stT n qkJ:=rfl
variable {a b c d:Nat}
def q4j (ha:a<=100) (hb:b<=100) (hc:c<=100) (hd:d<=100):BOk (q29 n a b c d) win:=by
 unfold q29;have w:∀ R j m:Nat,5000<=R->R<=40000->m<=100->j < m->win (j+R):=λR j m h1 h2 h3 h4=>⟨ω,ω⟩;exact q1P (q1P (q1P (q1P BOk.h0 (λ_ _=>qe2) Oq ⟨⟨ω,ω⟩,λj hj=>w _ j _ Oq Oq hd hj⟩) (λ_ _=>q7S) Oq ⟨⟨ω,ω⟩,λj hj=>w _ j _ Oq Oq hc hj⟩) (λ_ _=>qe2) Oq ⟨⟨ω,ω⟩,λj hj=>w _ j _ Oq Oq hb hj⟩) (λ_ _=>q7S) Oq ⟨⟨ω,ω⟩,λj hj=>w _ j _ Oq Oq ha hj⟩
def q7e {q:Nat->Prop} (hq:∀ i,10000<=i->q i):HId q (q29 n a b c d):=by
 unfold q29;exact q6i (q6i (q6i (q6i qb2 (λ_ _=>qe2) λj _=>hq _ Oq) (λ_ _=>q7S) λj _=>hq _ Oq) (λ_ _=>qe2) λj _=>hq _ Oq) (λ_ _=>q7S) λj _=>hq _ Oq
def qpb {i:Nat} (hi:i < 6000):q29 n a b c d i=none:=by
 unfold q29;rw [q0O ω ω,q0O ω ω,q0O ω ω,q0O ω ω]
 rfl
def qfO (ha:a<=100) (hb:b<=100) (hc:c<=100):q29 n a b c d 6000=some ⟨25,none,(List.range a).map λj=>.ow (j+10000) none 0 n,false⟩:=by
 unfold q29; rw [q1H]; simp
def qfN (ha:a<=100) (hb:b<=100) (hc:c<=100):q29 n a b c d 6001=some ⟨69,none,(List.range b).map λj=>.ow (j+20000) none 0 n,false⟩:=by
 unfold q29; rw [q0O ω ω,q1H]; simp
def qfM (ha:a<=100) (hb:b<=100) (hc:c<=100):q29 n a b c d 6002=some ⟨25,none,(List.range c).map λj=>.ow (j+30000) none 0 n,false⟩:=by
 unfold q29; rw [q0O ω ω,q0O ω ω,q1H]; simp
def qfL (ha:a<=100) (hb:b<=100) (hc:c<=100):q29 n a b c d 6003=some ⟨69,none,(List.range d).map λj=>.ow (j+40000) none 0 n,false⟩:=by
 unfold q29; rw [q0O ω ω,q0O ω ω,q0O ω ω,q1H]; simp
def qjm {j:Nat}:List.replicate n (PV.vl (.int .u64 0))=rU n (λ_ _=>0) j:=by
 unfold rU;rw [List.map_const',zX]; rfl
def qwP {j:Nat}:List.replicate n (PV.vl (.bool false))=rB n (λ_ _=>false) j:=by
 unfold rB;rw [List.map_const',zX]
def tnS (o i:Nat):Option Nat:=if i=5000 then some o else if i=5001 then none else some i
def qud {o i:Nat} (h:i < 5000):tnS o i=some i:=by unfold tnS; rw [if_neg ω,if_neg ω]
def q6t {o i:Nat} (h:6000<=i):tnS o i=some i:=by unfold tnS; rw [if_neg ω,if_neg ω]
def que {o:Nat}:tnS o 5000=some o:=rfl
def qpV {o:Nat}:tnS o 5001=none:=rfl
attribute [go_sem ↓] qud que qpV
def qjX {J:Nat->Prop} {s:Nat->PV} {h:Hp} {xs kv:List (Nat × PV)} {bs:List (Nat × Bk)} {kb:List (Nat × Option Bk)} {o:Nat} (hn:n<=100) (hS:S.rows=[]) (hJ:∀ i,¬ J i) (hq:∀ i,6000<=i->win i->h i=stT n S i) (h0:h o=some ⟨193,some 5,[.ag [q05,.ow 6000 none 0 n,.ow 6001 none 0 n,.ow 6002 none 0 n,.ow 6003 none 0 n]],false⟩) (ho:o < 5000) (hl:nmW o o (bs.map (·.1) ++ kb.map (·.1)))
  (hh:q5Z (tnS o) h (q1B (q0z n S 5001) (hpM bs kb)) s xs/\q5Z (tnS o) h (q1B (q0z n S 5001) (hpM bs kb)) s kv/\qeW (tnS o) h (q1B (q0z n S 5001) (hpM bs kb)) bs/\qaJ (tnS o) h (q1B (q0z n S 5001) (hpM bs kb)) kb):Le J s h (stM xs kv) (q1B (q0z n S 5001) (hpM bs kb)):=by
 have hl:=λi hi=>q4x hl i hi;have hex:∀ i,win i->∀ b,q0z n S 5001 i=some b->∃ b,q1B (q0z n S 5001) (hpM bs kb) i=some b:=λi hi b hb=>⟨b,by rw [q0W hi]; exact hb⟩;refine LeT (tnS o) (λi q=>(hJ i q).elim) (λi hi hw=>?_) (λi b hw hb=>?_) (λi j k' hi hj ti tj=>?_) hh
 .have:=(hl i hi).1; unfold win at hw; omega
 .have hb2:=hb;unfold q0z q0R at hb
  split at hb
  .rename_i e; subst e; cases hb;unfold LeB;rw [qpV,hS]
   rfl
  .rename_i e
   split at hb
   .rename_i e2; subst e2; cases hb;unfold LeB;rw [que];refine ⟨_,h0,rfl,rfl,⟨rfl,rfl⟩,?_⟩;unfold q2t;simp only;rw [qb1];obtain ⟨q1,q2,q3,q4⟩:=qpg (S:=S) hn;have hx:∀ i,6000<=i->win i->stT n S i≠none->∃ b,q1B (q0z n S 5001) (hpM bs kb) i=some b:=λi hi hw hq=>by
     obtain ⟨b,hb⟩:=yA.1 hq;exact hex i hw b (by unfold q0z; rw [q0B ω,q0B ω]; exact hb)
    rw [qia,q3L,q3L,q3L,q3L,q3L,qon,q3b,q3b,q3b,q3b,qpV,q6t ω,q6t ω,q6t ω,q6t ω,hS];exact ⟨⟨rfl,⟨_,by rw [q0W ⟨ω,ω⟩]; exact q0L,rfl⟩,rfl,rfl⟩,⟨rfl,hx _ ω ⟨ω,ω⟩ q1,rfl,rfl,rfl⟩,⟨rfl,hx _ ω ⟨ω,ω⟩ q2,rfl,rfl,rfl⟩,⟨rfl,hx _ ω ⟨ω,ω⟩ q3,rfl,rfl,rfl⟩,⟨rfl,hx _ ω ⟨ω,ω⟩ q4,rfl,rfl,rfl⟩,trivial⟩
   .obtain ⟨q1,q2,q3⟩:=(q9G hn).b i b hb;have hi6:=qbo hb;unfold LeB;rw [q6t hi6];refine ⟨b,(hq i hi6 hw).trans hb,rfl,rfl,⟨q2,q2⟩,LeL_self (λj hj=>?_) _ q3⟩;obtain ⟨c,hc⟩:=yA.1 hj;have hj6:=qbo hc;exact ⟨q6t hj6,hex j ((q9G hn).b j c hc).1 c (by unfold q0z; rw [q0B ω,q0B ω]; exact hc)⟩
 .have a:∀ i,(win i/\q0z n S 5001 i≠none\/i ∈ bs.map (·.1) ++ kb.map (·.1))->i≠o:=λi hi=>by
   rcases hi with ⟨q,hi⟩ | hi
   .unfold win at q; omega
   .exact (hl i hi).2.1
  have a1:=a i hi;have a2:=a j hj;unfold tnS at ti tj
  split at ti <;> (try split at ti) <;> split at tj <;> (try split at tj) <;> cases ti <;> cases tj <;> first | omega | rfl | exact (a1 rfl).elim | exact (a2 rfl).elim
def qpi {τ:Nat->Option Nat} {h h':Hp} (hn:n<=100) (hq:Wn h (q0z n S 5001)) (ht:∀ i j,τ i=some j->5000 < j->win j->h' i=none):LeV τ h h' (.ow 5001 none 0 S.rows.length) (pRw S.rows)/\LeV τ h h' (.ow 6000 none 0 n) (tU n S.l)/\LeV τ h h' (.ow 6001 none 0 n) (tB n S.iL)/\LeV τ h h' (.ow 6002 none 0 n) (tU n S.u)/\LeV τ h h' (.ow 6003 none 0 n) (tB n S.iU):=by
 have hT:∀ i,6000<=i->win i->h i=stT n S i:=λi h1 h2=>by
  rw [hq i h2];unfold q0z;rw [q0B ω,q0B ω]
 have w:∀ R j:Nat,5000<=R->R<=40000->j < n->win (j+R):=λR j h1 h2 h3=>⟨ω,ω⟩;refine ⟨q49 (T:=3) (l:=S.rows.map λz:Nat=>iv z) ((hq 5001 ⟨ω,ω⟩).trans q0L) clRw (λi hi=>ht i _ hi ω ⟨ω,ω⟩) (by rw [yB]; exact zF σ),?_,?_,?_,?_⟩
 .exact q5t (λ_=>n) ((hT _ ω ⟨ω,ω⟩).trans (qmz hn)) (λj hj=>⟨(hT _ ω (w _ j ω ω hj)).trans (qmv hn hj),q7S,σ⟩) λi j hi hj=>ht i j hi ω ⟨ω,ω⟩
 .exact q5t (λ_=>n) ((hT _ ω ⟨ω,ω⟩).trans (qmy hn)) (λj hj=>⟨(hT _ ω (w _ j ω ω hj)).trans (qmu hn hj),qe2,σ⟩) λi j hi hj=>ht i j hi ω ⟨ω,ω⟩
 .exact q5t (λ_=>n) ((hT _ ω ⟨ω,ω⟩).trans (qmx hn)) (λj hj=>⟨(hT _ ω (w _ j ω ω hj)).trans (qmt hn hj),q7S,σ⟩) λi j hi hj=>ht i j hi ω ⟨ω,ω⟩
 .exact q5t (λ_=>n) ((hT _ ω ⟨ω,ω⟩).trans (qmw hn)) (λj hj=>⟨(hT _ ω (w _ j ω ω hj)).trans (qms hn hj),qe2,σ⟩) λi j hi hj=>ht i j hi ω ⟨ω,ω⟩
def tnW (i:Nat):Option Nat:=if 5000<=i/\i < 1000000 then none else some i
def qub {i:Nat} (h:i < 5000):tnW i=some i:=if_neg Oq
def q5I {i:Nat} (h1:5000<=i) (h2:i < 1000000):tnW i=none:=if_pos ⟨h1,h2⟩
attribute [go_sem ↓] qub q5I
def qpa {i:Nat} {x:Bk} (hb:q29 n 0 0 0 0 i=some x):x.xs=[]:=by
 unfold q29 at hb
 rcases q0j hb with ⟨rfl,rfl⟩ | ⟨_,h1,h2,_⟩ | ⟨_,_,hb⟩
 .rfl
 .omega
 rcases q0j hb with ⟨rfl,rfl⟩ | ⟨_,h1,h2,_⟩ | ⟨_,_,hb⟩
 .rfl
 .omega
 rcases q0j hb with ⟨rfl,rfl⟩ | ⟨_,h1,h2,_⟩ | ⟨_,_,hb⟩
 .rfl
 .omega
 rcases q0j hb with ⟨rfl,rfl⟩ | ⟨_,h1,h2,_⟩ | ⟨_,_,hb⟩
 .rfl
 .omega
 .cases hb
def qrP {H:Hp}:WfH (q8m H):=⟨λi b hb=>by
 unfold q8m at hb;obtain ⟨c,_,rfl⟩:=Option.map_eq_some_iff.1 hb;exact ⟨rfl,IdL.of λx hx=>by
  obtain ⟨_,_,rfl⟩:=zK.1 hx;unfold IdP; trivial⟩⟩
attribute [go_sem ↓] qpb qfO qfN qfM qfL
end
section
variable {F:Nat->Nat->Option Nat} {n:Nat} {cols:List Int} {num den:Nat}
def qkK (h:TOk F n n) (hn:n<=100) (hp:q34 cols n) (hnd:num<=den) (hd1:1<=den) (hd:den<=1000):ACt 50 [pT n n F,pI cols,iv num,iv den] (facP F (tM F n n).2.1 n cols num den):=by
 have hll:cols.length=n:=by have:=hp.1; omega
 have hlf:∀ i,i < n->∃ x:Nat,cols[i]?=some (x:Int)/\lfN cols i=x/\x < n:=λi hi=>by
  obtain ⟨x,hx⟩:∃ x,cols[i]?=some x:=⟨_,zA Oq⟩;have:=hp.2.1 x (zB hx);obtain ⟨y,rfl⟩:∃ y:Nat,x=y:=⟨x.toNat,ω⟩;exact ⟨y,hx,qqu hx,ω⟩
 have cS:=qd0 h hp;have cC:=λ{S:LuS} {k j:Nat} (h1:LuG n k S) (h2:k < n) (h3:j < n)=>qln (F:=F) (S:=S) (num:=num) (den:=den) h hn h1.l h1.u h1.r h1.len h2 h3 Oq hd;have hC:=Hid.mk @cC;clear cC;have hpl:pT n n F=q2M n n (tM F n n).1 (tM F n n).2.1 (tM F n n).2.2:=rfl;rw [hpl] at cS ⊢;simp only [hpl] at hC;clear hpl;unfold q2M at cS hC ⊢;generalize (tM F n n).1=ms at *;generalize (tM F n n).2.1=mi at *;generalize (tM F n n).2.2=mv at *;have hG:=λk=>qax (F:=F) (mi:=mi) (n:=n) (cols:=cols) (num:=num) (den:=den) k;have hE:=λk=>@qcc F mi n cols num den k;have hs:=λk=>show q3Z F mi n cols num den (k+1)=if (q3Z F mi n cols num den k).1=0 then ((q6o F mi n (q3Z F mi n cols num den k).2.2 (lfN cols k) k num den).1,if (q6o F mi n (q3Z F mi n cols num den k).2.2 (lfN cols k) k num den).1=9 then k else 0,(q6o F mi n (q3Z F mi n cols num den k).2.2 (lfN cols k) k num den).2) else q3Z F mi n cols num den k from rfl
 have h0:q3Z F mi n cols num den 0=(0,0,qkJ):=rfl;unfold facP qnz;generalize q3Z F mi n cols num den=C at *;have q1:¬ (num:Int) < 0:=ω
 have q2:¬ (num:Int) > den:=ω
 have q3:¬ (den:Int) < 1:=ω
 have q4:¬ (den:Int) > 1000:=ω
 refine ac0 Tryz.func50 Tryz.ntmps50 [.cell 8 99,.tmp 9,.tmp 10] ?_;refine wk1 (x4 q1 q2 q3 q4) ?_;refine q0r (LeT (hw:=q29 n 0 0 0 0) tnW (λ_ h=>h.elim) (λi hi hw=>?_) (λi b hw hb=>?_) (λi j x hi hj ti tj=>?_) (xs:=[(1,pI cols),(2,iv num),(3,iv den),(4,.pt 4 0 0),(8,.pt 8 0 0),(9,iv 0),(10,iv 0),(12,iv n),(13,.pt 13 0 0),(14,iv 0)]) (kv:=[]) (bs:=[(4,⟨27,some 5,[.ag [iv n,iv n,pI ms,pI mi,pF mv]],false⟩),(8,⟨99,some 8,[.ag [q05,q05,q05,q05,q05,q05,q05,q05]],false⟩),(13,⟨193,some 5,[.ag [q05,.ow 6000 none 0 0,.ow 6001 none 0 0,.ow 6002 none 0 0,.ow 6003 none 0 0]],false⟩)]) (kb:=[]) ?_) ?_
 .simp at hi;unfold win at hw;omega
 .unfold LeB;rw [q5I hw.1 hw.2];exact qpa hb
 .unfold tnW at ti tj
  split at ti <;> split at tj <;> cases ti <;> cases tj <;> rfl
 .try simp -implicitDefEqProofs (disch:=omega) only [go_sem,Nat.reduceEqDiff,Nat.reduceAdd,↓reduceIte]
 refine q0P (λt=>t<=n) [1,2,3,4,8,9,10,12,13] [4,8] Lk Lk (λt:Nat=>[(14,iv t)]) (λt=>[(13,⟨193,some 5,[.ag [q05,.ow 6000 none 0 t,.ow 6001 none 0 t,.ow 6002 none 0 t,.ow 6003 none 0 t]],false⟩)]) (λt=>q29 n t t t t) (λt=>n-t) 0 (zC _) ?_ ?_
 .refine LeW [] rfl rfl ?_ ?_ (by simp [q0i,q0c,win]) ?_
  .exact Ow
  .exact q1X (q4j Oq Oq Oq Oq)
  .try refine Zz ?_
   rfl
 .intro t ht
  by_cases hlt:t < n
  .have hlt':(t:Int) < n:=ω
   have hHn:=Hid.mk hn;clear hn;refine wk1 hlt' ?_;have hn:=hHn.o;refine A_sd [(1,3),(1,4)] q5W κ λK hK=>?_;refine Zz1 @List.length_range ?_;refine hK _ _ ?_; clear hK K;refine q0r (q1s (T1:=25) (T2:=33) (K:=none) (N:=6000) (R:=10000) (n:=t) (o:=52) (r:=50) (l:=(rU n λ_ _=>0) t) (hw:=q29 n t t t t) (hw':=q29 n (t+1) t t t) (λ_ h=>h) q7S (λ_=>n) ?_ ?_ (λi h1 h2=>?_) (qfO Oq Oq Oq) ?_ (λi h1 h2=>q1G h1 h2) (λj hj=>by
    unfold q29;exact q26 ω) (q4j ω ω ω ω) (q7e λi hi=>by omega) ?_ ω ω ω ω ω ω (xs:=[(1,pI cols),(2,iv num),(3,iv den),(4,.pt 4 0 0),(8,.pt 8 0 0),(9,iv 0),(10,iv 0),(12,iv n),(13,.pt 13 0 0),(14,iv t)]) (kv:=[]) (bs:=[(4,⟨27,some 5,[.ag [iv n,iv n,pI ms,pI mi,pF mv]],false⟩),(8,⟨99,some 8,[.ag [q05,q05,q05,q05,q05,q05,q05,q05]],false⟩),(13,⟨193,some 5,[.ag [q05,.ow 6000 none 0 (t+1),.ow 6001 none 0 t,.ow 6002 none 0 t,.ow 6003 none 0 t]],false⟩)]) (kb:=[]) (by simp [nmW]) ?_) ?_
   .try simp -implicitDefEqProofs (disch:=omega) only [go_sem,Nat.reduceEqDiff,Nat.reduceAdd,↓reduceIte]
   .try refine Zz ?_
    rw [qjm (j:=t)]
   .obtain ⟨w1,w2⟩:=h1
    repeat rw [q0B ω]
    rw [q0W ⟨w1,w2⟩]
   .unfold q29;rw [q1F ω ω]
   .unfold q29;rw [q0O ω ω,q0O ω ω,q0O ω ω,q0O ω ω]
    rfl
   .try simp -implicitDefEqProofs (disch:=omega) only [go_sem,Nat.reduceEqDiff,Nat.reduceAdd,↓reduceIte]
   refine A_sd [(1,3),(1,4)] q5W κ λK hK=>?_;refine Zz1 @List.length_range ?_;refine hK _ _ ?_; clear hK K;refine q0r (q1s (T1:=69) (T2:=4) (K:=none) (N:=6001) (R:=20000) (n:=t) (o:=59) (r:=57) (l:=(rB n λ_ _=>false) t) (hw:=q29 n (t+1) t t t) (hw':=q29 n (t+1) (t+1) t t) (λ_ h=>h) qe2 (λ_=>n) ?_ ?_ (λi h1 h2=>?_) (qfN Oq Oq Oq) ?_ (λi h1 h2=>q1t (q1G h1 h2)) (λj hj=>by
    unfold q29;rw [q0O ω ω];exact q26 ω) (q4j ω ω ω ω) (q7e λi hi=>by omega) ?_ ω ω ω ω ω ω (xs:=[(1,pI cols),(2,iv num),(3,iv den),(4,.pt 4 0 0),(8,.pt 8 0 0),(9,iv 0),(10,iv 0),(12,iv n),(13,.pt 13 0 0),(14,iv t)]) (kv:=[]) (bs:=[(4,⟨27,some 5,[.ag [iv n,iv n,pI ms,pI mi,pF mv]],false⟩),(8,⟨99,some 8,[.ag [q05,q05,q05,q05,q05,q05,q05,q05]],false⟩),(13,⟨193,some 5,[.ag [q05,.ow 6000 none 0 (t+1),.ow 6001 none 0 (t+1),.ow 6002 none 0 t,.ow 6003 none 0 t]],false⟩)]) (kb:=[]) (by simp [nmW]) ?_) ?_
   .try simp -implicitDefEqProofs (disch:=omega) only [go_sem,Nat.reduceEqDiff,Nat.reduceAdd,↓reduceIte]
   .try refine Zz ?_
    rw [qwP (j:=t)]
   .obtain ⟨w1,w2⟩:=h1
    repeat rw [q0B ω]
    rw [q0W ⟨w1,w2⟩]
   .unfold q29;rw [q0O ω ω,q1F ω ω]
   .unfold q29;rw [q0O ω ω,q0O ω ω,q0O ω ω,q0O ω ω]
    rfl
   .try simp -implicitDefEqProofs (disch:=omega) only [go_sem,Nat.reduceEqDiff,Nat.reduceAdd,↓reduceIte]
   refine A_sd [(1,3),(1,4)] q5W κ λK hK=>?_;refine Zz1 @List.length_range ?_;refine hK _ _ ?_; clear hK K;refine q0r (q1s (T1:=25) (T2:=33) (K:=none) (N:=6002) (R:=30000) (n:=t) (o:=66) (r:=64) (l:=(rU n λ_ _=>0) t) (hw:=q29 n (t+1) (t+1) t t) (hw':=q29 n (t+1) (t+1) (t+1) t) (λ_ h=>h) q7S (λ_=>n) ?_ ?_ (λi h1 h2=>?_) (qfM Oq Oq Oq) ?_ (λi h1 h2=>q1t (q1t (q1G h1 h2))) (λj hj=>by
    unfold q29;rw [q0O ω ω];rw [q0O ω ω];exact q26 ω) (q4j ω ω ω ω) (q7e λi hi=>by omega) ?_ ω ω ω ω ω ω (xs:=[(1,pI cols),(2,iv num),(3,iv den),(4,.pt 4 0 0),(8,.pt 8 0 0),(9,iv 0),(10,iv 0),(12,iv n),(13,.pt 13 0 0),(14,iv t)]) (kv:=[]) (bs:=[(4,⟨27,some 5,[.ag [iv n,iv n,pI ms,pI mi,pF mv]],false⟩),(8,⟨99,some 8,[.ag [q05,q05,q05,q05,q05,q05,q05,q05]],false⟩),(13,⟨193,some 5,[.ag [q05,.ow 6000 none 0 (t+1),.ow 6001 none 0 (t+1),.ow 6002 none 0 (t+1),.ow 6003 none 0 t]],false⟩)]) (kb:=[]) (by simp [nmW]) ?_) ?_
   .try simp -implicitDefEqProofs (disch:=omega) only [go_sem,Nat.reduceEqDiff,Nat.reduceAdd,↓reduceIte]
   .try refine Zz ?_
    rw [qjm (j:=t)]
   .obtain ⟨w1,w2⟩:=h1
    repeat rw [q0B ω]
    rw [q0W ⟨w1,w2⟩]
   .unfold q29;rw [q0O ω ω,q0O ω ω,q1F ω ω]
   .unfold q29;rw [q0O ω ω,q0O ω ω,q0O ω ω,q0O ω ω]
    rfl
   .try simp -implicitDefEqProofs (disch:=omega) only [go_sem,Nat.reduceEqDiff,Nat.reduceAdd,↓reduceIte]
   refine A_ld [(1,3),(1,4)] q5W κ λK9 hK9=>?_;refine Zz1 @List.length_range ?_;refine hK9 _ _ ?_; clear hK9 K9
   repeat (first | refine i_n ?_ | refine q_n ?_)
   refine q0r (q1s (T1:=69) (T2:=4) (K:=none) (N:=6003) (R:=40000) (n:=t) (o:=73) (r:=71) (l:=(rB n λ_ _=>false) t) (hw:=q29 n (t+1) (t+1) (t+1) t) (hw':=q29 n (t+1) (t+1) (t+1) (t+1)) (λ_ h=>h) qe2 (λ_=>n) ?_ ?_ (λi h1 h2=>?_) (qfL Oq Oq Oq) ?_ (λi h1 h2=>q1t (q1t (q1t (q1G h1 h2)))) (λj hj=>by
    unfold q29;rw [q0O ω ω];rw [q0O ω ω];rw [q0O ω ω];exact q26 ω) (q4j ω ω ω ω) (q7e λi hi=>by omega) ?_ ω ω ω ω ω ω (xs:=[(1,pI cols),(2,iv num),(3,iv den),(4,.pt 4 0 0),(8,.pt 8 0 0),(9,iv 0),(10,iv 0),(12,iv n),(13,.pt 13 0 0),(14,iv t)]) (kv:=[]) (bs:=[(4,⟨27,some 5,[.ag [iv n,iv n,pI ms,pI mi,pF mv]],false⟩),(8,⟨99,some 8,[.ag [q05,q05,q05,q05,q05,q05,q05,q05]],false⟩),(13,⟨193,some 5,[.ag [q05,.ow 6000 none 0 (t+1),.ow 6001 none 0 (t+1),.ow 6002 none 0 (t+1),.ow 6003 none 0 (t+1)]],false⟩)]) (kb:=[]) (by simp [nmW]) ?_) ?_
   .try simp -implicitDefEqProofs (disch:=omega) only [go_sem,Nat.reduceEqDiff,Nat.reduceAdd,↓reduceIte]
   .try refine Zz ?_
    rw [qwP (j:=t)]
   .obtain ⟨w1,w2⟩:=h1
    repeat rw [q0B ω]
    rw [q0W ⟨w1,w2⟩]
   .unfold q29;rw [q0O ω ω,q0O ω ω,q0O ω ω,q1F ω ω]
   .unfold q29;rw [q0O ω ω,q0O ω ω,q0O ω ω,q0O ω ω]
    rfl
   .try simp -implicitDefEqProofs (disch:=omega) only [go_sem,Nat.reduceEqDiff,Nat.reduceAdd,↓reduceIte]
   refine wk ?_;refine ⟨t+1,ω,ω,?_⟩;refine LeW [] rfl rfl ?_ ?_ (by simp [q0i,q0c,win]) ?_
   .exact Ow
   .exact q1X (q4j Oq Oq Oq Oq)
   .try refine Zz ?_
    rfl
  .obtain rfl:n=t:=ω
   have hlt':¬ (n:Int) < n:=ω
   refine wk1 hlt' ?_;refine q0r (qjX (S:=qkJ) (o:=13) hn rfl (λ_ h=>h) (λi h6 hw=>?_) ?_ ω (xs:=[(1,pI cols),(2,iv num),(3,iv den),(4,.pt 4 0 0),(8,.pt 8 0 0),(9,iv 0),(10,iv 0),(12,iv n),(13,.pt 5000 0 0),(15,iv 0)]) (kv:=[]) (bs:=[(4,⟨27,some 5,[.ag [iv n,iv n,pI ms,pI mi,pF mv]],false⟩),(8,⟨99,some 8,[.ag [q05,q05,q05,q05,q05,q05,q05,q05]],false⟩)]) (kb:=[]) (by simp [nmW]) ?_) ?_
   .rw [q0W hw,qvL]
   .try simp -implicitDefEqProofs (disch:=omega) only [go_sem,Nat.reduceEqDiff,Nat.reduceAdd,↓reduceIte]
   .try simp -implicitDefEqProofs (disch:=omega) only [go_sem,Nat.reduceEqDiff,Nat.reduceAdd,↓reduceIte]
   refine q0P (λk=>k<=n/\(C k).1=0) [1,2,3,4,8,9,10,12,13] [4,8] Lk Lk (λk:Nat=>[(15,iv k)]) (λ_=>[]) (λk=>q0z n (C k).2.2 5001) (λk=>n-k) 0 ⟨zC _,by rw [h0]⟩ ?_ ?_
   .rw [h0];refine LeW [] rfl rfl ?_ ?_ (by simp [q0i,q0c,win]) ?_
    .exact Ow
    .exact q1X (q0e hn Oq Oq)
    .try refine Zz ?_
     rfl
   .rintro k ⟨hk,hk0⟩;have hGk:=hG k hk0
    by_cases hkn:k < n
    .have hkn':(k:Int) < n:=ω
     obtain ⟨x,hx,hx2,hx3⟩:=hlf k hkn;have hsk:=hs k;rw [if_pos hk0,hx2] at hsk;have hEk:=hE (k+1);have cX:=hC.o hGk hkn hx3;have hce:=qyo (F:=F) (mi:=mi) (n:=n) (S:=(C k).2.2) (j:=x) (k:=k) (num:=num) (den:=den);obtain ⟨e,he⟩:∃ e,e=(q6o F mi n (C k).2.2 x k num den).1:=⟨_,rfl⟩;have hcO:qyp F mi n (C k).2.2 x k num den=if e=0 then q0z n (q6o F mi n (C k).2.2 x k num den).2 5002 else q8m (q8n (q0z n (C k).2.2 5001) 5001):=by rw [he]; rfl
     generalize qyp F mi n (C k).2.2 x k num den=O at *;rw [<- he] at hce hsk cX;generalize (q6o F mi n (C k).2.2 x k num den).2=r at *;generalize (C k).2.2=S at *;have hgo:∀ i,qe1 (q0z n S 5001) O i->i=5001:=λi ⟨h1,h2,h3⟩=>by
      refine Classical.byContradiction λhi=>h2 ?_;have hS:i≠5000/\stT n S i=none->q0z n S 5001 i=none:=λh=>by unfold q0z; rw [q0B hi,q0B h.1]; exact h.2
      rw [hcO] at h3
      split at h3
      .obtain ⟨q1,q2,q3⟩:=qph h3;exact hS ⟨q2,qvR q3⟩
      .unfold q8m q8n at h3;rw [if_neg hi] at h3;exact Option.map_eq_none_iff.1 h3
     have hO5:∃ b,O 5000=some b:=by
      rw [hcO]
      split
      .exact ⟨_,by unfold q0z; rw [q0B ω,q0L]⟩
      .exact ⟨_,by unfold q8m q8n q0z; rw [if_neg ω,q0B ω,q0L]; rfl⟩
     have hwO:WfH O:=by
      rw [hcO]
      split
      .exact q1X (q0e hn Oq Oq)
      .exact qrP
     refine wk1 hkn' ?_;refine A_jW [(1,pI cols),(2,iv num),(3,iv den),(4,.pt 4 0 0),(8,.pt 8 0 0),(9,iv 0),(10,iv 0),(12,iv n),(13,.pt 5000 0 0),(15,iv k),(16,iv e)] [(4,⟨27,some 5,[.ag [iv n,iv n,pI ms,pI mi,pF mv]],false⟩),(8,⟨99,some 8,[.ag [q05,q05,q05,q05,q05,q05,q05,q05]],false⟩)] O ?_ λK0 fin=>?_
     rotate_left
     .refine qdO q5W (.one 1 (.one 2 (.one 3 (.one 5 (.one 6 (.one 7 (.alt (.one 0 (.one 4 (.one 8 (.one 9 .fin)))) (.one 4 (.one 0 (.one 8 (.one 9 .fin))))))))))) κ λK9 hK9=>?_;refine Zz1 hx ?_;refine ⟨?_,?_⟩
      .refine jx cX q3K (λ_ h=>h.elim) (j17 (a:=5001) hgo ?_ ?_) ?_
       .repeat (refine qol ?_ (by first | (unfold IdP; first | trivial | omega) | simp [IdP,IdL]))
        exact λt=>by unfold stV IdP; trivial
       .repeat (refine qor ?_ rfl (by simp [IdL,IdP]))
        exact j14 (qta (by simp [IdL,IdP]) σ)
       .try refine Zz ?_
        refine hK9 _ _ (fin _ _ ?_);refine LeW [] rfl rfl ?_ ?_ (by simp [q0i,q0c,win]) ?_
        .exact Ow
        .exact hwO
        .try refine Zz ?_
         exact hO5
      .refine jx cX q3K (λ_ h=>h.elim) (j17 (a:=5001) hgo ?_ ?_) ?_
       .repeat (refine qol ?_ (by first | (unfold IdP; first | trivial | omega) | simp [IdP,IdL]))
        exact λt=>by unfold stV IdP; trivial
       .repeat (refine qor ?_ rfl (by simp [IdL,IdP]))
        exact j14 (qta (by simp [IdL,IdP]) σ)
       .try refine Zz ?_
        refine hK9 _ _ (fin _ _ ?_);refine LeW [] rfl rfl ?_ ?_ (by simp [q0i,q0c,win]) ?_
        .exact Ow
        .exact hwO
        .try refine Zz ?_
         exact hO5
     .have herr:e≠0->C n=(e,if e=9 then k else 0,r):=λh=>by rw [hEk (by rw [hsk]; exact h) n ω,hsk]
      by_cases e0:e=0
      .subst e0;rw [if_pos rfl] at hcO;subst hcO;have hskr:(C (k+1)).2.2=r:=by rw [hsk]
       have hGr:=hG (k+1) (by rw [hsk]);rw [hskr] at hGr;refine q0r (qbp (S:=r) (o:=5002) (r:=5001) hn ω ω (λ_ h=>h.elim) (λi h6 hw=>?_) ?_ ?_ (.inr ω) (xs:=[(1,pI cols),(2,iv num),(3,iv den),(4,.pt 4 0 0),(8,.pt 8 0 0),(9,iv 0),(10,iv 0),(12,iv n),(13,.pt 5000 0 0),(15,iv k),(16,iv 0)]) (kv:=[]) (bs:=[(4,⟨27,some 5,[.ag [iv n,iv n,pI ms,pI mi,pF mv]],false⟩),(8,⟨99,some 8,[.ag [q05,q05,q05,q05,q05,q05,q05,q05]],false⟩)]) (kb:=[]) (by simp [nmW]) ?_) ?_
       .rw [q0W hw];unfold q0z;rw [q0B ω,q0B ω]
       .rw [q0W ⟨ω,ω⟩];unfold q0z;rw [q0B ω,q0L]
       .rw [q0W ⟨ω,ω⟩];unfold q0z;rw [q0L]
       .try simp -implicitDefEqProofs (disch:=omega) only [go_sem,Nat.reduceEqDiff,Nat.reduceAdd,↓reduceIte]
       have b1:((0:Int) == 9)=false:=rfl;have b2:((0:Int) != 0)=false:=rfl;refine wk1 (x2 b1 b2) ?_;refine ⟨k+1,⟨ω,by rw [hsk]⟩,ω,?_⟩;rw [hskr];refine LeW [] rfl rfl ?_ ?_ (by simp [q0i,q0c,win]) ?_
       .exact Ow
       .exact q1X (q0e hn Oq Oq)
       .try refine Zz ?_
        first | rfl | exact Int.natCast_succ k | (push_cast; rfl) | simp
      .have hne:=herr e0;rw [hne];simp only;rw [if_neg e0,if_neg e0];unfold pLU;dsimp only
       by_cases e9:e=9
       .have b1:(e == 9)=true:=by simpa using e9
        rw [if_pos e9];exact wk1 b1 trivial
       .have b1:(e == 9)=false:=by simpa using e9
        have b2:(e != 0)=true:=by simpa using e0
        rw [if_neg e9,show ((0:Nat):Int)=0 from rfl];exact wk1 (x2 b1 b2) trivial
    .obtain rfl:n=k:=ω
     have hkn':¬ (n:Int) < n:=ω
     have cL:=qeK (S:=(C n).2.2) (cols:=cols) hn hll hGk.len hGk.r;rw [if_pos hk0,if_pos hk0,hk0];generalize (C n).2.2=S at *;generalize qwx S cols n=lu at *;unfold pLU at cL ⊢;refine wk1 hkn' ?_;refine q0r (LeT (hw:=Go.E.h0) (tnU 1013 5000) (λ_ h=>h.elim) (λi hi hw=>?_) (λi b hw hb=>?_) (λi j x hi hj ti tj=>?_) (xs:=[(1,pI cols),(8,.pt 8 0 0),(12,iv n),(13,.pt 1013 0 0)]) (kv:=[]) (bs:=[(8,⟨99,some 8,[.ag [q05,q05,q05,q05,q05,q05,q05,q05]],false⟩),(1013,⟨193,some 5,[pSt n S],false⟩)]) (kb:=[]) ?_) ?_
     .simp at hi;unfold win at hw;omega
     .cases hb
     .have a:∀ i,(win i/\(Go.E.h0:Hp) i≠none\/i ∈ List.map (·.1) [(8,⟨99,some 8,[.ag [q05,q05,q05,q05,q05,q05,q05,q05]],false⟩),(1013,(⟨193,some 5,[pSt n S],false⟩:Bk))] ++ [])->i≠5000:=λi hi=>by
       rcases hi with ⟨_,hi⟩ | hi
       .exact absurd rfl hi
       .simp at hi; omega
      have a1:=a i hi;have a2:=a j hj;unfold tnU at ti tj
      split at ti <;> split at tj <;> cases ti <;> cases tj <;> first | omega | rfl | exact (a1 rfl).elim | exact (a2 rfl).elim
     .try refine Zz ?_
      exact qpi hn q3K λi j hi hj hw=>by
       unfold tnU at hi
       split at hi
       .cases hi; omega
       .cases hi; rw [q0W hw]; rfl
     exact wk trivial
end
def q5g {l:List Nat} {k v:Nat} (h:q0b l) (h1:v < 18446744073709551616) (h2:q0I v):q0b (l.set k v):=λx hx=>by
 rcases yG hx with h3 | rfl
 .exact h x h3
 .exact ⟨h1,h2⟩
def qhT {l:List Nat} {k:Nat} (h:q0b l):q0b (l.take k):=λx hx=>h x (xF hx)
def q9h {l:List Nat} {k:Nat} (h:q0b l):q0b (l.drop k):=λx hx=>h x (List.mem_of_mem_drop hx)
def q28 (V:Int):q1R [V]=V:=by have:=q0m [] V; rw [List.nil_append,q3P] at this; omega
section
variable {f:Fac} {z:Nat->Int}
end
def loZ (D:Nat->Nat->Nat) (ys:List Nat) (k:Nat):Int:=ofZ (ys.getD k 0)-sg (λc=>q1W (D k c) (ys.getD c 0)) k
def upZ (D:Nat->Nat->Nat) (ys:List Nat) (n k:Nat):Int:=ofZ (ys.getD k 0)-sg (λi=>q1W (D k (k+1+i)) (ys.getD (k+1+i) 0)) (n-(k+1))
noncomputable def geL (D:Nat->Nat->Nat):Nat->Nat->List Nat->Option (List Nat)
 | 0,_,ys=>some ys
 | m+1,k,ys=>if q0I (fR 0 (loZ D ys k)) then geL D m (k+1) (ys.set k (fR 0 (loZ D ys k))) else none
noncomputable def geU (D:Nat->Nat->Nat) (n:Nat):Nat->List Nat->Option (List Nat)
 | 0,ys=>some ys
 | k+1,ys=>if q0I (fQ 0 (upZ D ys n k) (ofZ (D k k))) then geU D n k (ys.set k (fQ 0 (upZ D ys n k) (ofZ (D k k)))) else none
def qgs {D:Nat->Nat->Nat} {n:Nat}:∀ (m k:Nat) (ys zs:List Nat),ys.length=n->q0b ys->geL D m k ys=some zs->zs.length=n/\q0b zs
 | 0,k,ys,zs,h1,h2,h=>by unfold geL at h; cases h; exact ⟨h1,h2⟩
 | m+1,k,ys,zs,h1,h2,h=>by
  unfold geL at h
  split at h
  .exact qgs m _ _ zs (by simpa using h1) (q5g h2 q2e (by assumption)) h
  .cases h
def qgr {D:Nat->Nat->Nat} {n:Nat} (hD:∀ k,k < n->ofZ (D k k)≠0):∀ (k:Nat) (ys zs:List Nat),k<=n->ys.length=n->q0b ys->geU D n k ys=some zs->zs.length=n/\q0b zs
 | 0,ys,zs,_,h1,h2,h=>by unfold geU at h; cases h; exact ⟨h1,h2⟩
 | k+1,ys,zs,hk,h1,h2,h=>by
  unfold geU at h
  split at h
  .exact qgr hD k _ zs ω (by simpa using h1) (q5g h2 (qhX (hD k ω)) (by assumption)) h
  .cases h
def q9E (x:Int) (l:List Int):q1R (x :: l)=x+q1R l:=by
 have:∀ (l:List Int) (a:Int),l.foldl (·+·) a=a+l.foldl (·+·) 0:=λl=>by
  induction l with
  | nil=>intro a; simp
  | cons y l ih=>intro a; simp only [xA]; rw [ih (a+y),ih (0+y)]; omega
 unfold q1R;rw [xA,this]; omega
def qf5 {B:Int} {l x:List Nat}:∀ m,q1R (q9O B l x m)=B-sg (λi=>q1W (l.getD i 0) (x.getD i 0)) m
 | 0=>by rw [q9O,q28]; unfold sg; omega
 | m+1=>by rw [q9O,q0m,qf5 m,show sg (λi=>q1W (l.getD i 0) (x.getD i 0)) (m+1)=sg (λi=>q1W (l.getD i 0) (x.getD i 0)) m+q1W (l.getD m 0) (x.getD m 0) from rfl]; omega
def ctV (L:List (Nat × Nat)) (r:Nat):Nat:=((L.find? λe=>e.1 == r).map (·.2)).getD 0
structure ColS (n:Nat) (st ix:List Int) (vs:List Nat) (E:Nat->List (Nat × Nat)):Prop where
 len:ix.length<=1000000
 col:∀ k,k < n->∃ a:Nat,st[k]?=some (a:Int)/\st[k+1]?=some ((a+(E k).length:Nat):Int)/\a+(E k).length<=ix.length/\∀ (t:Nat) (e:Nat × Nat),(E k)[t]?=some e->ix[a+t]?=some (e.1:Int)/\vs[a+t]?=some e.2/\e.1 < n/\q0I e.2/\e.2 < 18446744073709551616
 nd:∀ k,k < n->((E k).map (·.1)).Nodup
 sz:∀ k,k < n->(E k).length<=n
def dnH (n a c:Nat) (gl gu:Nat->Nat->Nat):Hp:=q1V 25 33 none 6000 10000 a (rU n gl) (q1V 25 33 none 6002 30000 c (rU n gu) h0)
def dnD (t:Nat):Nat->Nat->Nat:=λi j=>if i=j/\i < t then 4607182418800017408 else 0
def enS (g:Nat->Nat->Nat) (k:Nat):List (Nat × Nat)->Nat->Nat->Nat
 | []=>g
 | e :: l=>enS (q3s g e.1 k e.2) k l
def dnT (g:Nat->Nat->Nat) (E:Nat->List (Nat × Nat)):Nat->Nat->Nat->Nat
 | 0=>g
 | k+1=>enS (dnT g E k) k (E k)
def qbC {k:Nat} {e:Nat × Nat}:∀ (l:List (Nat × Nat)) (g:Nat->Nat->Nat),enS g k (l ++ [e])=q3s (enS g k l) e.1 k e.2
 | [],_=>rfl
 | _ :: l,_=>qbC l _
def dnD_0 {n:Nat} {t:Nat}:rU n (dnD t) t=rU n (λ_ _=>0) t:=by
 unfold rU dnD;refine zS λc _=>?_;rw [if_neg ω]
def dnD_s {t:Nat}:q3s (dnD t) t t 4607182418800017408=dnD (t+1):=by
 funext i j
 unfold q3s dnD
 by_cases h:i=t/\j=t
 .rw [if_pos h,if_pos ω]
 .rw [if_neg h]
  by_cases h2:i=j/\i < t
  .rw [if_pos h2,if_pos ω]
  .rw [if_neg h2,if_neg ω]
section
variable {n a c:Nat} {gl gu:Nat->Nat->Nat}
def q38 (ha:a<=100) (hc:c<=100):BOk (dnH n a c gl gu) win:=by
 unfold dnH;have w:∀ R j m:Nat,5000<=R->R<=40000->m<=100->j < m->win (j+R):=λR j m h1 h2 h3 h4=>⟨ω,ω⟩;exact q1P (q1P BOk.h0 (λ_ _=>q7S) Oq ⟨⟨ω,ω⟩,λj hj=>w _ j _ Oq Oq hc hj⟩) (λ_ _=>q7S) Oq ⟨⟨ω,ω⟩,λj hj=>w _ j _ Oq Oq ha hj⟩
def qoJ {q:Nat->Prop} (hq:∀ i,10000<=i->q i):HId q (dnH n a c gl gu):=by
 unfold dnH;exact q6i (q6i qb2 (λ_ _=>q7S) λj _=>hq _ Oq) (λ_ _=>q7S) λj _=>hq _ Oq
def qyd {i:Nat} (hi:i < 6000):dnH n a c gl gu i=none:=by
 unfold dnH;rw [q0O ω ω,q0O ω ω]
 rfl
def qoI:dnH n a c gl gu 6000=some ⟨25,none,(List.range a).map λj=>.ow (j+10000) none 0 n,false⟩:=by
 unfold dnH; rw [q1H]; simp
def q2A (ha:a<=100):dnH n a c gl gu 6002=some ⟨25,none,(List.range c).map λj=>.ow (j+30000) none 0 n,false⟩:=by
 unfold dnH; rw [q0O ω ω,q1H]; simp
def qhg {j:Nat} (hj:j < a):dnH n a c gl gu (j+10000)=some ⟨33,none,rU n gl j,false⟩:=by
 unfold dnH; rw [q1F ω hj]
def qck {j:Nat} (ha:a<=100) (hj:j < c):dnH n a c gl gu (j+30000)=some ⟨33,none,rU n gu j,false⟩:=by
 unfold dnH; rw [q0O ω ω,q1F ω hj]
def qye {r m v:Nat} (hr:r < a):q0R (dnH n a c gl gu) (r+10000) ⟨33,none,(rU n gl r).set m (.vl (.int .u64 (v:Nat))),false⟩=dnH n a c (q3s gl r m v) gu:=by
 unfold dnH;rw [q3O ω hr σ,qcA]
def dnH_u {r m v:Nat} (ha:a<=100) (hr:r < c):q0R (dnH n a c gl gu) (r+30000) ⟨33,none,(rU n gu r).set m (.vl (.int .u64 (v:Nat))),false⟩=dnH n a c gl (q3s gu r m v):=by
 unfold dnH;rw [q27 ω ω,q3O ω hr σ,qcA]
def qyc {i:Nat} {x:Bk} (hb:dnH n 0 0 gl gu i=some x):x.xs=[]:=by
 unfold dnH at hb
 rcases q0j hb with ⟨rfl,rfl⟩ | ⟨_,h1,h2,_⟩ | ⟨_,_,hb⟩
 .rfl
 .omega
 rcases q0j hb with ⟨rfl,rfl⟩ | ⟨_,h1,h2,_⟩ | ⟨_,_,hb⟩
 .rfl
 .omega
 .cases hb
def qyg:q6p (dnH n n n gl gu) n 10000 none (λ_=>n)=some ((List.range n).map λj=>.sl none (rU n gl j),(List.range n).map (·+10000)):=by
 unfold dnH;rw [q69 ω,cO,if_pos λj _=>q7S]
 congr 2
 refine zS λj _=>?_
 congr 1
 exact qaV
def qyf (hn:n<=100):q6p (dnH n n n gl gu) n 30000 none (λ_=>n)=some ((List.range n).map λj=>.sl none (rU n gu j),(List.range n).map (·+30000)):=by
 unfold dnH;rw [q5Q ω ω,q69 ω,cO,if_pos λj _=>q7S]
 congr 2
 refine zS λj _=>?_
 congr 1
 exact qaV
attribute [go_sem ↓] qyd qoI qhg qck
def qlk {f:LUt} {EL EU:Nat->List (Nat × Nat)} (hr:f.rows.length=n) (hn:n<=100) (hL:ColS n f.ls f.li f.lv EL) (hU:ColS n f.us f.ui f.uv EU):ACt 305 [pLU f] (.tu [tU n (dnT (dnD n) EL n),tU n (dnT (λ_ _=>0) EU n)]):=by
 obtain ⟨ro,co,ls,li,lv,us,ui,vu⟩:=f;unfold pLU;dsimp only at *;refine ac0 Tryz.func305 Tryz.ntmps305 [.tmp 2,.tmp 3] ?_;refine wk1 hr ?_;refine q0r (LeT (hw:=dnH n 0 0 (dnD 0) λ_ _=>0) tnW (λ_ h=>h.elim) (λi hi hw=>?_) (λi b hw hb=>?_) (λi j x hi hj ti tj=>?_) (xs:=[(1,.pt 1 0 0),(4,iv n),(5,.ow 6000 none 0 0),(6,.ow 6002 none 0 0),(7,iv 0)]) (kv:=[]) (bs:=[(1,⟨99,some 8,[.ag [pI ro,pI co,pI ls,pI li,pF lv,pI us,pI ui,pF vu]],false⟩)]) (kb:=[]) ?_) ?_
 .simp at hi;unfold win at hw;omega
 .unfold LeB;rw [q5I hw.1 hw.2];exact qyc hb
 .unfold tnW at ti tj
  split at ti <;> split at tj <;> cases ti <;> cases tj <;> rfl
 .try refine Zz ?_
  exact ⟨_,q2A Oq,rfl⟩
 refine q0P (λt=>t<=n) [1,4] [1] Lk Lk (λt:Nat=>[(5,.ow 6000 none 0 t),(6,.ow 6002 none 0 t),(7,iv t)]) (λ_=>[]) (λt=>dnH n t t (dnD t) λ_ _=>0) (λt=>n-t) 0 (zC _) ?_ ?_
 .refine LeW [] rfl rfl ?_ ?_ (by simp [q0i,q0c,win]) ?_
  .exact Ow
  .exact q1X (q38 Oq Oq)
  .try refine Zz ?_
   exact ⟨⟨_,q2A Oq⟩,rfl⟩
 .intro t ht
  by_cases hlt:t < n
  .have hlt':(t:Int) < n:=ω
   have rt:(List.range t ++ [t])[t]?=some t:=σ
   have hset:((rU n (dnD t) t).set t (uv (4607182418800017408:Nat)))=(rU n (dnD t) t).set t (PV.vl (.int .u64 (4607182418800017408:Nat))):=rfl;refine wk1 hlt' ?_;refine q0r (q1s (T1:=25) (T2:=33) (K:=none) (N:=6000) (R:=10000) (n:=t) (o:=23) (r:=21) (l:=(rU n (dnD t)) t) (hw:=dnH n t t (dnD t) λ_ _=>0) (hw':=dnH n (t+1) t (dnD t) λ_ _=>0) (λ_ h=>h) q7S (λ_=>n) ?_ ?_ (λi h1 h2=>?_) qoI (qhg Oq) (λi h1 h2=>q1G h1 h2) (λj hj=>by
    rw [qhg ω];exact yH _) (q38 ω ω) (qoJ λi hi=>by omega) ?_ ω ω ω ω ω ω (xs:=[(1,.pt 1 0 0),(4,iv n),(5,.ow 6000 none 0 (t+1)),(6,.ow 6002 none 0 t),(7,iv t)]) (kv:=[]) (bs:=[(1,⟨99,some 8,[.ag [pI ro,pI co,pI ls,pI li,pF lv,pI us,pI ui,pF vu]],false⟩)]) (kb:=[]) (by simp [nmW]) ?_) ?_
   .try simp -implicitDefEqProofs (disch:=omega) only [go_sem,Nat.reduceEqDiff,Nat.reduceAdd,↓reduceIte]
   .try refine Zz ?_
    rw [dnD_0,qjm (j:=t)]
   .obtain ⟨w1,w2⟩:=h1
    repeat rw [q0B ω]
    rw [q0W ⟨w1,w2⟩]
   .unfold dnH;rw [q0O ω ω,q0O ω ω]
    rfl
   .try refine Zz ?_
    exact ⟨_,q2A Oq⟩
   have h2o:dnH n (t+1) t (dnD t) (λ_ _=>0) 6002=some ⟨25,none,(List.range t).map λj=>.ow (j+30000) none 0 n,false⟩:=q2A Oq;refine wk1 h2o ?_;clear h2o;refine q0r (q1s (T1:=25) (T2:=33) (K:=none) (N:=6002) (R:=30000) (n:=t) (o:=28) (r:=26) (l:=(rU n λ_ _=>0) t) (hw:=dnH n (t+1) t (dnD t) λ_ _=>0) (hw':=dnH n (t+1) (t+1) (dnD t) λ_ _=>0) (λ_ h=>h) q7S (λ_=>n) ?_ ?_ (λi h1 h2=>?_) (q2A Oq) (qck Oq Oq) (λi h1 h2=>q1t (q1G h1 h2)) (λj hj=>by
    rw [qck ω ω];exact yH _) (q38 ω ω) (qoJ λi hi=>by omega) ?_ ω ω ω ω ω ω (xs:=[(1,.pt 1 0 0),(4,iv n),(5,.ow 6000 none 0 (t+1)),(6,.ow 6002 none 0 (t+1)),(7,iv t)]) (kv:=[]) (bs:=[(1,⟨99,some 8,[.ag [pI ro,pI co,pI ls,pI li,pF lv,pI us,pI ui,pF vu]],false⟩)]) (kb:=[]) (by simp [nmW]) ?_) ?_
   .try simp -implicitDefEqProofs (disch:=omega) only [go_sem,Nat.reduceEqDiff,Nat.reduceAdd,↓reduceIte]
   .try refine Zz ?_
    rw [qjm (j:=t)]
   .obtain ⟨w1,w2⟩:=h1
    repeat rw [q0B ω]
    rw [q0W ⟨w1,w2⟩]
   .unfold dnH;rw [q0O ω ω,q0O ω ω]
    rfl
   .try refine Zz ?_
    exact ⟨_,q2A Oq⟩
   refine wk1 rt ?_;refine ⟨t+1,ω,ω,?_⟩;refine LeW [] rfl rfl ?_ ?_ (by simp [q0i,q0c,win]) ?_
   .exact q8a (q46 q3K) ((qye ω).trans (by rw [dnD_s]))
   .exact q1X (q38 Oq Oq)
   .try refine Zz ?_
    exact ⟨⟨_,q2A Oq⟩,rfl⟩
  .obtain rfl:n=t:=ω
   have hlt':¬ (n:Int) < n:=ω
   refine wk1 hlt' ?_;obtain ⟨g0,hg0⟩:∃ g,g=dnD n:=⟨_,rfl⟩;rw [<- hg0];clear hg0 ht;refine q0P (λk=>k<=n) [1,4,5,6] [1] Lk Lk (λk:Nat=>[(8,iv k)]) (λ_=>[]) (λk=>dnH n n n (dnT g0 EL k) (dnT (λ_ _=>0) EU k)) (λk=>n-k) 0 (zC _) ?_ ?_
   .refine LeW [] rfl rfl ?_ ?_ (by simp [q0i,q0c,win]) ?_
    .exact Ow
    .exact q1X (q38 Oq Oq)
    .try refine Zz ?_
     exact ⟨rfl,_,q2A Oq⟩
   .intro k hk
    by_cases hkn:k < n
    .have hkn':(k:Int) < n:=ω
     have rk:(List.range n)[k]?=some k:=zG hkn;have wj:(k:Int)+1=((k+1:Nat):Int):=rfl;obtain ⟨a,l1,l2,l3,l4⟩:=hL.col k hkn;obtain ⟨c,u1,u2,u3,u4⟩:=hU.col k hkn;have hlb:=hL.len;have hub:=hU.len;have dL:dnT g0 EL (k+1)=enS (dnT g0 EL k) k (EL k):=rfl;have dU:dnT (λ_ _=>0) EU (k+1)=enS (dnT (λ_ _=>0) EU k) k (EU k):=rfl;generalize dnT g0 EL k=gl at *;generalize dnT (λ_ _=>0) EU k=gu at *;generalize EL k=el at *;generalize EU k=eu at *;refine wk1 (x2 hkn' l1) ?_;refine q0P (λt=>t<=el.length) [1,4,5,6,8] [1] Lk Lk (λt:Nat=>[(9,iv (a+t:Nat))]) (λ_=>[]) (λt=>dnH n n n (enS gl k (el.take t)) gu) (λt=>el.length-t) 0 (zC _) ?_ ?_
     .refine LeW [] rfl rfl ?_ ?_ (by simp [q0i,q0c,win]) ?_
      .exact Ow
      .exact q1X (q38 Oq Oq)
      .try refine Zz ?_
       exact ⟨_,q2A Oq⟩
     .intro t ht
      by_cases hlt:t < el.length
      .obtain ⟨e,he⟩:∃ e,el[t]?=some e:=⟨_,zA hlt⟩;obtain ⟨y1,y2,y3,y4,y5⟩:=l4 t e he;have hlt':((a+t:Nat):Int) < ((a+el.length:Nat):Int):=ω
       have re:(List.range n)[e.1]?=some e.1:=zG y3;obtain ⟨p,hp⟩:∃ p,p=a+t:=⟨_,rfl⟩;rw [<- hp] at y1 y2 hlt' ⊢;refine wk1 (x6 wj l2 hlt' y1 y2 re) ?_;refine ⟨t+1,ω,ω,?_⟩;rw [List.take_add_one,he,xL,qbC];refine LeW [] rfl rfl ?_ ?_ (by simp [q0i,q0c,win]) ?_
       .exact q8a (q46 q3K) (qye y3)
       .exact q1X (q38 Oq Oq)
       .try refine Zz ?_
        exact ⟨ω,_,q2A Oq⟩
      .obtain rfl:t=el.length:=ω
       obtain ⟨b,hb⟩:∃ b,b=a+el.length:=⟨_,rfl⟩;have hlt':¬ (b:Int) < b:=ω
       rw [zL];rw [<- hb] at l2 ⊢;refine wk1 (x4 wj l2 hlt' u1) ?_;refine q0P (λt=>t<=eu.length) [1,4,5,6,8] [1] Lk Lk (λt:Nat=>[(10,iv (c+t:Nat))]) (λ_=>[]) (λt=>dnH n n n (enS gl k el) (enS gu k (eu.take t))) (λt=>eu.length-t) 0 (zC _) ?_ ?_
       .refine LeW [] rfl rfl ?_ ?_ (by simp [q0i,q0c,win]) ?_
        .exact Ow
        .exact q1X (q38 Oq Oq)
        .try refine Zz ?_
         exact ⟨_,q2A Oq⟩
       .intro t ht;have ho2:=q2A (n:=n) (a:=n) (c:=n) (gl:=enS gl k el) (gu:=enS gu k (eu.take t)) Oq
        by_cases hlt:t < eu.length
        .obtain ⟨e,he⟩:∃ e,eu[t]?=some e:=⟨_,zA hlt⟩;obtain ⟨y1,y2,y3,y4,y5⟩:=u4 t e he;have hlt':((c+t:Nat):Int) < ((c+eu.length:Nat):Int):=ω
         have re:(List.range n)[e.1]?=some e.1:=zG y3;have hr2:=qck (n:=n) (a:=n) (c:=n) (gl:=enS gl k el) (gu:=enS gu k (eu.take t)) (j:=e.1) Oq y3;obtain ⟨p,hp⟩:∃ p,p=c+t:=⟨_,rfl⟩;rw [<- hp] at y1 y2 hlt' ⊢;refine wk1 (x6 wj u2 hlt' y1 y2 (x3 re ho2 hr2)) ?_;refine ⟨t+1,ω,ω,?_⟩;rw [List.take_add_one,he,xL,qbC];refine LeW [] rfl rfl ?_ ?_ (by simp [q0i,q0c,win]) ?_
         .exact q8a (q46 q3K) (dnH_u Oq y3)
         .exact q1X (q38 Oq Oq)
         .try refine Zz ?_
          exact ⟨ω,_,q2A Oq⟩
        .obtain rfl:t=eu.length:=ω
         obtain ⟨d,hd⟩:∃ d,d=c+eu.length:=⟨_,rfl⟩;have hlt':¬ (d:Int) < d:=ω
         rw [zL] at ho2 ⊢;rw [<- hd] at u2 ⊢;refine wk1 (x3 wj u2 hlt') ?_;refine ⟨k+1,ω,ω,?_⟩;rw [dL,dU];refine LeW [] rfl rfl ?_ ?_ (by simp [q0i,q0c,win]) ?_
         .exact Ow
         .exact q1X (q38 Oq Oq)
         .try refine Zz ?_
          exact ⟨_,q2A Oq⟩
    .obtain rfl:n=k:=ω
     have hlt':¬ (n:Int) < n:=ω
     generalize dnT g0 EL n=gl at *;generalize dnT (λ_ _=>0) EU n=gu at *;have ho2:=q2A (n:=n) (a:=n) (c:=n) (gl:=gl) (gu:=gu) Oq;have hc2:=qyf (gl:=gl) (gu:=gu) hn;have hc0:=qyg (n:=n) (gl:=gl) (gu:=gu);exact wk1 (x4 hlt' hc0 ho2 hc2) trivial
end
def qaI (st ix:List Int) (vs:List Nat) (k:Nat):List (Nat × Nat):=(List.range ((st.getD (k+1) 0).toNat-(st.getD k 0).toNat)).map λt=>((ix.getD ((st.getD k 0).toNat+t) 0).toNat,vs.getD ((st.getD k 0).toNat+t) 0)
def q8g {l:List Int} (h:qdN l):∀ (d i:Nat) (x y:Int),l[i]?=some x->l[i+d+1]?=some y->x < y
 | 0,i,x,y,hx,hy=>h i x y hx hy
 | d+1,i,x,y,hx,hy=>by
  obtain ⟨z,hz⟩:∃ z,l[i+d+1]?=some z:=⟨_,zA (by have:=(zJ.1 hy).1; omega)⟩;have h1:=q8g h d i x z hx hz;have h2:=h (i+d+1) z y hz hy;omega
def q8h {l:List Int} (h:qdN l) {lo:Int} (h0:∀ z,l[0]?=some z->lo<=z):∀ (t:Nat) (z:Int),l[t]?=some z->lo+t<=z
 | 0,z,hz=>by have:=h0 z hz; omega
 | t+1,z,hz=>by
  obtain ⟨y,hy⟩:∃ y,l[t]?=some y:=⟨_,zA (by have:=(zJ.1 hz).1; omega)⟩;have h1:=q8h h h0 t y hy;have h2:=h t y z hy hz;omega
def qte {l:List Int} (h:qdN l) {t:Nat} {z y:Int} (hz:l[t]?=some z) (hy:l[l.length-1]?=some y):z<=y:=by
 have ht:=(zJ.1 hz).1
 by_cases e:t=l.length-1
 .rw [e,hy] at hz; cases hz; exact xS _
 .exact Int.le_of_lt (q8g h (l.length-1-t-1) t z y hz (by rw [<- hy]; congr 1; omega))
section
variable {n:Nat} {st ix:List Int} {vs:List Nat} {G:Nat->List Int->Prop}
def q3h {ix:List Int} {a b t:Nat} (ht:a+t < b):((ix.take b).drop a)[t]?=ix[a+t]?:=by
 rw [yR,yI,if_pos ht]
def q8Z {a b k:Nat} (h1:st[k]?=some (a:Int)) (h2:st[k+1]?=some (b:Int)):qaI st ix vs k=(List.range (b-a)).map λt=>((ix.getD (a+t) 0).toNat,vs.getD (a+t) 0):=by
 unfold qaI;rw [getD_some h1,getD_some h2,zU,zU]
def qhx (h:CmpOk n st ix G) (hl:ix.length=vs.length) (hf:∀ x ∈ vs,q0I x) (hu:∀ x ∈ vs,x < 18446744073709551616) (hix:ix.length<=1000000) (hG:∀ k l,k < n->qdN l->G k l->(∀ z,l[0]?=some z->0<=z)/\∀ z,l[l.length-1]?=some z->z < n):ColS n st ix vs (qaI st ix vs):=by
 refine ⟨hix,λk hk=>?_,λk hk=>?_,λk hk=>?_⟩
 all_goals
  obtain ⟨a,b,h1,h2,h3,h4,h5,h6⟩:=h.col k hk;obtain ⟨g1,g2⟩:=hG k _ hk h5 h6;rw [q8Z h1 h2];have hll:((ix.take b).drop a).length=b-a:=by rw [yF,zR]; omega
  have hb:∀ t,t < b-a->∃ z:Nat,ix[a+t]?=some (z:Int)/\t<=z/\z < n:=λt ht=>by
   obtain ⟨z,hz⟩:∃ z,ix[a+t]?=some z:=⟨_,zA Oq⟩;have hz2:=(q3h (ix:=ix) (a:=a) (b:=b) (t:=t) Oq).trans hz;have q1:=q8h h5 g1 t z hz2;obtain ⟨y,hy⟩:∃ y,((ix.take b).drop a)[((ix.take b).drop a).length-1]?=some y:=⟨_,zA Oq⟩;have q2:=qte h5 hz2 hy;have q3:=g2 y hy;exact ⟨z.toNat,by rw [Int.toNat_of_nonneg ω]; exact hz,ω,ω⟩
 .refine ⟨a,h1,?_,?_,λt e he=>?_⟩
  .rw [h2,zE,zX]; congr 1; omega
  .rw [zE,zX]; omega
  .have ht:t < b-a:=by have:=(zJ.1 he).1; simpa using this
   rw [zH,zG ht,yN] at he;cases he;obtain ⟨z,z1,z2,z3⟩:=hb t ht;obtain ⟨v,hv⟩:∃ v,vs[a+t]?=some v:=⟨_,zA Oq⟩;simp only [getD_some z1,getD_some hv,zU];exact ⟨z1,hv,z3,hf v (zB hv),hu v (zB hv)⟩
 .rw [y8];unfold List.Nodup;rw [List.pairwise_iff_getElem];intro i j hi hj hij;simp at hi hj;obtain ⟨z,z1,_⟩:=hb i hi;obtain ⟨y,y1,_⟩:=hb j hj;simp only [List.getElem_map,List.getElem_range,Function.comp_apply,getD_some z1,getD_some y1,zU];have:=q8g h5 (j-i-1) i z y ((q3h ω).trans z1) ((q3h ω).trans (by rw [<- y1]; congr 1; omega));omega
 .rw [zE,zX]
  by_cases e:b-a=0
  .omega
  .obtain ⟨z,z1,z2,z3⟩:=hb (b-a-1) Oq;omega
end
def qhs {L:List (Nat × Nat)} {t:Nat} {e:Nat × Nat} (h:(L.map (·.1)).Nodup) (he:L[t]?=some e):ctV L e.1=e.2:=by
 induction L generalizing t with
 | nil=>simp at he
 | cons d L ih =>
  rw [xK,List.nodup_cons] at h;cases t with
  | zero =>
   rw [List.getElem?_cons_zero] at he;cases he;unfold ctV;rw [xB,show (e.1 == e.1)=true by simp]; rfl
  | succ t =>
   rw [List.getElem?_cons_succ] at he;have hne:d.1≠e.1:=λq=>h.1 (by rw [q]; exact yO (zB he));unfold ctV;rw [xB,show (d.1 == e.1)=false by simpa using hne];exact ih h.2 he
def qh7 {k:Nat}:∀ (l:List (Nat × Nat)) (g:Nat->Nat->Nat) (i j:Nat),(l.map (·.1)).Nodup->enS g k l i j=if j=k then ((l.find? λe=>e.1 == i).map (·.2)).getD (g i j) else g i j
 | [],g,i,j,_=>by unfold enS; simp
 | e :: l,g,i,j,h=>by
  rw [xK,List.nodup_cons] at h;rw [enS,qh7 l _ i j h.2]
  by_cases hj:j=k
  .rw [if_pos hj,if_pos hj,xB]
   by_cases he:e.1=i
   .have h0:(l.find? λe=>e.1 == i)=none:=List.find?_eq_none.2 λd hd hq=>h.1 (by rw [he,<- (by simpa using hq:d.1=i)]; exact yO hd);rw [h0,show (e.1 == i)=true by simpa using he];simp [q3s,hj,he]
   .rw [show (e.1 == i)=false by simpa using he];simp only [q3s];rw [if_neg λq=>he q.1.symm]
  .rw [if_neg hj,if_neg hj];unfold q3s;rw [if_neg λq=>hj q.2]
def qbG {g:Nat->Nat->Nat} {E:Nat->List (Nat × Nat)}:∀ (m i j:Nat),(∀ k,k < m->((E k).map (·.1)).Nodup)->dnT g E m i j=if j < m then (((E j).find? λe=>e.1 == i).map (·.2)).getD (g i j) else g i j
 | 0,i,j,_=>by rw [dnT,if_neg ω]
 | m+1,i,j,h=>by
  rw [dnT,qh7 _ _ _ _ (h m ω),qbG m i j λk hk=>h k ω]
  by_cases hj:j=m
  .subst hj;rw [if_pos rfl,if_neg ω,if_pos ω]
  .rw [if_neg hj]
   by_cases h2:j < m
   .rw [if_pos h2,if_pos ω]
   .rw [if_neg h2,if_neg ω]
def dnL_v {n:Nat} {E:Nat->List (Nat × Nat)} (h:∀ k,k < n->((E k).map (·.1)).Nodup) {i j:Nat} (hj:j < n) (hij:j < i):dnT (dnD n) E n i j=ctV (E j) i:=by
 rw [qbG n i j h,if_pos hj];unfold ctV dnD;rw [if_neg ω]
def dnU_v {n:Nat} {E:Nat->List (Nat × Nat)} (h:∀ k,k < n->((E k).map (·.1)).Nodup) {i j:Nat} (hj:j < n):dnT (λ_ _=>0) E n i j=ctV (E j) i:=by
 rw [qbG n i j h,if_pos hj]
 rfl
def qht {n:Nat} {st ix:List Int} {vs:List Nat} {E:Nat->List (Nat × Nat)} (h:ColS n st ix vs E) {i j:Nat} (hj:j < n):ctV (E j) i < 18446744073709551616/\q0I (ctV (E j) i):=by
 unfold ctV;cases hf:(E j).find? λe=>e.1 == i with
 | none=>exact ⟨σ,by unfold q0I; simp⟩
 | some e =>
  obtain ⟨t,ht⟩:=z9.1 (List.mem_of_find?_eq_some hf);obtain ⟨a,_,_,_,h4⟩:=h.col j hj;obtain ⟨_,_,_,h5,h6⟩:=h4 t e ht;exact ⟨h6,h5⟩
structure LUok (f:LUt) (n:Nat):Prop where
 b:LUb f
 rl:f.rows.length=n
 n2:n<=200
 rp:q34 f.rows n
 cp:q34 f.cols n
 sl:f.ls.length=n+1
 su:f.us.length=n+1
 L:ColS n f.ls f.li f.lv (qaI f.ls f.li f.lv)
 U:ColS n f.us f.ui f.uv (qaI f.us f.ui f.uv)
 gt:∀ k,k < n->∀ e ∈ qaI f.ls f.li f.lv k,k < e.1
 le:∀ k,k < n->∀ e ∈ qaI f.us f.ui f.uv k,e.1<=k
 dg:∀ k,k < n->∃ m x,qaI f.us f.ui f.uv k=m ++ [(k,x)]/\ofZ x≠0/\∀ e ∈ m,e.1 < k
def qic {f:LUt} (hb:LUb f) (h:q6q f=0):LUok f f.rows.length:=by
 unfold q6q at h
 split at h
 .cases h
 split at h
 .cases h
 rename_i hn hp
 split at h
 .cases h
 rename_i hls
 split at h
 .cases h
 rename_i hst
 split at h
 .rename_i hf;obtain ⟨f1,f2,f3⟩:=hf;have hp:=Classical.not_not.1 hp;obtain ⟨s1,s2,s3,s4⟩:=Classical.not_not.1 hls;have hst:=Classical.not_not.1 hst;obtain ⟨c1,c2⟩:=hst;have L:=qhx (vs:=f.lv) c1 s3 f1 hb.hl hb.li λk l hk ha hg=>⟨λz hz=>by have:=hg.1 z hz; omega,hg.2⟩;have U:=qhx (vs:=f.uv) c2 s4 f2 hb.hu hb.ui λk l hk ha hg=>⟨hg.1,λz hz=>by have:=hg.2.symm.trans hz; cases this; omega⟩;have hgt:∀ k,k < f.rows.length->∀ e ∈ qaI f.ls f.li f.lv k,k < e.1:=λk hk e he=>by
   obtain ⟨a,b,h1,h2,h3,h4,h5,h6⟩:=c1.col k hk;rw [q8Z h1 h2] at he;obtain ⟨t,ht,rfl⟩:=zK.1 he;have ht:=zP.1 ht;obtain ⟨z,hz⟩:∃ z,f.li[a+t]?=some z:=⟨_,zA Oq⟩;have:=q8h h5 (lo:=(k:Int)+1) (λz hz=>by have:=h6.1 z hz; omega) t z ((q3h Oq).trans hz);simp only [getD_some hz];omega
  have hU:∀ k,k < f.rows.length->∃ m x,qaI f.us f.ui f.uv k=m ++ [(k,x)]/\ofZ x≠0/\∀ e ∈ m,e.1 < k:=λk hk=>by
   obtain ⟨a,b,h1,h2,h3,h4,h5,h6⟩:=c2.col k hk;have hll:((f.ui.take b).drop a).length=b-a:=by rw [yF,zR]; omega
   have hlast:=h6.2;have hab:a < b:=by
    rcases Nat.lt_or_ge a b with q | q
    .exact q
    .rw [yK ω] at hlast; cases hlast
   rw [hll,q3h ω] at hlast;obtain ⟨x,hx⟩:∃ x,f.uv[b-1]?=some x:=⟨_,zA Oq⟩;rw [show a+(b-a-1)=b-1 by omega] at hlast;refine ⟨(List.range (b-a-1)).map λt=>((f.ui.getD (a+t) 0).toNat,f.uv.getD (a+t) 0),x,?_,f3 k hk (b-1) x (by rw [h2]; congr 1; omega) hx,λe he=>?_⟩
   .rw [q8Z h1 h2,show b-a=(b-a-1)+1 by omega,zY,zD,uX,show a+(b-a-1)=b-1 by omega,getD_some hlast,getD_some hx,zU]
    rfl
   .obtain ⟨t,ht,rfl⟩:=zK.1 he;have ht:=zP.1 ht;obtain ⟨z,hz⟩:∃ z,f.ui[a+t]?=some z:=⟨_,zA Oq⟩;have hz2:=(q3h (ix:=f.ui) (a:=a) (b:=b) (t:=t) Oq).trans hz;have q1:=q8h h5 h6.1 t z hz2;have q2:=q8g h5 (b-a-1-t-1) t z k hz2 ((q3h ω).trans (by rw [<- hlast]; congr 1; omega));simp only [getD_some hz];omega
  refine ⟨hb,rfl,ω,hp.1,hp.2,s1,s2,L,U,hgt,λk hk e he=>?_,hU⟩;obtain ⟨m,x,m1,m2,m3⟩:=hU k hk;rw [m1] at he
  rcases zQ.1 he with he | he
  .exact Nat.le_of_lt (m3 e he)
  .rw [List.mem_singleton.1 he]; exact z6 _
 .cases h
end Go.Proofs.YtpbaikoblfcmdaaGreatDoor
namespace Go.E
open Go Go.RowKit
section
variable {T1 T2:TypeId} {K:Kd} {N R n:Nat} {row:Nat->List PV}
def qmi:qev T1 T2 K N R n row=q1V T1 T2 K N R n row h0:=rfl
end
end Go.E
namespace Go.Proofs.YtpbaikoblfcmdaaGreatDoor
open Go Go.E Go.Sp
abbrev q7a (n:Nat) (rows:Nat->List Int):Hp:=q1V 39 48 (some 4) 5000 10000 n (qfa rows) h0
def q1Q {n:Nat} {rows:Nat->List Int} (hn:n<=1000):BOk (q7a n rows) win:=q1P BOk.h0 (λ_ _=>clV) Oq ⟨⟨ω,ω⟩,λj hj=>⟨ω,ω⟩⟩
def wfB {H:Hp} (h:BOk H win):WfH H:=⟨λi b hb=>⟨(h.b i b hb).2.1,IdL_mono (λj hj=>by
 obtain ⟨c,hc⟩:=yA.1 hj;exact ⟨(h.b j c hc).1,hj⟩) _ (h.b i b hb).2.2⟩⟩
section
variable {b:List Nat} {n:Nat} {rows:Nat->List Int}
def bgR (b:List Nat) (k:Nat):Nat->List Int:=λj=>if j < k then [ofZ (b.getD j 0)] else []
end
def psG (g:Nat->Int):List (Nat × Nat)->(Nat->List Int)->Nat->List Int
 | [],rows=>rows
 | e :: L,rows=>psG g L (q5T rows e.1 (-(g e.2)))
def ctG (g:Nat->Int) (L:List (Nat × Nat)) (r:Nat):Int:=q1R (L.map λe=>if e.1=r then g e.2 else 0)
def qfx {g:Nat->Int}:∀ (A B:List (Nat × Nat)) (rows:Nat->List Int),psG g (A ++ B) rows=psG g B (psG g A rows)
 | [],_,_=>rfl
 | e :: A,B,rows=>by rw [List.cons_append,psG,psG,qfx A B]
def psG_s {g:Nat->Int} {t:Nat} {L:List (Nat × Nat)} {e:Nat × Nat} {rows:Nat->List Int} (he:L[t]?=some e):psG g (L.take (t+1)) rows=q5T (psG g (L.take t) rows) e.1 (-(g e.2)):=by
 rw [q1l he,qfx]; rfl
def qfw {g:Nat->Int} {r:Nat}:∀ (L:List (Nat × Nat)) (rows:Nat->List Int),q1R (psG g L rows r)=q1R (rows r)-ctG g L r
 | [],rows=>by unfold psG ctG; rw [xO,q3P]; omega
 | e :: L,rows=>by
  rw [psG,qfw L,qe4];have:ctG g (e :: L) r=(if e.1=r then g e.2 else 0)+ctG g L r:=by unfold ctG; rw [xK,q9E]
  rw [this]
  by_cases h:r=e.1
  .rw [if_pos h,if_pos h.symm]; omega
  .rw [if_neg h,if_neg λq=>h q.symm]; omega
def qnZ {g:Nat->Int}:∀ (L:List (Nat × Nat)) (rows:Nat->List Int) (m:Nat),(∀ e ∈ L,bl (g e.2).natAbs<=67600)->(∀ r,(rows r).length<=m)->(∀ r,∀ z ∈ rows r,bl z.natAbs<=67600)->(∀ r,(psG g L rows r).length<=m+L.length)/\∀ r,∀ z ∈ psG g L rows r,bl z.natAbs<=67600
 | [],rows,m,_,h1,h2=>⟨h1,h2⟩
 | e :: L,rows,m,he,h1,h2=>by
  have hz:bl (-(g e.2)).natAbs<=67600:=by rw [z7]; exact he e yS
  have b1:=qiq (k:=e.1) h1 h2 hz;have b2:=qnZ L _ (m+1) (λd hd=>he d (yM _ hd)) b1.1 b1.2;rw [psG];exact ⟨λr=>by have:=b2.1 r; rw [List.length_cons]; omega,b2.2⟩
structure RB (rows:Nat->List Int) (m:Nat):Prop where
 l:∀ r,(rows r).length<=m
 b:∀ r,∀ z ∈ rows r,bl z.natAbs<=67600
def RB.pg {rows:Nat->List Int} {m:Nat} {g:Nat->Int} {L:List (Nat × Nat)} (h:RB rows m) (hL:∀ e ∈ L,bl (g e.2).natAbs<=67600):RB (psG g L rows) (m+L.length):=by
 obtain ⟨h1,h2⟩:=qnZ L rows m hL h.l h.b;exact ⟨h1,h2⟩
def RB.mono {rows:Nat->List Int} {m m':Nat} (h:RB rows m) (hm:m<=m'):RB rows m':=⟨λr=>zN (h.l r) hm,h.b⟩
def RB.bg {b:List Nat} {k:Nat} (hb:q0b b):RB (bgR b k) 1:=⟨λr=>by unfold bgR; split <;> simp,λr z hz=>by
 unfold bgR at hz
 split at hz
 .simp at hz; subst hz; exact zN (q17 (q9d hb).2) ω
 .cases hz⟩
section
variable {D:Nat->Nat->Nat} {E:Nat->List (Nat × Nat)} {n k:Nat} {ys:List Nat} {rows:Nat->List Int}
def qzg {b:List Nat} {r:Nat} (hr:r < b.length):q1R (bgR b b.length r)=ofZ (b.getD r 0):=by
 unfold bgR;rw [if_pos hr,q28]
end
section
variable {n k v:Nat} {ys:List Nat}
end
def qvm {a b:Int} (h:b < a):(a-b).sign=1:=zZ Oq
def qfX {a b:Int} (h:¬ b < a):¬ (a-b).sign > 0:=λq=>by
 rcases uV (Int.not_lt.1 h) with h | h
 .rw [yC ω] at q; omega
 .rw [show a-b=0 by omega] at q; exact absurd q (by decide)
def grZ (l:List Int):Int:=l.foldl max 0
def qx2 {l:List Int} {i:Nat} {x:Int} (h:l[i]?=some x):grZ (l.take (i+1))=max (grZ (l.take i)) x:=by
 unfold grZ;rw [q1l h,List.foldl_append]
 rfl
def qns:∀ (l:List Int) (a:Int),(l.foldl max a=a\/l.foldl max a ∈ l)/\a<=l.foldl max a
 | [],a=>⟨.inl rfl,xS _⟩
 | x :: l,a=>by
  have h:=qns l (max a x);rw [xA];refine ⟨?_,ω⟩
  rcases h.1 with h | h
  .rw [h]
   rcases Int.le_total a x with q | q
   .right; rw [Int.max_eq_right q]; exact yS
   .left; exact Int.max_eq_left q
  .right; exact yM _ h
def qx3 {p:Int->Prop} {l:List Int} (h0:p 0) (h:∀ x ∈ l,p x):p (grZ l):=by
 rcases (qns l 0).1 with q | q
 .unfold grZ; rw [q]; exact h0
 .exact h _ q
def qnt {l:List Int} {k:Nat} (h:∀ x ∈ l,bl x.natAbs<=k):bl (grZ l).natAbs<=k:=qx3 (p:=λz=>bl z.natAbs<=k) (by simp [q02]) h
def btD (n:Nat) (v:List Nat) (F:Nat->Nat->Option Nat) (i j k:Nat):Int:=q1W (v.getD (k*n+i) 0) ((F j k).getD 0)
def btE (n:Nat) (v:List Nat) (F:Nat->Nat->Option Nat) (i j:Nat):Int:=(if i=j then q2Y else 0)-sg (btD n v F i j) n
def btZ (n:Nat) (v:List Nat) (F:Nat->Nat->Option Nat) (i:Nat):Int:=sg (λj=>((btE n v F i j).natAbs:Int)) n
def btL (n:Nat) (v:List Nat) (F:Nat->Nat->Option Nat):List Int:=(List.range n).map (btZ n v F)
def q9K {g:Nat->Int} {K:Nat} (n:Nat) (hn:n<=1000) (h:∀ i,i < n->bl (g i).natAbs<=K):bl (sg g n).natAbs<=K+11:=by
 have e:∀ m,sg g m=q1R ((List.range m).map g):=λm=>by
  induction m with
  | zero=>rfl
  | succ m ih=>rw [sg,ih,zY,zD,uX,q0m]
 have:=q6A (K:=K) (i:=n) (l:=(List.range n).map g) (λx hx=>by
  obtain ⟨i,hi,rfl⟩:=zK.1 hx;exact h i (zP.1 hi)) Oq
 rw [zF σ] at this;rw [e];exact this
def q4l {g:Nat->Int} {n i:Nat} (h:i < n):((List.range n).map g)[i]?=some (g i):=by simp [h]
def qwD {g:Nat->Int} {n:Nat}:(List.range (n+1)).map g=(List.range n).map g ++ [g n]:=by rw [zY,zD]; rfl
def q6J {g:Nat->Int} {n:Nat}:((List.range n).map g).length=n:=σ
def q0V {v:List Nat} (hv:q0b v) {i:Nat}:v.getD i 0 < 18446744073709551616/\q0I (v.getD i 0):=by
 rw [zI];cases h:v[i]? with
 | none=>exact ⟨σ,by simp [q0I]⟩
 | some x=>exact hv x (zB h)
def TOk.finD {f:Nat->Nat->Option Nat} {R C j i:Nat} (h:TOk f R C) (hj:j < C) (hi:i < R):q0I ((f j i).getD 0):=(h.fin hj hi).1
section
variable {F:Nat->Nat->Option Nat} {n r c R C:Nat} {v:List Nat}
def qo7 (h:TOk F n n) (hv:q0b v) {i j k:Nat} (hj:j < n) (hk:k < n):bl (btD n v F i j k).natAbs<=67584:=qcP (q0V hv).2 (h.finD hj hk)
def qcx (h:TOk F n n) (hv:q0b v) {i j:Nat} (hj:j < n):bl (btE n v F i j).natAbs<=67596:=by
 have h1:=q9K (g:=btD n v F i j) (K:=67584) n (by have:=h.r; omega) λk hk=>qo7 h hv hj hk;unfold btE;refine q6c (k:=67595) ?_ Oq
 split
 .have:=q3C; omega
 .simp [q02]
def qcw (h:TOk F n n) (hv:q0b v) {i:Nat}:bl (btZ n v F i).natAbs<=67607:=q9K (K:=67596) n (by have:=h.r; omega) λj hj=>by rw [uU]; exact qcx h hv hj
def qzW (h:TOk F n n) (hv:q0b v):∀ x ∈ btL n v F,bl x.natAbs<=67607:=λx hx=>by
 obtain ⟨i,_,rfl⟩:=zK.1 hx;exact qcw h hv
def prZ (a b:Int):Int:=(mkV (a*b) (-131072)).getD 0
def qcK:q2Y=(2:Int) ^ 65536:=by
 have h:=q8F (z:=1) (by have:=q0M (n:=Int.natAbs 1) (k:=1) (by decide); omega);rw [q4w.1] at h;have h:=xT.inj h;rw [xU] at h;exact h
end
def q9T (V:Int):od (V.natAbs:Int)=((od V).natAbs:Int)/\dyE (V.natAbs:Int)=dyE V:=by
 have hs:=q1w V
 by_cases hv:V < 0
 .rw [decide_eq_true hv] at hs;have ho:od V < 0:=of_decide_eq_true hs;rw [show (V.natAbs:Int) = -V by omega,qgH,qbE];exact ⟨ω,rfl⟩
 .rw [decide_eq_false hv] at hs;have ho:¬ od V < 0:=of_decide_eq_false hs;rw [show (V.natAbs:Int)=V by omega];exact ⟨ω,rfl⟩
def qoG {V:Int} (h:q0Q V):q0Q (V.natAbs:Int):=by unfold q0Q at *; rwa [uU]
section
variable {A B V z:Int} {v:Nat}
def q8r (h1 : -9223372036854775808<=z) (h2:z<=9223372036854775807) (hv:mkV z 0=some V):ACt 90 [iv z] (dT V):=by
 have hz:bl z.natAbs<=64:=q0M (Nat.lt_of_le_of_lt (show z.natAbs<=9223372036854775808 by omega) (by decide));have C1:=@q1y;have C2:=q3w (m:=z) (e:=0) rfl Oq Oq Oq hv;refine ac0 Tryz.func90 Tryz.ntmps90 [.cell 2 48] ?_;exact wk trivial
def qaO:ACt 90 [iv 1] (dT q2Y):=q8r Oq Oq q4w.1
def qjC:ACt 90 [iv 0] (dT 0):=q8r Oq Oq (q1d _)
def qed (hA:q0Q A):ACt 165 [dT A] (dT (A.natAbs:Int)):=by
 have C1:=qaQ hA;have C2:=@q6W;have:=(q1A hA).2.2;have f1:=(q9T A).1.symm;have f2:=(q9T A).2;refine ac0 Tryz.func165 Tryz.ntmps165 [.cell 2 48] ?_;exact wk1 (x2 f1 f2) trivial
end
def qbv {g:Nat->Int}:∀ n,q1R ((List.range n).map g)=sg g n
 | 0=>rfl
 | n+1=>by rw [zY,zD,uX,q0m,qbv n,sg]
def dy0:q0Q 0:=by simp [q0Q,q02]
def pPn (r c:Nat) (v:List Nat):PV:=.ag [iv r,iv c,pF v]
open Classical in
noncomputable def chP (r c:Nat) (v:List Nat):Int:=if v.length≠r*c then 2 else if ∀ x ∈ v,q0I x then 0 else 4
section
variable {l:List Int} {r c i j:Nat} {v:List Nat}
def q8p (hn:l.length<=1000000):ACt 137 [pVs l] (pV (grZ l)):=by
 have N1:=q1Y (V:=0);refine ac0 Tryz.func137 Tryz.ntmps137 [.cell 2 48] ?_;refine wk ?_;refine q0A (λi=>i<=l.length) [0,2,3] [2] Lk Lk (λi:Nat=>[(4,iv i)]) (λi=>[(3,⟨48,some 4,[pV (grZ (l.take i))],false⟩)]) (λi=>l.length-i) 0 (zC _) ?_ ?_
 .refine LeM [] rfl rfl ?_;refine Zz ?_;exact ⟨rfl,qi9 rfl⟩
 .intro i hi
  by_cases hlt:i < l.length
  .obtain ⟨x,hx⟩:∃ x,l[i]?=some x:=⟨_,zA hlt⟩;have C2:=q51 (A:=grZ (l.take i)) (B:=x);have es:=qx2 hx;generalize grZ (l.take i)=G at *
   by_cases h:G < x
   .rw [decide_eq_true h] at C2;rw [show max G x=x by omega] at es;refine wk1 hx ?_;refine ⟨i+1,ω,ω,?_⟩;rw [es];refine LeM [] rfl rfl ?_;refine Zz ?_
    first | done | omega | exact ⟨ω,rfl⟩
   .rw [decide_eq_false h] at C2;rw [show max G x=G by omega] at es;refine wk1 hx ?_;refine ⟨i+1,ω,ω,?_⟩;rw [es];refine LeM [] rfl rfl ?_;refine Zz ?_
    first | done | omega | exact ⟨ω,rfl⟩
  .obtain rfl:i=l.length:=ω
   rw [zL];exact wk trivial
def qhp {n:Nat} (hr:r<=64) (hc:c<=64) (hn:n<=1000000):ACt 247 [iv r,iv c,iv n] (iv (if n≠r*c then 2 else 0)):=by
 have hm:r*c<=64*64:=zM hr hc;have w1:IntKind.i64.wrap ((r:Int)*(c:Int))=((r*c:Nat):Int):=by rw [<- zO,i64_in ω ω]
 generalize r*c=m at *;refine ac0 Tryz.func247 Tryz.ntmps247 [.tmp 6] ?_
 by_cases h:n=m
 .have q:((n:Int) != (m:Int))=false:=by simp; omega
  rw [if_neg (not_not_intro h)];exact wk1 (x2 w1 q) trivial
 .have q:((n:Int) != (m:Int))=true:=by simp; omega
  rw [if_pos h];exact wk1 (x2 w1 q) trivial
def qe5 {n:Nat} (hr:r<=64) (hc:c<=64) (hn:n<=1000000):ACt 168 [iv r,iv c,iv n] (iv (if n≠r*c then 2 else 0)):=by
 have hm:r*c<=64*64:=zM hr hc;have w1:IntKind.i64.wrap ((r:Int)*(c:Int))=((r*c:Nat):Int):=by rw [<- zO,i64_in ω ω]
 generalize r*c=m at *;refine ac0 Tryz.func168 Tryz.ntmps168 [.tmp 6] ?_
 by_cases h:n=m
 .have q:((n:Int) != (m:Int))=false:=by simp; omega
  rw [if_neg (not_not_intro h)];exact wk1 (x2 w1 q) trivial
 .have q:((n:Int) != (m:Int))=true:=by simp; omega
  rw [if_pos h];exact wk1 (x2 w1 q) trivial
open Classical in
def qco (hr:r<=64) (hc:c<=64) (hn:v.length<=1000000) (hv:∀ x ∈ v,x < 18446744073709551616):ACt 161 [pPn r c v] (iv (chP r c v)):=by
 have C1:=qhp (n:=v.length) hr hc hn;obtain ⟨res,hres⟩:∃ res,res=chP r c v:=⟨_,rfl⟩;rw [<- hres];unfold chP at hres;unfold pPn;refine ac0 Tryz.func161 Tryz.ntmps161 [.tmp 2] ?_
 by_cases h:v.length=r*c
 rotate_left
 .rw [if_pos h] at C1 hres;subst hres;exact wk trivial
 rw [if_neg (not_not_intro h)] at C1 hres;refine wk ?_;refine q0A (λi=>i<=v.length/\∀ x ∈ v.take i,q0I x) [18,19] [] Lk Lk (λi:Nat=>[(20,iv i)]) (λ_=>[]) (λi=>v.length-i) 0 ⟨zC _,σ⟩ ?_ ?_
 .refine LeM [] rfl rfl ?_;refine Zz ?_
  rfl
 .rintro i ⟨hi,hf⟩
  by_cases hil:i < v.length
  .obtain ⟨x,hx⟩:∃ x,v[i]?=some x:=⟨_,zA hil⟩;have hmx:=zB hx;have cF:=q63 (hv x hmx)
   by_cases hfx:q0I x
   case neg =>
    rw [decide_eq_false hfx] at cF;rw [if_neg λh=>hfx (h x hmx)] at hres;subst hres;exact wk1 hx trivial
   rw [decide_eq_true hfx] at cF;refine wk1 hx ?_;refine ⟨i+1,⟨ω,?_⟩,ω,?_⟩
   .rw [q1l hx];intro y hy
    rcases zQ.1 hy with hy | hy
    .exact hf y hy
    .simp at hy; subst hy; exact hfx
   .refine LeM [] rfl rfl ?_;refine Zz ?_;omega
  .obtain rfl:i=v.length:=ω
   rw [zL] at hf;rw [if_pos hf] at hres;subst hres;exact wk trivial
open Classical in
def qiw (hr:r<=64) (hc:c<=64) (hn:v.length<=1000000) (hv:∀ x ∈ v,x < 18446744073709551616):ACt 63 [pPn r c v] (iv (chP r c v)):=by
 have C1:=qe5 (n:=v.length) hr hc hn;obtain ⟨res,hres⟩:∃ res,res=chP r c v:=⟨_,rfl⟩;rw [<- hres];unfold chP at hres;unfold pPn;refine ac0 Tryz.func63 Tryz.ntmps63 [.tmp 2] ?_
 by_cases h:v.length=r*c
 rotate_left
 .rw [if_pos h] at C1 hres;subst hres;exact wk trivial
 rw [if_neg (not_not_intro h)] at C1 hres;refine wk ?_;refine q0A (λi=>i<=v.length/\∀ x ∈ v.take i,q0I x) [1] [1] Lk Lk (λi:Nat=>[(4,iv i)]) (λ_=>[]) (λi=>v.length-i) 0 ⟨zC _,σ⟩ ?_ ?_
 .refine LeM [] rfl rfl ?_;refine Zz ?_
  rfl
 .rintro i ⟨hi,hf⟩
  by_cases hil:i < v.length
  .obtain ⟨x,hx⟩:∃ x,v[i]?=some x:=⟨_,zA hil⟩;have hmx:=zB hx;have cF:=q18 (hv x hmx)
   by_cases hfx:q0I x
   case neg =>
    rw [decide_eq_false hfx] at cF;rw [if_neg λh=>hfx (h x hmx)] at hres;subst hres;exact wk1 hx trivial
   rw [decide_eq_true hfx] at cF;refine wk1 hx ?_;refine ⟨i+1,⟨ω,?_⟩,ω,?_⟩
   .rw [q1l hx];intro y hy
    rcases zQ.1 hy with hy | hy
    .exact hf y hy
    .simp at hy; subst hy; exact hfx
   .refine LeM [] rfl rfl ?_;refine Zz ?_;omega
  .obtain rfl:i=v.length:=ω
   rw [zL] at hf;rw [if_pos hf] at hres;subst hres;exact wk trivial
def qe8:ACt 64 [] (pV q2Y):=by
 have C1:=q2z (V:=q2Y) (z:=1) Oq Oq q4w.1;refine ac0 Tryz.func64 Tryz.ntmps64 [.cell 0 48] ?_;exact wk trivial
def q8o (hr:r<=64) (hc:c<=64) (hl:v.length=r*c) (hv:q0b v) (hi:i < r) (hj:j < c):ACt 66 [pPn r c v,iv i,iv j] (pV (ofZ (v.getD (j*r+i) 0))):=by
 have hm:r*c<=64*64:=zM hr hc;have hm2:j*r+r<=r*c:=by rw [<- yP,y9 r c]; exact uY _ hj
 have w1:IntKind.i64.wrap ((j:Int)*(r:Int))=((j*r:Nat):Int):=by rw [<- zO,i64_in ω ω]
 have w2:IntKind.i64.wrap (((j*r:Nat):Int)+(i:Int))=((j*r+i:Nat):Int):=by rw [i64_in ω ω]; omega
 obtain ⟨x,hx⟩:∃ x,v[j*r+i]?=some x:=⟨_,zA Oq⟩;obtain ⟨h1,h2⟩:=hv x (zB hx);rw [getD_some hx];have C1:=q0s h1 (q0S h2);generalize j*r=jr at *;unfold pPn;refine ac0 Tryz.func66 Tryz.ntmps66 [.cell 6 48] ?_;exact wk1 (x3 w1 w2 hx) trivial
end
section
variable {r c i j:Nat} {v:List Nat}
def chP_0 (h:chP r c v=0) (hv:∀ x ∈ v,x < 18446744073709551616):v.length=r*c/\q0b v:=by
 unfold chP at h
 by_cases h1:v.length=r*c
 .rw [if_neg (not_not_intro h1)] at h;refine ⟨h1,λx hx=>⟨hv x hx,?_⟩⟩;refine Classical.byContradiction λhn=>?_;rw [if_neg λq=>hn (q x hx)] at h;cases h
 .rw [if_pos h1] at h;cases h
def qq3 (hr:r<=64) (hc:c<=64) (hl:v.length=r*c) (hi:i < r) (hj:j < c):IntKind.i64.wrap ((j:Int)*(r:Int))=((j*r:Nat):Int)/\IntKind.i64.wrap (((j*r:Nat):Int)+(i:Int))=((j*r+i:Nat):Int)/\∃ x,v[j*r+i]?=some x:=by
 have hm:r*c<=64*64:=zM hr hc;have hm2:j*r+r<=r*c:=by rw [<- yP,y9 r c]; exact uY _ hj
 exact ⟨by rw [<- zO,i64_in ω ω],by rw [i64_in ω ω]; omega,_,zA ω⟩
end
def qqE {n m i:Nat} {g:Nat->Nat} (hi:i < n):(rwG n g m)[i]?=some (if i < m then g i else 0):=by
 unfold rwG;rw [zH,zG hi]; rfl
def qvi {e:Int} {n:Nat} {l:List Nat} (h:qj0 e n l=0):e=0/\l.length=n/\∀ x ∈ l,q0I x:=by
 unfold qj0 at h
 split at h
 .exact absurd h (by assumption)
 .split at h
  .cases h
  .split at h
   .cases h
   .rename_i h1 h2 h3;exact ⟨Decidable.not_not.1 h1,Decidable.not_not.1 h2,Classical.not_not.1 h3⟩

def qdY {raw:List Nat} {k st:Int} {n:Nat} (hr:raw.length<=9223372036854775807) (hn:n<=1000000) (h1 : -1000000<=k) (h2:k<=1000000) (h3 : -9223372036854775808<=st) (h4:st<=9223372036854775807) :
  qdQ 48 [pF raw,iv k,iv n,iv st] h0 (.ow 5000 none 0 n) (q0R h0 5000 ⟨33,none,(q4g raw k (q0Y st 4) n).map λz:Nat=>uv z,false⟩):=by
 have hJ:∀ i,¬ (h0 i≠none):=λi h=>h rfl;refine qeU qzM Tryz.func48 rfl Tryz.ntmps48 κ ?_ ?_ ?_ ?_
 .intro i b hb; cases hb
 .intro i b hb
  by_cases hi:i=5000
  .subst hi; exact ⟨ω,ω⟩
  .rw [q0B hi] at hb; cases hb
 .exact IdL.of λx hx=>by
   simp at hx
   rcases hx with rfl | rfl | rfl | rfl <;> unfold IdP <;> trivial
 have hW:WfH h0:=⟨λi b hb=>by cases hb⟩;refine wk ?_;refine q0P (λi=>i<=n) [0,1,2,3] [] Lk Lk (λi:Nat=>[(10,iv i),(9,.ow 11 none 0 i)]) (λi=>[(11,⟨33,none,(q4g raw k (q0Y st 4) i).map λz:Nat=>uv z,false⟩)]) (λ_=>h0) (λi=>n-i) 0 (zC _) ?_ ?_
 .refine LeW [] rfl rfl ?_ ?_ (by simp [q0i,q0c,win]) ?_
  .exact Ow
  .exact hW
  .try refine Zz ?_
   exact ⟨rfl,rfl⟩
 .intro i hi
  by_cases hlt:i < n
  .have C1:=@q5p;have C2:=@qgI;have C3:=@q2p;refine wk1 @q21 ?_;refine ⟨i+1,ω,ω,?_⟩;refine LeW [(11,some 26)] rfl rfl ?_ ?_ (by simp [q0i,q0c,win]) ?_
   .exact Ow
   .exact hW
   .try refine Zz ?_
    exact ⟨ω,by rw [qm6]⟩
  .obtain rfl:i=n:=ω
   refine wk ?_;refine (rtM (rs:=[.tmp 8]) rfl rfl Lq ?_ (.inl rfl));refine LeO hJ ?_ clU
   try simp -implicitDefEqProofs (disch:=omega) only [go_sem,Nat.reduceEqDiff,Nat.reduceAdd,↓reduceIte]


def qc4 {l:List Nat} (h:q0b l) (i:Nat):l.getD i 0 < 18446744073709551616/\q0I (l.getD i 0):=by
 rw [zI];cases hx:l[i]? with
 | none=>exact ⟨σ,by unfold q0I; simp⟩
 | some x=>exact h x (zB hx)

section
variable {F:Nat->Nat->Option Nat} {l:List Int} {cs:List Nat} {cols:List (List Nat)} {j n M:Nat} {p:LSt}
end
def q3y {raw:List Nat} {k:Int} {st n:Nat}:q0b (q4g raw k st n):=λx hx=>by
 unfold q4g at hx;obtain ⟨i,_,rfl⟩:=zK.1 hx;have:=qgJ (k:=st) (q2p raw (k+i));exact ⟨this.2,this.1⟩


def gaS (l:List Nat) (o:List Int) (n:Nat):List Nat:=rwG n (λk=>l.getD (o.getD k 0).toNat 0) n
def scS (x:List Nat) (o:List Int) (n:Nat):Nat->List Nat
 | 0=>List.replicate n 0
 | k+1=>(scS x o n k).set (o.getD k 0).toNat (x.getD k 0)
def q7i {x:List Nat} {o:List Int} {n:Nat}:∀ k,(scS x o n k).length=n
 | 0=>List.length_replicate
 | k+1=>by rw [scS,xC,q7i k]
def qgt {l:List Nat} {o:List Int} {n:Nat}:(gaS l o n).length=n:=q7j
def qgu {l:List Nat} {o:List Int} {n:Nat} (hl:q0b l):q0b (gaS l o n):=λx hx=>by
 unfold gaS rwG at hx;obtain ⟨j,_,rfl⟩:=zK.1 hx
 split
 .exact qc4 hl _
 .exact ⟨ω,by unfold q0I; simp⟩
section
variable {l:List Nat} {o:List Int} {n:Nat}
def qaK (hl:l.length=n) (ho:o.length=n) (hn:n<=1000000) (hb:∀ x ∈ o,0<=x/\x < n):qdQ 131 [pF l,pI o] h0 (.ow 5000 none 0 n) (q0R h0 5000 ⟨33,none,(scS l o n n).map λz:Nat=>uv z,false⟩):=by
 have hJ:∀ i,¬ (h0 i≠none):=λi h=>h rfl;refine qeU qo4 Tryz.func131 rfl Tryz.ntmps131 κ ?_ ?_ ?_ ?_
 .intro i b hb; cases hb
 .exact qgC
 .exact IdL.of λx hx=>by
   simp at hx
   rcases hx with rfl | rfl <;> unfold IdP <;> trivial
 have hW:WfH h0:=⟨λi b hb=>by cases hb⟩;refine wk1 ho ?_;refine q0P (λk=>k<=n) [0,1] [] Lk Lk (λk:Nat=>[(6,iv k),(5,.ow 1001 none 0 n)]) (λk=>[(1001,⟨33,none,(scS l o n k).map λz:Nat=>uv z,false⟩)]) (λ_=>h0) (λk=>n-k) 0 (zC _) ?_ ?_
 .refine LeW [(1001,some 9)] rfl rfl ?_ ?_ (by simp [q0i,q0c,win]) ?_
  .exact Ow
  .exact hW
  .rw [scS]
   try refine Zz ?_
   simp
 .intro k hk
  by_cases hlt:k < n
  .obtain ⟨x,hx⟩:∃ x,o[k]?=some x:=⟨_,zA Oq⟩;obtain ⟨h1,h2⟩:=hb x (zB hx);obtain ⟨x,rfl⟩:∃ y:Nat,x=y:=⟨x.toNat,ω⟩;obtain ⟨u,hu⟩:∃ u,l[k]?=some u:=⟨_,zA Oq⟩;have hs:scS l o n (k+1)=(scS l o n k).set x u:=by rw [scS,getD_some hx,zU,getD_some hu]
   have hsl:=q7i (x:=l) (o:=o) (n:=n) k;refine wk1 (x4 ho hx hu hsl) ?_;refine ⟨k+1,ω,ω,?_⟩;refine LeW [] rfl rfl ?_ ?_ (by simp [q0i,q0c,win]) ?_
   .exact Ow
   .exact hW
   .try refine Zz ?_
    exact ⟨ω,hs.symm⟩
  .obtain rfl:k=n:=ω
   refine wk1 ho ?_;refine (rtM (rs:=[.tmp 4]) rfl rfl Lq ?_ (.inl rfl));refine LeO hJ ?_ clU
   try simp -implicitDefEqProofs (disch:=omega) only [go_sem,Nat.reduceEqDiff,Nat.reduceAdd,↓reduceIte]
end
section
variable {n k z:Nat} {rows:Nat->List Int} {l:List PV}
def qh6 {z:Int}:q8k (qfa rows) k ((rows k ++ [z]).map λV=>pV V)=qfa (q5T rows k z):=by
 funext j
 unfold q8k qfa q5T
 by_cases h:j=k
 .subst h; rw [if_pos rfl,if_pos rfl]
 .rw [if_neg h,if_neg h]
end
def RsI (f:Nat->Nat->Option Nat) (x:List (Nat × Nat)) (b:List Nat) (R J:Nat) (rows:Nat->List Int):Prop:=∀ r,r < R->q1R (rows r)=ofZ (b.getD r 0)-sg (λj=>q8A ((f j r).getD 0) (x.getD j (0,0))) J
section
variable {f:Nat->Nat->Option Nat} {x:List (Nat × Nat)} {b:List Nat} {R C J:Nat} {rows:Nat->List Int}
def qwp {p:Nat × Nat}:q8A 0 p=0:=by unfold q8A; rw [qgN,qgN]; rfl
def qoO {g:Nat->Int} (h0:g 0=0) {r:Nat}:∀ i,ctG g (tZ f J i) r=if r < i then g ((f J r).getD 0) else 0
 | 0=>by unfold ctG tZ; simp [q3P]
 | i+1=>by
  have ih:=qoO h0 (r:=r) i;unfold ctG at *;rw [tZ_s,zD];cases h:f J i with
  | none =>
   rw [xO,xD,ih]
   by_cases hr:r < i
   .rw [if_pos hr,if_pos ω]
   .rw [if_neg hr]
    by_cases h2:r=i
    .subst h2; rw [if_pos ω,h]; exact h0.symm
    .rw [if_neg ω]
  | some v =>
   rw [uX,q0m,ih];dsimp only
   by_cases h2:r=i
   .subst h2; rw [if_neg ω,if_pos rfl,if_pos ω,h]; simp
   .rw [if_neg (show ¬ i=r from λq=>h2 q.symm)]
    by_cases hr:r < i
    .rw [if_pos hr,if_pos ω]; omega
    .rw [if_neg hr,if_neg ω]; rfl
def RsI.s (h:RsI f x b R J rows):RsI f x b R (J+1) (psG (λv=>q8A v (x.getD J (0,0))) (tZ f J R) rows):=λr hr=>by
 rw [qfw,h r hr,qoO (qwp) R,if_pos hr,sg];omega
def RsI.bg (hb:b.length=R):RsI f x b R 0 (bgR b R):=λr hr=>by
 subst hb;rw [qzg hr,sg]; omega
end
section
variable {f:Nat->Nat->Option Nat} {R C:Nat}
end
def qet {n:Nat} {a b:Nat->List Int} (h:∀ r,r < n->a r=b r):q7a n a=q7a n b:=by
 funext i
 unfold q7a q1V qfa
 split
 .congr 2
  exact zS λj hj=>by rw [h j (zP.1 hj)]
 .split
  .rw [h _ ω]
  .rfl
def qn9 {x y:Nat}:q1W x y=q1W y x:=by unfold q1W; rw [yQ]
def qgM {x:Nat}:q1W x 0=0:=by rw [qn9,qgN]
open Classical in
noncomputable def btC (R C r c:Nat) (v:List Nat):Int:=if R≠C then 5 else if chP r c v≠0 then chP r c v else if r≠R\/c≠C then 5 else 0
noncomputable def btA (R C:Nat) (F:Nat->Nat->Option Nat) (r c:Nat) (v:List Nat):List Int × Int:=if btC R C r c v≠0 then ([],btC R C r c v) else (btL R v F,0)
section
variable {F:Nat->Nat->Option Nat} {n R C r c:Nat} {v:List Nat}
def btR (n:Nat) (v:List Nat) (F:Nat->Nat->Option Nat) (i J:Nat):Nat->List Int:=λr=>(List.range (if r < i then J+1 else J)).map λj=>((btE n v F r j).natAbs:Int)
def btR_0:btR n v F 0 0=λ_=>[]:=by
 funext r
 unfold btR;rw [if_neg ω]
 rfl
def btR_s {i J:Nat}:btR n v F (i+1) J=q5T (btR n v F i J) i ((btE n v F i J).natAbs:Int):=by
 funext r
 unfold btR q5T;dsimp only
 by_cases h:r=i
 .subst h;rw [if_pos rfl,if_pos ω,if_neg ω,zY,zD]
  rfl
 .rw [if_neg h]
  by_cases h2:r < i
  .rw [if_pos ω,if_pos h2]
  .rw [if_neg ω,if_neg h2]
def btR_n {J:Nat}:q7a n (btR n v F n J)=q7a n (btR n v F 0 (J+1)):=qet λr hr=>by
 unfold btR;rw [if_pos hr,if_neg ω]
def qiH {i J r:Nat}:(btR n v F i J r).length<=J+1:=by
 unfold btR;rw [zE,zX]
 split <;> omega
def qs0 {i:Nat}:q1R (btR n v F 0 n i)=btZ n v F i:=by
 unfold btR;rw [if_neg ω,qbv]
 rfl
def btT (n:Nat) (v:List Nat) (i:Nat) (e:Nat × Nat):Int := -(q1W (v.getD (e.1*n+i) 0) e.2)
def btO (i j:Nat):List Int:=if i=j then [q2Y] else []
def qbQ {i j:Nat}:∀ m,q1R ((tZ F j m).map (btT n v i)) = -(sg (btD n v F i j) m)
 | 0=>rfl
 | m+1=>by
  rw [tZ_s,zD,sg];cases h:F j m with
  | none =>
   rw [xO,xD,qbQ m];have:btD n v F i j m=0:=by unfold btD; rw [h]; exact qgM
   omega
  | some x =>
   rw [uX,q0m,qbQ m];have:btD n v F i j m=q1W (v.getD (m*n+i) 0) x:=by unfold btD; rw [h]; rfl
   unfold btT;dsimp only;omega
def qbl (A:List Int):∀ B:List Int,q1R (A ++ B)=q1R A+q1R B:=λB=>by
 induction B generalizing A with
 | nil=>rw [xD,q3P]; omega
 | cons y Y ih=>rw [show A ++ y :: Y=(A ++ [y]) ++ Y by simp,ih,q0m,q9E]; omega
def qs3 {i j:Nat}:q1R (btO i j ++ (tZ F j n).map (btT n v i))=btE n v F i j:=by
 rw [qbl,qbQ];unfold btO btE
 split
 .rw [q28]; omega
 .rw [q3P]; omega
def qo6 {i j:Nat}:∀ z ∈ btO i j,bl z.natAbs<=67600:=λz hz=>by
 unfold btO at hz
 split at hz
 .simp at hz; subst hz; have:=q3C; omega
 .cases hz
def qiI {i j:Nat}:(btO i j).length<=1:=by unfold btO; split <;> simp
def qzV (hv:q0b v) {i:Nat} {L:List (Nat × Nat)} (hL:∀ e ∈ L,q0I e.2):∀ z ∈ L.map (btT n v i),bl z.natAbs<=67600:=λz hz=>by
 obtain ⟨e,he,rfl⟩:=zK.1 hz;unfold btT;rw [z7];exact (q0n (q0V hv).2 (hL e he)).2
def qsC (h:TOk F R C) (hr:r<=64) (hc:c<=64) (hn:v.length<=1000000) (hv:∀ x ∈ v,x < 18446744073709551616):ACt 60 [pT R C F,pPn r c v] (iv (btC R C r c v)):=by
 have C1:=qjV h;have C2:=qco hr hc hn hv;unfold btC;unfold pT q2M pPn at *;generalize chP r c v=e at *
 by_cases h1:R=C
 rotate_left
 .rw [if_pos h1];have q1:((R:Int) != (C:Int))=true:=by simp; omega
  refine ac0 Tryz.func60 Tryz.ntmps60 [.tmp 4] ?_;exact wk1 q1 trivial
 have q1:((R:Int) != (C:Int))=false:=by simp; omega
 rw [if_neg (not_not_intro h1)]
 by_cases h2:e=0
 rotate_left
 .rw [if_pos h2];have q2:(e != 0)=true:=by simpa using h2
  refine ac0 Tryz.func60 Tryz.ntmps60 [.tmp 4] ?_;exact wk1 (x2 q1 q2) trivial
 subst h2;rw [if_neg (not_not_intro rfl)]
 by_cases h3:r=R
 rotate_left
 .rw [if_pos (.inl h3)];have q3:((r:Int) != (R:Int))=true:=by simp; omega
  refine ac0 Tryz.func60 Tryz.ntmps60 [.tmp 4] ?_;exact wk1 (x2 q1 q3) trivial
 have q3:((r:Int) != (R:Int))=false:=by simp; omega
 by_cases h4:c=C
 .have q4:((c:Int) != (C:Int))=false:=by simp; omega
  rw [if_neg ω];refine ac0 Tryz.func60 Tryz.ntmps60 [.tmp 4] ?_;exact wk1 (x3 q1 q3 q4) trivial
 .have q4:((c:Int) != (C:Int))=true:=by simp; omega
  rw [if_pos (.inr h4)];refine ac0 Tryz.func60 Tryz.ntmps60 [.tmp 4] ?_;exact wk1 (x3 q1 q3 q4) trivial
def qhd (h:TOk F n n) (hn:n<=20) (hl:v.length=n*n) (hv:q0b v):ACt 61 [pT n n F,pPn n n v] (pVs (btL n v F)):=by
 have hml:=q11 (f:=F) (R:=n) n;have hg:=λj hj=>q35 (f:=F) (R:=n) (C:=n) (j:=j) hj;have hix:=λj k hj h1 h2=>qd1 (f:=F) (R:=n) (C:=n) (j:=j) (k:=k) hj h1 h2;have hos:=λj=>qmk (f:=F) (R:=n) (j:=j);have hpi:=λi j hi hj=>qq3 (i:=i) (j:=j) (show n<=64 by omega) (show n<=64 by omega) hl hi hj;obtain ⟨o,ho⟩:∃ o,o=tO F n:=⟨_,rfl⟩;have hRC:=h.m;have hfin:rwP n (λr=>pV (btZ n v F r)) n=(btL n v F).map λV=>pV V:=by
  unfold rwP btL;rw [y8];exact zS λi hi=>by rw [if_pos (zP.1 hi)]; rfl
 have hZb:=λi=>qcw h hv (i:=i);unfold pVs;rw [<- hfin];unfold pT pPn;rw [<- ho] at hg hix hos;generalize (tM F n n).1=st at *;generalize (tM F n n).2.1=ix at *;generalize (tM F n n).2.2=vl at *;obtain ⟨m1,m2,m3⟩:=hml;unfold q2M;refine ac0 Tryz.func61 Tryz.ntmps61 [.tmp 4] ?_;refine wk ?_;refine q0r (qbi (o:=16) (N:=5000) (R:=10000) (n:=n) (T1:=39) (T2:=48) (K:=some 4) (λ_ h=>h) ?_ ω ω ω ω (xs:=[(2,.pt 2 0 0),(3,.pt 3 0 0),(5,.ow 5000 none 0 n),(18,iv n),(19,iv 0)]) (kv:=[]) (kb:=[(2,some ⟨27,some 5,[.ag [iv n,iv n,pI st,pI ix,pF vl]],false⟩),(3,some ⟨31,some 3,[.ag [iv n,iv n,pF v]],false⟩)]) (by simp [nmW]) ?_) ?_
 .try simp -implicitDefEqProofs (disch:=omega) only [go_sem,Nat.reduceEqDiff,Nat.reduceAdd,↓reduceIte]
 .try refine Zz ?_
  exact if_pos rfl
 rw [qmi];have e0:q1V 39 48 (some 4) 5000 10000 n (λ_=>[]) h0=q7a n (btR n v F 0 0):=by rw [btR_0]; rfl
 rw [e0];refine q0P (λJ:Nat=>J<=n) [2,3,5,18] [2,3] Lk Lk (λJ=>[(19,iv J)]) (λ_=>[]) (λJ=>q7a n (btR n v F 0 J)) (λJ=>n-J) 0 (zC _) ?_ ?_
 .refine LeW [] rfl rfl ?_ ?_ (by simp [q0i,q0c,win]) ?_
  .exact Ow
  .exact wfB (q1Q Oq)
  .try simp -implicitDefEqProofs (disch:=omega) only [go_sem,Nat.reduceEqDiff,Nat.reduceAdd,↓reduceIte];first | done | rfl
 .intro J hJ
  by_cases hlt:J < n
  .have hlt':(J:Int) < n:=ω
   have g1:=hg J Oq;have g2:=hg (J+1) Oq;have oJ:=hos J;have ww:IntKind.i64.wrap ((J:Int)+1)=((J+1:Nat):Int):=by rw [i64_in ω ω]; omega
   have hZ:=λk x=>q5v (f:=F) (j:=J) (i:=n) (k:=k) (x:=x);have hEs:=λi=>qs3 (F:=F) (n:=n) (v:=v) (i:=i) (j:=J);have hEb:=λi=>qcx h hv (i:=i) hlt;obtain ⟨L,hL⟩:∃ L,L=tZ F J n:=⟨_,rfl⟩;have hLn:L.length<=n:=by rw [hL]; unfold tZ; exact zN (yY _ _) σ
   have hixJ:=hix J;rw [<- hL] at oJ hZ hixJ hEs;clear hL;have hLv:∀ e ∈ L,(e.2 < 18446744073709551616/\q0I e.2)/\e.1 < n:=λe he=>by
    obtain ⟨q1,q2⟩:=(hZ e.1 e.2).1 he;exact ⟨⟨h.u J e.1 e.2 hlt q1 q2,h.v J e.1 e.2 hlt q1 q2⟩,q1⟩
   have hTb:=λi=>qzV (n:=n) (i:=i) hv (L:=L) λe he=>(hLv e he).1.2;refine wk1 (x2 hlt' g1) ?_;refine q0P (λi:Nat=>i<=n) [2,3,5,6,18,19,23] [2,3] Lk Lk (λi=>[(24,iv i)]) (λ_=>[]) (λi=>q7a n (btR n v F i J)) (λi=>n-i) 0 (zC _) ?_ ?_
   .refine LeW [] rfl rfl ?_ ?_ (by simp [q0i,q0c,win]) ?_
    .exact Ow
    .exact wfB (q1Q Oq)
    .try simp -implicitDefEqProofs (disch:=omega) only [go_sem,Nat.reduceEqDiff,Nat.reduceAdd,↓reduceIte];first | done | rfl
   .intro i hi
    by_cases hlti:i < n
    .have hli':(i:Int) < n:=ω
     have hTbi:=hTb i;have hEsi:=hEs i;have hEbi:=hEb i;have hpsh:=btR_s (n:=n) (v:=v) (F:=F) (i:=i) (J:=J);have hrl:=qiH (n:=n) (v:=v) (F:=F) (i:=i) (J:=J) (r:=i);have hpj:=λj hj=>hpi i j hlti hj;have hO1:=qo6 (i:=i) (j:=J);have hO2:=qiI (i:=i) (j:=J);have hOe:=show btO i J=if i=J then [q2Y] else [] from rfl
     have hTe:=λe=>show btT n v i e = -(q1W (v.getD (e.1*n+i) 0) e.2) from rfl;generalize btE n v F i J=E at *;generalize btR n v F i J=rows at *;generalize btO i J=z at *;generalize btT n v i=T at *;have hdy:q0Q E:=by unfold q0Q; omega
     refine wk1 hli' ?_;refine qoy λK hK=>?_;have fin:∀ (s:Nat->PV) (h:Hp),Le (λ_=>False) s h (stM [(2,.pt 2 0 0),(3,.pt 3 0 0),(5,.ow 5000 none 0 n),(6,iv J),(7,iv i),(8,.ow 1003 (some 4) 0 z.length),(18,iv n),(19,iv J),(23,iv n),(24,iv i)] []) (q1B (q7a n rows) (hpM [(2,⟨27,some 5,[.ag [iv n,iv n,pI st,pI ix,pF vl]],false⟩),(3,⟨31,some 3,[.ag [iv n,iv n,pF v]],false⟩),(1003,⟨48,some 4,z.map λV=>pV V,false⟩)] []))->K s h:=by
      intro s h hl;refine hK _ _ (q0r hl ?_); clear hK K hl;refine wk1 g1 ?_;refine q0P (λt:Nat=>t<=L.length) [2,3,5,6,7,18,19,23,24] [2,3] Lk Lk (λt=>[(9,iv ((o J+t:Nat):Int)),(8,.ow 1001 (some 4) 0 (z.length+t))]) (λt=>[(1001,⟨48,some 4,(z ++ (L.take t).map T).map λV=>pV V,false⟩)]) (λ_=>q7a n rows) (λt=>L.length-t) 0 (zC _) ?_ ?_
      .refine LeW [(1001,some 1003)] rfl rfl ?_ ?_ (by simp [q0i,q0c,win]) ?_
       .exact Ow
       .exact wfB (q1Q Oq)
       .try refine Zz ?_
        exact q0C rfl clV
      .intro t ht;have htl:(z ++ (L.take t).map T).length=z.length+t:=by rw [uW,zE,zR]; omega
       by_cases hlt2:t < L.length
       .obtain ⟨⟨k,x⟩,e1,e2,e3⟩:=hixJ (o J+t) Oq Oq Oq;rw [y7] at e1;dsimp only at e2 e3;obtain ⟨⟨v1,v2⟩,hin⟩:=hLv (k,x) (zB e1);dsimp only at v1 v2 hin;have hq:((o J+t:Nat):Int) < ((o (J+1):Nat):Int):=ω
        obtain ⟨w1,w2,y,hy⟩:=hpj k hin;obtain ⟨y1,y2⟩:=hv y (zB hy);have C1:=q3D v1 (q0S v2);have C2:=q3D y1 (q0S y2);have M:=q0n y2 v2;have C3:=q5m (q2l y2) (q2l v2) M.1;have hmd:=(q36 M.1).2.2.2;have C4:=q1v (qaP hmd) (by unfold q0Q at *; rw [z7]; exact hmd);have N4:=q1Y (V := -(q1W y x));have hob:=(zJ.1 e2).1;have wt:IntKind.i64.wrap (((o J+t:Nat):Int)+1)=((o J+(t+1):Nat):Int):=by rw [i64_in ω ω]; omega
        have es:z ++ (L.take (t+1)).map T=z ++ (L.take t).map T ++ [-(q1W y x)]:=by
         rw [q1l e1,zD,<- yW,uX,hTe];dsimp only;rw [getD_some hy]
        generalize z ++ (L.take t).map T=P at *;generalize k*n=kn at *;refine wk1 (x6 g2 ww hq e2 e3 (x5 w1 w2 hy wt htl)) ?_;refine ⟨t+1,ω,ω,?_⟩;rw [es];refine LeW [(1001,some 75)] rfl rfl ?_ ?_ (by simp [q0i,q0c,win]) ?_
        .exact Ow
        .exact wfB (q1Q Oq)
        .try refine Zz ?_
         exact ⟨ω,q0C (by rw [zD]; rfl) clV⟩
       .obtain rfl:t=L.length:=ω
        have hq:¬ ((o J+L.length:Nat):Int) < ((o (J+1):Nat):Int):=ω
        rw [zL] at htl ⊢;have hPb:∀ y ∈ z ++ L.map T,q0Q y:=λy hy=>by
         rcases zQ.1 hy with hy | hy
         .have:=hO1 y hy; unfold q0Q; omega
         .have:=hTbi y hy; unfold q0Q; omega
        generalize z ++ L.map T=P at *;have C1:=q1v (q7Z (l:=P) ω hPb (by rw [hEsi]; exact hdy)) (by rw [hEsi]; exact hdy);rw [hEsi] at C1;have C2:=q1v (qoj qiF λho=>qed (A:=E) ho) (qoG hdy);have N2:=q1Y (V:=(E.natAbs:Int));have N1:=q1Y (V:=E);have hr1:(List.range n)[i]?=some i:=zG hlti;refine wk1 (x5 g2 ww hq htl hr1) ?_;refine ⟨i+1,ω,ω,?_⟩;rw [hpsh];unfold q7a;rw [<- qh6];refine q79 (r:=86) (k:=i) (row:=qfa rows) (λ_ h=>h) hlti clV ?_ ?_ (λi h1 h2 h3 h4=>?_) (λ_ _=>clV) BOk.h0 (.inl ω) ω ω ω (by simp [nmW]) ?_
        .try simp -implicitDefEqProofs (disch:=omega) only [go_sem,Nat.reduceEqDiff,Nat.reduceAdd,↓reduceIte]
        .try refine Zz ?_
         rw [zD]
         rfl
        .rw [q0B h2,q0B h4,q0B h3,q0B (by obtain ⟨w1,w2⟩:=h1; omega),q0W h1]
        .try refine Zz ?_
         omega
     by_cases hij:i=J
     .have q3:((i:Int) == (J:Int))=true:=by simp; omega
      rw [if_pos hij] at hOe;subst hOe;have C1:=q1v qaO (by have:=q3C; unfold q0Q; omega);have N1:=q1Y (V:=q2Y);refine wk1 q3 ?_;refine fin _ _ ?_;refine LeW [(1003,some 33)] rfl rfl ?_ ?_ (by simp [q0i,q0c,win]) ?_
      .exact Ow
      .exact wfB (q1Q Oq)
      .try simp -implicitDefEqProofs (disch:=omega) only [go_sem,Nat.reduceEqDiff,Nat.reduceAdd,↓reduceIte]
     .have q3:((i:Int) == (J:Int))=false:=by simp; omega
      rw [if_neg hij] at hOe;subst hOe;refine wk1 q3 ?_;refine fin _ _ ?_;refine LeW [(1003,none)] rfl rfl ?_ ?_ (by simp [q0i,q0c,win]) ?_
      .exact Ow
      .exact wfB (q1Q Oq)
      .try simp -implicitDefEqProofs (disch:=omega) only [go_sem,Nat.reduceEqDiff,Nat.reduceAdd,↓reduceIte]
    .obtain rfl:i=n:=ω
     have hli':¬ (i:Int) < i:=ω
     refine wk1 (x2 hli' ww) ?_;refine ⟨J+1,ω,ω,?_⟩;rw [<- btR_n];refine LeW [] rfl rfl ?_ ?_ (by simp [q0i,q0c,win]) ?_
     .exact Ow
     .exact wfB (q1Q Oq)
     .try simp -implicitDefEqProofs (disch:=omega) only [go_sem,Nat.reduceEqDiff,Nat.reduceAdd,↓reduceIte]
      first | done | omega
  .obtain rfl:J=n:=ω
   have hlt':¬ (J:Int) < J:=ω
   have hrs:=λi=>qs0 (n:=J) (v:=v) (F:=F) (i:=i);have hrl:=λi=>qiH (n:=J) (v:=v) (F:=F) (i:=0) (J:=J) (r:=i);have hrb:∀ i,i < J->∀ z ∈ btR J v F 0 J i,q0Q z:=λi _ z hz=>by
    unfold btR at hz;rw [if_neg ω] at hz;obtain ⟨j,hj,rfl⟩:=zK.1 hz;have:=qcx h hv (i:=i) (zP.1 hj);unfold q0Q;rw [uU];omega
   generalize btR J v F 0 J=rows at *;have hwl:=λm=>q6G (n:=J) (g:=λr=>pV (btZ J v F r)) (m:=m);have hws:=λm=>qjd (n:=J) (g:=λr=>pV (btZ J v F r)) (m:=m);have hwc:=λm=>q1h (n:=J) (g:=λr=>pV (btZ J v F r)) (m:=m) λc=>trivial;clear hfin hg hix hos;refine wk1 hlt' ?_;refine q0P (λr=>r<=J) [93,94] [] Lk Lk (λr:Nat=>[(95,iv r),(11,.ow 1001 (some 4) 0 J)]) (λr=>[(1001,⟨48,some 4,rwP J (λr=>pV (btZ J v F r)) r,false⟩)]) (λ_=>q7a J rows) (λr=>J-r) 0 (zC _) ?_ ?_
   .refine LeW [(1001,some 92)] rfl rfl ?_ ?_ (by simp [q0i,q0c,win]) ?_
    .exact Ow
    .exact wfB (q1Q Oq)
    .try refine Zz ?_
     exact ⟨rfl,q8d σ⟩
   .intro r hr
    by_cases hlt2:r < J
    .have q2:(r:Int) < J:=ω
     have hr1:(List.range J)[r]?=some r:=zG hlt2;have hd:q0Q (btZ J v F r):=by have:=hZb r; unfold q0Q; omega
     have C2:=q1v (q7Z (l:=rows r) (by have:=hrl r; omega) (λz hz=>hrb r hlt2 z hz) (by rw [hrs r]; exact hd)) (by rw [hrs r]; exact hd);rw [hrs r] at C2;have N2:=q1Y (V:=btZ J v F r);have hli:=hrl r;have e1:=hws r;have e2:=hwl r;have e3:=hwc r;generalize rwP J (λr=>pV (btZ J v F r)) r=W at *;refine wk1 (x3 q2 hr1 e2) ?_;refine ⟨r+1,ω,ω,?_⟩;rw [<- e1];refine LeW [] rfl rfl ?_ ?_ (by simp [q0i,q0c,win]) ?_
     .exact Ow
     .exact wfB (q1Q Oq)
     .try refine Zz ?_
      exact ⟨ω,q0C rfl (q2k e3 trivial)⟩
    .obtain rfl:r=J:=ω
     have q2:¬ (r:Int) < r:=ω
     refine wk1 (x3 q2 (hwl r) (hwc r)) ?_;exact zF (xP (hwl r))
end
section
variable {F:Nat->Nat->Option Nat} {n R C r c:Nat} {v:List Nat}
def btP (n:Nat) (v:List Nat) (F:Nat->Nat->Option Nat) (i j k:Nat):List Int:=btO i j ++ (List.range k).map λk => -(btD n v F i j k)
def qs1 {i j:Nat}:q1R (btP n v F i j n)=btE n v F i j:=by
 unfold btP;rw [qbl,qbv];have:∀ m,sg (λk => -(btD n v F i j k)) m = -(sg (btD n v F i j) m):=λm=>by
  induction m with
  | zero=>rfl
  | succ m ih=>rw [sg,sg,ih]; omega
 rw [this];unfold btO btE
 split
 .rw [q28]; omega
 .rw [q3P]; omega
def qs2 {i j k:Nat}:(btP n v F i j k).length=(btO i j).length+k:=by unfold btP; simp
def btP_s {i j k:Nat}:btP n v F i j (k+1)=btP n v F i j k ++ [-(btD n v F i j k)]:=by unfold btP; rw [zY,zD,yW]; rfl
open Classical in
def qix (h:TOk F R C) (hR:R<=20) (hC:C<=20) (hr:r<=64) (hc:c<=64) (hn:v.length<=1000000) (hv:∀ x ∈ v,x < 18446744073709551616):ACt 17 [pT R C F,pPn r c v] (.tu [pVs (btA R C F r c v).1,iv (btA R C F r c v).2]):=by
 have C1:=qa1 h;have C2:=qiw hr hc hn hv;have key:chP r c v=0->v.length=r*c/\q0b v:=λq=>chP_0 q hv;have cA:∀ {i j:Nat},i < R->j < C->_:=λ{i j} hi hj=>q5z (i:=i) (j:=j) h hi hj;have hfi:∀ {i j:Nat},i < R->j < C->_:=λ{i j} hi hj=>h.fin (j:=j) (i:=i) hj hi;have cV:=λ(h1:r=R) (h2:c=C) (h3:v.length=r*c) (h4:q0b v) i j hi hj=>q8o (i:=i) (j:=j) hr hc h3 h4 hi hj;obtain ⟨res,hres⟩:∃ res,res=btA R C F r c v:=⟨_,rfl⟩;rw [<- hres];unfold btA btC at hres;have hT:ACt 62 [pT R C F] (iv 0):=C1;have hEb:=λ(h3:q0b v) (hRC:TOk F R R) i j hj=>qcx hRC h3 (i:=i) (j:=j) hj;unfold pT q2M pPn at *;generalize chP r c v=e at *;generalize (tM F R C).1=st at *;generalize (tM F R C).2.1=ix at *;generalize (tM F R C).2.2=vl at *
 by_cases h1:R=C
 rotate_left
 .rw [if_pos h1,if_pos (show (5:Int)≠0 by decide)] at hres;subst hres;have q1:((R:Int) != (C:Int))=true:=by simp; omega
  refine ac0 Tryz.func17 Tryz.ntmps17 [.tmp 4,.tmp 5] ?_;exact wk1 q1 trivial
 have q1:((R:Int) != (C:Int))=false:=by simp; omega
 rw [if_neg (not_not_intro h1)] at hres
 by_cases h2:e=0
 rotate_left
 .rw [if_pos h2,if_pos h2] at hres;subst hres;have q2:(e != 0)=true:=by simpa using h2
  refine ac0 Tryz.func17 Tryz.ntmps17 [.tmp 4,.tmp 5] ?_;exact wk1 (x2 q1 q2) trivial
 obtain ⟨hvl,hvf⟩:=key h2;clear key;subst h2;rw [if_neg (show ¬ (0:Int)≠0 by decide)] at hres
 by_cases h3:r=R
 rotate_left
 .rw [if_pos (show r≠R\/c≠C from .inl h3),if_pos (show (5:Int)≠0 by decide)] at hres;subst hres;have q3:((r:Int) != (R:Int))=true:=by simp; omega
  refine ac0 Tryz.func17 Tryz.ntmps17 [.tmp 4,.tmp 5] ?_;exact wk1 (x2 q1 q3) trivial
 have q3:((r:Int) != (R:Int))=false:=by simp; omega
 by_cases h4:c=C
 rotate_left
 .have q4:((c:Int) != (R:Int))=true:=by simp; omega
  rw [if_pos (show r≠R\/c≠C from .inr h4),if_pos (show (5:Int)≠0 by decide)] at hres;subst hres;refine ac0 Tryz.func17 Tryz.ntmps17 [.tmp 4,.tmp 5] ?_;exact wk1 (x3 q1 q3 q4) trivial
 have q4:((c:Int) != (R:Int))=false:=by simp; omega
 rw [if_neg (show ¬ (r≠R\/c≠C) by omega),if_neg (show ¬ (0:Int)≠0 by decide)] at hres;subst hres;subst h1 h3;obtain rfl:r=c:=h4.symm;replace cV:=cV rfl rfl hvl hvf;replace hEb:=hEb hvf h;have hZb:=λi=>qcw h hvf (i:=i);have C5:=qe8;have N5:=q1Y (V:=q2Y);have N0:=q1Y (V:=0);have hl:(btL r v F).length=r:=q6J;have hlg:∀ i,i < r->(btL r v F)[i]?=some (sg (λj=>((btE r v F i j).natAbs:Int)) r):=λi hi=>q4l hi;have hs0:=λi=>show sg (λj=>((btE r v F i j).natAbs:Int)) 0=0 from rfl;have hss:=λi j=>show sg (λj=>((btE r v F i j).natAbs:Int)) (j+1)=sg (λj=>((btE r v F i j).natAbs:Int)) j+((btE r v F i j).natAbs:Int) from rfl;have hsb:=λi j (hj:j<=r)=>q9K (g:=λj=>((btE r v F i j).natAbs:Int)) (K:=67596) j ω λk hk=>by rw [uU]; exact hEb i k ω
 dsimp only;generalize btL r v F=Bl at *;refine ac0 Tryz.func17 Tryz.ntmps17 [.tmp 4,.tmp 5] ?_;refine wk1 (x3 q1 q3 q4) ?_;refine q0A (λi=>i<=r) [2,3,7] [2,3] Lk Lk (λi:Nat=>[(10,iv i),(9,.ow 1001 (some 4) 0 i)]) (λi=>[(1001,⟨48,some 4,(Bl.take i).map λV=>pV V,false⟩)]) (λi=>r-i) 0 (zC _) ?_ ?_
 .refine LeM [(1001,none)] rfl rfl ?_;refine Zz ?_
  first | done | rfl | exact ⟨rfl,rfl⟩
 .intro i hi;have ll:(Bl.take i).length=i:=by rw [zR]; omega
  by_cases hlt:i < r
  .have l1:(i:Int) < r:=ω
   have g0:=hs0 i;have g1:=hss i;have g2:=hsb i;have gg:=hlg i hlt;generalize hS:sg (λj=>((btE r v F i j).natAbs:Int))=S at *;clear hS hs0 hss hsb hlg;refine wk1 l1 ?_;refine q0A (λj=>j<=r) [2,3,7,9,10,11] [2,3,1001] Lk Lk (λj:Nat=>[(12,iv j)]) (λj=>[(11,⟨48,some 4,[pV (S j)],false⟩)]) (λj=>r-j) 0 (zC _) ?_ ?_
   .refine LeM [] rfl rfl ?_;refine Zz ?_;rw [g0];exact ⟨rfl,qi9 rfl,q0C rfl clV⟩
   .intro j hj
    by_cases hlt2:j < r
    .have l2:(j:Int) < r:=ω
     have hPl:=λk=>qs2 (n:=r) (v:=v) (F:=F) (i:=i) (j:=j) (k:=k);have hPs:=λk=>btP_s (n:=r) (v:=v) (F:=F) (i:=i) (j:=j) (k:=k);have hPe:=qs1 (n:=r) (v:=v) (F:=F) (i:=i) (j:=j);have hP0:btP r v F i j 0=btO i j:=by unfold btP; simp
     have hO1:=qo6 (i:=i) (j:=j);have hO2:=qiI (i:=i) (j:=j);have hOe:=show btO i j=if i=j then [q2Y] else [] from rfl
     have hD:=λk=>show btD r v F i j k=q1W (v.getD (k*r+i) 0) ((F j k).getD 0) from rfl;have hEbi:=hEb i j hlt2;have hPd:∀ z ∈ btP r v F i j r,q0Q z:=λz hz=>by
      unfold btP at hz
      rcases zQ.1 hz with hz | hz
      .have:=hO1 z hz; unfold q0Q; omega
      .obtain ⟨k,hk,rfl⟩:=zK.1 hz;have:=qo7 h hvf (i:=i) hlt2 (zP.1 hk);unfold q0Q; rw [z7]; omega
     have e1:=g1 j;have e2:=g2 (j+1) Oq;generalize btE r v F i j=E at *;generalize btP r v F i j=P at *;generalize btO i j=z at *;have hdy:q0Q E:=by unfold q0Q; omega
     refine wk1 l2 ?_;refine qoy λK hK=>?_;have fin:∀ (s:Nat->PV) (h:Hp),Le (λ_=>False) s h (stM [(2,.pt 2 0 0),(3,.pt 3 0 0),(7,iv r),(9,.ow 1001 (some 4) 0 i),(10,iv i),(11,.pt 11 0 0),(12,iv j),(13,.ow 1003 (some 4) 0 z.length)] []) (hpM [(2,⟨27,some 5,[.ag [iv r,iv r,pI st,pI ix,pF vl]],false⟩),(3,⟨31,some 3,[.ag [iv r,iv r,pF v]],false⟩),(1001,⟨48,some 4,(Bl.take i).map λV=>pV V,false⟩),(11,⟨48,some 4,[pV (S j)],false⟩),(1003,⟨48,some 4,z.map λV=>pV V,false⟩)] [])->K s h:=by
      intro s h hl;refine hK _ _ (q0r hl ?_); clear hK K hl;refine wk ?_;refine q0A (λk=>k<=r) [2,3,7,9,10,11,12] [2,3,11,1001] Lk Lk (λk:Nat=>[(14,iv k),(13,.ow 1002 (some 4) 0 (z.length+k))]) (λk=>[(1002,⟨48,some 4,(P k).map λV=>pV V,false⟩)]) (λk=>r-k) 0 (zC _) ?_ ?_
      .refine LeM [(1002,some 1003)] rfl rfl ?_;refine Zz ?_;rw [hP0];exact ⟨rfl,q0C rfl clV,q0C rfl clV⟩
      .intro k hk;have hln:=hPl k
       by_cases hlt3:k < r
       .have l3:(k:Int) < r:=ω
        have C6:=cV i k hlt hlt3;have C7:=cA hlt3 hlt2;obtain ⟨xf,xu⟩:=hfi hlt3 hlt2;have es:=hPs k;rw [hD k] at es;obtain ⟨y1,y2⟩:=q0V hvf (i:=k*r+i);generalize v.getD (k*r+i) 0=y at *;generalize (F j k).getD 0=x at *;have C8:=q0s xu (q0S xf);have M:=q0n y2 xf;have C9:=q2x M.1;have C10:=@q5B;have N6:=q1Y (V:=ofZ y);have N7:=q1Y (V := -(q1W y x));refine wk1 (x2 l3 hln) ?_;refine ⟨k+1,ω,ω,?_⟩;rw [es];refine LeM [(1002,some 77)] rfl rfl ?_;refine Zz ?_;exact ⟨⟨ω,ω⟩,q0C (by rw [zD]; rfl) clV,q0C rfl clV⟩
       .obtain rfl:k=r:=ω
        have l3:¬ (k:Int) < k:=ω
        have C6:=q3q (l:=P k) ω (by rw [hPe]; exact hdy);rw [hPe] at C6;have C7:=q67 (V:=E);have C8:=q5C (A:=S j) (B:=(E.natAbs:Int)) (by rw [<- e1]; unfold q0Q; omega);rw [<- e1] at C8;have N8:=q1Y (V:=E);have N9:=q1Y (V:=(E.natAbs:Int));have N10:=q1Y (V:=S (j+1));refine wk1 (x2 l3 hln) ?_;refine ⟨j+1,ω,ω,?_⟩;refine LeM [] rfl rfl ?_;refine Zz ?_
        first | exact ⟨ω,q0C rfl clV⟩
     by_cases hij:i=j
     .have q5:((i:Int) == (j:Int))=true:=by simp; omega
      rw [if_pos hij] at hOe;subst hOe;refine wk1 q5 ?_;refine fin _ _ ?_;refine LeM [(1003,some 58)] rfl rfl ?_
      try refine Zz ?_
      exact q0C rfl clV
     .have q5:((i:Int) == (j:Int))=false:=by simp; omega
      rw [if_neg hij] at hOe;subst hOe;refine wk1 q5 ?_;refine fin _ _ ?_;refine LeM [(1003,none)] rfl rfl ?_
      try refine Zz ?_
      exact q0C rfl clV
    .obtain rfl:j=r:=ω
     have l2:¬ (j:Int) < j:=ω
     have es:=q1l gg;have N2:=q1Y (V:=S j);refine wk1 (x2 l2 ll) ?_;refine ⟨i+1,ω,ω,?_⟩;rw [es];refine LeM [(1001,some 86)] rfl rfl ?_;refine Zz ?_;exact ⟨ω,q0C (by rw [zD]; rfl) clV⟩
  .obtain rfl:i=r:=ω
   have l1:¬ (i:Int) < i:=ω
   rw [<- hl,zL];exact wk1 (x2 l1 hl) trivial
end
def ac_2x {f:FuncId} {V U:Int} {x r:PV} (hc:q0K Tryz.prog f=true) (ha:q0Q V/\q0Q U->ACt f [dT V,dT U,x] r):ACt f [pV V,pV U,x] r:=q5R hc (λD w vs hR=>by
 obtain ⟨a,b,c,rfl,h1,h2,h3⟩:=rd_3 hR;obtain ⟨h4,h5⟩:=q2m.2 (qaa h1);obtain ⟨h6,h7⟩:=q2m.2 (qaa h2);refine ⟨?_,h5,h7⟩;unfold RdL;refine ⟨_,_,rfl,h4,?_⟩;unfold RdL;exact ⟨_,_,rfl,h6,RdL.one h3⟩) ha
section
variable {F:Nat->Nat->Option Nat} {n R C r c:Nat} {v:List Nat} {f P:Int}
end
section
variable {f:Nat->Nat->Option Nat} {y:List Nat} {R C J:Nat} {rows:Nat->List Int}
end
section
variable {f:Nat->Nat->Option Nat} {y:List Nat} {R C:Nat}
end
def qe7 {l:List Nat} (hn:l.length<=1000):ACt 312 [pF l] (pP (l.map λv=>(v,0))):=by
 refine ac0 Tryz.func312 Tryz.ntmps312 [.tmp 2] ?_;refine wk ?_;refine q0A (λi=>i<=l.length) [0] [] Lk Lk (λi:Nat=>[(4,iv i),(3,.ow 1001 (some 2) 0 i)]) (λi=>[(1001,⟨272,some 2,((l.take i).map λv=>(v,0)).map λp:Nat × Nat=>.ag [uv p.1,uv p.2],false⟩)]) (λi=>l.length-i) 0 (zC _) ?_ ?_
 .refine LeM [(1001,none)] rfl rfl ?_;refine Zz ?_
  rfl
 .intro i hi;have htl:(l.take i).length=i:=by rw [zR]; omega
  by_cases hlt:i < l.length
  .obtain ⟨x,hx⟩:∃ x,l[i]?=some x:=⟨_,zA hlt⟩;have e:((l.take (i+1)).map λv=>(v,0)).map (λp:Nat × Nat=>PV.ag [uv p.1,uv p.2])=((l.take i).map λv=>(v,0)).map (λp:Nat × Nat=>PV.ag [uv p.1,uv p.2]) ++ [.ag [uv x,uv (0:Nat)]]:=by rw [q1l hx,zD,zD]; rfl
   refine wk1 (x2 hx htl) ?_;refine ⟨i+1,ω,ω,?_⟩;rw [e];refine LeM [(1001,some 18)] rfl rfl ?_;refine Zz ?_;exact ⟨ω,q0C rfl (by rw [<- e]; exact quB)⟩
  .obtain rfl:i=l.length:=ω
   rw [zL];refine wk1 @quB ?_;exact zF σ
def rpL (f:Nat->Nat->Option Nat) (x:List (Nat × Nat)) (b:List Nat) (r:Nat):Nat->List Int
 | 0=>[ofZ (b.getD r 0)]
 | j+1=>rpL f x b r j ++ [-(q1W ((f j r).getD 0) (x.getD j (0,0)).1),-(q1W ((f j r).getD 0) (x.getD j (0,0)).2)]
section
variable {f:Nat->Nat->Option Nat} {x:List (Nat × Nat)} {b:List Nat} {R C r:Nat}
def qf9:∀ j,(rpL f x b r j).length=2*j+1
 | 0=>rfl
 | j+1=>by rw [rpL,uW,qf9 j]; simp; omega
def qf8:∀ j,q1R (rpL f x b r j)=rdZ f x b j r
 | 0=>by unfold rpL rdZ; rw [q28,sg]; omega
 | j+1=>by
  have:rpL f x b r (j+1)=(rpL f x b r j ++ [-(q1W ((f j r).getD 0) (x.getD j (0,0)).1)]) ++ [-(q1W ((f j r).getD 0) (x.getD j (0,0)).2)]:=by rw [rpL,yW]; rfl
  rw [this,q0m,q0m,qf8 j];unfold rdZ;rw [sg];unfold q8A;omega
def qnQ (hx:quA x) (hxl:x.length=C) (h:TOk f R C) (hr:r < R) (hb:q0b b):∀ j,j<=C->∀ z ∈ rpL f x b r j,bl z.natAbs<=67600
 | 0,_,z,hz=>by unfold rpL at hz; simp at hz; subst hz; exact q17 (q9d hb).2
 | j+1,hj,z,hz=>by
  unfold rpL at hz
  rcases zQ.1 hz with hz | hz
  .exact qnQ hx hxl h hr hb j Oq z hz
  .obtain ⟨p,hp⟩:∃ p,x[j]?=some p:=⟨_,zA Oq⟩;have hgp:x.getD j (0,0)=p:=by rw [zI,hp]; rfl
   obtain ⟨⟨_,p2⟩,_,p4⟩:=hx p (zB hp);have hv:=h.fin (j:=j) (i:=r) Oq hr;rw [hgp] at hz;simp at hz
   rcases hz with rfl | rfl
   .rw [z7]; exact (q0n hv.1 p2).2
   .rw [z7]; exact (q0n hv.1 p4).2
def quO (h:TOk f R C) (hR:R<=20) (hC:C<=20) (hx:quA x) (hxl:x.length=C) (hb:q0b b) (hbl:b.length=R):ACt 313 [pT R C f,pP x,pF b] (if ∀ v ∈ rdL f x b C R,q0I v then .tu [pF (rdL f x b C R),bv true] else .tu [pF [],bv false]):=by
 have cA:∀ {i j:Nat},i < R->j < C->_:=λ{i j} hi hj=>q5z (i:=i) (j:=j) h hi hj;have hfi:∀ {i j:Nat},i < R->j < C->_:=λ{i j} hi hj=>h.fin (j:=j) (i:=i) hj hi;have hbd:=λr (hr:r < R)=>qnQ hx hxl h hr hb;have hsm:=λr=>qf8 (f:=f) (x:=x) (b:=b) (r:=r) C;have hln:=λr j=>qf9 (f:=f) (x:=x) (b:=b) (r:=r) j;have hst:=λr j=>show rpL f x b r (j+1)=rpL f x b r j ++ [-(q1W ((f j r).getD 0) (x.getD j (0,0)).1),-(q1W ((f j r).getD 0) (x.getD j (0,0)).2)] from rfl;have hs0:=λr=>show rpL f x b r 0=[ofZ (b.getD r 0)] from rfl;obtain ⟨g,hg⟩:∃ g:Nat->Nat,g=λr=>fR 0 (rdZ f x b C r):=⟨_,rfl⟩;have hgk:=λk=>congrFun hg k;have hle:rdL f x b C R=rwG R g R:=by
  unfold rdL rwG;rw [hg];exact zS λk hk=>by rw [if_pos (zP.1 hk)]
 have hrl:=λm=>q7j (n:=R) (g:=g) (m:=m);have hrs:=λm=>qqD (n:=R) (g:=g) (m:=m);have hrg:=λm i hi=>qqE (n:=R) (g:=g) (m:=m) (i:=i) hi;have hr0:=qqF (n:=R) (g:=g);rw [hle];generalize rwG R g=rw0 at *;generalize rdZ f x b C=Z at *;generalize rpL f x b=P at *;unfold pT q2M at *;generalize (tM f R C).1=st at *;generalize (tM f R C).2.1=ix at *;generalize (tM f R C).2.2=vl at *;clear hg hle;refine ac0 Tryz.func313 Tryz.ntmps313 [.tmp 6,.tmp 7] ?_;refine wk1 hbl ?_;refine q0A (λi=>i<=R/\∀ k,k < i->q0I (g k)) [1,2,3] [3] Lk Lk (λi:Nat=>[(9,iv i),(8,.ow 1001 none 0 R)]) (λi=>[(1001,⟨33,none,(rw0 i).map λz:Nat=>uv z,false⟩)]) (λi=>R-i) 0 ⟨zC _,λ_ h=>by omega⟩ ?_ ?_
 .refine LeM [(1001,some 15)] rfl rfl ?_;refine Zz ?_;exact ⟨rfl,hr0⟩
 .rintro i ⟨hi,hgf⟩
  by_cases hlt:i < R
  .have hlb:(i:Int) < R:=ω
   obtain ⟨y,hy⟩:∃ y,b[i]?=some y:=⟨_,zA Oq⟩;obtain ⟨u1,u2⟩:=hb y (zB hy);have C1:=q0s u1 (q0S u2);have h0:=hs0 i;rw [getD_some hy] at h0;refine wk1 (x3 hlb hbl hy) ?_;refine q0A (λj=>j<=C) [1,2,3,8,9] [3,1001] Lk Lk (λj:Nat=>[(11,iv j),(10,.ow 1002 (some 4) 0 (2*j+1))]) (λj=>[(1002,⟨48,some 4,(P i j).map λV=>pV V,false⟩)]) (λj=>C-j) 0 (zC _) ?_ ?_
   .refine LeM [(1002,some 27)] rfl rfl ?_;refine Zz ?_;rw [h0];exact ⟨rfl,q0C rfl clV⟩
   .intro j hj;have hlj:=hln i j
    by_cases hlt2:j < C
    .have hl2:(j:Int) < C:=ω
     obtain ⟨p,hp⟩:∃ p,x[j]?=some p:=⟨_,zA Oq⟩;have hgp:x.getD j (0,0)=p:=by rw [zI,hp]; rfl
     obtain ⟨⟨p1,p2⟩,p3,p4⟩:=hx p (zB hp);have C2:=cA hlt hlt2;obtain ⟨v2,v1⟩:=hfi hlt hlt2;have hs:=hst i j;rw [hgp] at hs;generalize (f j i).getD 0=v at *;have C3:=q1r v1 p1 (q0S v2) (q0S p2) (q0n v2 p2).1;have C4:=q1r v1 p3 (q0S v2) (q0S p4) (q0n v2 p4).1;have C5:=@q5B;refine wk1 (x4 hl2 hxl hp hlj) ?_;refine ⟨j+1,ω,ω,?_⟩;rw [hs];refine LeM [(1002,some 56)] rfl rfl ?_;refine Zz ?_;exact ⟨⟨ω,ω⟩,q0C (by rw [zD]; rfl) clV⟩
    .obtain rfl:j=C:=ω
     have hl2:¬ (j:Int) < j:=ω
     have hd:=qfF (hbd i hlt j (z6 _)) Oq;have C2:=q3q (l:=P i j) Oq hd;rw [hsm i] at C2;have N2:=q1Y (V:=Z i);have C3:=q4n (A:=Z i);rw [<- hgk i] at C3;have hgl:g i < 18446744073709551616:=by rw [hgk]; exact q2e
     have C5:=q18 hgl;have e1:=hrs i;have e3:(((rw0 i).map λz:Nat=>uv z).set i (uv (g i:Nat)))[i]?=some (uv (g i:Nat)):=z8 (by rw [zE,hrl]; exact hlt)
     by_cases hf:q0I (g i)
     .rw [decide_eq_true hf] at C5;refine wk1 (x5 hl2 hxl hlj (hrl i) e3) ?_;refine ⟨i+1,⟨ω,λk hk=>?_⟩,ω,?_⟩
      .rcases yZ.1 hk with h | rfl
       .exact hgf k h
       .exact hf
      rw [<- e1];refine LeM [] rfl rfl ?_;refine Zz ?_;omega
     .rw [decide_eq_false hf] at C5;rw [if_neg λh=>hf (by
       refine h (g i) (zB (i:=i) ?_);rw [hrg R i hlt,if_pos hlt])]
      exact wk1 (x5 hl2 hxl hlj (hrl i) e3) trivial
  .obtain rfl:i=R:=ω
   have hlb:¬ (i:Int) < i:=ω
   rw [if_pos λz hz=>by
    obtain ⟨k,hk⟩:=z9.1 hz;have hkl:k < i:=by have:=(zJ.1 hk).1; rw [hrl] at this; exact this
    rw [hrg i k hkl,if_pos hkl] at hk;cases hk;exact hgf k hkl]
   exact wk1 (x3 hlb hbl (hrl i)) trivial
end
end Go.Proofs.YtpbaikoblfcmdaaGreatDoor
namespace Go.E
open Go Go.RowKit
def LeE {J:Nat->Prop} {h:Hp} {a n:Nat} {T:TypeId} {xs:List PV} {e:Value} (hJ:∀ i,¬ J i) (hb:h a=some ⟨T,none,xs,false⟩) (hc:ClL xs):Le J (λ_=>.tu [.ow a none 0 n,.vl e]) h (λ_=>.tu [.ow 5000 none 0 n,.vl e]) (q0R h0 5000 ⟨T,none,xs,false⟩):=by
 refine q48 (λi=>if i=5000 then some a else none) (λi b' hb'=>?_) (λi j k b c hi hj ti tj=>?_) (λ_=>.tu rfl λi x y hx hy=>?_) λi hi=>(hJ i hi).elim
 .by_cases hi:i=5000
  .subst hi;rw [q0L] at hb'; cases hb';unfold LeB;exact ⟨_,hb,rfl,rfl,⟨rfl,rfl⟩,q0C rfl hc⟩
  .rw [q0B hi] at hb'; cases hb'
 .split at ti
  .split at tj
   .rename_i e1 e2; rw [e1,e2]
   .cases tj
  .cases ti
 .rcases i with _ | _ | i
  .cases hx; cases hy; exact .ow (if_pos rfl) q0L
  .cases hx; cases hy; exact .cl trivial
  .simp at hx
def LeEn {J:Nat->Prop} {h:Hp} {T:TypeId} {e:Value} (hJ:∀ i,¬ J i):Le J (λ_=>.tu [.vl (.slice none 0 0),.vl e]) h (λ_=>.tu [.ow 5000 none 0 0,.vl e]) (q0R h0 5000 ⟨T,none,[],false⟩):=by
 refine q48 (λ_=>none) (λi b' hb'=>?_) (λi j k b c hi hj ti tj=>by cases ti) (λ_=>.tu rfl λi x y hx hy=>?_) λi hi=>(hJ i hi).elim
 .by_cases hi:i=5000
  .subst hi;rw [q0L] at hb'; cases hb'
   rfl
  .rw [q0B hi] at hb'; cases hb'
 .rcases i with _ | _ | i
  .cases hx; cases hy; exact .nilow rfl q0L rfl
  .cases hx; cases hy; exact .cl trivial
  .simp at hx
end Go.E
namespace Go.Proofs.YtpbaikoblfcmdaaGreatDoor
open Go Go.E Go.Sp
def cLo (f:LUt) (i c:Nat):Nat:=ctV (qaI f.ls f.li f.lv c) i
def cUp (f:LUt) (i c:Nat):Nat:=ctV (qaI f.us f.ui f.uv c) i
open Classical in
noncomputable def lgE (f:LUt) (l:List Nat):List Nat × Int :=
 if qj0 (q6q f) f.rows.length l≠0 then ([],qj0 (q6q f) f.rows.length l) else
  match geL (cLo f) f.rows.length 0 (gaS l f.rows f.rows.length) with
  | none=>([],233)
  | some y=>match geU (cUp f) f.rows.length f.rows.length y with
   | none=>([],233)
   | some z=>(scS z f.cols f.rows.length f.rows.length,0)
def qaF (n:Nat) (g:Nat->Nat->Nat) (k:Nat):List Nat:=(List.range n).map (g k)
def qwS {n:Nat} {g:Nat->Nat->Nat} {k:Nat}:rU n g k=(qaF n g k).map λz:Nat=>uv z:=by
 unfold rU qaF;rw [y8]
 rfl
def q56 {n:Nat} {g:Nat->Nat->Nat} {k c:Nat} (hc:c < n):(qaF n g k)[c]?=some (g k c):=by
 unfold qaF;rw [zH,zG hc]; rfl
def q7n {n:Nat} {g:Nat->Nat->Nat} {k:Nat}:(qaF n g k).length=n:=by unfold qaF; simp
def rst_L {g:Nat->Nat->Nat} {D:Nat->Nat->Nat} {n k:Nat} {ys:List Nat} (hk:k < n) (hy:ys.length=n) (h:∀ c,c < k->g k c=D k c):q1R (q9O (ofZ (ys.getD k 0)) ((qaF n g k).take k) (ys.take k) k)=loZ D ys k:=by
 rw [qf5];unfold loZ
 congr 1
 refine q54 k λi hi=>?_;have h1:((qaF n g k).take k)[i]?=some (g k i):=by rw [yI,if_pos hi]; exact q56 ω
 obtain ⟨y,hy2⟩:∃ y,ys[i]?=some y:=⟨_,zA Oq⟩;have h2:(ys.take k)[i]?=some y:=by rw [yI,if_pos hi]; exact hy2
 rw [getD_some h1,getD_some h2,getD_some hy2,h i hi]
def rst_U {g:Nat->Nat->Nat} {D:Nat->Nat->Nat} {n k:Nat} {ys:List Nat} (hk:k < n) (hy:ys.length=n) (h:∀ c,c < n->g k c=D k c):q1R (q9O (ofZ (ys.getD k 0)) ((qaF n g k).drop (k+1)) (ys.drop (k+1)) (n-(k+1)))=upZ D ys n k:=by
 rw [qf5];unfold upZ
 congr 1
 refine q54 (n-(k+1)) λi hi=>?_;have h1:((qaF n g k).drop (k+1))[i]?=some (g k (k+1+i)):=by rw [yR]; exact q56 ω
 obtain ⟨y,hy2⟩:∃ y,ys[k+1+i]?=some y:=⟨_,zA Oq⟩;have h2:(ys.drop (k+1))[i]?=some y:=by rw [yR]; exact hy2
 rw [getD_some h1,getD_some h2,getD_some hy2,h _ ω]
def qe9 {l:List Nat} {o:List Int} {n:Nat} (hl:l.length=n) (ho:o.length=n) (hn:n<=1000000) (hb:∀ x ∈ o,0<=x/\x < n):qdQ 123 [pF l,pI o] h0 (.ow 5000 none 0 n) (q0R h0 5000 ⟨33,none,(gaS l o n).map λz:Nat=>uv z,false⟩):=by
 have hJ:∀ i,¬ (h0 i≠none):=λi h=>h rfl;unfold gaS;have hgl:∀ m,(rwG n (λk=>l.getD (o.getD k 0).toNat 0) m).length=n:=λ_=>q7j;generalize hg:(λk=>l.getD (o.getD k 0).toNat 0)=g at *;refine qeU qo5 Tryz.func123 rfl Tryz.ntmps123 κ ?_ ?_ ?_ ?_
 .intro i b hb; cases hb
 .exact qgC
 .exact IdL.of λx hx=>by
   simp at hx
   rcases hx with rfl | rfl <;> unfold IdP <;> trivial
 have hW:WfH h0:=⟨λi b hb=>by cases hb⟩;refine wk1 ho ?_;refine q0P (λk=>k<=n) [0,1] [] Lk Lk (λk:Nat=>[(6,iv k),(5,.ow 1001 none 0 n)]) (λk=>[(1001,⟨33,none,(rwG n g k).map λz:Nat=>uv z,false⟩)]) (λ_=>h0) (λk=>n-k) 0 (zC _) ?_ ?_
 .rw [<- qqF];refine LeW [(1001,some 9)] rfl rfl ?_ ?_ (by simp [q0i,q0c,win]) ?_
  .exact Ow
  .exact hW
  .try refine Zz ?_
   simp
 .intro k hk
  by_cases hlt:k < n
  .obtain ⟨x,hx⟩:∃ x,o[k]?=some x:=⟨_,zA Oq⟩;obtain ⟨h1,h2⟩:=hb x (zB hx);obtain ⟨x,rfl⟩:∃ y:Nat,x=y:=⟨x.toNat,ω⟩;obtain ⟨u,hu⟩:∃ u,l[x]?=some u:=⟨_,zA Oq⟩;have hs:=qqD (n:=n) (g:=g) (m:=k);have hgk:g k=u:=by rw [<- hg]; simp only [getD_some hx,zU,getD_some hu]
   rw [hgk] at hs;refine wk1 (x4 ho hx hu (hgl k)) ?_;refine ⟨k+1,ω,ω,?_⟩;refine LeW [] rfl rfl ?_ ?_ (by simp [q0i,q0c,win]) ?_
   .exact Ow
   .exact hW
   .try refine Zz ?_
    rw [<- hs];exact ⟨ω,rfl⟩
  .obtain rfl:k=n:=ω
   have hgk:=hgl k;refine wk1 ho ?_;refine (rtM (rs:=[.tmp 4]) rfl rfl Lq ?_ (.inl rfl));refine LeO hJ ?_ clU
   try simp -implicitDefEqProofs (disch:=omega) only [go_sem,Nat.reduceEqDiff,Nat.reduceAdd,↓reduceIte]
def qwv {f:LUt} {l:List Nat}:IdL win [pLU f,pF l]:=IdL.of λx hx=>by
 simp at hx
 rcases hx with rfl | rfl
 .unfold pLU IdP;unfold IdL IdL IdL IdL IdL IdL IdL IdL IdL;unfold IdP;exact ⟨trivial,trivial,trivial,trivial,trivial,trivial,trivial,trivial,trivial⟩
 .unfold IdP; trivial
def qpE {f:LUt} {l:List Nat} (hb:LUb f) (hn:f.rows.length<=100) (hul:∀ x ∈ l,x < 18446744073709551616) (hl:l.length<=1000000) :
  qdQ 221 [pLU f,pF l] h0 (.tu [.ow 5000 none 0 (lgE f l).1.length,iv (lgE f l).2]) (q0R h0 5000 ⟨33,none,(lgE f l).1.map λz:Nat=>uv z,false⟩):=by
 have hJ:∀ i,¬ (h0 i≠none):=λi h=>h rfl;have cK:=qaL hb;have cS:=qit (e:=q6q f) (n:=f.rows.length) hul hl;refine qeU qoV Tryz.func221 rfl Tryz.ntmps221 κ ?_ ?_ ?_ ?_
 .intro i b hb; cases hb
 .exact qgC
 .exact qwv
 unfold lgE
 by_cases hz0:qj0 (q6q f) f.rows.length l=0
 case neg =>
  rw [if_pos hz0];generalize qj0 (q6q f) f.rows.length l=e at *;generalize q6q f=e2 at *;have q:(e != 0)=true:=by simpa using hz0
  unfold pLU at *;dsimp only at *;refine wk1 q ?_;refine (rtM (rs:=[.tmp 4,.tmp 5]) rfl rfl Lq ?_ (.inl rfl));exact LeEn hJ
 rw [if_neg (not_not_intro hz0)];rw [hz0] at cS;obtain ⟨h1,h2,h3⟩:=qvi hz0;rw [h1] at cK cS;have hf:=qic hb h1;have hfl:q0b l:=λx hx=>⟨hul x hx,h3 x hx⟩;have hrb:∀ x ∈ f.rows,0<=x/\x < f.rows.length:=λx hx=>hf.rp.2.1 x hx;have hcb:∀ x ∈ f.cols,0<=x/\x < f.rows.length:=λx hx=>hf.cp.2.1 x hx;have hcl:f.cols.length=f.rows.length:=by have:=hf.cp.1; omega
 have cG:=qe9 (l:=l) (o:=f.rows) (n:=f.rows.length) h2 rfl Oq hrb;have hgl:=qgt (l:=l) (o:=f.rows) (n:=f.rows.length);have hgf:=qgu (o:=f.rows) (n:=f.rows.length) hfl;generalize gaS l f.rows f.rows.length=g at *;have cD:=qlk (f:=f) rfl hn hf.L hf.U;have vL:∀ {i j:Nat},i < f.rows.length->j < i->dnT (dnD f.rows.length) (qaI f.ls f.li f.lv) f.rows.length i j=cLo f i j:=λhi hj=>dnL_v hf.L.nd Oq hj;have vU:∀ {i j:Nat},j < f.rows.length->dnT (λ_ _=>0) (qaI f.us f.ui f.uv) f.rows.length i j=cUp f i j:=λhj=>dnU_v hf.U.nd hj;have fL:∀ {i j:Nat},j < f.rows.length->cLo f i j < 18446744073709551616/\q0I (cLo f i j):=λhj=>qht hf.L hj;have fU:∀ {i j:Nat},j < f.rows.length->cUp f i j < 18446744073709551616/\q0I (cUp f i j):=λhj=>qht hf.U hj;have dU:∀ k,k < f.rows.length->ofZ (cUp f k k)≠0:=λk hk=>by
  obtain ⟨m,x,m1,m2,m3⟩:=hf.dg k hk;have:=qhs (t:=m.length) (e:=(k,x)) (hf.U.nd k hk) (by rw [m1]; simp);unfold cUp;rw [this];exact m2
 obtain ⟨gl,hgl2⟩:∃ q,q=dnT (dnD f.rows.length) (qaI f.ls f.li f.lv) f.rows.length:=⟨_,rfl⟩;obtain ⟨gu,hgu2⟩:∃ q,q=dnT (λ_ _=>0) (qaI f.us f.ui f.uv) f.rows.length:=⟨_,rfl⟩;rw [<- hgl2,<- hgu2] at cD;simp only [<- hgl2] at vL;simp only [<- hgu2] at vU;clear hgl2 hgu2 hf;generalize cLo f=DL at *;generalize cUp f=DU at *;generalize hnn:f.rows.length=n at *;unfold pLU at *;obtain ⟨F,hF⟩:∃ F:List Nat->List Nat × Int,F=λy=>(match geU DU n n y with
   | none=>([],233)
   | some z=>(scS z f.cols n n,(0:Int))):=⟨_,rfl⟩
 obtain ⟨res,hres⟩:∃ q,q=(match geL DL n 0 g with
  | none=>([],233)
  | some y=>F y):=⟨_,rfl⟩
 have hres':=hres;rw [hF] at hres';rw [<- hres'];clear hres';refine wk1 hnn ?_;refine qox λK hK=>?_;refine Zz1 hnn ?_;refine jm cG ?_ (λi hi=>(hi trivial).elim) ?_
 .change Wn _ _;exact Ow
 try refine Zz ?_
 refine hK _ _ ?_; clear hK K;clear cG;have hW:WfH h0:=⟨λi b hb=>by cases hb⟩;refine wk ?_;refine q0r (LeT (hw:=h0) (λi=>if i=1001 then some 5000 else if i=5000 then none else some i) (λi hi=>(hJ i hi).elim) (λi hi hw=>?_) (λi b hw hb=>?_) (λi j x hi hj ti tj=>?_) (xs:=[(2,.pt 2 0 0),(6,iv n),(8,tU n gl),(9,tU n gu),(10,.ow 1001 none 0 n),(11,iv 0)]) (kv:=[]) (bs:=[(2,⟨99,some 8,[.ag [pI f.rows,pI f.cols,pI f.ls,pI f.li,pF f.lv,pI f.us,pI f.ui,pF f.uv]],false⟩),(1001,⟨33,none,g.map λz:Nat=>uv z,false⟩)]) (kb:=[]) ?_) ?_
 .simp at hi;unfold win at hw;omega
 .cases hb
 .have a1:∀ i,(win i/\(h0:Hp) i≠none\/i ∈ List.map (·.1) [(2,(⟨99,some 8,[.ag [pI f.rows,pI f.cols,pI f.ls,pI f.li,pF f.lv,pI f.us,pI f.ui,pF f.uv]],false⟩:Bk)),(1001,⟨33,none,g.map λz:Nat=>uv z,false⟩)] ++ [])->i=2\/i=1001:=λi hi=>by
   rcases hi with ⟨_,hi⟩ | hi
   .exact absurd rfl hi
   .simpa using hi
  rcases a1 i hi with rfl | rfl <;> rcases a1 j hj with rfl | rfl <;> simp at ti tj <;> omega
 .try simp -implicitDefEqProofs (disch:=omega) only [go_sem,Nat.reduceEqDiff,Nat.reduceAdd,↓reduceIte]
 refine q0P (λq:Nat × List Nat=>q.1<=n/\q.2.length=n/\q0b q.2/\(match geL DL (n-q.1) q.1 q.2 with | none=>([],233) | some y=>F y)=res) [2,6,8,9] [2] Lk Lk (λq=>[(11,iv q.1),(10,.ow 1001 none 0 n)]) (λq=>[(1001,⟨33,none,q.2.map λz:Nat=>uv z,false⟩)]) (λ_=>h0) (λq=>n-q.1) (0,g) ⟨zC _,hgl,hgf,hres.symm⟩ ?_ ?_
 .refine LeW [] rfl rfl ?_ ?_ (by simp [q0i,q0c,win]) ?_
  .exact Ow
  .exact hW
  .try refine Zz ?_
   rfl
 .rintro ⟨k,ys⟩ ⟨hk,hy,hfy,hv⟩;simp only at hk hy hfy hv ⊢
  by_cases hlt:k < n
  .have hlt':(k:Int) < n:=ω
   obtain ⟨u,hu⟩:∃ u,ys[k]?=some u:=⟨_,zA Oq⟩;obtain ⟨u1,u2⟩:=hfy u (zB hu);have rk:(List.range n)[k]?=some k:=zG hlt;have hrf:q0b ((qaF n gl k).take k):=λx hx=>by
    obtain ⟨c,hc⟩:=z9.1 hx;have hck:c < k:=by have:=(zJ.1 hc).1; rw [zR] at this; omega
    rw [yI,if_pos hck,q56 ω] at hc;cases hc;rw [vL hlt hck];exact fL Oq
   have hrl:((qaF n gl k).take k).length=k:=by rw [zR,q7n]; omega
   have hS:=rst_L (g:=gl) (D:=DL) (n:=n) (k:=k) (ys:=ys) hlt hy λc hc=>vL hlt hc;rw [getD_some hu] at hS;rw [show n-k=(n-(k+1))+1 by omega,geL] at hv;have cR:=qb6 (B:=ofZ u) (l:=(qaF n gl k).take k) (x:=ys.take k) (q17 u2) hrf (qhT hfy) (by rw [hrl,zR]; omega) ω;rw [hrl,hS] at cR;generalize loZ DL ys k=S at *;unfold pF at cR;rw [List.map_take,List.map_take,<- qwS] at cR;have cZ:=q1Y (V:=S);have cO1:=q0s u1 (q0S u2);have cQ:=@q4n S;have hqlt:fR 0 S < 18446744073709551616:=q2e;generalize fR 0 S=v at *;have cF:=q18 hqlt;have es1:slP (some 1) none (some (iv (k:Int))) (.sl none (rU n gl k))=some (.sl none ((rU n gl k).take k)):=by
    simp [slP,qbR,ksz];omega
   have es2:slP (some 1) none (some (iv (k:Int))) (.ow 1001 none 0 n)=some (.ow 1001 none 0 k):=by
    simp [slP,qbR,ksz];omega
   have hset:((ys.map λz:Nat=>uv z).set k (uv (v:Nat)))[k]?=some (uv (v:Nat)):=z8 (by rw [zE]; omega)
   by_cases hfx:q0I v
   .rw [decide_eq_true hfx] at cF;rw [if_pos hfx] at hv;refine wk1 (x6 hlt' hu rk es1 es2 (x2 hy hset)) ?_;refine ⟨(k+1,ys.set k v),⟨by simp only; omega,by simp only; rw [xC]; exact hy,q5g hfy hqlt hfx,hv⟩,by simp only; omega,?_⟩;simp only;refine LeW [] rfl rfl ?_ ?_ (by simp [q0i,q0c,win]) ?_
    .exact Ow
    .exact hW
    .try refine Zz ?_
     rfl
   .rw [decide_eq_false hfx] at cF;rw [if_neg hfx] at hv;subst hv;refine wk1 (x6 hlt' hu rk es1 es2 (x2 hy hset)) ?_;refine (rtM (rs:=[.tmp 4,.tmp 5]) rfl rfl Lq ?_ (.inl rfl));exact LeEn hJ
  .obtain rfl:n=k:=ω
   have hlt':¬ (n:Int) < n:=ω
   rw [xQ,geL] at hv;simp only [hF] at hv;clear hF hres;refine wk1 hlt' ?_;refine q0P (λq:Nat × List Nat=>q.1<=n/\q.2.length=n/\q0b q.2/\(match geU DU n q.1 q.2 with | none=>([],233) | some z=>(scS z f.cols n n,(0:Int)))=res) [2,6,8,9] [2] Lk Lk (λq=>[(12,iv ((q.1:Int)-1)),(10,.ow 1001 none 0 n)]) (λq=>[(1001,⟨33,none,q.2.map λz:Nat=>uv z,false⟩)]) (λ_=>h0) (λq=>q.1) (n,ys) ⟨z6 _,hy,hfy,hv⟩ ?_ ?_
   .refine LeW [] rfl rfl ?_ ?_ (by simp [q0i,q0c,win]) ?_
    .exact Ow
    .exact hW
    .try simp -implicitDefEqProofs (disch:=omega) only [go_sem,Nat.reduceEqDiff,Nat.reduceAdd,↓reduceIte]
   .clear hv hy hfy;rintro ⟨k,ys⟩ ⟨hk,hy,hfy,hv⟩;simp only at hk hy hfy hv ⊢
    by_cases hlt:k=0
    .subst hlt;rw [geU] at hv;simp only at hv;subst hv;have cS2:=qaK (l:=ys) (o:=f.cols) hy hcl Oq hcb;have hsl:=q7i (x:=ys) (o:=f.cols) (n:=n) n;dsimp only;rw [hsl];generalize scS ys f.cols n n=x at *;refine wk ?_;refine q0r (LeT (hw:=h0) (λi=>if i=1001 then none else some i) (λi hi=>(hJ i hi).elim) (λi hi hw=>?_) (λi b hw hb=>?_) (λi j x hi hj ti tj=>?_) (xs:=[(2,.pt 2 0 0),(10,pF ys)]) (kv:=[]) (bs:=[(2,⟨99,some 8,[.ag [pI f.rows,pI f.cols,pI f.ls,pI f.li,pF f.lv,pI f.us,pI f.ui,pF f.uv]],false⟩)]) (kb:=[]) ?_) ?_
     .simp at hi;unfold win at hw;omega
     .cases hb
     .split at ti <;> split at tj <;> cases ti <;> cases tj <;> rfl
     .try refine Zz ?_
      try exact q49 rfl clU (λi hi=>by split at hi <;> cases hi; omega) (by rw [yB]; exact zF (by rw [zE]; omega))
     refine qox λK hK=>?_;refine Zz ?_;refine jm cS2 ?_ (λi hi=>(hi trivial).elim) ?_
     .change Wn _ _;exact Ow
     try refine Zz ?_
     refine hK _ _ ?_; clear hK K;refine wk ?_;refine (rtM (rs:=[.tmp 4,.tmp 5]) rfl rfl Lq ?_ (.inl rfl));refine LeE hJ ?_ clU
     try simp -implicitDefEqProofs (disch:=omega) only [go_sem,Nat.reduceEqDiff,Nat.reduceAdd,↓reduceIte]
    .obtain ⟨k,rfl⟩:∃ k',k=k'+1:=⟨k-1,ω⟩;have hkn:k < n:=ω
     obtain ⟨u,hu⟩:∃ u,ys[k]?=some u:=⟨_,zA Oq⟩;obtain ⟨u1,u2⟩:=hfy u (zB hu);have rk:(List.range n)[k]?=some k:=zG hkn;have hrf:q0b (qaF n gu k):=λx hx=>by
      obtain ⟨c,hc⟩:=z9.1 hx;have hck:c < n:=by have:=(zJ.1 hc).1; rwa [q7n] at this
      rw [q56 hck] at hc;cases hc;rw [vU hck];exact fU hck
     have hrl:((qaF n gu k).drop (k+1)).length=n-(k+1):=by rw [yF,q7n]
     have hS:=rst_U (g:=gu) (D:=DU) (n:=n) (k:=k) (ys:=ys) hkn hy λc hc=>vU hc;rw [getD_some hu] at hS;rw [geU] at hv;have cR:=qb6 (B:=ofZ u) (l:=(qaF n gu k).drop (k+1)) (x:=ys.drop (k+1)) (q17 u2) (q9h hrf) (q9h hfy) (by rw [hrl,yF]; omega) ω;rw [hrl,hS] at cR;have hdz:=dU k hkn;have hkk:=vU (i:=k) (j:=k) hkn;obtain ⟨d1,d2⟩:=fU (i:=k) (j:=k) hkn;rw [<- hkk] at hdz d1 d2 hv;generalize upZ DU ys n k=S at *;unfold pF at cR;rw [List.map_drop,List.map_drop,<- qwS] at cR;have cZ:=q1Y (V:=S);have cO1:=q0s u1 (q0S u2);have cO2:=q0s d1 (q0S d2);have cQ:=qe6 (qad (A:=S) (mode:=0) hdz);have hqlt:fQ 0 S (ofZ (gu k k)) < 18446744073709551616:=qhX hdz;generalize fQ 0 S (ofZ (gu k k))=v at *;have cF:=q18 hqlt;have ek:((k+1:Nat):Int)-1=(k:Int):=ω
     have wj:(k:Int)+1=((k+1:Nat):Int):=rfl;have ww:IntKind.i64.wrap ((k+1:Nat):Int)=((k+1:Nat):Int):=i64_in Oq Oq;have es1:slP (some 1) (some (iv ((k+1:Nat):Int))) none (.sl none (rU n gu k))=some (.sl none ((rU n gu k).drop (k+1))):=by
      simp [slP,qbR,ksz];rw [if_pos ω,yL,if_pos ω,zF (by simp [rU])]
     have es2:slP (some 1) (some (iv ((k+1:Nat):Int))) none (.ow 1001 none 0 n)=some (.ow 1001 none (k+1) (n-(k+1))):=by
      simp [slP,qbR,ksz];rw [if_pos ω,yL,if_pos ω]
     have htk:((ys.map λz:Nat=>uv z).drop (k+1)).take (n-(k+1))=(ys.map λz:Nat=>uv z).drop (k+1):=zF (by rw [yF,zE]; omega);have hset:((ys.map λz:Nat=>uv z).set k (uv (v:Nat)))[k]?=some (uv (v:Nat)):=z8 (by rw [zE]; omega)
     by_cases hfx:q0I v
     .rw [decide_eq_true hfx] at cF;rw [if_pos hfx] at hv;refine wk1 (x6 ek wj ww htk hu (x4 rk es1 es2 hset)) ?_;refine ⟨(k,ys.set k v),⟨by simp only; omega,by simp only; rw [xC]; exact hy,q5g hfy hqlt hfx,hv⟩,by simp only; omega,?_⟩;simp only;refine LeW [] rfl rfl ?_ ?_ (by simp [q0i,q0c,win]) ?_
      .exact Ow
      .exact hW
      .try simp -implicitDefEqProofs (disch:=omega) only [go_sem,Nat.reduceEqDiff,Nat.reduceAdd,↓reduceIte]
     .rw [decide_eq_false hfx] at cF;rw [if_neg hfx] at hv;subst hv;refine wk1 (x6 ek wj ww htk hu (x4 rk es1 es2 hset)) ?_;refine (rtM (rs:=[.tmp 4,.tmp 5]) rfl rfl Lq ?_ (.inl rfl));exact LeEn hJ

def rgL (G:Nat->Nat->Option Nat) (i:Nat):Nat->List Int
 | 0=>[q2Y]
 | k+1=>if k=i then rgL G i k else rgL G i k ++ [((ofZ ((G k i).getD 0)).natAbs:Int),((ofZ ((G i k).getD 0)).natAbs:Int)]
def rgF (G:Nat->Nat->Option Nat) (n j i:Nat):Option Nat:=if i=j then some (fR 2 (q1R (rgL G i n))) else G j i
def qfc {G:Nat->Nat->Option Nat} {n i:Nat} (h:TOk G n n) (hi:i < n):∀ k,k<=n->(rgL G i k).length<=2*k+1/\∀ x ∈ rgL G i k,bl x.natAbs<=67600
 | 0,_=>⟨z6 _,λx hx=>by unfold rgL at hx; simp at hx; subst hx; exact q4w.2⟩
 | k+1,hk=>by
  obtain ⟨h1,h2⟩:=qfc h hi k Oq;unfold rgL
  split
  .exact ⟨ω,h2⟩
  .refine ⟨by simp; omega,λx hx=>?_⟩
   rcases zQ.1 hx with hx | hx
   .exact h2 x hx
   .simp at hx
    rcases hx with rfl | rfl <;> rw [uU]
    .exact q17 (h.fin Oq Oq).1
    .exact q17 (h.fin Oq Oq).1
def qde {raw:List Nat} {st:Int} {n:Nat} (hr:raw.length<=9223372036854775807) (hn:n<=100) (h3 : -9223372036854775808<=st) (h4:st<=9223372036854775807) :
  ACt 58 [pF raw,iv n,iv st] (pT n n (rgF (gF raw n (q0Y (q0Y st 3:Nat) 4)) n)):=by
 have hs3:q0Y st 3 < 3:=by unfold q0Y; omega
 have hnn:n*n<=100*100:=zM hn hn;have cM:=q5M (a:=st) (n:=3) h3 h4 Oq Oq;have cG:=q6Y (raw:=raw) (st:=(q0Y st 3:Nat)) (R:=n) (C:=n) hr Oq Oq Oq Oq;have hG:=qrU (raw:=raw) (R:=n) (C:=n) (st:=q0Y (q0Y st 3:Nat) 4) Oq Oq Oq;generalize gF raw n (q0Y (q0Y st 3:Nat) 4)=G at *;have cA:∀ {i j:Nat},i < n->j < n->_:=λ{i j} hi hj=>q5z (i:=i) (j:=j) hG hi hj;have cS:∀ {i j:Nat},i < n->j < n->_:=λ{i j} hi hj=>qdZ (i:=i) (j:=j) hG hi hj;generalize hFn:rgF G n=F;have hpt:pT n n F=pM n n (tM F n n):=rfl;have hpG:pT n n G=q2M n n (tM G n n).1 (tM G n n).2.1 (tM G n n).2.2:=rfl;rw [hpG] at cG;simp only [hpG] at cA cS;rw [hpt];clear hpG hpt;unfold q2M at cG cA cS;generalize (tM G n n).1=gs at *;generalize (tM G n n).2.1=gi at *;generalize (tM G n n).2.2=gv at *;have c1:=q2z (z:=1) Oq Oq q4w.1;refine ac0 Tryz.func58 Tryz.ntmps58 [.cell 6 27] ?_;refine wk ?_;refine q0A (λj=>j<=n) [1,6,7,8] [6,7] Lk Lk (λj:Nat=>[(9,iv j)]) (λj=>[(8,⟨27,some 5,[.ag [iv n,iv n,.ow 1001 none 0 (tM F n j).1.length,.ow 1002 none 0 (tM F n j).2.1.length,.ow 1003 none 0 (tM F n j).2.2.length]],false⟩),(1001,⟨3,none,(tM F n j).1.map λz=>iv z,false⟩),(1002,⟨3,none,(tM F n j).2.1.map λz=>iv z,false⟩),(1003,⟨33,none,(tM F n j).2.2.map λz:Nat=>uv z,false⟩)]) (λj=>n-j) 0 (zC _) ?_ ?_
 .refine LeM [(1001,some 21),(1002,none),(1003,none)] rfl rfl ?_;refine Zz ?_;exact ⟨rfl,⟨rfl,rfl,rfl⟩,rfl,rfl,rfl⟩
 .intro j hj;have hg:=q11 (f:=F) (R:=n) j;have hjn:j*n<=100*100:=zM Oq hn;refine wk ?_
  by_cases hlt:j < n
  .have hlt':(j:Int) < n:=ω
   refine wk1 hlt' ?_;have hM1:(tM F n (j+1)).1=(tM F n j).1 ++ [((tC F j (tM F n j).2 n).1.length:Int)]:=rfl;have hM2:(tM F n (j+1)).2=tC F j (tM F n j).2 n:=rfl;generalize (tM F n j).1=ms at *;generalize (tM F n j).2=mp at *;refine q0A (λi=>i<=n) [1,6,7,8,9] [6,7,1001] Lk Lk (λi:Nat=>[(10,iv i)]) (λi=>[(8,⟨27,some 5,[.ag [iv n,iv n,.ow 1001 none 0 ms.length,.ow 1002 none 0 (tC F j mp i).1.length,.ow 1003 none 0 (tC F j mp i).2.length]],false⟩),(1002,⟨3,none,(tC F j mp i).1.map λz=>iv z,false⟩),(1003,⟨33,none,(tC F j mp i).2.map λz:Nat=>uv z,false⟩)]) (λi=>n-i) 0 (zC _) ?_ ?_
   .refine LeM [] rfl rfl ?_;refine Zz ?_;exact ⟨rfl,⟨rfl,rfl⟩,rfl,rfl⟩
   .intro i hi;have hq:=q6z (f:=F) (j:=j) hg.2.1 i;refine wk ?_
    by_cases hlt2:i < n
    .have hlt2':(i:Int) < n:=ω
     refine wk1 hlt2' ?_
     by_cases hij:i=j
     .have e1:((i:Int) == (j:Int))=true:=by simp; omega
      have hF:F j i=some (fR 2 (q1R (rgL G i n))):=by rw [<- hFn]; unfold rgF; rw [if_pos hij]
      obtain ⟨z,hz⟩:∃ z,z=fR 2 (q1R (rgL G i n)):=⟨_,rfl⟩;rw [<- hz] at hF;have eg:=qfE (p:=mp) hF;refine wk1 e1 ?_;refine q0A (λk=>k<=n) [1,6,7,8,9,10] [6,7,8,1001,1002,1003] Lk Lk (λk:Nat=>[(12,iv k),(11,.ow 1004 (some 4) 0 (rgL G i k).length)]) (λk=>[(1004,⟨48,some 4,(rgL G i k).map λV=>pV V,false⟩)]) (λk=>n-k) 0 (zC _) ?_ ?_
      .refine LeM [(1004,some 37)] rfl rfl ?_;refine Zz ?_;exact ⟨⟨rfl,rfl⟩,q0C rfl clV⟩
      .intro k hk;obtain ⟨d1,d2⟩:=qfc hG hlt2 k hk;refine wk ?_
       by_cases hlk:k < n
       .have hlk':(k:Int) < n:=ω
        refine wk1 hlk' ?_
        by_cases hki:k=i
        .have e2:((k:Int) != (i:Int))=false:=by simp; omega
         have es:rgL G i (k+1)=rgL G i k:=by rw [rgL,if_pos hki]
         refine wk1 e2 ?_;refine ⟨k+1,ω,ω,?_⟩;rw [es];refine LeM [] rfl rfl ?_;refine Zz ?_;exact ⟨ω,q0C rfl clV⟩
        .have e2:((k:Int) != (i:Int))=true:=by simp; omega
         obtain ⟨u,hu⟩:∃ u,u=(G k i).getD 0:=⟨_,rfl⟩;obtain ⟨v,hv⟩:∃ u,u=(G i k).getD 0:=⟨_,rfl⟩;obtain ⟨f1,f2⟩:=hG.fin (j:=k) (i:=i) hlk hlt2;obtain ⟨g1,g2⟩:=hG.fin (j:=i) (i:=k) hlt2 hlk;have cE:=cA hlt2 hlk;have cE2:=cA hlk hlt2;rw [<- hu] at f1 f2 cE;rw [<- hv] at g1 g2 cE2;have cO:=q0s f2 (q0S f1);have cO2:=q0s g2 (q0S g1);have es:rgL G i (k+1)=rgL G i k ++ [((ofZ u).natAbs:Int),((ofZ v).natAbs:Int)]:=by rw [rgL,if_neg hki,hu,hv]
         have C1:=@q67;refine wk1 e2 ?_;refine ⟨k+1,ω,ω,?_⟩;rw [es];refine LeM [(1004,some 60)] rfl rfl ?_;refine Zz ?_;exact ⟨ω,q0C σ clV⟩
       .have hlk':¬ (k:Int) < n:=ω
        obtain rfl:k=n:=ω
        have hsd:=qfF d2 Oq;have C2:=q3q (l:=rgL G i k) Oq hsd;have C3:=q1Y (V:=q1R (rgL G i k));have C4:=q2w (V:=q1R (rgL G i k)) (mode:=2);rw [<- hz] at C4;refine wk1 hlk' ?_;refine ⟨i+1,ω,ω,?_⟩;rw [eg];refine LeM [(1002,some 65),(1003,some 73)] rfl rfl ?_;refine Zz ?_;omega
     .have e1:((i:Int) == (j:Int))=false:=by simp; omega
      have hF:F j i=G j i:=by rw [<- hFn]; unfold rgF; rw [if_neg hij]
      have C5:=(cS hlt2 hlt);refine wk1 e1 ?_;have cE:=cA hlt2 hlt;cases hx:G j i with
      | none =>
       rw [hx] at hF;have eg:=qd2 (p:=mp) hF;have ei:(none:Option Nat).isSome=false:=rfl;refine wk1 ei ?_;refine ⟨i+1,ω,ω,?_⟩;rw [eg];refine LeM [] rfl rfl ?_;refine Zz ?_;omega
      | some z =>
       rw [hx] at hF cE;rw [Option.getD_some] at cE;have eg:=qfE (p:=mp) hF;have ei:(some z).isSome=true:=rfl;refine wk1 ei ?_;refine ⟨i+1,ω,ω,?_⟩;rw [eg];refine LeM [(1002,some 83),(1003,some 92)] rfl rfl ?_;refine Zz ?_;omega
    .have hlt2':¬ (i:Int) < n:=ω
     obtain rfl:i=n:=ω
     refine wk1 hlt2' ?_;refine ⟨j+1,ω,ω,?_⟩;rw [hM1,hM2];refine LeM [(1001,some 100)] rfl rfl ?_;refine Zz ?_;omega
  .have hlt':¬ (j:Int) < n:=ω
   obtain rfl:j=n:=ω
   exact wk1 hlt' trivial
def qfd {raw:List Nat} {R k i:Nat} (hk:k < 3):∀ m,∀ x ∈ rgL (gF raw R k) i m,bl x.natAbs<=66000
 | 0,x,hx=>by unfold rgL at hx; simp at hx; subst hx; exact q3C
 | m+1,x,hx=>by
  unfold rgL at hx
  split at hx
  .exact qfd hk m x hx
  .rcases zQ.1 hx with hx | hx
   .exact qfd hk m x hx
   .simp at hx
    rcases hx with rfl | rfl
    all_goals
     rw [uU];exact gF_bl hk
def qwF {raw:List Nat} {n k:Nat} (hn:n<=100) (hk:k < 3):TOk (rgF (gF raw n k) n) n n:=by
 have hnn:n*n<=100*100:=zM hn hn;have hG:=qrU (raw:=raw) (R:=n) (C:=n) (st:=k) Oq Oq Oq;have key:∀ i,i < n->q0I (fR 2 (q1R (rgL (gF raw n k) i n))):=λi hi=>by
  have hl:=(qfc hG hi n (z6 _)).1;have h1:=q6A (K:=66000) (qfd (raw:=raw) (R:=n) (i:=i) hk n) (i:=(rgL (gF raw n k) i n).length) Oq;rw [zL] at h1;obtain ⟨c,hc⟩:∃ c,c=900:=⟨_,rfl⟩;obtain ⟨K,hK⟩:∃ K,K=65536:=⟨_,rfl⟩;refine qxl hK hc (Nat.lt_of_lt_of_le (q2j _) ?_);rw [<- xG];exact xH Oq Oq
 refine ⟨hG.r,hG.c,hG.m,λj i x hj hi h=>?_,λj i x hj hi h=>?_⟩
 .unfold rgF at h
  split at h
  .have h:=xT.inj h; rw [<- h]; exact q2e
  .exact hG.u j i x hj hi h
 .unfold rgF at h
  split at h
  .have h:=xT.inj h; rw [<- h]; exact key i hi
  .exact hG.v j i x hj hi h
def qxj {F:Nat->Nat->Option Nat} {mi:List Int} {n:Nat} {cols:List Int} {num den:Nat} (hn:n<=100) (hc:cols.length<=1000000):LUb (qnz F mi n cols num den)/\(qnz F mi n cols num den).rows.length<=n:=by
 have hnn:n*n<=100*100:=zM hn hn;unfold qnz
 by_cases h:(q3Z F mi n cols num den n).1=0
 .rw [if_pos h];have hG:=qax (F:=F) (mi:=mi) (n:=n) (cols:=cols) (num:=num) (den:=den) n h;generalize (q3Z F mi n cols num den n).2.2=S at *;have k1:∀ j i x,fLt S j i=some x->q0I x/\x < 18446744073709551616:=λj i x hx=>by
   unfold fLt at hx
   split at hx
   .cases hx; exact hG.l _ _
   .cases hx
  have k2:∀ j i x,fUt S j i=some x->q0I x/\x < 18446744073709551616:=λj i x hx=>by
   unfold fUt at hx
   split at hx
   .cases hx; exact hG.u _ _
   .cases hx
  have h1:TOk (fLt S) n n:=⟨ω,ω,ω,λj i x _ _ hx=>(k1 j i x hx).2,λj i x _ _ hx=>(k1 j i x hx).1⟩;have h2:TOk (fUt S) n n:=⟨ω,ω,ω,λj i x _ _ hx=>(k2 j i x hx).2,λj i x _ _ hx=>(k2 j i x hx).1⟩;have l1:=q11 (f:=fLt S) (R:=n) n;have l2:=q11 (f:=fUt S) (R:=n) n;have hrl:=hG.len;unfold qwx;refine ⟨⟨?_,hc,?_,?_,?_,?_,?_,?_,h1.vl.2.2.2,h2.vl.2.2.2⟩,?_⟩ <;> dsimp only <;> (try rw [zE]) <;> omega
 .rw [if_neg h];exact ⟨⟨σ,σ,σ,σ,σ,σ,σ,σ,σ,σ⟩,zC _⟩
end Go.Proofs.YtpbaikoblfcmdaaGreatDoor
namespace Go.Sp
open Go Go.E
def qvp {z:Int} {K:Nat}:decide (z*(2:Int) ^ K < 0)=decide (z < 0):=by
 have hp:=q0H K;rw [decide_eq_decide]
 constructor
 .intro h
  rcases Int.lt_or_le z 0 with h1 | h1
  .exact h1
  .have:=Int.mul_nonneg h1 (Int.le_of_lt hp); omega
 .intro h; exact Int.mul_neg_of_neg_of_pos h hp
def rF_K {z y:Int} {neg:Bool} (K:Nat) (hz:z≠0) (hy:y≠0):rF 0 neg (z*(2:Int) ^ K).natAbs (y*(2:Int) ^ K).natAbs=rF 0 neg z.natAbs y.natAbs:=by
 rw [q0E,q0E];exact q3U Oq Oq (q0G K)
def fQ_K {z y:Int} (K:Nat) (hz:z≠0) (hy:y≠0):fQ 0 (z*(2:Int) ^ K) (y*(2:Int) ^ K)=rF 0 (decide (z < 0) != decide (y < 0)) z.natAbs y.natAbs:=by
 have hp:=q0H K;unfold fQ;rw [if_neg (Int.mul_ne_zero hz (xR hp)),qvp,qvp,rF_K K hz hy]
def qrW:flz 1=4607182418800017408:=by
 have h1:flz 1=fQ 0 (1*(2:Int) ^ 65536) (1*(2:Int) ^ 65536):=by
  have:=ql1 (x:=1) (y:=1) Oq Oq;rw [xU] at this;exact this.symm
 rw [h1,fQ_K 65536 Oq ω]
 show rF 0 false 1 1=4607182418800017408
 kernel_rfl
end Go.Sp
namespace Go.Proofs.YtpbaikoblfcmdaaGreatDoor
open Go Go.E Go.Sp
def q7Y {f:LUt} {l:List Nat} (hb:LUb f) (hn:f.rows.length<=100) (hul:∀ x ∈ l,x < 18446744073709551616) (hl:l.length<=1000000):ACt 221 [pLU f,pF l] (.tu [pF (lgE f l).1,iv (lgE f l).2]):=by
 refine qm3 (ids:=[5000]) (qpE hb hn hul hl) ?_;generalize (lgE f l).1=xs;generalize (lgE f l).2=e;have h1:q20 (q0R h0 5000 ⟨33,none,xs.map λz:Nat=>uv z,false⟩) (.ow 5000 none 0 xs.length)=some (pF xs,[5000]):=by
  unfold q20;dsimp only;rw [q0L,yL,if_pos ⟨rfl,rfl,λx hx=>clU x hx⟩,yB,zF (by rw [zE]; exact z6 _)]
 have h2:q20 (q0R h0 5000 ⟨33,none,xs.map λz:Nat=>uv z,false⟩) (iv e)=some (iv e,[]):=by
  unfold q20;dsimp only;exact if_pos trivial
 unfold q2f q2f q2f clo;simp only [h1,h2]
 rfl
open Classical in
noncomputable def rfR (R C:Nat) (f:LUt) (steps:Int):Int:=if q6q f≠0 then q6q f else if R≠f.rows.length\/C≠f.rows.length then 5 else if steps < 0\/64 < steps then 350 else 0
section
variable (C:Nat) (F:Nat->Nat->Option Nat) (f:LUt) (b:List Nat) (dbl:Bool)
open Classical in
noncomputable def rfL:Nat->List (Nat × Nat)->List Nat->List Nat->List (Nat × Nat) × List Nat × Int
 | 0,x,_,l=>(x,l,0)
 | k+1,x,r,l =>
  if q1q r C=0 then (x,l,0) else
  if (lgE f r).2≠0 then ([],[],(lgE f r).2) else
  if ¬ ∀ p ∈ chL dbl x (lgE f r).1 C,q0I p.1 then ([],[],233) else
  if ¬ ∀ v ∈ rdL F (chL dbl x (lgE f r).1 C) b C C,q0I v then ([],[],233) else
  if ofZ (q1q r C) < 2*ofZ (q1q (rdL F (chL dbl x (lgE f r).1 C) b C C) C) then (x,l,0) else
  rfL k (chL dbl x (lgE f r).1 C) (rdL F (chL dbl x (lgE f r).1 C) b C C) (l ++ [q1q (rdL F (chL dbl x (lgE f r).1 C) b C C) C])
open Classical in
noncomputable def rfS (R:Nat) (steps:Int):List (Nat × Nat) × List Nat × Int :=
 if rfR R C f steps≠0 then ([],[],rfR R C f steps) else
 if (lgE f b).2≠0 then ([],[],(lgE f b).2) else
 if ¬ ∀ v ∈ rdL F ((lgE f b).1.map λv=>(v,0)) b C C,q0I v then ([],[],233) else
 rfL C F f b dbl steps.toNat ((lgE f b).1.map λv=>(v,0)) (rdL F ((lgE f b).1.map λv=>(v,0)) b C C) [q1q (rdL F ((lgE f b).1.map λv=>(v,0)) b C C) C]
end
def qjk {R C:Nat} {f:LUt} {steps:Int} (h:rfR R C f steps=0):q6q f=0/\R=f.rows.length/\C=f.rows.length/\0<=steps/\steps<=64:=by
 unfold rfR at h
 split at h
 .exact absurd h (by assumption)
 .split at h
  .cases h
  .split at h
   .cases h
   .exact ⟨Classical.not_not.1 (by assumption),ω,ω,ω,ω⟩
def qf1 {x:List Nat} {o:List Int} {n:Nat} (hx:q0b x):∀ k,q0b (scS x o n k)
 | 0=>λv hv=>by
  unfold scS at hv;rw [xM] at hv;rw [hv.2]; exact ⟨ω,by unfold q0I; simp⟩
 | k+1=>λv hv=>by
  unfold scS at hv
  rcases yG hv with hv | rfl
  .exact qf1 hx k v hv
  .exact qc4 hx _
def q7O {f:LUt} {l:List Nat} (hb:LUb f) (hul:∀ x ∈ l,x < 18446744073709551616) (h:(lgE f l).2=0):q6q f=0/\l.length=f.rows.length/\q0b l/\(lgE f l).1.length=f.rows.length/\q0b (lgE f l).1:=by
 unfold lgE at h ⊢
 by_cases hz:qj0 (q6q f) f.rows.length l=0
 case neg=>rw [if_pos hz] at h; exact absurd h hz
 rw [if_neg (not_not_intro hz)] at h ⊢;obtain ⟨h1,h2,h3⟩:=qvi hz;have hf:=qic hb h1;have hfl:q0b l:=λx hx=>⟨hul x hx,h3 x hx⟩;have hlr:∀ y,geL (cLo f) f.rows.length 0 (gaS l f.rows f.rows.length)=some y->y.length=f.rows.length/\q0b y:=λy hy=>qgs _ _ _ y qgt (qgu hfl) hy;have dU:∀ k,k < f.rows.length->ofZ (cUp f k k)≠0:=λk hk=>by
  obtain ⟨m,x,m1,m2,m3⟩:=hf.dg k hk;have:=qhs (t:=m.length) (e:=(k,x)) (hf.U.nd k hk) (by rw [m1]; simp);unfold cUp;rw [this];exact m2
 refine ⟨h1,h2,hfl,?_⟩;generalize geL (cLo f) f.rows.length 0 (gaS l f.rows f.rows.length)=R1 at *;cases R1 with
 | none=>cases h
 | some y =>
  obtain ⟨q1,q2⟩:=hlr y rfl;have hur:∀ z,geU (cUp f) f.rows.length f.rows.length y=some z->z.length=f.rows.length/\q0b z:=λz hz=>qgr dU _ y z (z6 _) q1 q2 hz;dsimp only at h ⊢;generalize geU (cUp f) f.rows.length f.rows.length y=R2 at *;cases R2 with
  | none=>cases h
  | some z=>exact ⟨q7i _,qf1 (hur z rfl).2 _⟩
section
variable {dbl:Bool} {x:List (Nat × Nat)} {d l:List Nat} {n:Nat}
def qbO:(chL dbl x d n).length=n:=by unfold chL; simp
def qiD (h:∀ p ∈ chL dbl x d n,q0I p.1):quA (chL dbl x d n):=λp hp=>by
 have h1:=h p hp;obtain ⟨j,_,rfl⟩:=zK.1 hp;unfold chV at h1 ⊢;dsimp only at h1 ⊢;refine ⟨⟨q2e,h1⟩,?_⟩;generalize hv:fR 0 (chT (x.getD j (0,0)) (d.getD j 0)-ofZ (fR 0 (chT (x.getD j (0,0)) (d.getD j 0))))=v;have h2:v < 18446744073709551616/\q0I v:=by rw [<- hv]; exact ⟨q2e,qwz h1⟩
 cases dbl
 .rw [if_neg (by decide)]; exact ⟨ω,by unfold q0I; omega⟩
 .rw [if_pos rfl]; exact h2
def qqZ (h:q0b l):quA (l.map λv=>(v,0)):=λp hp=>by
 obtain ⟨v,hv,rfl⟩:=zK.1 hp;exact ⟨h v hv,σ,by simp [q0I]⟩
def rwQ (n:Nat) (g:Nat->Nat × Nat) (m:Nat):List (Nat × Nat):=(List.range n).map λj=>if j < m then g j else (0,0)
def qqC {g:Nat->Nat × Nat} {m:Nat}:(rwQ n g m).length=n:=by simp [rwQ]
def rwQ_s {g:Nat->Nat × Nat} {m:Nat}:(rwQ n g m).set m (g m)=rwQ n g (m+1):=by
 unfold rwQ;refine List.ext_getElem? λi=>?_;rw [List.getElem?_set,zH,zH,zE,zX]
 by_cases h:i < n
 .rw [zG h,yN,yN]
  by_cases h2:m=i
  .subst h2;rw [if_pos rfl,if_pos h,if_pos ω]
  .rw [if_neg h2]
   by_cases h3:i < m
   .rw [if_pos h3,if_pos ω]
   .rw [if_neg h3,if_neg ω]
 .rw [yK (by simpa using h)]
  by_cases h2:m=i
  .rw [if_pos h2,if_neg ω]; rfl
  .rw [if_neg h2]; rfl
def rwQ_0 {g:Nat->Nat × Nat}:List.replicate n (0,0)=rwQ n g 0:=by
 unfold rwQ;refine List.ext_getElem? λi=>?_;rw [zH,List.getElem?_replicate]
 by_cases h:i < n
 .rw [zG h,if_pos h,yN,if_neg ω]
 .rw [yK (by simpa using h),if_neg h]; rfl
def rwQ_n:rwQ n (λj=>chV dbl (x.getD j (0,0)) (d.getD j 0)) n=chL dbl x d n:=by
 unfold rwQ chL;exact zS λj hj=>if_pos (zP.1 hj)
def qbt {r:List Nat} (h:q0b r):q1q r r.length < 9223372036854775808/\q0I (q1q r r.length):=qa4 h _ (z6 _)
end
section
variable {f g:Nat}
def q8Q {l:List Nat} (hl:∀ x ∈ l,x < 18446744073709551616/\q03 x≠3) (hn:l.length<=1000):ACt 244 [pF l] (bv false):=by
 refine ac0 Tryz.func244 Tryz.ntmps244 [.tmp 2] ?_;refine wk ?_;refine q0A (λi=>i<=l.length) [5,6] [] Lk Lk (λi:Nat=>[(7,iv i)]) (λ_=>[]) (λi=>l.length-i) 0 (zC _) ?_ ?_
 .refine LeM [] rfl rfl ?_;refine Zz ?_
  rfl
 .intro i hi
  by_cases hlt:i < l.length
  .obtain ⟨x,hx⟩:∃ x,l[i]?=some x:=⟨_,zA hlt⟩;obtain ⟨h1,h2⟩:=hl x (zB hx);have C1:=q8R h1;have q:(((q03 x:Nat):Int) == 3)=false:=by
    simp; omega
   refine wk1 (x2 hx q) ?_;refine ⟨i+1,ω,ω,?_⟩;refine LeM [] rfl rfl ?_;refine Zz ?_;omega
  .exact wk trivial
def q8S (hf:f < 18446744073709551616) (h:q03 f≠3) (hg:g < 18446744073709551616) (hgf:q03 g≠3):ACt 153 [uv f,uv g] (.tu [iv (qbL (q1M f) (q1M g)),bv true]):=by
 have C1:ACt 244 [.sl none [uv f,uv g]] (bv false):=q8Q (l:=[f,g]) (λx hx=>by simp at hx; rcases hx with rfl | rfl <;> exact ⟨by assumption,by assumption⟩) σ;have N1:Nz (bv false):=qcM;have C2:=q9j hf;have C3:=q9j hg;unfold qbL;generalize q1M f=x at *;generalize q1M g=y at *;refine ac0 Tryz.func153 Tryz.ntmps153 [.tmp 4,.tmp 5] ?_
 by_cases h1:x < y
 .rw [if_pos h1];exact wk trivial
 .rw [if_neg h1]
  by_cases h2:y < x
  .rw [if_pos h2];exact wk trivial
  .rw [if_neg h2];exact wk trivial
def q7r (hf:f < 18446744073709551616) (h:q03 f≠3):ACt 75 [uv f] (bv false):=by
 have:=qfj hf
 rwa [decide_eq_false h] at this
end
section
variable {l:List Nat}
end
end Go.Proofs.YtpbaikoblfcmdaaGreatDoor
namespace Go.E
open Go Go.RowKit
def qoo {T:TypeId} {id n:Nat} {k:Kd} {h h':Hp} {l:List PV} [NL] (h1:h id=some ⟨T,k,l,false⟩) (hc:ClL l) (h2:h' id=none) (hn:l.length=n):LeV (q0c []) h h' (.ow id k 0 n) (.sl k l):=q49 (T:=T) (l:=l) h1 hc (λi hi=>by
 have hi:some i=some id:=hi;cases hi;exact h2) (by rw [yB]; exact zF ω)
end Go.E
namespace Go.Sp
open Go.E Go.Proofs.YtpbaikoblfcmdaaGreatDoor
def q6S {x:Nat} (h:¬ (x / 4503599627370496 % 2048=2047/\x % 4503599627370496≠0)):q03 x≠3:=by
 unfold q03;rw [if_neg h]
 split
 .omega
 .split <;> omega
def qca {mode:Int} {neg:Bool} {n:Nat} {q:Int} (hn:n < 9007199254740992):q03 (q4e mode neg n q)≠3:=by
 refine q6S ?_;unfold q4e
 split
 .unfold sb
  split <;> omega
 .split
  .unfold q7J sb
   split <;> split <;> omega
  .obtain ⟨m,hm⟩:∃ m,m=(q+1075).toNat:=⟨_,rfl⟩;have:m<=2046:=ω
   rw [<- hm];unfold sb
   split <;> omega
def qhU {mode:Int} {neg:Bool} {n:Nat} {q:Int} (hn:n<=9007199254740992):q03 (fin mode neg n q)≠3:=by
 unfold fin
 split
 .exact qca Oq
 .exact qca Oq
def qoA {mode a b:Int} (hb:b≠0):q03 (fQ mode a b)≠3:=by
 unfold fQ
 split
 .exact q6S Oq
 .rename_i ha;obtain ⟨u,r,_,h,_,h4,_⟩:=q3j (mode:=mode) (neg:=decide (a < 0) != decide (b < 0)) (N:=a.natAbs) (D:=b.natAbs) (K:=1074) Oq Oq Oq;rw [h];exact qhU h4
end Go.Sp
namespace Go.Proofs.YtpbaikoblfcmdaaGreatDoor
open Go Go.E Go.Sp
def unN (n j:Nat):List Nat:=(List.replicate n 0).set j 4607182418800017408
section
variable {f:Nat->Nat->Option Nat} {g:LUt} {R C n j:Nat}
def qep:(unN n j).length=n:=by unfold unN; simp
def qpT:∀ x ∈ unN n j,x < 18446744073709551616:=λx hx=>by
 unfold unN at hx
 rcases yG hx with h | h
 .have:=(xM.1 h).2; omega
 .omega
def unN_v:(List.replicate n (PV.vl (.int .u64 0))).set j (PV.vl (.int .u64 4607182418800017408))=(unN n j).map λz:Nat=>uv z:=by
 unfold unN;rw [List.map_set,xN]
 rfl
end
end Go.Proofs.YtpbaikoblfcmdaaGreatDoor
namespace Go.Sp
open Go Go.E Go.Proofs.YtpbaikoblfcmdaaGreatDoor
def q6f (mode:Int) (a b:Nat):Nat:=if ¬ q0I b then b else if q2J a=0/\a=b then a else if ofZ a+ofZ b=0 then (if mode=1 then 9223372036854775808 else 0) else fR mode (ofZ a+ofZ b)
def qa2 (mode:Int) (a b:Nat):Nat:=q6f mode a (q5L b)
def q89 {mode:Int} {a b:Nat} (ha:a < 18446744073709551616) (hb:b < 18446744073709551616):q6f mode a b < 18446744073709551616:=by
 unfold q6f
 split
 .exact hb
 .split
  .exact ha
  .split
   .split <;> omega
   .exact q2e
def q96 {b:Nat} (h:¬ q0I b) (h2:q03 b≠3):q03 b=2:=by
 unfold q0I at h;unfold q03 at *
 split at h2
 .exact absurd rfl h2
 .rename_i h3;rw [if_neg h3]
  split
  .rfl
  .rename_i h4; exact absurd h4 h
def q4I {b:Nat} (h:q0I b):q03 b≠2:=by
 unfold q0I at h;unfold q03;rw [if_neg λq=>h q.1,if_neg h]
 split <;> omega
def q6O {b:Nat} (hb:b < 18446744073709551616):q5L b < 18446744073709551616:=by unfold q5L; split <;> omega
def q4F {b:Nat} (hb:b < 18446744073709551616):q03 (q5L b)=q03 b:=by
 have h1:q5L b / 4503599627370496 % 2048=b / 4503599627370496 % 2048:=by unfold q5L; split <;> omega
 have h2:q5L b % 4503599627370496=b % 4503599627370496:=by unfold q5L; split <;> omega
 unfold q03;rw [h1,h2]
def qcN {b:Nat} (hb:b < 18446744073709551616):q0I (q5L b) ↔ q0I b:=by
 have h1:q5L b / 4503599627370496 % 2048=b / 4503599627370496 % 2048:=by unfold q5L; split <;> omega
 unfold q0I;rw [h1]
def qaz {mode V:Int}:q03 (fR mode V)≠3:=by
 obtain ⟨D,hD⟩:∃ D:Nat,D=2 ^ 65536:=⟨_,rfl⟩;have hp:0 < D:=by rw [hD]; exact Nat.two_pow_pos 65536
 unfold fR;rw [<- hD];clear hD
 split
 .exact q6S Oq
 .obtain ⟨u,r,_,h,_,h4,_⟩:=q3j (mode:=mode) (neg:=decide (V < 0)) (N:=V.natAbs) (D:=D) (K:=1074) Oq hp Oq;rw [h];exact qhU h4
end Go.Sp
namespace Go.Proofs.YtpbaikoblfcmdaaGreatDoor
open Go Go.E Go.Sp
section
variable {mode A:Int} {a b:Nat}
def q4y (hm:mode=0\/mode=1\/mode=2) (hA:q0Q A):ACt 91 [dT A,iv mode] (uv (fR mode A:Nat)):=by
 obtain ⟨hd1,hd2,hd3⟩:=q1A hA;have C1:=q70 hA;have C2:=q3v hA;have C3:=quR hA;refine ac0 Tryz.func91 Tryz.ntmps91 [.tmp 4] ?_
 by_cases hz:A=0
 .have q1:(A.sign == 0)=true:=by rw [hz]; rfl
  rw [show ((fR mode A:Nat):Int)=0 by rw [show fR mode A=0 from if_pos hz]; rfl];exact wk1 q1 trivial
 .have q1:(A.sign == 0)=false:=by
   rw [beq_eq_false_iff_ne]; intro h; exact hz (zV.1 h)
  have hod:=q3m hz;have C4:=q5P (mode:=mode) (N:=(od A).natAbs) (M:=1) (neg:=decide (od A < 0)) (e:=dyE A) hm Nat.one_pos ω (by rw [Nat.mod_one]; intro h; exact absurd rfl h) (by rw [Nat.div_one]; omega) ω ω;rw [Nat.div_one,Nat.mod_one,show decide ((0:Nat)≠0)=false from rfl,rE_V hz,q1w,show rF mode (decide (A < 0)) A.natAbs (2 ^ 65536)=fR mode A from (if_neg hz).symm] at C4;rw [<- q1w] at C4;exact wk1 q1 trivial
def qh1 (hb:b < 18446744073709551616):ACt 276 [uv b] (bv (decide (q03 b=2))):=by
 have C1:=q8R hb
 by_cases h:q03 b=2
 .rw [decide_eq_true h];have q:(((q03 b:Nat):Int) == 2)=true:=by rw [h]; rfl
  refine ac0 Tryz.func276 Tryz.ntmps276 [.tmp 2] ?_;exact wk1 q trivial
 .rw [decide_eq_false h];have q:(((q03 b:Nat):Int) == 2)=false:=by simp; omega
  refine ac0 Tryz.func276 Tryz.ntmps276 [.tmp 2] ?_;exact wk1 q trivial
def qlY (hb:b < 18446744073709551616):ACt 277 [uv b] (bv (decide (q2J b=0))):=by
 have C1:=q8R hb;have hk:=q95 hb
 by_cases h:q2J b=0
 .rw [decide_eq_true h];have q:(((q03 b:Nat):Int) == 0)=true:=by rw [hk.2 h]; rfl
  refine ac0 Tryz.func277 Tryz.ntmps277 [.tmp 2] ?_;exact wk1 q trivial
 .rw [decide_eq_false h];have q:(((q03 b:Nat):Int) == 0)=false:=by
   have:q03 b≠0:=λe=>h (hk.1 e);simp; omega
  refine ac0 Tryz.func277 Tryz.ntmps277 [.tmp 2] ?_;exact wk1 q trivial
def qfn (hb:b < 18446744073709551616):ACt 80 [uv b] (bv (decide (q03 b=2))):=by
 have C1:=q4E hb
 by_cases h:q03 b=2
 .rw [decide_eq_true h];have q:(((q03 b:Nat):Int) == 2)=true:=by rw [h]; rfl
  refine ac0 Tryz.func80 Tryz.ntmps80 [.tmp 2] ?_;exact wk1 q trivial
 .rw [decide_eq_false h];have q:(((q03 b:Nat):Int) == 2)=false:=by simp; omega
  refine ac0 Tryz.func80 Tryz.ntmps80 [.tmp 2] ?_;exact wk1 q trivial
def qff (hb:b < 18446744073709551616):ACt 81 [uv b] (bv (decide (q2J b=0))):=by
 have C1:=q4E hb;have hk:=q95 hb
 by_cases h:q2J b=0
 .rw [decide_eq_true h];have q:(((q03 b:Nat):Int) == 0)=true:=by rw [hk.2 h]; rfl
  refine ac0 Tryz.func81 Tryz.ntmps81 [.tmp 2] ?_;exact wk1 q trivial
 .rw [decide_eq_false h];have q:(((q03 b:Nat):Int) == 0)=false:=by
   have:q03 b≠0:=λe=>h (hk.1 e);simp; omega
  refine ac0 Tryz.func81 Tryz.ntmps81 [.tmp 2] ?_;exact wk1 q trivial
def ql3 (hf:b < 18446744073709551616) (h:q03 b≠3):ACt 275 [uv b] (uv (q5L b:Nat)):=by
 have C1:ACt 244 [.sl none [uv b]] (bv false):=q8Q (l:=[b]) (λx hx=>by simp at hx; subst hx; exact ⟨hf,h⟩) σ;have N1:Nz (bv false):=qcM;have h1:=qb8 hf;rw [show (if b < 9223372036854775808 then b+9223372036854775808 else b-9223372036854775808)=q5L b from rfl] at h1;refine ac0 Tryz.func275 Tryz.ntmps275 [.tmp 2] ?_;exact wk1 h1 trivial
def qjs (hf:b < 18446744073709551616) (h:q03 b≠3):ACt 79 [uv b] (uv (q5L b:Nat)):=by
 have C1:=q7r hf h;have h1:=qb8 hf;rw [show (if b < 9223372036854775808 then b+9223372036854775808 else b-9223372036854775808)=q5L b from rfl] at h1;refine ac0 Tryz.func79 Tryz.ntmps79 [.tmp 2] ?_;exact wk1 h1 trivial
def qbA (hm:mode=0\/mode=1\/mode=2):ACt 278 [iv mode] (uv ((if mode=1 then 9223372036854775808 else 0:Nat):Nat)):=by
 have C1:ACt 272 [uv 0,bv true] (uv 9223372036854775808):=q19 (f:=0) (neg:=true) Oq;have C2:ACt 272 [uv 0,bv false] (uv 0):=q19 (f:=0) (neg:=false) Oq
 rcases hm with rfl | rfl | rfl
 .rw [if_neg (show ¬ (0:Int)=1 by decide)];have q:((0:Int) == 1)=false:=rfl;refine ac0 Tryz.func278 Tryz.ntmps278 [.tmp 2] ?_;refine wk1 q ?_
  rfl
 .rw [if_pos rfl];refine ac0 Tryz.func278 Tryz.ntmps278 [.tmp 2] ?_;refine wk ?_
  rfl
 .rw [if_neg (show ¬ (2:Int)=1 by decide)];have q:((2:Int) == 1)=false:=rfl;refine ac0 Tryz.func278 Tryz.ntmps278 [.tmp 2] ?_;refine wk1 q ?_
  rfl
def qfo (hm:mode=0\/mode=1\/mode=2):ACt 83 [iv mode] (uv ((if mode=1 then 9223372036854775808 else 0:Nat):Nat)):=by
 rcases hm with rfl | rfl | rfl
 .rw [if_neg (show ¬ (0:Int)=1 by decide)];have q:((0:Int) == 1)=false:=rfl;refine ac0 Tryz.func83 Tryz.ntmps83 [.tmp 2] ?_;refine wk1 q ?_
  rfl
 .rw [if_pos rfl];refine ac0 Tryz.func83 Tryz.ntmps83 [.tmp 2] ?_;refine wk ?_
  rfl
 .rw [if_neg (show ¬ (2:Int)=1 by decide)];have q:((2:Int) == 1)=false:=rfl;refine ac0 Tryz.func83 Tryz.ntmps83 [.tmp 2] ?_;refine wk1 q ?_
  rfl
def qoh (ha:q0I a) (hb:q0I b):q0Q (ofZ a+ofZ b):=by
 have:=q2E (q6n ha) (q6n hb);unfold q0Q; omega
def qh3 (hm:mode=0\/mode=1\/mode=2) (ha:a < 18446744073709551616/\q0I a) (hb:b < 18446744073709551616) (hk:q03 b≠3):ACt 193 [uv a,uv b,iv mode] (uv (q6f mode a b:Nat)):=by
 have C1:ACt 244 [.sl none [uv a,uv b]] (bv false):=q8Q (l:=[a,b]) (λx hx=>by simp at hx; rcases hx with rfl | rfl; exact ⟨ha.1,q0p ha.2⟩; exact ⟨hb,hk⟩) σ;have N1:Nz (bv false):=qcM;have C2:=qh1 ha.1;rw [decide_eq_false (q4I ha.2)] at C2;have C3:=qh1 hb;have C4:=qlY ha.1;unfold q6f
 by_cases hf:q0I b
 rotate_left
 .rw [if_pos hf];rw [decide_eq_true (q96 hf hk)] at C3;refine ac0 Tryz.func193 Tryz.ntmps193 [.tmp 6] ?_;exact wk trivial
 rw [if_neg (not_not_intro hf)];rw [decide_eq_false (q4I hf)] at C3;have C5:=q3D ha.1 (q0S ha.2);have C6:=q3D hb (q0S hf);have hd:=qoh ha.2 hf;have C7:=q5o (q2l ha.2) (q2l hf) hd;have C8:=q3v hd;have C9:=qbA hm;have C10:=q4y hm hd;generalize hV:ofZ a+ofZ b=V at *;clear hV
 by_cases hz:q2J a=0
 .by_cases he:a=b
  .rw [if_pos ⟨hz,he⟩];subst he;rw [decide_eq_true hz] at C4;have q:((a:Int) == (a:Int))=true:=σ
   refine ac0 Tryz.func193 Tryz.ntmps193 [.tmp 6] ?_;exact wk1 q trivial
  .rw [if_neg λq=>he q.2];rw [decide_eq_true hz] at C4;have q:((a:Int) == (b:Int))=false:=by simp; omega
   by_cases h0:V=0
   .subst h0;rw [if_pos rfl];rw [show (0:Int).sign=0 from rfl] at C8;refine ac0 Tryz.func193 Tryz.ntmps193 [.tmp 6] ?_;exact wk1 q trivial
   .rw [if_neg h0];have q1:(V.sign == 0)=false:=by
     rw [beq_eq_false_iff_ne]; intro h; exact h0 (zV.1 h)
    refine ac0 Tryz.func193 Tryz.ntmps193 [.tmp 6] ?_;exact wk1 (x2 q q1) trivial
 .rw [if_neg λq=>hz q.1];rw [decide_eq_false hz] at C4
  by_cases h0:V=0
  .subst h0;rw [if_pos rfl];rw [show (0:Int).sign=0 from rfl] at C8;refine ac0 Tryz.func193 Tryz.ntmps193 [.tmp 6] ?_;exact wk trivial
  .rw [if_neg h0];have q1:(V.sign == 0)=false:=by
    rw [beq_eq_false_iff_ne]; intro h; exact h0 (zV.1 h)
   refine ac0 Tryz.func193 Tryz.ntmps193 [.tmp 6] ?_;exact wk1 q1 trivial
def qrp (hm:mode=0\/mode=1\/mode=2) (ha:a < 18446744073709551616/\q0I a) (hb:b < 18446744073709551616) (hk:q03 b≠3):ACt 192 [uv a,uv b,iv mode] (uv (qa2 mode a b:Nat)):=by
 have C1:=ql3 hb hk;have C2:=qh3 hm ha (q6O hb) (by rw [q4F hb]; exact hk);unfold qa2;refine ac0 Tryz.func192 Tryz.ntmps192 [.tmp 6] ?_;exact wk trivial
def q7t (hm:mode=0\/mode=1\/mode=2) (ha:a < 18446744073709551616/\q0I a) (hb:b < 18446744073709551616) (hk:q03 b≠3):ACt 23 [uv a,uv b,iv mode] (uv (q6f mode a b:Nat)):=by
 have C1:=q7r ha.1 (q0p ha.2);have D1:=q7r hb hk;have C2:=qfn ha.1;rw [decide_eq_false (q4I ha.2)] at C2;have C3:=qfn hb;have C4:=qff ha.1;unfold q6f
 by_cases hf:q0I b
 rotate_left
 .rw [if_pos hf];rw [decide_eq_true (q96 hf hk)] at C3;refine ac0 Tryz.func23 Tryz.ntmps23 [.tmp 6] ?_;exact wk trivial
 rw [if_neg (not_not_intro hf)];rw [decide_eq_false (q4I hf)] at C3;have C5:=q0s ha.1 (q0S ha.2);have C6:=q0s hb (q0S hf);have hd:=qoh ha.2 hf;have C7:=q5C (A:=ofZ a) (B:=ofZ b) hd;have C8:=q4U (V:=ofZ a+ofZ b);have C9:=qfo hm;have C10:=q2w (V:=ofZ a+ofZ b) (mode:=mode);have N2:=q1Y (V:=ofZ a);have N3:=q1Y (V:=ofZ b);have N4:=q1Y (V:=ofZ a+ofZ b);generalize hV:ofZ a+ofZ b=V at *;clear hV
 by_cases hz:q2J a=0
 .by_cases he:a=b
  .rw [if_pos ⟨hz,he⟩];subst he;rw [decide_eq_true hz] at C4;have q:((a:Int) == (a:Int))=true:=σ
   refine ac0 Tryz.func23 Tryz.ntmps23 [.tmp 6] ?_;exact wk1 q trivial
  .rw [if_neg λq=>he q.2];rw [decide_eq_true hz] at C4;have q:((a:Int) == (b:Int))=false:=by simp; omega
   by_cases h0:V=0
   .subst h0;rw [if_pos rfl];rw [show (0:Int).sign=0 from rfl] at C8;refine ac0 Tryz.func23 Tryz.ntmps23 [.tmp 6] ?_;exact wk1 q trivial
   .rw [if_neg h0];have q1:(V.sign == 0)=false:=by
     rw [beq_eq_false_iff_ne]; intro h; exact h0 (zV.1 h)
    refine ac0 Tryz.func23 Tryz.ntmps23 [.tmp 6] ?_;exact wk1 (x2 q q1) trivial
 .rw [if_neg λq=>hz q.1];rw [decide_eq_false hz] at C4
  by_cases h0:V=0
  .subst h0;rw [if_pos rfl];rw [show (0:Int).sign=0 from rfl] at C8;refine ac0 Tryz.func23 Tryz.ntmps23 [.tmp 6] ?_;exact wk trivial
  .rw [if_neg h0];have q1:(V.sign == 0)=false:=by
    rw [beq_eq_false_iff_ne]; intro h; exact h0 (zV.1 h)
   refine ac0 Tryz.func23 Tryz.ntmps23 [.tmp 6] ?_;exact wk1 q1 trivial
def qac (hm:mode=0\/mode=1\/mode=2) (ha:a < 18446744073709551616/\q0I a) (hb:b < 18446744073709551616) (hk:q03 b≠3):ACt 22 [uv a,uv b,iv mode] (uv (qa2 mode a b:Nat)):=by
 have C1:=qjs hb hk;have C2:=q7t hm ha (q6O hb) (by rw [q4F hb]; exact hk);unfold qa2;refine ac0 Tryz.func22 Tryz.ntmps22 [.tmp 6] ?_;exact wk trivial
end
def mlk (k:Nat) (z:Int):Prop:=∃ m:Int,z=m*(2:Int) ^ (65536-k)
def qdp {k:Nat}:mlk k 0:=⟨0,(Int.zero_mul _).symm⟩
def q8E {k:Nat} {a b:Int} (ha:mlk k a) (hb:mlk k b):mlk k (a+b):=by
 obtain ⟨x,rfl⟩:=ha;obtain ⟨y,rfl⟩:=hb;exact ⟨x+y,(Int.add_mul _ _ _).symm⟩
def qgU {k:Nat} {a:Int} (ha:mlk k a):mlk k (-a):=by
 obtain ⟨x,rfl⟩:=ha;exact ⟨-x,(yX _ _).symm⟩
def q6R {k:Nat} {a b:Int} (ha:mlk k a) (hb:mlk k b):mlk k (a-b):=by
 rw [Int.sub_eq_add_neg];exact q8E ha (qgU hb)
def qgW {k:Nat} {a:Int} (ha:mlk k a):mlk k (a.natAbs:Int):=by
 by_cases h:0<=a
 .rw [show (a.natAbs:Int)=a by omega]; exact ha
 .rw [show (a.natAbs:Int) = -a by omega]; exact qgU ha
def q4G {j k:Nat} {a:Int} (h:j<=k) (hk:k<=65536) (ha:mlk j a):mlk k a:=by
 obtain ⟨x,rfl⟩:=ha;exact ⟨x*(2:Int) ^ (k-j),by rw [zW,<- yE,show k-j+(65536-k)=65536-j by omega]⟩
def q9X {k:Nat} {g:Nat->Int}:∀ n,(∀ i,i < n->mlk k (g i))->mlk k (sg g n)
 | 0,_=>qdp
 | n+1,h=>q8E (q9X n λi hi=>h i Oq) (h n Oq)
def q5N {v:Nat} (h:q0I v):mlk 1074 (ofZ v):=qkA h
def qgT {j k K:Nat} {a b c:Int} (hK:K=65536) (ha:mlk j a) (hb:mlk k b) (hjk:j+k<=65536) (h:a*b=c*(2:Int) ^ K):mlk (j+k) c:=by
 obtain ⟨x,hx⟩:=ha;obtain ⟨y,hy⟩:=hb;refine ⟨x*y,yU (xR (q0H K)) ?_⟩;rw [<- h,hx,hy];have:∀ p q:Int,x*p*(y*q)=x*y*(p*q):=λp q=>by rw [zW,zW,yJ p y q]
 rw [this,zW (x*y),<- yE,<- yE,show 65536-j+(65536-k)=65536-(j+k)+K by omega]
def qgV {x y:Nat} (hx:q0I x) (hy:q0I y):mlk 2148 (q1W x y):=by
 obtain ⟨K,hK⟩:∃ K:Nat,K=65536:=⟨_,rfl⟩;have e:=q8H (q0n hx hy).1;rw [<- hK] at e;have h:=qgT hK (q5N hx) (q5N hy) Oq e;rw [show 1074+1074=2148 from rfl] at h;exact h
def q8D {K:Nat} (hK:K=65536):mlk 0 q2Y:=⟨1,by rw [qcK,xU,Nat.sub_zero]⟩
def q3l {j k p q:Nat} {a b:Int} (ha:mlk j a) (hb:mlk k b) (hjk:j+k<=65536) (h1:bl a.natAbs<=p) (h2:bl b.natAbs<=q) (hpq:p+q<=196608):mkV (a*b) (-131072)=some (prZ a b)/\bl (prZ a b).natAbs<=p+q-65536/\mlk (j+k) (prZ a b)/\a*b=prZ a b*(2:Int) ^ 65536:=by
 obtain ⟨x,hx⟩:=id ha;obtain ⟨y,hy⟩:=id hb;obtain ⟨c,hc⟩:∃ c:Int,c=x*y*(2:Int) ^ (65536-(j+k)):=⟨_,rfl⟩;have e:a*b=c*(2:Int) ^ 65536:=by
  rw [hx,hy,hc];have:∀ p q:Int,x*p*(y*q)=x*y*(p*q):=λp q=>by rw [zW,zW,yJ p y q]
  rw [this,zW (x*y),<- yE,<- yE,show 65536-j+(65536-k)=65536-(j+k)+65536 by omega]
 have hbc:bl c.natAbs<=p+q-65536:=by
  refine qo8 e ?_;have:=q16 a.natAbs b.natAbs;rw [<- Int.natAbs_mul] at this;omega
 have hk:mkV (a*b) (-131072)=some c:=by rw [e]; exact q8G (by unfold q0Q; omega)
 unfold prZ;rw [hk];exact ⟨rfl,hbc,qgT rfl ha hb hjk e,e⟩
def vrX (F:Nat->Nat->Option Nat) (n:Nat) (b z:List Nat) (i:Nat):Int:=ofZ (b.getD i 0)-sg (λj=>q1W ((F j i).getD 0) (z.getD j 0)) n
def vsX (n:Nat) (v:List Nat) (r:Nat->Int) (i:Nat):Int:=sg (λk=>prZ (ofZ (v.getD (k*n+i) 0)) (r k)) n
def vdX (n:Nat) (v:List Nat) (r:Nat->Int) (i:Nat):Int:=((vsX n v r i).natAbs:Int)
def vnX (d g u m:Int):Int:=prZ d g+prZ u m
def vIv (z:Nat) (num g:Int):Nat × Nat:=(qa2 1 z (fQ 2 num g),q6f 2 z (fQ 2 num g))
section
variable {F:Nat->Nat->Option Nat} {n:Nat} {b z v:List Nat}
def vfD (F:Nat->Nat->Option Nat) (n:Nat) (v b z:List Nat):List Int:=(List.range n).map (vdX n v (vrX F n b z))
def vfG (F:Nat->Nat->Option Nat) (n:Nat) (v:List Nat):Int:=q2Y-grZ (btL n v F)
def vfN (F:Nat->Nat->Option Nat) (n:Nat) (v b z:List Nat) (i:Nat):Int:=vnX (vdX n v (vrX F n b z) i) (vfG F n v) (btZ n v F i) (grZ (vfD F n v b z))
def vfL (F:Nat->Nat->Option Nat) (n:Nat) (v b z:List Nat) (i:Nat):List (Nat × Nat):=(List.range i).map λi=>vIv (z.getD i 0) (vfN F n v b z i) (vfG F n v)
def vfO (F:Nat->Nat->Option Nat) (n:Nat) (v b z:List Nat):List (Nat × Nat) × Bool:=if q2Y<=grZ (btL n v F) then ([],false) else (vfL F n v b z n,true)
def qx4 {k:Nat} {l:List Int} (h:∀ x ∈ l,mlk k x):mlk k (grZ l):=qx3 qdp h
def btE_k (h:TOk F n n) (hv:q0b v) {i j:Nat} (hj:j < n):mlk 2148 (btE n v F i j):=by
 unfold btE;refine q6R ?_ (q9X n λk hk=>qgV (q0V hv).2 (h.finD hj hk))
 split
 .exact q4G Oq Oq (q8D rfl)
 .exact qdp
def qzU (h:TOk F n n) (hv:q0b v) {i:Nat}:mlk 2148 (btZ n v F i):=q9X n λj hj=>qgW (btE_k h hv hj)
def btL_k (h:TOk F n n) (hv:q0b v):∀ x ∈ btL n v F,mlk 2148 x:=λx hx=>by
 obtain ⟨i,_,rfl⟩:=zK.1 hx;exact qzU h hv
def qei (h:TOk F n n) (hv:q0b v):mlk 2148 (vfG F n v)/\bl (vfG F n v).natAbs<=67608:=by
 unfold vfG;refine ⟨q6R (q4G Oq Oq (q8D rfl)) (qx4 (btL_k h hv)),q6c (k:=67607) ?_ (qnt (qzW h hv))⟩;have:=q3C;omega
def q8x (h:TOk F n n) (hb:q0b b) (hz:q0b z) {i:Nat} (hi:i < n):mlk 2148 (vrX F n b z i)/\bl (vrX F n b z i).natAbs<=67596:=by
 unfold vrX;refine ⟨q6R (q4G Oq Oq (q5N (q0V hb).2)) (q9X n λj hj=>qgV (h.finD hj hi) (q0V hz).2),q6c (k:=67595) ?_ ?_⟩
 .have:=q6n (q0V hb (i:=i)).2; omega
 .exact q9K (K:=67584) n (by have:=h.r; omega) λj hj=>qcP (h.finD hj hi) (q0V hz).2
def q8w (hv:q0b v) {r:Nat->Int} {i k:Nat} (hr:mlk 2148 (r k)/\bl (r k).natAbs<=67596):mkV (ofZ (v.getD (k*n+i) 0)*r k) (-131072)=some (prZ (ofZ (v.getD (k*n+i) 0)) (r k))/\bl (prZ (ofZ (v.getD (k*n+i) 0)) (r k)).natAbs<=68620/\mlk 3222 (prZ (ofZ (v.getD (k*n+i) 0)) (r k)):=by
 obtain ⟨h1,h2,h3,_⟩:=q3l (p:=66560) (q:=67596) (q5N (q0V hv (i:=k*n+i)).2) hr.1 Oq (q6n (q0V hv).2) hr.2 Oq;exact ⟨h1,ω,h3⟩
def q8y (hn:n<=1000) (hv:q0b v) {r:Nat->Int} (hr:∀ k,k < n->mlk 2148 (r k)/\bl (r k).natAbs<=67596) {i:Nat}:mlk 3222 (vdX n v r i)/\bl (vdX n v r i).natAbs<=68631/\bl (vsX n v r i).natAbs<=68631:=by
 have h1:mlk 3222 (vsX n v r i):=q9X n λk hk=>(q8w hv (hr k hk)).2.2;have h2:bl (vsX n v r i).natAbs<=68631:=q9K (K:=68620) n hn λk hk=>(q8w hv (hr k hk)).2.1;unfold vdX;exact ⟨qgW h1,by rw [uU]; exact h2,h2⟩
def qm5 (h:TOk F n n) (hv:q0b v) (hb:q0b b) (hz:q0b z):∀ x ∈ vfD F n v b z,mlk 3222 x/\bl x.natAbs<=68631:=λx hx=>by
 obtain ⟨i,_,rfl⟩:=zK.1 hx;have:=q8y (v:=v) (r:=vrX F n b z) (i:=i) (by have:=h.r; omega) hv λk hk=>q8x h hb hz hk;exact ⟨this.1,this.2.1⟩
def qm4 (h:TOk F n n) (hv:q0b v) (hb:q0b b) (hz:q0b z) {i:Nat} (hi:i < n) :
  mkV (vdX n v (vrX F n b z) i*vfG F n v) (-131072)=some (prZ (vdX n v (vrX F n b z) i) (vfG F n v))/\mkV (btZ n v F i*grZ (vfD F n v b z)) (-131072)=some (prZ (btZ n v F i) (grZ (vfD F n v b z)))/\bl (vfN F n v b z i).natAbs<=70706/\q0Q (grZ (vfD F n v b z)):=by
 have d:=q8y (v:=v) (r:=vrX F n b z) (i:=i) (by have:=h.r; omega) hv λk hk=>q8x h hb hz hk;have g:=qei h hv;have m1:=qx4 λx hx=>(qm5 h hv hb hz x hx).1;have m2:=qnt λx hx=>(qm5 h hv hb hz x hx).2;have u1:=qzU h hv (i:=i);have u2:=qcw h hv (i:=i);obtain ⟨a1,a2,_⟩:=q3l d.1 g.1 Oq d.2.1 g.2 Oq;obtain ⟨b1,b2,_⟩:=q3l u1 m1 Oq u2 m2 Oq;refine ⟨a1,b1,?_,by unfold q0Q; omega⟩;unfold vfN vnX;have:=q2E (a:=prZ (vdX n v (vrX F n b z) i) (vfG F n v)) (b:=prZ (btZ n v F i) (grZ (vfD F n v b z))) (k:=70705) Oq Oq;omega
end
end Go.Proofs.YtpbaikoblfcmdaaGreatDoor
namespace Go.E
open Go Go.RowKit
section
variable {J:Nat->Prop} {h:Hp} {a n:Nat} {T:TypeId} {xs:List PV} {v1 v2 v3:Value}
def qpW {i j k:Nat} (ti:(if i=5000 then some a else none)=some k) (tj:(if j=5000 then some a else none)=some k):i=j:=by
 split at ti
 .split at tj
  .rename_i e1 e2; rw [e1,e2]
  .cases tj
 .cases ti
def b5 [NL] {f:Nat->PV} {g:Nat->PV} (hJ:∀ i,¬ J i) (hb:h a=some ⟨T,none,xs,false⟩) (hc:ClL xs) (hv:∀ t,LeV (λi=>if i=5000 then some a else none) h (q0R h0 5000 ⟨T,none,xs,false⟩) (f t) (g t)):Le J f h g (q0R h0 5000 ⟨T,none,xs,false⟩) :=
 q48 (λi=>if i=5000 then some a else none) (λi b' hb'=>by
  by_cases hi:i=5000
  .subst hi;rw [q0L] at hb'; cases hb';unfold LeB;exact ⟨_,hb,rfl,rfl,⟨rfl,rfl⟩,q0C rfl hc⟩
  .rw [q0B hi] at hb'; cases hb') (λi j k b c hi hj ti tj=>qpW ti tj) hv λi hi=>(hJ i hi).elim
def b5n [NL] {f:Nat->PV} {g:Nat->PV} (hJ:∀ i,¬ J i) (hv:∀ t,LeV (λ_=>none) h (q0R h0 5000 ⟨T,none,[],false⟩) (f t) (g t)):Le J f h g (q0R h0 5000 ⟨T,none,[],false⟩) :=
 q48 (λ_=>none) (λi b' hb'=>by
  by_cases hi:i=5000
  .subst hi;rw [q0L] at hb'; cases hb'
   rfl
  .rw [q0B hi] at hb'; cases hb') (λi j k b c hi hj ti tj=>by cases ti) hv λi hi=>(hJ i hi).elim
def LePo [NL] (hJ:∀ i,¬ J i) (hb:h a=some ⟨T,none,xs,false⟩) (hc:ClL xs):Le J (λ_=>.ag [.vl v1,.vl v2,.ow a none 0 n]) h (λ_=>.ag [.vl v1,.vl v2,.ow 5000 none 0 n]) (q0R h0 5000 ⟨T,none,xs,false⟩) :=
 b5 hJ hb hc λ_=>.ag rfl λi x y hx hy=>by
  rcases i with _ | _ | _ | i
  .cases hx; cases hy; exact .cl trivial
  .cases hx; cases hy; exact .cl trivial
  .cases hx; cases hy; exact .ow (if_pos rfl) q0L
  .simp at hx
def LePt [NL] (hJ:∀ i,¬ J i) (hb:h a=some ⟨T,none,xs,false⟩) (hc:ClL xs):Le J (λ_=>.tu [.ag [.vl v1,.vl v2,.ow a none 0 n],.vl v3]) h (λ_=>.tu [.ag [.vl v1,.vl v2,.ow 5000 none 0 n],.vl v3]) (q0R h0 5000 ⟨T,none,xs,false⟩) :=
 b5 hJ hb hc λ_=>.tu rfl λi x y hx hy=>by
  rcases i with _ | _ | i
  .cases hx; cases hy;exact .ag rfl λi x y hx hy=>by
    rcases i with _ | _ | _ | i
    .cases hx; cases hy; exact .cl trivial
    .cases hx; cases hy; exact .cl trivial
    .cases hx; cases hy; exact .ow (if_pos rfl) q0L
    .simp at hx
  .cases hx; cases hy; exact .cl trivial
  .simp at hx
def LePn [NL] (hJ:∀ i,¬ J i):Le J (λ_=>.tu [.ag [.vl v1,.vl v2,.vl (.slice none 0 0)],.vl v3]) h (λ_=>.tu [.ag [.vl v1,.vl v2,.ow 5000 none 0 0],.vl v3]) (q0R h0 5000 ⟨T,none,[],false⟩) :=
 b5n hJ λ_=>.tu rfl λi x y hx hy=>by
  rcases i with _ | _ | i
  .cases hx; cases hy;exact .ag rfl λi x y hx hy=>by
    rcases i with _ | _ | _ | i
    .cases hx; cases hy; exact .cl trivial
    .cases hx; cases hy; exact .cl trivial
    .cases hx; cases hy; exact .nilow rfl q0L rfl
    .simp at hx
  .cases hx; cases hy; exact .cl trivial
  .simp at hx
end
end Go.E
namespace Go.Proofs.YtpbaikoblfcmdaaGreatDoor
open Go Go.E Go.Sp
def qem (n:Nat):q34 (q9A n) n:=by
 refine ⟨by rw [q74],λx hx=>?_,?_⟩
 .unfold q9A at hx;obtain ⟨k,hk,rfl⟩:=zK.1 hx;have:=zP.1 hk;omega
 .unfold q9A;unfold List.Nodup;rw [List.pairwise_map];exact List.nodup_range.imp λh q=>h (Int.ofNat_inj.1 q)
section
variable {raw:List Nat} {r c:Nat} {st:Int} {g:LUt}
def qgB (hr:raw.length<=9223372036854775807) (h1:r<=64) (h2:c<=64) (h3 : -9223372036854775808<=st) (h4:st<=9223372036854775807) :
  qdQ 13 [pF raw,iv r,iv c,iv st] h0 (.ag [iv r,iv c,.ow 5000 none 0 (r*c)]) (q0R h0 5000 ⟨33,none,(q4g raw 500 (q0Y st 4) (r*c)).map λz:Nat=>uv z,false⟩):=by
 have hJ:∀ i,¬ (h0 i≠none):=λi h=>h rfl;have hm:r*c<=64*64:=zM h1 h2;have w1:IntKind.i64.wrap ((r:Int)*(c:Int))=((r*c:Nat):Int):=by rw [<- zO,i64_in ω ω]
 generalize r*c=m at *;refine qeU qzP Tryz.func13 rfl Tryz.ntmps13 κ ?_ ?_ ?_ ?_
 .intro i b hb; cases hb
 .intro i b hb
  by_cases hi:i=5000
  .subst hi; exact ⟨ω,ω⟩
  .rw [q0B hi] at hb; cases hb
 .exact IdL.of λx hx=>by
   simp at hx
   rcases hx with rfl | rfl | rfl | rfl <;> unfold IdP <;> trivial
 have hW:WfH h0:=⟨λi b hb=>by cases hb⟩;refine wk ?_;refine q0P (λi=>i<=m) [0,1,2,3,8,9] [8] Lk Lk (λi:Nat=>[(10,iv i)]) (λi=>[(9,⟨31,some 3,[.ag [iv r,iv c,.ow 1001 none 0 i]],false⟩),(1001,⟨33,none,(q4g raw 500 (q0Y st 4) i).map λz:Nat=>uv z,false⟩)]) (λ_=>h0) (λi=>m-i) 0 (zC _) ?_ ?_
 .refine LeW [(1001,none)] rfl rfl ?_ ?_ (by simp [q0i,q0c,win]) ?_
  .exact Ow
  .exact hW
  .try refine Zz ?_
   first | done | rfl | exact ⟨rfl,rfl⟩
 .intro i hi;have l1:=q21 (raw:=raw) (k:=500) (st:=q0Y st 4) (n:=i);have l2:=qm6 (raw:=raw) (k:=500) (st:=q0Y st 4) (n:=i)
  by_cases hlt:i < m
  .have q:(i:Int) < m:=ω
   have w2:IntKind.i64.wrap (500+(i:Int))=500+(i:Int):=i64_in Oq Oq;have C1:=q5p (raw:=raw) (k:=500+(i:Int)) hr Oq Oq;have C2:=qgI (x:=q4d raw (500+(i:Int))) (st:=st) (q2p _ _) h3 h4;generalize q4g raw 500 (q0Y st 4) i=V at *;generalize q2d (q0Y st 4) (q4d raw (500+(i:Int)))=z at *;generalize q4d raw (500+(i:Int))=w at *;have N1:Nz (uv (w:Nat)):=qcM;have N2:Nz (uv (z:Nat)):=qcM;refine wk1 (x4 w1 w2 q l1) ?_;refine ⟨i+1,ω,ω,?_⟩;rw [l2];refine LeW [(1001,some 30)] rfl rfl ?_ ?_ (by simp [q0i,q0c,win]) ?_
   .exact Ow
   .exact hW
   .try refine Zz ?_
    first | done | omega | exact ⟨ω,q0C (by rw [zD]; rfl) (by rw [<- zD]; exact clU)⟩
  .obtain rfl:i=m:=ω
   have q:¬ (i:Int) < i:=ω
   refine wk1 (x2 w1 q) ?_;refine (rtM (rs:=[.cell 8 31]) rfl rfl Lq ?_ (.inl rfl));refine LePo hJ ?_ clU
   try simp -implicitDefEqProofs (disch:=omega) only [go_sem,Nat.reduceEqDiff,Nat.reduceAdd,↓reduceIte]
end
noncomputable def ivL (g:LUt) (n:Nat):Nat->Nat->List Nat->List Nat × Int
 | 0,_,acc=>(acc,0)
 | k+1,j,acc=>if (lgE g (unN n j)).2≠0 then ([],(lgE g (unN n j)).2) else ivL g n k (j+1) (acc ++ (lgE g (unN n j)).1)
noncomputable def ivA (g:LUt):Nat × List Nat × Int:=if q6q g≠0 then (0,[],q6q g) else
 (if (ivL g g.rows.length g.rows.length 0 []).2=0 then g.rows.length else 0,(ivL g g.rows.length g.rows.length 0 []).1,(ivL g g.rows.length g.rows.length 0 []).2)
section
variable {g:LUt} {n:Nat}
def qnn (hb:LUb g) (hn:n=g.rows.length):∀ k j acc,k+j=n->acc.length=j*n->q0b acc->((ivL g n k j acc).2=0->(ivL g n k j acc).1.length=n*n)/\q0b (ivL g n k j acc).1/\((ivL g n k j acc).2≠0->(ivL g n k j acc).1=[])
 | 0,j,acc,h1,h2,h3=>by
  obtain rfl:j=n:=ω
  exact ⟨λ_=>h2,h3,λh=>absurd rfl h⟩
 | k+1,j,acc,h1,h2,h3=>by
  rw [ivL]
  by_cases h:(lgE g (unN n j)).2=0
  .rw [if_neg (not_not_intro h)];obtain ⟨_,_,_,k1,k2⟩:=q7O hb qpT h;refine qnn hb hn k (j+1) _ ω (by rw [uW,h2,k1,<- hn,yP]) λx hx=>?_
   rcases zQ.1 hx with hx | hx
   .exact h3 x hx
   .exact k2 x hx
  .rw [if_pos h];exact ⟨λq=>absurd q h,λx hx=>(by cases hx),λ_=>rfl⟩
def qxU (hb:LUb g):((ivA g).2.2=0->(ivA g).1=g.rows.length/\(ivA g).2.1.length=g.rows.length*g.rows.length)/\q0b (ivA g).2.1/\((ivA g).2.2≠0->(ivA g).2.1=[]/\(ivA g).1=0):=by
 unfold ivA
 by_cases h:q6q g=0
 .rw [if_neg (not_not_intro h)];obtain ⟨h1,h2,h3⟩:=qnn hb rfl g.rows.length 0 [] ω σ (λx hx=>by cases hx);dsimp only;exact ⟨λq=>⟨if_pos q,h1 q⟩,h2,λq=>⟨h3 q,if_neg q⟩⟩
 .rw [if_pos h];exact ⟨λq=>absurd q h,λx hx=>(by cases hx),λ_=>⟨rfl,rfl⟩⟩
def qiu (hb:LUb g) (hn:g.rows.length<=20):qdQ 133 [pLU g] h0 (.tu [.ag [iv (ivA g).1,iv (ivA g).1,.ow 5000 none 0 (ivA g).2.1.length],iv (ivA g).2.2]) (q0R h0 5000 ⟨33,none,(ivA g).2.1.map λz:Nat=>uv z,false⟩):=by
 have hJ:∀ i,¬ (h0 i≠none):=λi h=>h rfl;have hJe:(λi=>(h0:Hp) i≠none)=λ_=>False:=funext λi=>eq_false (hJ i);have C2:=qaL hb;obtain ⟨res,hres⟩:∃ res,res=ivA g:=⟨_,rfl⟩;rw [<- hres];unfold ivA at hres;have C3:=λ(n j:Nat) (hn:n<=1000000)=>q7Y (f:=g) (l:=unN n j) hb ω qpT (by rw [qep]; omega);have hE:=λ(n j:Nat) (q:(lgE g (unN n j)).2=0)=>q7O hb qpT q;have hst:∀ n k j acc,ivL g n (k+1) j acc=if (lgE g (unN n j)).2≠0 then ([],(lgE g (unN n j)).2) else ivL g n k (j+1) (acc ++ (lgE g (unN n j)).1):=λ_ _ _ _=>rfl
 have hs0:∀ n j acc,ivL g n 0 j acc=(acc,0):=λ_ _ _=>rfl;unfold pLU at C2 C3 ⊢;generalize q6q g=e at *;refine qeU qo3 Tryz.func133 rfl Tryz.ntmps133 κ ?_ ?_ ?_ ?_
 .intro i b hb; cases hb
 .intro i b hb
  by_cases hi:i=5000
  .subst hi; exact ⟨ω,ω⟩
  .rw [q0B hi] at hb; cases hb
 .exact IdL.of λx hx=>by
   simp at hx;subst hx;unfold IdP;exact IdL.of λx hx=>by
    simp at hx
    rcases hx with rfl | rfl | rfl | rfl | rfl | rfl | rfl | rfl <;> unfold IdP <;> trivial
 have hW:WfH h0:=⟨λi b hb=>by cases hb⟩;rw [hJe]
 by_cases h1:e=0
 rotate_left
 .rw [if_pos h1] at hres;subst hres;have q2:(e != 0)=true:=by simpa using h1
  clear C3;refine wk1 q2 ?_;refine (rtM (rs:=[.cell 2 31,.tmp 3]) rfl rfl Lq ?_ (.inl rfl));exact LePn hJ
 subst h1;rw [if_neg (show ¬ (0:Int)≠0 by decide)] at hres;obtain ⟨n,hnn⟩:∃ n,n=g.rows.length:=⟨_,rfl⟩;rw [<- hnn] at hres hn;have q0:((g.rows.length:Nat):Int)=n:=ω
 replace C3:=λj=>C3 n j Oq;replace hE:=λj=>hE n j;replace hst:=hst n;replace hs0:=hs0 n;refine wk1 q0 ?_;refine q0P (λq:Nat × List Nat=>q.1<=n/\q.2.length=q.1*n/\ivL g n (n-q.1) q.1 q.2=ivL g n n 0 []) [1,2,5,6] [1,2] Lk Lk (λq=>[(7,iv q.1)]) (λq=>[(6,⟨31,some 3,[.ag [iv n,iv n,.ow 1001 none 0 q.2.length]],false⟩),(1001,⟨33,none,q.2.map λz:Nat=>uv z,false⟩)]) (λ_=>h0) (λq=>n-q.1) (0,[]) ⟨zC _,σ,rfl⟩ ?_ ?_
 .refine LeW [(1001,none)] rfl rfl ?_ ?_ (by simp [q0i,q0c,win]) ?_
  .exact Ow
  .exact hW
  .try refine Zz ?_
   first | done | rfl | exact ⟨rfl,rfl⟩
 .rintro ⟨j,acc⟩ ⟨hj,hal,hiv⟩;simp only at hj hal hiv ⊢;have hjn:j*n<=20*20:=zM Oq hn
  by_cases hlt:j < n
  .have q3:(j:Int) < n:=ω
   rw [show n-j=(n-(j+1))+1 by omega,hst] at hiv;have c3:=C3 j;have hEj:=hE j;have hun:=unN_v (n:=n) (j:=j);have ul:=qep (n:=n) (j:=j);generalize unN n j=U at *;generalize (lgE g U).1=l at *;generalize (lgE g U).2=e at *;clear C3 hE hst hs0;refine wk1 (x3 q3 hun ul) ?_;refine q0r (LeW [] rfl rfl (hw:=h0) (xs:=[(1,.pt 1 0 0),(2,.pt 2 0 0),(5,iv n),(6,.pt 6 0 0),(7,iv j),(8,pF U)]) (kv:=[]) (bs:=[(1,⟨99,some 8,[.ag [pI g.rows,pI g.cols,pI g.ls,pI g.li,pF g.lv,pI g.us,pI g.ui,pF g.uv]],false⟩),(2,⟨31,some 3,[.ag [iv 0,iv 0,q05]],false⟩),(6,⟨31,some 3,[.ag [iv n,iv n,.ow 1001 none 0 acc.length]],false⟩),(1001,⟨33,none,acc.map λz:Nat=>uv z,false⟩)]) (kb:=[]) ?_ hW (by simp [q0i,q0c,win]) ?_) ?_
   .exact Ow
   .try refine Zz ?_
    refine qoo (T:=33) (l:=U.map λz:Nat=>uv z) ?_ clU ?_ (by rw [zE,ul])
    .try simp -implicitDefEqProofs (disch:=omega) only [go_sem,Nat.reduceEqDiff,Nat.reduceAdd,↓reduceIte]
    .try simp -implicitDefEqProofs (disch:=omega) only [go_sem,Nat.reduceEqDiff,Nat.reduceAdd,↓reduceIte]
   by_cases h4:e=0
   rotate_left
   .have q4:(e != 0)=true:=by simpa using h4
    rw [if_pos h4] at hiv;rw [<- hiv] at hres;dsimp only at hres;rw [if_neg h4] at hres;subst hres;refine wk1 q4 ?_;refine (rtM (rs:=[.cell 2 31,.tmp 3]) rfl rfl Lq ?_ (.inl rfl));exact LePn hJ
   obtain ⟨_,_,_,k1,k2⟩:=hEj h4;subst h4;rw [if_neg (show ¬ (0:Int)≠0 by decide)] at hiv;refine wk ?_;refine ⟨(j+1,acc ++ l),⟨by simp only; omega,by simp only; rw [uW,hal,k1,<- hnn,yP],hiv⟩,by simp only; omega,?_⟩;simp only;refine LeW [(1001,some 49)] rfl rfl ?_ ?_ (by simp [q0i,q0c,win]) ?_
   .exact Ow
   .exact hW
   .try refine Zz ?_
    exact ⟨ω,q0C (by rw [zD]) clU⟩
  .obtain rfl:j=n:=ω
   have q3:¬ (j:Int) < j:=ω
   rw [xQ,hs0] at hiv;rw [<- hiv,if_pos rfl] at hres;subst hres;refine wk1 q3 ?_;refine (rtM (rs:=[.cell 2 31,.tmp 3]) rfl rfl Lq ?_ (.inl rfl));refine LePt hJ ?_ clU
   try simp -implicitDefEqProofs (disch:=omega) only [go_sem,Nat.reduceEqDiff,Nat.reduceAdd,↓reduceIte]
end
section
variable {R C:Nat} {F:Nat->Nat->Option Nat} {f:LUt}
end
abbrev rfV (q:List (Nat × Nat) × List Nat × Int):PV:=.tu [pP q.1,pF q.2.1,iv q.2.2]
section
variable {R C:Nat} {F:Nat->Nat->Option Nat} {f:LUt} {b:List Nat} {dbl:Bool} {steps:Int}
def q5S {T id n:Nat} {k:Kd} {h h':Hp} {l:List PV} (h1:h id=some ⟨T,k,l,false⟩) (hc:ClL l) (h2:h' id=none) (hn:l.length=n):LeV (q0c []) h h' (.ow id k 0 n) (.sl k l):=q49 (T:=T) (l:=l) h1 hc (λi hi=>by
 have hi:some i=some id:=hi;cases hi;exact h2) (by rw [yB]; exact zF ω)
end
section
variable {F:Nat->Nat->Option Nat} {R:Nat}
end
def qek {raw:List Nat} {k st:Int} {n:Nat} (hr:raw.length<=9223372036854775807) (hn:n<=1000000) (h1 : -1000000<=k) (h2:k<=1000000) (h3 : -9223372036854775808<=st) (h4:st<=9223372036854775807) :
  ACt 48 [pF raw,iv k,iv n,iv st] (pF (q4g raw k (q0Y st 4) n)):=by
 have hl:=q21 (raw:=raw) (k:=k) (st:=q0Y st 4) (n:=n);refine qb5 (ids:=[5000]) (qdY hr hn h1 h2 h3 h4) ?_;generalize q4g raw k (q0Y st 4) n=xs at *;subst hl;have h1:q20 (q0R h0 5000 ⟨33,none,xs.map λz:Nat=>uv z,false⟩) (.ow 5000 none 0 xs.length)=some (pF xs,[5000]):=by
  unfold q20;dsimp only;rw [q0L,yL,if_pos ⟨rfl,rfl,λx hx=>clU x hx⟩,yB,zF (by rw [zE]; exact z6 _)]
 unfold q2f q2f clo;simp only [h1]
 rfl
noncomputable def ckT (raw:List Nat) (N:Nat) (st:Int) (rg:Bool):Nat->Nat->Option Nat:=if rg then rgF (gF raw N (q0Y (q0Y st 3:Nat) 4)) N else gF raw N (q0Y st 4)
section
variable {raw p:List Nat} {s i N:Nat} {st sp n:Int} {rg wild:Bool}
def qzD (hN:N<=100):TOk (ckT raw N st rg) N N:=by
 unfold ckT;cases rg
 .rw [if_neg (by decide)];exact qrU Oq Oq (by have:=zM hN hN; omega)
 .rw [if_pos rfl];exact qwF hN (by unfold q0Y; omega)
end
def qkB {f m e:Nat} (h1:f / 4503599627370496 % 2048=e) (h2:e≠0) (h3:e≠2047) (h4:f < 9223372036854775808) (h5:4503599627370496+f % 4503599627370496=m):ofZ f=(m:Int)*(2:Int) ^ (64461+e):=by
 refine q04 ?_;unfold ofF;rw [h1,if_neg h3,if_neg h2,decide_eq_false ω,h5]
 rfl
def fR_u {z K s:Nat} (hK:K=65536) (hs:s<=K) (hz:0 < z):fR 0 ((z:Int)*(2:Int) ^ (K-s))=rF 0 false z (2 ^ s):=by
 have hp:=q0H (K-s);have hpos:0 < (z:Int)*(2:Int) ^ (K-s):=Int.mul_pos Oq hp;unfold fR;rw [if_neg ω,decide_eq_false ω,q0E,uU,<- hK,show (2:Nat) ^ K=2 ^ s*2 ^ (K-s) by rw [<- xG]; congr 1; omega];exact q3U hz (q0G _) (q0G _)
section
variable {K:Nat}
end
def qq2 {m:Int} {k c:Nat} (h:c<=k):(2:Int) ^ c ∣ m*(2:Int) ^ k:=by
 obtain ⟨e,rfl⟩:∃ e,k=c+e:=⟨k-c,ω⟩;rw [yE,yJ];exact Int.dvd_mul_right _ _
def qqj {x y K:Nat} (hK:K=65536) (hx:q0I x) (hy:q0I y):q1W x y*(2:Int) ^ K=ofZ x*ofZ y/\∀ c,c<=60000->(2:Int) ^ c ∣ q1W x y:=by
 obtain ⟨m,k,h,h1,h2,h3⟩:=q2O hx;obtain ⟨m',k',h',h1',h2',h3'⟩:=q2O hy;have e:ofZ x*ofZ y=m*m'*(2:Int) ^ (k+k'):=by
  rw [q04 h,q04 h',yE];simp only [zW,yJ,yQ]
 have hb:bl (m*m').natAbs<=106:=by
  rw [Int.natAbs_mul];exact zN (q16 _ _) Oq
 have hm:=q5O (m:=m*m') (E := -131072+((k+k':Nat):Int)) Oq Oq;obtain ⟨t,ht⟩:∃ t,t=(-131072+((k+k':Nat):Int)+65536).toNat:=⟨_,rfl⟩;rw [<- ht] at hm;have hv:q1W x y=m*m'*(2:Int) ^ t:=by
  unfold q1W;rw [e,q1i,hm]; rfl
 refine ⟨?_,λc hc=>?_⟩
 .rw [hv,e,zW,<- yE,show t+K=k+k' by omega]
 .rw [hv]; exact qq2 Oq
end Go.Proofs.YtpbaikoblfcmdaaGreatDoor
namespace Go.E
open Go Go.RowKit
section
variable {P:Program} {Tb:World->Prop}
variable {d:Option Nat} {ty t:TypeId} {pos:String} {af:Array Edge} {g:Option (Nat × Bool)} {s:Nat->PV} {h:Hp} {K:PV->Hp->FP->Prop} {ops r:List Oper} {KL:(Nat->PV)->Hp->List FP->Prop} {acc:List FP} {dd:Nat}
def qzv [NL] {a b c f}:ao P Tb (some dd) (.buildSlice t 4 #[(0,a),(1,b),(2,c),(3,f)]) s h K=nnK (h dd) dd (@oK _ (elK P t) ⟨λe=>@cK (4*ksz e.2.1<=16777216) ⟨vK (pe s a) λx=>vK (pe s b) λy=>vK (pe s c) λz=>vK (pe s f) λu=>q1p e.2.1 x (q1p e.2.1 y (q1p e.2.1 z (q1p e.2.1 u (K (.ow dd e.2.1 0 4) (q0R h dd ⟨e.1,e.2.1,[x,y,z,u],false⟩) ([],[dd])))))⟩⟩):=by
 have:=qiY (P:=P) (Tb:=Tb) (s:=s) (h:=h) (K:=K) (t:=t) (dd:=dd) (len:=4) (ps:=[(0,a),(1,b),(2,c),(3,f)]) rfl;simpa [oK,cK,q9g,q9f,vK] using this
attribute [go_sem ↓] qzv
end
end Go.E
namespace Go.Proofs.YtpbaikoblfcmdaaGreatDoor
open Go Go.E Go.Sp
def nzL {w:World} {D B:Nat->Prop} (hB:∀ g,B g->∃ cs T,Blk w g T cs/\∀ u ∈ cs.toList,q5V u=true):∀ (l:List PV) (vs:List Value),(∀ x ∈ l,Nz x)->RdL w D l (λ_=>none) h0 vs->RdL w (λk=>D k/\¬ B k) l (λ_=>none) h0 vs
 | [],vs,_,h=>by unfold RdL at h ⊢; exact h
 | x :: l,vs,hl,h=>by
  unfold RdL at h ⊢;obtain ⟨a,b,rfl,h1,h2⟩:=h;exact ⟨a,b,rfl,hl x yS w D B a hB h1,nzL hB l b (λy hy=>hl y (yM _ hy)) h2⟩
def nz_tu {l:List PV} (hl:∀ x ∈ l,Nz x):Nz (.tu l):=λw D B v hB h=>by
 unfold Rd at h ⊢;obtain ⟨vs,rfl,h1⟩:=h;exact ⟨vs,rfl,nzL hB l vs hl h1⟩
def qxw:qbB Tryz.prog 58=true:=κ
def eq_iv {k m:IntKind} {a b c d:Int}:bnP Tryz.prog .eql 58 (.ag [.vl (.int k a),.vl (.int m b)]) (.ag [.vl (.int k c),.vl (.int m d)])=some (.vl (.bool (a == c && b == d))):=qz6 qxw
attribute [go_sem] eq_iv
def qwo {x y K:Nat} {V:Int} (hK:K=65536) (hx:q0I x) (hy:q0I y) (h:ofZ x*ofZ y=V*(2:Int) ^ K):q1W x y=V:=yU (xR (q0H K)) ((qqj hK hx hy).1.trans h)
section
variable {K:Nat} {f1 f4 fq:Nat}
end
section
variable {V W n:Int} {x:Nat}
def qhq (h1 : -200000<=n) (h2:n<=200000) (hv:mkV (od V) (dyE V+n)=some W):ACt 78 [pV V,iv n] (pV W):=qtY κ λho=>q1v (q5x ho h1 h2 hv) (q36 hv).2.2.2
def qhW {mode:Int} (hx:x < 18446744073709551616) (hf:q0I x) (h1 : -5000<=n) (h2:n<=5000) (hv:mkV (od (ofZ x)) (dyE (ofZ x)+n)=some W):ACt 21 [uv x,iv n,iv mode] (uv (if q03 x=1 then fR mode W else x:Nat)):=by
 have cN:=q5a hx hf;have cK:=q4E hx;have cO:=q0s hx (q0S hf);have cS:=qhq Oq Oq hv;have cR:=q2w (V:=W) (mode:=mode)
 by_cases hk:q03 x=1
 .rw [if_pos hk];rw [hk] at cK;have q:(((1:Nat):Int) != 1)=false:=rfl;have m1:min 5000 n=n:=ω
  have m2:max (-5000) n=n:=ω
  refine ac0 Tryz.func21 Tryz.ntmps21 [.tmp 6] ?_;exact wk1 (x3 q m1 m2) trivial
 .rw [if_neg hk];have q:(((q03 x:Nat):Int) != 1)=true:=by simp; omega
  refine ac0 Tryz.func21 Tryz.ntmps21 [.tmp 6] ?_;exact wk1 q trivial
end
section
attribute [local instance] lNL
end
section
variable {raw other:List Nat} {n st sp:Int} {rg wild zero:Bool}
end
def qxI {a b c d:PV}:ldU (some 4) (some 3) 0 (.ag [a,b,c,d])=some (.ag [a,b,c]):=by simp [ldU]
def flS_3 {off:Nat} {a b c:PV} {cs:List PV}:flS (some (off,3)) (.ag [a,b,c]) cs=qaE cs off [a,b,c]:=by
 rw [q4k σ];simp [flS]
attribute [go_sem] qxI flS_3
section
variable {l:List Nat}
def qlb {x:Nat} (hx:x < 18446744073709551616):ACt 187 [uv x] (bv (!decide (q0I x))):=by
 have C1:=q63 hx;refine ac0 Tryz.func187 Tryz.ntmps187 [.tmp 2] ?_;exact wk trivial
def qbD (hu:∀ x ∈ l,x < 18446744073709551616) (hn:l.length<=1000000):ACt 101 [pF l] (bv (decide (∀ x ∈ l,q0I x))):=by
 have C1:=q3F (f:=187) (λx hx=>qlb hx) hu hn;generalize decide (∀ x ∈ l,q0I x)=b at *;refine ac0 Tryz.func101 Tryz.ntmps101 [.tmp 2] ?_;exact wk1 @Bool.not_not trivial
def q9l {l:List Int} (hn:l.length<=1000000):ACt 188 [pVs l] (pV (grZ l)):=by
 have C1:=q1v qjC dy0;have N1:=q1Y (V:=0);refine ac0 Tryz.func188 Tryz.ntmps188 [.cell 2 48] ?_;refine wk ?_;refine q0A (λi=>i<=l.length) [2,3,9,10] [2] Lk Lk (λi:Nat=>[(11,iv i)]) (λi=>[(3,⟨48,some 4,[pV (grZ (l.take i))],false⟩)]) (λi=>l.length-i) 0 (zC _) ?_ ?_
 .refine LeM [] rfl rfl ?_;refine Zz ?_;exact ⟨rfl,rfl⟩
 .intro i hi
  by_cases hlt:i < l.length
  .obtain ⟨x,hx⟩:∃ x,l[i]?=some x:=⟨_,zA hlt⟩;have C2:=qmR qoZ λho=>qaR (A:=x) (B:=grZ (l.take i)) ho.1 ho.2;have es:=qx2 hx;generalize grZ (l.take i)=G at *
   by_cases h:G < x
   .rw [qvm h] at C2;rw [show max G x=x by omega] at es;refine wk1 hx ?_;refine ⟨i+1,ω,ω,?_⟩;rw [es];refine LeM [] rfl rfl ?_;refine Zz ?_
    first | done | omega | exact ⟨ω,rfl⟩
   .have q:=qfX h;rw [show max G x=G by omega] at es;generalize (x-G).sign=s at *;refine wk1 hx ?_;refine ⟨i+1,ω,ω,?_⟩;rw [es];refine LeM [] rfl rfl ?_;refine Zz ?_
    first | done | omega | exact ⟨ω,rfl⟩
  .obtain rfl:i=l.length:=ω
   rw [zL];exact wk trivial
end
section
variable {F:Nat->Nat->Option Nat} {n i:Nat} {b z v:List Nat} {r:Nat->Int}
def vtL (n:Nat) (v:List Nat) (r:Nat->Int) (i k:Nat):List Int:=(List.range k).map λk=>prZ (ofZ (v.getD (k*n+i) 0)) (r k)
def quY {k:Nat}:vtL n v r i (k+1)=vtL n v r i k ++ [prZ (ofZ (v.getD (k*n+i) 0)) (r k)]:=by unfold vtL; rw [zY,zD]; rfl
def qaU {k:Nat}:(vtL n v r i k).length=k:=by unfold vtL; simp
def qef:q1R (vtL n v r i n)=vsX n v r i:=qbv n
def qry (hn:n<=20) (hl:v.length=n*n) (hv:q0b v) (hi:i < n) (hr:∀ k,k < n->mlk 2148 (r k)/\bl (r k).natAbs<=67596):ACt 190 [pPn n n v,iv i,pVs ((List.range n).map r)] (pV (vsX n v r i)):=by
 have hpi:=λj hj=>qq3 (i:=i) (j:=j) (show n<=64 by omega) (show n<=64 by omega) hl hi hj;have hT:=λk hk=>q8w (n:=n) hv (i:=i) (hr k hk);have hd:q0Q (vsX n v r i):=by
  have:=(q8y (i:=i) Oq hv hr).2.2;unfold q0Q; omega
 have hts:=qef (n:=n) (v:=v) (r:=r) (i:=i);have htb:∀ y ∈ vtL n v r i n,q0Q y:=λy hy=>by
  unfold vtL at hy;obtain ⟨k,hk,rfl⟩:=zK.1 hy;have:=(hT k (zP.1 hk)).2.1;unfold q0Q; omega
 have CS:=q1v (q7Z (l:=vtL n v r i n) (by rw [qaU]; omega) htb (by rw [hts]; exact hd)) (by rw [hts]; exact hd);rw [hts] at CS;have h0:vtL n v r i 0=[]:=rfl;have hs:=λk=>quY (n:=n) (v:=v) (r:=r) (i:=i) (k:=k);have hll:=λk=>qaU (n:=n) (v:=v) (r:=r) (i:=i) (k:=k);have hrg:=λk (hk:k < n)=>show (((List.range n).map r).map λV=>pV V)[k]?=some (pV (r k)) by rw [zH,zH,zG hk]; rfl
 have hrl:(((List.range n).map r).map λV=>pV V).length=n:=σ
 have NS:=q1Y (V:=vsX n v r i);unfold pVs;generalize ((List.range n).map r).map (λV=>pV V)=W at *;generalize vsX n v r i=S at *;unfold pPn;refine ac0 Tryz.func190 Tryz.ntmps190 [.cell 6 48] ?_;refine wk ?_;refine q0A (λk=>k<=n) [1,2,3,6,10] [3,6] Lk Lk (λk:Nat=>[(11,iv k),(7,.ow 1001 (some 4) 0 k)]) (λk=>[(1001,⟨48,some 4,(vtL n v r i k).map λV=>pV V,false⟩)]) (λk=>n-k) 0 (zC _) ?_ ?_
 .rw [h0];refine LeM [(1001,none)] rfl rfl ?_;refine Zz ?_
  first | done | rfl | exact ⟨rfl,rfl⟩
 .intro k hk;have lk:=hll k
  by_cases hlt:k < n
  .have q:(k:Int) < n:=ω
   obtain ⟨w1,w2,y,hy⟩:=hpi k hlt;obtain ⟨y1,y2⟩:=hv y (zB hy);have M:=hT k hlt;have es:=hs k;rw [getD_some hy] at M es;have C1:=q1v (q3D y1 (q0S y2)) (q2l y2);have N1:=q1Y (V:=ofZ y);have N2:=q1Y (V:=r k);have C2:=q1v (qmR qcv λho=>q5m ho.1 ho.2 M.1) (q36 M.1).2.2.2;have gk:=hrg k hlt;generalize vtL n v r i k=T at *;generalize prZ (ofZ y) (r k)=P at *;generalize k*n=kn at *;refine wk1 (x6 q w1 w2 hy gk (x2 hrl lk)) ?_;refine ⟨k+1,ω,ω,?_⟩;rw [es];refine LeM [(1001,some 32)] rfl rfl ?_;refine Zz ?_;exact ⟨ω,q0C (by rw [zD]; rfl) clV⟩
  .obtain rfl:k=n:=ω
   have q:¬ (k:Int) < k:=ω
   exact wk1 (x2 q lk) trivial
def qqG (hzl:z.length=n) {r J:Nat} {rows:Nat->List Int} (hr:r < n) (h:RsI F (z.map λy=>(y,0)) b n J rows) (hJ:J=n):q1R (rows r)=vrX F n b z r:=by
 subst hJ;rw [h r hr];unfold vrX
 congr 1
 refine q54 J λj hj=>?_;have e:(z.map λy=>(y,0)).getD j (0,0)=(z.getD j 0,0):=by
  rw [zI,zH,zI];cases z[j]? <;> rfl
 rw [e]
 show q1W ((F j r).getD 0) (z.getD j 0)+q1W ((F j r).getD 0) 0=q1W ((F j r).getD 0) (z.getD j 0)
 rw [qgM,Int.add_zero]
def qrz (h:TOk F n n) (hn:n<=20) (hz:q0b z) (hzl:z.length=n) (hb:q0b b) (hbl:b.length=n):ACt 189 [pT n n F,pF z,pF b] (pVs ((List.range n).map (vrX F n b z))):=by
 have hml:=q11 (f:=F) (R:=n) n;have hg:=λj hj=>q35 (f:=F) (R:=n) (C:=n) (j:=j) hj;have hix:=λj k hj h1 h2=>qd1 (f:=F) (R:=n) (C:=n) (j:=j) (k:=k) hj h1 h2;have hos:=λj=>qmk (f:=F) (R:=n) (j:=j);obtain ⟨o,ho⟩:∃ o,o=tO F n:=⟨_,rfl⟩;have hRC:=h.m;have hfin:rwP n (λr=>pV (vrX F n b z r)) n=((List.range n).map (vrX F n b z)).map λV=>pV V:=by
  unfold rwP;rw [y8];exact zS λi hi=>by rw [if_pos (zP.1 hi)]; rfl
 have hpr:=λr J rows hr (hI:RsI F (z.map λy=>(y,0)) b n J rows) hJ=>qqG (r:=r) (J:=J) (rows:=rows) hzl hr hI hJ;have hZb:=λi hi=>q8x (b:=b) (z:=z) h hb hz (i:=i) hi;unfold pVs;rw [<- hfin];unfold pT;rw [<- ho] at hg hix hos;generalize (tM F n n).1=st at *;generalize (tM F n n).2.1=ix at *;generalize (tM F n n).2.2=vl at *;obtain ⟨m1,m2,m3⟩:=hml;unfold q2M;refine ac0 Tryz.func189 Tryz.ntmps189 [.tmp 6] ?_;refine wk ?_;refine q0r (qbi (o:=18) (N:=5000) (R:=10000) (n:=n) (T1:=39) (T2:=48) (K:=some 4) (λ_ h=>h) ?_ ω ω ω ω (xs:=[(1,pF z),(2,pF b),(3,.pt 3 0 0),(7,.ow 5000 none 0 n),(19,pF b),(20,iv n),(21,iv 0)]) (kv:=[]) (kb:=[(3,some ⟨27,some 5,[.ag [iv n,iv n,pI st,pI ix,pF vl]],false⟩)]) (by simp [nmW]) ?_) ?_
 .try simp -implicitDefEqProofs (disch:=omega) only [go_sem,Nat.reduceEqDiff,Nat.reduceAdd,↓reduceIte]
 .try refine Zz ?_
  exact ⟨if_pos rfl,ω⟩
 rw [qmi];refine q0P (λk:Nat=>k<=n) [1,2,3,7,19,20] [3] Lk Lk (λk:Nat=>[(21,iv k)]) (λ_=>[]) (λk=>q7a n (bgR b k)) (λk=>n-k) 0 (zC _) ?_ ?_
 .refine LeW [] rfl rfl ?_ ?_ (by simp [q0i,q0c,win]) ?_
  .exact Ow
  .exact wfB (q1Q Oq)
  .try refine Zz ?_
   rfl
 .intro k hk
  by_cases hlt:k < n
  .have hlt':(k:Int) < n:=ω
   obtain ⟨y,hy⟩:∃ y,b[k]?=some y:=⟨_,zA Oq⟩;obtain ⟨u1,u2⟩:=hb y (zB hy);have C1:=q1v (q3D u1 (q0S u2)) (q2l u2);have er:q8k (qfa (bgR b k)) k [pV (ofZ y)]=qfa (bgR b (k+1)):=by
    funext j
    unfold q8k qfa bgR
    by_cases h:j=k
    .subst h; rw [if_pos rfl,if_pos ω,getD_some hy]; rfl
    .rw [if_neg h]
     by_cases h2:j < k
     .rw [if_pos h2,if_pos ω]
     .rw [if_neg h2,if_neg ω]
   refine wk1 (x2 hlt' hy) ?_;refine ⟨k+1,ω,ω,?_⟩;unfold q7a;rw [<- er];refine q79 (r:=30) (k:=k) (row:=qfa (bgR b k)) (λ_ h=>h) hlt (by intro x hx; simp at hx; subst hx; trivial) ?_ ?_ (λi h1 h2 h3 h4=>?_) (λ_ _=>clV) BOk.h0 (.inl ω) ω ω ω (by simp [nmW]) ?_
   .try simp -implicitDefEqProofs (disch:=omega) only [go_sem,Nat.reduceEqDiff,Nat.reduceAdd,↓reduceIte]
   .try simp -implicitDefEqProofs (disch:=omega) only [go_sem,Nat.reduceEqDiff,Nat.reduceAdd,↓reduceIte]
   .rw [q0B h2,q0B h4,q0W h1]
   .try refine Zz ?_
    rfl
  .have hlt':¬ (k:Int) < n:=ω
   obtain rfl:n=k:=ω
   refine wk1 hlt' ?_;refine q0P (λq:Nat × (Nat->List Int)=>q.1<=n/\RsI F (z.map λy=>(y,0)) b n q.1 q.2/\RB q.2 (1+q.1*n)) [1,3,7,34] [3] Lk Lk (λq=>[(35,iv q.1)]) (λ_=>[]) (λq=>q7a n q.2) (λq=>n-q.1) (0,bgR b n) ⟨zC _,RsI.bg hbl,by rw [Nat.zero_mul]; exact RB.bg hb⟩ ?_ ?_
   .refine LeW [] rfl rfl ?_ ?_ (by simp [q0i,q0c,win]) ?_
    .exact Ow
    .exact wfB (q1Q Oq)
    .try refine Zz ?_
     rfl
   .clear hlt hlt' hk;rintro ⟨J,rows⟩ ⟨hJ,hI,hB⟩;simp only at hJ hI hB ⊢;have hJR:J*n<=20*20:=zM Oq hn
    by_cases hlt:J < n
    .have hlt':(J:Int) < n:=ω
     have g1:=hg J Oq;have g2:=hg (J+1) Oq;have oJ:=hos J;have ww:IntKind.i64.wrap ((J:Int)+1)=((J+1:Nat):Int):=by rw [i64_in ω ω]; omega
     have hZ:=λk v=>q5v (f:=F) (j:=J) (i:=n) (k:=k) (x:=v);have hIs:=hI.s;obtain ⟨L,hL⟩:∃ L,L=tZ F J n:=⟨_,rfl⟩;have hLn:L.length<=n:=by rw [hL]; unfold tZ; exact zN (yY _ _) σ
     have hixJ:=hix J;rw [<- hL] at oJ hZ hixJ hIs;clear hL;obtain ⟨p,hp⟩:∃ p,z[J]?=some p:=⟨_,zA Oq⟩;obtain ⟨p1,p2⟩:=hz p (zB hp);have hgp:(z.map λy=>(y,0)).getD J (0,0)=(p,0):=by rw [zI,zH,hp]; rfl
     rw [hgp] at hIs;have hm0:∀ v,q8A v (p,0)=q1W v p:=λv=>by
      show q1W v p+q1W v 0=q1W v p
      rw [qgM,Int.add_zero]
     have hLv:∀ e ∈ L,(e.2 < 18446744073709551616/\q0I e.2)/\e.1 < n:=λe he=>by
      obtain ⟨q1,q2⟩:=(hZ e.1 e.2).1 he;exact ⟨⟨h.u J e.1 e.2 hlt q1 q2,h.v J e.1 e.2 hlt q1 q2⟩,q1⟩
     have hBL:=λt=>hB.pg (g:=λv=>q8A v (p,0)) (L:=L.take t) λe he=>(qgO (hLv e (xF he)).1.2 p2 (by simp [q0I])).2;have C0:=q1v (q3D p1 (q0S p2)) (q2l p2);have N0:=q1Y (V:=ofZ p);refine wk1 (x2 hlt' g1) ?_;refine q0P (λt:Nat=>t<=L.length) [1,3,7,10,34,35] [3] Lk Lk (λt=>[(11,iv ((o J+t:Nat):Int))]) (λ_=>[]) (λt=>q7a n (psG (λv=>q8A v (p,0)) (L.take t) rows)) (λt=>L.length-t) 0 (zC _) ?_ ?_
     .refine LeW [] rfl rfl ?_ ?_ (by simp [q0i,q0c,win]) ?_
      .exact Ow
      .exact wfB (q1Q Oq)
      .try simp -implicitDefEqProofs (disch:=omega) only [go_sem,Nat.reduceEqDiff,Nat.reduceAdd,↓reduceIte]
     .intro t ht
      by_cases hlt2:t < L.length
      .obtain ⟨⟨i,v⟩,e1,e2,e3⟩:=hixJ (o J+t) Oq Oq Oq;rw [y7] at e1;dsimp only at e2 e3;obtain ⟨⟨v1,v2⟩,hin⟩:=hLv (i,v) (zB e1);dsimp only at v1 v2 hin;have hq:((o J+t:Nat):Int) < ((o (J+1):Nat):Int):=ω
       have C1:=q1v (q3D v1 (q0S v2)) (q2l v2);have N1:=q1Y (V:=ofZ v);have M:=q0n v2 p2;have C2:=qmR qcv λho=>q5m ho.1 ho.2 M.1;have hmd:=(q36 M.1).2.2.2;have C3:=q1v (qaP hmd) (by unfold q0Q at *; rw [z7]; exact hmd);have hr1:(List.range n)[i]?=some i:=zG hin;have hob:=(zJ.1 e2).1;have wt:IntKind.i64.wrap (((o J+t:Nat):Int)+1)=((o J+(t+1):Nat):Int):=by rw [i64_in ω ω]; omega
       have hps:psG (λv=>q8A v (p,0)) (L.take (t+1)) rows=q5T (psG (λv=>q8A v (p,0)) (L.take t) rows) i (-(q1W v p)):=by rw [<- hm0]; exact psG_s e1
       have hli:(psG (λv=>q8A v (p,0)) (L.take t) rows i).length<=2000:=by have:=(hBL t).l i; rw [zR] at this; omega
       generalize psG (λv=>q8A v (p,0)) (L.take t) rows=rs at *;refine wk1 (x6 g1 g2 ww hq e2 (x4 e3 hr1 hp wt)) ?_;refine ⟨t+1,ω,ω,?_⟩;rw [hps];unfold q7a;rw [<- qh6];refine q79 (r:=78) (k:=i) (row:=qfa rs) (λ_ h=>h) hin clV ?_ ?_ (λi h1 h2 h3 h4=>?_) (λ_ _=>clV) BOk.h0 (.inl ω) ω ω ω (by simp [nmW]) ?_
       .try simp -implicitDefEqProofs (disch:=omega) only [go_sem,Nat.reduceEqDiff,Nat.reduceAdd,↓reduceIte]
       .try refine Zz ?_
        rw [zD]
        rfl
       .rw [q0B h2,q0B h4,q0B h3,q0B (by obtain ⟨w1,w2⟩:=h1; omega),q0W h1]
       .try simp -implicitDefEqProofs (disch:=omega) only [go_sem,Nat.reduceEqDiff,Nat.reduceAdd,↓reduceIte]
      .obtain rfl:t=L.length:=ω
       have hq:¬ ((o J+L.length:Nat):Int) < ((o (J+1):Nat):Int):=ω
       have hB2:=hBL L.length;rw [zL] at hB2 ⊢;refine wk1 (x3 g2 ww hq) ?_;refine ⟨(J+1,psG (λv=>q8A v (p,0)) L rows),⟨hlt,hIs,hB2.mono (by rw [yP]; omega)⟩,by simp only; omega,?_⟩;simp only;refine LeW [] rfl rfl ?_ ?_ (by simp [q0i,q0c,win]) ?_
       .exact Ow
       .exact wfB (q1Q Oq)
       .try simp -implicitDefEqProofs (disch:=omega) only [go_sem,Nat.reduceEqDiff,Nat.reduceAdd,↓reduceIte]
    .obtain rfl:J=n:=ω
     have hlt':¬ (J:Int) < J:=ω
     have hsum:∀ r,r < J->q1R (rows r)=vrX F J b z r:=λr hr=>hpr r J rows hr hI rfl;have hrl:=hB.l;have hbb:=hB.b;have hwl:=λm=>q6G (n:=J) (g:=λr=>pV (vrX F J b z r)) (m:=m);have hws:=λm=>qjd (n:=J) (g:=λr=>pV (vrX F J b z r)) (m:=m);have hwc:=λm=>q1h (n:=J) (g:=λr=>pV (vrX F J b z r)) (m:=m) λc=>trivial;clear hfin hg hix hos hI hpr;refine wk1 hlt' ?_;refine q0P (λr=>r<=J) [84,85] [] Lk Lk (λr:Nat=>[(86,iv r),(13,.ow 1001 (some 4) 0 J)]) (λr=>[(1001,⟨48,some 4,rwP J (λr=>pV (vrX F J b z r)) r,false⟩)]) (λ_=>q7a J rows) (λr=>J-r) 0 (zC _) ?_ ?_
     .refine LeW [(1001,some 83)] rfl rfl ?_ ?_ (by simp [q0i,q0c,win]) ?_
      .exact Ow
      .exact wfB (q1Q Oq)
      .try refine Zz ?_
       exact ⟨rfl,q8d σ⟩
     .intro r hr
      by_cases hlt2:r < J
      .have q2:(r:Int) < J:=ω
       have hr1:(List.range J)[r]?=some r:=zG hlt2;have hd:q0Q (vrX F J b z r):=by have:=(hZb r hlt2).2; unfold q0Q; omega
       have hs2:=hsum r hlt2;have C2:=q1v (q7Z (l:=rows r) (by have:=hrl r; omega) (λz hz=>by have:=hbb r z hz; unfold q0Q; omega) (by rw [hs2]; exact hd)) (by rw [hs2]; exact hd);rw [hs2] at C2;have N2:=q1Y (V:=vrX F J b z r);have hli:=hrl r;have e1:=hws r;have e2:=hwl r;have e3:=hwc r;generalize rwP J (λr=>pV (vrX F J b z r)) r=W at *;refine wk1 (x3 q2 hr1 e2) ?_;refine ⟨r+1,ω,ω,?_⟩;rw [<- e1];refine LeW [] rfl rfl ?_ ?_ (by simp [q0i,q0c,win]) ?_
       .exact Ow
       .exact wfB (q1Q Oq)
       .try refine Zz ?_
        exact ⟨ω,q0C rfl (q2k e3 trivial)⟩
      .obtain rfl:r=J:=ω
       have q2:¬ (r:Int) < r:=ω
       refine wk1 (x3 q2 (hwl r) (hwc r)) ?_;exact zF (xP (hwl r))
end
abbrev pBx (n:Nat) (v z:List Nat):PV:=.ag [iv n,iv n,pF v,pF z]
def qoi {A B V:Int} (h:mkV (A*B) (-131072)=some V):ACt 163 [pV A,pV B] (pV V):=q1v (qmR qcv λho=>q5m ho.1 ho.2 h) (q36 h).2.2.2
def j03 {A B:Int} (h:q0Q (A+B)):ACt 178 [pV A,pV B] (pV (A+B)):=q1v (qmR qoY λho=>q5o ho.1 ho.2 h) h
def j02 {A B:Int} (h:q0Q (A-B)):ACt 176 [pV A,pV B] (pV (A-B)):=q1v (qmR qo0 λho=>qaN ho.1 ho.2 h) h
section
variable {F:Nat->Nat->Option Nat} {n:Nat} {b z v:List Nat}
def qu1 {i:Nat}:((List.range (i+1)).map (vdX n v (vrX F n b z)))=(List.range i).map (vdX n v (vrX F n b z)) ++ [vdX n v (vrX F n b z) i]:=qwD
def qu0 {i:Nat}:vfL F n v b z (i+1)=vfL F n v b z i ++ [vIv (z.getD i 0) (vfN F n v b z i) (vfG F n v)]:=by unfold vfL; rw [zY,zD]; rfl
def qeh {i:Nat}:(vfL F n v b z i).length=i:=by unfold vfL; simp
def q32 {l:List (Nat × Nat)}:ClL (l.map λp=>PV.ag [uv p.1,uv p.2]):=λx hx=>by
 obtain ⟨c,_,rfl⟩:=zK.1 hx;intro y hy;simp at hy
 rcases hy with rfl | rfl <;> trivial
def qrw (h:TOk F n n) (hn:n<=20) (hl:v.length=n*n) (hv:q0b v) (hb:q0b b) (hbl:b.length=n) (hz:q0b z) (hzl:z.length=n):ACt 102 [pT n n F,pF b,pBx n v z] (.tu [pP (vfO F n v b z).1,bv (vfO F n v b z).2]):=by
 have C1:=qhd h hn hl hv;have C2:=q1v qaO (by have:=q3C; unfold q0Q; omega);have C3:=q9l (l:=btL n v F) (by unfold btL; rw [q6J]; omega);have hG:=qei h hv;have dG:q0Q (vfG F n v):=by unfold q0Q; omega
 have C4:ACt 176 [pV q2Y,pV (grZ (btL n v F))] (pV (vfG F n v)):=j02 dG;have C5:=qoj qoX λho=>q3v (V:=vfG F n v) ho;have C6:=qrz h hn hz hzl hb hbl;have hr:=λk (hk:k < n)=>q8x h hb hz (b:=b) (z:=z) hk;have C7:=λi (hi:i < n)=>qry (r:=vrX F n b z) (i:=i) hn hl hv hi hr;have hds:=λi=>q8y (v:=v) (r:=vrX F n b z) (i:=i) Oq hv hr;have C8:=λi=>q1v (qoj qiF λho=>qed (A:=vsX n v (vrX F n b z) i) ho) (qoG (by have:=(hds i).2.2; unfold q0Q; omega));have C9:=q9l (l:=vfD F n v b z) (by unfold vfD; rw [q6J]; omega);have hNs:=λi (hi:i < n)=>qm4 h hv hb hz (i:=i) hi;have hdD:=λi=>qu1 (F:=F) (n:=n) (b:=b) (z:=z) (v:=v) (i:=i);have hLs:=λi=>qu0 (F:=F) (n:=n) (b:=b) (z:=z) (v:=v) (i:=i);have hLl:=λi=>qeh (F:=F) (n:=n) (b:=b) (z:=z) (v:=v) (i:=i);have hL0:vfL F n v b z 0=[]:=rfl;have hvn:=λi=>show vfN F n v b z i=prZ (vdX n v (vrX F n b z) i) (vfG F n v)+prZ (btZ n v F i) (grZ (vfD F n v b z)) from rfl;have hDe:vfD F n v b z=(List.range n).map (vdX n v (vrX F n b z)):=rfl;have hBg:=λi (hi:i < n)=>show ((btL n v F).map λV=>pV V)[i]?=some (pV (btZ n v F i)) by unfold btL; rw [zH,q4l hi]; rfl
 have hBl:((btL n v F).map λV=>pV V).length=n:=by unfold btL; simp
 have hDg:=λi (hi:i < n)=>show ((vfD F n v b z).map λV=>pV V)[i]?=some (pV (vdX n v (vrX F n b z) i)) by rw [hDe,zH,q4l hi]; rfl
 have hDl:((vfD F n v b z).map λV=>pV V).length=n:=by rw [hDe]; simp
 have hG0:vfG F n v=q2Y-grZ (btL n v F):=rfl;have e8:∀ i,((vsX n v (vrX F n b z) i).natAbs:Int)=vdX n v (vrX F n b z) i:=λ_=>rfl;simp only [e8] at C8;have hNr:(List.range n).map (vrX F n b z)=(List.range n).map (vrX F n b z):=rfl;unfold vfO;unfold pPn at C1 C7;unfold pBx at *;unfold pT q2M at *;generalize (tM F n n).1=ms at *;generalize (tM F n n).2.1=mi at *;generalize (tM F n n).2.2=mv at *;have NG:=q1Y (V:=vfG F n v);have N1:=q1Y (V:=q2Y);have NB:=q1Y (V:=grZ (btL n v F));clear hr hG hds hNr e8
 by_cases h1:q2Y<=grZ (btL n v F)
 .rw [if_pos h1];have q:(vfG F n v).sign<=0:=by
   rw [hG0]
   rcases uV h1 with h1 | h1
   .rw [yC ω]; omega
   .rw [show q2Y-grZ (btL n v F)=0 by omega]; decide
  generalize (vfG F n v).sign=s at *;generalize vfG F n v=G at *;generalize btL n v F=B at *;refine ac0 Tryz.func102 Tryz.ntmps102 [.tmp 6,.tmp 7] ?_;exact wk trivial
 rw [if_neg h1];dsimp only;have hGp:0 < vfG F n v:=ω
 rw [zZ hGp] at C5;have CQ:=λN=>ac_2x (x:=iv 2) qoW λho=>ql0 (mode:=2) (a:=N) (b:=vfG F n v) Oq ho.1 ho.2 Oq;generalize vfG F n v=G at *;rw [hDe] at hNs hvn C9 hDg hDl;generalize grZ ((List.range n).map (vdX n v (vrX F n b z)))=M at *;have NM:=q1Y (V:=M);refine ac0 Tryz.func102 Tryz.ntmps102 [.tmp 6,.tmp 7] ?_;refine wk ?_;refine q0A (λi=>i<=n) [1,3,5,8,9,10,34,35] [3,5,9] Lk Lk (λi:Nat=>[(36,iv i),(11,.ow 1001 (some 4) 0 i)]) (λi=>[(1001,⟨48,some 4,((List.range i).map (vdX n v (vrX F n b z))).map λV=>pV V,false⟩)]) (λi=>n-i) 0 (zC _) ?_ ?_
 .refine LeM [(1001,none)] rfl rfl ?_;refine Zz ?_
  first | done | rfl | exact ⟨rfl,rfl⟩
 .intro i hi;have li:(((List.range i).map (vdX n v (vrX F n b z))).map λV=>pV V).length=i:=σ
  by_cases hlt:i < n
  .have q:(i:Int) < n:=ω
   have c7:=C7 i hlt;have c8:=C8 i;have N2:=q1Y (V:=vsX n v (vrX F n b z) i);have N3:=q1Y (V:=vdX n v (vrX F n b z) i);have es:=hdD i;generalize vsX n v (vrX F n b z) i=S at *;generalize vdX n v (vrX F n b z) i=d at *;refine wk1 (x2 q li) ?_;refine ⟨i+1,ω,ω,?_⟩;rw [es];refine LeM [(1001,some 47)] rfl rfl ?_;refine Zz ?_;exact ⟨ω,q0C (by rw [zD]; rfl) clV⟩
  .obtain rfl:i=n:=ω
   have q:¬ (i:Int) < i:=ω
   have tk:List.take i (((List.range i).map (vdX i v (vrX F i b z))).map λV=>pV V)=((List.range i).map (vdX i v (vrX F i b z))).map λV=>pV V:=zF σ;refine wk1 (x3 q li tk) ?_;refine q0A (λj=>j<=i) [5,8,9,11,13,52,53] [5,9,13,1001] Lk Lk (λj:Nat=>[(54,iv j),(14,.ow 1002 (some 2) 0 j)]) (λj=>[(1002,⟨58,some 2,(vfL F i v b z j).map λp=>.ag [uv p.1,uv p.2],false⟩)]) (λj=>i-j) 0 (zC _) ?_ ?_
   .rw [hL0];refine LeM [(1002,none)] rfl rfl ?_;refine Zz ?_
    first | done | rfl | exact ⟨rfl,rfl⟩ | exact ⟨rfl,q0C rfl clV⟩ | exact ⟨⟨rfl,rfl⟩,q0C rfl clV⟩
   .intro j hj;have lj:=hLl j
    by_cases hlt:j < i
    .have q:(j:Int) < i:=ω
     have gd:=hDg j hlt;have gb:=hBg j hlt;have es:=hLs j;obtain ⟨m1,m2,m3,m4⟩:=hNs j hlt;have nn:=hvn j;obtain ⟨w,hw⟩:∃ w,z[j]?=some w:=⟨_,zA Oq⟩;obtain ⟨w1,w2⟩:=hz w (zB hw);rw [getD_some hw] at es;generalize vdX i v (vrX F i b z) j=d at *;generalize btZ i v F j=u at *;generalize vfN F i v b z j=N at *;have c1:=qoi m1;have c2:=qoi m2;have dN:q0Q N:=by unfold q0Q; omega
     have c3:=j03 (A:=prZ d G) (B:=prZ u M) (by rw [<- nn]; exact dN);rw [<- nn] at c3;have c4:=CQ N;have r1:=qhX (mode:=2) (a:=N) (b:=G) Oq;have r2:=qoA (mode:=2) (a:=N) (b:=G) Oq;unfold vIv at es;generalize fQ 2 N G=R at *;have c5:=qrp (mode:=1) (.inr (.inl rfl)) ⟨w1,w2⟩ r1 r2;have c6:=qh3 (mode:=2) (.inr (.inr rfl)) ⟨w1,w2⟩ r1 r2;generalize qa2 1 w R=a1 at *;generalize q6f 2 w R=a2 at *;have N2:=q1Y (V:=d);have N3:=q1Y (V:=u);have N4:=q1Y (V:=N);have N5:=q1Y (V:=prZ d G);have N6:=q1Y (V:=prZ u M);refine wk1 (x6 q gd gb hw hDl (x2 hBl lj)) ?_;refine ⟨j+1,ω,ω,?_⟩;rw [es];refine LeM [(1002,some 83)] rfl rfl ?_;refine Zz ?_
     first | exact ⟨ω,q0C (by rw [zD]; rfl) q32⟩ | exact ⟨ω,q0C (by rw [zD]; rfl) q32,q0C rfl clV⟩
    .obtain rfl:j=i:=ω
     have q:¬ (j:Int) < j:=ω
     have hcl:(∀ a:Nat × Nat,a ∈ vfL F j v b z j->Cld (PV.ag [uv a.1,uv a.2]))=True:=eq_true λa _=>by
      intro y hy;simp at hy
      rcases hy with rfl | rfl <;> trivial
     exact wk1 (x3 q lj hcl) trivial
def qeF (h:TOk F n n) (hn:n<=20) (hl:v.length=n*n) (hv:q0b v) (hb:q0b b) (hbl:b.length=n) (hz:q0b z) (hzl:z.length=n):ACt 27 [pT n n F,pF b,pBx n v z] (.tu [pP (vfO F n v b z).1,bv (vfO F n v b z).2,iv 0]):=by
 have hm2:n*n<=20*20:=zM hn hn;have hch:chP n n v=0:=by unfold chP; rw [if_neg (not_not_intro hl),if_pos λx hx=>(hv x hx).2]
 have C1:=qsC (r:=n) (c:=n) (v:=v) h Oq Oq Oq λx hx=>(hv x hx).1;have hbt:btC n n n n v=0:=by
  unfold btC;rw [if_neg (not_not_intro rfl),if_neg (not_not_intro hch),if_neg ω]
 rw [hbt] at C1;have C2:=qrw h hn hl hv hb hbl hz hzl;have C3:=qbD (l:=b) (λx hx=>(hb x hx).1) Oq;have C4:=qbD (l:=z) (λx hx=>(hz x hx).1) Oq;rw [decide_eq_true λx hx=>(hb x hx).2] at C3;rw [decide_eq_true λx hx=>(hz x hx).2] at C4;have q1:((b.length:Int) != (n:Int))=false:=by simp; omega
 have q2:((z.length:Int) != (n:Int))=false:=by simp; omega
 generalize vfO F n v b z=o at *;unfold pPn at C1;unfold pBx at *;unfold pT q2M at *;generalize (tM F n n).1=ms at *;generalize (tM F n n).2.1=mi at *;generalize (tM F n n).2.2=mv at *;refine ac0 Tryz.func27 Tryz.ntmps27 [.tmp 6,.tmp 7,.tmp 8] ?_;exact wk1 (x2 q1 q2) trivial
end
def mkV_2 {A:Int} (ho:q0Q (2*A)):mkV (od A) (dyE A+1)=some (2*A):=by
 have a1:=q64 (V:=A);rw [q3X (V:=2*A) ω ?_,q1e ho];have h0:=q1x (V:=A) (E:=dyE A) a1 (xS _);rw [Int.sub_self,show (0:Int).toNat=0 from rfl,Int.pow_zero,Int.mul_one] at h0;rw [show (dyE A+1+65536).toNat=(dyE A+65536).toNat+1 by omega,Int.pow_succ,<- zW,h0,yQ]
def qtW:q0a Tryz.prog 272=some (some 2):=κ
attribute [go_sem] qtW
def qvG {T:TypeId} {m i j:Nat} {xs l:List PV} {x:PV} {K:Bk->Prop} (hx:xs[i]?=some (.ag l)) (hj:j < l.length):qaD (some ⟨T,some m,xs,false⟩) (some none) (some 1) i j x K=q1p none x (K ⟨T,some m,xs.set i (.ag (l.set j x)),false⟩):=by
 unfold qaD q1p;refine propext ⟨?_,?_⟩
 .rintro ⟨b,k',u,u',h1,h2,_,_,h5,h6,h7,h8⟩;cases h1; cases h2;rw [hx] at h6;cases h6;unfold stU at h7;rw [if_neg σ] at h7;simp only at h7;rw [if_pos hj] at h7;cases h7; exact ⟨h5,h8⟩
 .rintro ⟨h2,h3⟩;exact ⟨_,none,.ag l,.ag (l.set j x),rfl,rfl,rfl,rfl,h2,hx,by unfold stU; rw [if_neg σ]; simp [hj],h3⟩
section
variable {R C:Nat} {F:Nat->Nat->Option Nat} {f:LUt} {b:List Nat} {sg:Bool} {steps:Int}
def qir {s:Nat} (h:s < 9223372036854775808):decide (s=0\/s=9223372036854775808)=decide (s=0):=by
 by_cases h0:s=0
 .rw [decide_eq_true h0,decide_eq_true (.inl h0)]
 .rw [decide_eq_false h0,decide_eq_false ω]
def qiv (hm:TOk F R C) (hb:LUb f) (hn:f.rows.length<=20) (hu:∀ v ∈ b,v < 18446744073709551616) (hl:b.length<=1000000) (hs1 : -9223372036854775808<=steps) (hs2:steps<=9223372036854775807):ACt 246 [pT R C F,pLU f,pF b,iv steps,bv sg] (rfV (rfS C F f b (!sg) R steps)):=by
 have cK1:=qa1 hm;have cK2:=qaL hb;have rfS0:=qjk (R:=R) (C:=C) (f:=f) (steps:=steps);have cG:=q7Y (l:=b) hb Oq hu hl;have hG:=q7O (l:=b) hb hu;have cGr:=λ(l:List Nat) (h1:q0b l) (h2:l.length<=1000000)=>q7Y (l:=l) hb Oq (λx hx=>(h1 x hx).1) h2;have hGr:=λ(l:List Nat) (h1:q0b l)=>q7O (l:=l) hb (λx hx=>(h1 x hx).1);have hmr:=hm.r;have hmc:=hm.c;unfold rfV rfS
 by_cases hz:rfR R C f steps=0
 case neg =>
  rw [if_pos hz];dsimp only;clear cG hG cGr hGr rfS0;unfold rfR at hz ⊢;unfold pT q2M at *;generalize q6q f=e at *;unfold pLU at *
  by_cases h1:e=0
  .rw [if_neg (not_not_intro h1)] at hz ⊢;subst h1
   by_cases h2:R=f.rows.length
   .have q2:((R:Int) != (f.rows.length:Int))=false:=by simp; omega
    by_cases h3:C=f.rows.length
    .have q3:((C:Int) != (f.rows.length:Int))=false:=by simp; omega
     rw [if_neg ω] at hz ⊢
     by_cases h4:steps < 0
     .rw [if_pos (.inl h4)];refine ac0 Tryz.func246 Tryz.ntmps246 [.tmp 10,.tmp 11,.tmp 12] ?_;exact wk1 (x3 q2 q3 h4) trivial
     .by_cases h5:steps > 64
      .rw [if_pos (.inr h5)];refine ac0 Tryz.func246 Tryz.ntmps246 [.tmp 10,.tmp 11,.tmp 12] ?_;exact wk1 (x4 q2 q3 h4 h5) trivial
      .rw [if_neg ω] at hz;exact absurd rfl hz
    .have q3:((C:Int) != (f.rows.length:Int))=true:=by simp; omega
     rw [if_pos (.inr h3)];refine ac0 Tryz.func246 Tryz.ntmps246 [.tmp 10,.tmp 11,.tmp 12] ?_;exact wk1 (x2 q2 q3) trivial
   .have q2:((R:Int) != (f.rows.length:Int))=true:=by simp; omega
    rw [if_pos (.inl h2)];refine ac0 Tryz.func246 Tryz.ntmps246 [.tmp 10,.tmp 11,.tmp 12] ?_;exact wk1 q2 trivial
  .rw [if_pos h1];have q:(e != 0)=true:=by simpa using h1
   refine ac0 Tryz.func246 Tryz.ntmps246 [.tmp 10,.tmp 11,.tmp 12] ?_;exact wk1 q trivial
 rw [if_neg (not_not_intro hz)];obtain ⟨hck,hR,hC,s0,s1⟩:=rfS0 hz;rw [hck] at cK2;obtain rfl:C=R:=ω
 have q2:((C:Int) != (f.rows.length:Int))=false:=by simp; omega
 have q4:¬ steps < 0:=ω
 have q5:¬ steps > 64:=ω
 by_cases hg:(lgE f b).2=0
 case neg =>
  rw [if_pos hg];generalize (lgE f b).2=e at *;generalize (lgE f b).1=xs at *;have q:(e != 0)=true:=by simpa using hg
  unfold pT q2M pLU at *;dsimp only;refine ac0 Tryz.func246 Tryz.ntmps246 [.tmp 10,.tmp 11,.tmp 12] ?_;exact wk1 (x4 q2 q4 q5 q) trivial
 rw [if_neg (not_not_intro hg)];obtain ⟨_,hbn,hbf,hxn,hxf⟩:=hG hg;rw [hg] at cG;have cD:=λ(x:List (Nat × Nat)) (h1:quA x) (h2:x.length=C)=>quO (f:=F) (x:=x) (b:=b) hm Oq Oq h1 h2 hbf Oq;generalize (lgE f b).1=x0 at *;have hxl:x0.length=C:=ω
 have cP:=qe7 (l:=x0) Oq;clear hG hg rfS0;have hpl:pT C C F=q2M C C (tM F C C).1 (tM F C C).2.1 (tM F C C).2.2:=rfl;rw [hpl] at cK1 ⊢;simp only [hpl] at cD;clear hpl;unfold q2M at *;generalize (tM F C C).1=ms at *;generalize (tM F C C).2.1=mi at *;generalize (tM F C C).2.2=mv at *;have hrfL:=λk x r l=>show rfL C F f b (!sg) (k+1) x r l=(
  if q1q r C=0 then (x,l,0) else
  if (lgE f r).2≠0 then ([],[],(lgE f r).2) else
  if ¬ ∀ p ∈ chL (!sg) x (lgE f r).1 C,q0I p.1 then ([],[],233) else
  if ¬ ∀ v ∈ rdL F (chL (!sg) x (lgE f r).1 C) b C C,q0I v then ([],[],233) else
  if ofZ (q1q r C) < 2*ofZ (q1q (rdL F (chL (!sg) x (lgE f r).1 C) b C C) C) then (x,l,0) else
  rfL C F f b (!sg) k (chL (!sg) x (lgE f r).1 C) (rdL F (chL (!sg) x (lgE f r).1 C) b C C) (l ++ [q1q (rdL F (chL (!sg) x (lgE f r).1 C) b C C) C])) from rfl
 have hrf0:=λx r l=>show rfL C F f b (!sg) 0 x r l=(x,l,0) from rfl;have hdl:=λx=>qab (f:=F) (x:=x) (b:=b) (C:=C) (i:=C);have hdu:=λx=>qqQ (f:=F) (x:=x) (b:=b) (C:=C) (i:=C);generalize rfL C F f b (!sg)=RL at *;generalize hdg:(λx=>rdL F x b C C)=RD at *;have hRD:=λx=>show rdL F x b C C=RD x from congrFun hdg x;simp only [hRD] at hrfL hdl hdu cD ⊢;clear hRD hdg;unfold pLU at *;generalize hlg:lgE f=LG at *;have hX1:=qqZ hxf;have hX2:(x0.map λv=>(v,0)).length=C:=by rw [zE]; exact hxl
 generalize (x0.map λv=>(v,0))=X at *;have c2:=cD X hX1 hX2;have hDl0:=hdl X;have hDu:=hdu X;generalize RD X=r0 at *;have C1:=@q0s
 by_cases hf0:∀ v ∈ r0,q0I v
 case neg =>
  rw [if_pos hf0];rw [if_neg hf0] at c2;clear cD;refine ac0 Tryz.func246 Tryz.ntmps246 [.tmp 10,.tmp 11,.tmp 12] ?_;exact wk1 (x3 q2 q4 q5) trivial
 rw [if_neg (not_not_intro hf0)];rw [if_pos hf0] at c2;have hr0:q0b r0:=λv hv=>⟨hDu v hv,hf0 v hv⟩;have c3:=q7X hr0 Oq;rw [hDl0] at c3;obtain ⟨N,hN⟩:∃ N:Nat,steps=N:=⟨steps.toNat,ω⟩;subst hN;rw [zU];obtain ⟨res,hres⟩:∃ r,r=RL N X r0 [q1q r0 C]:=⟨_,rfl⟩;rw [<- hres];refine ac0 Tryz.func246 Tryz.ntmps246 [.tmp 10,.tmp 11,.tmp 12] ?_;refine wk1 (x3 q2 q4 q5) ?_;refine q0A (λq:Nat × List (Nat × Nat) × List Nat × List Nat=>q.1<=N/\q.2.1.length=C/\quA q.2.1/\q.2.2.1.length=C/\q0b q.2.2.1/\q.2.2.2.length<=q.1/\RL (N-q.1) q.2.1 q.2.2.1 (q.2.2.2 ++ [q1q q.2.2.1 C])=res) [2,3,4,5,6] [5,6] Lk Lk (λq=>[(21,iv q.1),(17,pP q.2.1),(18,pF q.2.2.1),(20,.ow 1002 none 0 (q.2.2.2.length+1))]) (λq=>[(1002,⟨33,none,(q.2.2.2 ++ [q1q q.2.2.1 C]).map λz:Nat=>uv z,false⟩)]) (λq=>N-q.1) (0,X,r0,[]) ⟨zC _,hX2,hX1,hDl0,hr0,zC _,hres.symm⟩ ?_ ?_
 .refine LeM [(1002,some 81)] rfl rfl ?_;refine Zz ?_
  rfl
 .clear hr0 hX1 hX2 hres hf0 c2 c3 cP hDu hDl0 cK1 cK2 cG hxf hck;rintro ⟨k,x,r,l⟩ ⟨hk,hx1,hx2,hr1,hr2,hl1,hv⟩;simp only at hk hx1 hx2 hr1 hr2 hl1 hv ⊢;have z1:=qbt hr2;have c3:=q7X hr2 Oq;rw [hr1] at z1 c3;have hll:(l ++ [q1q r C]).length=l.length+1:=σ
  have c4:=q4f (x:=q1q r C);rw [qir z1.1] at c4
  by_cases hlt:k < N
  .have hlt':(k:Int) < N:=ω
   rw [show N-k=(N-(k+1))+1 by omega,hrfL] at hv
   by_cases h0:q1q r C=0
   .rw [if_pos h0] at hv;subst hv;rw [decide_eq_true h0] at c4;exact wk1 (x2 hlt' hll) trivial
   rw [if_neg h0] at hv;rw [decide_eq_false h0] at c4;have c5:=cGr r hr2 Oq;have h5:=hGr r hr2
   by_cases he:(LG r).2=0
   case neg =>
    rw [if_pos he] at hv;subst hv;generalize (LG r).2=e at *;generalize (LG r).1=ds at *;have q:(e != 0)=true:=by simpa using he
    exact wk1 (x3 hlt' hll q) trivial
   rw [if_neg (not_not_intro he)] at hv;obtain ⟨_,_,_,d1,d2⟩:=h5 he;rw [he] at c5;generalize (LG r).1=d at *;have d1:d.length=C:=ω
   clear h5 he;have g0:=rwQ_0 (n:=C) (g:=λj=>chV (!sg) (x.getD j (0,0)) (d.getD j 0));have gn:=rwQ_n (n:=C) (dbl:=!sg) (x:=x) (d:=d);have gl:=λm=>qqC (n:=C) (g:=λj=>chV (!sg) (x.getD j (0,0)) (d.getD j 0)) (m:=m);have gs:=λm=>rwQ_s (n:=C) (g:=λj=>chV (!sg) (x.getD j (0,0)) (d.getD j 0)) (m:=m);have hY2:=qbO (dbl:=!sg) (x:=x) (d:=d) (n:=C);have hY1:=qiD (dbl:=!sg) (x:=x) (d:=d) (n:=C);have hYm:=λj (hj:j < C)=>show chV (!sg) (x.getD j (0,0)) (d.getD j 0) ∈ chL (!sg) x d C from yO (zP.2 hj);have hYx:(∀ j,j < C->q0I (chV (!sg) (x.getD j (0,0)) (d.getD j 0)).1)->∀ p ∈ chL (!sg) x d C,q0I p.1:=λh p hp=>by
    obtain ⟨j,hj,rfl⟩:=zK.1 hp;exact h j (zP.1 hj)
   generalize rwQ C (λj=>chV (!sg) (x.getD j (0,0)) (d.getD j 0))=G at *;refine wk1 (x3 hlt' hll hx1) ?_;refine q0A (λi=>i<=C/\∀ j,j < i->q0I (chV (!sg) (x.getD j (0,0)) (d.getD j 0)).1) [2,3,4,5,6,17,18,20,21,22] [5,6,1002] Lk Lk (λi=>[(25,iv i),(24,.ow 1003 (some 2) 0 C)]) (λi=>[(1003,⟨272,some 2,(G i).map λp:Nat × Nat=>.ag [uv p.1,uv p.2],false⟩)]) (λi=>C-i) 0 ⟨zC _,λ_ h=>by omega⟩ ?_ ?_
   .refine LeM [(1003,some 104)] rfl rfl ?_;refine Zz ?_;exact ⟨rfl,q0C (by rw [<- g0,xN]; rfl) quB⟩
   .rintro i ⟨hi,hgf⟩
    by_cases hlt2:i < C
    .have hli:(i:Int) < C:=ω
     obtain ⟨p,hp⟩:∃ p,x[i]?=some p:=⟨_,zA Oq⟩;obtain ⟨v,hdv⟩:∃ v,d[i]?=some v:=⟨_,zA Oq⟩;obtain ⟨⟨p1,p2⟩,p3,p4⟩:=hx2 p (zB hp);obtain ⟨v1,v2⟩:=d2 v (zB hdv);have o1:=q0s p1 (q0S p2);have o2:=q0s p3 (q0S p4);have o3:=q0s v1 (q0S v2);have hT:=qzG p2 p4 v2;have a1:=q5C (A:=ofZ p.1) (B:=ofZ p.2) (by have:=pZ_bl p2 p4; unfold pZ at this; unfold q0Q; omega);have a2:=q5C (A:=ofZ p.1+ofZ p.2) (B:=ofZ v) (by unfold chT at hT; unfold q0Q; omega);rw [show ofZ p.1+ofZ p.2+ofZ v=chT p v from rfl] at a2;have c6:=q4n (A:=chT p v);have hgp:x.getD i (0,0)=p:=by rw [zI,hp]; rfl
     have hgs:=gs i;have hgm:=hYm i hlt2;rw [hgp,getD_some hdv] at hgs hgm;have hcv:chV (!sg) p v=(fR 0 (chT p v),if (!sg)=true then fR 0 (chT p v-ofZ (fR 0 (chT p v))) else 0):=rfl;have hqlt:fR 0 (chT p v) < 18446744073709551616:=q2e;generalize chT p v=T at *;generalize fR 0 T=y at *;have c7:=q18 hqlt;have hget:(((G i).map λp:Nat × Nat=>PV.ag [uv p.1,uv p.2]).set i (.ag [uv y,.vl (.int .u64 0)]))[i]?=some (.ag [uv y,.vl (.int .u64 0)]):=z8 (by rw [zE,gl]; exact hlt2)
     by_cases hfy:q0I y
     .rw [decide_eq_true hfy] at c7;have o4:=q0s hqlt (q0S hfy);have s1:=qho (A:=T) (B:=ofZ y) (by have:=q6c (a:=T) (b:=ofZ y) (k:=67602) hT (by have:=q17 hfy; omega); unfold q0Q; omega);have c8:=q4n (A:=T-ofZ y);have hnx:∀ j,j < i+1->q0I (chV (!sg) (x.getD j (0,0)) (d.getD j 0)).1:=λj hj=>by
       rcases yZ.1 hj with h | rfl
       .exact hgf j h
       .rw [hgp,getD_some hdv,hcv]; exact hfy
      have hset:((G i).map λp:Nat × Nat=>PV.ag [uv p.1,uv p.2]).set i (.ag [uv (chV (!sg) p v).1,uv (chV (!sg) p v).2])=(G (i+1)).map λp:Nat × Nat=>PV.ag [uv p.1,uv p.2]:=by rw [<- hgs,List.map_set]
      rw [hcv] at hset;generalize fR 0 (T-ofZ y)=w at *;clear hYx hYm hgm hgs gs hcv;cases sg
      .have hsto:=λ(x:PV) (K:Bk->Prop)=>qvG (T:=272) (m:=2) (j:=1) (x:=x) (K:=K) hget σ;refine wk1 (x6 hli hx1 hp hdv (gl i) (x2 hget hsto)) ?_;refine ⟨i+1,⟨ω,hnx⟩,ω,?_⟩;rw [if_pos (by decide)] at hset;refine LeM [] rfl rfl ?_;refine Zz ?_;exact ⟨ω,q0C (by rw [List.set_set]; exact hset) quB⟩
      .refine wk1 (x6 hli hx1 hp hdv (gl i) hget) ?_;refine ⟨i+1,⟨ω,hnx⟩,ω,?_⟩;refine LeM [] rfl rfl ?_;refine Zz ?_;rw [if_neg (by decide)] at hset;exact ⟨ω,q0C hset quB⟩
     .rw [decide_eq_false hfy] at c7;rw [if_pos λh=>hfy (by have:=h _ hgm; rwa [hcv] at this)] at hv;subst hv;exact wk1 (x6 hli hx1 hp hdv (gl i) hget) trivial
    .obtain rfl:i=C:=ω
     have hli:¬ (i:Int) < i:=ω
     have hYf:=hYx hgf;rw [if_neg (not_not_intro hYf)] at hv;have hY1:=hY1 hYf;rw [gn];generalize chL (!sg) x d i=Y at *;clear hYx hYf hYm gs g0 gn hgf;have c8:=cD Y hY1 hY2;have e1:=hdl Y;have e2:=hdu Y;refine wk1 (x2 hli hx1) ?_;refine q0r (LeM [] rfl rfl (xs:=[(2,pF b),(3,iv N),(4,bv sg),(5,.pt 5 0 0),(6,.pt 6 0 0),(17,pP x),(18,pF r),(20,.ow 1002 none 0 (l.length+1)),(21,iv k),(24,pP Y)]) (kv:=[]) (bs:=[(5,⟨27,some 5,[.ag [iv i,iv i,pI ms,pI mi,pF mv]],false⟩),(6,⟨99,some 8,[.ag [pI f.rows,pI f.cols,pI f.ls,pI f.li,pF f.lv,pI f.us,pI f.ui,pF f.uv]],false⟩),(1002,⟨33,none,(l ++ [q1q r i]).map λz:Nat=>uv z,false⟩)]) (kb:=[]) ?_) ?_
     .try refine Zz ?_
      exact q5S (T:=272) rfl quB rfl (by rw [zE]; omega)
     generalize RD Y=S at *
     by_cases hfs:∀ v ∈ S,q0I v
     case neg =>
      rw [if_pos hfs] at hv;subst hv;rw [if_neg hfs] at c8;exact wk trivial
     rw [if_neg (not_not_intro hfs)] at hv;rw [if_pos hfs] at c8;have hSf:q0b S:=λv hv=>⟨e2 v hv,hfs v hv⟩;have c9:=q7X hSf Oq;have z2:=qbt hSf;rw [e1] at c9 z2;have o1:=q0s (x:=q1q r i) Oq (q0S z1.2);have o2:=q0s (x:=q1q S i) Oq (q0S z2.2);have sc:=qjc (V:=ofZ (q1q S i)) (j:=1) Oq Oq (mkV_2 (by have:=bl_2 (q17 z2.2); unfold q0Q; omega));have lc:=q51 (A:=ofZ (q1q r i)) (B:=2*ofZ (q1q S i))
     by_cases hsm:ofZ (q1q r i) < 2*ofZ (q1q S i)
     .rw [if_pos hsm] at hv;subst hv;rw [decide_eq_true hsm] at lc;exact wk1 hll trivial
     .rw [if_neg hsm] at hv;rw [decide_eq_false hsm] at lc;refine wk1 hll ?_;refine ⟨(k+1,Y,S,l ++ [q1q r i]),⟨by simp only; omega,hY2,hY1,e1,hSf,by simp only; rw [hll]; omega,hv⟩,by simp only; omega,?_⟩;simp only;refine LeM [(1002,some 181)] rfl rfl ?_;refine Zz ?_;omega
  .obtain rfl:k=N:=ω
   have hlt':¬ (k:Int) < k:=ω
   rw [xQ,hrf0] at hv;subst hv;exact wk1 (x2 hlt' hll) trivial
end
section
variable {R C:Nat} {F:Nat->Nat->Option Nat} {f:LUt} {b x:List Nat} {steps:Int}
abbrev rfH (q:List (Nat × Nat) × List Nat × Int):PV:=.tu [pF (q.1.map (·.1)),pF q.2.1,iv q.2.2]
def qfe {C:Nat} {F:Nat->Nat->Option Nat} {f:LUt} {b:List Nat} {dbl:Bool}:∀ (k:Nat) (x:List (Nat × Nat)) (r l:List Nat),x.length<=C->(rfL C F f b dbl k x r l).1.length<=C/\(rfL C F f b dbl k x r l).2.1.length<=l.length+k
 | 0,x,r,l,h=>⟨h,z6 _⟩
 | k+1,x,r,l,h=>by
  rw [rfL]
  split
  .exact ⟨h,by dsimp only; omega⟩
  split
  .exact ⟨zC _,zC _⟩
  split
  .exact ⟨zC _,zC _⟩
  split
  .exact ⟨zC _,zC _⟩
  split
  .exact ⟨h,by dsimp only; omega⟩
  .have:=qfe (F:=F) (f:=f) (b:=b) (dbl:=dbl) k (chL dbl x (lgE f r).1 C) (rdL F (chL dbl x (lgE f r).1 C) b C C) (l ++ [q1q (rdL F (chL dbl x (lgE f r).1 C) b C C) C]) (xP qbO);rw [uW,xE] at this;exact ⟨this.1,ω⟩
def qqL {dbl:Bool} (hb:LUb f) (hu:∀ v ∈ b,v < 18446744073709551616) (hC:C<=200):(rfS C F f b dbl R steps).1.length<=200/\(rfS C F f b dbl R steps).2.1.length<=200:=by
 unfold rfS
 by_cases h1:rfR R C f steps≠0
 .rw [if_pos h1]; exact ⟨zC _,zC _⟩
 rw [if_neg h1];obtain ⟨q1,q2,q3,q4,q5⟩:=qjk (Classical.not_not.1 h1)
 by_cases h2:(lgE f b).2≠0
 .rw [if_pos h2]; exact ⟨zC _,zC _⟩
 rw [if_neg h2];obtain ⟨_,_,_,p1,_⟩:=q7O hb hu (Classical.not_not.1 h2)
 split
 .exact ⟨zC _,zC _⟩
 .have:=qfe (C:=C) (F:=F) (f:=f) (b:=b) (dbl:=dbl) steps.toNat ((lgE f b).1.map λv=>(v,0)) (rdL F ((lgE f b).1.map λv=>(v,0)) b C C) [q1q (rdL F ((lgE f b).1.map λv=>(v,0)) b C C) C] (by rw [zE]; omega);rw [xE] at this;exact ⟨ω,ω⟩
def qdT (hm:TOk F R C) (hb:LUb f) (hn:f.rows.length<=20) (hu:∀ v ∈ b,v < 18446744073709551616) (hl:b.length<=1000000) (hs1 : -9223372036854775808<=steps) (hs2:steps<=9223372036854775807):ACt 159 [pT R C F,pLU f,pF b,iv steps] (rfH (rfS C F f b false R steps)):=by
 have c1:ACt _ _ (rfV (rfS C F f b false R steps)):=qiv (sg:=true) (steps:=steps) hm hb hn hu hl hs1 hs2;have hl2:=(qqL (R:=R) (C:=C) (F:=F) (steps:=steps) (dbl:=false) hb hu hm.c).1;unfold rfH rfV at *;generalize (rfS C F f b false R steps).1=x at *;generalize (rfS C F f b false R steps).2.1=l at *;generalize (rfS C F f b false R steps).2.2=e at *;unfold pT q2M pLU at *;have nn:Nz (iv e):=qcM;refine ac0 Tryz.func159 Tryz.ntmps159 [.tmp 8,.tmp 9,.tmp 10] ?_;refine wk ?_;refine q0A (λi=>i<=x.length) [11,12,13] [] Lk Lk (λi:Nat=>[(15,iv i),(14,.ow 1001 none 0 i)]) (λi=>[(1001,⟨33,none,((x.take i).map (·.1)).map λz:Nat=>uv z,false⟩)]) (λi=>x.length-i) 0 (zC _) ?_ ?_
 .refine LeM [(1001,none)] rfl rfl ?_;refine Zz ?_
  rfl
 .intro i hi;have htl:(x.take i).length=i:=by rw [zR]; omega
  by_cases hlt:i < x.length
  .obtain ⟨p,hp⟩:∃ p,x[i]?=some p:=⟨_,zA hlt⟩;have e:((x.take (i+1)).map (·.1)).map (λz:Nat=>uv z)=((x.take i).map (·.1)).map (λz:Nat=>uv z) ++ [uv p.1]:=by rw [q1l hp,zD,zD]; rfl
   refine wk1 (x2 hp htl) ?_;refine ⟨i+1,ω,ω,?_⟩;rw [e];refine LeM [(1001,some 38)] rfl rfl ?_;refine Zz ?_;exact ⟨ω,q0C rfl (by rw [<- e]; exact clU)⟩
  .obtain rfl:i=x.length:=ω
   rw [zL];refine wk ?_;exact zF σ
end

section
variable {raw:List Nat} {n st steps:Int} {w:Bool}
end
section
variable {a:Nat} {V:Int}
end
section
variable {C:Nat} {F:Nat->Nat->Option Nat} {f:LUt} {b:List Nat}
end
section
variable {raw:List Nat} {n st:Int} {w:Bool}
end
abbrev pS (a:Int × Int):PV:=.ag [bv false,bv (decide (od a.1 < 0)),.fm (fL (od a.1)),iv (dyE a.1),bv false,bv (decide (od a.2 < 0)),.fm (fL (od a.2)),iv (dyE a.2)]
def spA (a c:Int × Int):Int × Int:=(a.1+c.1,a.2+c.2)
def spS (a c:Int × Int):Int × Int:=(a.1-c.2,a.2-c.1)
def spP (a c:Int × Int):List Int:=[prZ a.1 c.1,prZ a.1 c.2,prZ a.2 c.1,prZ a.2 c.2]
def loQ (l:List Int):Nat->Int
 | 0=>0
 | i+1=>if i=0\/l.getD i 0 < loQ l i then l.getD i 0 else loQ l i
def hiQ (l:List Int):Nat->Int
 | 0=>0
 | i+1=>if i=0\/hiQ l i < l.getD i 0 then l.getD i 0 else hiQ l i
def spM (a c:Int × Int):Int × Int:=(loQ (spP a c) 4,hiQ (spP a c) 4)
def spK (k p:Nat) (a:Int × Int):Prop:=(mlk k a.1/\bl a.1.natAbs<=p)/\mlk k a.2/\bl a.2.natAbs<=p
def spK.d1 {k p:Nat} {a:Int × Int} (h:spK k p a) (hp:p<=131072):q0Q a.1/\q0Q a.2:=by
 unfold q0Q;exact ⟨zN h.1.2 hp,zN h.2.2 hp⟩
def spK.mono {j k p q:Nat} {a:Int × Int} (h:spK j p a) (hjk:j<=k) (hk:k<=65536) (hpq:p<=q):spK k q a:=⟨⟨q4G hjk hk h.1.1,zN h.1.2 hpq⟩,q4G hjk hk h.2.1,zN h.2.2 hpq⟩
def qjY {k p q:Nat} {a c:Int × Int} (ha:spK k p a) (hc:spK k p c) (hq:p+1<=q):spK k q (spA a c):=⟨⟨q8E ha.1.1 hc.1.1,zN (q2E ha.1.2 hc.1.2) hq⟩,q8E ha.2.1 hc.2.1,zN (q2E ha.2.2 hc.2.2) hq⟩
def qd4 {k p q:Nat} {a c:Int × Int} (ha:spK k p a) (hc:spK k p c) (hq:p+1<=q):spK k q (spS a c):=⟨⟨q6R ha.1.1 hc.2.1,zN (q6c ha.1.2 hc.2.2) hq⟩,q6R ha.2.1 hc.1.1,zN (q6c ha.2.2 hc.1.2) hq⟩
def qnH {j k p q:Nat} {a c:Int × Int} (ha:spK j p a) (hc:spK k q c) (hjk:j+k<=65536) (hpq:p+q<=196608):∀ y ∈ spP a c,mlk (j+k) y/\bl y.natAbs<=p+q-65536:=λy hy=>by
 unfold spP at hy;simp at hy
 rcases hy with rfl | rfl | rfl | rfl
 .have:=q3l ha.1.1 hc.1.1 hjk ha.1.2 hc.1.2 hpq; exact ⟨this.2.2.1,this.2.1⟩
 .have:=q3l ha.1.1 hc.2.1 hjk ha.1.2 hc.2.2 hpq; exact ⟨this.2.2.1,this.2.1⟩
 .have:=q3l ha.2.1 hc.1.1 hjk ha.2.2 hc.1.2 hpq; exact ⟨this.2.2.1,this.2.1⟩
 .have:=q3l ha.2.1 hc.2.1 hjk ha.2.2 hc.2.2 hpq; exact ⟨this.2.2.1,this.2.1⟩
def qqs {P:Int->Prop} {l:List Int} (h0:P 0) (h:∀ x ∈ l,P x):∀ i,P (loQ l i)/\P (hiQ l i)
 | 0=>⟨h0,h0⟩
 | i+1=>by
  obtain ⟨h1,h2⟩:=qqs h0 h i;have hg:P (l.getD i 0):=by
   rw [zI];cases e:l[i]? with
   | none=>exact h0
   | some y=>exact h y (zB e)
  rw [loQ,hiQ];refine ⟨?_,?_⟩ <;> split <;> assumption
def q9H {j k p q:Nat} {a c:Int × Int} (ha:spK j p a) (hc:spK k q c) (hjk:j+k<=65536) (hpq:p+q<=196608):spK (j+k) (p+q-65536) (spM a c):=by
 have h:=qqs (P:=λy=>mlk (j+k) y/\bl y.natAbs<=p+q-65536) (l:=spP a c) ⟨qdp,by simp [q02]⟩ (qnH ha hc hjk hpq) 4;exact h
def q2u {v:Nat} (h:q0I v):spK 1074 66560 (ofZ v,ofZ v):=⟨⟨q5N h,q6n h⟩,q5N h,q6n h⟩
def q6E {u v:Nat} (hu:q0I u) (hv:q0I v):spK 1074 66560 (ofZ u,ofZ v):=⟨⟨q5N hu,q6n hu⟩,q5N hv,q6n hv⟩
def spK_1:spK 0 66560 (q2Y,q2Y):=⟨⟨q8D rfl,zN q3C Oq⟩,q8D rfl,zN q3C Oq⟩
def spK_0 {k p:Nat}:spK k p (0,0):=⟨⟨qdp,by simp [q02]⟩,qdp,by simp [q02]⟩
def qxH {a b c d e f g h:PV}:ldU (some 8) (some 4) 0 (.ag [a,b,c,d,e,f,g,h])=some (.ag [a,b,c,d]):=by simp [ldU]
def qxG {a b c d e f g h:PV}:ldU (some 8) (some 4) 4 (.ag [a,b,c,d,e,f,g,h])=some (.ag [e,f,g,h]):=by simp [ldU]
def qvO {a b c d e f g h p q r s:PV}:stU (some 8) (some 4) 0 (.ag [a,b,c,d,e,f,g,h]) (.ag [p,q,r,s])=some (.ag [p,q,r,s,e,f,g,h]):=by simp [stU]
def qvN {a b c d e f g h p q r s:PV}:stU (some 8) (some 4) 4 (.ag [a,b,c,d,e,f,g,h]) (.ag [p,q,r,s])=some (.ag [a,b,c,d,p,q,r,s]):=by simp [stU]
attribute [go_sem] qxH qxG qvO qvN
def qi5 {f:FuncId} {A B:Int} {r:PV} (hA:q0Q A) (hB:q0Q B) (h:ACt f [pV A,pV B] r):ACt f [dT A,dT B] r:=q5R (p:=True) h.1 (λD w vs hR=>by
 obtain ⟨a,b,rfl,h1,h2⟩:=qwR hR;refine ⟨?_,trivial⟩;unfold RdL;exact ⟨_,_,rfl,qa9 (q2m.1 ⟨h1,hA⟩),RdL.one (qa9 (q2m.1 ⟨h2,hB⟩))⟩) λ_=>h
section
variable {a c:Int × Int} {u v j k p q:Nat}
def qhc (hu:u < 18446744073709551616/\q0I u) (hv:v < 18446744073709551616/\q0I v):ACt 85 [.ag [uv u,uv v]] (pS (ofZ u,ofZ v)):=by
 have c1:=q3D hu.1 (q0S hu.2);have c2:=q3D hv.1 (q0S hv.2);unfold dT at c1 c2;refine ac0 Tryz.func85 Tryz.ntmps85 [.cell 2 132] ?_;exact wk trivial
def qha (hv:v < 18446744073709551616/\q0I v):ACt 88 [uv v] (pS (ofZ v,ofZ v)):=by
 have c2:=q3D hv.1 (q0S hv.2);unfold dT at c2;refine ac0 Tryz.func88 Tryz.ntmps88 [.cell 2 132] ?_;exact wk trivial
def ql7 (ha:q0Q a.1/\q0Q a.2) (hc:q0Q c.1/\q0Q c.2) (h1:q0Q (a.1+c.1)) (h2:q0Q (a.2+c.2)):ACt 89 [pS a,pS c] (pS (spA a c)):=by
 have c1:=q5o ha.1 hc.1 h1;have c2:=q5o ha.2 hc.2 h2;unfold dT at c1 c2;unfold spA;refine ac0 Tryz.func89 Tryz.ntmps89 [.cell 4 132] ?_;exact wk trivial
def qhb (ha:q0Q a.1/\q0Q a.2) (hc:q0Q c.1/\q0Q c.2) (h1:q0Q (a.1-c.2)) (h2:q0Q (a.2-c.1)):ACt 86 [pS a,pS c] (pS (spS a c)):=by
 have c1:=qaN ha.1 hc.2 h1;have c2:=qaN ha.2 hc.1 h2;unfold dT at c1 c2;unfold spS;refine ac0 Tryz.func86 Tryz.ntmps86 [.cell 4 132] ?_;exact wk trivial
end
def q52 {A B V:Int} (hA:q0Q A) (hB:q0Q B) (h:mkV (A*B) (-131072)=some V):ACt 163 [dT A,dT B] (dT V):=q5m hA hB h
def q50 {A B V:Int} (hA:q0Q A) (hB:q0Q B) (h:mkV (A*B) (-131072)=some V):ACt 47 [dT A,dT B] (dT V):=qy8 (qi5 hA hB (q2x h))
def clDT {l:List Int}:ClL (l.map λV=>dT V):=λx hx=>by
 obtain ⟨c,_,rfl⟩:=zK.1 hx;intro y hy;simp at hy
 rcases hy with rfl | rfl | rfl | rfl <;> trivial
def qS (l:List Int) (i:Nat):Int × Int:=(loQ l i,hiQ l i)
def qS_s {l:List Int} {i:Nat} {d:Int} (h:l[i]?=some d):qS l (i+1)=(if i=0\/d < (qS l i).1 then d else (qS l i).1,if i=0\/(qS l i).2 < d then d else (qS l i).2):=by
 show (loQ l (i+1),hiQ l (i+1))=_
 rw [loQ,hiQ,getD_some h]
 rfl
def qS_ok {l:List Int} (h:∀ x ∈ l,q0Q x) (i:Nat):q0Q (qS l i).1/\q0Q (qS l i).2:=qqs (P:=q0Q) dy0 h i
section
variable {a c:Int × Int} {j k p q:Nat}
def qh9 (ha:spK j p a) (hc:spK k q c) (hjk:j+k<=65536) (hpq:p+q<=196608) (hp:p<=131072) (hq:q<=131072):ACt 87 [pS a,pS c] (pS (spM a c)):=by
 obtain ⟨a1,a2⟩:=ha.d1 hp;obtain ⟨b1,b2⟩:=hc.d1 hq;have c1:=q52 a1 b1 (q3l ha.1.1 hc.1.1 hjk ha.1.2 hc.1.2 hpq).1;have c2:=q52 a1 b2 (q3l ha.1.1 hc.2.1 hjk ha.1.2 hc.2.2 hpq).1;have c3:=q52 a2 b1 (q3l ha.2.1 hc.1.1 hjk ha.2.2 hc.1.2 hpq).1;have c4:=q52 a2 b2 (q3l ha.2.1 hc.2.1 hjk ha.2.2 hc.2.2 hpq).1;have hd:∀ y ∈ spP a c,q0Q y:=λy hy=>by have:=(qnH ha hc hjk hpq y hy).2; unfold q0Q; omega
 have hl:spP a c=[prZ a.1 c.1,prZ a.1 c.2,prZ a.2 c.1,prZ a.2 c.2]:=rfl;have hres:spM a c=qS (spP a c) 4:=rfl;rw [hres];clear hres ha hc;obtain ⟨u1,u2⟩:=a;obtain ⟨y1,y2⟩:=c;dsimp only at *;generalize prZ u1 y1=p1 at *;generalize prZ u1 y2=p2 at *;generalize prZ u2 y1=p3 at *;generalize prZ u2 y2=p4 at *;have hss:=λi d=>qS_s (l:=spP (u1,u2) (y1,y2)) (i:=i) (d:=d);have hsk:=λi=>qS_ok hd i;have hs0:qS (spP (u1,u2) (y1,y2)) 0=(0,0):=rfl;have hlen:(spP (u1,u2) (y1,y2)).length=4:=by rw [hl]; rfl
 have hmp:(spP (u1,u2) (y1,y2)).map (λV=>dT V)=[dT p1,dT p2,dT p3,dT p4]:=by rw [hl]; rfl
 generalize spP (u1,u2) (y1,y2)=l at *;generalize qS l=Q at *;have d0:decide (od 0 < 0)=false:=by rw [q0k]; rfl
 have e0:dyE 0=0:=if_pos rfl;unfold dT at c1 c2 c3 c4 hmp;refine ac0 Tryz.func87 Tryz.ntmps87 [.cell 4 132] ?_;refine wk ?_;refine q0A (λi=>i<=4) [4] [4] Lk Lk (λi:Nat=>[(34,iv i),(33,iv 4),(32,.ow 1001 (some 4) 0 4),(5,.pt 5 0 0)]) (λi=>[(5,⟨132,some 8,[pS (Q i)],false⟩),(1001,⟨48,some 4,l.map λV=>dT V,false⟩)]) (λi=>4-i) 0 Oq ?_ ?_
 .rw [hs0];refine LeM [(1001,some 32)] rfl rfl ?_;refine Zz ?_;refine ⟨⟨rfl,rfl⟩,⟨d0.symm,(nfL q0k).mpr trivial,e0.symm,d0.symm,(nfL q0k).mpr trivial,e0.symm⟩,?_⟩;exact q0C hmp.symm clDT
 .intro i hi
  by_cases hlt:i < 4
  .have q:(i:Int) < 4:=ω
   obtain ⟨d,hdi⟩:∃ d,l[i]?=some d:=⟨_,zA Oq⟩;have dd:=hd d (zB hdi);obtain ⟨dL,dH⟩:=hsk i;have es:=hss i d hdi;have gd:(l.map λV=>dT V)[i]?=some (dT d):=by rw [zH,hdi]; rfl
   have clW:ClL (l.map λV=>dT V):=clDT;have gl:(l.map λV=>dT V).length=4:=by rw [zE,hlen]
   generalize Q i=P0 at *;obtain ⟨L,H⟩:=P0;dsimp only at *;have k1:=qaR dd dL;have k2:=qaR dd dH;unfold dT at k1 k2;change (l.map λV=>dT V)[i]?=some (.ag [bv false,bv (decide (od d < 0)),.fm (fL (od d)),iv (dyE d)]) at gd;clear hss hsk hdi c1 c2 c3 c4 hmp;generalize (l.map λV=>dT V)=W at *
   by_cases h0:i=0
   .have z0:((i:Int) == 0)=true:=by simp; omega
    rw [if_pos (.inl h0),if_pos (.inl h0)] at es;generalize (d-L).sign=s1 at *;generalize (d-H).sign=s2 at *;refine wk1 (x4 q gd gl z0) ?_;refine ⟨i+1,ω,ω,?_⟩;rw [es];refine LeM [] rfl rfl ?_;refine Zz ?_;exact ⟨ω,q0C rfl clW⟩
   .have z0:((i:Int) == 0)=false:=by simp; omega
    by_cases g1:d < L
    .rw [yC (show d-L < 0 by omega)] at k1;rw [if_pos (.inr g1)] at es
     by_cases g2:H < d
     .rw [zZ (show 0 < d-H by omega)] at k2;rw [if_pos (.inr g2)] at es;refine wk1 (x4 q gd gl z0) ?_;refine ⟨i+1,ω,ω,?_⟩;rw [es];refine LeM [] rfl rfl ?_;refine Zz ?_;exact ⟨ω,q0C rfl clW⟩
     .have g3:¬ (d-H).sign > 0:=qfX g2;rw [if_neg (by rintro (h | h); exact h0 h; exact g2 h)] at es;generalize (d-H).sign=s2 at *;refine wk1 (x4 q gd gl z0) ?_;refine ⟨i+1,ω,ω,?_⟩;rw [es];refine LeM [] rfl rfl ?_;refine Zz ?_;exact ⟨ω,q0C rfl clW⟩
    .have g4:¬ (d-L).sign < 0:=by
      rcases uV (show 0<=d-L by omega) with h | h
      .rw [zZ h]; omega
      .rw [<- h]; simp
     rw [if_neg (by rintro (h | h); exact h0 h; exact g1 h)] at es;generalize (d-L).sign=s1 at *
     by_cases g2:H < d
     .rw [zZ (show 0 < d-H by omega)] at k2;rw [if_pos (.inr g2)] at es;refine wk1 (x4 q gd gl z0) ?_;refine ⟨i+1,ω,ω,?_⟩;rw [es];refine LeM [] rfl rfl ?_;refine Zz ?_;exact ⟨ω,q0C rfl clW⟩
     .have g3:¬ (d-H).sign > 0:=qfX g2;rw [if_neg (by rintro (h | h); exact h0 h; exact g2 h)] at es;generalize (d-H).sign=s2 at *;refine wk1 (x4 q gd gl z0) ?_;refine ⟨i+1,ω,ω,?_⟩;rw [es];refine LeM [] rfl rfl ?_;refine Zz ?_;exact ⟨ω,q0C rfl clW⟩
  .obtain rfl:i=4:=ω
   exact wk trivial
end

def qqf {neg:Bool} {E:Nat} (hE:E=66507):ofF (sb neg 9218868437227405311)=some (sgn neg 9007199254740991*(2:Int) ^ E):=by
 unfold ofF;have h1:sb neg 9218868437227405311 / 4503599627370496 % 2048=2046:=by unfold sb; cases neg <;> simp
 have h2:sb neg 9218868437227405311 % 4503599627370496=4503599627370495:=by unfold sb; cases neg <;> simp
 have h3:decide (9223372036854775808<=sb neg 9218868437227405311)=neg:=by unfold sb; cases neg <;> simp
 rw [h1,if_neg ω,if_neg ω,h2,h3,show 64461+2046=E by omega]
def qqb {mode:Int} {neg:Bool} (hm:mode=1\/mode=2) (h:awy mode neg=true):q7J mode neg=sb neg 9218868437227405312:=by
 unfold q7J;unfold awy at h;rw [if_neg];rintro (h1 | ⟨h1,h2⟩ | ⟨h1,h2⟩)
 .omega
 .subst h1 h2; simp at h
 .subst h1 h2; simp at h
def qqd {mode:Int} {neg:Bool} (hm:mode=1\/mode=2) (h:awy mode neg=false):q7J mode neg=sb neg 9218868437227405311:=by
 unfold q7J;unfold awy at h;rw [if_pos]
 rcases hm with rfl | rfl
 .exact .inr (.inl ⟨rfl,by simpa using h⟩)
 .exact .inr (.inr ⟨rfl,by simpa using h⟩)
def qqK {mode:Int} {neg:Bool} {A B:Nat} (hm:mode=1\/mode=2) (hB:0 < B) (h:awy mode neg=true):A<=B*rq mode neg A B:=by
 have h1:=Nat.div_add_mod A B;have h2:=Nat.mod_lt A hB;have h3:B*(A / B+1)=B*(A / B)+B:=by rw [Nat.mul_add,Nat.mul_one]
 unfold awy at h;unfold rq
 split
 .omega
 .rcases hm with rfl | rfl
  .rw [if_pos rfl] at h ⊢;rw [if_pos h,h3]; omega
  .rw [if_neg (by omega:¬ (2:Int)=1)] at h ⊢;rw [if_pos rfl,if_neg (by simpa using h),h3]; omega
def qvz {mode:Int} {neg:Bool} {A B:Nat} (hm:mode=1\/mode=2) (h:awy mode neg=false):B*rq mode neg A B<=A:=by
 have h1:=Nat.div_add_mod A B;unfold awy at h;unfold rq
 split
 .omega
 .rcases hm with rfl | rfl
  .rw [if_pos rfl] at h ⊢;rw [if_neg (by simpa using h)]; omega
  .rw [if_neg (by omega:¬ (2:Int)=1)] at h ⊢;rw [if_pos rfl,if_pos (by simpa using h)]; omega
def qnW {mode:Int} {neg:Bool} {N D K:Nat} (hK:K=65536) (hm:mode=1\/mode=2) (hN:0 < N) (hD:0 < D) :
  (awy mode neg=true->rF mode neg N D=sb neg 9218868437227405312\/∃ y:Nat,ofF (rF mode neg N D)=some (sgn neg y)/\N*2 ^ K<=D*y)/\(awy mode neg=false->∃ y:Nat,ofF (rF mode neg N D)=some (sgn neg y)/\D*y<=N*2 ^ K):=by
 obtain ⟨u,r,h1,h2,h3,h4,h5⟩:=q3j (mode:=mode) (neg:=neg) (N:=N) (D:=D) (K:=K) hN hD Oq;rw [h2];have ha:awy mode neg=true->N*2 ^ K<=D*(r*2 ^ u):=λq=>by
  have:=qqK (A:=N*2 ^ K) hm (Nat.mul_pos hD (q0G u)) q;rw [<- h3,uZ,y9 (2 ^ u)] at this;exact this
 have ht:awy mode neg=false->D*(r*2 ^ u)<=N*2 ^ K:=λq=>by
  have:=qvz (A:=N*2 ^ K) (B:=D*2 ^ u) hm q;rw [<- h3,uZ,y9 (2 ^ u)] at this;exact this
 have good:ofF (fin mode neg r ((u:Int)-K))=some (sgn neg r*(2:Int) ^ u)->(awy mode neg=true->fin mode neg r ((u:Int)-K)=sb neg 9218868437227405312\/∃ y:Nat,ofF (fin mode neg r ((u:Int)-K))=some (sgn neg y)/\N*2 ^ K<=D*y)/\(awy mode neg=false->∃ y:Nat,ofF (fin mode neg r ((u:Int)-K))=some (sgn neg y)/\D*y<=N*2 ^ K):=λq=>by
  rw [<- q7h] at q;exact ⟨λw=>.inr ⟨_,q,ha w⟩,λw=>⟨_,q,ht w⟩⟩
 have bad:fin mode neg r ((u:Int)-K)=q7J mode neg->9007199254740992*2 ^ (K+971)<=r*2 ^ u->(awy mode neg=true->fin mode neg r ((u:Int)-K)=sb neg 9218868437227405312\/∃ y:Nat,ofF (fin mode neg r ((u:Int)-K))=some (sgn neg y)/\N*2 ^ K<=D*y)/\(awy mode neg=false->∃ y:Nat,ofF (fin mode neg r ((u:Int)-K))=some (sgn neg y)/\D*y<=N*2 ^ K):=λq hb=>by
  rw [q];refine ⟨λw=>.inl (qqb hm w),λw=>⟨9007199254740991*2 ^ (K+971),?_,?_⟩⟩
  .rw [qqd hm w,qqf (E:=K+971) ω,<- q7h]
  .refine zN (xJ D (zN (uY _ Oq) hb)) (ht w)
 by_cases hu:u+1076 < 2047+K
 .exact good (q6Z hK h1 h4 (by rcases h5 with h5 | h5; exact .inl h5; exact .inr h5.1) hu)
 have hr2:4503599627370496<=r:=by rcases h5 with h5 | h5; omega; exact h5.1
 by_cases hr:r=9007199254740992
 .refine bad ?_ ?_
  .unfold fin;rw [if_pos hr];unfold q4e;rw [if_neg ω,if_pos ω]
  .rw [hr];exact xJ _ (xH Oq Oq)
 .by_cases hu2:u+1076=2047+K
  .refine good ?_;unfold fin;rw [if_neg hr,q4Q ω ω ω (.inr hr2),show ((u:Int)-K+65536).toNat=u by omega]
  .refine bad ?_ ?_
   .unfold fin;rw [if_neg hr];unfold q4e;rw [if_neg ω,if_pos ω]
   .obtain ⟨w,rfl⟩:∃ w,u=K+971+1+w:=⟨u-(K+971+1),ω⟩;have e:r*2 ^ (K+971+1+w)=r*2*2 ^ w*2 ^ (K+971):=by rw [show K+971+1+w=1+w+(K+971) by omega,xG,xG,Nat.pow_one,<- uZ,<- uZ]
    rw [e];refine uY _ ?_;have:=zM (show 9007199254740992<=r*2 by omega) (q0G w)
    rwa [Nat.mul_one] at this
def q60 {f:Nat} {V:Int} (h:ofF f=some V):q0I f/\ofZ f=V:=by
 refine ⟨λq=>?_,q04 h⟩;unfold ofF at h;rw [if_pos q] at h;cases h
def qnO (r:Nat):sgn true r = -(r:Int):=rfl
def qnP (r:Nat):sgn false r=(r:Int):=rfl
def fQ_up {a b:Int} {K:Nat} (hK:K=65536) (hb:0 < b):fQ 2 a b=9218868437227405312\/(q0I (fQ 2 a b)/\a*(2:Int) ^ K<=b*ofZ (fQ 2 a b)):=by
 have hp:=q0H K;unfold fQ
 by_cases ha:a=0
 .rw [if_pos ha,ha];refine .inr ⟨by simp [q0I],?_⟩;rw [q04 q2c]; simp
 .rw [if_neg ha,decide_eq_false (show ¬ b < 0 by omega),xI];obtain ⟨d1,d2⟩:=qnW (mode:=2) (neg:=decide (a < 0)) (N:=a.natAbs) (D:=b.natAbs) hK (.inr rfl) Oq Oq;have eb:((b.natAbs:Nat):Int)=b:=ω
  by_cases hn:a < 0
  .rw [decide_eq_true hn] at d1 d2 ⊢;obtain ⟨y,h1,h2⟩:=d2 rfl;obtain ⟨h3,h4⟩:=q60 h1;refine .inr ⟨h3,?_⟩;rw [h4,qnO];have h5:((b.natAbs*y:Nat):Int)<=((a.natAbs*2 ^ K:Nat):Int):=by exact_mod_cast h2
   rw [zO,zO,eb,q01,show ((a.natAbs:Nat):Int) = -a by omega,yX] at h5;rw [Int.mul_neg];omega
  .rw [decide_eq_false hn] at d1 d2 ⊢
   rcases d1 rfl with h | ⟨y,h1,h2⟩
   .exact .inl h
   obtain ⟨h3,h4⟩:=q60 h1;refine .inr ⟨h3,?_⟩;rw [h4,qnP];have h5:((a.natAbs*2 ^ K:Nat):Int)<=((b.natAbs*y:Nat):Int):=by exact_mod_cast h2
   rw [zO,zO,eb,q01,show ((a.natAbs:Nat):Int)=a by omega] at h5;exact h5
def fQ_dn {a b:Int} {K:Nat} (hK:K=65536) (hb:0 < b):fQ 1 a b=18442240474082181120\/(q0I (fQ 1 a b)/\b*ofZ (fQ 1 a b)<=a*(2:Int) ^ K):=by
 have hp:=q0H K;unfold fQ
 by_cases ha:a=0
 .rw [if_pos ha,ha];refine .inr ⟨by simp [q0I],?_⟩;rw [q04 q2c]; simp
 .rw [if_neg ha,decide_eq_false (show ¬ b < 0 by omega),xI];obtain ⟨d1,d2⟩:=qnW (mode:=1) (neg:=decide (a < 0)) (N:=a.natAbs) (D:=b.natAbs) hK (.inl rfl) Oq Oq;have eb:((b.natAbs:Nat):Int)=b:=ω
  by_cases hn:a < 0
  .rw [decide_eq_true hn] at d1 d2 ⊢
   rcases d1 rfl with h | ⟨y,h1,h2⟩
   .exact .inl h
   obtain ⟨h3,h4⟩:=q60 h1;refine .inr ⟨h3,?_⟩;rw [h4,qnO];have h5:((a.natAbs*2 ^ K:Nat):Int)<=((b.natAbs*y:Nat):Int):=by exact_mod_cast h2
   rw [zO,zO,eb,q01,show ((a.natAbs:Nat):Int) = -a by omega,yX] at h5;rw [Int.mul_neg];omega
  .rw [decide_eq_false hn] at d1 d2 ⊢;obtain ⟨y,h1,h2⟩:=d2 rfl;obtain ⟨h3,h4⟩:=q60 h1;refine .inr ⟨h3,?_⟩;rw [h4,qnP];have h5:((b.natAbs*y:Nat):Int)<=((a.natAbs*2 ^ K:Nat):Int):=by exact_mod_cast h2
   rw [zO,zO,eb,q01,show ((a.natAbs:Nat):Int)=a by omega] at h5;exact h5
def qlZ {mode V:Int} {K:Nat} (hK:K=65536):fR mode V=fQ mode V ((2:Int) ^ K):=by
 have hp:=q0H K;unfold fR fQ;rw [decide_eq_false (show ¬ (2:Int) ^ K < 0 by omega),xI,<- hK]
 congr 2
def qxk {V:Int}:fR 2 V=9218868437227405312\/(q0I (fR 2 V)/\V<=ofZ (fR 2 V)):=by
 obtain ⟨K,hK⟩:∃ K:Nat,K=65536:=⟨_,rfl⟩;have hp:=q0H K;rw [qlZ hK]
 rcases fQ_up (a:=V) hK hp with h | ⟨h1,h2⟩
 .exact .inl h
 .refine .inr ⟨h1,?_⟩;rw [yQ] at h2;exact yV h2 hp
def qxm {V:Int}:fR 1 V=18442240474082181120\/(q0I (fR 1 V)/\ofZ (fR 1 V)<=V):=by
 obtain ⟨K,hK⟩:∃ K:Nat,K=65536:=⟨_,rfl⟩;have hp:=q0H K;rw [qlZ hK]
 rcases fQ_dn (a:=V) hK hp with h | ⟨h1,h2⟩
 .exact .inl h
 .refine .inr ⟨h1,?_⟩;rw [yQ V] at h2;exact yV h2 hp
def q7y {b:Nat} (hb:b < 18446744073709551616) (hf:q0I b):ofZ (q5L b) = -ofZ b:=by
 have h1:q5L b / 4503599627370496 % 2048=b / 4503599627370496 % 2048:=by unfold q5L; split <;> omega
 have h2:q5L b % 4503599627370496=b % 4503599627370496:=by unfold q5L; split <;> omega
 have h3:decide (9223372036854775808<=q5L b)=!decide (9223372036854775808<=b):=by
  unfold q5L
  by_cases h:b < 9223372036854775808
  .rw [if_pos h,decide_eq_true ω,decide_eq_false ω]; rfl
  .rw [if_neg h,decide_eq_false ω,decide_eq_true ω]; rfl
 have h4:∀ (s:Bool) (m k:Nat),sgn (!s) m*(2:Int) ^ k = -(sgn s m*(2:Int) ^ k):=λs m k=>by
  cases s
  .show -(m:Int)*_ = -((m:Int)*_)
   rw [yX]
  .show (m:Int)*_ = -(-(m:Int)*_)
   rw [yX,Int.neg_neg]
 unfold q0I at hf;unfold ofZ ofF;rw [h1,h2,h3,if_neg hf,if_neg hf]
 split
 .exact h4 _ _ _
 .exact h4 _ _ _
def qis {a:Nat} (hf:q0I a) (h:q2J a=0):ofZ a=0:=by
 unfold q2J at h;unfold q0I at hf;unfold ofZ ofF;rw [if_neg hf,if_pos ω,show a % 4503599627370496=0 by omega];have:∀ s:Bool,sgn s 0=0:=λs=>by cases s <;> rfl
 rw [this,Int.zero_mul]; rfl
def qwd:ofZ 9223372036854775808=0:=qis (by simp [q0I]) (by simp [q2J])
def qcJ {a:Nat}:∀ d:Nat,0 < d->a+d < 9223372036854775808->q0I (a+d)->ofZ a < ofZ (a+d)
 | 0,h,_,_=>by omega
 | d+1,_,h,hf=>by
  have h0:q0I (a+d):=by unfold q0I at *; omega
  have e:=qkE (a:=a+d) ω (by rw [show a+d+1=a+(d+1) by omega]; exact hf) h0;have hp:=q0H (qbb (a+d));rw [show a+d+1=a+(d+1) by omega] at e
  by_cases hd:d=0
  .have e0:a+d=a:=ω
   rw [e0] at e hp; omega
  .have:=qcJ d Oq Oq h0;omega
def q9R {a b:Nat} (h:a < b) (hb:b < 9223372036854775808) (hf:q0I b):ofZ a < ofZ b:=by
 obtain ⟨d,rfl⟩:∃ d,b=a+d:=⟨b-a,ω⟩;exact qcJ d Oq hb hf
def qdm:ofZ 0=0:=q04 q2c
def qn1 {a:Nat} (ha:a < 9223372036854775808) (hf:q0I a):0<=ofZ a:=by
 by_cases h:a=0
 .subst h; rw [qdm]; omega
 .have:=q9R (show 0 < a by omega) ha hf;rw [qdm] at this; omega
def qn4 {f:Nat} (hf:f < 18446744073709551616) (h:q0I f):ofZ f=if 9223372036854775808<=f then -ofZ (q2J f) else ofZ (q2J f):=by
 split
 .rename_i q;have h1:q2J f < 9223372036854775808:=q3J;have e:f=q5L (q2J f):=by unfold q5L; rw [if_pos h1]; unfold q2J; omega
  conv=>lhs; rw [e]
  exact q7y Oq (q45 h)
 .rename_i q;have e:q2J f=f:=by unfold q2J; omega
  rw [e]
def qgc {f g:Nat} (hf:f < 18446744073709551616/\q0I f) (hg:g < 18446744073709551616/\q0I g):q1M f<=q1M g ↔ ofZ f<=ofZ g:=by
 rw [qn4 hf.1 hf.2,qn4 hg.1 hg.2];unfold q1M;have a1:=q3J (f:=f);have b1:=q3J (f:=g);have a2:=q45 hf.2;have b2:=q45 hg.2;generalize q2J f=a at *;generalize q2J g=b at *;have a3:=qn1 a1 a2;have b3:=qn1 b1 b2;have c1:a < b->ofZ a < ofZ b:=λh=>q9R h b1 b2;have c2:b < a->ofZ b < ofZ a:=λh=>q9R h a1 a2;have c3:a=b->ofZ a=ofZ b:=λh=>by rw [h]
 have c4:0 < a->0 < ofZ a:=λh=>by have:=q9R h a1 a2; rw [qdm] at this; exact this
 have c5:0 < b->0 < ofZ b:=λh=>by have:=q9R h b1 b2; rw [qdm] at this; exact this
 have c6:a=0->ofZ a=0:=λh=>by rw [h]; exact qdm
 have c7:b=0->ofZ b=0:=λh=>by rw [h]; exact qdm
 generalize ofZ a=x at *;generalize ofZ b=y at *
 split <;> split <;> omega
def q7I (p:Nat × Nat):Prop:=q0I p.1/\q0I p.2/\ofZ p.1<=ofZ p.2
instance (p:Nat × Nat):Decidable (q7I p):=by unfold q7I; infer_instance
def nnI (p:Nat × Nat):Prop:=(p.1 < 18446744073709551616/\q03 p.1≠3)/\p.2 < 18446744073709551616/\q03 p.2≠3
def nnL (l:List (Nat × Nat)):Prop:=∀ p ∈ l,nnI p
def qsM {a b:Int}:qbL a b<=0 ↔ a<=b:=by unfold qbL; split; omega; split <;> omega
def qhy {a b:Int}:qbL a b < 0 ↔ a < b:=by unfold qbL; split; omega; split <;> omega
section
variable {l:List (Nat × Nat)} {p q:Nat × Nat}
def qeG (hp:nnI p):ACt 264 [.ag [uv p.1,uv p.2]] (bv (decide (q7I p))):=by
 obtain ⟨⟨h1,h2⟩,h3,h4⟩:=hp;have c1:=q8S h1 h2 h3 h4;have c2:=q63 h1;have c3:=q63 h3;have key:=qsM (a:=q1M p.1) (b:=q1M p.2);unfold q7I
 by_cases f1:q0I p.1
 .by_cases f2:q0I p.2
  .rw [qgc ⟨h1,f1⟩ ⟨h3,f2⟩] at key;rw [decide_eq_true f1] at c2;rw [decide_eq_true f2] at c3;generalize qbL (q1M p.1) (q1M p.2)=z at *
   by_cases f3:ofZ p.1<=ofZ p.2
   .rw [decide_eq_true (show q0I p.1/\q0I p.2/\ofZ p.1<=ofZ p.2 from ⟨f1,f2,f3⟩)];have hz:∀ (i:Decidable (z<=0)),@decide _ i=true:=λ_=>decide_eq_true (key.2 f3);refine ac0 Tryz.func264 Tryz.ntmps264 [.tmp 2] ?_;exact wk1 hz trivial
   .rw [decide_eq_false (show ¬ (q0I p.1/\q0I p.2/\ofZ p.1<=ofZ p.2) from λh=>f3 h.2.2)];have hz:∀ (i:Decidable (z<=0)),@decide _ i=false:=λ_=>decide_eq_false λh=>f3 (key.1 h);refine ac0 Tryz.func264 Tryz.ntmps264 [.tmp 2] ?_;exact wk1 hz trivial
  .rw [decide_eq_false (show ¬ (q0I p.1/\q0I p.2/\ofZ p.1<=ofZ p.2) from λh=>f2 h.2.1)];rw [decide_eq_true f1] at c2;rw [decide_eq_false f2] at c3;refine ac0 Tryz.func264 Tryz.ntmps264 [.tmp 2] ?_;exact wk trivial
 .rw [decide_eq_false (show ¬ (q0I p.1/\q0I p.2/\ofZ p.1<=ofZ p.2) from λh=>f1 h.1)];rw [decide_eq_false f1] at c2;refine ac0 Tryz.func264 Tryz.ntmps264 [.tmp 2] ?_;exact wk trivial
def q8V (hl:nnL l) (hn:l.length<=1000):ACt 175 [pP l] (bv (decide (∀ p ∈ l,q7I p))):=by
 obtain ⟨res,hres⟩:∃ res,res=decide (∀ p ∈ l,q7I p):=⟨_,rfl⟩;rw [<- hres];unfold pP;refine ac0 Tryz.func175 Tryz.ntmps175 [.tmp 2] ?_;refine wk ?_;refine q0A (λi=>i<=l.length/\∀ p ∈ l.take i,q7I p) [5,6] [] Lk Lk (λi:Nat=>[(7,iv i)]) (λ_=>[]) (λi=>l.length-i) 0 ⟨zC _,σ⟩ ?_ ?_
 .refine LeM [] rfl rfl ?_;refine Zz ?_
  rfl
 .rintro i ⟨hi,hf⟩
  by_cases hil:i < l.length
  .obtain ⟨y,hy⟩:∃ y,l[i]?=some y:=⟨_,zA hil⟩;have hm:=zB hy;have c1:=qeG (hl y hm);have gi:(l.map λp=>PV.ag [uv p.1,uv p.2])[i]?=some (.ag [uv y.1,uv y.2]):=by rw [zH,hy]; rfl
   have gl:(l.map λp=>PV.ag [uv p.1,uv p.2]).length=l.length:=zE _
   by_cases hp:q7I y
   .rw [decide_eq_true hp] at c1;generalize (l.map λp=>PV.ag [uv p.1,uv p.2])=W at *;refine wk1 (x2 gi gl) ?_;refine ⟨i+1,⟨ω,?_⟩,ω,?_⟩
    .rw [q1l hy];intro z hz
     rcases zQ.1 hz with hz | hz
     .exact hf z hz
     .simp at hz; subst hz; exact hp
    .refine LeM [] rfl rfl ?_;refine Zz ?_;omega
   .rw [decide_eq_false hp] at c1;rw [decide_eq_false (λh=>hp (h y hm))] at hres;subst hres;generalize (l.map λp=>PV.ag [uv p.1,uv p.2])=W at *;exact wk1 (x2 gi gl) trivial
  .obtain rfl:i=l.length:=ω
   rw [zL] at hf;rw [decide_eq_true hf] at hres;subst hres;have gl:(l.map λp=>PV.ag [uv p.1,uv p.2]).length=l.length:=zE _;exact wk1 gl trivial
def qeH (hp:nnI p) (hq:nnI q):ACt 92 [.ag [uv p.1,uv p.2],.ag [uv q.1,uv q.2]] (bv (decide (q1M q.1 < q1M p.1/\q1M p.2 < q1M q.2))):=by
 obtain ⟨⟨h1,h2⟩,h3,h4⟩:=hp;obtain ⟨⟨g1,g2⟩,g3,g4⟩:=hq;have c1:=q8S g1 g2 h1 h2;have c2:=q8S h3 h4 g3 g4;have k1:=qhy (a:=q1M q.1) (b:=q1M p.1);have k2:=qhy (a:=q1M p.2) (b:=q1M q.2);generalize qbL (q1M q.1) (q1M p.1)=z at *;generalize qbL (q1M p.2) (q1M q.2)=w at *
 by_cases f1:q1M q.1 < q1M p.1
 .have hz:∀ (i:Decidable (z < 0)),@decide _ i=true:=λ_=>decide_eq_true (k1.2 f1)
  by_cases f2:q1M p.2 < q1M q.2
  .have hw:w < 0:=k2.2 f2;rw [decide_eq_true (show _/\_ from ⟨f1,f2⟩)];refine ac0 Tryz.func92 Tryz.ntmps92 [.tmp 4] ?_;exact wk1 (x2 hz hw) trivial
  .have hw:¬ w < 0:=λh=>f2 (k2.1 h);rw [decide_eq_false (show ¬ (_/\_) from λh=>f2 h.2)];refine ac0 Tryz.func92 Tryz.ntmps92 [.tmp 4] ?_;exact wk1 (x2 hz hw) trivial
 .have hz:∀ (i:Decidable (z < 0)),@decide _ i=false:=λ_=>decide_eq_false λh=>f1 (k1.1 h);rw [decide_eq_false (show ¬ (_/\_) from λh=>f1 h.1)];refine ac0 Tryz.func92 Tryz.ntmps92 [.tmp 4] ?_;exact wk1 hz trivial
end
structure KwT where
 n:Nat
 v:List Nat
 a:Nat->Nat->Nat × Nat
 b:List (Nat × Nat)
 z:List Nat
 x:List (Nat × Nat)
abbrev ivZ (p:Nat × Nat):Int × Int:=(ofZ p.1,ofZ p.2)
abbrev ptZ (f:Nat):Int × Int:=(ofZ f,ofZ f)
def q3i (n:Nat) (a:Nat->Nat->Nat × Nat) (j:Nat):List (Nat × Nat):=(List.range n).map (a j)
def q57 {n j:Nat} {a:Nat->Nat->Nat × Nat}:(q3i n a j).length=n:=by unfold q3i; simp
def q58 {n j k:Nat} {a:Nat->Nat->Nat × Nat} (h:k < n):(q3i n a j)[k]?=some (a j k):=by unfold q3i; simp [h]
abbrev pIm (n:Nat) (a:Nat->Nat->Nat × Nat):PV:=.sl none ((List.range n).map λj=>pP (q3i n a j))
section
variable (K:KwT)
def kwD (j:Nat):Nat->Int × Int
 | 0=>ivZ (K.b.getD j (0,0))
 | k+1=>spS (kwD j k) (spM (ivZ (K.a j k)) (ptZ (K.z.getD k 0)))
def kwE (i j:Nat):Nat->Int × Int
 | 0=>if i=j then (q2Y,q2Y) else (0,0)
 | k+1=>spS (kwE i j k) (spM (ptZ (K.v.getD (k*K.n+i) 0)) (ivZ (K.a k j)))
def kwS (i:Nat):Nat->Int × Int
 | 0=>ptZ (K.z.getD i 0)
 | j+1=>spA (spA (kwS i j) (spM (ptZ (K.v.getD (j*K.n+i) 0)) (kwD K j K.n))) (spM (kwE K i j K.n) (spS (ivZ (K.x.getD j (0,0))) (ptZ (K.z.getD j 0))))
def kwO (i:Nat):Nat × Nat:=(fR 1 (kwS K i K.n).1,fR 2 (kwS K i K.n).2)
def kwL (m:Nat):List (Nat × Nat):=(List.range m).map (kwO K)
def kwB:Nat->Bool
 | 0=>true
 | m+1=>kwB m && decide (q1M (K.x.getD m (0,0)).1 < q1M (kwO K m).1/\q1M (kwO K m).2 < q1M (K.x.getD m (0,0)).2)
structure KwF:Prop where
 n:K.n<=20
 vl:K.v.length=K.n*K.n
 v:q0b K.v
 zl:K.z.length=K.n
 z:q0b K.z
 xl:K.x.length=K.n
 x:nnL K.x
 bl:K.b.length<=1000
 b:nnL K.b
 a:∀ j,nnL (q3i K.n K.a j)
def KwP:Prop:=(∀ j,j < K.n->∀ p ∈ q3i K.n K.a j,q7I p)/\(∀ p ∈ K.b,q7I p)/\∀ p ∈ K.x,q7I p
open Classical in
noncomputable def kwC:Int:=if K.b.length≠K.n then 2 else if KwP K then 0 else 4
noncomputable def kwA:List (Nat × Nat) × Bool × Int:=if kwC K=0 then (kwL K K.n,kwB K K.n,0) else ([],false,kwC K)
end
section
variable {K:KwT}
open Classical in
def qla (h:KwF K):ACt 84 [pIm K.n K.a,pP K.b,pPn K.n K.n K.v,pF K.z,pP K.x] (iv (kwC K)):=by
 have hn:=h.n;have hnn:K.n*K.n<=20*20:=zM hn hn;have hvl:=h.vl;have hch:chP K.n K.n K.v=0:=by unfold chP; rw [if_neg (not_not_intro h.vl),if_pos λx hx=>(h.v x hx).2]
 have c1:=qco (r:=K.n) (c:=K.n) (v:=K.v) Oq Oq Oq λx hx=>(h.v x hx).1;rw [hch] at c1;have c2:=λj=>q8V (h.a j) (by rw [q57]; omega);have c3:=q8V h.b h.bl;have c4:=q8V h.x (by have:=h.xl; omega);have c5:=qbD (l:=K.z) (λx hx=>(h.z x hx).1) (by have:=h.zl; omega);rw [decide_eq_true λx hx=>(h.z x hx).2] at c5;have hzl:=h.zl;have hxl:=h.xl;obtain ⟨res,hres⟩:∃ res,res=kwC K:=⟨_,rfl⟩;rw [<- hres];unfold kwC KwP at hres;have hrl:=λj=>show ((q3i K.n K.a j).map λp=>PV.ag [uv p.1,uv p.2]).length=K.n by rw [zE,q57]
 have hrg:=λj (hj:j < K.n)=>show ((List.range K.n).map λj=>pP (q3i K.n K.a j))[j]?=some (pP (q3i K.n K.a j)) by rw [zH,zG hj]; rfl
 have hrr:((List.range K.n).map λj=>pP (q3i K.n K.a j)).length=K.n:=σ
 obtain ⟨n,v,a,b,z,x⟩:=K;dsimp only at *;unfold pIm;generalize (List.range n).map (λj=>pP (q3i n a j))=M at *;unfold pPn at *;refine ac0 Tryz.func84 Tryz.ntmps84 [.tmp 10] ?_;refine wk ?_;refine q0A (λi=>i<=n) [0,1,3,4,7,11,21,22] [7] Lk Lk (λi:Nat=>[(23,iv i)]) (λ_=>[]) (λi=>n-i) 0 (zC _) ?_ ?_
 .refine LeM [] rfl rfl ?_;refine Zz ?_
  rfl
 .intro i hi
  by_cases hlt:i < n
  .have q:(i:Int) < n:=ω
   have gi:=hrg i hlt;have gl:=hrl i;have q2:((n:Int) != (n:Int))=false:=σ
   unfold pP at gi;refine wk1 (x5 q gi hrr gl q2) ?_;refine ⟨i+1,ω,ω,?_⟩;refine LeM [] rfl rfl ?_;refine Zz ?_;omega
  .obtain rfl:i=n:=ω
   have q:¬ (i:Int) < i:=ω
   have qz:((z.length:Int) != (i:Int))=false:=by simp; omega
   have qx:((x.length:Int) != (i:Int))=false:=by simp; omega
   have qn:((i:Int) != (i:Int))=false:=σ
   by_cases hb:b.length=i
   rotate_left
   .rw [if_pos hb] at hres;subst hres;have qb:((b.length:Int) != (i:Int))=true:=by simp; omega
    exact wk1 (x2 q qb) trivial
   rw [if_neg (not_not_intro hb)] at hres;have qb:((b.length:Int) != (i:Int))=false:=by simp; omega
   refine wk1 (x6 q qb qz qx qn hrr) ?_;refine q0A (λj=>j<=i/\∀ t,t < j->∀ p ∈ q3i i a t,q7I p) [1,3,4,63,64] [] Lk Lk (λj:Nat=>[(65,iv j)]) (λ_=>[]) (λj=>i-j) 0 ⟨zC _,λt ht=>by omega⟩ ?_ ?_
   .refine LeM [] rfl rfl ?_;refine Zz ?_
    rfl
   .rintro j ⟨hj,hf⟩
    by_cases hlt:j < i
    .have q:(j:Int) < i:=ω
     have gi:=hrg j hlt;have c6:=c2 j
     by_cases hp:∀ p ∈ q3i i a j,q7I p
     .rw [decide_eq_true hp] at c6;unfold pP at gi c6;refine wk1 (x3 q gi hrr) ?_;refine ⟨j+1,⟨ω,λt ht=>?_⟩,ω,?_⟩
      .by_cases e:t=j
       .rw [e]; exact hp
       .exact hf t Oq
      .refine LeM [] rfl rfl ?_;refine Zz ?_;omega
     .rw [decide_eq_false hp] at c6;rw [if_neg λhh=>hp (hh.1 j hlt)] at hres;subst hres;unfold pP at gi c6;exact wk1 (x3 q gi hrr) trivial
    .obtain rfl:j=i:=ω
     have q:¬ (j:Int) < j:=ω
     by_cases hb2:∀ p ∈ b,q7I p
     rotate_left
     .rw [decide_eq_false hb2] at c3;rw [if_neg λhh=>hb2 hh.2.1] at hres;subst hres;exact wk1 q trivial
     rw [decide_eq_true hb2] at c3
     by_cases hx2:∀ p ∈ x,q7I p
     rotate_left
     .rw [decide_eq_false hx2] at c4;rw [if_neg λhh=>hx2 hh.2.2] at hres;subst hres;exact wk1 q trivial
     rw [decide_eq_true hx2] at c4;rw [if_pos ⟨hf,hb2,hx2⟩] at hres;subst hres;exact wk1 q trivial
end
end Go.Proofs.YtpbaikoblfcmdaaGreatDoor
