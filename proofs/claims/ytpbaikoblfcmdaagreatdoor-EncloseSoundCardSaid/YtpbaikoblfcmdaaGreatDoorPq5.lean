/- EncloseSound. 5/7. -/
import Derived.Test.YtpbaikoblfcmdaaGreatDoorPq4
open Bool renaming bne_false->xP
open Int renaming natAbs_natCast->zE,natCast_mul->zK,mul_assoc->zO,sign_eq_zero_iff_zero->zQ,pow_add->zV,toNat_natCast->zY,natAbs_neg->zZ,natAbs_mul->z9,sign_eq_one_of_pos->yA,sign_eq_neg_one_of_neg->yC,mul_ne_zero->yR,lt_or_gt_of_ne->yU,mul_left_comm->yY,gcd->yZ,zero_mul->xA,le_of_mul_le_mul_left->xC,neg_mul->xD,mul_comm->xI,one_mul->xO,gcd_eq_zero_iff->xR,ne_of_gt->x7,add_mul->uQ
open List renaming getElem?_eq_getElem->zA,getElem?_range->zB,mem_of_getElem?->zC,map_append->zF,getElem?_map->zG,mem_map->zH,length_map->zJ,take_of_length_le->zM,getElem?_eq_some_iff->zN,mem_range->uR,length_range->zU,map_congr_left->zW,take_length->zX,mem_append->uS,getElem?_eq_none->z6,length_take->z7,map_singleton->yB,getD_eq_getElem?_getD->uT,range_succ->yE,length_append->yH,mem_iff_getElem?->yJ,ext_getElem?->yK,getElem?_set->yL,length_drop->yO,mem_or_eq_of_mem_set->yP,getElem?_take->yS,mem_replicate->uU,drop_zero->yV,append_assoc->yW,getElem?_set_self->yX,foldl_cons->y6,length_set->y7,getElem?_drop->xB,find?_cons->xK,append_nil->xL,mem_cons_of_mem->xN,mem_map_of_mem->xQ,map_cons->xT,mem_cons_self->xV,map_map->xX,map_nil->xZ
open Nat renaming zero_le->zD,mul_le_mul->zI,le_refl->zL,mul_le_mul_right->zP,le_trans->zR,pow_add->uV,mul_comm->z8,pow_le_pow_right->yF,lt_of_le_of_lt->yI,le_of_mul_le_mul_right->yN,mul_assoc->yQ,mul_le_mul_left->y9,mul_div_cancel_left->xG,lt_or_ge->xH,le_mul_of_pos_left->xJ,div_add_mod->xM,add_le_add_left->xS,mod_lt->xW,le_of_lt->xY,mul_one->uW,gcd->wC
open Option renaming map_some->zS,some_ne_none->yG,ne_none_iff_exists'->yM,map_none->y8,bind_eq_some_iff->xE,bind_some->xF,toList_some->xU,getD_some->x8,some->x9
set_option linter.unusedSimpArgs false
set_option linter.unusedVariables false
set_option maxRecDepth 20000
set_option exponentiation.threshold 1000
set_option maxHeartbeats 2000000
set_option linter.defProp false
namespace Go.E
open Go Go.RowKit
section
variable {T1 T2:TypeId} {K:Kd} {N R n:Nat} {row:Nat->List PV} {B B':Hp}
def q1I {i:Nat} (h1:i≠N) (h2:i≠n+R):q1W T1 T2 K N R (n+1) row B i=q1W T1 T2 K N R n row B i:=by
 unfold q1W;rw [if_neg h1,if_neg h1]
 by_cases h:R<=i/\i < R+n
 ·rw [if_pos h,if_pos (by omega)]
 ·rw [if_neg h,if_neg (by omega)]
def q1q {i:Nat} (h:B i=B' i):q1W T1 T2 K N R n row B i=q1W T1 T2 K N R n row B' i:=by
 unfold q1W; rw [h]
def q2i {j:Nat} (hj:j < n):q1W T1 T2 K N R n row B (j+R)≠none:=by
 unfold q1W
 split
 ·exact yG _
 ·rw [if_pos (by omega)]; exact yG _
end
end Go.E
namespace Go.Proofs.YtpbaikoblfcmdaaGreatDoor
open Go Go.E Go.Sp
section
open Classical
def qj2:LuS:=⟨[],λ_ _=>0,λ_ _=>false,λ_ _=>0,λ_ _=>false⟩
variable (F:Nat->Nat->Option Nat) (mi:List Int) (n:Nat) (cols:List Int) (num den:Nat)
noncomputable def q3P:Nat->Int × Nat × LuS
 | 0=>(0,0,qj2)
 | k+1=>if (q3P k).1=0 then ((q6W F mi n (q3P k).2.2 (lfN cols k) k num den).1,if (q6W F mi n (q3P k).2.2 (lfN cols k) k num den).1=9 then k else 0,(q6W F mi n (q3P k).2.2 (lfN cols k) k num den).2) else q3P k
noncomputable def qmz:LUt:=if (q3P F mi n cols num den n).1=0 then qvy (q3P F mi n cols num den n).2.2 cols n else ⟨[],[],[],[],[],[],[],[]⟩
noncomputable def facP:PV:=.tu [pLU (qmz F mi n cols num den),iv (if (q3P F mi n cols num den n).1=0 then n else (q3P F mi n cols num den n).2.1:Nat),iv (q3P F mi n cols num den n).1]
end
section
variable {F:Nat->Nat->Option Nat} {mi:List Int} {n:Nat} {cols:List Int} {num den:Nat} {S r:LuS} {j k:Nat}
def q7s {g:Nat->Nat->Nat} {r c v:Nat} (h:q5z g) (h1:q0I v) (h2:v < 18446744073709551616):q5z (q3f g r c v):=λx y=>by
 unfold q3f
 split
 ·exact ⟨h1,h2⟩
 ·exact h x y
def qlh:∀ (m:Nat) (q:LuS),q5z S.l->q5z S.u->upS F S j k m=some q->q5z q.l/\q5z q.u/\q.rows=S.rows
 | 0,q,h1,h2,h=>by unfold upS at h; cases h; exact ⟨h1,h2,rfl⟩
 | m+1,q,h1,h2,h=>by
  unfold upS at h;obtain ⟨t,ht,h⟩:=xE.1 h;obtain ⟨q1,q2,q3⟩:=qlh m t h1 h2 ht
  split at h
  ·cases h; exact ⟨q1,q7s q2 (by assumption) q4E,q3⟩
  ·cases h
def qmj {z:Nat->Int} {d:Int}:∀ (m:Nat) (q:LuS),q5z S.l->loS S k z d m=some q->q5z q.l/\q.u=S.u/\q.rows=S.rows
 | 0,q,h1,h=>by unfold loS at h; cases h; exact ⟨h1,rfl,rfl⟩
 | m+1,q,h1,h=>by
  unfold loS at h;obtain ⟨t,ht,h⟩:=xE.1 h;obtain ⟨q1,q2,q3⟩:=qmj m t h1 ht
  split at h
  ·cases h; exact ⟨q1,q2,q3⟩
  ·split at h
   ·cases h; exact ⟨q7s q1 (by assumption) qfP,q2,q3⟩
   ·cases h
structure LuG (n k:Nat) (S:LuS):Prop where
 l:q5z S.l
 u:q5z S.u
 r:∀ x ∈ S.rows,x < n
 len:S.rows.length=k
def qrN (h:LuG n k S) (he:q6W F mi n S j k num den=(0,r)):LuG n (k+1) r:=by
 unfold q6W at he
 split at he
 ·cases he
 ·rename_i q hq;obtain ⟨q1,q2,q3⟩:=qlh k q h.l h.u hq;unfold colG at he
  split at he
  ·rename_i hfin
   split at he
   ·cases he
   ·rename_i hneg
    split at he
    ·cases he
    ·rename_i t ht;obtain ⟨p,hp⟩:∃ p,p=(bsP (rsV F q j k) q mi num den (mxZ (rsV F q j k) n) n).toNat:=⟨_,rfl⟩;have hpn:p < n:=by have:=(qh2 (v:=rsV F q j k) (S:=q) (mi:=mi) (num:=num) (den:=den) (w:=mxZ (rsV F q j k) n) n).2; omega
     rw [<- hp] at ht;have hvl:rsV F q j k p < 18446744073709551616:=by
      unfold rsV
      split
      ·omega
      ·exact q4E
     obtain ⟨t1,t2,t3⟩:=qmj (S:=pvS q k (rsV F q j k) p) n t q1 ht;cases he;refine ⟨t1,?_,?_,?_⟩
     ·rw [t2]; exact q7s q2 (hfin p hpn) hvl
     ·rw [t3];intro x hx
      rcases uS.1 hx with hx | hx
      ·exact h.r x (by rw [<- q3]; exact hx)
      ·simp at hx; subst hx; exact hpn
     ·rw [t3]
      show (q.rows ++ [p]).length=k+1
      rw [yH,q3,h.len]; rfl
  ·cases he
def qaZ:∀ k,(q3P F mi n cols num den k).1=0->LuG n k (q3P F mi n cols num den k).2.2
 | 0,_=>⟨λ_ _=>⟨by unfold q0I; simp [q3P,qj2],by simp [q3P,qj2]⟩,λ_ _=>⟨by unfold q0I; simp [q3P,qj2],by simp [q3P,qj2]⟩,λx hx=>by simp [q3P,qj2] at hx,rfl⟩
 | k+1,h=>by
  unfold q3P at h ⊢
  split at h
  ·rename_i h0;rw [if_pos h0];have ih:=qaZ k h0;exact qrN ih (Prod.ext h rfl)
  ·rename_i h0; exact absurd h h0
def qcE {k:Nat} (h:(q3P F mi n cols num den k).1≠0):∀ k',k<=k'->q3P F mi n cols num den k'=q3P F mi n cols num den k
 | 0,hk=>by
  obtain rfl:k=0:=by omega
  rfl
 | k'+1,hk=>by
  by_cases e:k=k'+1
  ·subst e; rfl
  ·have ih:=qcE h k' Oq;rw [q3P,ih,if_neg h]
def qx6:(q6W F mi n S j k num den).1=0\/(q6W F mi n S j k num den).1=233\/(q6W F mi n S j k num den).1=9:=by
 unfold q6W
 split
 ·exact .inr (.inl rfl)
 ·unfold colG
  split
  ·split
   ·exact .inr (.inr rfl)
   ·split
    ·exact .inr (.inl rfl)
    ·exact .inl rfl
  ·exact .inr (.inl rfl)
def q23 (n a b c d:Nat):Hp:=q1W 25 33 none 6000 10000 a (rU n λ_ _=>0) (q1W 69 4 none 6001 20000 b (rB n λ_ _=>false) (q1W 25 33 none 6002 30000 c (rU n λ_ _=>0) (q1W 69 4 none 6003 40000 d (rB n λ_ _=>false) h0)))
def quT:q23 n n n n n=stT n qj2:=rfl
variable {a b c d:Nat}
def q42 (ha:a<=100) (hb:b<=100) (hc:c<=100) (hd:d<=100):BOk (q23 n a b c d) win:=by
 unfold q23;have w:∀ R j m:Nat,5000<=R->R<=40000->m<=100->j < m->win (j+R):=λR j m h1 h2 h3 h4=>⟨by omega,by omega⟩;exact q1V (q1V (q1V (q1V BOk.h0 (λ_ _=>qdn) Oq ⟨⟨by omega,by omega⟩,λj hj=>w _ j _ Oq Oq hd hj⟩) (λ_ _=>q6t) Oq ⟨⟨by omega,by omega⟩,λj hj=>w _ j _ Oq Oq hc hj⟩) (λ_ _=>qdn) Oq ⟨⟨by omega,by omega⟩,λj hj=>w _ j _ Oq Oq hb hj⟩) (λ_ _=>q6t) Oq ⟨⟨by omega,by omega⟩,λj hj=>w _ j _ Oq Oq ha hj⟩
def q7S {q:Nat->Prop} (hq:∀ i,10000<=i->q i):HId q (q23 n a b c d):=by
 unfold q23;exact q60 (q60 (q60 (q60 qdh (λ_ _=>qdn) λj _=>hq _ Oq) (λ_ _=>q6t) λj _=>hq _ Oq) (λ_ _=>qdn) λj _=>hq _ Oq) (λ_ _=>q6t) λj _=>hq _ Oq
def qo9 {i:Nat} (hi:i < 6000):q23 n a b c d i=none:=by
 unfold q23;rw [q0O (by omega) (by omega),q0O (by omega) (by omega),q0O (by omega) (by omega),q0O (by omega) (by omega)]
 rfl
def qeb (ha:a<=100) (hb:b<=100) (hc:c<=100):q23 n a b c d 6000=some ⟨25,none,(List.range a).map λj=>.ow (j+10000) none 0 n,false⟩:=by
 unfold q23; rw [q1R]; simp
def qea (ha:a<=100) (hb:b<=100) (hc:c<=100):q23 n a b c d 6001=some ⟨69,none,(List.range b).map λj=>.ow (j+20000) none 0 n,false⟩:=by
 unfold q23; rw [q0O (by omega) (by omega),q1R]; simp
def qe9 (ha:a<=100) (hb:b<=100) (hc:c<=100):q23 n a b c d 6002=some ⟨25,none,(List.range c).map λj=>.ow (j+30000) none 0 n,false⟩:=by
 unfold q23; rw [q0O (by omega) (by omega),q0O (by omega) (by omega),q1R]; simp
def qe8 (ha:a<=100) (hb:b<=100) (hc:c<=100):q23 n a b c d 6003=some ⟨69,none,(List.range d).map λj=>.ow (j+40000) none 0 n,false⟩:=by
 unfold q23; rw [q0O (by omega) (by omega),q0O (by omega) (by omega),q0O (by omega) (by omega),q1R]; simp
def qjF {j:Nat}:List.replicate n (PV.vl (.int .u64 0))=rU n (λ_ _=>0) j:=by
 unfold rU;rw [List.map_const',zU]; rfl
def qvT {j:Nat}:List.replicate n (PV.vl (.bool false))=rB n (λ_ _=>false) j:=by
 unfold rB;rw [List.map_const',zU]
def tnS (o i:Nat):Option Nat:=if i=5000 then some o else if i=5001 then none else some i
def qto {o i:Nat} (h:i < 5000):tnS o i=some i:=by unfold tnS; rw [if_neg (by omega),if_neg (by omega)]
def q63 {o i:Nat} (h:6000<=i):tnS o i=some i:=by unfold tnS; rw [if_neg (by omega),if_neg (by omega)]
def qtp {o:Nat}:tnS o 5000=some o:=rfl
def qoS {o:Nat}:tnS o 5001=none:=rfl
attribute [go_sem ↓] qto qtp qoS
def qie {J:Nat->Prop} {s:Nat->PV} {h:Hp} {xs kv:List (Nat × PV)} {bs:List (Nat × Bk)} {kb:List (Nat × Option Bk)} {o:Nat} (hn:n<=100) (hS:S.rows=[]) (hJ:∀ i,¬ J i) (hq:∀ i,6000<=i->win i->h i=stT n S i) (h0:h o=some ⟨193,some 5,[.ag [q02,.ow 6000 none 0 n,.ow 6001 none 0 n,.ow 6002 none 0 n,.ow 6003 none 0 n]],false⟩) (ho:o < 5000) (hl:nmW o o (bs.map (·.1) ++ kb.map (·.1)))
  (hh:q5E (tnS o) h (q0y (q0v n S 5001) (hpM bs kb)) s xs/\q5E (tnS o) h (q0y (q0v n S 5001) (hpM bs kb)) s kv/\qdf (tnS o) h (q0y (q0v n S 5001) (hpM bs kb)) bs/\q9b (tnS o) h (q0y (q0v n S 5001) (hpM bs kb)) kb):Le J s h (stM xs kv) (q0y (q0v n S 5001) (hpM bs kb)):=by
 have hl:=λi hi=>q4h hl i hi;have hex:∀ i,win i->∀ b,q0v n S 5001 i=some b->∃ b,q0y (q0v n S 5001) (hpM bs kb) i=some b:=λi hi b hb=>⟨b,by rw [q0W hi]; exact hb⟩;refine LeT (tnS o) (λi q=>(hJ i q).elim) (λi hi hw=>?_) (λi b hw hb=>?_) (λi j k' hi hj ti tj=>?_) hh
 ·have:=(hl i hi).1; unfold win at hw; omega
 ·have hb2:=hb;unfold q0v q0Q at hb
  split at hb
  ·rename_i e; subst e; cases hb;unfold LeB;rw [qoS,hS]
   rfl
  ·rename_i e
   split at hb
   ·rename_i e2; subst e2; cases hb;unfold LeB;rw [qtp];refine ⟨_,h0,rfl,rfl,⟨rfl,rfl⟩,?_⟩;unfold q2k;simp only;rw [qax];obtain ⟨q1,q2,q3,q4⟩:=qoe (S:=S) hn;have hx:∀ i,6000<=i->win i->stT n S i≠none->∃ b,q0y (q0v n S 5001) (hpM bs kb) i=some b:=λi hi hw hq=>by
     obtain ⟨b,hb⟩:=yM.1 hq;exact hex i hw b (by unfold q0v; rw [q0A (by omega),q0A (by omega)]; exact hb)
    rw [qhs,q2y,q2y,q2y,q2y,q2y,qnh,q31,q31,q31,q31,qoS,q63 (by omega),q63 (by omega),q63 (by omega),q63 (by omega),hS];exact ⟨⟨rfl,⟨_,by rw [q0W ⟨by omega,by omega⟩]; exact q0L,rfl⟩,rfl,rfl⟩,⟨rfl,hx _ (by omega) ⟨by omega,by omega⟩ q1,rfl,rfl,rfl⟩,⟨rfl,hx _ (by omega) ⟨by omega,by omega⟩ q2,rfl,rfl,rfl⟩,⟨rfl,hx _ (by omega) ⟨by omega,by omega⟩ q3,rfl,rfl,rfl⟩,⟨rfl,hx _ (by omega) ⟨by omega,by omega⟩ q4,rfl,rfl,rfl⟩,trivial⟩
   ·obtain ⟨q1,q2,q3⟩:=(q8e hn).b i b hb;have hi6:=qbS hb;unfold LeB;rw [q63 hi6];refine ⟨b,(hq i hi6 hw).trans hb,rfl,rfl,⟨q2,q2⟩,LeL_self (λj hj=>?_) _ q3⟩;obtain ⟨c,hc⟩:=yM.1 hj;have hj6:=qbS hc;exact ⟨q63 hj6,hex j ((q8e hn).b j c hc).1 c (by unfold q0v; rw [q0A (by omega),q0A (by omega)]; exact hc)⟩
 ·have a:∀ i,(win i/\q0v n S 5001 i≠none\/i ∈ bs.map (·.1) ++ kb.map (·.1))->i≠o:=λi hi=>by
   rcases hi with ⟨q,hi⟩ | hi
   ·unfold win at q; omega
   ·exact (hl i hi).2.1
  have a1:=a i hi;have a2:=a j hj;unfold tnS at ti tj
  split at ti <;> (try split at ti) <;> split at tj <;> (try split at tj) <;> cases ti <;> cases tj <;> first | omega | rfl | exact (a1 rfl).elim | exact (a2 rfl).elim
def qog {τ:Nat->Option Nat} {h h':Hp} (hn:n<=100) (hq:Wn h (q0v n S 5001)) (ht:∀ i j,τ i=some j->5000 < j->win j->h' i=none):LeV τ h h' (.ow 5001 none 0 S.rows.length) (pRw S.rows)/\LeV τ h h' (.ow 6000 none 0 n) (tU n S.l)/\LeV τ h h' (.ow 6001 none 0 n) (tB n S.iL)/\LeV τ h h' (.ow 6002 none 0 n) (tU n S.u)/\LeV τ h h' (.ow 6003 none 0 n) (tB n S.iU):=by
 have hT:∀ i,6000<=i->win i->h i=stT n S i:=λi h1 h2=>by
  rw [hq i h2];unfold q0v;rw [q0A (by omega),q0A (by omega)]
 have w:∀ R j:Nat,5000<=R->R<=40000->j < n->win (j+R):=λR j h1 h2 h3=>⟨by omega,by omega⟩;refine ⟨q6P (T:=3) (l:=S.rows.map λz:Nat=>iv z) ((hq 5001 ⟨by omega,by omega⟩).trans q0L) clRw (λi hi=>ht i _ hi (by omega) ⟨by omega,by omega⟩) (by rw [yV]; exact zM (by simp)),?_,?_,?_,?_⟩
 ·exact q56 (λ_=>n) ((hT _ (by omega) ⟨by omega,by omega⟩).trans (qmH hn)) (λj hj=>⟨(hT _ (by omega) (w _ j (by omega) (by omega) hj)).trans (qmD hn hj),q6t,by simp⟩) λi j hi hj=>ht i j hi (by omega) ⟨by omega,by omega⟩
 ·exact q56 (λ_=>n) ((hT _ (by omega) ⟨by omega,by omega⟩).trans (qmG hn)) (λj hj=>⟨(hT _ (by omega) (w _ j (by omega) (by omega) hj)).trans (qmC hn hj),qdn,by simp⟩) λi j hi hj=>ht i j hi (by omega) ⟨by omega,by omega⟩
 ·exact q56 (λ_=>n) ((hT _ (by omega) ⟨by omega,by omega⟩).trans (qmF hn)) (λj hj=>⟨(hT _ (by omega) (w _ j (by omega) (by omega) hj)).trans (qmB hn hj),q6t,by simp⟩) λi j hi hj=>ht i j hi (by omega) ⟨by omega,by omega⟩
 ·exact q56 (λ_=>n) ((hT _ (by omega) ⟨by omega,by omega⟩).trans (qmE hn)) (λj hj=>⟨(hT _ (by omega) (w _ j (by omega) (by omega) hj)).trans (qmA hn hj),qdn,by simp⟩) λi j hi hj=>ht i j hi (by omega) ⟨by omega,by omega⟩
def tnW (i:Nat):Option Nat:=if 5000<=i/\i < 1000000 then none else some i
def qtm {i:Nat} (h:i < 5000):tnW i=some i:=if_neg Oq
def q55 {i:Nat} (h1:5000<=i) (h2:i < 1000000):tnW i=none:=if_pos ⟨h1,h2⟩
attribute [go_sem ↓] qtm q55
def qo8 {i:Nat} {x:Bk} (hb:q23 n 0 0 0 0 i=some x):x.xs=[]:=by
 unfold q23 at hb
 rcases q0k hb with ⟨rfl,rfl⟩ | ⟨_,h1,h2,_⟩ | ⟨_,_,hb⟩
 ·rfl
 ·omega
 rcases q0k hb with ⟨rfl,rfl⟩ | ⟨_,h1,h2,_⟩ | ⟨_,_,hb⟩
 ·rfl
 ·omega
 rcases q0k hb with ⟨rfl,rfl⟩ | ⟨_,h1,h2,_⟩ | ⟨_,_,hb⟩
 ·rfl
 ·omega
 rcases q0k hb with ⟨rfl,rfl⟩ | ⟨_,h1,h2,_⟩ | ⟨_,_,hb⟩
 ·rfl
 ·omega
 ·cases hb
def qqS {H:Hp}:WfH (q8U H):=⟨λi b hb=>by
 unfold q8U at hb;obtain ⟨c,_,rfl⟩:=Option.map_eq_some_iff.1 hb;exact ⟨rfl,IdL.of λx hx=>by
  obtain ⟨_,_,rfl⟩:=zH.1 hx;unfold IdP; trivial⟩⟩
attribute [go_sem ↓] qo9 qeb qea qe9 qe8
end
section
variable {F:Nat->Nat->Option Nat} {n:Nat} {cols:List Int} {num den:Nat}
def qj3 (h:TOk F n n) (hn:n<=100) (hp:q3V cols n) (hnd:num<=den) (hd1:1<=den) (hd:den<=1000):ACt 50 [pT n n F,pI cols,iv num,iv den] (facP F (tM F n n).2.1 n cols num den):=by
 have hll:cols.length=n:=by have:=hp.1; omega
 have hlf:∀ i,i < n->∃ x:Nat,cols[i]?=some (x:Int)/\lfN cols i=x/\x < n:=λi hi=>by
  obtain ⟨x,hx⟩:∃ x,cols[i]?=some x:=⟨_,zA Oq⟩;have:=hp.2.1 x (zC hx);obtain ⟨y,rfl⟩:∃ y:Nat,x=y:=⟨x.toNat,by omega⟩;exact ⟨y,hx,qpz hx,by omega⟩
 have cS:=qcp h hp;have cC:=λ{S:LuS} {k j:Nat} (h1:LuG n k S) (h2:k < n) (h3:j < n)=>qkv (F:=F) (S:=S) (num:=num) (den:=den) h hn h1.l h1.u h1.r h1.len h2 h3 Oq hd;have hC:=Hid.mk @cC;clear cC;have hpl:pT n n F=q2F n n (tM F n n).1 (tM F n n).2.1 (tM F n n).2.2:=rfl;rw [hpl] at cS ⊢;simp only [hpl] at hC;clear hpl;unfold q2F at cS hC ⊢;generalize (tM F n n).1=ms at *;generalize (tM F n n).2.1=mi at *;generalize (tM F n n).2.2=mv at *;have hG:=λk=>qaZ (F:=F) (mi:=mi) (n:=n) (cols:=cols) (num:=num) (den:=den) k;have hE:=λk=>@qcE F mi n cols num den k;have hs:=λk=>show q3P F mi n cols num den (k+1)=if (q3P F mi n cols num den k).1=0 then ((q6W F mi n (q3P F mi n cols num den k).2.2 (lfN cols k) k num den).1,if (q6W F mi n (q3P F mi n cols num den k).2.2 (lfN cols k) k num den).1=9 then k else 0,(q6W F mi n (q3P F mi n cols num den k).2.2 (lfN cols k) k num den).2) else q3P F mi n cols num den k from rfl
 have h0:q3P F mi n cols num den 0=(0,0,qj2):=rfl;unfold facP qmz;generalize q3P F mi n cols num den=C at *;have q1:¬ (num:Int) < 0:=by omega
 have q2:¬ (num:Int) > den:=by omega
 have q3:¬ (den:Int) < 1:=by omega
 have q4:¬ (den:Int) > 1000:=by omega
 refine ac0 Tryz.func50 Tryz.ntmps50 [.cell 8 99,.tmp 9,.tmp 10] ?_;refine wk1 (x4 q1 q2 q3 q4) ?_;refine q1D (LeT (hw:=q23 n 0 0 0 0) tnW (λ_ h=>h.elim) (λi hi hw=>?_) (λi b hw hb=>?_) (λi j x hi hj ti tj=>?_) (xs:=[(1,pI cols),(2,iv num),(3,iv den),(4,.pt 4 0 0),(8,.pt 8 0 0),(9,iv 0),(10,iv 0),(12,iv n),(13,.pt 13 0 0),(14,iv 0)]) (kv:=[]) (bs:=[(4,⟨27,some 5,[.ag [iv n,iv n,pI ms,pI mi,pF mv]],false⟩),(8,⟨99,some 8,[.ag [q02,q02,q02,q02,q02,q02,q02,q02]],false⟩),(13,⟨193,some 5,[.ag [q02,.ow 6000 none 0 0,.ow 6001 none 0 0,.ow 6002 none 0 0,.ow 6003 none 0 0]],false⟩)]) (kb:=[]) ?_) ?_
 ·simp at hi;unfold win at hw;omega
 ·unfold LeB;rw [q55 hw.1 hw.2];exact qo8 hb
 ·unfold tnW at ti tj
  split at ti <;> split at tj <;> cases ti <;> cases tj <;> rfl
 ·try simp -implicitDefEqProofs (disch:=omega) only [go_sem,Nat.reduceEqDiff,Nat.reduceAdd,↓reduceIte]
 refine q0P (λt=>t<=n) [1,2,3,4,8,9,10,12,13] [4,8] Lk Lk (λt:Nat=>[(14,iv t)]) (λt=>[(13,⟨193,some 5,[.ag [q02,.ow 6000 none 0 t,.ow 6001 none 0 t,.ow 6002 none 0 t,.ow 6003 none 0 t]],false⟩)]) (λt=>q23 n t t t t) (λt=>n-t) 0 (zD _) ?_ ?_
 ·refine LeW [] rfl rfl ?_ ?_ (by simp [q0j,q0b,win]) ?_
  ·exact Ow
  ·exact q1S (q42 Oq Oq Oq Oq)
  ·try refine Zz ?_
   rfl
 ·intro t ht
  by_cases hlt:t < n
  ·have hlt':(t:Int) < n:=by omega
   have hHn:=Hid.mk hn;clear hn;refine wk1 hlt' ?_;have hn:=hHn.o;refine A_sd [(1,3),(1,4)] q5B (by kernel_rfl) λK hK=>?_;refine Zz1 @List.length_range ?_;refine hK _ _ ?_; clear hK K;refine q1D (q2N (T1:=25) (T2:=33) (K:=none) (N:=6000) (R:=10000) (n:=t) (o:=52) (r:=50) (l:=(rU n λ_ _=>0) t) (hw:=q23 n t t t t) (hw':=q23 n (t+1) t t t) (λ_ h=>h) q6t (λ_=>n) ?_ ?_ (λi h1 h2=>?_) (qeb Oq Oq Oq) ?_ (λi h1 h2=>q1I h1 h2) (λj hj=>by
    unfold q23;exact q2i (by omega)) (q42 (by omega) (by omega) (by omega) (by omega)) (q7S λi hi=>by omega) ?_ (by omega) (by omega) (by omega) (by omega) (by omega) (by omega) (xs:=[(1,pI cols),(2,iv num),(3,iv den),(4,.pt 4 0 0),(8,.pt 8 0 0),(9,iv 0),(10,iv 0),(12,iv n),(13,.pt 13 0 0),(14,iv t)]) (kv:=[]) (bs:=[(4,⟨27,some 5,[.ag [iv n,iv n,pI ms,pI mi,pF mv]],false⟩),(8,⟨99,some 8,[.ag [q02,q02,q02,q02,q02,q02,q02,q02]],false⟩),(13,⟨193,some 5,[.ag [q02,.ow 6000 none 0 (t+1),.ow 6001 none 0 t,.ow 6002 none 0 t,.ow 6003 none 0 t]],false⟩)]) (kb:=[]) (by simp [nmW]) ?_) ?_
   ·try simp -implicitDefEqProofs (disch:=omega) only [go_sem,Nat.reduceEqDiff,Nat.reduceAdd,↓reduceIte]
   ·try refine Zz ?_
    rw [qjF (j:=t)]
   ·obtain ⟨w1,w2⟩:=h1
    repeat rw [q0A (by omega)]
    rw [q0W ⟨w1,w2⟩]
   ·unfold q23;rw [q1H (by omega) (by omega)]
   ·unfold q23;rw [q0O (by omega) (by omega),q0O (by omega) (by omega),q0O (by omega) (by omega),q0O (by omega) (by omega)]
    rfl
   ·try simp -implicitDefEqProofs (disch:=omega) only [go_sem,Nat.reduceEqDiff,Nat.reduceAdd,↓reduceIte]
   refine A_sd [(1,3),(1,4)] q5B (by kernel_rfl) λK hK=>?_;refine Zz1 @List.length_range ?_;refine hK _ _ ?_; clear hK K;refine q1D (q2N (T1:=69) (T2:=4) (K:=none) (N:=6001) (R:=20000) (n:=t) (o:=59) (r:=57) (l:=(rB n λ_ _=>false) t) (hw:=q23 n (t+1) t t t) (hw':=q23 n (t+1) (t+1) t t) (λ_ h=>h) qdn (λ_=>n) ?_ ?_ (λi h1 h2=>?_) (qea Oq Oq Oq) ?_ (λi h1 h2=>q1q (q1I h1 h2)) (λj hj=>by
    unfold q23;rw [q0O (by omega) (by omega)];exact q2i (by omega)) (q42 (by omega) (by omega) (by omega) (by omega)) (q7S λi hi=>by omega) ?_ (by omega) (by omega) (by omega) (by omega) (by omega) (by omega) (xs:=[(1,pI cols),(2,iv num),(3,iv den),(4,.pt 4 0 0),(8,.pt 8 0 0),(9,iv 0),(10,iv 0),(12,iv n),(13,.pt 13 0 0),(14,iv t)]) (kv:=[]) (bs:=[(4,⟨27,some 5,[.ag [iv n,iv n,pI ms,pI mi,pF mv]],false⟩),(8,⟨99,some 8,[.ag [q02,q02,q02,q02,q02,q02,q02,q02]],false⟩),(13,⟨193,some 5,[.ag [q02,.ow 6000 none 0 (t+1),.ow 6001 none 0 (t+1),.ow 6002 none 0 t,.ow 6003 none 0 t]],false⟩)]) (kb:=[]) (by simp [nmW]) ?_) ?_
   ·try simp -implicitDefEqProofs (disch:=omega) only [go_sem,Nat.reduceEqDiff,Nat.reduceAdd,↓reduceIte]
   ·try refine Zz ?_
    rw [qvT (j:=t)]
   ·obtain ⟨w1,w2⟩:=h1
    repeat rw [q0A (by omega)]
    rw [q0W ⟨w1,w2⟩]
   ·unfold q23;rw [q0O (by omega) (by omega),q1H (by omega) (by omega)]
   ·unfold q23;rw [q0O (by omega) (by omega),q0O (by omega) (by omega),q0O (by omega) (by omega),q0O (by omega) (by omega)]
    rfl
   ·try simp -implicitDefEqProofs (disch:=omega) only [go_sem,Nat.reduceEqDiff,Nat.reduceAdd,↓reduceIte]
   refine A_sd [(1,3),(1,4)] q5B (by kernel_rfl) λK hK=>?_;refine Zz1 @List.length_range ?_;refine hK _ _ ?_; clear hK K;refine q1D (q2N (T1:=25) (T2:=33) (K:=none) (N:=6002) (R:=30000) (n:=t) (o:=66) (r:=64) (l:=(rU n λ_ _=>0) t) (hw:=q23 n (t+1) (t+1) t t) (hw':=q23 n (t+1) (t+1) (t+1) t) (λ_ h=>h) q6t (λ_=>n) ?_ ?_ (λi h1 h2=>?_) (qe9 Oq Oq Oq) ?_ (λi h1 h2=>q1q (q1q (q1I h1 h2))) (λj hj=>by
    unfold q23;rw [q0O (by omega) (by omega)];rw [q0O (by omega) (by omega)];exact q2i (by omega)) (q42 (by omega) (by omega) (by omega) (by omega)) (q7S λi hi=>by omega) ?_ (by omega) (by omega) (by omega) (by omega) (by omega) (by omega) (xs:=[(1,pI cols),(2,iv num),(3,iv den),(4,.pt 4 0 0),(8,.pt 8 0 0),(9,iv 0),(10,iv 0),(12,iv n),(13,.pt 13 0 0),(14,iv t)]) (kv:=[]) (bs:=[(4,⟨27,some 5,[.ag [iv n,iv n,pI ms,pI mi,pF mv]],false⟩),(8,⟨99,some 8,[.ag [q02,q02,q02,q02,q02,q02,q02,q02]],false⟩),(13,⟨193,some 5,[.ag [q02,.ow 6000 none 0 (t+1),.ow 6001 none 0 (t+1),.ow 6002 none 0 (t+1),.ow 6003 none 0 t]],false⟩)]) (kb:=[]) (by simp [nmW]) ?_) ?_
   ·try simp -implicitDefEqProofs (disch:=omega) only [go_sem,Nat.reduceEqDiff,Nat.reduceAdd,↓reduceIte]
   ·try refine Zz ?_
    rw [qjF (j:=t)]
   ·obtain ⟨w1,w2⟩:=h1
    repeat rw [q0A (by omega)]
    rw [q0W ⟨w1,w2⟩]
   ·unfold q23;rw [q0O (by omega) (by omega),q0O (by omega) (by omega),q1H (by omega) (by omega)]
   ·unfold q23;rw [q0O (by omega) (by omega),q0O (by omega) (by omega),q0O (by omega) (by omega),q0O (by omega) (by omega)]
    rfl
   ·try simp -implicitDefEqProofs (disch:=omega) only [go_sem,Nat.reduceEqDiff,Nat.reduceAdd,↓reduceIte]
   refine A_ld [(1,3),(1,4)] q5B (by kernel_rfl) λK9 hK9=>?_;refine Zz1 @List.length_range ?_;refine hK9 _ _ ?_; clear hK9 K9
   repeat (first | refine i_n ?_ | refine q_n ?_)
   refine q1D (q2N (T1:=69) (T2:=4) (K:=none) (N:=6003) (R:=40000) (n:=t) (o:=73) (r:=71) (l:=(rB n λ_ _=>false) t) (hw:=q23 n (t+1) (t+1) (t+1) t) (hw':=q23 n (t+1) (t+1) (t+1) (t+1)) (λ_ h=>h) qdn (λ_=>n) ?_ ?_ (λi h1 h2=>?_) (qe8 Oq Oq Oq) ?_ (λi h1 h2=>q1q (q1q (q1q (q1I h1 h2)))) (λj hj=>by
    unfold q23;rw [q0O (by omega) (by omega)];rw [q0O (by omega) (by omega)];rw [q0O (by omega) (by omega)];exact q2i (by omega)) (q42 (by omega) (by omega) (by omega) (by omega)) (q7S λi hi=>by omega) ?_ (by omega) (by omega) (by omega) (by omega) (by omega) (by omega) (xs:=[(1,pI cols),(2,iv num),(3,iv den),(4,.pt 4 0 0),(8,.pt 8 0 0),(9,iv 0),(10,iv 0),(12,iv n),(13,.pt 13 0 0),(14,iv t)]) (kv:=[]) (bs:=[(4,⟨27,some 5,[.ag [iv n,iv n,pI ms,pI mi,pF mv]],false⟩),(8,⟨99,some 8,[.ag [q02,q02,q02,q02,q02,q02,q02,q02]],false⟩),(13,⟨193,some 5,[.ag [q02,.ow 6000 none 0 (t+1),.ow 6001 none 0 (t+1),.ow 6002 none 0 (t+1),.ow 6003 none 0 (t+1)]],false⟩)]) (kb:=[]) (by simp [nmW]) ?_) ?_
   ·try simp -implicitDefEqProofs (disch:=omega) only [go_sem,Nat.reduceEqDiff,Nat.reduceAdd,↓reduceIte]
   ·try refine Zz ?_
    rw [qvT (j:=t)]
   ·obtain ⟨w1,w2⟩:=h1
    repeat rw [q0A (by omega)]
    rw [q0W ⟨w1,w2⟩]
   ·unfold q23;rw [q0O (by omega) (by omega),q0O (by omega) (by omega),q0O (by omega) (by omega),q1H (by omega) (by omega)]
   ·unfold q23;rw [q0O (by omega) (by omega),q0O (by omega) (by omega),q0O (by omega) (by omega),q0O (by omega) (by omega)]
    rfl
   ·try simp -implicitDefEqProofs (disch:=omega) only [go_sem,Nat.reduceEqDiff,Nat.reduceAdd,↓reduceIte]
   refine wk ?_;refine ⟨t+1,by omega,by omega,?_⟩;refine LeW [] rfl rfl ?_ ?_ (by simp [q0j,q0b,win]) ?_
   ·exact Ow
   ·exact q1S (q42 Oq Oq Oq Oq)
   ·try refine Zz ?_
    rfl
  ·obtain rfl:n=t:=by omega
   have hlt':¬ (n:Int) < n:=by omega
   refine wk1 hlt' ?_;refine q1D (qie (S:=qj2) (o:=13) hn rfl (λ_ h=>h) (λi h6 hw=>?_) ?_ (by omega) (xs:=[(1,pI cols),(2,iv num),(3,iv den),(4,.pt 4 0 0),(8,.pt 8 0 0),(9,iv 0),(10,iv 0),(12,iv n),(13,.pt 5000 0 0),(15,iv 0)]) (kv:=[]) (bs:=[(4,⟨27,some 5,[.ag [iv n,iv n,pI ms,pI mi,pF mv]],false⟩),(8,⟨99,some 8,[.ag [q02,q02,q02,q02,q02,q02,q02,q02]],false⟩)]) (kb:=[]) (by simp [nmW]) ?_) ?_
   ·rw [q0W hw,quT]
   ·try simp -implicitDefEqProofs (disch:=omega) only [go_sem,Nat.reduceEqDiff,Nat.reduceAdd,↓reduceIte]
   ·try simp -implicitDefEqProofs (disch:=omega) only [go_sem,Nat.reduceEqDiff,Nat.reduceAdd,↓reduceIte]
   refine q0P (λk=>k<=n/\(C k).1=0) [1,2,3,4,8,9,10,12,13] [4,8] Lk Lk (λk:Nat=>[(15,iv k)]) (λ_=>[]) (λk=>q0v n (C k).2.2 5001) (λk=>n-k) 0 ⟨zD _,by rw [h0]⟩ ?_ ?_
   ·rw [h0];refine LeW [] rfl rfl ?_ ?_ (by simp [q0j,q0b,win]) ?_
    ·exact Ow
    ·exact q1S (q0a hn Oq Oq)
    ·try refine Zz ?_
     rfl
   ·rintro k ⟨hk,hk0⟩;have hGk:=hG k hk0
    by_cases hkn:k < n
    ·have hkn':(k:Int) < n:=by omega
     obtain ⟨x,hx,hx2,hx3⟩:=hlf k hkn;have hsk:=hs k;rw [if_pos hk0,hx2] at hsk;have hEk:=hE (k+1);have cX:=hC.o hGk hkn hx3;have hce:=qx6 (F:=F) (mi:=mi) (n:=n) (S:=(C k).2.2) (j:=x) (k:=k) (num:=num) (den:=den);obtain ⟨e,he⟩:∃ e,e=(q6W F mi n (C k).2.2 x k num den).1:=⟨_,rfl⟩;have hcO:qx7 F mi n (C k).2.2 x k num den=if e=0 then q0v n (q6W F mi n (C k).2.2 x k num den).2 5002 else q8U (q8V (q0v n (C k).2.2 5001) 5001):=by rw [he]; rfl
     generalize qx7 F mi n (C k).2.2 x k num den=O at *;rw [<- he] at hce hsk cX;generalize (q6W F mi n (C k).2.2 x k num den).2=r at *;generalize (C k).2.2=S at *;have hgo:∀ i,qdm (q0v n S 5001) O i->i=5001:=λi ⟨h1,h2,h3⟩=>by
      refine Classical.byContradiction λhi=>h2 ?_;have hS:i≠5000/\stT n S i=none->q0v n S 5001 i=none:=λh=>by unfold q0v; rw [q0A hi,q0A h.1]; exact h.2
      rw [hcO] at h3
      split at h3
      ·obtain ⟨q1,q2,q3⟩:=qof h3;exact hS ⟨q2,quZ q3⟩
      ·unfold q8U q8V at h3;rw [if_neg hi] at h3;exact Option.map_eq_none_iff.1 h3
     have hO5:∃ b,O 5000=some b:=by
      rw [hcO]
      split
      ·exact ⟨_,by unfold q0v; rw [q0A (by omega),q0L]⟩
      ·exact ⟨_,by unfold q8U q8V q0v; rw [if_neg (by omega),q0A (by omega),q0L]; rfl⟩
     have hwO:WfH O:=by
      rw [hcO]
      split
      ·exact q1S (q0a hn Oq Oq)
      ·exact qqS
     refine wk1 hkn' ?_;refine A_jW [(1,pI cols),(2,iv num),(3,iv den),(4,.pt 4 0 0),(8,.pt 8 0 0),(9,iv 0),(10,iv 0),(12,iv n),(13,.pt 5000 0 0),(15,iv k),(16,iv e)] [(4,⟨27,some 5,[.ag [iv n,iv n,pI ms,pI mi,pF mv]],false⟩),(8,⟨99,some 8,[.ag [q02,q02,q02,q02,q02,q02,q02,q02]],false⟩)] O ?_ λK0 fin=>?_
     rotate_left
     ·refine qce q5B (.one 1 (.one 2 (.one 3 (.one 5 (.one 6 (.one 7 (.alt (.one 0 (.one 4 (.one 8 (.one 9 .fin)))) (.one 4 (.one 0 (.one 8 (.one 9 .fin))))))))))) (by kernel_rfl) λK9 hK9=>?_;refine Zz1 hx ?_;refine ⟨?_,?_⟩
      ·refine jx cX q3U (λ_ h=>h.elim) (j0J (a:=5001) hgo ?_ ?_) ?_
       ·repeat (refine qnf ?_ (by first | (unfold IdP; first | trivial | omega) | simp [IdP,IdL]))
        exact λt=>by unfold stV IdP; trivial
       ·repeat (refine qnl ?_ rfl (by simp [IdL,IdP]))
        exact j0G (qsb (by simp [IdL,IdP]) (by simp))
       ·try refine Zz ?_
        refine hK9 _ _ (fin _ _ ?_);refine LeW [] rfl rfl ?_ ?_ (by simp [q0j,q0b,win]) ?_
        ·exact Ow
        ·exact hwO
        ·try refine Zz ?_
         exact hO5
      ·refine jx cX q3U (λ_ h=>h.elim) (j0J (a:=5001) hgo ?_ ?_) ?_
       ·repeat (refine qnf ?_ (by first | (unfold IdP; first | trivial | omega) | simp [IdP,IdL]))
        exact λt=>by unfold stV IdP; trivial
       ·repeat (refine qnl ?_ rfl (by simp [IdL,IdP]))
        exact j0G (qsb (by simp [IdL,IdP]) (by simp))
       ·try refine Zz ?_
        refine hK9 _ _ (fin _ _ ?_);refine LeW [] rfl rfl ?_ ?_ (by simp [q0j,q0b,win]) ?_
        ·exact Ow
        ·exact hwO
        ·try refine Zz ?_
         exact hO5
     ·have herr:e≠0->C n=(e,if e=9 then k else 0,r):=λh=>by rw [hEk (by rw [hsk]; exact h) n (by omega),hsk]
      by_cases e0:e=0
      ·subst e0;rw [if_pos rfl] at hcO;subst hcO;have hskr:(C (k+1)).2.2=r:=by rw [hsk]
       have hGr:=hG (k+1) (by rw [hsk]);rw [hskr] at hGr;refine q1D (qbT (S:=r) (o:=5002) (r:=5001) hn (by omega) (by omega) (λ_ h=>h.elim) (λi h6 hw=>?_) ?_ ?_ (.inr (by omega)) (xs:=[(1,pI cols),(2,iv num),(3,iv den),(4,.pt 4 0 0),(8,.pt 8 0 0),(9,iv 0),(10,iv 0),(12,iv n),(13,.pt 5000 0 0),(15,iv k),(16,iv 0)]) (kv:=[]) (bs:=[(4,⟨27,some 5,[.ag [iv n,iv n,pI ms,pI mi,pF mv]],false⟩),(8,⟨99,some 8,[.ag [q02,q02,q02,q02,q02,q02,q02,q02]],false⟩)]) (kb:=[]) (by simp [nmW]) ?_) ?_
       ·rw [q0W hw];unfold q0v;rw [q0A (by omega),q0A (by omega)]
       ·rw [q0W ⟨by omega,by omega⟩];unfold q0v;rw [q0A (by omega),q0L]
       ·rw [q0W ⟨by omega,by omega⟩];unfold q0v;rw [q0L]
       ·try simp -implicitDefEqProofs (disch:=omega) only [go_sem,Nat.reduceEqDiff,Nat.reduceAdd,↓reduceIte]
       have b1:((0:Int) == 9)=false:=rfl;have b2:((0:Int) != 0)=false:=rfl;refine wk1 (x2 b1 b2) ?_;refine ⟨k+1,⟨by omega,by rw [hsk]⟩,by omega,?_⟩;rw [hskr];refine LeW [] rfl rfl ?_ ?_ (by simp [q0j,q0b,win]) ?_
       ·exact Ow
       ·exact q1S (q0a hn Oq Oq)
       ·try refine Zz ?_
        first | rfl | exact Int.natCast_succ k | (push_cast; rfl) | simp
      ·have hne:=herr e0;rw [hne];simp only;rw [if_neg e0,if_neg e0];unfold pLU;dsimp only
       by_cases e9:e=9
       ·have b1:(e == 9)=true:=by simpa using e9
        rw [if_pos e9];exact wk1 b1 trivial
       ·have b1:(e == 9)=false:=by simpa using e9
        have b2:(e != 0)=true:=by simpa using e0
        rw [if_neg e9,show ((0:Nat):Int)=0 from rfl];exact wk1 (x2 b1 b2) trivial
    ·obtain rfl:n=k:=by omega
     have hkn':¬ (n:Int) < n:=by omega
     have cL:=qd5 (S:=(C n).2.2) (cols:=cols) hn hll hGk.len hGk.r;rw [if_pos hk0,if_pos hk0,hk0];generalize (C n).2.2=S at *;generalize qvy S cols n=lu at *;unfold pLU at cL ⊢;refine wk1 hkn' ?_;refine q1D (LeT (hw:=Go.E.h0) (tnU 1013 5000) (λ_ h=>h.elim) (λi hi hw=>?_) (λi b hw hb=>?_) (λi j x hi hj ti tj=>?_) (xs:=[(1,pI cols),(8,.pt 8 0 0),(12,iv n),(13,.pt 1013 0 0)]) (kv:=[]) (bs:=[(8,⟨99,some 8,[.ag [q02,q02,q02,q02,q02,q02,q02,q02]],false⟩),(1013,⟨193,some 5,[pSt n S],false⟩)]) (kb:=[]) ?_) ?_
     ·simp at hi;unfold win at hw;omega
     ·cases hb
     ·have a:∀ i,(win i/\(Go.E.h0:Hp) i≠none\/i ∈ List.map (·.1) [(8,⟨99,some 8,[.ag [q02,q02,q02,q02,q02,q02,q02,q02]],false⟩),(1013,(⟨193,some 5,[pSt n S],false⟩:Bk))] ++ [])->i≠5000:=λi hi=>by
       rcases hi with ⟨_,hi⟩ | hi
       ·exact absurd rfl hi
       ·simp at hi; omega
      have a1:=a i hi;have a2:=a j hj;unfold tnU at ti tj
      split at ti <;> split at tj <;> cases ti <;> cases tj <;> first | omega | rfl | exact (a1 rfl).elim | exact (a2 rfl).elim
     ·try refine Zz ?_
      exact qog hn q3U λi j hi hj hw=>by
       unfold tnU at hi
       split at hi
       ·cases hi; omega
       ·cases hi; rw [q0W hw]; rfl
     exact wk trivial
end
def q5T {l:List Nat} {k v:Nat} (h:q03 l) (h1:v < 18446744073709551616) (h2:q0I v):q03 (l.set k v):=λx hx=>by
 rcases yP hx with h3 | rfl
 ·exact h x h3
 ·exact ⟨h1,h2⟩
def qgk {l:List Nat} {k:Nat} (h:q03 l):q03 (l.take k):=λx hx=>h x (List.mem_of_mem_take hx)
def q9I {l:List Nat} {k:Nat} (h:q03 l):q03 (l.drop k):=λx hx=>h x (List.mem_of_mem_drop hx)
def q22 (V:Int):q1M [V]=V:=by have:=q0l [] V; rw [List.nil_append,q3D] at this; omega
section
variable {f:Fac} {z:Nat->Int}
end
def loZ (D:Nat->Nat->Nat) (ys:List Nat) (k:Nat):Int:=ofZ (ys.getD k 0)-sg (λc=>q1P (D k c) (ys.getD c 0)) k
def upZ (D:Nat->Nat->Nat) (ys:List Nat) (n k:Nat):Int:=ofZ (ys.getD k 0)-sg (λi=>q1P (D k (k+1+i)) (ys.getD (k+1+i) 0)) (n-(k+1))
noncomputable def geL (D:Nat->Nat->Nat):Nat->Nat->List Nat->Option (List Nat)
 | 0,_,ys=>some ys
 | m+1,k,ys=>if q0I (fR 0 (loZ D ys k)) then geL D m (k+1) (ys.set k (fR 0 (loZ D ys k))) else none
noncomputable def geU (D:Nat->Nat->Nat) (n:Nat):Nat->List Nat->Option (List Nat)
 | 0,ys=>some ys
 | k+1,ys=>if q0I (fQ 0 (upZ D ys n k) (ofZ (D k k))) then geU D n k (ys.set k (fQ 0 (upZ D ys n k) (ofZ (D k k)))) else none
def qgU {D:Nat->Nat->Nat} {n:Nat}:∀ (m k:Nat) (ys zs:List Nat),ys.length=n->q03 ys->geL D m k ys=some zs->zs.length=n/\q03 zs
 | 0,k,ys,zs,h1,h2,h=>by unfold geL at h; cases h; exact ⟨h1,h2⟩
 | m+1,k,ys,zs,h1,h2,h=>by
  unfold geL at h
  split at h
  ·exact qgU m _ _ zs (by simpa using h1) (q5T h2 q4E (by assumption)) h
  ·cases h
def qgT {D:Nat->Nat->Nat} {n:Nat} (hD:∀ k,k < n->ofZ (D k k)≠0):∀ (k:Nat) (ys zs:List Nat),k<=n->ys.length=n->q03 ys->geU D n k ys=some zs->zs.length=n/\q03 zs
 | 0,ys,zs,_,h1,h2,h=>by unfold geU at h; cases h; exact ⟨h1,h2⟩
 | k+1,ys,zs,hk,h1,h2,h=>by
  unfold geU at h
  split at h
  ·exact qgT hD k _ zs (by omega) (by simpa using h1) (q5T h2 (qa1 (hD k (by omega))) (by assumption)) h
  ·cases h
def q8c (x:Int) (l:List Int):q1M (x :: l)=x+q1M l:=by
 have:∀ (l:List Int) (a:Int),l.foldl (·+·) a=a+l.foldl (·+·) 0:=λl=>by
  induction l with
  | nil=>intro a; simp
  | cons y l ih=>intro a; simp only [y6]; rw [ih (a+y),ih (0+y)]; omega
 unfold q1M;rw [y6,this]; omega
def qeq {B:Int} {l x:List Nat}:∀ m,q1M (q8l B l x m)=B-sg (λi=>q1P (l.getD i 0) (x.getD i 0)) m
 | 0=>by rw [q8l,q22]; unfold sg; omega
 | m+1=>by rw [q8l,q0l,qeq m,show sg (λi=>q1P (l.getD i 0) (x.getD i 0)) (m+1)=sg (λi=>q1P (l.getD i 0) (x.getD i 0)) m+q1P (l.getD m 0) (x.getD m 0) from rfl]; omega
def ctV (L:List (Nat × Nat)) (r:Nat):Nat:=((L.find? λe=>e.1 == r).map (·.2)).getD 0
structure ColS (n:Nat) (st ix:List Int) (vs:List Nat) (E:Nat->List (Nat × Nat)):Prop where
 len:ix.length<=1000000
 col:∀ k,k < n->∃ a:Nat,st[k]?=some (a:Int)/\st[k+1]?=some ((a+(E k).length:Nat):Int)/\a+(E k).length<=ix.length/\∀ (t:Nat) (e:Nat × Nat),(E k)[t]?=some e->ix[a+t]?=some (e.1:Int)/\vs[a+t]?=some e.2/\e.1 < n/\q0I e.2/\e.2 < 18446744073709551616
 nd:∀ k,k < n->((E k).map (·.1)).Nodup
 sz:∀ k,k < n->(E k).length<=n
def dnH (n a c:Nat) (gl gu:Nat->Nat->Nat):Hp:=q1W 25 33 none 6000 10000 a (rU n gl) (q1W 25 33 none 6002 30000 c (rU n gu) h0)
def dnD (t:Nat):Nat->Nat->Nat:=λi j=>if i=j/\i < t then 4607182418800017408 else 0
def enS (g:Nat->Nat->Nat) (k:Nat):List (Nat × Nat)->Nat->Nat->Nat
 | []=>g
 | e :: l=>enS (q3f g e.1 k e.2) k l
def dnT (g:Nat->Nat->Nat) (E:Nat->List (Nat × Nat)):Nat->Nat->Nat->Nat
 | 0=>g
 | k+1=>enS (dnT g E k) k (E k)
def qa5 {k:Nat} {e:Nat × Nat}:∀ (l:List (Nat × Nat)) (g:Nat->Nat->Nat),enS g k (l ++ [e])=q3f (enS g k l) e.1 k e.2
 | [],_=>rfl
 | _ :: l,_=>qa5 l _
def dnD_0 {n:Nat} {t:Nat}:rU n (dnD t) t=rU n (λ_ _=>0) t:=by
 unfold rU dnD;refine zW λc _=>?_;rw [if_neg (by omega)]
def dnD_s {t:Nat}:q3f (dnD t) t t 4607182418800017408=dnD (t+1):=by
 funext i j
 unfold q3f dnD
 by_cases h:i=t/\j=t
 ·rw [if_pos h,if_pos (by omega)]
 ·rw [if_neg h]
  by_cases h2:i=j/\i < t
  ·rw [if_pos h2,if_pos (by omega)]
  ·rw [if_neg h2,if_neg (by omega)]
section
variable {n a c:Nat} {gl gu:Nat->Nat->Nat}
def q3Y (ha:a<=100) (hc:c<=100):BOk (dnH n a c gl gu) win:=by
 unfold dnH;have w:∀ R j m:Nat,5000<=R->R<=40000->m<=100->j < m->win (j+R):=λR j m h1 h2 h3 h4=>⟨by omega,by omega⟩;exact q1V (q1V BOk.h0 (λ_ _=>q6t) Oq ⟨⟨by omega,by omega⟩,λj hj=>w _ j _ Oq Oq hc hj⟩) (λ_ _=>q6t) Oq ⟨⟨by omega,by omega⟩,λj hj=>w _ j _ Oq Oq ha hj⟩
def qnF {q:Nat->Prop} (hq:∀ i,10000<=i->q i):HId q (dnH n a c gl gu):=by
 unfold dnH;exact q60 (q60 qdh (λ_ _=>q6t) λj _=>hq _ Oq) (λ_ _=>q6t) λj _=>hq _ Oq
def qxW {i:Nat} (hi:i < 6000):dnH n a c gl gu i=none:=by
 unfold dnH;rw [q0O (by omega) (by omega),q0O (by omega) (by omega)]
 rfl
def qnE:dnH n a c gl gu 6000=some ⟨25,none,(List.range a).map λj=>.ow (j+10000) none 0 n,false⟩:=by
 unfold dnH; rw [q1R]; simp
def q1w (ha:a<=100):dnH n a c gl gu 6002=some ⟨25,none,(List.range c).map λj=>.ow (j+30000) none 0 n,false⟩:=by
 unfold dnH; rw [q0O (by omega) (by omega),q1R]; simp
def qhB {j:Nat} (hj:j < a):dnH n a c gl gu (j+10000)=some ⟨33,none,rU n gl j,false⟩:=by
 unfold dnH; rw [q1H (by omega) hj]
def qcL {j:Nat} (ha:a<=100) (hj:j < c):dnH n a c gl gu (j+30000)=some ⟨33,none,rU n gu j,false⟩:=by
 unfold dnH; rw [q0O (by omega) (by omega),q1H (by omega) hj]
def qxX {r m v:Nat} (hr:r < a):q0Q (dnH n a c gl gu) (r+10000) ⟨33,none,(rU n gl r).set m (.vl (.int .u64 (v:Nat))),false⟩=dnH n a c (q3f gl r m v) gu:=by
 unfold dnH;rw [q3C (by omega) hr (by simp),qb4]
def dnH_u {r m v:Nat} (ha:a<=100) (hr:r < c):q0Q (dnH n a c gl gu) (r+30000) ⟨33,none,(rU n gu r).set m (.vl (.int .u64 (v:Nat))),false⟩=dnH n a c gl (q3f gu r m v):=by
 unfold dnH;rw [q21 (by omega) (by omega),q3C (by omega) hr (by simp),qb4]
def qxV {i:Nat} {x:Bk} (hb:dnH n 0 0 gl gu i=some x):x.xs=[]:=by
 unfold dnH at hb
 rcases q0k hb with ⟨rfl,rfl⟩ | ⟨_,h1,h2,_⟩ | ⟨_,_,hb⟩
 ·rfl
 ·omega
 rcases q0k hb with ⟨rfl,rfl⟩ | ⟨_,h1,h2,_⟩ | ⟨_,_,hb⟩
 ·rfl
 ·omega
 ·cases hb
def qxZ:q6X (dnH n n n gl gu) n 10000 none (λ_=>n)=some ((List.range n).map λj=>.sl none (rU n gl j),(List.range n).map (·+10000)):=by
 unfold dnH;rw [q6H (by omega),cO,if_pos λj _=>q6t]
 congr 2
 refine zW λj _=>?_
 congr 1
 exact q9m
def qxY (hn:n<=100):q6X (dnH n n n gl gu) n 30000 none (λ_=>n)=some ((List.range n).map λj=>.sl none (rU n gu j),(List.range n).map (·+30000)):=by
 unfold dnH;rw [q4u (by omega) (by omega),q6H (by omega),cO,if_pos λj _=>q6t]
 congr 2
 refine zW λj _=>?_
 congr 1
 exact q9m
attribute [go_sem ↓] qxW qnE qhB qcL
def qkr {f:LUt} {EL EU:Nat->List (Nat × Nat)} (hr:f.rows.length=n) (hn:n<=100) (hL:ColS n f.ls f.li f.lv EL) (hU:ColS n f.us f.ui f.uv EU):ACt 305 [pLU f] (.tu [tU n (dnT (dnD n) EL n),tU n (dnT (λ_ _=>0) EU n)]):=by
 obtain ⟨ro,co,ls,li,lv,us,ui,vu⟩:=f;unfold pLU;dsimp only at *;refine ac0 Tryz.func305 Tryz.ntmps305 [.tmp 2,.tmp 3] ?_;refine wk1 hr ?_;refine q1D (LeT (hw:=dnH n 0 0 (dnD 0) λ_ _=>0) tnW (λ_ h=>h.elim) (λi hi hw=>?_) (λi b hw hb=>?_) (λi j x hi hj ti tj=>?_) (xs:=[(1,.pt 1 0 0),(4,iv n),(5,.ow 6000 none 0 0),(6,.ow 6002 none 0 0),(7,iv 0)]) (kv:=[]) (bs:=[(1,⟨99,some 8,[.ag [pI ro,pI co,pI ls,pI li,pF lv,pI us,pI ui,pF vu]],false⟩)]) (kb:=[]) ?_) ?_
 ·simp at hi;unfold win at hw;omega
 ·unfold LeB;rw [q55 hw.1 hw.2];exact qxV hb
 ·unfold tnW at ti tj
  split at ti <;> split at tj <;> cases ti <;> cases tj <;> rfl
 ·try refine Zz ?_
  exact ⟨_,q1w Oq,rfl⟩
 refine q0P (λt=>t<=n) [1,4] [1] Lk Lk (λt:Nat=>[(5,.ow 6000 none 0 t),(6,.ow 6002 none 0 t),(7,iv t)]) (λ_=>[]) (λt=>dnH n t t (dnD t) λ_ _=>0) (λt=>n-t) 0 (zD _) ?_ ?_
 ·refine LeW [] rfl rfl ?_ ?_ (by simp [q0j,q0b,win]) ?_
  ·exact Ow
  ·exact q1S (q3Y Oq Oq)
  ·try refine Zz ?_
   exact ⟨⟨_,q1w Oq⟩,rfl⟩
 ·intro t ht
  by_cases hlt:t < n
  ·have hlt':(t:Int) < n:=by omega
   have rt:(List.range t ++ [t])[t]?=some t:=by simp
   have hset:((rU n (dnD t) t).set t (uv (4607182418800017408:Nat)))=(rU n (dnD t) t).set t (PV.vl (.int .u64 (4607182418800017408:Nat))):=rfl;refine wk1 hlt' ?_;refine q1D (q2N (T1:=25) (T2:=33) (K:=none) (N:=6000) (R:=10000) (n:=t) (o:=23) (r:=21) (l:=(rU n (dnD t)) t) (hw:=dnH n t t (dnD t) λ_ _=>0) (hw':=dnH n (t+1) t (dnD t) λ_ _=>0) (λ_ h=>h) q6t (λ_=>n) ?_ ?_ (λi h1 h2=>?_) qnE (qhB Oq) (λi h1 h2=>q1I h1 h2) (λj hj=>by
    rw [qhB (by omega)];exact yG _) (q3Y (by omega) (by omega)) (qnF λi hi=>by omega) ?_ (by omega) (by omega) (by omega) (by omega) (by omega) (by omega) (xs:=[(1,.pt 1 0 0),(4,iv n),(5,.ow 6000 none 0 (t+1)),(6,.ow 6002 none 0 t),(7,iv t)]) (kv:=[]) (bs:=[(1,⟨99,some 8,[.ag [pI ro,pI co,pI ls,pI li,pF lv,pI us,pI ui,pF vu]],false⟩)]) (kb:=[]) (by simp [nmW]) ?_) ?_
   ·try simp -implicitDefEqProofs (disch:=omega) only [go_sem,Nat.reduceEqDiff,Nat.reduceAdd,↓reduceIte]
   ·try refine Zz ?_
    rw [dnD_0,qjF (j:=t)]
   ·obtain ⟨w1,w2⟩:=h1
    repeat rw [q0A (by omega)]
    rw [q0W ⟨w1,w2⟩]
   ·unfold dnH;rw [q0O (by omega) (by omega),q0O (by omega) (by omega)]
    rfl
   ·try refine Zz ?_
    exact ⟨_,q1w Oq⟩
   have h2o:dnH n (t+1) t (dnD t) (λ_ _=>0) 6002=some ⟨25,none,(List.range t).map λj=>.ow (j+30000) none 0 n,false⟩:=q1w Oq;refine wk1 h2o ?_;clear h2o;refine q1D (q2N (T1:=25) (T2:=33) (K:=none) (N:=6002) (R:=30000) (n:=t) (o:=28) (r:=26) (l:=(rU n λ_ _=>0) t) (hw:=dnH n (t+1) t (dnD t) λ_ _=>0) (hw':=dnH n (t+1) (t+1) (dnD t) λ_ _=>0) (λ_ h=>h) q6t (λ_=>n) ?_ ?_ (λi h1 h2=>?_) (q1w Oq) (qcL Oq Oq) (λi h1 h2=>q1q (q1I h1 h2)) (λj hj=>by
    rw [qcL (by omega) (by omega)];exact yG _) (q3Y (by omega) (by omega)) (qnF λi hi=>by omega) ?_ (by omega) (by omega) (by omega) (by omega) (by omega) (by omega) (xs:=[(1,.pt 1 0 0),(4,iv n),(5,.ow 6000 none 0 (t+1)),(6,.ow 6002 none 0 (t+1)),(7,iv t)]) (kv:=[]) (bs:=[(1,⟨99,some 8,[.ag [pI ro,pI co,pI ls,pI li,pF lv,pI us,pI ui,pF vu]],false⟩)]) (kb:=[]) (by simp [nmW]) ?_) ?_
   ·try simp -implicitDefEqProofs (disch:=omega) only [go_sem,Nat.reduceEqDiff,Nat.reduceAdd,↓reduceIte]
   ·try refine Zz ?_
    rw [qjF (j:=t)]
   ·obtain ⟨w1,w2⟩:=h1
    repeat rw [q0A (by omega)]
    rw [q0W ⟨w1,w2⟩]
   ·unfold dnH;rw [q0O (by omega) (by omega),q0O (by omega) (by omega)]
    rfl
   ·try refine Zz ?_
    exact ⟨_,q1w Oq⟩
   refine wk1 rt ?_;refine ⟨t+1,by omega,by omega,?_⟩;refine LeW [] rfl rfl ?_ ?_ (by simp [q0j,q0b,win]) ?_
   ·exact q8J (q4S q3U) ((qxX (by omega)).trans (by rw [dnD_s]))
   ·exact q1S (q3Y Oq Oq)
   ·try refine Zz ?_
    exact ⟨⟨_,q1w Oq⟩,rfl⟩
  ·obtain rfl:n=t:=by omega
   have hlt':¬ (n:Int) < n:=by omega
   refine wk1 hlt' ?_;obtain ⟨g0,hg0⟩:∃ g,g=dnD n:=⟨_,rfl⟩;rw [<- hg0];clear hg0 ht;refine q0P (λk=>k<=n) [1,4,5,6] [1] Lk Lk (λk:Nat=>[(8,iv k)]) (λ_=>[]) (λk=>dnH n n n (dnT g0 EL k) (dnT (λ_ _=>0) EU k)) (λk=>n-k) 0 (zD _) ?_ ?_
   ·refine LeW [] rfl rfl ?_ ?_ (by simp [q0j,q0b,win]) ?_
    ·exact Ow
    ·exact q1S (q3Y Oq Oq)
    ·try refine Zz ?_
     exact ⟨rfl,_,q1w Oq⟩
   ·intro k hk
    by_cases hkn:k < n
    ·have hkn':(k:Int) < n:=by omega
     have rk:(List.range n)[k]?=some k:=zB hkn;have wj:(k:Int)+1=((k+1:Nat):Int):=rfl;obtain ⟨a,l1,l2,l3,l4⟩:=hL.col k hkn;obtain ⟨c,u1,u2,u3,u4⟩:=hU.col k hkn;have hlb:=hL.len;have hub:=hU.len;have dL:dnT g0 EL (k+1)=enS (dnT g0 EL k) k (EL k):=rfl;have dU:dnT (λ_ _=>0) EU (k+1)=enS (dnT (λ_ _=>0) EU k) k (EU k):=rfl;generalize dnT g0 EL k=gl at *;generalize dnT (λ_ _=>0) EU k=gu at *;generalize EL k=el at *;generalize EU k=eu at *;refine wk1 (x2 hkn' l1) ?_;refine q0P (λt=>t<=el.length) [1,4,5,6,8] [1] Lk Lk (λt:Nat=>[(9,iv (a+t:Nat))]) (λ_=>[]) (λt=>dnH n n n (enS gl k (el.take t)) gu) (λt=>el.length-t) 0 (zD _) ?_ ?_
     ·refine LeW [] rfl rfl ?_ ?_ (by simp [q0j,q0b,win]) ?_
      ·exact Ow
      ·exact q1S (q3Y Oq Oq)
      ·try refine Zz ?_
       exact ⟨_,q1w Oq⟩
     ·intro t ht
      by_cases hlt:t < el.length
      ·obtain ⟨e,he⟩:∃ e,el[t]?=some e:=⟨_,zA hlt⟩;obtain ⟨y1,y2,y3,y4,y5⟩:=l4 t e he;have hlt':((a+t:Nat):Int) < ((a+el.length:Nat):Int):=by omega
       have re:(List.range n)[e.1]?=some e.1:=zB y3;obtain ⟨p,hp⟩:∃ p,p=a+t:=⟨_,rfl⟩;rw [<- hp] at y1 y2 hlt' ⊢;refine wk1 (x6 wj l2 hlt' y1 y2 re) ?_;refine ⟨t+1,by omega,by omega,?_⟩;rw [List.take_add_one,he,xU,qa5];refine LeW [] rfl rfl ?_ ?_ (by simp [q0j,q0b,win]) ?_
       ·exact q8J (q4S q3U) (qxX y3)
       ·exact q1S (q3Y Oq Oq)
       ·try refine Zz ?_
        exact ⟨by omega,_,q1w Oq⟩
      ·obtain rfl:t=el.length:=by omega
       obtain ⟨b,hb⟩:∃ b,b=a+el.length:=⟨_,rfl⟩;have hlt':¬ (b:Int) < b:=by omega
       rw [zX];rw [<- hb] at l2 ⊢;refine wk1 (x4 wj l2 hlt' u1) ?_;refine q0P (λt=>t<=eu.length) [1,4,5,6,8] [1] Lk Lk (λt:Nat=>[(10,iv (c+t:Nat))]) (λ_=>[]) (λt=>dnH n n n (enS gl k el) (enS gu k (eu.take t))) (λt=>eu.length-t) 0 (zD _) ?_ ?_
       ·refine LeW [] rfl rfl ?_ ?_ (by simp [q0j,q0b,win]) ?_
        ·exact Ow
        ·exact q1S (q3Y Oq Oq)
        ·try refine Zz ?_
         exact ⟨_,q1w Oq⟩
       ·intro t ht;have ho2:=q1w (n:=n) (a:=n) (c:=n) (gl:=enS gl k el) (gu:=enS gu k (eu.take t)) Oq
        by_cases hlt:t < eu.length
        ·obtain ⟨e,he⟩:∃ e,eu[t]?=some e:=⟨_,zA hlt⟩;obtain ⟨y1,y2,y3,y4,y5⟩:=u4 t e he;have hlt':((c+t:Nat):Int) < ((c+eu.length:Nat):Int):=by omega
         have re:(List.range n)[e.1]?=some e.1:=zB y3;have hr2:=qcL (n:=n) (a:=n) (c:=n) (gl:=enS gl k el) (gu:=enS gu k (eu.take t)) (j:=e.1) Oq y3;obtain ⟨p,hp⟩:∃ p,p=c+t:=⟨_,rfl⟩;rw [<- hp] at y1 y2 hlt' ⊢;refine wk1 (x6 wj u2 hlt' y1 y2 (x3 re ho2 hr2)) ?_;refine ⟨t+1,by omega,by omega,?_⟩;rw [List.take_add_one,he,xU,qa5];refine LeW [] rfl rfl ?_ ?_ (by simp [q0j,q0b,win]) ?_
         ·exact q8J (q4S q3U) (dnH_u Oq y3)
         ·exact q1S (q3Y Oq Oq)
         ·try refine Zz ?_
          exact ⟨by omega,_,q1w Oq⟩
        ·obtain rfl:t=eu.length:=by omega
         obtain ⟨d,hd⟩:∃ d,d=c+eu.length:=⟨_,rfl⟩;have hlt':¬ (d:Int) < d:=by omega
         rw [zX] at ho2 ⊢;rw [<- hd] at u2 ⊢;refine wk1 (x3 wj u2 hlt') ?_;refine ⟨k+1,by omega,by omega,?_⟩;rw [dL,dU];refine LeW [] rfl rfl ?_ ?_ (by simp [q0j,q0b,win]) ?_
         ·exact Ow
         ·exact q1S (q3Y Oq Oq)
         ·try refine Zz ?_
          exact ⟨_,q1w Oq⟩
    ·obtain rfl:n=k:=by omega
     have hlt':¬ (n:Int) < n:=by omega
     generalize dnT g0 EL n=gl at *;generalize dnT (λ_ _=>0) EU n=gu at *;have ho2:=q1w (n:=n) (a:=n) (c:=n) (gl:=gl) (gu:=gu) Oq;have hc2:=qxY (gl:=gl) (gu:=gu) hn;have hc0:=qxZ (n:=n) (gl:=gl) (gu:=gu);exact wk1 (x4 hlt' hc0 ho2 hc2) trivial
end
def q9a (st ix:List Int) (vs:List Nat) (k:Nat):List (Nat × Nat):=(List.range ((st.getD (k+1) 0).toNat-(st.getD k 0).toNat)).map λt=>((ix.getD ((st.getD k 0).toNat+t) 0).toNat,vs.getD ((st.getD k 0).toNat+t) 0)
def q8O {l:List Int} (h:qcd l):∀ (d i:Nat) (x y:Int),l[i]?=some x->l[i+d+1]?=some y->x < y
 | 0,i,x,y,hx,hy=>h i x y hx hy
 | d+1,i,x,y,hx,hy=>by
  obtain ⟨z,hz⟩:∃ z,l[i+d+1]?=some z:=⟨_,zA (by have:=(zN.1 hy).1; omega)⟩;have h1:=q8O h d i x z hx hz;have h2:=h (i+d+1) z y hz hy;omega
def q8P {l:List Int} (h:qcd l) {lo:Int} (h0:∀ z,l[0]?=some z->lo<=z):∀ (t:Nat) (z:Int),l[t]?=some z->lo+t<=z
 | 0,z,hz=>by have:=h0 z hz; omega
 | t+1,z,hz=>by
  obtain ⟨y,hy⟩:∃ y,l[t]?=some y:=⟨_,zA (by have:=(zN.1 hz).1; omega)⟩;have h1:=q8P h h0 t y hy;have h2:=h t y z hy hz;omega
def qsh {l:List Int} (h:qcd l) {t:Nat} {z y:Int} (hz:l[t]?=some z) (hy:l[l.length-1]?=some y):z<=y:=by
 have ht:=(zN.1 hz).1
 by_cases e:t=l.length-1
 ·rw [e,hy] at hz; cases hz; exact Int.le_refl _
 ·exact Int.le_of_lt (q8O h (l.length-1-t-1) t z y hz (by rw [<- hy]; congr 1; omega))
section
variable {n:Nat} {st ix:List Int} {vs:List Nat} {G:Nat->List Int->Prop}
def q37 {ix:List Int} {a b t:Nat} (ht:a+t < b):((ix.take b).drop a)[t]?=ix[a+t]?:=by
 rw [xB,yS,if_pos ht]
def q7y {a b k:Nat} (h1:st[k]?=some (a:Int)) (h2:st[k+1]?=some (b:Int)):q9a st ix vs k=(List.range (b-a)).map λt=>((ix.getD (a+t) 0).toNat,vs.getD (a+t) 0):=by
 unfold q9a;rw [getD_some h1,getD_some h2,zY,zY]
def qhQ (h:CmpOk n st ix G) (hl:ix.length=vs.length) (hf:∀ x ∈ vs,q0I x) (hu:∀ x ∈ vs,x < 18446744073709551616) (hix:ix.length<=1000000) (hG:∀ k l,k < n->qcd l->G k l->(∀ z,l[0]?=some z->0<=z)/\∀ z,l[l.length-1]?=some z->z < n):ColS n st ix vs (q9a st ix vs):=by
 refine ⟨hix,λk hk=>?_,λk hk=>?_,λk hk=>?_⟩
 all_goals
  obtain ⟨a,b,h1,h2,h3,h4,h5,h6⟩:=h.col k hk;obtain ⟨g1,g2⟩:=hG k _ hk h5 h6;rw [q7y h1 h2];have hll:((ix.take b).drop a).length=b-a:=by rw [yO,z7]; omega
  have hb:∀ t,t < b-a->∃ z:Nat,ix[a+t]?=some (z:Int)/\t<=z/\z < n:=λt ht=>by
   obtain ⟨z,hz⟩:∃ z,ix[a+t]?=some z:=⟨_,zA Oq⟩;have hz2:=(q37 (ix:=ix) (a:=a) (b:=b) (t:=t) Oq).trans hz;have q1:=q8P h5 g1 t z hz2;obtain ⟨y,hy⟩:∃ y,((ix.take b).drop a)[((ix.take b).drop a).length-1]?=some y:=⟨_,zA Oq⟩;have q2:=qsh h5 hz2 hy;have q3:=g2 y hy;exact ⟨z.toNat,by rw [Int.toNat_of_nonneg (by omega)]; exact hz,by omega,by omega⟩
 ·refine ⟨a,h1,?_,?_,λt e he=>?_⟩
  ·rw [h2,zJ,zU]; congr 1; omega
  ·rw [zJ,zU]; omega
  ·have ht:t < b-a:=by have:=(zN.1 he).1; simpa using this
   rw [zG,zB ht,zS] at he;cases he;obtain ⟨z,z1,z2,z3⟩:=hb t ht;obtain ⟨v,hv⟩:∃ v,vs[a+t]?=some v:=⟨_,zA Oq⟩;simp only [getD_some z1,getD_some hv,zY];exact ⟨z1,hv,z3,hf v (zC hv),hu v (zC hv)⟩
 ·rw [xX];unfold List.Nodup;rw [List.pairwise_iff_getElem];intro i j hi hj hij;simp at hi hj;obtain ⟨z,z1,_⟩:=hb i hi;obtain ⟨y,y1,_⟩:=hb j hj;simp only [List.getElem_map,List.getElem_range,Function.comp_apply,getD_some z1,getD_some y1,zY];have:=q8O h5 (j-i-1) i z y ((q37 (by omega)).trans z1) ((q37 (by omega)).trans (by rw [<- y1]; congr 1; omega));omega
 ·rw [zJ,zU]
  by_cases e:b-a=0
  ·omega
  ·obtain ⟨z,z1,z2,z3⟩:=hb (b-a-1) Oq;omega
end
def qhL {L:List (Nat × Nat)} {t:Nat} {e:Nat × Nat} (h:(L.map (·.1)).Nodup) (he:L[t]?=some e):ctV L e.1=e.2:=by
 induction L generalizing t with
 | nil=>simp at he
 | cons d L ih =>
  rw [xT,List.nodup_cons] at h;cases t with
  | zero =>
   rw [List.getElem?_cons_zero] at he;cases he;unfold ctV;rw [xK,show (e.1 == e.1)=true by simp]; rfl
  | succ t =>
   rw [List.getElem?_cons_succ] at he;have hne:d.1≠e.1:=λq=>h.1 (by rw [q]; exact xQ (zC he));unfold ctV;rw [xK,show (d.1 == e.1)=false by simpa using hne];exact ih h.2 he
def qgv {k:Nat}:∀ (l:List (Nat × Nat)) (g:Nat->Nat->Nat) (i j:Nat),(l.map (·.1)).Nodup->enS g k l i j=if j=k then ((l.find? λe=>e.1 == i).map (·.2)).getD (g i j) else g i j
 | [],g,i,j,_=>by unfold enS; simp
 | e :: l,g,i,j,h=>by
  rw [xT,List.nodup_cons] at h;rw [enS,qgv l _ i j h.2]
  by_cases hj:j=k
  ·rw [if_pos hj,if_pos hj,xK]
   by_cases he:e.1=i
   ·have h0:(l.find? λe=>e.1 == i)=none:=List.find?_eq_none.2 λd hd hq=>h.1 (by rw [he,<- (by simpa using hq:d.1=i)]; exact xQ hd);rw [h0,show (e.1 == i)=true by simpa using he];simp [q3f,hj,he]
   ·rw [show (e.1 == i)=false by simpa using he];simp only [q3f];rw [if_neg λq=>he q.1.symm]
  ·rw [if_neg hj,if_neg hj];unfold q3f;rw [if_neg λq=>hj q.2]
def qa8 {g:Nat->Nat->Nat} {E:Nat->List (Nat × Nat)}:∀ (m i j:Nat),(∀ k,k < m->((E k).map (·.1)).Nodup)->dnT g E m i j=if j < m then (((E j).find? λe=>e.1 == i).map (·.2)).getD (g i j) else g i j
 | 0,i,j,_=>by rw [dnT,if_neg (by omega)]
 | m+1,i,j,h=>by
  rw [dnT,qgv _ _ _ _ (h m (by omega)),qa8 m i j λk hk=>h k (by omega)]
  by_cases hj:j=m
  ·subst hj;rw [if_pos rfl,if_neg (by omega),if_pos (by omega)]
  ·rw [if_neg hj]
   by_cases h2:j < m
   ·rw [if_pos h2,if_pos (by omega)]
   ·rw [if_neg h2,if_neg (by omega)]
def dnL_v {n:Nat} {E:Nat->List (Nat × Nat)} (h:∀ k,k < n->((E k).map (·.1)).Nodup) {i j:Nat} (hj:j < n) (hij:j < i):dnT (dnD n) E n i j=ctV (E j) i:=by
 rw [qa8 n i j h,if_pos hj];unfold ctV dnD;rw [if_neg (by omega)]
def dnU_v {n:Nat} {E:Nat->List (Nat × Nat)} (h:∀ k,k < n->((E k).map (·.1)).Nodup) {i j:Nat} (hj:j < n):dnT (λ_ _=>0) E n i j=ctV (E j) i:=by
 rw [qa8 n i j h,if_pos hj]
 rfl
def qhM {n:Nat} {st ix:List Int} {vs:List Nat} {E:Nat->List (Nat × Nat)} (h:ColS n st ix vs E) {i j:Nat} (hj:j < n):ctV (E j) i < 18446744073709551616/\q0I (ctV (E j) i):=by
 unfold ctV;cases hf:(E j).find? λe=>e.1 == i with
 | none=>exact ⟨by simp,by unfold q0I; simp⟩
 | some e =>
  obtain ⟨t,ht⟩:=yJ.1 (List.mem_of_find?_eq_some hf);obtain ⟨a,_,_,_,h4⟩:=h.col j hj;obtain ⟨_,_,_,h5,h6⟩:=h4 t e ht;exact ⟨h6,h5⟩
structure LUok (f:LUt) (n:Nat):Prop where
 b:LUb f
 rl:f.rows.length=n
 n2:n<=200
 rp:q3V f.rows n
 cp:q3V f.cols n
 sl:f.ls.length=n+1
 su:f.us.length=n+1
 L:ColS n f.ls f.li f.lv (q9a f.ls f.li f.lv)
 U:ColS n f.us f.ui f.uv (q9a f.us f.ui f.uv)
 gt:∀ k,k < n->∀ e ∈ q9a f.ls f.li f.lv k,k < e.1
 le:∀ k,k < n->∀ e ∈ q9a f.us f.ui f.uv k,e.1<=k
 dg:∀ k,k < n->∃ m x,q9a f.us f.ui f.uv k=m ++ [(k,x)]/\ofZ x≠0/\∀ e ∈ m,e.1 < k
def qhu {f:LUt} (hb:LUb f) (h:q6Y f=0):LUok f f.rows.length:=by
 unfold q6Y at h
 split at h
 ·cases h
 split at h
 ·cases h
 rename_i hn hp
 split at h
 ·cases h
 rename_i hls
 split at h
 ·cases h
 rename_i hst
 split at h
 ·rename_i hf;obtain ⟨f1,f2,f3⟩:=hf;have hp:=Classical.not_not.1 hp;obtain ⟨s1,s2,s3,s4⟩:=Classical.not_not.1 hls;have hst:=Classical.not_not.1 hst;obtain ⟨c1,c2⟩:=hst;have L:=qhQ (vs:=f.lv) c1 s3 f1 hb.hl hb.li λk l hk ha hg=>⟨λz hz=>by have:=hg.1 z hz; omega,hg.2⟩;have U:=qhQ (vs:=f.uv) c2 s4 f2 hb.hu hb.ui λk l hk ha hg=>⟨hg.1,λz hz=>by have:=hg.2.symm.trans hz; cases this; omega⟩;have hgt:∀ k,k < f.rows.length->∀ e ∈ q9a f.ls f.li f.lv k,k < e.1:=λk hk e he=>by
   obtain ⟨a,b,h1,h2,h3,h4,h5,h6⟩:=c1.col k hk;rw [q7y h1 h2] at he;obtain ⟨t,ht,rfl⟩:=zH.1 he;have ht:=uR.1 ht;obtain ⟨z,hz⟩:∃ z,f.li[a+t]?=some z:=⟨_,zA Oq⟩;have:=q8P h5 (lo:=(k:Int)+1) (λz hz=>by have:=h6.1 z hz; omega) t z ((q37 Oq).trans hz);simp only [getD_some hz];omega
  have hU:∀ k,k < f.rows.length->∃ m x,q9a f.us f.ui f.uv k=m ++ [(k,x)]/\ofZ x≠0/\∀ e ∈ m,e.1 < k:=λk hk=>by
   obtain ⟨a,b,h1,h2,h3,h4,h5,h6⟩:=c2.col k hk;have hll:((f.ui.take b).drop a).length=b-a:=by rw [yO,z7]; omega
   have hlast:=h6.2;have hab:a < b:=by
    rcases xH a b with q | q
    ·exact q
    ·rw [z6 (by omega)] at hlast; cases hlast
   rw [hll,q37 (by omega)] at hlast;obtain ⟨x,hx⟩:∃ x,f.uv[b-1]?=some x:=⟨_,zA Oq⟩;rw [show a+(b-a-1)=b-1 by omega] at hlast;refine ⟨(List.range (b-a-1)).map λt=>((f.ui.getD (a+t) 0).toNat,f.uv.getD (a+t) 0),x,?_,f3 k hk (b-1) x (by rw [h2]; congr 1; omega) hx,λe he=>?_⟩
   ·rw [q7y h1 h2,show b-a=(b-a-1)+1 by omega,yE,zF,yB,show a+(b-a-1)=b-1 by omega,getD_some hlast,getD_some hx,zY]
    rfl
   ·obtain ⟨t,ht,rfl⟩:=zH.1 he;have ht:=uR.1 ht;obtain ⟨z,hz⟩:∃ z,f.ui[a+t]?=some z:=⟨_,zA Oq⟩;have hz2:=(q37 (ix:=f.ui) (a:=a) (b:=b) (t:=t) Oq).trans hz;have q1:=q8P h5 h6.1 t z hz2;have q2:=q8O h5 (b-a-1-t-1) t z k hz2 ((q37 (by omega)).trans (by rw [<- hlast]; congr 1; omega));simp only [getD_some hz];omega
  refine ⟨hb,rfl,by omega,hp.1,hp.2,s1,s2,L,U,hgt,λk hk e he=>?_,hU⟩;obtain ⟨m,x,m1,m2,m3⟩:=hU k hk;rw [m1] at he
  rcases uS.1 he with he | he
  ·exact xY (m3 e he)
  ·rw [List.mem_singleton.1 he]; exact zL _
 ·cases h
end Go.Proofs.YtpbaikoblfcmdaaGreatDoor
namespace Go.E
open Go Go.RowKit
section
variable {T1 T2:TypeId} {K:Kd} {N R n:Nat} {row:Nat->List PV}
def qlq:qeR T1 T2 K N R n row=q1W T1 T2 K N R n row h0:=rfl
end
end Go.E
namespace Go.Proofs.YtpbaikoblfcmdaaGreatDoor
open Go Go.E Go.Sp
abbrev q7O (n:Nat) (rows:Nat->List Int):Hp:=q1W 39 48 (some 4) 5000 10000 n (qew rows) h0
def q1L {n:Nat} {rows:Nat->List Int} (hn:n<=1000):BOk (q7O n rows) win:=q1V BOk.h0 (λ_ _=>clV) Oq ⟨⟨by omega,by omega⟩,λj hj=>⟨by omega,by omega⟩⟩
def wfB {H:Hp} (h:BOk H win):WfH H:=⟨λi b hb=>⟨(h.b i b hb).2.1,IdL_mono (λj hj=>by
 obtain ⟨c,hc⟩:=yM.1 hj;exact ⟨(h.b j c hc).1,hj⟩) _ (h.b i b hb).2.2⟩⟩
section
variable {b:List Nat} {n:Nat} {rows:Nat->List Int}
def bgR (b:List Nat) (k:Nat):Nat->List Int:=λj=>if j < k then [ofZ (b.getD j 0)] else []
end
def psG (g:Nat->Int):List (Nat × Nat)->(Nat->List Int)->Nat->List Int
 | [],rows=>rows
 | e :: L,rows=>psG g L (q4x rows e.1 (-(g e.2)))
def ctG (g:Nat->Int) (L:List (Nat × Nat)) (r:Nat):Int:=q1M (L.map λe=>if e.1=r then g e.2 else 0)
def qfW {g:Nat->Int}:∀ (A B:List (Nat × Nat)) (rows:Nat->List Int),psG g (A ++ B) rows=psG g B (psG g A rows)
 | [],_,_=>rfl
 | e :: A,B,rows=>by rw [List.cons_append,psG,psG,qfW A B]
def psG_s {g:Nat->Int} {t:Nat} {L:List (Nat × Nat)} {e:Nat × Nat} {rows:Nat->List Int} (he:L[t]?=some e):psG g (L.take (t+1)) rows=q4x (psG g (L.take t) rows) e.1 (-(g e.2)):=by
 rw [q1p he,qfW]; rfl
def qfV {g:Nat->Int} {r:Nat}:∀ (L:List (Nat × Nat)) (rows:Nat->List Int),q1M (psG g L rows r)=q1M (rows r)-ctG g L r
 | [],rows=>by unfold psG ctG; rw [xZ,q3D]; omega
 | e :: L,rows=>by
  rw [psG,qfV L,qdq];have:ctG g (e :: L) r=(if e.1=r then g e.2 else 0)+ctG g L r:=by unfold ctG; rw [xT,q8c]
  rw [this]
  by_cases h:r=e.1
  ·rw [if_pos h,if_pos h.symm]; omega
  ·rw [if_neg h,if_neg λq=>h q.symm]; omega
def qm4 {g:Nat->Int}:∀ (L:List (Nat × Nat)) (rows:Nat->List Int) (m:Nat),(∀ e ∈ L,bl (g e.2).natAbs<=67600)->(∀ r,(rows r).length<=m)->(∀ r,∀ z ∈ rows r,bl z.natAbs<=67600)->(∀ r,(psG g L rows r).length<=m+L.length)/\∀ r,∀ z ∈ psG g L rows r,bl z.natAbs<=67600
 | [],rows,m,_,h1,h2=>⟨h1,h2⟩
 | e :: L,rows,m,he,h1,h2=>by
  have hz:bl (-(g e.2)).natAbs<=67600:=by rw [zZ]; exact he e xV
  have b1:=qiI (k:=e.1) h1 h2 hz;have b2:=qm4 L _ (m+1) (λd hd=>he d (xN _ hd)) b1.1 b1.2;rw [psG];exact ⟨λr=>by have:=b2.1 r; rw [List.length_cons]; omega,b2.2⟩
structure RB (rows:Nat->List Int) (m:Nat):Prop where
 l:∀ r,(rows r).length<=m
 b:∀ r,∀ z ∈ rows r,bl z.natAbs<=67600
def RB.pg {rows:Nat->List Int} {m:Nat} {g:Nat->Int} {L:List (Nat × Nat)} (h:RB rows m) (hL:∀ e ∈ L,bl (g e.2).natAbs<=67600):RB (psG g L rows) (m+L.length):=by
 obtain ⟨h1,h2⟩:=qm4 L rows m hL h.l h.b;exact ⟨h1,h2⟩
def RB.mono {rows:Nat->List Int} {m m':Nat} (h:RB rows m) (hm:m<=m'):RB rows m':=⟨λr=>zR (h.l r) hm,h.b⟩
def RB.bg {b:List Nat} {k:Nat} (hb:q03 b):RB (bgR b k) 1:=⟨λr=>by unfold bgR; split <;> simp,λr z hz=>by
 unfold bgR at hz
 split at hz
 ·simp at hz; subst hz; exact zR (q13 (q9E hb).2) (by omega)
 ·cases hz⟩
section
variable {D:Nat->Nat->Nat} {E:Nat->List (Nat × Nat)} {n k:Nat} {ys:List Nat} {rows:Nat->List Int}
def qyU {b:List Nat} {r:Nat} (hr:r < b.length):q1M (bgR b b.length r)=ofZ (b.getD r 0):=by
 unfold bgR;rw [if_pos hr,q22]
end
section
variable {n k v:Nat} {ys:List Nat}
end
def quq {a b:Int} (h:b < a):(a-b).sign=1:=yA Oq
def qup {a b:Int} (h:¬ b < a):¬ (a-b).sign > 0:=λq=>by
 rcases Int.lt_or_eq_of_le (Int.not_lt.1 h) with h | h
 ·rw [yC (by omega)] at q; omega
 ·rw [show a-b=0 by omega] at q; exact absurd q (by decide)
def grZ (l:List Int):Int:=l.foldl max 0
def qwU {l:List Int} {i:Nat} {x:Int} (h:l[i]?=some x):grZ (l.take (i+1))=max (grZ (l.take i)) x:=by
 unfold grZ;rw [q1p h,List.foldl_append]
 rfl
def qbv:∀ (l:List Int) (a:Int),(l.foldl max a=a\/l.foldl max a ∈ l)/\a<=l.foldl max a
 | [],a=>⟨.inl rfl,Int.le_refl _⟩
 | x :: l,a=>by
  have h:=qbv l (max a x);rw [y6];refine ⟨?_,by omega⟩
  rcases h.1 with h | h
  ·rw [h]
   rcases Int.le_total a x with q | q
   ·right; rw [Int.max_eq_right q]; exact xV
   ·left; exact Int.max_eq_left q
  ·right; exact xN _ h
def qms {l:List Int}:0<=grZ l:=(qbv l 0).2
def qwV {p:Int->Prop} {l:List Int} (h0:p 0) (h:∀ x ∈ l,p x):p (grZ l):=by
 rcases (qbv l 0).1 with q | q
 ·unfold grZ; rw [q]; exact h0
 ·exact h _ q
def qgQ {l:List Int} {k:Nat} (h:∀ x ∈ l,bl x.natAbs<=k):bl (grZ l).natAbs<=k:=qwV (p:=λz=>bl z.natAbs<=k) (by simp [q07]) h
def btD (n:Nat) (v:List Nat) (F:Nat->Nat->Option Nat) (i j k:Nat):Int:=q1P (v.getD (k*n+i) 0) ((F j k).getD 0)
def btE (n:Nat) (v:List Nat) (F:Nat->Nat->Option Nat) (i j:Nat):Int:=(if i=j then q2T else 0)-sg (btD n v F i j) n
def btZ (n:Nat) (v:List Nat) (F:Nat->Nat->Option Nat) (i:Nat):Int:=sg (λj=>((btE n v F i j).natAbs:Int)) n
def btL (n:Nat) (v:List Nat) (F:Nat->Nat->Option Nat):List Int:=(List.range n).map (btZ n v F)
def q8h {g:Nat->Int} {K:Nat} (n:Nat) (hn:n<=1000) (h:∀ i,i < n->bl (g i).natAbs<=K):bl (sg g n).natAbs<=K+11:=by
 have e:∀ m,sg g m=q1M ((List.range m).map g):=λm=>by
  induction m with
  | zero=>rfl
  | succ m ih=>rw [sg,ih,yE,zF,yB,q0l]
 have:=q5b (K:=K) (i:=n) (l:=(List.range n).map g) (λx hx=>by
  obtain ⟨i,hi,rfl⟩:=zH.1 hx;exact h i (uR.1 hi)) Oq
 rw [zM (by simp)] at this;rw [e];exact this
def q44 {g:Nat->Int} {n i:Nat} (h:i < n):((List.range n).map g)[i]?=some (g i):=by simp [h]
def qvH {g:Nat->Int} {n:Nat}:(List.range (n+1)).map g=(List.range n).map g ++ [g n]:=by rw [yE,zF]; rfl
def q5i {g:Nat->Int} {n:Nat}:((List.range n).map g).length=n:=by simp
def q0c {v:List Nat} (hv:q03 v) {i:Nat}:v.getD i 0 < 18446744073709551616/\q0I (v.getD i 0):=by
 rw [uT];cases h:v[i]? with
 | none=>exact ⟨by simp,by simp [q0I]⟩
 | some x=>exact hv x (zC h)
def TOk.finD {f:Nat->Nat->Option Nat} {R C j i:Nat} (h:TOk f R C) (hj:j < C) (hi:i < R):q0I ((f j i).getD 0):=(h.fin hj hi).1
section
variable {F:Nat->Nat->Option Nat} {n r c R C:Nat} {v:List Nat}
def qn3 (h:TOk F n n) (hv:q03 v) {i j k:Nat} (hj:j < n) (hk:k < n):bl (btD n v F i j k).natAbs<=67584:=qbi (q0c hv).2 (h.finD hj hk)
def qcW (h:TOk F n n) (hv:q03 v) {i j:Nat} (hj:j < n):bl (btE n v F i j).natAbs<=67596:=by
 have h1:=q8h (g:=btD n v F i j) (K:=67584) n (by have:=h.r; omega) λk hk=>qn3 h hv hj hk;unfold btE;refine q9V (k:=67595) ?_ Oq
 split
 ·have:=q4g; omega
 ·simp [q07]
def q9T (h:TOk F n n) (hv:q03 v) {i:Nat}:bl (btZ n v F i).natAbs<=67607:=q8h (K:=67596) n (by have:=h.r; omega) λj hj=>by rw [zE]; exact qcW h hv hj
def qyB (h:TOk F n n) (hv:q03 v):∀ x ∈ btL n v F,bl x.natAbs<=67607:=λx hx=>by
 obtain ⟨i,_,rfl⟩:=zH.1 hx;exact q9T h hv
def prZ (a b:Int):Int:=(mkV (a*b) (-131072)).getD 0
def qbc:q2T=(2:Int) ^ 65536:=by
 have h:=q7i (z:=1) (by have:=q0N (n:=Int.natAbs 1) (k:=1) (by decide); omega);rw [q4f.1] at h;have h:=x9.inj h;rw [xO] at h;exact h
end
def q8p (V:Int):od (V.natAbs:Int)=((od V).natAbs:Int)/\dyE (V.natAbs:Int)=dyE V:=by
 have hs:=q1s V
 by_cases hv:V < 0
 ·rw [decide_eq_true hv] at hs;have ho:od V < 0:=of_decide_eq_true hs;rw [show (V.natAbs:Int) = -V by omega,qf5,qa6];exact ⟨by omega,rfl⟩
 ·rw [decide_eq_false hv] at hs;have ho:¬ od V < 0:=of_decide_eq_false hs;rw [show (V.natAbs:Int)=V by omega];exact ⟨by omega,rfl⟩
def qnC {V:Int} (h:q0U V):q0U (V.natAbs:Int):=by unfold q0U at *; rwa [zE]
section
variable {A B V z:Int} {v:Nat}
def q8Z (h1 : -9223372036854775808<=z) (h2:z<=9223372036854775807) (hv:mkV z 0=some V):ACt 90 [iv z] (dT V):=by
 have hz:bl z.natAbs<=64:=q0N (yI (show z.natAbs<=9223372036854775808 by omega) (by decide));have C1:=@q1u;have C2:=q3j (m:=z) (e:=0) rfl Oq Oq Oq hv;refine ac0 Tryz.func90 Tryz.ntmps90 [.cell 2 48] ?_;exact wk trivial
def qdx:ACt 90 [iv 1] (dT q2T):=q8Z Oq Oq q4f.1
def qiT:ACt 90 [iv 0] (dT 0):=q8Z Oq Oq (q1a _)
def qeA (hA:q0U A):ACt 165 [dT A] (dT (A.natAbs:Int)):=by
 have C1:=q9g hA;have C2:=@q5u;have:=(q0x hA).2.2;have f1:=(q8p A).1.symm;have f2:=(q8p A).2;refine ac0 Tryz.func165 Tryz.ntmps165 [.cell 2 48] ?_;exact wk1 (x2 f1 f2) trivial
end
def qb0 {g:Nat->Int}:∀ n,q1M ((List.range n).map g)=sg g n
 | 0=>rfl
 | n+1=>by rw [yE,zF,yB,q0l,qb0 n,sg]
def dy0:q0U 0:=by simp [q0U,q07]
def pPn (r c:Nat) (v:List Nat):PV:=.ag [iv r,iv c,pF v]
open Classical in
noncomputable def chP (r c:Nat) (v:List Nat):Int:=if v.length≠r*c then 2 else if ∀ x ∈ v,q0I x then 0 else 4
section
variable {l:List Int} {r c i j:Nat} {v:List Nat}
def q8X (hn:l.length<=1000000):ACt 137 [pVs l] (pV (grZ l)):=by
 have N1:=q1T (V:=0);refine ac0 Tryz.func137 Tryz.ntmps137 [.cell 2 48] ?_;refine wk ?_;refine q0B (λi=>i<=l.length) [0,2,3] [2] Lk Lk (λi:Nat=>[(4,iv i)]) (λi=>[(3,⟨48,some 4,[pV (grZ (l.take i))],false⟩)]) (λi=>l.length-i) 0 (zD _) ?_ ?_
 ·refine LeM [] rfl rfl ?_;refine Zz ?_;exact ⟨rfl,qhq rfl⟩
 ·intro i hi
  by_cases hlt:i < l.length
  ·obtain ⟨x,hx⟩:∃ x,l[i]?=some x:=⟨_,zA hlt⟩;have C2:=q5G (A:=grZ (l.take i)) (B:=x);have es:=qwU hx;generalize grZ (l.take i)=G at *
   by_cases h:G < x
   ·rw [decide_eq_true h] at C2;rw [show max G x=x by omega] at es;refine wk1 hx ?_;refine ⟨i+1,by omega,by omega,?_⟩;rw [es];refine LeM [] rfl rfl ?_;refine Zz ?_
    first | done | omega | exact ⟨by omega,rfl⟩
   ·rw [decide_eq_false h] at C2;rw [show max G x=G by omega] at es;refine wk1 hx ?_;refine ⟨i+1,by omega,by omega,?_⟩;rw [es];refine LeM [] rfl rfl ?_;refine Zz ?_
    first | done | omega | exact ⟨by omega,rfl⟩
  ·obtain rfl:i=l.length:=by omega
   rw [zX];exact wk trivial
def qhJ {n:Nat} (hr:r<=64) (hc:c<=64) (hn:n<=1000000):ACt 247 [iv r,iv c,iv n] (iv (if n≠r*c then 2 else 0)):=by
 have hm:r*c<=64*64:=zI hr hc;have w1:IntKind.i64.wrap ((r:Int)*(c:Int))=((r*c:Nat):Int):=by rw [<- zK,i64_in (by omega) (by omega)]
 generalize r*c=m at *;refine ac0 Tryz.func247 Tryz.ntmps247 [.tmp 6] ?_
 by_cases h:n=m
 ·have q:((n:Int) != (m:Int))=false:=by simp; omega
  rw [if_neg (not_not_intro h)];exact wk1 (x2 w1 q) trivial
 ·have q:((n:Int) != (m:Int))=true:=by simp; omega
  rw [if_pos h];exact wk1 (x2 w1 q) trivial
def qdr {n:Nat} (hr:r<=64) (hc:c<=64) (hn:n<=1000000):ACt 168 [iv r,iv c,iv n] (iv (if n≠r*c then 2 else 0)):=by
 have hm:r*c<=64*64:=zI hr hc;have w1:IntKind.i64.wrap ((r:Int)*(c:Int))=((r*c:Nat):Int):=by rw [<- zK,i64_in (by omega) (by omega)]
 generalize r*c=m at *;refine ac0 Tryz.func168 Tryz.ntmps168 [.tmp 6] ?_
 by_cases h:n=m
 ·have q:((n:Int) != (m:Int))=false:=by simp; omega
  rw [if_neg (not_not_intro h)];exact wk1 (x2 w1 q) trivial
 ·have q:((n:Int) != (m:Int))=true:=by simp; omega
  rw [if_pos h];exact wk1 (x2 w1 q) trivial
open Classical in
def qks (hr:r<=64) (hc:c<=64) (hn:v.length<=1000000) (hv:∀ x ∈ v,x < 18446744073709551616):ACt 161 [pPn r c v] (iv (chP r c v)):=by
 have C1:=qhJ (n:=v.length) hr hc hn;obtain ⟨res,hres⟩:∃ res,res=chP r c v:=⟨_,rfl⟩;rw [<- hres];unfold chP at hres;unfold pPn;refine ac0 Tryz.func161 Tryz.ntmps161 [.tmp 2] ?_
 by_cases h:v.length=r*c
 rotate_left
 ·rw [if_pos h] at C1 hres;subst hres;exact wk trivial
 rw [if_neg (not_not_intro h)] at C1 hres;refine wk ?_;refine q0B (λi=>i<=v.length/\∀ x ∈ v.take i,q0I x) [18,19] [] Lk Lk (λi:Nat=>[(20,iv i)]) (λ_=>[]) (λi=>v.length-i) 0 ⟨zD _,by simp⟩ ?_ ?_
 ·refine LeM [] rfl rfl ?_;refine Zz ?_
  rfl
 ·rintro i ⟨hi,hf⟩
  by_cases hil:i < v.length
  ·obtain ⟨x,hx⟩:∃ x,v[i]?=some x:=⟨_,zA hil⟩;have hmx:=zC hx;have cF:=qa3 (hv x hmx)
   by_cases hfx:q0I x
   case neg =>
    rw [decide_eq_false hfx] at cF;rw [if_neg λh=>hfx (h x hmx)] at hres;subst hres;exact wk1 hx trivial
   rw [decide_eq_true hfx] at cF;refine wk1 hx ?_;refine ⟨i+1,⟨by omega,?_⟩,by omega,?_⟩
   ·rw [q1p hx];intro y hy
    rcases uS.1 hy with hy | hy
    ·exact hf y hy
    ·simp at hy; subst hy; exact hfx
   ·refine LeM [] rfl rfl ?_;refine Zz ?_;omega
  ·obtain rfl:i=v.length:=by omega
   rw [zX] at hf;rw [if_pos hf] at hres;subst hres;exact wk trivial
open Classical in
def qiN (hr:r<=64) (hc:c<=64) (hn:v.length<=1000000) (hv:∀ x ∈ v,x < 18446744073709551616):ACt 63 [pPn r c v] (iv (chP r c v)):=by
 have C1:=qdr (n:=v.length) hr hc hn;obtain ⟨res,hres⟩:∃ res,res=chP r c v:=⟨_,rfl⟩;rw [<- hres];unfold chP at hres;unfold pPn;refine ac0 Tryz.func63 Tryz.ntmps63 [.tmp 2] ?_
 by_cases h:v.length=r*c
 rotate_left
 ·rw [if_pos h] at C1 hres;subst hres;exact wk trivial
 rw [if_neg (not_not_intro h)] at C1 hres;refine wk ?_;refine q0B (λi=>i<=v.length/\∀ x ∈ v.take i,q0I x) [1] [1] Lk Lk (λi:Nat=>[(4,iv i)]) (λ_=>[]) (λi=>v.length-i) 0 ⟨zD _,by simp⟩ ?_ ?_
 ·refine LeM [] rfl rfl ?_;refine Zz ?_
  rfl
 ·rintro i ⟨hi,hf⟩
  by_cases hil:i < v.length
  ·obtain ⟨x,hx⟩:∃ x,v[i]?=some x:=⟨_,zA hil⟩;have hmx:=zC hx;have cF:=q14 (hv x hmx)
   by_cases hfx:q0I x
   case neg =>
    rw [decide_eq_false hfx] at cF;rw [if_neg λh=>hfx (h x hmx)] at hres;subst hres;exact wk1 hx trivial
   rw [decide_eq_true hfx] at cF;refine wk1 hx ?_;refine ⟨i+1,⟨by omega,?_⟩,by omega,?_⟩
   ·rw [q1p hx];intro y hy
    rcases uS.1 hy with hy | hy
    ·exact hf y hy
    ·simp at hy; subst hy; exact hfx
   ·refine LeM [] rfl rfl ?_;refine Zz ?_;omega
  ·obtain rfl:i=v.length:=by omega
   rw [zX] at hf;rw [if_pos hf] at hres;subst hres;exact wk trivial
def qdu:ACt 64 [] (pV q2T):=by
 have C1:=q2o (V:=q2T) (z:=1) Oq Oq q4f.1;refine ac0 Tryz.func64 Tryz.ntmps64 [.cell 0 48] ?_;exact wk trivial
def q8W (hr:r<=64) (hc:c<=64) (hl:v.length=r*c) (hv:q03 v) (hi:i < r) (hj:j < c):ACt 66 [pPn r c v,iv i,iv j] (pV (ofZ (v.getD (j*r+i) 0))):=by
 have hm:r*c<=64*64:=zI hr hc;have hm2:j*r+r<=r*c:=by rw [<- Nat.succ_mul,z8 r c]; exact zP _ hj
 have w1:IntKind.i64.wrap ((j:Int)*(r:Int))=((j*r:Nat):Int):=by rw [<- zK,i64_in (by omega) (by omega)]
 have w2:IntKind.i64.wrap (((j*r:Nat):Int)+(i:Int))=((j*r+i:Nat):Int):=by rw [i64_in (by omega) (by omega)]; omega
 obtain ⟨x,hx⟩:∃ x,v[j*r+i]?=some x:=⟨_,zA Oq⟩;obtain ⟨h1,h2⟩:=hv x (zC hx);rw [getD_some hx];have C1:=q0w h1 (q0T h2);generalize j*r=jr at *;unfold pPn;refine ac0 Tryz.func66 Tryz.ntmps66 [.cell 6 48] ?_;exact wk1 (x3 w1 w2 hx) trivial
end
section
variable {r c i j:Nat} {v:List Nat}
def chP_0 (h:chP r c v=0) (hv:∀ x ∈ v,x < 18446744073709551616):v.length=r*c/\q03 v:=by
 unfold chP at h
 by_cases h1:v.length=r*c
 ·rw [if_neg (not_not_intro h1)] at h;refine ⟨h1,λx hx=>⟨hv x hx,?_⟩⟩;refine Classical.byContradiction λhn=>?_;rw [if_neg λq=>hn (q x hx)] at h;cases h
 ·rw [if_pos h1] at h;cases h
def qv5 (hr:r<=64) (hc:c<=64) (hl:v.length=r*c) (hi:i < r) (hj:j < c):IntKind.i64.wrap ((j:Int)*(r:Int))=((j*r:Nat):Int)/\IntKind.i64.wrap (((j*r:Nat):Int)+(i:Int))=((j*r+i:Nat):Int)/\∃ x,v[j*r+i]?=some x:=by
 have hm:r*c<=64*64:=zI hr hc;have hm2:j*r+r<=r*c:=by rw [<- Nat.succ_mul,z8 r c]; exact zP _ hj
 exact ⟨by rw [<- zK,i64_in (by omega) (by omega)],by rw [i64_in (by omega) (by omega)]; omega,_,zA (by omega)⟩
end
def qpG {n m i:Nat} {g:Nat->Nat} (hi:i < n):(rwG n g m)[i]?=some (if i < m then g i else 0):=by
 unfold rwG;rw [zG,zB hi]; rfl
def quk {e:Int} {n:Nat} {l:List Nat} (h:qil e n l=0):e=0/\l.length=n/\∀ x ∈ l,q0I x:=by
 unfold qil at h
 split at h
 ·exact absurd h (by assumption)
 ·split at h
  ·cases h
  ·split at h
   ·cases h
   ·rename_i h1 h2 h3;exact ⟨Decidable.not_not.1 h1,Decidable.not_not.1 h2,Classical.not_not.1 h3⟩

def qcn {raw:List Nat} {k st:Int} {n:Nat} (hr:raw.length<=9223372036854775807) (hn:n<=1000000) (h1 : -1000000<=k) (h2:k<=1000000) (h3 : -9223372036854775808<=st) (h4:st<=9223372036854775807) :
  qdi 48 [pF raw,iv k,iv n,iv st] h0 (.ow 5000 none 0 n) (q0Q h0 5000 ⟨33,none,(q4y raw k (q0d st 4) n).map λz:Nat=>uv z,false⟩):=by
 have hJ:∀ i,¬ (h0 i≠none):=λi h=>h rfl;refine qdo qxv Tryz.func48 rfl Tryz.ntmps48 (by kernel_rfl) ?_ ?_ ?_ ?_
 ·intro i b hb; cases hb
 ·intro i b hb
  by_cases hi:i=5000
  ·subst hi; exact ⟨by omega,by omega⟩
  ·rw [q0A hi] at hb; cases hb
 ·exact IdL.of λx hx=>by
   simp at hx
   rcases hx with rfl | rfl | rfl | rfl <;> unfold IdP <;> trivial
 have hW:WfH h0:=⟨λi b hb=>by cases hb⟩;refine wk ?_;refine q0P (λi=>i<=n) [0,1,2,3] [] Lk Lk (λi:Nat=>[(10,iv i),(9,.ow 11 none 0 i)]) (λi=>[(11,⟨33,none,(q4y raw k (q0d st 4) i).map λz:Nat=>uv z,false⟩)]) (λ_=>h0) (λi=>n-i) 0 (zD _) ?_ ?_
 ·refine LeW [] rfl rfl ?_ ?_ (by simp [q0j,q0b,win]) ?_
  ·exact Ow
  ·exact hW
  ·try refine Zz ?_
   exact ⟨rfl,rfl⟩
 ·intro i hi
  by_cases hlt:i < n
  ·have C1:=@q7F;have C2:=@qf6;have C3:=@q2M;refine wk1 @q3B ?_;refine ⟨i+1,by omega,by omega,?_⟩;refine LeW [(11,some 26)] rfl rfl ?_ ?_ (by simp [q0j,q0b,win]) ?_
   ·exact Ow
   ·exact hW
   ·try refine Zz ?_
    exact ⟨by omega,by rw [qle]⟩
  ·obtain rfl:i=n:=by omega
   refine wk ?_;refine (rtM (rs:=[.tmp 8]) rfl rfl Lq ?_ (.inl rfl));refine LeO hJ ?_ clU
   try simp -implicitDefEqProofs (disch:=omega) only [go_sem,Nat.reduceEqDiff,Nat.reduceAdd,↓reduceIte]


def qbw {l:List Nat} (h:q03 l) (i:Nat):l.getD i 0 < 18446744073709551616/\q0I (l.getD i 0):=by
 rw [uT];cases hx:l[i]? with
 | none=>exact ⟨by simp,by unfold q0I; simp⟩
 | some x=>exact h x (zC hx)

section
variable {F:Nat->Nat->Option Nat} {l:List Int} {cs:List Nat} {cols:List (List Nat)} {j n M:Nat} {p:LSt}
end
def q52 {raw:List Nat} {k:Int} {st n:Nat}:q03 (q4y raw k st n):=λx hx=>by
 unfold q4y at hx;obtain ⟨i,_,rfl⟩:=zH.1 hx;have:=qf7 (k:=st) (q2M raw (k+i));exact ⟨this.2,this.1⟩


def gaS (l:List Nat) (o:List Int) (n:Nat):List Nat:=rwG n (λk=>l.getD (o.getD k 0).toNat 0) n
def scS (x:List Nat) (o:List Int) (n:Nat):Nat->List Nat
 | 0=>List.replicate n 0
 | k+1=>(scS x o n k).set (o.getD k 0).toNat (x.getD k 0)
def q7W {x:List Nat} {o:List Int} {n:Nat}:∀ k,(scS x o n k).length=n
 | 0=>List.length_replicate
 | k+1=>by rw [scS,y7,q7W k]
def qgV {l:List Nat} {o:List Int} {n:Nat}:(gaS l o n).length=n:=q7Y
def qgW {l:List Nat} {o:List Int} {n:Nat} (hl:q03 l):q03 (gaS l o n):=λx hx=>by
 unfold gaS rwG at hx;obtain ⟨j,_,rfl⟩:=zH.1 hx
 split
 ·exact qbw hl _
 ·exact ⟨by omega,by unfold q0I; simp⟩
section
variable {l:List Nat} {o:List Int} {n:Nat}
def q9c (hl:l.length=n) (ho:o.length=n) (hn:n<=1000000) (hb:∀ x ∈ o,0<=x/\x < n):qdi 131 [pF l,pI o] h0 (.ow 5000 none 0 n) (q0Q h0 5000 ⟨33,none,(scS l o n n).map λz:Nat=>uv z,false⟩):=by
 have hJ:∀ i,¬ (h0 i≠none):=λi h=>h rfl;refine qdo qn0 Tryz.func131 rfl Tryz.ntmps131 (by kernel_rfl) ?_ ?_ ?_ ?_
 ·intro i b hb; cases hb
 ·exact qf1
 ·exact IdL.of λx hx=>by
   simp at hx
   rcases hx with rfl | rfl <;> unfold IdP <;> trivial
 have hW:WfH h0:=⟨λi b hb=>by cases hb⟩;refine wk1 ho ?_;refine q0P (λk=>k<=n) [0,1] [] Lk Lk (λk:Nat=>[(6,iv k),(5,.ow 1001 none 0 n)]) (λk=>[(1001,⟨33,none,(scS l o n k).map λz:Nat=>uv z,false⟩)]) (λ_=>h0) (λk=>n-k) 0 (zD _) ?_ ?_
 ·refine LeW [(1001,some 9)] rfl rfl ?_ ?_ (by simp [q0j,q0b,win]) ?_
  ·exact Ow
  ·exact hW
  ·rw [scS]
   try refine Zz ?_
   simp
 ·intro k hk
  by_cases hlt:k < n
  ·obtain ⟨x,hx⟩:∃ x,o[k]?=some x:=⟨_,zA Oq⟩;obtain ⟨h1,h2⟩:=hb x (zC hx);obtain ⟨x,rfl⟩:∃ y:Nat,x=y:=⟨x.toNat,by omega⟩;obtain ⟨u,hu⟩:∃ u,l[k]?=some u:=⟨_,zA Oq⟩;have hs:scS l o n (k+1)=(scS l o n k).set x u:=by rw [scS,getD_some hx,zY,getD_some hu]
   have hsl:=q7W (x:=l) (o:=o) (n:=n) k;refine wk1 (x4 ho hx hu hsl) ?_;refine ⟨k+1,by omega,by omega,?_⟩;refine LeW [] rfl rfl ?_ ?_ (by simp [q0j,q0b,win]) ?_
   ·exact Ow
   ·exact hW
   ·try refine Zz ?_
    exact ⟨by omega,hs.symm⟩
  ·obtain rfl:k=n:=by omega
   refine wk1 ho ?_;refine (rtM (rs:=[.tmp 4]) rfl rfl Lq ?_ (.inl rfl));refine LeO hJ ?_ clU
   try simp -implicitDefEqProofs (disch:=omega) only [go_sem,Nat.reduceEqDiff,Nat.reduceAdd,↓reduceIte]
end
section
variable {n k z:Nat} {rows:Nat->List Int} {l:List PV}
def qgu {z:Int}:q8S (qew rows) k ((rows k ++ [z]).map λV=>pV V)=qew (q4x rows k z):=by
 funext j
 unfold q8S qew q4x
 by_cases h:j=k
 ·subst h; rw [if_pos rfl,if_pos rfl]
 ·rw [if_neg h,if_neg h]
end
def RsI (f:Nat->Nat->Option Nat) (x:List (Nat × Nat)) (b:List Nat) (R J:Nat) (rows:Nat->List Int):Prop:=∀ r,r < R->q1M (rows r)=ofZ (b.getD r 0)-sg (λj=>q7e ((f j r).getD 0) (x.getD j (0,0))) J
section
variable {f:Nat->Nat->Option Nat} {x:List (Nat × Nat)} {b:List Nat} {R C J:Nat} {rows:Nat->List Int}
def qvq {p:Nat × Nat}:q7e 0 p=0:=by unfold q7e; rw [qfb,qfb]; rfl
def qnJ {g:Nat->Int} (h0:g 0=0) {r:Nat}:∀ i,ctG g (tZ f J i) r=if r < i then g ((f J r).getD 0) else 0
 | 0=>by unfold ctG tZ; simp [q3D]
 | i+1=>by
  have ih:=qnJ h0 (r:=r) i;unfold ctG at *;rw [tZ_s,zF];cases h:f J i with
  | none =>
   rw [xZ,xL,ih]
   by_cases hr:r < i
   ·rw [if_pos hr,if_pos (by omega)]
   ·rw [if_neg hr]
    by_cases h2:r=i
    ·subst h2; rw [if_pos (by omega),h]; exact h0.symm
    ·rw [if_neg (by omega)]
  | some v =>
   rw [yB,q0l,ih];dsimp only
   by_cases h2:r=i
   ·subst h2; rw [if_neg (by omega),if_pos rfl,if_pos (by omega),h]; simp
   ·rw [if_neg (show ¬ i=r from λq=>h2 q.symm)]
    by_cases hr:r < i
    ·rw [if_pos hr,if_pos (by omega)]; omega
    ·rw [if_neg hr,if_neg (by omega)]; rfl
def RsI.s (h:RsI f x b R J rows):RsI f x b R (J+1) (psG (λv=>q7e v (x.getD J (0,0))) (tZ f J R) rows):=λr hr=>by
 rw [qfV,h r hr,qnJ (qvq) R,if_pos hr,sg];omega
def RsI.bg (hb:b.length=R):RsI f x b R 0 (bgR b R):=λr hr=>by
 subst hb;rw [qyU hr,sg]; omega
end
section
variable {f:Nat->Nat->Option Nat} {R C:Nat}
end
def qeP {n:Nat} {a b:Nat->List Int} (h:∀ r,r < n->a r=b r):q7O n a=q7O n b:=by
 funext i
 unfold q7O q1W qew
 split
 ·congr 2
  exact zW λj hj=>by rw [h j (uR.1 hj)]
 ·split
  ·rw [h _ (by omega)]
  ·rfl
def qmc {x y:Nat}:q1P x y=q1P y x:=by unfold q1P; rw [xI]
def qf9 {x:Nat}:q1P x 0=0:=by rw [qmc,qfb]
open Classical in
noncomputable def btC (R C r c:Nat) (v:List Nat):Int:=if R≠C then 5 else if chP r c v≠0 then chP r c v else if r≠R\/c≠C then 5 else 0
noncomputable def btA (R C:Nat) (F:Nat->Nat->Option Nat) (r c:Nat) (v:List Nat):List Int × Int:=if btC R C r c v≠0 then ([],btC R C r c v) else (btL R v F,0)
section
variable {F:Nat->Nat->Option Nat} {n R C r c:Nat} {v:List Nat}
def btR (n:Nat) (v:List Nat) (F:Nat->Nat->Option Nat) (i J:Nat):Nat->List Int:=λr=>(List.range (if r < i then J+1 else J)).map λj=>((btE n v F r j).natAbs:Int)
def btR_0:btR n v F 0 0=λ_=>[]:=by
 funext r
 unfold btR;rw [if_neg (by omega)]
 rfl
def btR_s {i J:Nat}:btR n v F (i+1) J=q4x (btR n v F i J) i ((btE n v F i J).natAbs:Int):=by
 funext r
 unfold btR q4x;dsimp only
 by_cases h:r=i
 ·subst h;rw [if_pos rfl,if_pos (by omega),if_neg (by omega),yE,zF]
  rfl
 ·rw [if_neg h]
  by_cases h2:r < i
  ·rw [if_pos (by omega),if_pos h2]
  ·rw [if_neg (by omega),if_neg h2]
def btR_n {J:Nat}:q7O n (btR n v F n J)=q7O n (btR n v F 0 (J+1)):=qeP λr hr=>by
 unfold btR;rw [if_pos hr,if_neg (by omega)]
def qh0 {i J r:Nat}:(btR n v F i J r).length<=J+1:=by
 unfold btR;rw [zJ,zU]
 split <;> omega
def qr3 {i:Nat}:q1M (btR n v F 0 n i)=btZ n v F i:=by
 unfold btR;rw [if_neg (by omega),qb0]
 rfl
def btT (n:Nat) (v:List Nat) (i:Nat) (e:Nat × Nat):Int := -(q1P (v.getD (e.1*n+i) 0) e.2)
def btO (i j:Nat):List Int:=if i=j then [q2T] else []
def qaj {i j:Nat}:∀ m,q1M ((tZ F j m).map (btT n v i)) = -(sg (btD n v F i j) m)
 | 0=>rfl
 | m+1=>by
  rw [tZ_s,zF,sg];cases h:F j m with
  | none =>
   rw [xZ,xL,qaj m];have:btD n v F i j m=0:=by unfold btD; rw [h]; exact qf9
   omega
  | some x =>
   rw [yB,q0l,qaj m];have:btD n v F i j m=q1P (v.getD (m*n+i) 0) x:=by unfold btD; rw [h]; rfl
   unfold btT;dsimp only;omega
def qbP (A:List Int):∀ B:List Int,q1M (A ++ B)=q1M A+q1M B:=λB=>by
 induction B generalizing A with
 | nil=>rw [xL,q3D]; omega
 | cons y Y ih=>rw [show A ++ y :: Y=(A ++ [y]) ++ Y by simp,ih,q0l,q8c]; omega
def qr6 {i j:Nat}:q1M (btO i j ++ (tZ F j n).map (btT n v i))=btE n v F i j:=by
 rw [qbP,qaj];unfold btO btE
 split
 ·rw [q22]; omega
 ·rw [q3D]; omega
def qn2 {i j:Nat}:∀ z ∈ btO i j,bl z.natAbs<=67600:=λz hz=>by
 unfold btO at hz
 split at hz
 ·simp at hz; subst hz; have:=q4g; omega
 ·cases hz
def qh1 {i j:Nat}:(btO i j).length<=1:=by unfold btO; split <;> simp
def qyA (hv:q03 v) {i:Nat} {L:List (Nat × Nat)} (hL:∀ e ∈ L,q0I e.2):∀ z ∈ L.map (btT n v i),bl z.natAbs<=67600:=λz hz=>by
 obtain ⟨e,he,rfl⟩:=zH.1 hz;unfold btT;rw [zZ];exact (q0m (q0c hv).2 (hL e he)).2
def qrD (h:TOk F R C) (hr:r<=64) (hc:c<=64) (hn:v.length<=1000000) (hv:∀ x ∈ v,x < 18446744073709551616):ACt 60 [pT R C F,pPn r c v] (iv (btC R C r c v)):=by
 have C1:=qic h;have C2:=qks hr hc hn hv;unfold btC;unfold pT q2F pPn at *;generalize chP r c v=e at *
 by_cases h1:R=C
 rotate_left
 ·rw [if_pos h1];have q1:((R:Int) != (C:Int))=true:=by simp; omega
  refine ac0 Tryz.func60 Tryz.ntmps60 [.tmp 4] ?_;exact wk1 q1 trivial
 have q1:((R:Int) != (C:Int))=false:=by simp; omega
 rw [if_neg (not_not_intro h1)]
 by_cases h2:e=0
 rotate_left
 ·rw [if_pos h2];have q2:(e != 0)=true:=by simpa using h2
  refine ac0 Tryz.func60 Tryz.ntmps60 [.tmp 4] ?_;exact wk1 (x2 q1 q2) trivial
 subst h2;rw [if_neg (not_not_intro rfl)]
 by_cases h3:r=R
 rotate_left
 ·rw [if_pos (.inl h3)];have q3:((r:Int) != (R:Int))=true:=by simp; omega
  refine ac0 Tryz.func60 Tryz.ntmps60 [.tmp 4] ?_;exact wk1 (x2 q1 q3) trivial
 have q3:((r:Int) != (R:Int))=false:=by simp; omega
 by_cases h4:c=C
 ·have q4:((c:Int) != (C:Int))=false:=by simp; omega
  rw [if_neg (by omega)];refine ac0 Tryz.func60 Tryz.ntmps60 [.tmp 4] ?_;exact wk1 (x3 q1 q3 q4) trivial
 ·have q4:((c:Int) != (C:Int))=true:=by simp; omega
  rw [if_pos (.inr h4)];refine ac0 Tryz.func60 Tryz.ntmps60 [.tmp 4] ?_;exact wk1 (x3 q1 q3 q4) trivial
def qgy (h:TOk F n n) (hn:n<=20) (hl:v.length=n*n) (hv:q03 v):ACt 61 [pT n n F,pPn n n v] (pVs (btL n v F)):=by
 have hml:=q1e (f:=F) (R:=n) n;have hg:=λj hj=>q3W (f:=F) (R:=n) (C:=n) (j:=j) hj;have hix:=λj k hj h1 h2=>qcq (f:=F) (R:=n) (C:=n) (j:=j) (k:=k) hj h1 h2;have hos:=λj=>qls (f:=F) (R:=n) (j:=j);have hpi:=λi j hi hj=>qv5 (i:=i) (j:=j) (show n<=64 by omega) (show n<=64 by omega) hl hi hj;obtain ⟨o,ho⟩:∃ o,o=tO F n:=⟨_,rfl⟩;have hRC:=h.m;have hfin:rwP n (λr=>pV (btZ n v F r)) n=(btL n v F).map λV=>pV V:=by
  unfold rwP btL;rw [xX];exact zW λi hi=>by rw [if_pos (uR.1 hi)]; rfl
 have hZb:=λi=>q9T h hv (i:=i);unfold pVs;rw [<- hfin];unfold pT pPn;rw [<- ho] at hg hix hos;generalize (tM F n n).1=st at *;generalize (tM F n n).2.1=ix at *;generalize (tM F n n).2.2=vl at *;obtain ⟨m1,m2,m3⟩:=hml;unfold q2F;refine ac0 Tryz.func61 Tryz.ntmps61 [.tmp 4] ?_;refine wk ?_;refine q1D (qbN (o:=16) (N:=5000) (R:=10000) (n:=n) (T1:=39) (T2:=48) (K:=some 4) (λ_ h=>h) ?_ (by omega) (by omega) (by omega) (by omega) (xs:=[(2,.pt 2 0 0),(3,.pt 3 0 0),(5,.ow 5000 none 0 n),(18,iv n),(19,iv 0)]) (kv:=[]) (kb:=[(2,some ⟨27,some 5,[.ag [iv n,iv n,pI st,pI ix,pF vl]],false⟩),(3,some ⟨31,some 3,[.ag [iv n,iv n,pF v]],false⟩)]) (by simp [nmW]) ?_) ?_
 ·try simp -implicitDefEqProofs (disch:=omega) only [go_sem,Nat.reduceEqDiff,Nat.reduceAdd,↓reduceIte]
 ·try refine Zz ?_
  exact if_pos rfl
 rw [qlq];have e0:q1W 39 48 (some 4) 5000 10000 n (λ_=>[]) h0=q7O n (btR n v F 0 0):=by rw [btR_0]; rfl
 rw [e0];refine q0P (λJ:Nat=>J<=n) [2,3,5,18] [2,3] Lk Lk (λJ=>[(19,iv J)]) (λ_=>[]) (λJ=>q7O n (btR n v F 0 J)) (λJ=>n-J) 0 (zD _) ?_ ?_
 ·refine LeW [] rfl rfl ?_ ?_ (by simp [q0j,q0b,win]) ?_
  ·exact Ow
  ·exact wfB (q1L Oq)
  ·try simp -implicitDefEqProofs (disch:=omega) only [go_sem,Nat.reduceEqDiff,Nat.reduceAdd,↓reduceIte];first | done | rfl
 ·intro J hJ
  by_cases hlt:J < n
  ·have hlt':(J:Int) < n:=by omega
   have g1:=hg J Oq;have g2:=hg (J+1) Oq;have oJ:=hos J;have ww:IntKind.i64.wrap ((J:Int)+1)=((J+1:Nat):Int):=by rw [i64_in (by omega) (by omega)]; omega
   have hZ:=λk x=>q58 (f:=F) (j:=J) (i:=n) (k:=k) (x:=x);have hEs:=λi=>qr6 (F:=F) (n:=n) (v:=v) (i:=i) (j:=J);have hEb:=λi=>qcW h hv (i:=i) hlt;obtain ⟨L,hL⟩:∃ L,L=tZ F J n:=⟨_,rfl⟩;have hLn:L.length<=n:=by rw [hL]; unfold tZ; exact zR (List.length_filterMap_le _ _) (by simp)
   have hixJ:=hix J;rw [<- hL] at oJ hZ hixJ hEs;clear hL;have hLv:∀ e ∈ L,(e.2 < 18446744073709551616/\q0I e.2)/\e.1 < n:=λe he=>by
    obtain ⟨q1,q2⟩:=(hZ e.1 e.2).1 he;exact ⟨⟨h.u J e.1 e.2 hlt q1 q2,h.v J e.1 e.2 hlt q1 q2⟩,q1⟩
   have hTb:=λi=>qyA (n:=n) (i:=i) hv (L:=L) λe he=>(hLv e he).1.2;refine wk1 (x2 hlt' g1) ?_;refine q0P (λi:Nat=>i<=n) [2,3,5,6,18,19,23] [2,3] Lk Lk (λi=>[(24,iv i)]) (λ_=>[]) (λi=>q7O n (btR n v F i J)) (λi=>n-i) 0 (zD _) ?_ ?_
   ·refine LeW [] rfl rfl ?_ ?_ (by simp [q0j,q0b,win]) ?_
    ·exact Ow
    ·exact wfB (q1L Oq)
    ·try simp -implicitDefEqProofs (disch:=omega) only [go_sem,Nat.reduceEqDiff,Nat.reduceAdd,↓reduceIte];first | done | rfl
   ·intro i hi
    by_cases hlti:i < n
    ·have hli':(i:Int) < n:=by omega
     have hTbi:=hTb i;have hEsi:=hEs i;have hEbi:=hEb i;have hpsh:=btR_s (n:=n) (v:=v) (F:=F) (i:=i) (J:=J);have hrl:=qh0 (n:=n) (v:=v) (F:=F) (i:=i) (J:=J) (r:=i);have hpj:=λj hj=>hpi i j hlti hj;have hO1:=qn2 (i:=i) (j:=J);have hO2:=qh1 (i:=i) (j:=J);have hOe:=show btO i J=if i=J then [q2T] else [] from rfl
     have hTe:=λe=>show btT n v i e = -(q1P (v.getD (e.1*n+i) 0) e.2) from rfl;generalize btE n v F i J=E at *;generalize btR n v F i J=rows at *;generalize btO i J=z at *;generalize btT n v i=T at *;have hdy:q0U E:=by unfold q0U; omega
     refine wk1 hli' ?_;refine qsj λK hK=>?_;have fin:∀ (s:Nat->PV) (h:Hp),Le (λ_=>False) s h (stM [(2,.pt 2 0 0),(3,.pt 3 0 0),(5,.ow 5000 none 0 n),(6,iv J),(7,iv i),(8,.ow 1003 (some 4) 0 z.length),(18,iv n),(19,iv J),(23,iv n),(24,iv i)] []) (q0y (q7O n rows) (hpM [(2,⟨27,some 5,[.ag [iv n,iv n,pI st,pI ix,pF vl]],false⟩),(3,⟨31,some 3,[.ag [iv n,iv n,pF v]],false⟩),(1003,⟨48,some 4,z.map λV=>pV V,false⟩)] []))->K s h:=by
      intro s h hl;refine hK _ _ (q1D hl ?_); clear hK K hl;refine wk1 g1 ?_;refine q0P (λt:Nat=>t<=L.length) [2,3,5,6,7,18,19,23,24] [2,3] Lk Lk (λt=>[(9,iv ((o J+t:Nat):Int)),(8,.ow 1001 (some 4) 0 (z.length+t))]) (λt=>[(1001,⟨48,some 4,(z ++ (L.take t).map T).map λV=>pV V,false⟩)]) (λ_=>q7O n rows) (λt=>L.length-t) 0 (zD _) ?_ ?_
      ·refine LeW [(1001,some 1003)] rfl rfl ?_ ?_ (by simp [q0j,q0b,win]) ?_
       ·exact Ow
       ·exact wfB (q1L Oq)
       ·try refine Zz ?_
        exact q0F rfl clV
      ·intro t ht;have htl:(z ++ (L.take t).map T).length=z.length+t:=by rw [yH,zJ,z7]; omega
       by_cases hlt2:t < L.length
       ·obtain ⟨⟨k,x⟩,e1,e2,e3⟩:=hixJ (o J+t) Oq Oq Oq;rw [Nat.add_sub_cancel_left] at e1;dsimp only at e2 e3;obtain ⟨⟨v1,v2⟩,hin⟩:=hLv (k,x) (zC e1);dsimp only at v1 v2 hin;have hq:((o J+t:Nat):Int) < ((o (J+1):Nat):Int):=by omega
        obtain ⟨w1,w2,y,hy⟩:=hpj k hin;obtain ⟨y1,y2⟩:=hv y (zC hy);have C1:=q4t v1 (q0T v2);have C2:=q4t y1 (q0T y2);have M:=q0m y2 v2;have C3:=q7D (q2c y2) (q2c v2) M.1;have hmd:=(q3t M.1).2.2.2;have C4:=q2C (q9f hmd) (by unfold q0U at *; rw [zZ]; exact hmd);have N4:=q1T (V := -(q1P y x));have hob:=(zN.1 e2).1;have wt:IntKind.i64.wrap (((o J+t:Nat):Int)+1)=((o J+(t+1):Nat):Int):=by rw [i64_in (by omega) (by omega)]; omega
        have es:z ++ (L.take (t+1)).map T=z ++ (L.take t).map T ++ [-(q1P y x)]:=by
         rw [q1p e1,zF,<- yW,yB,hTe];dsimp only;rw [getD_some hy]
        generalize z ++ (L.take t).map T=P at *;generalize k*n=kn at *;refine wk1 (x6 g2 ww hq e2 e3 (x5 w1 w2 hy wt htl)) ?_;refine ⟨t+1,by omega,by omega,?_⟩;rw [es];refine LeW [(1001,some 75)] rfl rfl ?_ ?_ (by simp [q0j,q0b,win]) ?_
        ·exact Ow
        ·exact wfB (q1L Oq)
        ·try refine Zz ?_
         exact ⟨by omega,q0F (by rw [zF]; rfl) clV⟩
       ·obtain rfl:t=L.length:=by omega
        have hq:¬ ((o J+L.length:Nat):Int) < ((o (J+1):Nat):Int):=by omega
        rw [zX] at htl ⊢;have hPb:∀ y ∈ z ++ L.map T,q0U y:=λy hy=>by
         rcases uS.1 hy with hy | hy
         ·have:=hO1 y hy; unfold q0U; omega
         ·have:=hTbi y hy; unfold q0U; omega
        generalize z ++ L.map T=P at *;have C1:=q2C (q7B (l:=P) (by omega) hPb (by rw [hEsi]; exact hdy)) (by rw [hEsi]; exact hdy);rw [hEsi] at C1;have C2:=q2C (qnd qhX λho=>qeA (A:=E) ho) (qnC hdy);have N2:=q1T (V:=(E.natAbs:Int));have N1:=q1T (V:=E);have hr1:(List.range n)[i]?=some i:=zB hlti;refine wk1 (x5 g2 ww hq htl hr1) ?_;refine ⟨i+1,by omega,by omega,?_⟩;rw [hpsh];unfold q7O;rw [<- qgu];refine q7N (r:=86) (k:=i) (row:=qew rows) (λ_ h=>h) hlti clV ?_ ?_ (λi h1 h2 h3 h4=>?_) (λ_ _=>clV) BOk.h0 (.inl (by omega)) (by omega) (by omega) (by omega) (by simp [nmW]) ?_
        ·try simp -implicitDefEqProofs (disch:=omega) only [go_sem,Nat.reduceEqDiff,Nat.reduceAdd,↓reduceIte]
        ·try refine Zz ?_
         rw [zF]
         rfl
        ·rw [q0A h2,q0A h4,q0A h3,q0A (by obtain ⟨w1,w2⟩:=h1; omega),q0W h1]
        ·try refine Zz ?_
         omega
     by_cases hij:i=J
     ·have q3:((i:Int) == (J:Int))=true:=by simp; omega
      rw [if_pos hij] at hOe;subst hOe;have C1:=q2C qdx (by have:=q4g; unfold q0U; omega);have N1:=q1T (V:=q2T);refine wk1 q3 ?_;refine fin _ _ ?_;refine LeW [(1003,some 33)] rfl rfl ?_ ?_ (by simp [q0j,q0b,win]) ?_
      ·exact Ow
      ·exact wfB (q1L Oq)
      ·try simp -implicitDefEqProofs (disch:=omega) only [go_sem,Nat.reduceEqDiff,Nat.reduceAdd,↓reduceIte]
     ·have q3:((i:Int) == (J:Int))=false:=by simp; omega
      rw [if_neg hij] at hOe;subst hOe;refine wk1 q3 ?_;refine fin _ _ ?_;refine LeW [(1003,none)] rfl rfl ?_ ?_ (by simp [q0j,q0b,win]) ?_
      ·exact Ow
      ·exact wfB (q1L Oq)
      ·try simp -implicitDefEqProofs (disch:=omega) only [go_sem,Nat.reduceEqDiff,Nat.reduceAdd,↓reduceIte]
    ·obtain rfl:i=n:=by omega
     have hli':¬ (i:Int) < i:=by omega
     refine wk1 (x2 hli' ww) ?_;refine ⟨J+1,by omega,by omega,?_⟩;rw [<- btR_n];refine LeW [] rfl rfl ?_ ?_ (by simp [q0j,q0b,win]) ?_
     ·exact Ow
     ·exact wfB (q1L Oq)
     ·try simp -implicitDefEqProofs (disch:=omega) only [go_sem,Nat.reduceEqDiff,Nat.reduceAdd,↓reduceIte]
      first | done | omega
  ·obtain rfl:J=n:=by omega
   have hlt':¬ (J:Int) < J:=by omega
   have hrs:=λi=>qr3 (n:=J) (v:=v) (F:=F) (i:=i);have hrl:=λi=>qh0 (n:=J) (v:=v) (F:=F) (i:=0) (J:=J) (r:=i);have hrb:∀ i,i < J->∀ z ∈ btR J v F 0 J i,q0U z:=λi _ z hz=>by
    unfold btR at hz;rw [if_neg (by omega)] at hz;obtain ⟨j,hj,rfl⟩:=zH.1 hz;have:=qcW h hv (i:=i) (uR.1 hj);unfold q0U;rw [zE];omega
   generalize btR J v F 0 J=rows at *;have hwl:=λm=>q7X (n:=J) (g:=λr=>pV (btZ J v F r)) (m:=m);have hws:=λm=>qpD (n:=J) (g:=λr=>pV (btZ J v F r)) (m:=m);have hwc:=λm=>q1i (n:=J) (g:=λr=>pV (btZ J v F r)) (m:=m) λc=>trivial;clear hfin hg hix hos;refine wk1 hlt' ?_;refine q0P (λr=>r<=J) [93,94] [] Lk Lk (λr:Nat=>[(95,iv r),(11,.ow 1001 (some 4) 0 J)]) (λr=>[(1001,⟨48,some 4,rwP J (λr=>pV (btZ J v F r)) r,false⟩)]) (λ_=>q7O J rows) (λr=>J-r) 0 (zD _) ?_ ?_
   ·refine LeW [(1001,some 92)] rfl rfl ?_ ?_ (by simp [q0j,q0b,win]) ?_
    ·exact Ow
    ·exact wfB (q1L Oq)
    ·try refine Zz ?_
     exact ⟨rfl,qaw (by simp)⟩
   ·intro r hr
    by_cases hlt2:r < J
    ·have q2:(r:Int) < J:=by omega
     have hr1:(List.range J)[r]?=some r:=zB hlt2;have hd:q0U (btZ J v F r):=by have:=hZb r; unfold q0U; omega
     have C2:=q2C (q7B (l:=rows r) (by have:=hrl r; omega) (λz hz=>hrb r hlt2 z hz) (by rw [hrs r]; exact hd)) (by rw [hrs r]; exact hd);rw [hrs r] at C2;have N2:=q1T (V:=btZ J v F r);have hli:=hrl r;have e1:=hws r;have e2:=hwl r;have e3:=hwc r;generalize rwP J (λr=>pV (btZ J v F r)) r=W at *;refine wk1 (x3 q2 hr1 e2) ?_;refine ⟨r+1,by omega,by omega,?_⟩;rw [<- e1];refine LeW [] rfl rfl ?_ ?_ (by simp [q0j,q0b,win]) ?_
     ·exact Ow
     ·exact wfB (q1L Oq)
     ·try refine Zz ?_
      exact ⟨by omega,q0F rfl (q4n e3 trivial)⟩
    ·obtain rfl:r=J:=by omega
     have q2:¬ (r:Int) < r:=by omega
     refine wk1 (x3 q2 (hwl r) (hwc r)) ?_;exact zM (Nat.le_of_eq (hwl r))
end
section
variable {F:Nat->Nat->Option Nat} {n R C r c:Nat} {v:List Nat}
def btP (n:Nat) (v:List Nat) (F:Nat->Nat->Option Nat) (i j k:Nat):List Int:=btO i j ++ (List.range k).map λk => -(btD n v F i j k)
def qr4 {i j:Nat}:q1M (btP n v F i j n)=btE n v F i j:=by
 unfold btP;rw [qbP,qb0];have:∀ m,sg (λk => -(btD n v F i j k)) m = -(sg (btD n v F i j) m):=λm=>by
  induction m with
  | zero=>rfl
  | succ m ih=>rw [sg,sg,ih]; omega
 rw [this];unfold btO btE
 split
 ·rw [q22]; omega
 ·rw [q3D]; omega
def qr5 {i j k:Nat}:(btP n v F i j k).length=(btO i j).length+k:=by unfold btP; simp
def btP_s {i j k:Nat}:btP n v F i j (k+1)=btP n v F i j k ++ [-(btD n v F i j k)]:=by unfold btP; rw [yE,zF,yW]; rfl
open Classical in
def qiO (h:TOk F R C) (hR:R<=20) (hC:C<=20) (hr:r<=64) (hc:c<=64) (hn:v.length<=1000000) (hv:∀ x ∈ v,x < 18446744073709551616):ACt 17 [pT R C F,pPn r c v] (.tu [pVs (btA R C F r c v).1,iv (btA R C F r c v).2]):=by
 have C1:=q9s h;have C2:=qiN hr hc hn hv;have key:chP r c v=0->v.length=r*c/\q03 v:=λq=>chP_0 q hv;have cA:∀ {i j:Nat},i < R->j < C->_:=λ{i j} hi hj=>q6a (i:=i) (j:=j) h hi hj;have hfi:∀ {i j:Nat},i < R->j < C->_:=λ{i j} hi hj=>h.fin (j:=j) (i:=i) hj hi;have cV:=λ(h1:r=R) (h2:c=C) (h3:v.length=r*c) (h4:q03 v) i j hi hj=>q8W (i:=i) (j:=j) hr hc h3 h4 hi hj;obtain ⟨res,hres⟩:∃ res,res=btA R C F r c v:=⟨_,rfl⟩;rw [<- hres];unfold btA btC at hres;have hT:ACt 62 [pT R C F] (iv 0):=C1;have hEb:=λ(h3:q03 v) (hRC:TOk F R R) i j hj=>qcW hRC h3 (i:=i) (j:=j) hj;unfold pT q2F pPn at *;generalize chP r c v=e at *;generalize (tM F R C).1=st at *;generalize (tM F R C).2.1=ix at *;generalize (tM F R C).2.2=vl at *
 by_cases h1:R=C
 rotate_left
 ·rw [if_pos h1,if_pos (show (5:Int)≠0 by decide)] at hres;subst hres;have q1:((R:Int) != (C:Int))=true:=by simp; omega
  refine ac0 Tryz.func17 Tryz.ntmps17 [.tmp 4,.tmp 5] ?_;exact wk1 q1 trivial
 have q1:((R:Int) != (C:Int))=false:=by simp; omega
 rw [if_neg (not_not_intro h1)] at hres
 by_cases h2:e=0
 rotate_left
 ·rw [if_pos h2,if_pos h2] at hres;subst hres;have q2:(e != 0)=true:=by simpa using h2
  refine ac0 Tryz.func17 Tryz.ntmps17 [.tmp 4,.tmp 5] ?_;exact wk1 (x2 q1 q2) trivial
 obtain ⟨hvl,hvf⟩:=key h2;clear key;subst h2;rw [if_neg (show ¬ (0:Int)≠0 by decide)] at hres
 by_cases h3:r=R
 rotate_left
 ·rw [if_pos (show r≠R\/c≠C from .inl h3),if_pos (show (5:Int)≠0 by decide)] at hres;subst hres;have q3:((r:Int) != (R:Int))=true:=by simp; omega
  refine ac0 Tryz.func17 Tryz.ntmps17 [.tmp 4,.tmp 5] ?_;exact wk1 (x2 q1 q3) trivial
 have q3:((r:Int) != (R:Int))=false:=by simp; omega
 by_cases h4:c=C
 rotate_left
 ·have q4:((c:Int) != (R:Int))=true:=by simp; omega
  rw [if_pos (show r≠R\/c≠C from .inr h4),if_pos (show (5:Int)≠0 by decide)] at hres;subst hres;refine ac0 Tryz.func17 Tryz.ntmps17 [.tmp 4,.tmp 5] ?_;exact wk1 (x3 q1 q3 q4) trivial
 have q4:((c:Int) != (R:Int))=false:=by simp; omega
 rw [if_neg (show ¬ (r≠R\/c≠C) by omega),if_neg (show ¬ (0:Int)≠0 by decide)] at hres;subst hres;subst h1 h3;obtain rfl:r=c:=h4.symm;replace cV:=cV rfl rfl hvl hvf;replace hEb:=hEb hvf h;have hZb:=λi=>q9T h hvf (i:=i);have C5:=qdu;have N5:=q1T (V:=q2T);have N0:=q1T (V:=0);have hl:(btL r v F).length=r:=q5i;have hlg:∀ i,i < r->(btL r v F)[i]?=some (sg (λj=>((btE r v F i j).natAbs:Int)) r):=λi hi=>q44 hi;have hs0:=λi=>show sg (λj=>((btE r v F i j).natAbs:Int)) 0=0 from rfl;have hss:=λi j=>show sg (λj=>((btE r v F i j).natAbs:Int)) (j+1)=sg (λj=>((btE r v F i j).natAbs:Int)) j+((btE r v F i j).natAbs:Int) from rfl;have hsb:=λi j (hj:j<=r)=>q8h (g:=λj=>((btE r v F i j).natAbs:Int)) (K:=67596) j (by omega) λk hk=>by rw [zE]; exact hEb i k (by omega)
 dsimp only;generalize btL r v F=Bl at *;refine ac0 Tryz.func17 Tryz.ntmps17 [.tmp 4,.tmp 5] ?_;refine wk1 (x3 q1 q3 q4) ?_;refine q0B (λi=>i<=r) [2,3,7] [2,3] Lk Lk (λi:Nat=>[(10,iv i),(9,.ow 1001 (some 4) 0 i)]) (λi=>[(1001,⟨48,some 4,(Bl.take i).map λV=>pV V,false⟩)]) (λi=>r-i) 0 (zD _) ?_ ?_
 ·refine LeM [(1001,none)] rfl rfl ?_;refine Zz ?_
  first | done | rfl | exact ⟨rfl,rfl⟩
 ·intro i hi;have ll:(Bl.take i).length=i:=by rw [z7]; omega
  by_cases hlt:i < r
  ·have l1:(i:Int) < r:=by omega
   have g0:=hs0 i;have g1:=hss i;have g2:=hsb i;have gg:=hlg i hlt;generalize hS:sg (λj=>((btE r v F i j).natAbs:Int))=S at *;clear hS hs0 hss hsb hlg;refine wk1 l1 ?_;refine q0B (λj=>j<=r) [2,3,7,9,10,11] [2,3,1001] Lk Lk (λj:Nat=>[(12,iv j)]) (λj=>[(11,⟨48,some 4,[pV (S j)],false⟩)]) (λj=>r-j) 0 (zD _) ?_ ?_
   ·refine LeM [] rfl rfl ?_;refine Zz ?_;rw [g0];exact ⟨rfl,qhq rfl,q0F rfl clV⟩
   ·intro j hj
    by_cases hlt2:j < r
    ·have l2:(j:Int) < r:=by omega
     have hPl:=λk=>qr5 (n:=r) (v:=v) (F:=F) (i:=i) (j:=j) (k:=k);have hPs:=λk=>btP_s (n:=r) (v:=v) (F:=F) (i:=i) (j:=j) (k:=k);have hPe:=qr4 (n:=r) (v:=v) (F:=F) (i:=i) (j:=j);have hP0:btP r v F i j 0=btO i j:=by unfold btP; simp
     have hO1:=qn2 (i:=i) (j:=j);have hO2:=qh1 (i:=i) (j:=j);have hOe:=show btO i j=if i=j then [q2T] else [] from rfl
     have hD:=λk=>show btD r v F i j k=q1P (v.getD (k*r+i) 0) ((F j k).getD 0) from rfl;have hEbi:=hEb i j hlt2;have hPd:∀ z ∈ btP r v F i j r,q0U z:=λz hz=>by
      unfold btP at hz
      rcases uS.1 hz with hz | hz
      ·have:=hO1 z hz; unfold q0U; omega
      ·obtain ⟨k,hk,rfl⟩:=zH.1 hz;have:=qn3 h hvf (i:=i) hlt2 (uR.1 hk);unfold q0U; rw [zZ]; omega
     have e1:=g1 j;have e2:=g2 (j+1) Oq;generalize btE r v F i j=E at *;generalize btP r v F i j=P at *;generalize btO i j=z at *;have hdy:q0U E:=by unfold q0U; omega
     refine wk1 l2 ?_;refine qsj λK hK=>?_;have fin:∀ (s:Nat->PV) (h:Hp),Le (λ_=>False) s h (stM [(2,.pt 2 0 0),(3,.pt 3 0 0),(7,iv r),(9,.ow 1001 (some 4) 0 i),(10,iv i),(11,.pt 11 0 0),(12,iv j),(13,.ow 1003 (some 4) 0 z.length)] []) (hpM [(2,⟨27,some 5,[.ag [iv r,iv r,pI st,pI ix,pF vl]],false⟩),(3,⟨31,some 3,[.ag [iv r,iv r,pF v]],false⟩),(1001,⟨48,some 4,(Bl.take i).map λV=>pV V,false⟩),(11,⟨48,some 4,[pV (S j)],false⟩),(1003,⟨48,some 4,z.map λV=>pV V,false⟩)] [])->K s h:=by
      intro s h hl;refine hK _ _ (q1D hl ?_); clear hK K hl;refine wk ?_;refine q0B (λk=>k<=r) [2,3,7,9,10,11,12] [2,3,11,1001] Lk Lk (λk:Nat=>[(14,iv k),(13,.ow 1002 (some 4) 0 (z.length+k))]) (λk=>[(1002,⟨48,some 4,(P k).map λV=>pV V,false⟩)]) (λk=>r-k) 0 (zD _) ?_ ?_
      ·refine LeM [(1002,some 1003)] rfl rfl ?_;refine Zz ?_;rw [hP0];exact ⟨rfl,q0F rfl clV,q0F rfl clV⟩
      ·intro k hk;have hln:=hPl k
       by_cases hlt3:k < r
       ·have l3:(k:Int) < r:=by omega
        have C6:=cV i k hlt hlt3;have C7:=cA hlt3 hlt2;obtain ⟨xf,xu⟩:=hfi hlt3 hlt2;have es:=hPs k;rw [hD k] at es;obtain ⟨y1,y2⟩:=q0c hvf (i:=k*r+i);generalize v.getD (k*r+i) 0=y at *;generalize (F j k).getD 0=x at *;have C8:=q0w xu (q0T xf);have M:=q0m y2 xf;have C9:=q2m M.1;have C10:=@q4j;have N6:=q1T (V:=ofZ y);have N7:=q1T (V := -(q1P y x));refine wk1 (x2 l3 hln) ?_;refine ⟨k+1,by omega,by omega,?_⟩;rw [es];refine LeM [(1002,some 77)] rfl rfl ?_;refine Zz ?_;exact ⟨⟨by omega,by omega⟩,q0F (by rw [zF]; rfl) clV,q0F rfl clV⟩
       ·obtain rfl:k=r:=by omega
        have l3:¬ (k:Int) < k:=by omega
        have C6:=q3e (l:=P k) (by omega) (by rw [hPe]; exact hdy);rw [hPe] at C6;have C7:=q6F (V:=E);have C8:=q4k (A:=S j) (B:=(E.natAbs:Int)) (by rw [<- e1]; unfold q0U; omega);rw [<- e1] at C8;have N8:=q1T (V:=E);have N9:=q1T (V:=(E.natAbs:Int));have N10:=q1T (V:=S (j+1));refine wk1 (x2 l3 hln) ?_;refine ⟨j+1,by omega,by omega,?_⟩;refine LeM [] rfl rfl ?_;refine Zz ?_
        first | exact ⟨by omega,q0F rfl clV⟩
     by_cases hij:i=j
     ·have q5:((i:Int) == (j:Int))=true:=by simp; omega
      rw [if_pos hij] at hOe;subst hOe;refine wk1 q5 ?_;refine fin _ _ ?_;refine LeM [(1003,some 58)] rfl rfl ?_
      try refine Zz ?_
      exact q0F rfl clV
     ·have q5:((i:Int) == (j:Int))=false:=by simp; omega
      rw [if_neg hij] at hOe;subst hOe;refine wk1 q5 ?_;refine fin _ _ ?_;refine LeM [(1003,none)] rfl rfl ?_
      try refine Zz ?_
      exact q0F rfl clV
    ·obtain rfl:j=r:=by omega
     have l2:¬ (j:Int) < j:=by omega
     have es:=q1p gg;have N2:=q1T (V:=S j);refine wk1 (x2 l2 ll) ?_;refine ⟨i+1,by omega,by omega,?_⟩;rw [es];refine LeM [(1001,some 86)] rfl rfl ?_;refine Zz ?_;exact ⟨by omega,q0F (by rw [zF]; rfl) clV⟩
  ·obtain rfl:i=r:=by omega
   have l1:¬ (i:Int) < i:=by omega
   rw [<- hl,zX];exact wk1 (x2 l1 hl) trivial
end
def ac_2x {f:FuncId} {V U:Int} {x r:PV} (hc:q0J Tryz.prog f=true) (ha:q0U V/\q0U U->ACt f [dT V,dT U,x] r):ACt f [pV V,pV U,x] r:=q4w hc (λD w vs hR=>by
 obtain ⟨a,b,c,rfl,h1,h2,h3⟩:=rd_3 hR;obtain ⟨h4,h5⟩:=q2d.2 (qaC h1);obtain ⟨h6,h7⟩:=q2d.2 (qaC h2);refine ⟨?_,h5,h7⟩;unfold RdL;refine ⟨_,_,rfl,h4,?_⟩;unfold RdL;exact ⟨_,_,rfl,h6,RdL.one h3⟩) ha
section
variable {F:Nat->Nat->Option Nat} {n R C r c:Nat} {v:List Nat} {f P:Int}
end
section
variable {f:Nat->Nat->Option Nat} {y:List Nat} {R C J:Nat} {rows:Nat->List Int}
end
section
variable {f:Nat->Nat->Option Nat} {y:List Nat} {R C:Nat}
end
def qdt {l:List Nat} (hn:l.length<=1000):ACt 312 [pF l] (pP (l.map λv=>(v,0))):=by
 refine ac0 Tryz.func312 Tryz.ntmps312 [.tmp 2] ?_;refine wk ?_;refine q0B (λi=>i<=l.length) [0] [] Lk Lk (λi:Nat=>[(4,iv i),(3,.ow 1001 (some 2) 0 i)]) (λi=>[(1001,⟨272,some 2,((l.take i).map λv=>(v,0)).map λp:Nat × Nat=>.ag [uv p.1,uv p.2],false⟩)]) (λi=>l.length-i) 0 (zD _) ?_ ?_
 ·refine LeM [(1001,none)] rfl rfl ?_;refine Zz ?_
  rfl
 ·intro i hi;have htl:(l.take i).length=i:=by rw [z7]; omega
  by_cases hlt:i < l.length
  ·obtain ⟨x,hx⟩:∃ x,l[i]?=some x:=⟨_,zA hlt⟩;have e:((l.take (i+1)).map λv=>(v,0)).map (λp:Nat × Nat=>PV.ag [uv p.1,uv p.2])=((l.take i).map λv=>(v,0)).map (λp:Nat × Nat=>PV.ag [uv p.1,uv p.2]) ++ [.ag [uv x,uv (0:Nat)]]:=by rw [q1p hx,zF,zF]; rfl
   refine wk1 (x2 hx htl) ?_;refine ⟨i+1,by omega,by omega,?_⟩;rw [e];refine LeM [(1001,some 18)] rfl rfl ?_;refine Zz ?_;exact ⟨by omega,q0F rfl (by rw [<- e]; exact qtI)⟩
  ·obtain rfl:i=l.length:=by omega
   rw [zX];refine wk1 @qtI ?_;exact zM (by simp)
def rpL (f:Nat->Nat->Option Nat) (x:List (Nat × Nat)) (b:List Nat) (r:Nat):Nat->List Int
 | 0=>[ofZ (b.getD r 0)]
 | j+1=>rpL f x b r j ++ [-(q1P ((f j r).getD 0) (x.getD j (0,0)).1),-(q1P ((f j r).getD 0) (x.getD j (0,0)).2)]
section
variable {f:Nat->Nat->Option Nat} {x:List (Nat × Nat)} {b:List Nat} {R C r:Nat}
def qev:∀ j,(rpL f x b r j).length=2*j+1
 | 0=>rfl
 | j+1=>by rw [rpL,yH,qev j]; simp; omega
def qeu:∀ j,q1M (rpL f x b r j)=rdZ f x b j r
 | 0=>by unfold rpL rdZ; rw [q22,sg]; omega
 | j+1=>by
  have:rpL f x b r (j+1)=(rpL f x b r j ++ [-(q1P ((f j r).getD 0) (x.getD j (0,0)).1)]) ++ [-(q1P ((f j r).getD 0) (x.getD j (0,0)).2)]:=by rw [rpL,yW]; rfl
  rw [this,q0l,q0l,qeu j];unfold rdZ;rw [sg];unfold q7e;omega
def qmW (hx:qtG x) (hxl:x.length=C) (h:TOk f R C) (hr:r < R) (hb:q03 b):∀ j,j<=C->∀ z ∈ rpL f x b r j,bl z.natAbs<=67600
 | 0,_,z,hz=>by unfold rpL at hz; simp at hz; subst hz; exact q13 (q9E hb).2
 | j+1,hj,z,hz=>by
  unfold rpL at hz
  rcases uS.1 hz with hz | hz
  ·exact qmW hx hxl h hr hb j Oq z hz
  ·obtain ⟨p,hp⟩:∃ p,x[j]?=some p:=⟨_,zA Oq⟩;have hgp:x.getD j (0,0)=p:=by rw [uT,hp]; rfl
   obtain ⟨⟨_,p2⟩,_,p4⟩:=hx p (zC hp);have hv:=h.fin (j:=j) (i:=r) Oq hr;rw [hgp] at hz;simp at hz
   rcases hz with rfl | rfl
   ·rw [zZ]; exact (q0m hv.1 p2).2
   ·rw [zZ]; exact (q0m hv.1 p4).2
def qtV (h:TOk f R C) (hR:R<=20) (hC:C<=20) (hx:qtG x) (hxl:x.length=C) (hb:q03 b) (hbl:b.length=R):ACt 313 [pT R C f,pP x,pF b] (if ∀ v ∈ rdL f x b C R,q0I v then .tu [pF (rdL f x b C R),bv true] else .tu [pF [],bv false]):=by
 have cA:∀ {i j:Nat},i < R->j < C->_:=λ{i j} hi hj=>q6a (i:=i) (j:=j) h hi hj;have hfi:∀ {i j:Nat},i < R->j < C->_:=λ{i j} hi hj=>h.fin (j:=j) (i:=i) hj hi;have hbd:=λr (hr:r < R)=>qmW hx hxl h hr hb;have hsm:=λr=>qeu (f:=f) (x:=x) (b:=b) (r:=r) C;have hln:=λr j=>qev (f:=f) (x:=x) (b:=b) (r:=r) j;have hst:=λr j=>show rpL f x b r (j+1)=rpL f x b r j ++ [-(q1P ((f j r).getD 0) (x.getD j (0,0)).1),-(q1P ((f j r).getD 0) (x.getD j (0,0)).2)] from rfl;have hs0:=λr=>show rpL f x b r 0=[ofZ (b.getD r 0)] from rfl;obtain ⟨g,hg⟩:∃ g:Nat->Nat,g=λr=>fR 0 (rdZ f x b C r):=⟨_,rfl⟩;have hgk:=λk=>congrFun hg k;have hle:rdL f x b C R=rwG R g R:=by
  unfold rdL rwG;rw [hg];exact zW λk hk=>by rw [if_pos (uR.1 hk)]
 have hrl:=λm=>q7Y (n:=R) (g:=g) (m:=m);have hrs:=λm=>qpF (n:=R) (g:=g) (m:=m);have hrg:=λm i hi=>qpG (n:=R) (g:=g) (m:=m) (i:=i) hi;have hr0:=qpH (n:=R) (g:=g);rw [hle];generalize rwG R g=rw0 at *;generalize rdZ f x b C=Z at *;generalize rpL f x b=P at *;unfold pT q2F at *;generalize (tM f R C).1=st at *;generalize (tM f R C).2.1=ix at *;generalize (tM f R C).2.2=vl at *;clear hg hle;refine ac0 Tryz.func313 Tryz.ntmps313 [.tmp 6,.tmp 7] ?_;refine wk1 hbl ?_;refine q0B (λi=>i<=R/\∀ k,k < i->q0I (g k)) [1,2,3] [3] Lk Lk (λi:Nat=>[(9,iv i),(8,.ow 1001 none 0 R)]) (λi=>[(1001,⟨33,none,(rw0 i).map λz:Nat=>uv z,false⟩)]) (λi=>R-i) 0 ⟨zD _,λ_ h=>by omega⟩ ?_ ?_
 ·refine LeM [(1001,some 15)] rfl rfl ?_;refine Zz ?_;exact ⟨rfl,hr0⟩
 ·rintro i ⟨hi,hgf⟩
  by_cases hlt:i < R
  ·have hlb:(i:Int) < R:=by omega
   obtain ⟨y,hy⟩:∃ y,b[i]?=some y:=⟨_,zA Oq⟩;obtain ⟨u1,u2⟩:=hb y (zC hy);have C1:=q0w u1 (q0T u2);have h0:=hs0 i;rw [getD_some hy] at h0;refine wk1 (x3 hlb hbl hy) ?_;refine q0B (λj=>j<=C) [1,2,3,8,9] [3,1001] Lk Lk (λj:Nat=>[(11,iv j),(10,.ow 1002 (some 4) 0 (2*j+1))]) (λj=>[(1002,⟨48,some 4,(P i j).map λV=>pV V,false⟩)]) (λj=>C-j) 0 (zD _) ?_ ?_
   ·refine LeM [(1002,some 27)] rfl rfl ?_;refine Zz ?_;rw [h0];exact ⟨rfl,q0F rfl clV⟩
   ·intro j hj;have hlj:=hln i j
    by_cases hlt2:j < C
    ·have hl2:(j:Int) < C:=by omega
     obtain ⟨p,hp⟩:∃ p,x[j]?=some p:=⟨_,zA Oq⟩;have hgp:x.getD j (0,0)=p:=by rw [uT,hp]; rfl
     obtain ⟨⟨p1,p2⟩,p3,p4⟩:=hx p (zC hp);have C2:=cA hlt hlt2;obtain ⟨v2,v1⟩:=hfi hlt hlt2;have hs:=hst i j;rw [hgp] at hs;generalize (f j i).getD 0=v at *;have C3:=q1o v1 p1 (q0T v2) (q0T p2) (q0m v2 p2).1;have C4:=q1o v1 p3 (q0T v2) (q0T p4) (q0m v2 p4).1;have C5:=@q4j;refine wk1 (x4 hl2 hxl hp hlj) ?_;refine ⟨j+1,by omega,by omega,?_⟩;rw [hs];refine LeM [(1002,some 56)] rfl rfl ?_;refine Zz ?_;exact ⟨⟨by omega,by omega⟩,q0F (by rw [zF]; rfl) clV⟩
    ·obtain rfl:j=C:=by omega
     have hl2:¬ (j:Int) < j:=by omega
     have hd:=qe2 (hbd i hlt j (zL _)) Oq;have C2:=q3e (l:=P i j) Oq hd;rw [hsm i] at C2;have N2:=q1T (V:=Z i);have C3:=q46 (A:=Z i);rw [<- hgk i] at C3;have hgl:g i < 18446744073709551616:=by rw [hgk]; exact q4E
     have C5:=q14 hgl;have e1:=hrs i;have e3:(((rw0 i).map λz:Nat=>uv z).set i (uv (g i:Nat)))[i]?=some (uv (g i:Nat)):=yX (by rw [zJ,hrl]; exact hlt)
     by_cases hf:q0I (g i)
     ·rw [decide_eq_true hf] at C5;refine wk1 (x5 hl2 hxl hlj (hrl i) e3) ?_;refine ⟨i+1,⟨by omega,λk hk=>?_⟩,by omega,?_⟩
      ·rcases Nat.lt_succ_iff_lt_or_eq.1 hk with h | rfl
       ·exact hgf k h
       ·exact hf
      rw [<- e1];refine LeM [] rfl rfl ?_;refine Zz ?_;omega
     ·rw [decide_eq_false hf] at C5;rw [if_neg λh=>hf (by
       refine h (g i) (zC (i:=i) ?_);rw [hrg R i hlt,if_pos hlt])]
      exact wk1 (x5 hl2 hxl hlj (hrl i) e3) trivial
  ·obtain rfl:i=R:=by omega
   have hlb:¬ (i:Int) < i:=by omega
   rw [if_pos λz hz=>by
    obtain ⟨k,hk⟩:=yJ.1 hz;have hkl:k < i:=by have:=(zN.1 hk).1; rw [hrl] at this; exact this
    rw [hrg i k hkl,if_pos hkl] at hk;cases hk;exact hgf k hkl]
   exact wk1 (x3 hlb hbl (hrl i)) trivial
end
end Go.Proofs.YtpbaikoblfcmdaaGreatDoor
namespace Go.E
open Go Go.RowKit
def LeE {J:Nat->Prop} {h:Hp} {a n:Nat} {T:TypeId} {xs:List PV} {e:Value} (hJ:∀ i,¬ J i) (hb:h a=some ⟨T,none,xs,false⟩) (hc:ClL xs):Le J (λ_=>.tu [.ow a none 0 n,.vl e]) h (λ_=>.tu [.ow 5000 none 0 n,.vl e]) (q0Q h0 5000 ⟨T,none,xs,false⟩):=by
 refine q4U (λi=>if i=5000 then some a else none) (λi b' hb'=>?_) (λi j k b c hi hj ti tj=>?_) (λ_=>.tu rfl λi x y hx hy=>?_) λi hi=>(hJ i hi).elim
 ·by_cases hi:i=5000
  ·subst hi;rw [q0L] at hb'; cases hb';unfold LeB;exact ⟨_,hb,rfl,rfl,⟨rfl,rfl⟩,q0F rfl hc⟩
  ·rw [q0A hi] at hb'; cases hb'
 ·split at ti
  ·split at tj
   ·rename_i e1 e2; rw [e1,e2]
   ·cases tj
  ·cases ti
 ·rcases i with _ | _ | i
  ·cases hx; cases hy; exact .ow (if_pos rfl) q0L
  ·cases hx; cases hy; exact .cl trivial
  ·simp at hx
def LeEn {J:Nat->Prop} {h:Hp} {T:TypeId} {e:Value} (hJ:∀ i,¬ J i):Le J (λ_=>.tu [.vl (.slice none 0 0),.vl e]) h (λ_=>.tu [.ow 5000 none 0 0,.vl e]) (q0Q h0 5000 ⟨T,none,[],false⟩):=by
 refine q4U (λ_=>none) (λi b' hb'=>?_) (λi j k b c hi hj ti tj=>by cases ti) (λ_=>.tu rfl λi x y hx hy=>?_) λi hi=>(hJ i hi).elim
 ·by_cases hi:i=5000
  ·subst hi;rw [q0L] at hb'; cases hb'
   rfl
  ·rw [q0A hi] at hb'; cases hb'
 ·rcases i with _ | _ | i
  ·cases hx; cases hy; exact .nilow rfl q0L rfl
  ·cases hx; cases hy; exact .cl trivial
  ·simp at hx
end Go.E
namespace Go.Proofs.YtpbaikoblfcmdaaGreatDoor
open Go Go.E Go.Sp
def cLo (f:LUt) (i c:Nat):Nat:=ctV (q9a f.ls f.li f.lv c) i
def cUp (f:LUt) (i c:Nat):Nat:=ctV (q9a f.us f.ui f.uv c) i
open Classical in
noncomputable def lgE (f:LUt) (l:List Nat):List Nat × Int :=
 if qil (q6Y f) f.rows.length l≠0 then ([],qil (q6Y f) f.rows.length l) else
  match geL (cLo f) f.rows.length 0 (gaS l f.rows f.rows.length) with
  | none=>([],233)
  | some y=>match geU (cUp f) f.rows.length f.rows.length y with
   | none=>([],233)
   | some z=>(scS z f.cols f.rows.length f.rows.length,0)
def q97 (n:Nat) (g:Nat->Nat->Nat) (k:Nat):List Nat:=(List.range n).map (g k)
def qvW {n:Nat} {g:Nat->Nat->Nat} {k:Nat}:rU n g k=(q97 n g k).map λz:Nat=>uv z:=by
 unfold rU q97;rw [xX]
 rfl
def q5L {n:Nat} {g:Nat->Nat->Nat} {k c:Nat} (hc:c < n):(q97 n g k)[c]?=some (g k c):=by
 unfold q97;rw [zG,zB hc]; rfl
def q71 {n:Nat} {g:Nat->Nat->Nat} {k:Nat}:(q97 n g k).length=n:=by unfold q97; simp
def rst_L {g:Nat->Nat->Nat} {D:Nat->Nat->Nat} {n k:Nat} {ys:List Nat} (hk:k < n) (hy:ys.length=n) (h:∀ c,c < k->g k c=D k c):q1M (q8l (ofZ (ys.getD k 0)) ((q97 n g k).take k) (ys.take k) k)=loZ D ys k:=by
 rw [qeq];unfold loZ
 congr 1
 refine q5J k λi hi=>?_;have h1:((q97 n g k).take k)[i]?=some (g k i):=by rw [yS,if_pos hi]; exact q5L (by omega)
 obtain ⟨y,hy2⟩:∃ y,ys[i]?=some y:=⟨_,zA Oq⟩;have h2:(ys.take k)[i]?=some y:=by rw [yS,if_pos hi]; exact hy2
 rw [getD_some h1,getD_some h2,getD_some hy2,h i hi]
def rst_U {g:Nat->Nat->Nat} {D:Nat->Nat->Nat} {n k:Nat} {ys:List Nat} (hk:k < n) (hy:ys.length=n) (h:∀ c,c < n->g k c=D k c):q1M (q8l (ofZ (ys.getD k 0)) ((q97 n g k).drop (k+1)) (ys.drop (k+1)) (n-(k+1)))=upZ D ys n k:=by
 rw [qeq];unfold upZ
 congr 1
 refine q5J (n-(k+1)) λi hi=>?_;have h1:((q97 n g k).drop (k+1))[i]?=some (g k (k+1+i)):=by rw [xB]; exact q5L (by omega)
 obtain ⟨y,hy2⟩:∃ y,ys[k+1+i]?=some y:=⟨_,zA Oq⟩;have h2:(ys.drop (k+1))[i]?=some y:=by rw [xB]; exact hy2
 rw [getD_some h1,getD_some h2,getD_some hy2,h _ (by omega)]
def qdv {l:List Nat} {o:List Int} {n:Nat} (hl:l.length=n) (ho:o.length=n) (hn:n<=1000000) (hb:∀ x ∈ o,0<=x/\x < n):qdi 123 [pF l,pI o] h0 (.ow 5000 none 0 n) (q0Q h0 5000 ⟨33,none,(gaS l o n).map λz:Nat=>uv z,false⟩):=by
 have hJ:∀ i,¬ (h0 i≠none):=λi h=>h rfl;unfold gaS;have hgl:∀ m,(rwG n (λk=>l.getD (o.getD k 0).toNat 0) m).length=n:=λ_=>q7Y;generalize hg:(λk=>l.getD (o.getD k 0).toNat 0)=g at *;refine qdo qn1 Tryz.func123 rfl Tryz.ntmps123 (by kernel_rfl) ?_ ?_ ?_ ?_
 ·intro i b hb; cases hb
 ·exact qf1
 ·exact IdL.of λx hx=>by
   simp at hx
   rcases hx with rfl | rfl <;> unfold IdP <;> trivial
 have hW:WfH h0:=⟨λi b hb=>by cases hb⟩;refine wk1 ho ?_;refine q0P (λk=>k<=n) [0,1] [] Lk Lk (λk:Nat=>[(6,iv k),(5,.ow 1001 none 0 n)]) (λk=>[(1001,⟨33,none,(rwG n g k).map λz:Nat=>uv z,false⟩)]) (λ_=>h0) (λk=>n-k) 0 (zD _) ?_ ?_
 ·rw [<- qpH];refine LeW [(1001,some 9)] rfl rfl ?_ ?_ (by simp [q0j,q0b,win]) ?_
  ·exact Ow
  ·exact hW
  ·try refine Zz ?_
   simp
 ·intro k hk
  by_cases hlt:k < n
  ·obtain ⟨x,hx⟩:∃ x,o[k]?=some x:=⟨_,zA Oq⟩;obtain ⟨h1,h2⟩:=hb x (zC hx);obtain ⟨x,rfl⟩:∃ y:Nat,x=y:=⟨x.toNat,by omega⟩;obtain ⟨u,hu⟩:∃ u,l[x]?=some u:=⟨_,zA Oq⟩;have hs:=qpF (n:=n) (g:=g) (m:=k);have hgk:g k=u:=by rw [<- hg]; simp only [getD_some hx,zY,getD_some hu]
   rw [hgk] at hs;refine wk1 (x4 ho hx hu (hgl k)) ?_;refine ⟨k+1,by omega,by omega,?_⟩;refine LeW [] rfl rfl ?_ ?_ (by simp [q0j,q0b,win]) ?_
   ·exact Ow
   ·exact hW
   ·try refine Zz ?_
    rw [<- hs];exact ⟨by omega,rfl⟩
  ·obtain rfl:k=n:=by omega
   have hgk:=hgl k;refine wk1 ho ?_;refine (rtM (rs:=[.tmp 4]) rfl rfl Lq ?_ (.inl rfl));refine LeO hJ ?_ clU
   try simp -implicitDefEqProofs (disch:=omega) only [go_sem,Nat.reduceEqDiff,Nat.reduceAdd,↓reduceIte]
def qvw {f:LUt} {l:List Nat}:IdL win [pLU f,pF l]:=IdL.of λx hx=>by
 simp at hx
 rcases hx with rfl | rfl
 ·unfold pLU IdP;unfold IdL IdL IdL IdL IdL IdL IdL IdL IdL;unfold IdP;exact ⟨trivial,trivial,trivial,trivial,trivial,trivial,trivial,trivial,trivial⟩
 ·unfold IdP; trivial
def qnw {f:LUt} {l:List Nat} (hb:LUb f) (hn:f.rows.length<=100) (hul:∀ x ∈ l,x < 18446744073709551616) (hl:l.length<=1000000) :
  qdi 221 [pLU f,pF l] h0 (.tu [.ow 5000 none 0 (lgE f l).1.length,iv (lgE f l).2]) (q0Q h0 5000 ⟨33,none,(lgE f l).1.map λz:Nat=>uv z,false⟩):=by
 have hJ:∀ i,¬ (h0 i≠none):=λi h=>h rfl;have cK:=q9d hb;have cS:=qiK (e:=q6Y f) (n:=f.rows.length) hul hl;refine qdo qnR Tryz.func221 rfl Tryz.ntmps221 (by kernel_rfl) ?_ ?_ ?_ ?_
 ·intro i b hb; cases hb
 ·exact qf1
 ·exact qvw
 unfold lgE
 by_cases hz0:qil (q6Y f) f.rows.length l=0
 case neg =>
  rw [if_pos hz0];generalize qil (q6Y f) f.rows.length l=e at *;generalize q6Y f=e2 at *;have q:(e != 0)=true:=by simpa using hz0
  unfold pLU at *;dsimp only at *;refine wk1 q ?_;refine (rtM (rs:=[.tmp 4,.tmp 5]) rfl rfl Lq ?_ (.inl rfl));exact LeEn hJ
 rw [if_neg (not_not_intro hz0)];rw [hz0] at cS;obtain ⟨h1,h2,h3⟩:=quk hz0;rw [h1] at cK cS;have hf:=qhu hb h1;have hfl:q03 l:=λx hx=>⟨hul x hx,h3 x hx⟩;have hrb:∀ x ∈ f.rows,0<=x/\x < f.rows.length:=λx hx=>hf.rp.2.1 x hx;have hcb:∀ x ∈ f.cols,0<=x/\x < f.rows.length:=λx hx=>hf.cp.2.1 x hx;have hcl:f.cols.length=f.rows.length:=by have:=hf.cp.1; omega
 have cG:=qdv (l:=l) (o:=f.rows) (n:=f.rows.length) h2 rfl Oq hrb;have hgl:=qgV (l:=l) (o:=f.rows) (n:=f.rows.length);have hgf:=qgW (o:=f.rows) (n:=f.rows.length) hfl;generalize gaS l f.rows f.rows.length=g at *;have cD:=qkr (f:=f) rfl hn hf.L hf.U;have vL:∀ {i j:Nat},i < f.rows.length->j < i->dnT (dnD f.rows.length) (q9a f.ls f.li f.lv) f.rows.length i j=cLo f i j:=λhi hj=>dnL_v hf.L.nd Oq hj;have vU:∀ {i j:Nat},j < f.rows.length->dnT (λ_ _=>0) (q9a f.us f.ui f.uv) f.rows.length i j=cUp f i j:=λhj=>dnU_v hf.U.nd hj;have fL:∀ {i j:Nat},j < f.rows.length->cLo f i j < 18446744073709551616/\q0I (cLo f i j):=λhj=>qhM hf.L hj;have fU:∀ {i j:Nat},j < f.rows.length->cUp f i j < 18446744073709551616/\q0I (cUp f i j):=λhj=>qhM hf.U hj;have dU:∀ k,k < f.rows.length->ofZ (cUp f k k)≠0:=λk hk=>by
  obtain ⟨m,x,m1,m2,m3⟩:=hf.dg k hk;have:=qhL (t:=m.length) (e:=(k,x)) (hf.U.nd k hk) (by rw [m1]; simp);unfold cUp;rw [this];exact m2
 obtain ⟨gl,hgl2⟩:∃ q,q=dnT (dnD f.rows.length) (q9a f.ls f.li f.lv) f.rows.length:=⟨_,rfl⟩;obtain ⟨gu,hgu2⟩:∃ q,q=dnT (λ_ _=>0) (q9a f.us f.ui f.uv) f.rows.length:=⟨_,rfl⟩;rw [<- hgl2,<- hgu2] at cD;simp only [<- hgl2] at vL;simp only [<- hgu2] at vU;clear hgl2 hgu2 hf;generalize cLo f=DL at *;generalize cUp f=DU at *;generalize hnn:f.rows.length=n at *;unfold pLU at *;obtain ⟨F,hF⟩:∃ F:List Nat->List Nat × Int,F=λy=>(match geU DU n n y with
   | none=>([],233)
   | some z=>(scS z f.cols n n,(0:Int))):=⟨_,rfl⟩
 obtain ⟨res,hres⟩:∃ q,q=(match geL DL n 0 g with
  | none=>([],233)
  | some y=>F y):=⟨_,rfl⟩
 have hres':=hres;rw [hF] at hres';rw [<- hres'];clear hres';refine wk1 hnn ?_;refine qsi λK hK=>?_;refine Zz1 hnn ?_;refine jm cG ?_ (λi hi=>(hi trivial).elim) ?_
 ·change Wn _ _;exact Ow
 try refine Zz ?_
 refine hK _ _ ?_; clear hK K;clear cG;have hW:WfH h0:=⟨λi b hb=>by cases hb⟩;refine wk ?_;refine q1D (LeT (hw:=h0) (λi=>if i=1001 then some 5000 else if i=5000 then none else some i) (λi hi=>(hJ i hi).elim) (λi hi hw=>?_) (λi b hw hb=>?_) (λi j x hi hj ti tj=>?_) (xs:=[(2,.pt 2 0 0),(6,iv n),(8,tU n gl),(9,tU n gu),(10,.ow 1001 none 0 n),(11,iv 0)]) (kv:=[]) (bs:=[(2,⟨99,some 8,[.ag [pI f.rows,pI f.cols,pI f.ls,pI f.li,pF f.lv,pI f.us,pI f.ui,pF f.uv]],false⟩),(1001,⟨33,none,g.map λz:Nat=>uv z,false⟩)]) (kb:=[]) ?_) ?_
 ·simp at hi;unfold win at hw;omega
 ·cases hb
 ·have a1:∀ i,(win i/\(h0:Hp) i≠none\/i ∈ List.map (·.1) [(2,(⟨99,some 8,[.ag [pI f.rows,pI f.cols,pI f.ls,pI f.li,pF f.lv,pI f.us,pI f.ui,pF f.uv]],false⟩:Bk)),(1001,⟨33,none,g.map λz:Nat=>uv z,false⟩)] ++ [])->i=2\/i=1001:=λi hi=>by
   rcases hi with ⟨_,hi⟩ | hi
   ·exact absurd rfl hi
   ·simpa using hi
  rcases a1 i hi with rfl | rfl <;> rcases a1 j hj with rfl | rfl <;> simp at ti tj <;> omega
 ·try simp -implicitDefEqProofs (disch:=omega) only [go_sem,Nat.reduceEqDiff,Nat.reduceAdd,↓reduceIte]
 refine q0P (λq:Nat × List Nat=>q.1<=n/\q.2.length=n/\q03 q.2/\(match geL DL (n-q.1) q.1 q.2 with | none=>([],233) | some y=>F y)=res) [2,6,8,9] [2] Lk Lk (λq=>[(11,iv q.1),(10,.ow 1001 none 0 n)]) (λq=>[(1001,⟨33,none,q.2.map λz:Nat=>uv z,false⟩)]) (λ_=>h0) (λq=>n-q.1) (0,g) ⟨zD _,hgl,hgf,hres.symm⟩ ?_ ?_
 ·refine LeW [] rfl rfl ?_ ?_ (by simp [q0j,q0b,win]) ?_
  ·exact Ow
  ·exact hW
  ·try refine Zz ?_
   rfl
 ·rintro ⟨k,ys⟩ ⟨hk,hy,hfy,hv⟩;simp only at hk hy hfy hv ⊢
  by_cases hlt:k < n
  ·have hlt':(k:Int) < n:=by omega
   obtain ⟨u,hu⟩:∃ u,ys[k]?=some u:=⟨_,zA Oq⟩;obtain ⟨u1,u2⟩:=hfy u (zC hu);have rk:(List.range n)[k]?=some k:=zB hlt;have hrf:q03 ((q97 n gl k).take k):=λx hx=>by
    obtain ⟨c,hc⟩:=yJ.1 hx;have hck:c < k:=by have:=(zN.1 hc).1; rw [z7] at this; omega
    rw [yS,if_pos hck,q5L (by omega)] at hc;cases hc;rw [vL hlt hck];exact fL Oq
   have hrl:((q97 n gl k).take k).length=k:=by rw [z7,q71]; omega
   have hS:=rst_L (g:=gl) (D:=DL) (n:=n) (k:=k) (ys:=ys) hlt hy λc hc=>vL hlt hc;rw [getD_some hu] at hS;rw [show n-k=(n-(k+1))+1 by omega,geL] at hv;have cR:=qbB (B:=ofZ u) (l:=(q97 n gl k).take k) (x:=ys.take k) (q13 u2) hrf (qgk hfy) (by rw [hrl,z7]; omega) (by omega);rw [hrl,hS] at cR;generalize loZ DL ys k=S at *;unfold pF at cR;rw [List.map_take,List.map_take,<- qvW] at cR;have cZ:=q1T (V:=S);have cO1:=q0w u1 (q0T u2);have cQ:=@q46 S;have hqlt:fR 0 S < 18446744073709551616:=q4E;generalize fR 0 S=v at *;have cF:=q14 hqlt;have es1:slP (some 1) none (some (iv (k:Int))) (.sl none (rU n gl k))=some (.sl none ((rU n gl k).take k)):=by
    simp [slP,qak,ksz];omega
   have es2:slP (some 1) none (some (iv (k:Int))) (.ow 1001 none 0 n)=some (.ow 1001 none 0 k):=by
    simp [slP,qak,ksz];omega
   have hset:((ys.map λz:Nat=>uv z).set k (uv (v:Nat)))[k]?=some (uv (v:Nat)):=yX (by rw [zJ]; omega)
   by_cases hfx:q0I v
   ·rw [decide_eq_true hfx] at cF;rw [if_pos hfx] at hv;refine wk1 (x6 hlt' hu rk es1 es2 (x2 hy hset)) ?_;refine ⟨(k+1,ys.set k v),⟨by simp only; omega,by simp only; rw [y7]; exact hy,q5T hfy hqlt hfx,hv⟩,by simp only; omega,?_⟩;simp only;refine LeW [] rfl rfl ?_ ?_ (by simp [q0j,q0b,win]) ?_
    ·exact Ow
    ·exact hW
    ·try refine Zz ?_
     rfl
   ·rw [decide_eq_false hfx] at cF;rw [if_neg hfx] at hv;subst hv;refine wk1 (x6 hlt' hu rk es1 es2 (x2 hy hset)) ?_;refine (rtM (rs:=[.tmp 4,.tmp 5]) rfl rfl Lq ?_ (.inl rfl));exact LeEn hJ
  ·obtain rfl:n=k:=by omega
   have hlt':¬ (n:Int) < n:=by omega
   rw [Nat.sub_self,geL] at hv;simp only [hF] at hv;clear hF hres;refine wk1 hlt' ?_;refine q0P (λq:Nat × List Nat=>q.1<=n/\q.2.length=n/\q03 q.2/\(match geU DU n q.1 q.2 with | none=>([],233) | some z=>(scS z f.cols n n,(0:Int)))=res) [2,6,8,9] [2] Lk Lk (λq=>[(12,iv ((q.1:Int)-1)),(10,.ow 1001 none 0 n)]) (λq=>[(1001,⟨33,none,q.2.map λz:Nat=>uv z,false⟩)]) (λ_=>h0) (λq=>q.1) (n,ys) ⟨zL _,hy,hfy,hv⟩ ?_ ?_
   ·refine LeW [] rfl rfl ?_ ?_ (by simp [q0j,q0b,win]) ?_
    ·exact Ow
    ·exact hW
    ·try simp -implicitDefEqProofs (disch:=omega) only [go_sem,Nat.reduceEqDiff,Nat.reduceAdd,↓reduceIte]
   ·clear hv hy hfy;rintro ⟨k,ys⟩ ⟨hk,hy,hfy,hv⟩;simp only at hk hy hfy hv ⊢
    by_cases hlt:k=0
    ·subst hlt;rw [geU] at hv;simp only at hv;subst hv;have cS2:=q9c (l:=ys) (o:=f.cols) hy hcl Oq hcb;have hsl:=q7W (x:=ys) (o:=f.cols) (n:=n) n;dsimp only;rw [hsl];generalize scS ys f.cols n n=x at *;refine wk ?_;refine q1D (LeT (hw:=h0) (λi=>if i=1001 then none else some i) (λi hi=>(hJ i hi).elim) (λi hi hw=>?_) (λi b hw hb=>?_) (λi j x hi hj ti tj=>?_) (xs:=[(2,.pt 2 0 0),(10,pF ys)]) (kv:=[]) (bs:=[(2,⟨99,some 8,[.ag [pI f.rows,pI f.cols,pI f.ls,pI f.li,pF f.lv,pI f.us,pI f.ui,pF f.uv]],false⟩)]) (kb:=[]) ?_) ?_
     ·simp at hi;unfold win at hw;omega
     ·cases hb
     ·split at ti <;> split at tj <;> cases ti <;> cases tj <;> rfl
     ·try refine Zz ?_
      try exact q6P rfl clU (λi hi=>by split at hi <;> cases hi; omega) (by rw [yV]; exact zM (by rw [zJ]; omega))
     refine qsi λK hK=>?_;refine Zz ?_;refine jm cS2 ?_ (λi hi=>(hi trivial).elim) ?_
     ·change Wn _ _;exact Ow
     try refine Zz ?_
     refine hK _ _ ?_; clear hK K;refine wk ?_;refine (rtM (rs:=[.tmp 4,.tmp 5]) rfl rfl Lq ?_ (.inl rfl));refine LeE hJ ?_ clU
     try simp -implicitDefEqProofs (disch:=omega) only [go_sem,Nat.reduceEqDiff,Nat.reduceAdd,↓reduceIte]
    ·obtain ⟨k,rfl⟩:∃ k',k=k'+1:=⟨k-1,by omega⟩;have hkn:k < n:=by omega
     obtain ⟨u,hu⟩:∃ u,ys[k]?=some u:=⟨_,zA Oq⟩;obtain ⟨u1,u2⟩:=hfy u (zC hu);have rk:(List.range n)[k]?=some k:=zB hkn;have hrf:q03 (q97 n gu k):=λx hx=>by
      obtain ⟨c,hc⟩:=yJ.1 hx;have hck:c < n:=by have:=(zN.1 hc).1; rwa [q71] at this
      rw [q5L hck] at hc;cases hc;rw [vU hck];exact fU hck
     have hrl:((q97 n gu k).drop (k+1)).length=n-(k+1):=by rw [yO,q71]
     have hS:=rst_U (g:=gu) (D:=DU) (n:=n) (k:=k) (ys:=ys) hkn hy λc hc=>vU hc;rw [getD_some hu] at hS;rw [geU] at hv;have cR:=qbB (B:=ofZ u) (l:=(q97 n gu k).drop (k+1)) (x:=ys.drop (k+1)) (q13 u2) (q9I hrf) (q9I hfy) (by rw [hrl,yO]; omega) (by omega);rw [hrl,hS] at cR;have hdz:=dU k hkn;have hkk:=vU (i:=k) (j:=k) hkn;obtain ⟨d1,d2⟩:=fU (i:=k) (j:=k) hkn;rw [<- hkk] at hdz d1 d2 hv;generalize upZ DU ys n k=S at *;unfold pF at cR;rw [List.map_drop,List.map_drop,<- qvW] at cR;have cZ:=q1T (V:=S);have cO1:=q0w u1 (q0T u2);have cO2:=q0w d1 (q0T d2);have cQ:=qds (qaE (A:=S) (mode:=0) hdz);have hqlt:fQ 0 S (ofZ (gu k k)) < 18446744073709551616:=qa1 hdz;generalize fQ 0 S (ofZ (gu k k))=v at *;have cF:=q14 hqlt;have ek:((k+1:Nat):Int)-1=(k:Int):=by omega
     have wj:(k:Int)+1=((k+1:Nat):Int):=rfl;have ww:IntKind.i64.wrap ((k+1:Nat):Int)=((k+1:Nat):Int):=i64_in Oq Oq;have es1:slP (some 1) (some (iv ((k+1:Nat):Int))) none (.sl none (rU n gu k))=some (.sl none ((rU n gu k).drop (k+1))):=by
      simp [slP,qak,ksz];rw [if_pos (by omega),xF,if_pos (by omega),zM (by simp [rU])]
     have es2:slP (some 1) (some (iv ((k+1:Nat):Int))) none (.ow 1001 none 0 n)=some (.ow 1001 none (k+1) (n-(k+1))):=by
      simp [slP,qak,ksz];rw [if_pos (by omega),xF,if_pos (by omega)]
     have htk:((ys.map λz:Nat=>uv z).drop (k+1)).take (n-(k+1))=(ys.map λz:Nat=>uv z).drop (k+1):=zM (by rw [yO,zJ]; omega);have hset:((ys.map λz:Nat=>uv z).set k (uv (v:Nat)))[k]?=some (uv (v:Nat)):=yX (by rw [zJ]; omega)
     by_cases hfx:q0I v
     ·rw [decide_eq_true hfx] at cF;rw [if_pos hfx] at hv;refine wk1 (x6 ek wj ww htk hu (x4 rk es1 es2 hset)) ?_;refine ⟨(k,ys.set k v),⟨by simp only; omega,by simp only; rw [y7]; exact hy,q5T hfy hqlt hfx,hv⟩,by simp only; omega,?_⟩;simp only;refine LeW [] rfl rfl ?_ ?_ (by simp [q0j,q0b,win]) ?_
      ·exact Ow
      ·exact hW
      ·try simp -implicitDefEqProofs (disch:=omega) only [go_sem,Nat.reduceEqDiff,Nat.reduceAdd,↓reduceIte]
     ·rw [decide_eq_false hfx] at cF;rw [if_neg hfx] at hv;subst hv;refine wk1 (x6 ek wj ww htk hu (x4 rk es1 es2 hset)) ?_;refine (rtM (rs:=[.tmp 4,.tmp 5]) rfl rfl Lq ?_ (.inl rfl));exact LeEn hJ

def rgL (G:Nat->Nat->Option Nat) (i:Nat):Nat->List Int
 | 0=>[q2T]
 | k+1=>if k=i then rgL G i k else rgL G i k ++ [((ofZ ((G k i).getD 0)).natAbs:Int),((ofZ ((G i k).getD 0)).natAbs:Int)]
def rgF (G:Nat->Nat->Option Nat) (n j i:Nat):Option Nat:=if i=j then some (fR 2 (q1M (rgL G i n))) else G j i
def qex {G:Nat->Nat->Option Nat} {n i:Nat} (h:TOk G n n) (hi:i < n):∀ k,k<=n->(rgL G i k).length<=2*k+1/\∀ x ∈ rgL G i k,bl x.natAbs<=67600
 | 0,_=>⟨zL _,λx hx=>by unfold rgL at hx; simp at hx; subst hx; exact q4f.2⟩
 | k+1,hk=>by
  obtain ⟨h1,h2⟩:=qex h hi k Oq;unfold rgL
  split
  ·exact ⟨by omega,h2⟩
  ·refine ⟨by simp; omega,λx hx=>?_⟩
   rcases uS.1 hx with hx | hx
   ·exact h2 x hx
   ·simp at hx
    rcases hx with rfl | rfl <;> rw [zE]
    ·exact q13 (h.fin Oq Oq).1
    ·exact q13 (h.fin Oq Oq).1
def qdC {raw:List Nat} {st:Int} {n:Nat} (hr:raw.length<=9223372036854775807) (hn:n<=100) (h3 : -9223372036854775808<=st) (h4:st<=9223372036854775807) :
  ACt 58 [pF raw,iv n,iv st] (pT n n (rgF (gF raw n (q0d (q0d st 3:Nat) 4)) n)):=by
 have hs3:q0d st 3 < 3:=by unfold q0d; omega
 have hnn:n*n<=100*100:=zI hn hn;have cM:=q6l (a:=st) (n:=3) h3 h4 Oq Oq;have cG:=q5w (raw:=raw) (st:=(q0d st 3:Nat)) (R:=n) (C:=n) hr Oq Oq Oq Oq;have hG:=qqX (raw:=raw) (R:=n) (C:=n) (st:=q0d (q0d st 3:Nat) 4) Oq Oq Oq;generalize gF raw n (q0d (q0d st 3:Nat) 4)=G at *;have cA:∀ {i j:Nat},i < n->j < n->_:=λ{i j} hi hj=>q6a (i:=i) (j:=j) hG hi hj;have cS:∀ {i j:Nat},i < n->j < n->_:=λ{i j} hi hj=>qco (i:=i) (j:=j) hG hi hj;generalize hFn:rgF G n=F;have hpt:pT n n F=pM n n (tM F n n):=rfl;have hpG:pT n n G=q2F n n (tM G n n).1 (tM G n n).2.1 (tM G n n).2.2:=rfl;rw [hpG] at cG;simp only [hpG] at cA cS;rw [hpt];clear hpG hpt;unfold q2F at cG cA cS;generalize (tM G n n).1=gs at *;generalize (tM G n n).2.1=gi at *;generalize (tM G n n).2.2=gv at *;have c1:=q2o (z:=1) Oq Oq q4f.1;refine ac0 Tryz.func58 Tryz.ntmps58 [.cell 6 27] ?_;refine wk ?_;refine q0B (λj=>j<=n) [1,6,7,8] [6,7] Lk Lk (λj:Nat=>[(9,iv j)]) (λj=>[(8,⟨27,some 5,[.ag [iv n,iv n,.ow 1001 none 0 (tM F n j).1.length,.ow 1002 none 0 (tM F n j).2.1.length,.ow 1003 none 0 (tM F n j).2.2.length]],false⟩),(1001,⟨3,none,(tM F n j).1.map λz=>iv z,false⟩),(1002,⟨3,none,(tM F n j).2.1.map λz=>iv z,false⟩),(1003,⟨33,none,(tM F n j).2.2.map λz:Nat=>uv z,false⟩)]) (λj=>n-j) 0 (zD _) ?_ ?_
 ·refine LeM [(1001,some 21),(1002,none),(1003,none)] rfl rfl ?_;refine Zz ?_;exact ⟨rfl,⟨rfl,rfl,rfl⟩,rfl,rfl,rfl⟩
 ·intro j hj;have hg:=q1e (f:=F) (R:=n) j;have hjn:j*n<=100*100:=zI Oq hn;refine wk ?_
  by_cases hlt:j < n
  ·have hlt':(j:Int) < n:=by omega
   refine wk1 hlt' ?_;have hM1:(tM F n (j+1)).1=(tM F n j).1 ++ [((tC F j (tM F n j).2 n).1.length:Int)]:=rfl;have hM2:(tM F n (j+1)).2=tC F j (tM F n j).2 n:=rfl;generalize (tM F n j).1=ms at *;generalize (tM F n j).2=mp at *;refine q0B (λi=>i<=n) [1,6,7,8,9] [6,7,1001] Lk Lk (λi:Nat=>[(10,iv i)]) (λi=>[(8,⟨27,some 5,[.ag [iv n,iv n,.ow 1001 none 0 ms.length,.ow 1002 none 0 (tC F j mp i).1.length,.ow 1003 none 0 (tC F j mp i).2.length]],false⟩),(1002,⟨3,none,(tC F j mp i).1.map λz=>iv z,false⟩),(1003,⟨33,none,(tC F j mp i).2.map λz:Nat=>uv z,false⟩)]) (λi=>n-i) 0 (zD _) ?_ ?_
   ·refine LeM [] rfl rfl ?_;refine Zz ?_;exact ⟨rfl,⟨rfl,rfl⟩,rfl,rfl⟩
   ·intro i hi;have hq:=q8b (f:=F) (j:=j) hg.2.1 i;refine wk ?_
    by_cases hlt2:i < n
    ·have hlt2':(i:Int) < n:=by omega
     refine wk1 hlt2' ?_
     by_cases hij:i=j
     ·have e1:((i:Int) == (j:Int))=true:=by simp; omega
      have hF:F j i=some (fR 2 (q1M (rgL G i n))):=by rw [<- hFn]; unfold rgF; rw [if_pos hij]
      obtain ⟨z,hz⟩:∃ z,z=fR 2 (q1M (rgL G i n)):=⟨_,rfl⟩;rw [<- hz] at hF;have eg:=qe0 (p:=mp) hF;refine wk1 e1 ?_;refine q0B (λk=>k<=n) [1,6,7,8,9,10] [6,7,8,1001,1002,1003] Lk Lk (λk:Nat=>[(12,iv k),(11,.ow 1004 (some 4) 0 (rgL G i k).length)]) (λk=>[(1004,⟨48,some 4,(rgL G i k).map λV=>pV V,false⟩)]) (λk=>n-k) 0 (zD _) ?_ ?_
      ·refine LeM [(1004,some 37)] rfl rfl ?_;refine Zz ?_;exact ⟨⟨rfl,rfl⟩,q0F rfl clV⟩
      ·intro k hk;obtain ⟨d1,d2⟩:=qex hG hlt2 k hk;refine wk ?_
       by_cases hlk:k < n
       ·have hlk':(k:Int) < n:=by omega
        refine wk1 hlk' ?_
        by_cases hki:k=i
        ·have e2:((k:Int) != (i:Int))=false:=by simp; omega
         have es:rgL G i (k+1)=rgL G i k:=by rw [rgL,if_pos hki]
         refine wk1 e2 ?_;refine ⟨k+1,by omega,by omega,?_⟩;rw [es];refine LeM [] rfl rfl ?_;refine Zz ?_;exact ⟨by omega,q0F rfl clV⟩
        ·have e2:((k:Int) != (i:Int))=true:=by simp; omega
         obtain ⟨u,hu⟩:∃ u,u=(G k i).getD 0:=⟨_,rfl⟩;obtain ⟨v,hv⟩:∃ u,u=(G i k).getD 0:=⟨_,rfl⟩;obtain ⟨f1,f2⟩:=hG.fin (j:=k) (i:=i) hlk hlt2;obtain ⟨g1,g2⟩:=hG.fin (j:=i) (i:=k) hlt2 hlk;have cE:=cA hlt2 hlk;have cE2:=cA hlk hlt2;rw [<- hu] at f1 f2 cE;rw [<- hv] at g1 g2 cE2;have cO:=q0w f2 (q0T f1);have cO2:=q0w g2 (q0T g1);have es:rgL G i (k+1)=rgL G i k ++ [((ofZ u).natAbs:Int),((ofZ v).natAbs:Int)]:=by rw [rgL,if_neg hki,hu,hv]
         have C1:=@q6F;refine wk1 e2 ?_;refine ⟨k+1,by omega,by omega,?_⟩;rw [es];refine LeM [(1004,some 60)] rfl rfl ?_;refine Zz ?_;exact ⟨by omega,q0F (by simp) clV⟩
       ·have hlk':¬ (k:Int) < n:=by omega
        obtain rfl:k=n:=by omega
        have hsd:=qe2 d2 Oq;have C2:=q3e (l:=rgL G i k) Oq hsd;have C3:=q1T (V:=q1M (rgL G i k));have C4:=q3q (V:=q1M (rgL G i k)) (mode:=2);rw [<- hz] at C4;refine wk1 hlk' ?_;refine ⟨i+1,by omega,by omega,?_⟩;rw [eg];refine LeM [(1002,some 65),(1003,some 73)] rfl rfl ?_;refine Zz ?_;omega
     ·have e1:((i:Int) == (j:Int))=false:=by simp; omega
      have hF:F j i=G j i:=by rw [<- hFn]; unfold rgF; rw [if_neg hij]
      have C5:=(cS hlt2 hlt);refine wk1 e1 ?_;have cE:=cA hlt2 hlt;cases hx:G j i with
      | none =>
       rw [hx] at hF;have eg:=qcr (p:=mp) hF;have ei:(none:Option Nat).isSome=false:=rfl;refine wk1 ei ?_;refine ⟨i+1,by omega,by omega,?_⟩;rw [eg];refine LeM [] rfl rfl ?_;refine Zz ?_;omega
      | some z =>
       rw [hx] at hF cE;rw [x8] at cE;have eg:=qe0 (p:=mp) hF;have ei:(some z).isSome=true:=rfl;refine wk1 ei ?_;refine ⟨i+1,by omega,by omega,?_⟩;rw [eg];refine LeM [(1002,some 83),(1003,some 92)] rfl rfl ?_;refine Zz ?_;omega
    ·have hlt2':¬ (i:Int) < n:=by omega
     obtain rfl:i=n:=by omega
     refine wk1 hlt2' ?_;refine ⟨j+1,by omega,by omega,?_⟩;rw [hM1,hM2];refine LeM [(1001,some 100)] rfl rfl ?_;refine Zz ?_;omega
  ·have hlt':¬ (j:Int) < n:=by omega
   obtain rfl:j=n:=by omega
   exact wk1 hlt' trivial
def qey {raw:List Nat} {R k i:Nat} (hk:k < 3):∀ m,∀ x ∈ rgL (gF raw R k) i m,bl x.natAbs<=66000
 | 0,x,hx=>by unfold rgL at hx; simp at hx; subst hx; exact q4g
 | m+1,x,hx=>by
  unfold rgL at hx
  split at hx
  ·exact qey hk m x hx
  ·rcases uS.1 hx with hx | hx
   ·exact qey hk m x hx
   ·simp at hx
    rcases hx with rfl | rfl
    all_goals
     rw [zE];exact gF_bl hk
def qvJ {raw:List Nat} {n k:Nat} (hn:n<=100) (hk:k < 3):TOk (rgF (gF raw n k) n) n n:=by
 have hnn:n*n<=100*100:=zI hn hn;have hG:=qqX (raw:=raw) (R:=n) (C:=n) (st:=k) Oq Oq Oq;have key:∀ i,i < n->q0I (fR 2 (q1M (rgL (gF raw n k) i n))):=λi hi=>by
  have hl:=(qex hG hi n (zL _)).1;have h1:=q5b (K:=66000) (qey (raw:=raw) (R:=n) (i:=i) hk n) (i:=(rgL (gF raw n k) i n).length) Oq;rw [zX] at h1;obtain ⟨c,hc⟩:∃ c,c=900:=⟨_,rfl⟩;obtain ⟨K,hK⟩:∃ K,K=65536:=⟨_,rfl⟩;refine qwb hK hc (Nat.lt_of_lt_of_le (q2a _) ?_);rw [<- uV];exact yF Oq Oq
 refine ⟨hG.r,hG.c,hG.m,λj i x hj hi h=>?_,λj i x hj hi h=>?_⟩
 ·unfold rgF at h
  split at h
  ·have h:=x9.inj h; rw [<- h]; exact q4E
  ·exact hG.u j i x hj hi h
 ·unfold rgF at h
  split at h
  ·have h:=x9.inj h; rw [<- h]; exact key i hi
  ·exact hG.v j i x hj hi h
def qwa {F:Nat->Nat->Option Nat} {mi:List Int} {n:Nat} {cols:List Int} {num den:Nat} (hn:n<=100) (hc:cols.length<=1000000):LUb (qmz F mi n cols num den)/\(qmz F mi n cols num den).rows.length<=n:=by
 have hnn:n*n<=100*100:=zI hn hn;unfold qmz
 by_cases h:(q3P F mi n cols num den n).1=0
 ·rw [if_pos h];have hG:=qaZ (F:=F) (mi:=mi) (n:=n) (cols:=cols) (num:=num) (den:=den) n h;generalize (q3P F mi n cols num den n).2.2=S at *;have k1:∀ j i x,fLt S j i=some x->q0I x/\x < 18446744073709551616:=λj i x hx=>by
   unfold fLt at hx
   split at hx
   ·cases hx; exact hG.l _ _
   ·cases hx
  have k2:∀ j i x,fUt S j i=some x->q0I x/\x < 18446744073709551616:=λj i x hx=>by
   unfold fUt at hx
   split at hx
   ·cases hx; exact hG.u _ _
   ·cases hx
  have h1:TOk (fLt S) n n:=⟨by omega,by omega,by omega,λj i x _ _ hx=>(k1 j i x hx).2,λj i x _ _ hx=>(k1 j i x hx).1⟩;have h2:TOk (fUt S) n n:=⟨by omega,by omega,by omega,λj i x _ _ hx=>(k2 j i x hx).2,λj i x _ _ hx=>(k2 j i x hx).1⟩;have l1:=q1e (f:=fLt S) (R:=n) n;have l2:=q1e (f:=fUt S) (R:=n) n;have hrl:=hG.len;unfold qvy;refine ⟨⟨?_,hc,?_,?_,?_,?_,?_,?_,h1.vl.2.2.2,h2.vl.2.2.2⟩,?_⟩ <;> dsimp only <;> (try rw [zJ]) <;> omega
 ·rw [if_neg h];exact ⟨⟨by simp,by simp,by simp,by simp,by simp,by simp,by simp,by simp,by simp,by simp⟩,zD _⟩
end Go.Proofs.YtpbaikoblfcmdaaGreatDoor
namespace Go.Sp
open Go Go.E
end Go.Sp
namespace Go.Proofs.YtpbaikoblfcmdaaGreatDoor
open Go Go.E Go.Sp
def q7A {f:LUt} {l:List Nat} (hb:LUb f) (hn:f.rows.length<=100) (hul:∀ x ∈ l,x < 18446744073709551616) (hl:l.length<=1000000):ACt 221 [pLU f,pF l] (.tu [pF (lgE f l).1,iv (lgE f l).2]):=by
 refine qlb (ids:=[5000]) (qnw hb hn hul hl) ?_;generalize (lgE f l).1=xs;generalize (lgE f l).2=e;have h1:q2W (q0Q h0 5000 ⟨33,none,xs.map λz:Nat=>uv z,false⟩) (.ow 5000 none 0 xs.length)=some (pF xs,[5000]):=by
  unfold q2W;dsimp only;rw [q0L,xF,if_pos ⟨rfl,rfl,λx hx=>clU x hx⟩,yV,zM (by rw [zJ]; exact zL _)]
 have h2:q2W (q0Q h0 5000 ⟨33,none,xs.map λz:Nat=>uv z,false⟩) (iv e)=some (iv e,[]):=by
  unfold q2W;dsimp only;exact if_pos trivial
 unfold q26 q26 q26 clo;simp only [h1,h2]
 rfl
open Classical in
noncomputable def rfR (R C:Nat) (f:LUt) (steps:Int):Int:=if q6Y f≠0 then q6Y f else if R≠f.rows.length\/C≠f.rows.length then 5 else if steps < 0\/64 < steps then 350 else 0
section
variable (C:Nat) (F:Nat->Nat->Option Nat) (f:LUt) (b:List Nat) (dbl:Bool)
open Classical in
noncomputable def rfL:Nat->List (Nat × Nat)->List Nat->List Nat->List (Nat × Nat) × List Nat × Int
 | 0,x,_,l=>(x,l,0)
 | k+1,x,r,l =>
  if q1n r C=0 then (x,l,0) else
  if (lgE f r).2≠0 then ([],[],(lgE f r).2) else
  if ¬ ∀ p ∈ chL dbl x (lgE f r).1 C,q0I p.1 then ([],[],233) else
  if ¬ ∀ v ∈ rdL F (chL dbl x (lgE f r).1 C) b C C,q0I v then ([],[],233) else
  if ofZ (q1n r C) < 2*ofZ (q1n (rdL F (chL dbl x (lgE f r).1 C) b C C) C) then (x,l,0) else
  rfL k (chL dbl x (lgE f r).1 C) (rdL F (chL dbl x (lgE f r).1 C) b C C) (l ++ [q1n (rdL F (chL dbl x (lgE f r).1 C) b C C) C])
open Classical in
noncomputable def rfS (R:Nat) (steps:Int):List (Nat × Nat) × List Nat × Int :=
 if rfR R C f steps≠0 then ([],[],rfR R C f steps) else
 if (lgE f b).2≠0 then ([],[],(lgE f b).2) else
 if ¬ ∀ v ∈ rdL F ((lgE f b).1.map λv=>(v,0)) b C C,q0I v then ([],[],233) else
 rfL C F f b dbl steps.toNat ((lgE f b).1.map λv=>(v,0)) (rdL F ((lgE f b).1.map λv=>(v,0)) b C C) [q1n (rdL F ((lgE f b).1.map λv=>(v,0)) b C C) C]
end
def qjD {R C:Nat} {f:LUt} {steps:Int} (h:rfR R C f steps=0):q6Y f=0/\R=f.rows.length/\C=f.rows.length/\0<=steps/\steps<=64:=by
 unfold rfR at h
 split at h
 ·exact absurd h (by assumption)
 ·split at h
  ·cases h
  ·split at h
   ·cases h
   ·exact ⟨Classical.not_not.1 (by assumption),by omega,by omega,by omega,by omega⟩
def qen {x:List Nat} {o:List Int} {n:Nat} (hx:q03 x):∀ k,q03 (scS x o n k)
 | 0=>λv hv=>by
  unfold scS at hv;rw [uU] at hv;rw [hv.2]; exact ⟨by omega,by unfold q0I; simp⟩
 | k+1=>λv hv=>by
  unfold scS at hv
  rcases yP hv with hv | rfl
  ·exact qen hx k v hv
  ·exact qbw hx _
def q6o {f:LUt} {l:List Nat} (hb:LUb f) (hul:∀ x ∈ l,x < 18446744073709551616) (h:(lgE f l).2=0):q6Y f=0/\l.length=f.rows.length/\q03 l/\(lgE f l).1.length=f.rows.length/\q03 (lgE f l).1:=by
 unfold lgE at h ⊢
 by_cases hz:qil (q6Y f) f.rows.length l=0
 case neg=>rw [if_pos hz] at h; exact absurd h hz
 rw [if_neg (not_not_intro hz)] at h ⊢;obtain ⟨h1,h2,h3⟩:=quk hz;have hf:=qhu hb h1;have hfl:q03 l:=λx hx=>⟨hul x hx,h3 x hx⟩;have hlr:∀ y,geL (cLo f) f.rows.length 0 (gaS l f.rows f.rows.length)=some y->y.length=f.rows.length/\q03 y:=λy hy=>qgU _ _ _ y qgV (qgW hfl) hy;have dU:∀ k,k < f.rows.length->ofZ (cUp f k k)≠0:=λk hk=>by
  obtain ⟨m,x,m1,m2,m3⟩:=hf.dg k hk;have:=qhL (t:=m.length) (e:=(k,x)) (hf.U.nd k hk) (by rw [m1]; simp);unfold cUp;rw [this];exact m2
 refine ⟨h1,h2,hfl,?_⟩;generalize geL (cLo f) f.rows.length 0 (gaS l f.rows f.rows.length)=R1 at *;cases R1 with
 | none=>cases h
 | some y =>
  obtain ⟨q1,q2⟩:=hlr y rfl;have hur:∀ z,geU (cUp f) f.rows.length f.rows.length y=some z->z.length=f.rows.length/\q03 z:=λz hz=>qgT dU _ y z (zL _) q1 q2 hz;dsimp only at h ⊢;generalize geU (cUp f) f.rows.length f.rows.length y=R2 at *;cases R2 with
  | none=>cases h
  | some z=>exact ⟨q7W _,qen (hur z rfl).2 _⟩
section
variable {dbl:Bool} {x:List (Nat × Nat)} {d l:List Nat} {n:Nat}
def qah:(chL dbl x d n).length=n:=by unfold chL; simp
def qhV (h:∀ p ∈ chL dbl x d n,q0I p.1):qtG (chL dbl x d n):=λp hp=>by
 have h1:=h p hp;obtain ⟨j,_,rfl⟩:=zH.1 hp;unfold chV at h1 ⊢;dsimp only at h1 ⊢;refine ⟨⟨q4E,h1⟩,?_⟩;generalize hv:fR 0 (chT (x.getD j (0,0)) (d.getD j 0)-ofZ (fR 0 (chT (x.getD j (0,0)) (d.getD j 0))))=v;have h2:v < 18446744073709551616/\q0I v:=by rw [<- hv]; exact ⟨q4E,qwA h1⟩
 cases dbl
 ·rw [if_neg (by decide)]; exact ⟨by omega,by unfold q0I; omega⟩
 ·rw [if_pos rfl]; exact h2
def qp2 (h:q03 l):qtG (l.map λv=>(v,0)):=λp hp=>by
 obtain ⟨v,hv,rfl⟩:=zH.1 hp;exact ⟨h v hv,by simp,by simp [q0I]⟩
def rwQ (n:Nat) (g:Nat->Nat × Nat) (m:Nat):List (Nat × Nat):=(List.range n).map λj=>if j < m then g j else (0,0)
def qpC {g:Nat->Nat × Nat} {m:Nat}:(rwQ n g m).length=n:=by simp [rwQ]
def rwQ_s {g:Nat->Nat × Nat} {m:Nat}:(rwQ n g m).set m (g m)=rwQ n g (m+1):=by
 unfold rwQ;refine yK λi=>?_;rw [yL,zG,zG,zJ,zU]
 by_cases h:i < n
 ·rw [zB h,zS,zS]
  by_cases h2:m=i
  ·subst h2;rw [if_pos rfl,if_pos h,if_pos (by omega)]
  ·rw [if_neg h2]
   by_cases h3:i < m
   ·rw [if_pos h3,if_pos (by omega)]
   ·rw [if_neg h3,if_neg (by omega)]
 ·rw [z6 (by simpa using h)]
  by_cases h2:m=i
  ·rw [if_pos h2,if_neg (by omega)]; rfl
  ·rw [if_neg h2]; rfl
def rwQ_0 {g:Nat->Nat × Nat}:List.replicate n (0,0)=rwQ n g 0:=by
 unfold rwQ;refine yK λi=>?_;rw [zG,List.getElem?_replicate]
 by_cases h:i < n
 ·rw [zB h,if_pos h,zS,if_neg (by omega)]
 ·rw [z6 (by simpa using h),if_neg h]; rfl
def rwQ_n:rwQ n (λj=>chV dbl (x.getD j (0,0)) (d.getD j 0)) n=chL dbl x d n:=by
 unfold rwQ chL;exact zW λj hj=>if_pos (uR.1 hj)
def qbX {r:List Nat} (h:q03 r):q1n r r.length < 9223372036854775808/\q0I (q1n r r.length):=q9w h _ (zL _)
end
section
variable {f g:Nat}
def qcF {l:List Nat} (hl:∀ x ∈ l,x < 18446744073709551616/\q08 x≠3) (hn:l.length<=1000):ACt 244 [pF l] (bv false):=by
 refine ac0 Tryz.func244 Tryz.ntmps244 [.tmp 2] ?_;refine wk ?_;refine q0B (λi=>i<=l.length) [5,6] [] Lk Lk (λi:Nat=>[(7,iv i)]) (λ_=>[]) (λi=>l.length-i) 0 (zD _) ?_ ?_
 ·refine LeM [] rfl rfl ?_;refine Zz ?_
  rfl
 ·intro i hi
  by_cases hlt:i < l.length
  ·obtain ⟨x,hx⟩:∃ x,l[i]?=some x:=⟨_,zA hlt⟩;obtain ⟨h1,h2⟩:=hl x (zC hx);have C1:=q7t h1;have q:(((q08 x:Nat):Int) == 3)=false:=by
    simp; omega
   refine wk1 (x2 hx q) ?_;refine ⟨i+1,by omega,by omega,?_⟩;refine LeM [] rfl rfl ?_;refine Zz ?_;omega
  ·exact wk trivial
def q76 (hf:f < 18446744073709551616) (h:q08 f≠3):ACt 75 [uv f] (bv false):=by
 have:=qfF hf
 rwa [decide_eq_false h] at this
end
section
variable {l:List Nat}
end
end Go.Proofs.YtpbaikoblfcmdaaGreatDoor
namespace Go.E
open Go Go.RowKit
def qni {T:TypeId} {id n:Nat} {k:Kd} {h h':Hp} {l:List PV} [NL] (h1:h id=some ⟨T,k,l,false⟩) (hc:ClL l) (h2:h' id=none) (hn:l.length=n):LeV (q0b []) h h' (.ow id k 0 n) (.sl k l):=q6P (T:=T) (l:=l) h1 hc (λi hi=>by
 have hi:some i=some id:=hi;cases hi;exact h2) (by rw [yV]; exact zM (by omega))
end Go.E
namespace Go.Sp
open Go.E Go.Proofs.YtpbaikoblfcmdaaGreatDoor
def q5q {x:Nat} (h:¬ (x / 4503599627370496 % 2048=2047/\x % 4503599627370496≠0)):q08 x≠3:=by
 unfold q08;rw [if_neg h]
 split
 ·omega
 ·split <;> omega
def qcC {mode:Int} {neg:Bool} {n:Nat} {q:Int} (hn:n < 9007199254740992):q08 (q4Y mode neg n q)≠3:=by
 refine q5q ?_;unfold q4Y
 split
 ·unfold sb
  split <;> omega
 ·split
  ·unfold q6i sb
   split <;> split <;> omega
  ·obtain ⟨m,hm⟩:∃ m,m=(q+1075).toNat:=⟨_,rfl⟩;have:m<=2046:=by omega
   rw [<- hm];unfold sb
   split <;> omega
def qgl {mode:Int} {neg:Bool} {n:Nat} {q:Int} (hn:n<=9007199254740992):q08 (fin mode neg n q)≠3:=by
 unfold fin
 split
 ·exact qcC Oq
 ·exact qcC Oq
def qgn {mode a b:Int} (hb:b≠0):q08 (fQ mode a b)≠3:=by
 unfold fQ
 split
 ·exact q5q Oq
 ·rename_i ha;obtain ⟨u,r,_,h,_,h4,_⟩:=q38 (mode:=mode) (neg:=decide (a < 0) != decide (b < 0)) (N:=a.natAbs) (D:=b.natAbs) (K:=1074) Oq Oq Oq;rw [h];exact qgl h4
end Go.Sp
namespace Go.Proofs.YtpbaikoblfcmdaaGreatDoor
open Go Go.E Go.Sp
def unN (n j:Nat):List Nat:=(List.replicate n 0).set j 4607182418800017408
section
variable {f:Nat->Nat->Option Nat} {g:LUt} {R C n j:Nat}
def qeL:(unN n j).length=n:=by unfold unN; simp
def qoQ:∀ x ∈ unN n j,x < 18446744073709551616:=λx hx=>by
 unfold unN at hx
 rcases yP hx with h | h
 ·have:=(uU.1 h).2; omega
 ·omega
def unN_v:(List.replicate n (PV.vl (.int .u64 0))).set j (PV.vl (.int .u64 4607182418800017408))=(unN n j).map λz:Nat=>uv z:=by
 unfold unN;rw [List.map_set,List.map_replicate]
 rfl
end
end Go.Proofs.YtpbaikoblfcmdaaGreatDoor
namespace Go.Sp
open Go Go.E Go.Proofs.YtpbaikoblfcmdaaGreatDoor
def q4v (mode:Int) (a b:Nat):Nat:=if ¬ q0I b then b else if q3T a=0/\a=b then a else if ofZ a+ofZ b=0 then (if mode=1 then 9223372036854775808 else 0) else fR mode (ofZ a+ofZ b)
def q9t (mode:Int) (a b:Nat):Nat:=q4v mode a (q5P b)
def qhk {mode:Int} {a b:Nat} (ha:a < 18446744073709551616) (hb:b < 18446744073709551616):q4v mode a b < 18446744073709551616:=by
 unfold q4v
 split
 ·exact hb
 ·split
  ·exact ha
  ·split
   ·split <;> omega
   ·exact q4E
def q8z {b:Nat} (h:¬ q0I b) (h2:q08 b≠3):q08 b=2:=by
 unfold q0I at h;unfold q08 at *
 split at h2
 ·exact absurd rfl h2
 ·rename_i h3;rw [if_neg h3]
  split
  ·rfl
  ·rename_i h4; exact absurd h4 h
def q3v {b:Nat} (h:q0I b):q08 b≠2:=by
 unfold q0I at h;unfold q08;rw [if_neg λq=>h q.1,if_neg h]
 split <;> omega
def qaL {b:Nat} (hb:b < 18446744073709551616):q5P b < 18446744073709551616:=by unfold q5P; split <;> omega
def q5n {b:Nat} (hb:b < 18446744073709551616):q08 (q5P b)=q08 b:=by
 have h1:q5P b / 4503599627370496 % 2048=b / 4503599627370496 % 2048:=by unfold q5P; split <;> omega
 have h2:q5P b % 4503599627370496=b % 4503599627370496:=by unfold q5P; split <;> omega
 unfold q08;rw [h1,h2]
def qbg {b:Nat} (hb:b < 18446744073709551616):q0I (q5P b) ↔ q0I b:=by
 have h1:q5P b / 4503599627370496 % 2048=b / 4503599627370496 % 2048:=by unfold q5P; split <;> omega
 unfold q0I;rw [h1]
def qqr {mode V:Int}:q08 (fR mode V)≠3:=by
 obtain ⟨D,hD⟩:∃ D:Nat,D=2 ^ 65536:=⟨_,rfl⟩;have hp:0 < D:=by rw [hD]; exact Nat.two_pow_pos 65536
 unfold fR;rw [<- hD];clear hD
 split
 ·exact q5q Oq
 ·obtain ⟨u,r,_,h,_,h4,_⟩:=q38 (mode:=mode) (neg:=decide (V < 0)) (N:=V.natAbs) (D:=D) (K:=1074) Oq hp Oq;rw [h];exact qgl h4
end Go.Sp
namespace Go.Proofs.YtpbaikoblfcmdaaGreatDoor
open Go Go.E Go.Sp
section
variable {mode A:Int} {a b:Nat}
def qdZ (hm:mode=0\/mode=1\/mode=2) (hA:q0U A):ACt 91 [dT A,iv mode] (uv (fR mode A:Nat)):=by
 obtain ⟨hd1,hd2,hd3⟩:=q0x hA;have C1:=q7C hA;have C2:=q3i hA;have C3:=qtY hA;refine ac0 Tryz.func91 Tryz.ntmps91 [.tmp 4] ?_
 by_cases hz:A=0
 ·have q1:(A.sign == 0)=true:=by rw [hz]; rfl
  rw [show ((fR mode A:Nat):Int)=0 by rw [show fR mode A=0 from if_pos hz]; rfl];exact wk1 q1 trivial
 ·have q1:(A.sign == 0)=false:=by
   rw [beq_eq_false_iff_ne]; intro h; exact hz (zQ.1 h)
  have hod:=q3a hz;have C4:=q4s (mode:=mode) (N:=(od A).natAbs) (M:=1) (neg:=decide (od A < 0)) (e:=dyE A) hm Nat.one_pos (by omega) (by rw [Nat.mod_one]; intro h; exact absurd rfl h) (by rw [Nat.div_one]; omega) (by omega) (by omega);rw [Nat.div_one,Nat.mod_one,show decide ((0:Nat)≠0)=false from rfl,rE_V hz,q1s,show rF mode (decide (A < 0)) A.natAbs (2 ^ 65536)=fR mode A from (if_neg hz).symm] at C4;rw [<- q1s] at C4;exact wk1 q1 trivial
def qgp (hb:b < 18446744073709551616):ACt 276 [uv b] (bv (decide (q08 b=2))):=by
 have C1:=q7t hb
 by_cases h:q08 b=2
 ·rw [decide_eq_true h];have q:(((q08 b:Nat):Int) == 2)=true:=by rw [h]; rfl
  refine ac0 Tryz.func276 Tryz.ntmps276 [.tmp 2] ?_;exact wk1 q trivial
 ·rw [decide_eq_false h];have q:(((q08 b:Nat):Int) == 2)=false:=by simp; omega
  refine ac0 Tryz.func276 Tryz.ntmps276 [.tmp 2] ?_;exact wk1 q trivial
def qk9 (hb:b < 18446744073709551616):ACt 277 [uv b] (bv (decide (q3T b=0))):=by
 have C1:=q7t hb;have hk:=q8y hb
 by_cases h:q3T b=0
 ·rw [decide_eq_true h];have q:(((q08 b:Nat):Int) == 0)=true:=by rw [hk.2 h]; rfl
  refine ac0 Tryz.func277 Tryz.ntmps277 [.tmp 2] ?_;exact wk1 q trivial
 ·rw [decide_eq_false h];have q:(((q08 b:Nat):Int) == 0)=false:=by
   have:q08 b≠0:=λe=>h (hk.1 e);simp; omega
  refine ac0 Tryz.func277 Tryz.ntmps277 [.tmp 2] ?_;exact wk1 q trivial
def qfM (hb:b < 18446744073709551616):ACt 80 [uv b] (bv (decide (q08 b=2))):=by
 have C1:=q5N hb
 by_cases h:q08 b=2
 ·rw [decide_eq_true h];have q:(((q08 b:Nat):Int) == 2)=true:=by rw [h]; rfl
  refine ac0 Tryz.func80 Tryz.ntmps80 [.tmp 2] ?_;exact wk1 q trivial
 ·rw [decide_eq_false h];have q:(((q08 b:Nat):Int) == 2)=false:=by simp; omega
  refine ac0 Tryz.func80 Tryz.ntmps80 [.tmp 2] ?_;exact wk1 q trivial
def qfB (hb:b < 18446744073709551616):ACt 81 [uv b] (bv (decide (q3T b=0))):=by
 have C1:=q5N hb;have hk:=q8y hb
 by_cases h:q3T b=0
 ·rw [decide_eq_true h];have q:(((q08 b:Nat):Int) == 0)=true:=by rw [hk.2 h]; rfl
  refine ac0 Tryz.func81 Tryz.ntmps81 [.tmp 2] ?_;exact wk1 q trivial
 ·rw [decide_eq_false h];have q:(((q08 b:Nat):Int) == 0)=false:=by
   have:q08 b≠0:=λe=>h (hk.1 e);simp; omega
  refine ac0 Tryz.func81 Tryz.ntmps81 [.tmp 2] ?_;exact wk1 q trivial
def qkd (hf:b < 18446744073709551616) (h:q08 b≠3):ACt 275 [uv b] (uv (q5P b:Nat)):=by
 have C1:ACt 244 [.sl none [uv b]] (bv false):=qcF (l:=[b]) (λx hx=>by simp at hx; subst hx; exact ⟨hf,h⟩) (by simp);have N1:Nz (bv false):=qdL;have h1:=qbD hf;rw [show (if b < 9223372036854775808 then b+9223372036854775808 else b-9223372036854775808)=q5P b from rfl] at h1;refine ac0 Tryz.func275 Tryz.ntmps275 [.tmp 2] ?_;exact wk1 h1 trivial
def qjK (hf:b < 18446744073709551616) (h:q08 b≠3):ACt 79 [uv b] (uv (q5P b:Nat)):=by
 have C1:=q76 hf h;have h1:=qbD hf;rw [show (if b < 9223372036854775808 then b+9223372036854775808 else b-9223372036854775808)=q5P b from rfl] at h1;refine ac0 Tryz.func79 Tryz.ntmps79 [.tmp 2] ?_;exact wk1 h1 trivial
def qa2 (hm:mode=0\/mode=1\/mode=2):ACt 278 [iv mode] (uv ((if mode=1 then 9223372036854775808 else 0:Nat):Nat)):=by
 have C1:ACt 272 [uv 0,bv true] (uv 9223372036854775808):=q16 (f:=0) (neg:=true) Oq;have C2:ACt 272 [uv 0,bv false] (uv 0):=q16 (f:=0) (neg:=false) Oq
 rcases hm with rfl | rfl | rfl
 ·rw [if_neg (show ¬ (0:Int)=1 by decide)];have q:((0:Int) == 1)=false:=rfl;refine ac0 Tryz.func278 Tryz.ntmps278 [.tmp 2] ?_;refine wk1 q ?_
  rfl
 ·rw [if_pos rfl];refine ac0 Tryz.func278 Tryz.ntmps278 [.tmp 2] ?_;refine wk ?_
  rfl
 ·rw [if_neg (show ¬ (2:Int)=1 by decide)];have q:((2:Int) == 1)=false:=rfl;refine ac0 Tryz.func278 Tryz.ntmps278 [.tmp 2] ?_;refine wk1 q ?_
  rfl
def qfN (hm:mode=0\/mode=1\/mode=2):ACt 83 [iv mode] (uv ((if mode=1 then 9223372036854775808 else 0:Nat):Nat)):=by
 rcases hm with rfl | rfl | rfl
 ·rw [if_neg (show ¬ (0:Int)=1 by decide)];have q:((0:Int) == 1)=false:=rfl;refine ac0 Tryz.func83 Tryz.ntmps83 [.tmp 2] ?_;refine wk1 q ?_
  rfl
 ·rw [if_pos rfl];refine ac0 Tryz.func83 Tryz.ntmps83 [.tmp 2] ?_;refine wk ?_
  rfl
 ·rw [if_neg (show ¬ (2:Int)=1 by decide)];have q:((2:Int) == 1)=false:=rfl;refine ac0 Tryz.func83 Tryz.ntmps83 [.tmp 2] ?_;refine wk1 q ?_
  rfl
def qnb (ha:q0I a) (hb:q0I b):q0U (ofZ a+ofZ b):=by
 have:=q2b (qaG ha) (qaG hb);unfold q0U; omega
def qgr (hm:mode=0\/mode=1\/mode=2) (ha:a < 18446744073709551616/\q0I a) (hb:b < 18446744073709551616) (hk:q08 b≠3):ACt 193 [uv a,uv b,iv mode] (uv (q4v mode a b:Nat)):=by
 have C1:ACt 244 [.sl none [uv a,uv b]] (bv false):=qcF (l:=[a,b]) (λx hx=>by simp at hx; rcases hx with rfl | rfl; exact ⟨ha.1,q3N ha.2⟩; exact ⟨hb,hk⟩) (by simp);have N1:Nz (bv false):=qdL;have C2:=qgp ha.1;rw [decide_eq_false (q3v ha.2)] at C2;have C3:=qgp hb;have C4:=qk9 ha.1;unfold q4v
 by_cases hf:q0I b
 rotate_left
 ·rw [if_pos hf];rw [decide_eq_true (q8z hf hk)] at C3;refine ac0 Tryz.func193 Tryz.ntmps193 [.tmp 6] ?_;exact wk trivial
 rw [if_neg (not_not_intro hf)];rw [decide_eq_false (q3v hf)] at C3;have C5:=q4t ha.1 (q0T ha.2);have C6:=q4t hb (q0T hf);have hd:=qnb ha.2 hf;have C7:=q9h (q2c ha.2) (q2c hf) hd;have C8:=q3i hd;have C9:=qa2 hm;have C10:=qdZ hm hd;generalize hV:ofZ a+ofZ b=V at *;clear hV
 by_cases hz:q3T a=0
 ·by_cases he:a=b
  ·rw [if_pos ⟨hz,he⟩];subst he;rw [decide_eq_true hz] at C4;have q:((a:Int) == (a:Int))=true:=by simp
   refine ac0 Tryz.func193 Tryz.ntmps193 [.tmp 6] ?_;exact wk1 q trivial
  ·rw [if_neg λq=>he q.2];rw [decide_eq_true hz] at C4;have q:((a:Int) == (b:Int))=false:=by simp; omega
   by_cases h0:V=0
   ·subst h0;rw [if_pos rfl];rw [show (0:Int).sign=0 from rfl] at C8;refine ac0 Tryz.func193 Tryz.ntmps193 [.tmp 6] ?_;exact wk1 q trivial
   ·rw [if_neg h0];have q1:(V.sign == 0)=false:=by
     rw [beq_eq_false_iff_ne]; intro h; exact h0 (zQ.1 h)
    refine ac0 Tryz.func193 Tryz.ntmps193 [.tmp 6] ?_;exact wk1 (x2 q q1) trivial
 ·rw [if_neg λq=>hz q.1];rw [decide_eq_false hz] at C4
  by_cases h0:V=0
  ·subst h0;rw [if_pos rfl];rw [show (0:Int).sign=0 from rfl] at C8;refine ac0 Tryz.func193 Tryz.ntmps193 [.tmp 6] ?_;exact wk trivial
  ·rw [if_neg h0];have q1:(V.sign == 0)=false:=by
    rw [beq_eq_false_iff_ne]; intro h; exact h0 (zQ.1 h)
   refine ac0 Tryz.func193 Tryz.ntmps193 [.tmp 6] ?_;exact wk1 q1 trivial
def qqq (hm:mode=0\/mode=1\/mode=2) (ha:a < 18446744073709551616/\q0I a) (hb:b < 18446744073709551616) (hk:q08 b≠3):ACt 192 [uv a,uv b,iv mode] (uv (q9t mode a b:Nat)):=by
 have C1:=qkd hb hk;have C2:=qgr hm ha (qaL hb) (by rw [q5n hb]; exact hk);unfold q9t;refine ac0 Tryz.func192 Tryz.ntmps192 [.tmp 6] ?_;exact wk trivial
def qfO (hm:mode=0\/mode=1\/mode=2) (ha:a < 18446744073709551616/\q0I a) (hb:b < 18446744073709551616) (hk:q08 b≠3):ACt 23 [uv a,uv b,iv mode] (uv (q4v mode a b:Nat)):=by
 have C1:=q76 ha.1 (q3N ha.2);have D1:=q76 hb hk;have C2:=qfM ha.1;rw [decide_eq_false (q3v ha.2)] at C2;have C3:=qfM hb;have C4:=qfB ha.1;unfold q4v
 by_cases hf:q0I b
 rotate_left
 ·rw [if_pos hf];rw [decide_eq_true (q8z hf hk)] at C3;refine ac0 Tryz.func23 Tryz.ntmps23 [.tmp 6] ?_;exact wk trivial
 rw [if_neg (not_not_intro hf)];rw [decide_eq_false (q3v hf)] at C3;have C5:=q0w ha.1 (q0T ha.2);have C6:=q0w hb (q0T hf);have hd:=qnb ha.2 hf;have C7:=q4k (A:=ofZ a) (B:=ofZ b) hd;have C8:=q4I (V:=ofZ a+ofZ b);have C9:=qfN hm;have C10:=q3q (V:=ofZ a+ofZ b) (mode:=mode);have N2:=q1T (V:=ofZ a);have N3:=q1T (V:=ofZ b);have N4:=q1T (V:=ofZ a+ofZ b);generalize hV:ofZ a+ofZ b=V at *;clear hV
 by_cases hz:q3T a=0
 ·by_cases he:a=b
  ·rw [if_pos ⟨hz,he⟩];subst he;rw [decide_eq_true hz] at C4;have q:((a:Int) == (a:Int))=true:=by simp
   refine ac0 Tryz.func23 Tryz.ntmps23 [.tmp 6] ?_;exact wk1 q trivial
  ·rw [if_neg λq=>he q.2];rw [decide_eq_true hz] at C4;have q:((a:Int) == (b:Int))=false:=by simp; omega
   by_cases h0:V=0
   ·subst h0;rw [if_pos rfl];rw [show (0:Int).sign=0 from rfl] at C8;refine ac0 Tryz.func23 Tryz.ntmps23 [.tmp 6] ?_;exact wk1 q trivial
   ·rw [if_neg h0];have q1:(V.sign == 0)=false:=by
     rw [beq_eq_false_iff_ne]; intro h; exact h0 (zQ.1 h)
    refine ac0 Tryz.func23 Tryz.ntmps23 [.tmp 6] ?_;exact wk1 (x2 q q1) trivial
 ·rw [if_neg λq=>hz q.1];rw [decide_eq_false hz] at C4
  by_cases h0:V=0
  ·subst h0;rw [if_pos rfl];rw [show (0:Int).sign=0 from rfl] at C8;refine ac0 Tryz.func23 Tryz.ntmps23 [.tmp 6] ?_;exact wk trivial
  ·rw [if_neg h0];have q1:(V.sign == 0)=false:=by
    rw [beq_eq_false_iff_ne]; intro h; exact h0 (zQ.1 h)
   refine ac0 Tryz.func23 Tryz.ntmps23 [.tmp 6] ?_;exact wk1 q1 trivial
def qpU (hm:mode=0\/mode=1\/mode=2) (ha:a < 18446744073709551616/\q0I a) (hb:b < 18446744073709551616) (hk:q08 b≠3):ACt 22 [uv a,uv b,iv mode] (uv (q9t mode a b:Nat)):=by
 have C1:=qjK hb hk;have C2:=qfO hm ha (qaL hb) (by rw [q5n hb]; exact hk);unfold q9t;refine ac0 Tryz.func22 Tryz.ntmps22 [.tmp 6] ?_;exact wk trivial
end
def mlk (k:Nat) (z:Int):Prop:=∃ m:Int,z=m*(2:Int) ^ (65536-k)
def qpu {k:Nat}:mlk k 0:=⟨0,(xA _).symm⟩
def qfl {k:Nat} {a b:Int} (ha:mlk k a) (hb:mlk k b):mlk k (a+b):=by
 obtain ⟨x,rfl⟩:=ha;obtain ⟨y,rfl⟩:=hb;exact ⟨x+y,(uQ _ _ _).symm⟩
def qfj {k:Nat} {a:Int} (ha:mlk k a):mlk k (-a):=by
 obtain ⟨x,rfl⟩:=ha;exact ⟨-x,(xD _ _).symm⟩
def qaN {k:Nat} {a b:Int} (ha:mlk k a) (hb:mlk k b):mlk k (a-b):=by
 rw [Int.sub_eq_add_neg];exact qfl ha (qfj hb)
def qfm {k:Nat} {a:Int} (ha:mlk k a):mlk k (a.natAbs:Int):=by
 by_cases h:0<=a
 ·rw [show (a.natAbs:Int)=a by omega]; exact ha
 ·rw [show (a.natAbs:Int) = -a by omega]; exact qfj ha
def q7h {j k:Nat} {a:Int} (h:j<=k) (hk:k<=65536) (ha:mlk j a):mlk k a:=by
 obtain ⟨x,rfl⟩:=ha;exact ⟨x*(2:Int) ^ (k-j),by rw [zO,<- zV,show k-j+(65536-k)=65536-j by omega]⟩
def q8s {k:Nat} {g:Nat->Int}:∀ n,(∀ i,i < n->mlk k (g i))->mlk k (sg g n)
 | 0,_=>qpu
 | n+1,h=>qfl (q8s n λi hi=>h i Oq) (h n Oq)
def q8t {v:Nat} (h:q0I v):mlk 1074 (ofZ v):=qjU h
def qfi {j k K:Nat} {a b c:Int} (hK:K=65536) (ha:mlk j a) (hb:mlk k b) (hjk:j+k<=65536) (h:a*b=c*(2:Int) ^ K):mlk (j+k) c:=by
 obtain ⟨x,hx⟩:=ha;obtain ⟨y,hy⟩:=hb;refine ⟨x*y,Int.eq_of_mul_eq_mul_right (x7 (q0K K)) ?_⟩;rw [<- h,hx,hy];have:∀ p q:Int,x*p*(y*q)=x*y*(p*q):=λp q=>by rw [zO,zO,yY p y q]
 rw [this,zO (x*y),<- zV,<- zV,show 65536-j+(65536-k)=65536-(j+k)+K by omega]
def qfk {x y:Nat} (hx:q0I x) (hy:q0I y):mlk 2148 (q1P x y):=by
 obtain ⟨K,hK⟩:∃ K:Nat,K=65536:=⟨_,rfl⟩;have e:=q7k (q0m hx hy).1;rw [<- hK] at e;have h:=qfi hK (q8t hx) (q8t hy) Oq e;rw [show 1074+1074=2148 from rfl] at h;exact h
def qfh {K:Nat} (hK:K=65536):mlk 0 q2T:=⟨1,by rw [qbc,xO,Nat.sub_zero]⟩
def qdI {j k p q:Nat} {a b:Int} (ha:mlk j a) (hb:mlk k b) (hjk:j+k<=65536) (h1:bl a.natAbs<=p) (h2:bl b.natAbs<=q) (hpq:p+q<=196608):mkV (a*b) (-131072)=some (prZ a b)/\bl (prZ a b).natAbs<=p+q-65536/\mlk (j+k) (prZ a b)/\a*b=prZ a b*(2:Int) ^ 65536:=by
 obtain ⟨x,hx⟩:=id ha;obtain ⟨y,hy⟩:=id hb;obtain ⟨c,hc⟩:∃ c:Int,c=x*y*(2:Int) ^ (65536-(j+k)):=⟨_,rfl⟩;have e:a*b=c*(2:Int) ^ 65536:=by
  rw [hx,hy,hc];have:∀ p q:Int,x*p*(y*q)=x*y*(p*q):=λp q=>by rw [zO,zO,yY p y q]
  rw [this,zO (x*y),<- zV,<- zV,show 65536-j+(65536-k)=65536-(j+k)+65536 by omega]
 have hbc:bl c.natAbs<=p+q-65536:=by
  refine qn4 e ?_;have:=q11 a.natAbs b.natAbs;rw [<- z9] at this;omega
 have hk:mkV (a*b) (-131072)=some c:=by rw [e]; exact q7j (by unfold q0U; omega)
 unfold prZ;rw [hk];exact ⟨rfl,hbc,qfi rfl ha hb hjk e,e⟩
def vrX (F:Nat->Nat->Option Nat) (n:Nat) (b z:List Nat) (i:Nat):Int:=ofZ (b.getD i 0)-sg (λj=>q1P ((F j i).getD 0) (z.getD j 0)) n
def vsX (n:Nat) (v:List Nat) (r:Nat->Int) (i:Nat):Int:=sg (λk=>prZ (ofZ (v.getD (k*n+i) 0)) (r k)) n
def vdX (n:Nat) (v:List Nat) (r:Nat->Int) (i:Nat):Int:=((vsX n v r i).natAbs:Int)
def vnX (d g u m:Int):Int:=prZ d g+prZ u m
def vIv (z:Nat) (num g:Int):Nat × Nat:=(q9t 1 z (fQ 2 num g),q4v 2 z (fQ 2 num g))
section
variable {F:Nat->Nat->Option Nat} {n:Nat} {b z v:List Nat}
def vfD (F:Nat->Nat->Option Nat) (n:Nat) (v b z:List Nat):List Int:=(List.range n).map (vdX n v (vrX F n b z))
def vfG (F:Nat->Nat->Option Nat) (n:Nat) (v:List Nat):Int:=q2T-grZ (btL n v F)
def vfN (F:Nat->Nat->Option Nat) (n:Nat) (v b z:List Nat) (i:Nat):Int:=vnX (vdX n v (vrX F n b z) i) (vfG F n v) (btZ n v F i) (grZ (vfD F n v b z))
def vfL (F:Nat->Nat->Option Nat) (n:Nat) (v b z:List Nat) (i:Nat):List (Nat × Nat):=(List.range i).map λi=>vIv (z.getD i 0) (vfN F n v b z i) (vfG F n v)
def vfO (F:Nat->Nat->Option Nat) (n:Nat) (v b z:List Nat):List (Nat × Nat) × Bool:=if q2T<=grZ (btL n v F) then ([],false) else (vfL F n v b z n,true)
def qqW {k:Nat} {l:List Int} (h:∀ x ∈ l,mlk k x):mlk k (grZ l):=qwV qpu h
def btE_k (h:TOk F n n) (hv:q03 v) {i j:Nat} (hj:j < n):mlk 2148 (btE n v F i j):=by
 unfold btE;refine qaN ?_ (q8s n λk hk=>qfk (q0c hv).2 (h.finD hj hk))
 split
 ·exact q7h Oq Oq (qfh rfl)
 ·exact qpu
def qr2 (h:TOk F n n) (hv:q03 v) {i:Nat}:mlk 2148 (btZ n v F i):=q8s n λj hj=>qfm (btE_k h hv hj)
def btL_k (h:TOk F n n) (hv:q03 v):∀ x ∈ btL n v F,mlk 2148 x:=λx hx=>by
 obtain ⟨i,_,rfl⟩:=zH.1 hx;exact qr2 h hv
def qbF (h:TOk F n n) (hv:q03 v):mlk 2148 (vfG F n v)/\bl (vfG F n v).natAbs<=67608:=by
 unfold vfG;refine ⟨qaN (q7h Oq Oq (qfh rfl)) (qqW (btL_k h hv)),q9V (k:=67607) ?_ (qgQ (qyB h hv))⟩;have:=q4g;omega
def q51 (h:TOk F n n) (hb:q03 b) (hz:q03 z) {i:Nat} (hi:i < n):mlk 2148 (vrX F n b z i)/\bl (vrX F n b z i).natAbs<=67596:=by
 unfold vrX;refine ⟨qaN (q7h Oq Oq (q8t (q0c hb).2)) (q8s n λj hj=>qfk (h.finD hj hi) (q0c hz).2),q9V (k:=67595) ?_ ?_⟩
 ·have:=qaG (q0c hb (i:=i)).2; omega
 ·exact q8h (K:=67584) n (by have:=h.r; omega) λj hj=>qbi (h.finD hj hi) (q0c hz).2
def q84 (hv:q03 v) {r:Nat->Int} {i k:Nat} (hr:mlk 2148 (r k)/\bl (r k).natAbs<=67596):mkV (ofZ (v.getD (k*n+i) 0)*r k) (-131072)=some (prZ (ofZ (v.getD (k*n+i) 0)) (r k))/\bl (prZ (ofZ (v.getD (k*n+i) 0)) (r k)).natAbs<=68620/\mlk 3222 (prZ (ofZ (v.getD (k*n+i) 0)) (r k)):=by
 obtain ⟨h1,h2,h3,_⟩:=qdI (p:=66560) (q:=67596) (q8t (q0c hv (i:=k*n+i)).2) hr.1 Oq (qaG (q0c hv).2) hr.2 Oq;exact ⟨h1,by omega,h3⟩
def q62 (hn:n<=1000) (hv:q03 v) {r:Nat->Int} (hr:∀ k,k < n->mlk 2148 (r k)/\bl (r k).natAbs<=67596) {i:Nat}:mlk 3222 (vdX n v r i)/\bl (vdX n v r i).natAbs<=68631/\bl (vsX n v r i).natAbs<=68631:=by
 have h1:mlk 3222 (vsX n v r i):=q8s n λk hk=>(q84 hv (hr k hk)).2.2;have h2:bl (vsX n v r i).natAbs<=68631:=q8h (K:=68620) n hn λk hk=>(q84 hv (hr k hk)).2.1;unfold vdX;exact ⟨qfm h1,by rw [zE]; exact h2,h2⟩
def qbG (h:TOk F n n) (hv:q03 v) (hb:q03 b) (hz:q03 z):∀ x ∈ vfD F n v b z,mlk 3222 x/\bl x.natAbs<=68631:=λx hx=>by
 obtain ⟨i,_,rfl⟩:=zH.1 hx;have:=q62 (v:=v) (r:=vrX F n b z) (i:=i) (by have:=h.r; omega) hv λk hk=>q51 h hb hz hk;exact ⟨this.1,this.2.1⟩
def qld (h:TOk F n n) (hv:q03 v) (hb:q03 b) (hz:q03 z) {i:Nat} (hi:i < n) :
  mkV (vdX n v (vrX F n b z) i*vfG F n v) (-131072)=some (prZ (vdX n v (vrX F n b z) i) (vfG F n v))/\mkV (btZ n v F i*grZ (vfD F n v b z)) (-131072)=some (prZ (btZ n v F i) (grZ (vfD F n v b z)))/\bl (vfN F n v b z i).natAbs<=70706/\q0U (grZ (vfD F n v b z)):=by
 have d:=q62 (v:=v) (r:=vrX F n b z) (i:=i) (by have:=h.r; omega) hv λk hk=>q51 h hb hz hk;have g:=qbF h hv;have m1:=qqW λx hx=>(qbG h hv hb hz x hx).1;have m2:=qgQ λx hx=>(qbG h hv hb hz x hx).2;have u1:=qr2 h hv (i:=i);have u2:=q9T h hv (i:=i);obtain ⟨a1,a2,_⟩:=qdI d.1 g.1 Oq d.2.1 g.2 Oq;obtain ⟨b1,b2,_⟩:=qdI u1 m1 Oq u2 m2 Oq;refine ⟨a1,b1,?_,by unfold q0U; omega⟩;unfold vfN vnX;have:=q2b (a:=prZ (vdX n v (vrX F n b z) i) (vfG F n v)) (b:=prZ (btZ n v F i) (grZ (vfD F n v b z))) (k:=70705) Oq Oq;omega
end
def qet {A B:Nat} (hB:0 < B):A<=B*rq 2 false A B:=by
 have h1:=xM A B;have h2:=xW A hB;have h3:B*(A / B+1)=B*(A / B)+B:=by rw [Nat.mul_add,uW]
 unfold rq
 split
 ·omega
 ·rw [if_neg (by omega:¬ (2:Int)=1),if_pos rfl,if_neg (by simp),h3]; omega
def qpj {neg:Bool} {E:Nat} (hE:E=66507):ofF (sb neg 9218868437227405311)=some (sgn neg 9007199254740991*(2:Int) ^ E):=by
 unfold ofF;have h1:sb neg 9218868437227405311 / 4503599627370496 % 2048=2046:=by unfold sb; cases neg <;> simp
 have h2:sb neg 9218868437227405311 % 4503599627370496=4503599627370495:=by unfold sb; cases neg <;> simp
 have h3:decide (9223372036854775808<=sb neg 9218868437227405311)=neg:=by unfold sb; cases neg <;> simp
 rw [h1,if_neg (by omega),if_neg (by omega),h2,h3,show 64461+2046=E by omega]
def qpe {mode:Int} {neg:Bool} (hm:mode=1\/mode=2) (h:awy mode neg=true):q6i mode neg=sb neg 9218868437227405312:=by
 unfold q6i;unfold awy at h;rw [if_neg];rintro (h1 | ⟨h1,h2⟩ | ⟨h1,h2⟩)
 ·omega
 ·subst h1 h2; simp at h
 ·subst h1 h2; simp at h
def qpg {mode:Int} {neg:Bool} (hm:mode=1\/mode=2) (h:awy mode neg=false):q6i mode neg=sb neg 9218868437227405311:=by
 unfold q6i;unfold awy at h;rw [if_pos]
 rcases hm with rfl | rfl
 ·exact .inr (.inl ⟨rfl,by simpa using h⟩)
 ·exact .inr (.inr ⟨rfl,by simpa using h⟩)
def qpL {mode:Int} {neg:Bool} {A B:Nat} (hm:mode=1\/mode=2) (hB:0 < B) (h:awy mode neg=true):A<=B*rq mode neg A B:=by
 have h1:=xM A B;have h2:=xW A hB;have h3:B*(A / B+1)=B*(A / B)+B:=by rw [Nat.mul_add,uW]
 unfold awy at h;unfold rq
 split
 ·omega
 ·rcases hm with rfl | rfl
  ·rw [if_pos rfl] at h ⊢;rw [if_pos h,h3]; omega
  ·rw [if_neg (by omega:¬ (2:Int)=1)] at h ⊢;rw [if_pos rfl,if_neg (by simpa using h),h3]; omega
def qvD {mode:Int} {neg:Bool} {A B:Nat} (hm:mode=1\/mode=2) (h:awy mode neg=false):B*rq mode neg A B<=A:=by
 have h1:=xM A B;unfold awy at h;unfold rq
 split
 ·omega
 ·rcases hm with rfl | rfl
  ·rw [if_pos rfl] at h ⊢;rw [if_neg (by simpa using h)]; omega
  ·rw [if_neg (by omega:¬ (2:Int)=1)] at h ⊢;rw [if_pos rfl,if_pos (by simpa using h)]; omega
def qm1 {mode:Int} {neg:Bool} {N D K:Nat} (hK:K=65536) (hm:mode=1\/mode=2) (hN:0 < N) (hD:0 < D) :
  (awy mode neg=true->rF mode neg N D=sb neg 9218868437227405312\/∃ y:Nat,ofF (rF mode neg N D)=some (sgn neg y)/\N*2 ^ K<=D*y)/\(awy mode neg=false->∃ y:Nat,ofF (rF mode neg N D)=some (sgn neg y)/\D*y<=N*2 ^ K):=by
 obtain ⟨u,r,h1,h2,h3,h4,h5⟩:=q38 (mode:=mode) (neg:=neg) (N:=N) (D:=D) (K:=K) hN hD Oq;rw [h2];have ha:awy mode neg=true->N*2 ^ K<=D*(r*2 ^ u):=λq=>by
  have:=qpL (A:=N*2 ^ K) hm (Nat.mul_pos hD (q0E u)) q;rw [<- h3,yQ,z8 (2 ^ u)] at this;exact this
 have ht:awy mode neg=false->D*(r*2 ^ u)<=N*2 ^ K:=λq=>by
  have:=qvD (A:=N*2 ^ K) (B:=D*2 ^ u) hm q;rw [<- h3,yQ,z8 (2 ^ u)] at this;exact this
 have good:ofF (fin mode neg r ((u:Int)-K))=some (sgn neg r*(2:Int) ^ u)->(awy mode neg=true->fin mode neg r ((u:Int)-K)=sb neg 9218868437227405312\/∃ y:Nat,ofF (fin mode neg r ((u:Int)-K))=some (sgn neg y)/\N*2 ^ K<=D*y)/\(awy mode neg=false->∃ y:Nat,ofF (fin mode neg r ((u:Int)-K))=some (sgn neg y)/\D*y<=N*2 ^ K):=λq=>by
  rw [<- q7V] at q;exact ⟨λw=>.inr ⟨_,q,ha w⟩,λw=>⟨_,q,ht w⟩⟩
 have bad:fin mode neg r ((u:Int)-K)=q6i mode neg->9007199254740992*2 ^ (K+971)<=r*2 ^ u->(awy mode neg=true->fin mode neg r ((u:Int)-K)=sb neg 9218868437227405312\/∃ y:Nat,ofF (fin mode neg r ((u:Int)-K))=some (sgn neg y)/\N*2 ^ K<=D*y)/\(awy mode neg=false->∃ y:Nat,ofF (fin mode neg r ((u:Int)-K))=some (sgn neg y)/\D*y<=N*2 ^ K):=λq hb=>by
  rw [q];refine ⟨λw=>.inl (qpe hm w),λw=>⟨9007199254740991*2 ^ (K+971),?_,?_⟩⟩
  ·rw [qpg hm w,qpj (E:=K+971) (by omega),<- q7V]
  ·refine zR (y9 D (zR (zP _ Oq) hb)) (ht w)
 by_cases hu:u+1076 < 2047+K
 ·exact good (q5x hK h1 h4 (by rcases h5 with h5 | h5; exact .inl h5; exact .inr h5.1) hu)
 have hr2:4503599627370496<=r:=by rcases h5 with h5 | h5; omega; exact h5.1
 by_cases hr:r=9007199254740992
 ·refine bad ?_ ?_
  ·unfold fin;rw [if_pos hr];unfold q4Y;rw [if_neg (by omega),if_pos (by omega)]
  ·rw [hr];exact y9 _ (yF Oq Oq)
 ·by_cases hu2:u+1076=2047+K
  ·refine good ?_;unfold fin;rw [if_neg hr,q4D (by omega) (by omega) (by omega) (.inr hr2),show ((u:Int)-K+65536).toNat=u by omega]
  ·refine bad ?_ ?_
   ·unfold fin;rw [if_neg hr];unfold q4Y;rw [if_neg (by omega),if_pos (by omega)]
   ·obtain ⟨w,rfl⟩:∃ w,u=K+971+1+w:=⟨u-(K+971+1),by omega⟩;have e:r*2 ^ (K+971+1+w)=r*2*2 ^ w*2 ^ (K+971):=by rw [show K+971+1+w=1+w+(K+971) by omega,uV,uV,Nat.pow_one,<- yQ,<- yQ]
    rw [e];refine zP _ ?_;have:=zI (show 9007199254740992<=r*2 by omega) (q0E w)
    rwa [uW] at this
def q5y {f:Nat} {V:Int} (h:ofF f=some V):q0I f/\ofZ f=V:=by
 refine ⟨λq=>?_,q01 h⟩;unfold ofF at h;rw [if_pos q] at h;cases h
def qmV (r:Nat):sgn true r = -(r:Int):=rfl
def qbZ (r:Nat):sgn false r=(r:Int):=rfl
def qwc {a b:Int} {K:Nat} (hK:K=65536) (hb:0 < b):fQ 2 a b=9218868437227405312\/(q0I (fQ 2 a b)/\a*(2:Int) ^ K<=b*ofZ (fQ 2 a b)):=by
 have hp:=q0K K;unfold fQ
 by_cases ha:a=0
 ·rw [if_pos ha,ha];refine .inr ⟨by simp [q0I],?_⟩;rw [q01 q3K]; simp
 ·rw [if_neg ha,decide_eq_false (show ¬ b < 0 by omega),xP];obtain ⟨d1,d2⟩:=qm1 (mode:=2) (neg:=decide (a < 0)) (N:=a.natAbs) (D:=b.natAbs) hK (.inr rfl) Oq Oq;have eb:((b.natAbs:Nat):Int)=b:=by omega
  by_cases hn:a < 0
  ·rw [decide_eq_true hn] at d1 d2 ⊢;obtain ⟨y,h1,h2⟩:=d2 rfl;obtain ⟨h3,h4⟩:=q5y h1;refine .inr ⟨h3,?_⟩;rw [h4,qmV];have h5:((b.natAbs*y:Nat):Int)<=((a.natAbs*2 ^ K:Nat):Int):=by exact_mod_cast h2
   rw [zK,zK,eb,q0V,show ((a.natAbs:Nat):Int) = -a by omega,xD] at h5;rw [Int.mul_neg];omega
  ·rw [decide_eq_false hn] at d1 d2 ⊢
   rcases d1 rfl with h | ⟨y,h1,h2⟩
   ·exact .inl h
   obtain ⟨h3,h4⟩:=q5y h1;refine .inr ⟨h3,?_⟩;rw [h4,qbZ];have h5:((a.natAbs*2 ^ K:Nat):Int)<=((b.natAbs*y:Nat):Int):=by exact_mod_cast h2
   rw [zK,zK,eb,q0V,show ((a.natAbs:Nat):Int)=a by omega] at h5;exact h5
def fQ_dn {a b:Int} {K:Nat} (hK:K=65536) (hb:0 < b):fQ 1 a b=18442240474082181120\/(q0I (fQ 1 a b)/\b*ofZ (fQ 1 a b)<=a*(2:Int) ^ K):=by
 have hp:=q0K K;unfold fQ
 by_cases ha:a=0
 ·rw [if_pos ha,ha];refine .inr ⟨by simp [q0I],?_⟩;rw [q01 q3K]; simp
 ·rw [if_neg ha,decide_eq_false (show ¬ b < 0 by omega),xP];obtain ⟨d1,d2⟩:=qm1 (mode:=1) (neg:=decide (a < 0)) (N:=a.natAbs) (D:=b.natAbs) hK (.inl rfl) Oq Oq;have eb:((b.natAbs:Nat):Int)=b:=by omega
  by_cases hn:a < 0
  ·rw [decide_eq_true hn] at d1 d2 ⊢
   rcases d1 rfl with h | ⟨y,h1,h2⟩
   ·exact .inl h
   obtain ⟨h3,h4⟩:=q5y h1;refine .inr ⟨h3,?_⟩;rw [h4,qmV];have h5:((a.natAbs*2 ^ K:Nat):Int)<=((b.natAbs*y:Nat):Int):=by exact_mod_cast h2
   rw [zK,zK,eb,q0V,show ((a.natAbs:Nat):Int) = -a by omega,xD] at h5;rw [Int.mul_neg];omega
  ·rw [decide_eq_false hn] at d1 d2 ⊢;obtain ⟨y,h1,h2⟩:=d2 rfl;obtain ⟨h3,h4⟩:=q5y h1;refine .inr ⟨h3,?_⟩;rw [h4,qbZ];have h5:((b.natAbs*y:Nat):Int)<=((a.natAbs*2 ^ K:Nat):Int):=by exact_mod_cast h2
   rw [zK,zK,eb,q0V,show ((a.natAbs:Nat):Int)=a by omega] at h5;exact h5
def qka {mode V:Int} {K:Nat} (hK:K=65536):fR mode V=fQ mode V ((2:Int) ^ K):=by
 have hp:=q0K K;unfold fR fQ;rw [decide_eq_false (show ¬ (2:Int) ^ K < 0 by omega),xP,<- hK]
 congr 2
def fR_up {V:Int}:fR 2 V=9218868437227405312\/(q0I (fR 2 V)/\V<=ofZ (fR 2 V)):=by
 obtain ⟨K,hK⟩:∃ K:Nat,K=65536:=⟨_,rfl⟩;have hp:=q0K K;rw [qka hK]
 rcases qwc (a:=V) hK hp with h | ⟨h1,h2⟩
 ·exact .inl h
 ·refine .inr ⟨h1,?_⟩;rw [xI] at h2;exact xC h2 hp
def fR_dn {V:Int}:fR 1 V=18442240474082181120\/(q0I (fR 1 V)/\ofZ (fR 1 V)<=V):=by
 obtain ⟨K,hK⟩:∃ K:Nat,K=65536:=⟨_,rfl⟩;have hp:=q0K K;rw [qka hK]
 rcases fQ_dn (a:=V) hK hp with h | ⟨h1,h2⟩
 ·exact .inl h
 ·refine .inr ⟨h1,?_⟩;rw [xI V] at h2;exact xC h2 hp
def qbd {b:Nat} (hb:b < 18446744073709551616) (hf:q0I b):ofZ (q5P b) = -ofZ b:=by
 have h1:q5P b / 4503599627370496 % 2048=b / 4503599627370496 % 2048:=by unfold q5P; split <;> omega
 have h2:q5P b % 4503599627370496=b % 4503599627370496:=by unfold q5P; split <;> omega
 have h3:decide (9223372036854775808<=q5P b)=!decide (9223372036854775808<=b):=by
  unfold q5P
  by_cases h:b < 9223372036854775808
  ·rw [if_pos h,decide_eq_true (by omega),decide_eq_false (by omega)]; rfl
  ·rw [if_neg h,decide_eq_false (by omega),decide_eq_true (by omega)]; rfl
 have h4:∀ (s:Bool) (m k:Nat),sgn (!s) m*(2:Int) ^ k = -(sgn s m*(2:Int) ^ k):=λs m k=>by
  cases s
  ·show -(m:Int)*_ = -((m:Int)*_)
   rw [xD]
  ·show (m:Int)*_ = -(-(m:Int)*_)
   rw [xD,Int.neg_neg]
 unfold q0I at hf;unfold ofZ ofF;rw [h1,h2,h3,if_neg hf,if_neg hf]
 split
 ·exact h4 _ _ _
 ·exact h4 _ _ _
def q6y {a:Nat} (hf:q0I a) (h:q3T a=0):ofZ a=0:=by
 unfold q3T at h;unfold q0I at hf;unfold ofZ ofF;rw [if_neg hf,if_pos (by omega),show a % 4503599627370496=0 by omega];have:∀ s:Bool,sgn s 0=0:=λs=>by cases s <;> rfl
 rw [this,xA]; rfl
def qvf:ofZ 9223372036854775808=0:=q6y (by simp [q0I]) (by simp [q3T])
def qs0 {a b:Nat} (ha:q0I a) (hb:q0I b):q4v 2 a b=9218868437227405312\/(q0I (q4v 2 a b)/\ofZ a+ofZ b<=ofZ (q4v 2 a b)):=by
 unfold q4v;rw [if_neg (not_not_intro hb)]
 split
 ·rename_i h;refine .inr ⟨ha,?_⟩;rw [<- h.2,q6y ha h.1]; omega
 ·split
  ·rename_i h;rw [if_neg (by omega),h];refine .inr ⟨by simp [q0I],?_⟩;rw [q01 q3K]; omega
  ·exact fR_up
def qs1 {a b:Nat} (ha:q0I a) (hb:q0I b):q4v 1 a b=18442240474082181120\/(q0I (q4v 1 a b)/\ofZ (q4v 1 a b)<=ofZ a+ofZ b):=by
 unfold q4v;rw [if_neg (not_not_intro hb)]
 split
 ·rename_i h;refine .inr ⟨ha,?_⟩;rw [<- h.2,q6y ha h.1]; omega
 ·split
  ·rename_i h;rw [if_pos rfl,h];refine .inr ⟨by simp [q0I],?_⟩;rw [qvf]; omega
  ·exact fR_dn
def qo5 {a b:Nat} (ha:q0I a) (hu:b < 18446744073709551616) (hb:q0I b):q9t 1 a b=18442240474082181120\/(q0I (q9t 1 a b)/\ofZ (q9t 1 a b)<=ofZ a-ofZ b):=by
 have h:=qs1 ha ((qbg hu).2 hb);rw [qbd hu hb] at h;exact h
def qeG {z:Nat}:q9t 1 z 9218868437227405312=18442240474082181120/\q4v 2 z 9218868437227405312=9218868437227405312:=by
 constructor
 ·unfold q9t q4v;rw [show q5P 9218868437227405312=18442240474082181120 from rfl,if_pos (by simp [q0I])]
 ·unfold q4v;rw [if_pos (by simp [q0I])]
def qp5 {m:Int} {k c:Nat} (h:c<=k):(2:Int) ^ c ∣ m*(2:Int) ^ k:=by
 obtain ⟨e,rfl⟩:∃ e,k=c+e:=⟨k-c,by omega⟩;rw [zV,yY];exact Int.dvd_mul_right _ _
def qfa {x y K:Nat} (hK:K=65536) (hx:q0I x) (hy:q0I y):q1P x y*(2:Int) ^ K=ofZ x*ofZ y/\∀ c,c<=60000->(2:Int) ^ c ∣ q1P x y:=by
 obtain ⟨m,k,h,h1,h2,h3⟩:=q2H hx;obtain ⟨m',k',h',h1',h2',h3'⟩:=q2H hy;have e:ofZ x*ofZ y=m*m'*(2:Int) ^ (k+k'):=by
  rw [q01 h,q01 h',zV];simp only [zO,yY,xI]
 have hb:bl (m*m').natAbs<=106:=by
  rw [z9];exact zR (q11 _ _) Oq
 have hm:=q5p (m:=m*m') (E := -131072+((k+k':Nat):Int)) Oq Oq;obtain ⟨t,ht⟩:∃ t,t=(-131072+((k+k':Nat):Int)+65536).toNat:=⟨_,rfl⟩;rw [<- ht] at hm;have hv:q1P x y=m*m'*(2:Int) ^ t:=by
  unfold q1P;rw [e,q1f,hm]; rfl
 refine ⟨?_,λc hc=>?_⟩
 ·rw [hv,e,zO,<- zV,show t+K=k+k' by omega]
 ·rw [hv]; exact qp5 Oq
open Go.Dt
def rK (K:Nat) (z:Int):Rat:=(z:Rat) / (((2:Int) ^ K:Int):Rat)
def pK0 (K:Nat):(((2:Int) ^ K:Int):Rat)≠0:=λh=>x7 (q0K K) (by exact_mod_cast h)
def qfL {K:Nat} {a b:Int}:rK K (a+b)=rK K a+rK K b:=by unfold rK; rw [Rat.intCast_add,Rat.div_def,Rat.div_def,Rat.div_def,Rat.add_mul]
def q8n {K:Nat} {a b:Int}:rK K (a-b)=rK K a-rK K b:=by unfold rK; rw [Rat.intCast_sub,Rat.div_def,Rat.div_def,Rat.div_def]; grind
def qsy {K:Nat}:rK K 0=0:=by unfold rK; simp [Rat.div_def]
def qfJ {K:Nat} {g:Nat->Int}:∀ n,rK K (sg g n)=sq (λi=>rK K (g i)) n
 | 0=>qsy
 | n+1=>by rw [sg,qfL,qfJ n,sq]
def qm0 {K:Nat} {x y:Nat} (hK:K=65536) (hx:q0I x) (hy:q0I y):rK K (q1P x y)=rK K (ofZ x)*rK K (ofZ y):=by
 have h:=(qfa hK hx hy).1;have p:=pK0 K;unfold rK;generalize (2:Int) ^ K=c at *;have h2:((q1P x y:Int):Rat)*((c:Int):Rat)=((ofZ x:Int):Rat)*((ofZ y:Int):Rat):=by
  rw [<- Rat.intCast_mul,<- Rat.intCast_mul,h]
 generalize ((q1P x y:Int):Rat)=a at *;generalize ((ofZ x:Int):Rat)=b at *;generalize ((ofZ y:Int):Rat)=d at *;generalize ((c:Int):Rat)=e at *
 grind
def pKp (K:Nat):0 < (((2:Int) ^ K:Int):Rat):=by exact_mod_cast q0K K
def q6V {K:Nat} {a b:Int}:rK K a<=rK K b ↔ a<=b:=by
 have p:=Rat.inv_pos.2 (pKp K);unfold rK;rw [Rat.div_def,Rat.div_def]
 constructor
 ·intro h
  by_cases q:a<=b
  ·exact q
  ·exfalso
   have h2:((b:Int):Rat) < (a:Rat):=by exact_mod_cast (show b < a by omega)
   have:=Rat.mul_lt_mul_of_pos_right h2 p
   grind
 ·intro h;exact Rat.mul_le_mul_of_nonneg_right (by exact_mod_cast h) (Rat.le_of_lt p)
def qjM {K:Nat} {a:Int}:rK K (a.natAbs:Int)=ab (rK K a):=by
 have h0:=qsy (K:=K);unfold ab
 by_cases h:a < 0
 ·rw [if_pos (by rw [<- h0]; exact Rat.not_le.1 λq=>by have:=q6V.1 q; omega),show (a.natAbs:Int)=0-a by omega,q8n,h0]; grind
 ·rw [if_neg (by rw [<- h0]; exact Rat.not_lt.2 (q6V.2 (by omega))),show (a.natAbs:Int)=a by omega]
def rK_P {K:Nat} {a b c:Int} (h:a*b=c*(2:Int) ^ K):rK K c=rK K a*rK K b:=by
 have p:=pK0 K;unfold rK;have h2:((c:Int):Rat)*(((2:Int) ^ K:Int):Rat)=(a:Rat)*(b:Rat):=by rw [<- Rat.intCast_mul,<- Rat.intCast_mul,h]
 generalize (((2:Int) ^ K:Int):Rat)=e at *;generalize ((a:Int):Rat)=u at *;generalize ((b:Int):Rat)=d at *;generalize ((c:Int):Rat)=g at *
 grind
def qfK {K:Nat} (hK:K=65536):rK K q2T=1:=by
 have p:=pK0 K;unfold rK;rw [qbc,<- hK,Rat.div_def,Rat.mul_inv_cancel _ p]
section
variable {F:Nat->Nat->Option Nat} {n K:Nat} {b z v:List Nat}
abbrev mA (K:Nat) (F:Nat->Nat->Option Nat):Mx:=λr c=>rK K (ofZ ((F c r).getD 0))
abbrev mR (K n:Nat) (v:List Nat):Mx:=λr k=>rK K (ofZ (v.getD (k*n+r) 0))
abbrev mB (K:Nat) (b:List Nat):Nat->Rat:=λi=>rK K (ofZ (b.getD i 0))
def qhZ (hK:K=65536) (h:TOk F n n) (hv:q03 v) {i:Nat} (hi:i < n):rK K (btZ n v F i)=sq (λj=>ab (E1 n (mA K F) (mR K n v) i j)) n:=by
 unfold btZ;rw [qfJ];refine q0X n λj hj=>?_;rw [qjM]
 congr 1
 unfold btE E1;rw [q8n,qfJ]
 congr 1
 ·split
  ·exact qfK hK
  ·exact qsy
 ·refine q0X n λk hk=>?_;unfold btD;exact qm0 hK (q0c hv).2 (h.finD hj hk)
def qmt {l:List Int} {x:Int} (h:x ∈ l):x<=grZ l:=by
 have key:∀ (l:List Int) (a:Int),x ∈ l->x<=l.foldl max a:=λl=>by
  induction l with
  | nil=>intro a h; cases h
  | cons y l ih =>
   intro a h;rw [y6]
   rcases List.mem_cons.1 h with rfl | h
   ·have:=(qbv l (max a x)).2;omega
   ·exact ih _ h
 exact key l 0 h
def qr1 (hK:K=65536) (h:TOk F n n) (hv:q03 v) {i:Nat} (hi:i < n):sq (λj=>ab (E1 n (mA K F) (mR K n v) i j)) n<=rK K (grZ (btL n v F)):=by
 rw [<- qhZ hK h hv hi];exact q6V.2 (qmt (zH.2 ⟨i,uR.2 hi,rfl⟩))
def bt_1 (hK:K=65536) (hg:¬ q2T<=grZ (btL n v F)):rK K (grZ (btL n v F)) < 1:=by
 rw [<- qfK hK];exact Rat.not_le.1 λq=>hg (q6V.1 q)
def qlc (hK:K=65536) (h:TOk F n n) (hv:q03 v) (hg:¬ q2T<=grZ (btL n v F)):det n (mA K F)≠0:=qrH (λi hi=>qr1 hK h hv hi) (bt_1 hK hg)
def qoL (hK:K=65536) (h:TOk F n n) (hz:q03 z) {k:Nat} (hk:k < n):rK K (vrX F n b z k)=mB K b k-mv n (mA K F) (mB K z) k:=by
 unfold vrX mv;rw [q8n,qfJ]
 congr 1
 exact q0X n λj hj=>qm0 hK (h.finD hj hk) (q0c hz).2
def qeD (hK:K=65536) (h:TOk F n n) (hv:q03 v) (hb:q03 b) (hz:q03 z) {i:Nat}:rK K (vsX n v (vrX F n b z) i)=sq (λk=>mR K n v i k*(mB K b k-mv n (mA K F) (mB K z) k)) n:=by
 unfold vsX;rw [qfJ];refine q0X n λk hk=>?_;have r:=q51 h hb hz hk;obtain ⟨_,_,_,e⟩:=qdI (p:=66560) (q:=67596) (q8t (q0c hv (i:=k*n+i)).2) r.1 Oq (qaG (q0c hv).2) r.2 Oq;rw [<- hK] at e;rw [rK_P e,qoL hK h hz hk]
def qoO (hK:K=65536) (h:TOk F n n) (hv:q03 v) (hb:q03 b) (hz:q03 z) {i:Nat}:rK K (vfN F n v b z i)=rK K (vdX n v (vrX F n b z) i)*rK K (vfG F n v)+rK K (btZ n v F i)*rK K (grZ (vfD F n v b z)):=by
 have d:=q62 (v:=v) (r:=vrX F n b z) (i:=i) (by have:=h.r; omega) hv λk hk=>q51 h hb hz hk;have g:=qbF h hv;have m1:=qqW λx hx=>(qbG h hv hb hz x hx).1;have m2:=qgQ λx hx=>(qbG h hv hb hz x hx).2;obtain ⟨_,_,_,a1⟩:=qdI d.1 g.1 Oq d.2.1 g.2 Oq;obtain ⟨_,_,_,b1⟩:=qdI (qr2 h hv (i:=i)) m1 Oq (q9T h hv (i:=i)) m2 Oq;rw [<- hK] at a1 b1;unfold vfN vnX;rw [qfL,rK_P a1,rK_P b1]
def qoN (hK:K=65536) (h:TOk F n n) (hv:q03 v) (hb:q03 b) (hz:q03 z) (hg:¬ q2T<=grZ (btL n v F)) {y:Nat->Rat} (hy:∀ i,i < n->mv n (mA K F) y i=mB K b i) {i:Nat} (hi:i < n):ab (y i-mB K z i)*rK K (vfG F n v)<=rK K (vfN F n v b z i):=by
 have hD0:0<=rK K (grZ (vfD F n v b z)):=by rw [<- qsy (K:=K)]; exact q6V.2 qms
 have hb0:0<=rK K (grZ (btL n v F)):=by rw [<- qsy (K:=K)]; exact q6V.2 qms
 have s:=sol_c (A:=mA K F) (R:=mR K n v) (β:=rK K (grZ (btL n v F))) (D:=rK K (grZ (vfD F n v b z))) (λi hi=>qr1 hK h hv hi) hb0 (bt_1 hK hg) hy hD0 (z:=mB K z) (λi hi=>by
  rw [<- qeD hK h hv hb hz,<- qjM];exact q6V.2 (qmt (zH.2 ⟨i,uR.2 hi,rfl⟩))) hi
 rw [<- qeD hK h hv hb hz,<- qjM,<- qhZ hK h hv hi] at s;rw [qoO hK h hv hb hz];have e:rK K (vfG F n v)=1-rK K (grZ (btL n v F)):=by unfold vfG; rw [q8n,qfK hK]
 rw [<- e] at s;change (_-rK K (vdX n v (vrX F n b z) i))*_<=_ at s;generalize rK K (vdX n v (vrX F n b z) i)=p at *;generalize rK K (btZ n v F i)*rK K (grZ (vfD F n v b z))=q at *;generalize rK K (vfG F n v)=g at *;generalize ab (y i-mB K z i)=a at *
 grind
def inIv (K:Nat) (p:Nat × Nat) (num den:Int):Prop:=(p.1=18442240474082181120\/(q0I p.1/\ofZ p.1*den<=num*(2:Int) ^ K))/\(p.2=9218868437227405312\/(q0I p.2/\num*(2:Int) ^ K<=ofZ p.2*den))
def rK_dn {K:Nat} {L num den:Int} (hd:0 < den) (h:rK K L<=(num:Rat) / (den:Rat)):L*den<=num*(2:Int) ^ K:=by
 have p:=pKp K;have hd2:(0:Rat) < (den:Rat):=by exact_mod_cast hd
 have h1:(L:Rat)*(den:Rat)<=(num:Rat)*(((2:Int) ^ K:Int):Rat):=by
  unfold rK at h;generalize (((2:Int) ^ K:Int):Rat)=c at *;have e1:(L:Rat)=(L:Rat) / c*c:=(Rat.div_mul_cancel (by grind)).symm;have e2:(num:Rat)=(num:Rat) / (den:Rat)*(den:Rat):=(Rat.div_mul_cancel (by grind)).symm;rw [e1,e2];generalize (L:Rat) / c=s at *;generalize (num:Rat) / (den:Rat)=t at *;have h2:=Rat.mul_le_mul_of_nonneg_right (Rat.mul_le_mul_of_nonneg_right h (Rat.le_of_lt p)) (Rat.le_of_lt hd2)
  grind
 exact_mod_cast h1
def rK_up {K:Nat} {L num den:Int} (hd:0 < den) (h:(num:Rat) / (den:Rat)<=rK K L):num*(2:Int) ^ K<=L*den:=by
 have p:=pKp K;have hd2:(0:Rat) < (den:Rat):=by exact_mod_cast hd
 have h1:(num:Rat)*(((2:Int) ^ K:Int):Rat)<=(L:Rat)*(den:Rat):=by
  unfold rK at h;generalize (((2:Int) ^ K:Int):Rat)=c at *;have e1:(L:Rat)=(L:Rat) / c*c:=(Rat.div_mul_cancel (by grind)).symm;have e2:(num:Rat)=(num:Rat) / (den:Rat)*(den:Rat):=(Rat.div_mul_cancel (by grind)).symm;rw [e1,e2];generalize (L:Rat) / c=s at *;generalize (num:Rat) / (den:Rat)=t at *;have h2:=Rat.mul_le_mul_of_nonneg_right (Rat.mul_le_mul_of_nonneg_right h (Rat.le_of_lt p)) (Rat.le_of_lt hd2)
  grind
 exact_mod_cast h1
def qtd {K:Nat} (hK:K=65536) {c:Nat} (hc:q0I c) {N G:Int} (hG:0 < G) {num den:Int} (hd:0 < den) (h:ab ((num:Rat) / (den:Rat)-rK K (ofZ c))*rK K G<=rK K N):inIv K (vIv c N G) num den:=by
 unfold vIv;have hG0:0 < rK K G:=by rw [<- qsy (K:=K)]; exact Rat.not_le.1 λq=>by have:=q6V.1 q; omega
 rcases qwc (a:=N) (b:=G) hK hG with e | ⟨hf,e⟩
 ·rw [e,qeG.1,qeG.2];exact ⟨.inl rfl,.inl rfl⟩
 ·have hu:=qa1 (mode:=2) (a:=N) (b:=G) Oq;generalize fQ 2 N G=r at *;have h1:rK K N<=rK K G*rK K (ofZ r):=by
   have p:=Rat.inv_pos.2 (pKp K);have p2:=pK0 K;have e2:(N:Rat)*(((2:Int) ^ K:Int):Rat)<=(G:Rat)*(ofZ r:Rat):=by exact_mod_cast e
   unfold rK;rw [Rat.div_def,Rat.div_def,Rat.div_def];have e3:=Rat.mul_le_mul_of_nonneg_right (Rat.mul_le_mul_of_nonneg_right e2 (Rat.le_of_lt p)) (Rat.le_of_lt p);rw [Rat.mul_assoc (N:Rat),Rat.mul_inv_cancel _ p2] at e3;generalize (((2:Int) ^ K:Int):Rat)⁻¹=w at *
   grind
  have h2:ab ((num:Rat) / (den:Rat)-rK K (ofZ c))<=rK K (ofZ r):=by
   have h3:=Rat.le_trans h h1;rw [Rat.mul_comm (rK K G)] at h3;exact Rat.le_of_mul_le_mul_right h3 hG0
  generalize hx:(num:Rat) / (den:Rat)=x at *;have h4:rK K (ofZ c)-rK K (ofZ r)<=x/\x<=rK K (ofZ c)+rK K (ofZ r):=by
   unfold ab at h2
   split at h2 <;> constructor <;> grind
  rw [<- q8n,<- qfL] at h4;refine ⟨?_,?_⟩
  ·rcases qo5 hc hu hf with q | ⟨q1,q2⟩
   ·exact .inl q
   ·exact .inr ⟨q1,rK_dn hd (by rw [hx]; exact Rat.le_trans (q6V.2 q2) h4.1)⟩
  ·rcases qs0 hc hf with q | ⟨q1,q2⟩
   ·exact .inl q
   ·exact .inr ⟨q1,rK_up hd (by rw [hx]; exact Rat.le_trans h4.2 (q6V.2 q2))⟩
def qt9 (hK:K=65536) (h:TOk F n n) (hv:q03 v) (hb:q03 b) (hz:q03 z) (hg:¬ q2T<=grZ (btL n v F)) {N:Nat->Int} {D:Int} (hD:0 < D) (hy:∀ i,i < n->mv n (mA K F) (λi=>(N i:Rat) / (D:Rat)) i=mB K b i) {i:Nat} (hi:i < n):inIv K (vIv (z.getD i 0) (vfN F n v b z i) (vfG F n v)) (N i) D :=
 qtd hK (q0c hz).2 (by unfold vfG; omega) hD (qoN hK h hv hb hz hg hy hi)
end
def sgn_d {b k:Int} (hb:b≠0):sgn (decide (b*k < 0) != decide (b < 0)) k.natAbs=k:=by
 unfold sgn
 rcases Int.lt_trichotomy k 0 with h | rfl | h
 ·rcases yU hb with g | g
  ·have:=Int.mul_pos_of_neg_of_neg g h;rw [if_pos (by simp; omega)]; omega
  ·have:=Int.mul_neg_of_pos_of_neg g h;rw [if_pos (by simp; omega)]; omega
 ·simp
 ·rcases yU hb with g | g
  ·have:=Int.mul_neg_of_neg_of_pos g h;rw [if_neg (by simp; omega)]; omega
  ·have:=Int.mul_pos g h;rw [if_neg (by simp; omega)]; omega
def qur {s:Bool}:sgn s 0=0:=by cases s <;> rfl
def qid {b k:Int} (ha:bl (b*k).natAbs<=20000000) (hb:bl b.natAbs<=20000000) (hb0:b≠0):ACt 339 [bT (b*k),bT b] (.tu [bT k,bT 0]):=by
 have cA:=q2j ha;have cB:=q2j hb;have cD:=q68 ha hb Oq;have e1:(b*k).natAbs / b.natAbs=k.natAbs:=by rw [z9,xG _ (by omega)]
 have e2:(b*k).natAbs % b.natAbs=0:=by rw [z9,Nat.mul_mod_right]
 rw [e1,e2] at cD;have hk:bl k.natAbs<=20000000:=by
  have:=q0e (Nat.div_le_self (b*k).natAbs b.natAbs);rw [e1] at this; omega
 have cQ:=q3n (s:=decide (b*k < 0) != decide (b < 0)) (z:=k.natAbs) hk;have cR:=q3n (s:=decide (b*k < 0)) (z:=0) (by rw [q07]; omega);have cS:=q0r (a:=0) (by rw [show (0:Int).natAbs=0 from rfl,q07]; omega);rw [sgn_d hb0] at cQ;rw [qur] at cR;have hs:¬ (0:Int).sign < 0:=by simp
 generalize (0:Int).sign=sg at *;have d0:decide ((0:Int) < 0)=false:=rfl;unfold bT at *;rw [d0] at *;generalize decide (b*k < 0)=s at *;generalize decide (b < 0)=t at *;generalize decide (k < 0)=u at *;generalize (decide (b < 0))=t at *;generalize b*k=a at *;refine ac0 Tryz.func339 Tryz.ntmps339 [.cell 4 46,.cell 5 46] ?_;exact wk1 hs trivial
def q7P {b k:Int} (ha:bl (b*k).natAbs<=20000000) (hb:bl b.natAbs<=20000000) (hb0:b≠0):ACt 351 [bT (b*k),bT b] (.tu [bT k,bv true]):=by
 have cD:=qid ha hb hb0;have cS:=q0r (a:=0) (by rw [show (0:Int).natAbs=0 from rfl,q07]; omega);have hs:((0:Int).sign != 0)=false:=by simp
 generalize (0:Int).sign=sg at *;unfold bT at *;generalize decide (b*k < 0)=s at *;generalize decide (b < 0)=t at *;generalize decide (k < 0)=u at *;generalize b*k=a at *;refine ac0 Tryz.func351 Tryz.ntmps351 [.cell 4 46,.tmp 5] ?_;exact wk1 hs trivial
def qo2 {a b:Int} (ha:bl a.natAbs<=20000000) (hb:bl b.natAbs<=20000000):ACt 350 [bT a,bT b] (bT (yZ a b:Nat)):=by
 have cA:=q41 ha;have cB:=q41 hb;have hG:wC a.natAbs b.natAbs=yZ a b:=rfl;rw [<- hG];clear hG;have d:∀ z:Nat,decide ((z:Int) < 0)=false:=λz=>decide_eq_false Oq;generalize a.natAbs=x0 at *;generalize b.natAbs=y0 at *;have cS:=λ(y:Nat) (h:bl y<=20000000)=>q0r (a:=y) (by rw [zE]; exact h);have cD:=λ(x y:Nat) (h1:bl x<=20000000) (h2:bl y<=20000000) (h3:y≠0)=>q67 h1 h2 h3;unfold bT at *;simp only [d] at cA cB cS cD ⊢;refine ac0 Tryz.func350 Tryz.ntmps350 [.cell 4 46] ?_;refine wk ?_;refine q0B (λp:Nat × Nat=>wC p.1 p.2=wC x0 y0/\bl p.1<=20000000/\bl p.2<=20000000) [0,1,2,3,4,5,6] [2,3,4] Lk Lk (λ_=>[]) (λp=>[(5,⟨46,some 2,[.ag [bv false,.fm (fL p.1)]],false⟩),(6,⟨46,some 2,[.ag [bv false,.fm (fL p.2)]],false⟩)]) (λp=>p.2) (x0,y0) ⟨rfl,ha,hb⟩ ?_ ?_
 ·refine LeM [] rfl rfl ?_;exact Zy
 ·rintro ⟨x,y⟩ ⟨hg,hx,hy⟩;dsimp only at hg hx hy ⊢;have c1:=cS y hy
  by_cases h0:y=0
  ·subst h0;have hs:(((0:Nat):Int).sign != 0)=false:=by simp
   generalize ((0:Nat):Int).sign=sg at *;rw [Nat.gcd_zero_right] at hg;refine wk1 hs ?_;rw [hg]
  ·have c2:=cD x y hx hy h0;have hs:((y:Int).sign != 0)=true:=by rw [yA (by omega)]; rfl
   have hm:bl (x % y)<=20000000:=zR (q0e (xY (xW _ Oq))) hy;have hl:x % y < y:=xW _ Oq;have hg2:wC y (x % y)=wC x0 y0:=by rw [<- hg,Nat.gcd_comm x y,Nat.gcd_rec y x,Nat.gcd_comm]
   generalize (y:Int).sign=sg at *;generalize x % y=r at *;generalize x / y=q at *;refine wk1 hs ?_;refine ⟨(y,r),⟨hg2,hy,hm⟩,hl,?_⟩;refine LeM [] rfl rfl ?_;exact Zy
abbrev qT (q:Rat):PV:=.ag [bv (decide (q.num < 0)),.fm (fL q.num),bv (decide ((q.den:Int) < 0)),.fm (fL (q.den:Nat))]
def qv1 {n d:Int} (h0:d≠0):n=(d.sign*(yZ n d:Nat))*((n:Rat) / (d:Rat)).num/\d=(d.sign*(yZ n d:Nat))*(((n:Rat) / (d:Rat)).den:Nat):=by
 rw [<- Rat.divInt_eq_div,Rat.num_divInt,Rat.den_divInt,if_neg h0,Int.gcd_comm d n];have g0:yZ n d≠0:=λh=>h0 (xR.1 h).2;obtain ⟨x,hx⟩:=Int.gcd_dvd_left n d;obtain ⟨y,hy⟩:=Int.gcd_dvd_right n d;generalize yZ n d=g at *;have hg:(g:Int)≠0:=by omega
 have hs:d.sign*d.sign=1:=by
  rcases yU h0 with h | h
  ·rw [yC h]; rfl
  ·rw [yA h]; rfl
 constructor
 ·have e:d.sign*n=g*(d.sign*x):=by rw [hx]; grind
  rw [e,Int.mul_ediv_cancel_left _ hg];have:d.sign*(g:Int)*(d.sign*x)=(d.sign*d.sign)*(g*x):=by grind
  rw [this,hs,xO]; exact hx
 ·have e:d.natAbs / g=y.natAbs:=by rw [hy,z9,zE,xG _ (by omega)]
  rw [e];have e2:d.sign*(d.natAbs:Int)=d:=Int.sign_mul_natAbs d;have e3:(d.natAbs:Int)=g*(y.natAbs:Int):=by rw [hy,z9,zE]; simp
  rw [zO,<- e3,e2]
def q_le {n d:Int} (h0:d≠0):bl ((n:Rat) / (d:Rat)).num.natAbs<=bl n.natAbs/\bl ((n:Rat) / (d:Rat)).den<=bl d.natAbs:=by
 obtain ⟨h1,h2⟩:=qv1 (n:=n) h0;have g0:0 < (d.sign*(yZ n d:Nat):Int).natAbs:=by
  refine Nat.pos_of_ne_zero λh=>?_;have h:=Int.natAbs_eq_zero.1 h;rw [h,xA] at h2;exact h0 h2
 generalize (d.sign*(yZ n d:Nat):Int)=g at *
 constructor
 ·refine q0e ?_;have:n.natAbs=g.natAbs*((n:Rat) / (d:Rat)).num.natAbs:=by rw [<- z9,<- h1]
  rw [this];exact xJ _ g0
 ·refine q0e ?_;have:d.natAbs=g.natAbs*((n:Rat) / (d:Rat)).den:=by
   have:=congrArg Int.natAbs h2;rw [z9,zE] at this;exact this
  rw [this];exact xJ _ g0
def q7c {n d:Int} (hn:bl n.natAbs<=20000000) (hd:bl d.natAbs<=20000000) (h0:d≠0):ACt 331 [bT n,bT d] (qT ((n:Rat) / (d:Rat))):=by
 have cG:=qo2 hn hd;have cS:=q0r hd;obtain ⟨h1,h2⟩:=qv1 (n:=n) h0;have hgb:bl (yZ n d)<=20000000:=zR (q0e (Nat.le_of_dvd (by omega) (Int.natCast_dvd_natCast.1 (by rw [Int.dvd_natAbs]; exact Int.gcd_dvd_right n d)))) hd;have cN:=q7Q (a:=(yZ n d:Nat)) (by rw [zE]; exact hgb);have g0:yZ n d≠0:=λh=>h0 (xR.1 h).2;generalize (n:Rat) / (d:Rat)=q at *;generalize yZ n d=g at *
 rcases yU h0 with h | h
 ·rw [yC h] at h1 h2 cS;have e:(-1:Int)*(g:Int) = -(g:Int):=by omega
  rw [e] at h1 h2;have c1:=q7P (b := -(g:Int)) (k:=q.num) (by rw [<- h1]; exact hn) (by rw [zZ,zE]; exact hgb) (by omega);have c2:=q7P (b := -(g:Int)) (k:=(q.den:Nat)) (by rw [<- h2]; exact hd) (by rw [zZ,zE]; exact hgb) (by omega);rw [<- h1] at c1;rw [<- h2] at c2;have hs:(-1:Int) < 0:=by omega
  unfold bT qT at *;generalize -(g:Int)=g' at *;generalize q.num=x at *;generalize (q.den:Int)=y at *;refine ac0 Tryz.func331 Tryz.ntmps331 [.cell 4 291] ?_;exact wk1 hs trivial
 ·rw [yA h] at h1 h2 cS;rw [xO] at h1 h2;have c1:=q7P (b:=(g:Int)) (k:=q.num) (by rw [<- h1]; exact hn) (by rw [zE]; exact hgb) (by omega);have c2:=q7P (b:=(g:Int)) (k:=(q.den:Nat)) (by rw [<- h2]; exact hd) (by rw [zE]; exact hgb) (by omega);rw [<- h1] at c1;rw [<- h2] at c2;have hs:¬ (1:Int) < 0:=by omega
  unfold bT qT at *;generalize (g:Int)=g' at *;generalize q.num=x at *;generalize (q.den:Int)=y at *;refine ac0 Tryz.func331 Tryz.ntmps331 [.cell 4 291] ?_;exact wk1 hs trivial
def qwL {a b c d:PV}:ldU (some 4) (some 2) 0 (.ag [a,b,c,d])=some (.ag [a,b]):=by simp [ldU]
def qwK {a b c d:PV}:ldU (some 4) (some 2) 2 (.ag [a,b,c,d])=some (.ag [c,d]):=by simp [ldU]
def quX {a b c d x y:PV}:stU (some 4) (some 2) 0 (.ag [a,b,c,d]) (.ag [x,y])=some (.ag [x,y,c,d]):=by simp [stU]
attribute [go_sem] qwL qwK quX
def qjQ {q:Rat} (hq:bl q.num.natAbs<=20000000):ACt 330 [qT q] (bv (decide (q=0))):=by
 have cS:=q0r hq;have e:(q.num.sign == 0)=decide (q=0):=by
  rw [Bool.eq_iff_iff];simp [zQ]
 unfold bT qT at *;generalize q.num.sign=s at *;generalize decide (q=0)=t at *;generalize decide (q.num < 0)=u at *;generalize decide ((q.den:Int) < 0)=u2 at *;generalize q.num=x at *;generalize (q.den:Int)=y at *;refine ac0 Tryz.func330 Tryz.ntmps330 [.tmp 2] ?_;exact wk1 e trivial
def qs (q:Rat) (b:Nat):Prop:=bl q.num.natAbs<=b/\bl q.den<=b
def qs.mono {q:Rat} {a b:Nat} (h:qs q a) (hab:a<=b):qs q b:=⟨zR h.1 hab,zR h.2 hab⟩
def qpY (q:Rat):q=(q.num:Rat) / ((q.den:Int):Rat):=by rw [<- Rat.divInt_eq_div]; exact (Rat.num_divInt_den q).symm
def q29 {a b:Int} {m n:Nat} (ha:bl a.natAbs<=m) (hb:bl b.natAbs<=n):bl (a*b).natAbs<=m+n:=by
 rw [z9];have:=q11 a.natAbs b.natAbs;omega
def q5k (q:Rat):((q.den:Int):Rat)≠0:=by
 have:=q.den_nz;intro h;have:(q.den:Int)=0:=by exact_mod_cast h
 omega
def qpZ (x y z w:Rat):x-((((y.num*z.num*(w.den:Nat):Int):Rat)) / ((((y.den:Nat)*(z.den:Nat)*w.num:Int)):Rat))=x-y*z / w:=by
 congr 1
 have hy:=qpY y;have hz:=qpY z;have hw:=qpY w;have y0:=q5k y;have z0:=q5k z;have w0:=q5k w;generalize y.num=yn at *;generalize z.num=zn at *;generalize w.num=wn at *;generalize (y.den:Int)=yd at *;generalize (z.den:Int)=zd at *;generalize (w.den:Int)=wd at *;subst hy hz hw;rw [Rat.intCast_mul,Rat.intCast_mul,Rat.intCast_mul,Rat.intCast_mul]
 by_cases h:(wn:Rat)=0
 ·rw [h]; simp [Rat.div_def]
 ·grind
def q_sub (x p:Rat):(((x.num*(p.den:Nat)-p.num*(x.den:Nat):Int):Rat)) / ((((x.den:Nat)*(p.den:Nat):Int)):Rat)=x-p:=by
 have hx:=qpY x;have hp:=qpY p;have x0:=q5k x;have p0:=q5k p;generalize x.num=xn at *;generalize p.num=pn at *;generalize (x.den:Int)=xd at *;generalize (p.den:Int)=pd at *;subst hx hp;rw [Rat.intCast_sub,Rat.intCast_mul,Rat.intCast_mul,Rat.intCast_mul]
 grind
def q_mul (x p:Rat):(((x.num*p.num:Int):Rat)) / ((((x.den:Nat)*(p.den:Nat):Int)):Rat)=x*p:=by
 have hx:=qpY x;have hp:=qpY p;have x0:=q5k x;have p0:=q5k p;generalize x.num=xn at *;generalize p.num=pn at *;generalize (x.den:Int)=xd at *;generalize (p.den:Int)=pd at *;subst hx hp;rw [Rat.intCast_mul,Rat.intCast_mul]
 grind
def qfQ {x p:Rat} {a b:Nat} (ha:a<=5000000) (hb:b<=5000000) (hx:qs x a) (hp:qs p b):ACt 143 [bT x.num,bT p.num] (bT (x.num*p.num))/\ACt 143 [bT (x.den:Nat),bT (p.den:Nat)] (bT ((x.den:Nat)*(p.den:Nat)))/\ACt 331 [bT (x.num*p.num),bT ((x.den:Nat)*(p.den:Nat))] (qT (x*p))/\qs (x*p) (a+b):=by
 obtain ⟨x1,x2⟩:=hx;obtain ⟨p1,p2⟩:=hp;have dn:∀ q:Rat,((q.den:Nat):Int).natAbs=q.den:=λq=>zE _;have d0:∀ q:Rat,((q.den:Nat):Int)≠0:=λq h=>q.den_nz Oq;have m1:=q29 x1 p1;have m2:=q29 (a:=(x.den:Nat)) (b:=(p.den:Nat)) (by rw [dn]; exact x2) (by rw [dn]; exact p2);have h9:((x.den:Nat)*(p.den:Nat):Int)≠0:=yR (d0 x) (d0 p);have c10:=q7c (n:=x.num*p.num) (d:=(x.den:Nat)*(p.den:Nat)) Oq Oq h9;have m10:=q_le (n:=x.num*p.num) h9;rw [q_mul] at c10 m10;exact ⟨q1l (by omega) (by omega),q1l (by rw [dn]; omega) (by rw [dn]; omega),c10,⟨by omega,by omega⟩⟩
def q5l {x y z w:Rat} {b:Nat} (hb:b<=1000000) (hx:qs x b) (hy:qs y b) (hz:qs z b) (hw:qs w b) (w0:w≠0):ACt 332 [qT x,qT y,qT z,qT w] (qT (x-y*z / w))/\qs (x-y*z / w) (4*b+1):=by
 obtain ⟨x1,x2⟩:=hx;obtain ⟨y1,y2⟩:=hy;obtain ⟨z1,z2⟩:=hz;obtain ⟨w1,w2⟩:=hw;have dn:∀ q:Rat,((q.den:Nat):Int).natAbs=q.den:=λq=>zE _;have d0:∀ q:Rat,((q.den:Nat):Int)≠0:=λq h=>q.den_nz Oq;have wn0:w.num≠0:=λh=>w0 (Rat.num_eq_zero.1 h);have c1:=q1l (a:=y.num) (b:=z.num) Oq Oq;have m1:=q29 y1 z1;have c2:=q1l (a:=y.num*z.num) (b:=(w.den:Nat)) (by omega) (by rw [dn]; omega);have m2:=q29 (b:=(w.den:Nat)) m1 (by rw [dn]; exact w2);have c3:=q1l (a:=(y.den:Nat)) (b:=(z.den:Nat)) (by rw [dn]; omega) (by rw [dn]; omega);have m3:=q29 (a:=(y.den:Nat)) (b:=(z.den:Nat)) (by rw [dn]; exact y2) (by rw [dn]; exact z2);have c4:=q1l (a:=(y.den:Nat)*(z.den:Nat)) (b:=w.num) Oq Oq;have m4:=q29 m3 w1;have h4:((y.den:Nat)*(z.den:Nat)*w.num:Int)≠0:=yR (yR (d0 y) (d0 z)) wn0;have c5:=q7c (n:=y.num*z.num*(w.den:Nat)) (d:=(y.den:Nat)*(z.den:Nat)*w.num) Oq Oq h4;have m5:=q_le (n:=y.num*z.num*(w.den:Nat)) h4;have e5:=qpZ x y z w;obtain ⟨p,hp⟩:∃ p:Rat,p=(((y.num*z.num*(w.den:Nat):Int):Rat)) / ((((y.den:Nat)*(z.den:Nat)*w.num:Int)):Rat):=⟨_,rfl⟩;rw [<- hp] at c5 m5 e5;rw [<- e5];clear hp e5;have c6:=q1l (a:=x.num) (b:=(p.den:Nat)) (by omega) (by rw [dn]; omega);have m6:=q29 (a:=x.num) (b:=(p.den:Nat)) x1 (by rw [dn]; exact m5.2);have c7:=q1l (a:=p.num) (b:=(x.den:Nat)) (by omega) (by rw [dn]; omega);have m7:=q29 (a:=p.num) (b:=(x.den:Nat)) m5.1 (by rw [dn]; exact x2);have c8:=qeT (a:=x.num*(p.den:Nat)) (b:=p.num*(x.den:Nat)) Oq Oq;have m8:bl (x.num*(p.den:Nat)-p.num*(x.den:Nat)).natAbs<=4*b+1:=by
  have:=q0e (Int.natAbs_sub_le (x.num*(p.den:Nat)) (p.num*(x.den:Nat)));have:=q4N (a:=(x.num*(p.den:Nat)).natAbs) (b:=(p.num*(x.den:Nat)).natAbs) (k:=4*b) Oq Oq;omega
 have c9:=q1l (a:=(x.den:Nat)) (b:=(p.den:Nat)) (by rw [dn]; omega) (by rw [dn]; omega);have m9:=q29 (a:=(x.den:Nat)) (b:=(p.den:Nat)) (by rw [dn]; exact x2) (by rw [dn]; exact m5.2);have h9:((x.den:Nat)*(p.den:Nat):Int)≠0:=yR (d0 x) (d0 p);have c10:=q7c (n:=x.num*(p.den:Nat)-p.num*(x.den:Nat)) (d:=(x.den:Nat)*(p.den:Nat)) Oq Oq h9;have m10:=q_le (n:=x.num*(p.den:Nat)-p.num*(x.den:Nat)) h9;rw [q_sub] at c10 m10;refine ⟨?_,⟨by omega,by omega⟩⟩;unfold bT qT at *;refine ac0 Tryz.func332 Tryz.ntmps332 [.cell 8 291] ?_;exact wk trivial
end Go.Proofs.YtpbaikoblfcmdaaGreatDoor
namespace Go.E
open Go Go.RowKit
section
variable {T1 T2:TypeId} {K:Kd} {N R n m:Nat} {p:Nat->Nat} {row:Nat->List PV}
def q88 (T1 T2:TypeId) (K:Kd) (N R n m:Nat) (p:Nat->Nat) (row:Nat->List PV):Hp:=λi =>
 if i=N then some ⟨T1,none,(List.range n).map λj=>.ow (p j+R) K 0 m,false⟩
 else if R<=i/\i < R+n then some ⟨T2,K,row (i-R),false⟩ else none
def qln:q88 T1 T2 K N R n m p row N=some ⟨T1,none,(List.range n).map λj=>.ow (p j+R) K 0 m,false⟩:=if_pos rfl
def qeQ {j:Nat} (hN:N < R) (hj:j < n):q88 T1 T2 K N R n m p row (j+R)=some ⟨T2,K,row j,false⟩:=by
 unfold q88;rw [if_neg (by omega),if_pos (by omega),Nat.add_sub_cancel]
def qo1 {i:Nat} (h1:i < N) (h2:i < R):q88 T1 T2 K N R n m p row i=none:=by
 unfold q88;rw [if_neg (by omega),if_neg (by omega)]
attribute [go_sem ↓] qln qeQ qo1
def q57 {i:Nat} {b:Bk} (hb:q88 T1 T2 K N R n m p row i=some b):(i=N/\b=⟨T1,none,(List.range n).map λj=>.ow (p j+R) K 0 m,false⟩)\/(R<=i/\i < R+n/\b=⟨T2,K,row (i-R),false⟩):=by
 unfold q88 at hb
 split at hb
 ·cases hb; exact .inl ⟨‹_›,rfl⟩
 ·split at hb
  ·rename_i hi; cases hb; exact .inr ⟨hi.1,hi.2,rfl⟩
  ·cases hb
def qbM {q:Nat->Prop} (hp:∀ j,j < n->q (p j+R)):IdL q ((List.range n).map λj=>.ow (p j+R) K 0 m):=IdL.of λx hx=>by
 obtain ⟨z,hz,rfl⟩:=zH.1 hx;unfold IdP; exact hp z (uR.1 hz)
def qo0 (hrow:∀ j,∀ q,IdL q (row j)) (hp:∀ j,j < n->p j < n) (hN:5000<=N) (hNR:N < R) (hR:R+n<=1000000):WfH (q88 T1 T2 K N R n m p row):=⟨λi b hb=>by
 rcases q57 hb with ⟨_,rfl⟩ | ⟨h1,h2,rfl⟩
 ·refine ⟨rfl,qbM λj hj=>?_⟩;have:=hp j hj;exact ⟨⟨by omega,by omega⟩,by rw [qeQ hNR this]; exact yG _⟩
 ·exact ⟨rfl,hrow _ _⟩⟩
def qia {q:Nat} {xs:List PV} (hNR:N < R) (hq:q < n):q0Q (q88 T1 T2 K N R n m p row) (q+R) ⟨T2,K,xs,false⟩=q88 T1 T2 K N R n m p (λj=>if j=q then xs else row j):=by
 funext i
 unfold q0Q q88
 by_cases h:i=q+R
 ·subst h;rw [if_pos rfl,if_neg (by omega),if_pos (by omega),Nat.add_sub_cancel]
  show _=some (Bk.mk T2 K (if q=q then xs else row q) false)
  rw [if_pos rfl]
 ·rw [if_neg h]
  by_cases h1:i=N
  ·rw [if_pos h1,if_pos h1]
  ·rw [if_neg h1,if_neg h1]
   by_cases h2:R<=i/\i < R+n
   ·rw [if_pos h2,if_pos h2]
    show _=some (Bk.mk T2 K (if i-R=q then xs else row (i-R)) false)
    rw [if_neg (by omega)]
   ·rw [if_neg h2,if_neg h2]
def qib {p':Nat->Nat} {xs:List PV} (hx:xs=(List.range n).map λj=>.ow (p' j+R) K 0 m):q0Q (q88 T1 T2 K N R n m p row) N ⟨T1,none,xs,false⟩=q88 T1 T2 K N R n m p' row:=by
 funext i
 unfold q0Q q88
 by_cases h:i=N
 ·rw [if_pos h,if_pos h,hx]
 ·rw [if_neg h,if_neg h,if_neg h]
def qi9 (T1 T2:TypeId) (K:Kd) (N R n m:Nat):Hp:=λi =>
 if i=N then some ⟨T1,none,List.replicate n .un,false⟩
 else if R<=i/\i < R+n then some ⟨T2,K,List.replicate m .un,false⟩ else none
def q64 {i:Nat} {b:Bk} (hb:qi9 T1 T2 K N R n m i=some b):(i=N/\b=⟨T1,none,List.replicate n .un,false⟩)\/(R<=i/\i < R+n/\b=⟨T2,K,List.replicate m .un,false⟩):=by
 unfold qi9 at hb
 split at hb
 ·cases hb; exact .inl ⟨‹_›,rfl⟩
 ·split at hb
  ·rename_i hi; cases hb; exact .inr ⟨hi.1,hi.2,rfl⟩
  ·cases hb
end
end Go.E
namespace Go.Proofs.YtpbaikoblfcmdaaGreatDoor
open Go Go.E Go.Sp
def q70 (n:Nat) (D:Nat->Nat->Rat) (q:Nat):List PV:=(List.range n).map λc=>qT (D q c)
abbrev tQ (n:Nat) (p:Nat->Nat) (D:Nat->Nat->Rat):Hp:=q88 339 291 (some 4) 5000 10000 n n p (q70 n D)
abbrev tQu (n:Nat):Hp:=qi9 339 291 (some 4) 5000 10000 n n
def q3G {n c q:Nat} {D:Nat->Nat->Rat} (hc:c < n):(q70 n D q)[c]?=some (qT (D q c)):=by
 unfold q70;rw [zG,zB hc]; rfl
def q7Z {n q:Nat} {D:Nat->Nat->Rat}:(q70 n D q).length=n:=by unfold q70; simp
def clQ {n:Nat} {D:Nat->Nat->Rat} {q:Nat}:ClL (q70 n D q):=λx hx=>by
 obtain ⟨c,_,rfl⟩:=zH.1 hx;intro y hy;simp at hy
 rcases hy with rfl | rfl | rfl | rfl <;> trivial
def qb5 {n:Nat} {D:Nat->Nat->Rat} (q:Nat) (r:Nat->Prop):IdL r (q70 n D q):=qhw clQ
def LeUn {J:Nat->Prop} {h:Hp} {n k:Nat} {p:Nat->Nat} {D:Nat->Nat->Rat} {l:List Nat} {d:Rat} (hn:n<=5) (hq:Wn h (tQ n p D)) (hl:h 1001=some ⟨3,none,l.map λz:Nat=>iv z,false⟩) (hk:l.length=k) :
  Le J (λ_=>.tu [.ow 1001 none 0 k,qT d]) h (λ_=>.tu [pN l,qT d]) (tQu n):=by
 refine q4U (λi=>if i < 5000 then none else some i) (λi b hb=>?_) (λi j k b c hi hj ti tj=>?_) (λ_=>.tu rfl λi x y hx hy=>?_) λi _ q1 _=>if_neg Oq
 ·unfold LeB
  rcases q64 hb with ⟨rfl,rfl⟩ | ⟨a1,a2,rfl⟩
  ·show ∃ b,h 5000=some b/\_
   refine ⟨_,(hq 5000 ⟨by omega,by omega⟩).trans qln,rfl,rfl,⟨rfl,rfl⟩,by simp,λc u v _ hv=>?_⟩;have:=zC hv;rw [(uU.1 this).2]; exact .un
  ·have ei:(if i < 5000 then none else some i)=some i:=if_neg Oq;dsimp only;rw [ei];have e:tQ n p D i=some ⟨291,some 4,q70 n D (i-10000),false⟩:=by
    have:=qeQ (T1:=339) (T2:=291) (K:=some 4) (N:=5000) (R:=10000) (n:=n) (m:=n) (p:=p) (row:=q70 n D) (j:=i-10000) Oq Oq;rw [Nat.sub_add_cancel a1] at this;exact this
   refine ⟨_,(hq i ⟨by omega,by omega⟩).trans e,rfl,rfl,⟨rfl,rfl⟩,by simp [q70],λc u v _ hv=>?_⟩;have:=zC hv;rw [(uU.1 this).2]; exact .un
 ·replace ti:(if i < 5000 then none else some i)=some k:=ti;replace tj:(if j < 5000 then none else some j)=some k:=tj
  split at ti
  ·cases ti
  ·split at tj
   ·cases tj
   ·cases ti; cases tj; rfl
 ·rcases i with _ | _ | i
  ·cases hx; cases hy;refine q6P (T:=3) (l:=l.map λz:Nat=>iv z) hl (λx hx=>by obtain ⟨z,_,rfl⟩:=zH.1 hx; trivial) (λi hi=>?_) (by rw [yV]; exact zM (by rw [zJ]; omega));replace hi:(if i < 5000 then none else some i)=some 1001:=hi
   split at hi
   ·cases hi
   ·cases hi; omega
  ·cases hx; cases hy; exact .cl (by intro y hy; simp at hy; rcases hy with rfl | rfl | rfl | rfl <;> trivial)
  ·simp at hx
def qut (D:Nat->Nat->Rat) (q c:Nat) (v:Rat):Nat->Nat->Rat:=λa b=>if a=q/\b=c then v else D a b
def qjB {n c q:Nat} {D:Nat->Nat->Rat} {v:Rat}:(λj=>if j=q then (q70 n D q).set c (qT v) else q70 n D j)=q70 n (qut D q c v):=by
 funext j
 by_cases h:j=q
 ·subst h;rw [if_pos rfl];unfold q70 qut;refine yK λi=>?_;rw [yL,zG,zG,zJ,zU]
  rcases xH i n with hn | hn
  ·rw [zB hn,zS,zS]
   by_cases hc:c=i
   ·rw [if_pos hc,if_pos (by omega),if_pos ⟨rfl,hc.symm⟩]
   ·rw [if_neg hc,if_neg (λe=>hc e.2.symm)]
  ·rw [z6 (by simpa using hn),y8,y8]
   split
   ·rw [if_neg (by omega)]
   ·rfl
 ·rw [if_neg h];unfold q70 qut
  congr 1
  funext b
  rw [if_neg (by omega)]
section
open Go.Dt
variable {A B:Mx} {j k n i:Nat}
def qmv (h1:k<=i) (h2:i<=n) (h3:∀ t,k<=t->t < i->B t j=0) (h4:i=n\/B i j≠0):fnz B j k (n-k)=i:=by
 rcases qbx (A:=B) (j:=j) (n-k) k with ⟨q1,q2⟩ | ⟨q1,q2,q3⟩
 ·rcases h4 with rfl | h4
  ·omega
  ·by_cases h:i=n
   ·omega
   ·exact (h4 (q2 i h1 Oq)).elim
 ·rcases Nat.lt_trichotomy (fnz B j k (n-k)) i with h | h | h
  ·exact (q3 (h3 _ q1 h)).elim
  ·exact h
  ·rcases h4 with rfl | h4
   ·omega
   ·exfalso
    have:∀ m s,s<=i->i < s+m->s<=fnz B j s m->fnz B j s m > i->False:=by
     intro m
     induction m with
     | zero=>intro s a b _ _; omega
     | succ m ih =>
      intro s a b c d;rw [fnz] at c d
      by_cases hz:B s j=0
      ·rw [if_pos hz] at c d
       by_cases hs:s=i
       ·subst hs; exact h4 hz
       ·exact ih (s+1) Oq Oq Oq d
      ·rw [if_neg hz] at d; omega
    exact this (n-k) k h1 Oq q1 h
end
open Go.Dt
def sB (b:Nat):Nat->Nat
 | 0=>b
 | j+1=>4*sB b j+1
def qpB {b j:Nat} (hb:b<=100) (hj:j<=5):sB b j<=200000:=by
 rcases j with _ | _ | _ | _ | _ | _ | j <;> simp only [sB] <;> omega
def pvE (n:Nat) (A:Mx):Nat->List Nat
 | 0=>[]
 | j+1=>if fnz (ech n A j).1 j (ech n A j).2.1 (n-(ech n A j).2.1)=n then pvE n A j else pvE n A j ++ [j]
structure Ec where
 j:Nat
 k:Nat
 p:Nat->Nat
 D:Nat->Nat->Rat
 d:Rat
structure EcI (n b:Nat) (A:Mx) (x:Ec):Prop where
 j:x.j<=n
 kj:x.k<=x.j
 l:(pvE n A x.j).length=x.k
 e:(ech n A x.j).2=(x.k,x.d)
 m:∀ r c,r < n->c < n->x.D (x.p r) c=(ech n A x.j).1 r c
 pi:∀ r,r < n->x.p r < n
 pj:∀ r s,r < n->s < n->x.p r=x.p s->r=s
 s:∀ r c,r < n->c < n->qs (x.D (x.p r) c) (sB b x.j)
 sd:qs x.d (sB b x.j*(x.j+1))
section
variable {n b j k i:Nat} {A:Mx} {p:Nat->Nat} {E E':Nat->Nat->Rat} {d:Rat}
def EcI.no (h:EcI n b A ⟨j,k,p,E,d⟩) (hj:j < n) (hz:∀ t,k<=t->t < n->E (p t) j=0):EcI n b A ⟨j+1,k,p,E,d⟩/\pvE n A (j+1)=pvE n A j:=by
 obtain ⟨h1,h2,h3,h5,h6,h7,h8,h9,h10⟩:=h;dsimp only at h1 h2 h3 h5 h6 h7 h8 h9 h10;have hk:(ech n A j).2.1=k:=by rw [h5]
 have hf:fnz (ech n A j).1 j (ech n A j).2.1 (n-(ech n A j).2.1)=n:=by
  rw [hk];exact qmv (by omega) (zL _) (λt a c=>by rw [<- h6 t j c hj]; exact hz t a c) (.inl rfl)
 have he:ech n A (j+1)=ech n A j:=by rw [ech,est,if_pos hf]
 have hp:pvE n A (j+1)=pvE n A j:=by rw [pvE,if_pos hf]
 refine ⟨⟨hj,by dsimp only; omega,by dsimp only; rw [hp]; exact h3,by dsimp only; rw [he]; exact h5,λr c hr hc=>?_,h7,h8,λr c hr hc=>(h9 r c hr hc).mono ?_,h10.mono ?_⟩,hp⟩
 ·dsimp only; rw [he]; exact h6 r c hr hc
 ·dsimp only; rw [sB]; omega
 ·dsimp only; rw [sB];exact zI Oq Oq
def pSw (p:Nat->Nat) (i k:Nat):Nat->Nat:=λr=>if r=i then p k else if r=k then p i else p r
def EcI.yes (h:EcI n b A ⟨j,k,p,E,d⟩) (hj:j < n) (h1:k<=i) (h2:i < n) (h3:∀ t,k<=t->t < i->E (p t) j=0) (h4:E (p i) j≠0)
  (hE:∀ r c,r < n->c < n->E' (pSw p i k r) c=el (λr c=>E (pSw p i k r) c) k j n r c) (hs:∀ r c,r < n->c < n->qs (E' (pSw p i k r) c) (4*sB b j+1))
  (hd:qs ((if i=k then d else -d)*E (pSw p i k k) j) (sB b j*(j+1)+sB b j)):EcI n b A ⟨j+1,k+1,pSw p i k,E',(if i=k then d else -d)*E (pSw p i k k) j⟩/\pvE n A (j+1)=pvE n A j ++ [j]:=by
 obtain ⟨g1,g2,g3,g5,g6,g7,g8,g9,g10⟩:=h;dsimp only at g1 g2 g3 g5 g6 g7 g8 g9 g10;have hk:(ech n A j).2.1=k:=by rw [g5]
 have hdd:(ech n A j).2.2=d:=by rw [g5]
 have hfk:fnz (ech n A j).1 j k (n-k)=i:=qmv h1 (xY h2) (λt a c=>by rw [<- g6 t j (by omega) hj]; exact h3 t a c) (.inr (by rw [<- g6 i j h2 hj]; exact h4));have hf:fnz (ech n A j).1 j (ech n A j).2.1 (n-(ech n A j).2.1)=i:=by rw [hk]; exact hfk
 have hsw:∀ r c,r < n->c < n->swp (ech n A j).1 i k r c=E (pSw p i k r) c:=λr c hr hc=>by
  unfold swp pSw
  by_cases e1:r=i
  ·rw [if_pos e1,if_pos e1,g6 k c (by omega) hc]
  ·rw [if_neg e1,if_neg e1]
   by_cases e2:r=k
   ·rw [if_pos e2,if_pos e2,g6 i c h2 hc]
   ·rw [if_neg e2,if_neg e2,g6 r c hr hc]
 have he:ech n A (j+1)=(el (swp (ech n A j).1 i k) k j n,k+1,(if i=k then d else -d)*swp (ech n A j).1 i k k j):=by
  rw [ech,est,hf,if_neg (by omega),hk,hdd]
 have hp:pvE n A (j+1)=pvE n A j ++ [j]:=by rw [pvE,hf,if_neg (by omega)]
 refine ⟨⟨hj,by dsimp only; omega,by dsimp only; rw [hp,yH,g3]; rfl,?_,λr c hr hc=>?_,λr hr=>?_,λr s hr hs' e=>?_,λr c hr hc=>(hs r c hr hc).mono ?_,hd.mono ?_⟩,hp⟩
 ·dsimp only; rw [he,hsw k j (by omega) hj]
 ·dsimp only; rw [he,hE r c hr hc];unfold el;dsimp only;rw [hsw r c hr hc,hsw r j hr hj,hsw k c (by omega) hc,hsw k j (by omega) hj]
 ·dsimp only;unfold pSw
  split
  ·exact g7 k Oq
  ·split
   ·exact g7 i h2
   ·exact g7 r hr
 ·dsimp only at e;unfold pSw at e
  split at e <;> split at e <;> (try split at e) <;> (try split at e) <;> first | (have:=g8 _ _ (by omega) (by omega) e; omega) | omega
 ·dsimp only; rw [sB]; omega
 ·dsimp only; rw [sB];have:sB b j*(j+1)+sB b j=sB b j*(j+1+1):=(Nat.mul_succ _ _).symm;rw [this];exact zI Oq (zL _)
def qve {R m:Nat} {K:Kd} (hi:i < n) (hk:k < n) (hik:i≠k):(((List.range n).map λj=>PV.ow (p j+R) K 0 m).set i (.ow (p k+R) K 0 m)).set k (.ow (p i+R) K 0 m)=(List.range n).map λj=>PV.ow (pSw p i k j+R) K 0 m:=by
 refine yK λt=>?_;rw [yL,yL,zG,zG,y7,zJ,zU];unfold pSw
 by_cases h1:k=t
 ·subst h1;rw [if_pos rfl,if_pos hk,zB hk,zS,if_neg (Ne.symm hik),if_pos rfl]
 ·rw [if_neg h1]
  by_cases h2:i=t
  ·subst h2;rw [if_pos rfl,if_pos hi,zB hi,zS,if_pos rfl]
  ·rw [if_neg h2]
   rcases xH t n with ht | ht
   ·rw [zB ht,zS,zS,if_neg (Ne.symm h2),if_neg (Ne.symm h1)]
   ·rw [z6 (by simpa using ht)]; rfl
def qwT {h:Hp} {i:Nat} {a b:Bk}:q0Q (q0Q h i a) i b=q0Q h i b:=by
 funext j
 unfold q0Q
 split
 ·rfl
 ·rfl
def qjT:pSw p k k=p:=by
 funext r
 unfold pSw
 by_cases h:r=k
 ·rw [if_pos h,h]
 ·rw [if_neg h,if_neg h]
def qpd (g8:∀ r s,r < n->s < n->p r=p s->r=s) (h1:k < n) (h2:i < n):∀ r s,r < n->s < n->pSw p i k r=pSw p i k s->r=s:=λr s hr hs' e=>by
 unfold pSw at e
 split at e <;> split at e <;> (try split at e) <;> (try split at e) <;> first | (have:=g8 _ _ (by omega) (by omega) e; omega) | omega
def qvd (g7:∀ r,r < n->p r < n) (h1:k < n) (h2:i < n):∀ r,r < n->pSw p i k r < n:=λr hr=>by
 unfold pSw
 split
 ·exact g7 k h1
 ·split
  ·exact g7 i h2
  ·exact g7 r hr
end
def qs_1:qs 1 1:=⟨by show bl 1<=1; exact q0N (by decide),by show bl 1<=1; exact q0N (by decide)⟩
def qd2 {n b:Nat} {D:Nat->Nat->Rat} (hn:n<=5) (hb:b<=100) (hb1:1<=b) (hs:∀ r c,r < n->c < n->qs (D r c) b) :
  qdi 279 [.ow 5000 none 0 n,iv n] (tQ n (λi=>i) D) (.tu [pN (pvE n D n),qT (ech n D n).2.2]) (tQu n):=by
 refine qdo qnQ Tryz.func279 rfl Tryz.ntmps279 (by kernel_rfl) ?_ ?_ ?_ ?_
 ·intro i c hc
  rcases q57 hc with ⟨rfl,rfl⟩ | ⟨a1,a2,rfl⟩
  ·exact ⟨⟨by omega,by omega⟩,rfl,qbM λj hj=>⟨by omega,by omega⟩,_,if_pos rfl,rfl,by simp⟩
  ·exact ⟨⟨by omega,by omega⟩,rfl,qb5 _ _,⟨291,some 4,List.replicate n .un,false⟩,by unfold tQu qi9; rw [if_neg (by omega),if_pos ⟨a1,a2⟩],rfl,by simp [q70]⟩
 ·intro i c hc
  rcases q64 hc with ⟨rfl,rfl⟩ | ⟨a1,a2,rfl⟩
  ·exact ⟨by omega,by omega⟩
  ·exact ⟨by omega,by omega⟩
 ·exact IdL.of λx hx=>by
   simp at hx
   rcases hx with rfl | rfl <;> unfold IdP
   ·exact ⟨by omega,by omega⟩
   ·trivial
 have c1:=q35 (a:=1) Oq Oq;have hI:EcI n b D ⟨0,0,λi=>i,D,1⟩:=⟨by dsimp only; omega,zL _,rfl,rfl,λr c _ _=>rfl,λr h=>h,λr s _ _ h=>h,hs,qs_1.mono (by show 1<=b*(0+1); omega)⟩;have hW:∀ (p:Nat->Nat) (E:Nat->Nat->Rat),(∀ r,r < n->p r < n)->WfH (tQ n p E):=λp E h=>qo0 qb5 h Oq Oq Oq;have cl:∀ {τ h h'} {L:List Nat},LeL τ h h' (L.map λz:Nat=>iv z) (L.map λz:Nat=>iv z):=λ{_ _ _ _}=>q0F rfl λx hx=>by obtain ⟨z,_,rfl⟩:=zH.1 hx; trivial
 refine wk ?_;refine q0P (EcI n b D) [0,1,5,6] [5] Lk Lk (λx:Ec=>[(7,.ow 1001 none 0 x.k),(8,iv x.j)]) (λx=>[(6,⟨291,some 4,[qT x.d],false⟩),(1001,⟨3,none,(pvE n D x.j).map λz:Nat=>iv z,false⟩)]) (λx=>tQ n x.p x.D) (λx=>n-x.j) ⟨0,0,λi=>i,D,1⟩ hI ?_ ?_
 ·refine LeW [(1001,none)] rfl rfl ?_ ?_ (by simp [q0j,q0b,win]) ?_
  ·exact Ow
  ·exact hW _ _ hI.pi
  ·try refine Zz ?_
   refine ⟨rfl,⟨rfl,rfl,rfl⟩,rfl⟩
 ·rintro ⟨j,k,p,E,d⟩ hi;have hi0:=hi;obtain ⟨h1,h2,h3,h5,h6,h7,h8,h9,h10⟩:=hi;dsimp only at h1 h2 h3 h5 h6 h7 h8 h9 h10
  by_cases hlt:j < n
  ·have hlt':(j:Int) < n:=by omega
   have hpvl:(pvE n D j).length=k:=h3;have hsb:=qpB (b:=b) (j:=j) hb Oq;generalize hL:pvE n D j=L at *;refine wk1 (x2 hlt' hpvl) ?_;refine q0P (λi=>k<=i/\i<=n/\∀ t,k<=t->t < i->E (p t) j=0) [0,1,5,6,7,8,9] [5,6,1001] Lk Lk (λi:Nat=>[(10,iv i)]) (λ_=>[]) (λ_=>tQ n p E) (λi=>n-i) k ⟨zL _,by omega,λt a b=>by omega⟩ ?_ ?_
   ·refine LeW [] rfl rfl ?_ ?_ (by simp [q0j,q0b,win]) ?_
    ·exact Ow
    ·exact hW _ _ h7
    ·try refine Zz ?_
     exact cl
   ·rintro i ⟨g1,g2,g3⟩
    by_cases hin:i < n
    ·have hin':(i:Int) < n:=by omega
     have hri:(List.range n)[i]?=some i:=zB hin;have hel:=q3G (n:=n) (D:=E) (q:=p i) hlt;have hpi:=h7 i hin;have Cz:=qjQ (q:=E (p i) j) (by have:=(h9 i j hin hlt).1; omega)
     by_cases hz:E (p i) j=0
     ·rw [decide_eq_true hz] at Cz;refine wk1 (x3 hin' hri hel) ?_;refine ⟨i+1,⟨by omega,by omega,λt a b=>?_⟩,by omega,?_⟩
      ·by_cases ht:t=i
       ·rw [ht]; exact hz
       ·exact g3 t a Oq
      ·refine LeW [] rfl rfl ?_ ?_ (by simp [q0j,q0b,win]) ?_
       ·exact Ow
       ·exact hW _ _ h7
       ·try refine Zz ?_
        exact ⟨by omega,cl⟩
     ·rw [decide_eq_false hz] at Cz;have hie:((i:Int) == n)=false:=by simp; omega
      refine wk1 (x4 hin' hri hel hie) ?_;refine qsj λK hK=>?_;have hkn:k < n:=by omega
      have q7:=qvd (p:=p) (i:=i) h7 hkn hin;have q8:=qpd (p:=p) (i:=i) h8 hkn hin;have fin:∀ (s:Nat->PV) (h:Hp),Le (λi=>tQ n (λi=>i) D i≠none) s h (stM [(0,.ow 5000 none 0 n),(1,iv n),(5,.pt 5 0 0),(6,.pt 6 0 0),(7,.ow 1001 none 0 k),(8,iv j),(9,iv k)] []) (q0y (tQ n (pSw p i k) E) (hpM [(5,⟨291,some 4,[.ag [bv false,q02,bv false,q02]],false⟩),(6,⟨291,some 4,[qT (if i=k then d else -d)],false⟩),(1001,⟨3,none,L.map λz:Nat=>iv z,false⟩)] []))->K s h:=by
       intro s h hl;refine hK _ _ (q1D hl ?_); clear hK K hl Cz;have hd0:qs (if i=k then d else -d) (sB b j*(j+1)):=by
        by_cases hik:i=k
        ·rw [if_pos hik]; exact h10
        ·rw [if_neg hik]; exact ⟨by rw [Rat.neg_num,zZ]; exact h10.1,by rw [Rat.neg_den]; exact h10.2⟩
       have hm6:sB b j*(j+1)<=200000*6:=zI hsb Oq;have hpvs:∀ r c,r < n->c < n->qs (E (pSw p i k r) c) (sB b j):=λr c hr hc=>by
        unfold pSw
        split
        ·exact h9 k c hkn hc
        ·split
         ·exact h9 i c hin hc
         ·exact h9 r c hr hc
       obtain ⟨d1,hd1⟩:∃ d1,d1=(if i=k then d else -d):=⟨_,rfl⟩;obtain ⟨p1,hp1⟩:∃ p1,p1=pSw p i k:=⟨_,rfl⟩;rw [<- hd1] at hd0 ⊢;rw [<- hp1] at hpvs q7 q8 ⊢;have hrk:(List.range n)[k]?=some k:=zB hkn;have hel2:=q3G (n:=n) (D:=E) (q:=p1 k) hlt;have hpk:=q7 k hkn;obtain ⟨M1,M2,M3,M4⟩:=qfQ (x:=d1) (p:=E (p1 k) j) Oq Oq hd0 (hpvs k j hkn hlt);unfold bT at M1 M2 M3;refine wk1 (x2 hrk hel2) ?_;have hkj:E (p1 k) j≠0:=by
        rw [hp1];unfold pSw
        split
        ·rename_i e; rw [e]; exact hz
        ·rw [if_pos rfl]; exact hz
       refine q0P (λx:Nat × (Nat->Nat->Rat)=>k+1<=x.1/\x.1<=n/\∀ r c,r < n->c < n->x.2 (p1 r) c=el (λr c=>E (p1 r) c) k j x.1 r c) [0,1,5,6,7,8,9] [5,6,1001] Lk Lk (λx:Nat × (Nat->Nat->Rat)=>[(11,iv x.1)]) (λ_=>[]) (λx=>tQ n p1 x.2) (λx=>n-x.1) (k+1,E) ⟨zL _,by dsimp only; omega,λr c _ _=>by rw [el_0 (zL _)]⟩ ?_ ?_
       ·refine LeW [] rfl rfl ?_ ?_ (by simp [q0j,q0b,win]) ?_
        ·exact Ow
        ·exact hW _ _ q7
        ·try refine Zz ?_
         exact ⟨by omega,cl⟩
       ·rintro ⟨i2,F⟩ ⟨f1,f2,f3⟩;dsimp only at f1 f2 f3 ⊢
        by_cases hi2:i2 < n
        ·have hi2':(i2:Int) < n:=by omega
         have hr2:(List.range n)[i2]?=some i2:=zB hi2;have hel3:=q3G (n:=n) (D:=F) (q:=p1 i2) hlt;have hp2:=q7 i2 hi2;refine wk1 (x3 hi2' hr2 hel3) ?_;have ef:F (p1 i2) j=E (p1 i2) j:=by
          rw [f3 i2 j hi2 hlt]; unfold el; rw [if_neg (by omega)]
         rw [ef];refine q0P (λy:Nat × (Nat->Nat->Rat)=>j<=y.1/\y.1<=n/\∀ r e,r < n->e < n->y.2 (p1 r) e=if r=i2/\j<=e/\e < y.1 then E (p1 i2) e-E (p1 i2) j*E (p1 k) e / E (p1 k) j else el (λr c=>E (p1 r) c) k j i2 r e) [0,1,5,6,7,8,9,11,12] [5,6,1001,12] Lk Lk (λy:Nat × (Nat->Nat->Rat)=>[(13,iv y.1)]) (λ_=>[]) (λy=>tQ n p1 y.2) (λy=>n-y.1) (j,F) ⟨zL _,by dsimp only; omega,λr e hr he=>by dsimp only; rw [if_neg (by omega)]; exact f3 r e hr he⟩ ?_ ?_
         ·refine LeW [] rfl rfl ?_ ?_ (by simp [q0j,q0b,win]) ?_
          ·exact Ow
          ·exact hW _ _ q7
          ·try refine Zz ?_
           exact cl
         ·rintro ⟨c,G⟩ ⟨w1,w2,w3⟩;dsimp only at w1 w2 w3 ⊢
          by_cases hc:c < n
          ·have hc':(c:Int) < n:=by omega
           have x1:=q3G (n:=n) (D:=G) (q:=p1 i2) hc;have z1:=q3G (n:=n) (D:=G) (q:=p1 k) hc;have z2:=q3G (n:=n) (D:=G) (q:=p1 k) hlt;have v1:G (p1 i2) c=E (p1 i2) c:=by
            rw [w3 i2 c hi2 hc,if_neg (by omega)]; unfold el; rw [if_neg (by omega)]
           have v2:G (p1 k) c=E (p1 k) c:=by
            rw [w3 k c hkn hc,if_neg (by omega)]; unfold el; rw [if_neg (by omega)]
           have v3:G (p1 k) j=E (p1 k) j:=by
            rw [w3 k j hkn hlt,if_neg (by omega)]; unfold el; rw [if_neg (by omega)]
           rw [v1] at x1;rw [v2] at z1;rw [v3] at z2;obtain ⟨cM,_⟩:=q5l (x:=E (p1 i2) c) (y:=E (p1 i2) j) (z:=E (p1 k) c) (w:=E (p1 k) j) (b:=sB b j) Oq (hpvs i2 c hi2 hc) (hpvs i2 j hi2 hlt) (hpvs k c hkn hc) (hpvs k j hkn hlt) hkj;generalize hv:E (p1 i2) c-E (p1 i2) j*E (p1 k) c / E (p1 k) j=v at *;have dn:∀ q:Rat,decide (((q.den:Nat):Int) < 0)=false:=λq=>decide_eq_false Oq;unfold qT at cM;rw [dn,dn,dn,dn,dn] at cM;have rl:=q7Z (n:=n) (D:=G) (q:=p1 i2);refine wk1 (x6 hc' hr2 hrk x1 z1 (x2 z2 rl)) ?_;refine ⟨(c+1,qut G (p1 i2) c v),⟨by dsimp only; omega,by dsimp only; omega,λr e hr he=>?_⟩,by dsimp only; omega,?_⟩
           ·dsimp only;unfold qut
            by_cases hre:r=i2/\e=c
            ·obtain ⟨rfl,rfl⟩:=hre;rw [if_pos ⟨rfl,rfl⟩,if_pos ⟨rfl,w1,by omega⟩];exact hv.symm
            ·rw [if_neg (λh=>hre ⟨q8 r i2 hr hi2 h.1,h.2⟩),w3 r e hr he]
             by_cases h3:r=i2/\j<=e/\e < c
             ·rw [if_pos h3,if_pos ⟨h3.1,h3.2.1,by omega⟩]
             ·rw [if_neg h3,if_neg (by omega)]
           ·have ev:qT v=.ag [bv (decide (v.num < 0)),.fm (fL v.num),bv false,.fm (fL (v.den:Nat))]:=by
             unfold qT; rw [dn]
            refine LeW [] rfl rfl ?_ ?_ (by simp [q0j,q0b,win]) ?_
            ·refine q8J (q4S q3U) ?_;rw [qia (by omega) hp2,<- ev,qjB]
            ·exact hW _ _ q7
            ·try refine Zz ?_
             exact ⟨by omega,cl⟩
          ·obtain rfl:n=c:=by omega
           refine wk ?_;refine ⟨(i2+1,G),⟨by dsimp only; omega,by dsimp only; omega,λr e hr he=>?_⟩,by dsimp only; omega,?_⟩
           ·dsimp only;rw [w3 r e hr he];unfold el
            by_cases h3:r=i2
            ·subst h3
             by_cases h4:j<=e
             ·rw [if_pos ⟨rfl,h4,he⟩,if_pos ⟨by omega,by omega,h4⟩]
             ·rw [if_neg (by omega),if_neg (by omega),if_neg (by omega)]
            ·rw [if_neg (by omega)]
             by_cases h4:k < r/\r < i2/\j<=e
             ·rw [if_pos h4,if_pos ⟨h4.1,by omega,h4.2.2⟩]
             ·rw [if_neg h4,if_neg (by omega)]
           ·refine LeW [] rfl rfl ?_ ?_ (by simp [q0j,q0b,win]) ?_
            ·exact Ow
            ·exact hW _ _ q7
            ·try refine Zz ?_
             exact ⟨by omega,cl⟩
        ·obtain rfl:n=i2:=by omega
         refine wk ?_;have hsz:∀ r c,r < n->c < n->qs (F (p1 r) c) (4*sB b j+1):=λr c hr hc=>by
          rw [f3 r c hr hc];unfold el
          split
          ·exact (q5l (x:=E (p1 r) c) (y:=E (p1 r) j) (z:=E (p1 k) c) (w:=E (p1 k) j) (b:=sB b j) Oq (hpvs r c hr hc) (hpvs r j hr hlt) (hpvs k c hkn hc) (hpvs k j hkn hlt) hkj).2
          ·exact (hpvs r c hr hc).mono Oq
         obtain ⟨hy,hpy⟩:=EcI.yes (E':=F) hi0 hlt g1 hin g3 hz (by rw [<- hp1]; exact f3) (by rw [<- hp1]; exact hsz) (by rw [<- hp1,<- hd1]; exact M4);rw [<- hp1,<- hd1] at hy;refine ⟨_,hy,by dsimp only; omega,?_⟩;refine LeW [(1001,some 142)] rfl rfl ?_ ?_ (by simp [q0j,q0b,win]) ?_
         ·exact Ow
         ·exact hW _ _ hy.pi
         ·try refine Zz ?_
          rw [hpy,hL];exact ⟨⟨hpvl,by omega⟩,by rw [zF]; exact q0F rfl (by rw [<- zF]; exact λx hx=>by obtain ⟨z,_,rfl⟩:=zH.1 hx; trivial)⟩
      by_cases hik:i=k
      ·have qik:((i:Int) != k)=false:=by simp [hik]
       refine wk1 qik ?_;refine fin _ _ ?_;refine LeW [] rfl rfl ?_ ?_ (by simp [q0j,q0b,win]) ?_
       ·rw [show pSw p i k=p by rw [hik]; exact qjT];exact q3U
       ·exact hW _ _ q7
       ·try refine Zz ?_
        rw [if_pos hik];exact ⟨⟨rfl,rfl,rfl⟩,cl⟩
      ·have qik:((i:Int) != k)=true:=by simp; omega
       have hrk:(List.range n)[k]?=some k:=zB hkn;have hpk:=h7 k hkn;have cN:=q7Q (a:=d.num) (by have:=h10.1; have:sB b j*(j+1)<=200000*6:=zI hsb (by omega); omega);unfold bT at cN;refine wk1 (x3 qik hri hrk) ?_;refine fin _ _ ?_;refine LeW [] rfl rfl ?_ ?_ (by simp [q0j,q0b,win]) ?_
       ·rw [qzK (by unfold win; omega)];refine q8J (q4S (q4S q3U)) ?_;rw [qwT];exact qib (qve hin hkn hik)
       ·exact hW _ _ q7
       ·try refine Zz ?_
        rw [if_neg hik,Rat.neg_num,Rat.neg_den];exact ⟨⟨rfl,rfl,rfl⟩,cl⟩
    ·obtain rfl:n=i:=by omega
     refine wk ?_;obtain ⟨hno,hpno⟩:=EcI.no hi0 hlt g3;refine ⟨⟨j+1,k,p,E,d⟩,hno,by dsimp only; omega,?_⟩;refine LeW [] rfl rfl ?_ ?_ (by simp [q0j,q0b,win]) ?_
     ·exact Ow
     ·exact hW _ _ hno.pi
     ·try refine Zz ?_
      rw [hpno,hL];exact ⟨by omega,cl⟩
  ·obtain rfl:n=j:=by omega
   have hr1:d=(ech n D n).2.2:=by rw [h5]
   rw [<- hr1];refine wk ?_;refine (rtM (rs:=[.tmp 4,.cell 5 291]) rfl rfl Lq ?_ (.inl rfl));refine LeUn hn (p:=p) (D:=E) ?_ ?_ h3
   ·exact Ow
   ·try simp -implicitDefEqProofs (disch:=omega) only [go_sem,Nat.reduceEqDiff,Nat.reduceAdd,↓reduceIte]
abbrev pMM (n:Nat) (M:Nat->Nat->Int):PV:=.sl none ((List.range n).map λr=>.sl (some 2) ((List.range n).map λc=>bT (M r c)))
def q_ofI {z:Int}:qT (z:Rat)=.ag [bv (decide (z < 0)),.fm (fL z),bv false,.fm (fL 1)]:=by
 unfold qT;rw [Rat.num_intCast,Rat.den_intCast]; rfl
abbrev tXQ (n t:Nat) (D:Nat->Nat->Rat):Hp:=q1W 339 291 (some 4) 5000 10000 t (q70 n D) h0
def quE {n:Nat} {D:Nat->Nat->Rat}:tXQ n n D=tQ n (λi=>i) D:=by
 show q1W _ _ _ _ _ _ _ _=q88 _ _ _ _ _ _ _ _ _
 funext i
 unfold q1W q88
 split
 ·congr 2
  refine zW λj _=>?_;rw [q7Z]
 ·rfl
def q65 {n t:Nat} {D:Nat->Nat->Rat} (ht:t<=1000):BOk (tXQ n t D) win:=q1V BOk.h0 (λ_ _=>clQ) Oq ⟨⟨by omega,by omega⟩,λj hj=>⟨by omega,by omega⟩⟩
def clQc {l:List Nat} {f:Nat->Rat}:ClL (l.map λe=>qT (f e)):=λx hx=>by
 obtain ⟨c,_,rfl⟩:=zH.1 hx;intro y hy;simp at hy
 rcases hy with rfl | rfl | rfl | rfl <;> trivial
def qqY {n:Nat} {M:Nat->Nat->Int} (hn:n<=5) (hM:∀ r c,r < n->c < n->bl (M r c).natAbs<=1000):qdi 280 [pMM n M] h0 (.ow 5000 none 0 n) (tQ n (λi=>i) λr c=>(M r c:Rat)):=by
 obtain ⟨D,hD⟩:∃ D:Nat->Nat->Rat,D=λr c=>(M r c:Rat):=⟨_,rfl⟩;rw [<- hD];refine qdo qnP Tryz.func280 rfl Tryz.ntmps280 (by kernel_rfl) ?_ ?_ ?_ ?_
 ·intro i b hb; cases hb
 ·intro i c hc
  rcases q57 hc with ⟨rfl,rfl⟩ | ⟨a1,a2,rfl⟩
  ·exact ⟨by omega,by omega⟩
  ·exact ⟨by omega,by omega⟩
 ·exact IdL.of λx hx=>by simp at hx; subst hx; unfold IdP; trivial
 have c1:=q35 (a:=1) Oq Oq;rw [<- quE];refine wk ?_;refine q1D (LeT (hw:=tXQ n 0 D) tnW (λ_ h=>(h rfl).elim) (λi hi hw=>?_) (λi b hw hb=>?_) (λi j x hi hj ti tj=>?_) (xs:=[(0,pMM n M),(3,.ow 5000 none 0 0),(4,iv 0)]) (kv:=[]) (bs:=[]) (kb:=[]) ?_) ?_
 ·simp at hi
 ·unfold LeB;rw [q55 hw.1 hw.2]
  rcases q0k hb with ⟨rfl,rfl⟩ | ⟨_,h1,h2,_⟩ | ⟨_,_,hb⟩
  ·rfl
  ·omega
  ·cases hb
 ·unfold tnW at ti tj
  split at ti <;> split at tj <;> cases ti <;> cases tj <;> rfl
 ·try simp -implicitDefEqProofs (disch:=omega) only [go_sem,Nat.reduceEqDiff,Nat.reduceAdd,↓reduceIte]
 refine q0P (λt=>t<=n) [0] [] Lk Lk (λt:Nat=>[(3,.ow 5000 none 0 t),(4,iv t)]) (λ_=>[]) (λt=>tXQ n t D) (λt=>n-t) 0 (zD _) ?_ ?_
 ·refine LeW [] rfl rfl ?_ ?_ (by simp [q0j,q0b,win]) ?_
  ·exact Ow
  ·exact wfB (q65 Oq)
  ·try refine Zz ?_
   rfl
 ·intro t ht;have hlr:(((List.range n).map λr=>PV.sl (some 2) ((List.range n).map λc=>bT (M r c))).length)=n:=by simp
  by_cases hlt:t < n
  ·have hlt':(t:Int) < n:=by omega
   have hrt:((List.range n).map λr=>PV.sl (some 2) ((List.range n).map λc=>bT (M r c)))[t]?=some (PV.sl (some 2) ((List.range n).map λc=>bT (M t c))):=by rw [zG,zB hlt]; rfl
   refine wk1 (x2 hlr hlt') ?_;refine q0P (λc=>c<=n) [0,3,4] [] Lk Lk (λc:Nat=>[(5,.ow 1001 (some 4) 0 c),(6,iv c)]) (λc=>[(1001,⟨291,some 4,(List.range c).map λe=>qT (D t e),false⟩)]) (λ_=>tXQ n t D) (λc=>n-c) 0 (zD _) ?_ ?_
   ·refine LeW [(1001,none)] rfl rfl ?_ ?_ (by simp [q0j,q0b,win]) ?_
    ·exact Ow
    ·exact wfB (q65 Oq)
    ·try refine Zz ?_
     exact ⟨rfl,rfl⟩
   ·intro c hc;have hlc:((List.range n).map λc=>bT (M t c)).length=n:=by simp
    by_cases hcn:c < n
    ·have hcn':(c:Int) < n:=by omega
     have hrc:((List.range n).map λc=>bT (M t c))[c]?=some (bT (M t c)):=by rw [zG,zB hcn]; rfl
     have cN:=q2j (a:=M t c) (by have:=hM t c hlt hcn; omega);generalize ((List.range n).map λc=>bT (M t c))=rw1 at *;refine wk1 (x5 hlr hrt hlc hcn' hrc) ?_;refine ⟨c+1,by omega,by omega,?_⟩;refine LeW [(1001,some 34)] rfl rfl ?_ ?_ (by simp [q0j,q0b,win]) ?_
     ·exact Ow
     ·exact wfB (q65 Oq)
     ·try refine Zz ?_
      refine ⟨by omega,q0F ?_ clQc⟩;rw [zF]
      show _=_ ++ [qT (D t c)]
      rw [hD,q_ofI]
    ·obtain rfl:n=c:=by omega
     refine wk1 (x3 hlr hrt hlc) ?_;refine ⟨t+1,by omega,by omega,?_⟩;refine q2N (T1:=339) (T2:=291) (K:=some 4) (N:=5000) (R:=10000) (n:=t) (o:=38) (r:=1001) (l:=q70 n D t) (hw:=tXQ n t D) (hw':=tXQ n (t+1) D) (λ_ h=>h rfl) clQ (λj=>(q70 n D j).length) ?_ ?_ (λi h1 h2=>?_) q1R (q1H (by omega) (by omega)) (λi h1 h2=>q1I h1 h2) (λj hj=>q2i (by omega)) (q65 (by omega)) (q60 qdh (λ_ _=>clQ) λj hj=>by omega) ?_ (by omega) (by omega) (by omega) (by omega) (by omega) (by omega) (by simp [nmW]) ?_
     ·try refine Zz ?_
      rw [q7Z]
     ·try refine Zz ?_
      rfl
     ·obtain ⟨w1,w2⟩:=h1
      repeat rw [q0A (by omega)]
      rw [q0W ⟨w1,w2⟩]
     ·exact q0O Oq (.inr Oq)
     ·try refine Zz ?_
      omega
  ·obtain rfl:n=t:=by omega
   refine wk1 hlr ?_;refine (rtM (rs:=[.tmp 2]) rfl rfl Lq ?_ (.inl rfl));exact LeF q3U (λi b hb=>((q65 Oq).b i b hb).1) (wfB (q65 Oq)) (.ow rfl q1R)
def qgw {n:Nat} {A:Mx}:∀ j,(pvE n A j).length=(ech n A j).2.1
 | 0=>rfl
 | j+1=>by
  have ih:=qgw (n:=n) (A:=A) j;rw [pvE,ech,est]
  split
  ·exact ih
  ·rw [yH,ih]; rfl
def qnI {n:Nat} {M:Nat->Nat->Int} (hn:n<=5) (hM:∀ r c,r < n->c < n->bl (M r c).natAbs<=100):ACt 195 [pMM n M] (bT (dtE n λr c=>(M r c:Rat)).num):=by
 have cF:=qqY hn (λr c hr hc=>zR (hM r c hr hc) Oq);obtain ⟨D,hD⟩:∃ D:Nat->Nat->Rat,D=λr c=>(M r c:Rat):=⟨_,rfl⟩;rw [<- hD] at cF ⊢;have cE:=qd2 (D:=D) (b:=100) hn (zL _) Oq (λr c hr hc=>by
  rw [hD];exact ⟨by rw [Rat.num_intCast]; exact hM r c hr hc,by rw [Rat.den_intCast]; exact q0N (by decide)⟩)
 have hl:=qgw (n:=n) (A:=D) n;unfold dtE;have hlr:(((List.range n).map λr=>PV.sl (some 2) ((List.range n).map λc=>bT (M r c))).length)=n:=by simp
 generalize (ech n D n).2.1=k at *;generalize (ech n D n).2.2=d at *;generalize pvE n D n=l at *;refine ac0 Tryz.func195 Tryz.ntmps195 [.cell 2 46] ?_;refine wk ?_;refine qsi λK hK=>?_;refine Zz ?_;refine jmF cF ?_ ?_
 ·exact Ow
 try refine Zz1 hlr ?_
 refine jmF cE ?_ ?_
 ·exact Ow
 try refine Zz ?_
 refine hK _ _ ?_; clear hK K;have q0:(0:Rat).num=0:=rfl
 by_cases hk:k < n
 ·have hk':(k:Int) < n:=by omega
  rw [if_pos hk,q0];exact wk1 (x3 hlr hl hk') trivial
 ·have hk':¬ (k:Int) < n:=by omega
  rw [if_neg hk];exact wk1 (x3 hlr hl hk') trivial
abbrev pZB (n:Nat) (b:Nat->Int):PV:=.sl (some 2) ((List.range n).map λr=>bT (b r))
def q3H (n:Nat) (M:Nat->Nat->Int) (r:Nat):List PV:=(List.range n).map λc=>bT (M r c)
def q5M {n r:Nat} {M:Nat->Nat->Int}:(q3H n M r).length=n:=by unfold q3H; simp
def clB {n r:Nat} {M:Nat->Nat->Int}:ClL (q3H n M r):=λx hx=>by
 obtain ⟨c,_,rfl⟩:=zH.1 hx;intro y hy;simp at hy
 rcases hy with rfl | rfl <;> trivial
def qxk {l:List Nat} {f:Nat->Int}:ClL (l.map λe=>bT (f e)):=λx hx=>by
 obtain ⟨c,_,rfl⟩:=zH.1 hx;intro y hy;simp at hy
 rcases hy with rfl | rfl <;> trivial
def q8T (M:Nat->Nat->Int) (j:Nat) (b:Nat->Int):Nat->Nat->Int:=λr c=>if c=j then b r else M r c
def qjC {n r j:Nat} {M:Nat->Nat->Int} {b:Nat->Int}:(q3H n M r).set j (bT (b r))=q3H n (q8T M j b) r:=by
 unfold q3H q8T;refine yK λi=>?_;rw [yL,zG,zG,zJ,zU]
 rcases xH i n with hn | hn
 ·rw [zB hn,zS,zS]
  by_cases hc:j=i
  ·rw [if_pos hc,if_pos (by omega),if_pos hc.symm]
  ·rw [if_neg hc,if_neg (λe=>hc e.symm)]
 ·rw [z6 (by simpa using hn),y8,y8]
  split
  ·rw [if_neg (by omega)]
  ·rfl
abbrev tXB (n t:Nat) (M:Nat->Nat->Int):Hp:=q1W 64 46 (some 2) 5000 10000 t (q3H n M) h0
def q66 {n t:Nat} {M:Nat->Nat->Int} (ht:t<=1000):BOk (tXB n t M) win:=q1V BOk.h0 (λ_ _=>clB) Oq ⟨⟨by omega,by omega⟩,λj hj=>⟨by omega,by omega⟩⟩
def qaA {n j:Nat} {M:Nat->Nat->Int} {b:Nat->Int} (hn:n<=5) (hj:j < n):ACt 196 [pMM n M,iv j,pZB n b] (pMM n (q8T M j b)):=by
 obtain ⟨M',hM'⟩:∃ M',M'=q8T M j b:=⟨_,rfl⟩;have hset:=λr=>qjC (n:=n) (r:=r) (j:=j) (M:=M) (b:=b);rw [<- hM'] at hset ⊢;refine ac0 Tryz.func196 Tryz.ntmps196 [.tmp 6] ?_;refine wk ?_;refine q1D (LeT (hw:=tXB n 0 M') tnW (λ_ h=>h.elim) (λi hi hw=>?_) (λi b hw hb=>?_) (λi j x hi hj ti tj=>?_) (xs:=[(0,pMM n M),(1,iv j),(2,pZB n b),(7,.ow 5000 none 0 0),(8,iv 0)]) (kv:=[]) (bs:=[]) (kb:=[]) ?_) ?_
 ·simp at hi
 ·unfold LeB;rw [q55 hw.1 hw.2]
  rcases q0k hb with ⟨rfl,rfl⟩ | ⟨_,h1,h2,_⟩ | ⟨_,_,hb⟩
  ·rfl
  ·omega
  ·cases hb
 ·unfold tnW at ti tj
  split at ti <;> split at tj <;> cases ti <;> cases tj <;> rfl
 ·try simp -implicitDefEqProofs (disch:=omega) only [go_sem,Nat.reduceEqDiff,Nat.reduceAdd,↓reduceIte]
 refine q0P (λt=>t<=n) [0,1,2] [] Lk Lk (λt:Nat=>[(7,.ow 5000 none 0 t),(8,iv t)]) (λ_=>[]) (λt=>tXB n t M') (λt=>n-t) 0 (zD _) ?_ ?_
 ·refine LeW [] rfl rfl ?_ ?_ (by simp [q0j,q0b,win]) ?_
  ·exact Ow
  ·exact wfB (q66 Oq)
  ·try refine Zz ?_
   rfl
 ·intro t ht;have hlr:(((List.range n).map λr=>PV.sl (some 2) ((List.range n).map λc=>bT (M r c))).length)=n:=by simp
  by_cases hlt:t < n
  ·have hlt':(t:Int) < n:=by omega
   have hrt:((List.range n).map λr=>PV.sl (some 2) ((List.range n).map λc=>bT (M r c)))[t]?=some (PV.sl (some 2) (q3H n M t)):=by rw [zG,zB hlt]; rfl
   have hrb:((List.range n).map λr=>bT (b r))[t]?=some (bT (b t)):=by rw [zG,zB hlt]; rfl
   have hle:=q5M (n:=n) (r:=t) (M:=M);have hgj:(q3H n M t)[j]?=some (bT (M t j)):=by unfold q3H; rw [zG,zB hj]; rfl
   refine wk1 (x6 hlr hlt' hrt hle hrb hgj) ?_;refine ⟨t+1,by omega,by omega,?_⟩;refine q2N (T1:=64) (T2:=46) (K:=some 2) (N:=5000) (R:=10000) (n:=t) (o:=32) (r:=21) (l:=q3H n M' t) (hw:=tXB n t M') (hw':=tXB n (t+1) M') (λ_ h=>h.elim) clB (λj=>(q3H n M' j).length) ?_ ?_ (λi h1 h2=>?_) q1R (q1H (by omega) (by omega)) (λi h1 h2=>q1I h1 h2) (λj hj=>q2i (by omega)) (q66 (by omega)) (q60 qdh (λ_ _=>clB) λj hj=>by omega) ?_ (by omega) (by omega) (by omega) (by omega) (by omega) (by omega) (by simp [nmW]) ?_
   ·try refine Zz ?_
    rw [q5M]
   ·try refine Zz ?_
    rw [hset]
   ·obtain ⟨w1,w2⟩:=h1
    repeat rw [q0A (by omega)]
    rw [q0W ⟨w1,w2⟩]
   ·exact q0O Oq (.inr Oq)
   ·try refine Zz ?_
    omega
  ·obtain rfl:n=t:=by omega
   have hcl:(∀ j,j < n->ClL (q3H n M' j))=True:=eq_true λ_ _=>clB;refine wk1 (x2 hlr hcl) ?_
   rfl
def qnB {n b:Nat} {A:Mx} (hn:n<=5) (hb:b<=100) (hb1:1<=b) (h:∀ r c,r < n->c < n->qs (A r c) b):∀ j,j<=n->(ech n A j).2.1<=j/\(∀ r c,r < n->c < n->qs ((ech n A j).1 r c) (sB b j))/\qs (ech n A j).2.2 (sB b j*(j+1))
 | 0,_=>⟨zL _,h,qs_1.mono (by show 1<=b*(0+1); omega)⟩
 | j+1,hj=>by
  obtain ⟨h1,h2,h3⟩:=qnB hn hb hb1 h j Oq;have hsb:=qpB (b:=b) (j:=j) hb Oq;have hm6:sB b j*(j+1)<=200000*6:=zI hsb Oq;have hs1:sB b j<=sB b (j+1):=by rw [sB]; omega
  have hs2:sB b j*(j+1)+sB b j<=sB b (j+1)*(j+1+1):=by
   have:sB b j*(j+1)+sB b j=sB b j*(j+1+1):=(Nat.mul_succ _ _).symm;rw [this];exact zI hs1 (zL _)
  rw [ech];generalize ech n A j=S at *;obtain ⟨B,k,d⟩:=S;dsimp only at h1 h2 h3;unfold est;dsimp only
  rcases qbx (A:=B) (j:=j) (n-k) k with ⟨q1,q2⟩ | ⟨q1,q2,q3⟩
  ·rw [if_pos (by omega)];exact ⟨by dsimp only; omega,λr c hr hc=>(h2 r c hr hc).mono hs1,h3.mono (by omega)⟩
  ·rw [if_neg (by omega)];generalize fnz B j k (n-k)=i at *;have hsw:∀ r c,r < n->c < n->qs (swp B i k r c) (sB b j):=λr c hr hc=>by
    unfold swp
    split
    ·exact h2 k c Oq hc
    ·split
     ·exact h2 i c Oq hc
     ·exact h2 r c hr hc
   have hp0:swp B i k k j≠0:=by
    unfold swp
    split
    ·rename_i e; rw [e]; exact q3
    ·rw [if_pos rfl]; exact q3
   have hd:qs (if i=k then d else -d) (sB b j*(j+1)):=by
    split
    ·exact h3
    ·exact ⟨by rw [Rat.neg_num,zZ]; exact h3.1,by rw [Rat.neg_den]; exact h3.2⟩
   refine ⟨by dsimp only; omega,λr c hr hc=>?_,((qfQ (by omega) (by omega) hd (hsw k j (by omega) (by omega))).2.2.2).mono hs2⟩;dsimp only;unfold el
   split
   ·exact (q5l Oq (hsw r c hr hc) (hsw r j hr Oq) (hsw k c Oq hc) (hsw k j Oq Oq) hp0).2
   ·exact (hsw r c hr hc).mono hs1
def qnD {n:Nat} {M:Nat->Nat->Int} (hn:n<=5) (hM:∀ r c,r < n->c < n->bl (M r c).natAbs<=100):bl (dtE n λr c=>(M r c:Rat)).num.natAbs<=1200000:=by
 have h:=(qnB (n:=n) (b:=100) (A:=λr c=>(M r c:Rat)) hn (zL _) (by omega) (λr c hr hc=>⟨by rw [Rat.num_intCast]; exact hM r c hr hc,by rw [Rat.den_intCast]; exact q0N (by decide)⟩) n (zL _)).2.2.1;have hm:sB 100 n*(n+1)<=200000*6:=zI (qpB (zL _) hn) Oq;unfold dtE
 split
 ·show bl 0<=_
  rw [q07]; omega
 ·omega
def slX (n:Nat) (M:Nat->Nat->Int) (b:Nat->Int) (j:Nat):Int:=if (dtE n λr c=>(M r c:Rat)).num < 0 then -(dtE n λr c=>(q8T M j b r c:Rat)).num else (dtE n λr c=>(q8T M j b r c:Rat)).num
def qee {n:Nat} {M:Nat->Nat->Int} {b:Nat->Int} (hn:n<=5) (hM:∀ r c,r < n->c < n->bl (M r c).natAbs<=100) (hb:∀ r,r < n->bl (b r).natAbs<=100) (h0:(dtE n λr c=>(M r c:Rat)).num≠0) :
  ACt 105 [pMM n M,pZB n b] (.tu [pZB n (slX n M b),bT ((dtE n λr c=>(M r c:Rat)).num.natAbs:Nat),bv true]):=by
 have cD:=qnI hn hM;have hR:∀ j,∀ r c,r < n->c < n->bl (q8T M j b r c).natAbs<=100:=λj r c hr hc=>by
  unfold q8T
  split
  ·exact hb r hr
  ·exact hM r c hr hc
 have cR:=λj hj=>qaA (M:=M) (b:=b) (j:=j) hn hj;have cE:=λj=>qnI hn (hR j);have hz:=qnD hn hM;have hy:=λj=>qnD hn (hR j);have hx:∀ j,slX n M b j=if (dtE n λr c=>(M r c:Rat)).num < 0 then -(dtE n λr c=>(q8T M j b r c:Rat)).num else (dtE n λr c=>(q8T M j b r c:Rat)).num:=λj=>rfl
 generalize slX n M b=x at *;generalize (dtE n λr c=>(M r c:Rat)).num=d at *;generalize hyy:(λj=>(dtE n λr c=>(q8T M j b r c:Rat)).num)=y at *;have hyj:∀ j,(dtE n λr c=>(q8T M j b r c:Rat)).num=y j:=λj=>congrFun hyy j;simp only [hyj] at cE hy hx;clear hyj hyy hR hM hb;have cS:=q0r (a:=d) Oq;have cA:=q41 (a:=d) Oq;have cN:=λj=>q7Q (a:=y j) (by have:=hy j; omega);have hs0:(d.sign == 0)=false:=by simp [zQ,h0]
 have hlr:(((List.range n).map λr=>PV.sl (some 2) ((List.range n).map λc=>bT (M r c))).length)=n:=by simp
 unfold bT at cD cE cS cA cN ⊢;refine ac0 Tryz.func105 Tryz.ntmps105 [.tmp 4,.cell 5 46,.tmp 6] ?_;refine wk1 hs0 ?_;refine q0B (λj=>j<=n) [0,1,5,7] [5,7] Lk Lk (λj:Nat=>[(8,.ow 1001 (some 2) 0 j),(9,iv j)]) (λj=>[(1001,⟨46,some 2,(List.range j).map λe=>bT (x e),false⟩)]) (λj=>n-j) 0 (zD _) ?_ ?_
 ·refine LeM [(1001,none)] rfl rfl ?_;refine Zz ?_;exact ⟨rfl,rfl⟩
 ·intro j hj
  by_cases hlt:j < n
  ·have hlt':(j:Int) < n:=by omega
   have c1:=cR j hlt;have c2:=cE j;have c3:=cN j;have hxj:=hx j;have ha:(List.range (j+1)).map (λe=>bT (x e))=(List.range j).map (λe=>bT (x e)) ++ [bT (x j)]:=by rw [yE,zF]; rfl
   by_cases hd:d < 0
   ·have hs:d.sign < 0:=by rw [yC hd]; omega
    rw [if_pos hd] at hxj;rw [<- hxj] at c3;refine wk1 (x3 hlr hlt' hs) ?_;refine ⟨j+1,by omega,by omega,?_⟩;refine LeM [(1001,some 36)] rfl rfl ?_;refine Zz ?_;exact ⟨by omega,q0F (by rw [zF]; rfl) qxk⟩
   ·have hs:¬ d.sign < 0:=by rw [yA (by omega)]; omega
    rw [if_neg hd] at hxj;rw [<- hxj] at c2;refine wk1 (x3 hlr hlt' hs) ?_;refine ⟨j+1,by omega,by omega,?_⟩;refine LeM [(1001,some 36)] rfl rfl ?_;refine Zz ?_;exact ⟨by omega,q0F (by rw [zF]; rfl) qxk⟩
  ·obtain rfl:n=j:=by omega
   have hcl:(∀ a,a ∈ List.range n->Cld (bT (x a)))=True:=eq_true λa _=>by
    intro y hy;simp at hy
    rcases hy with rfl | rfl <;> trivial
   exact wk1 (x2 hlr hcl) trivial
def qox {z V:Int} {K:Nat} (hK:K=65536) (hV:V=z*(2:Int) ^ K):shI (od V) (dyE V)=z:=by
 by_cases h0:z=0
 ·subst h0;rw [xA] at hV;subst hV;rw [q15];unfold dyE shI;simp
 ·have hp:(2:Int) ^ K≠0:=x7 (q0K K);have hV0:V≠0:=by rw [hV]; exact yR h0 hp
  have e:=q1F z;obtain ⟨o1,o2⟩:=qf4 (m:=V) (o:=od z) (k:=tz z.natAbs+K) (q8o h0) (by rw [hV,zV,<- zO,e]);have hd:dyE V=(tz z.natAbs:Nat):=by unfold dyE; rw [if_neg hV0,o2]; omega
  rw [o1,hd];unfold shI;rw [if_pos (by omega),zY];exact e
def qeX {z V:Int} {K:Nat} (hK:K=65536) (ho:q0U V) (hV:V=z*(2:Int) ^ K):ACt 136 [dT V] (.tu [bT z,bv true]):=by
 obtain ⟨h1,h2,h3⟩:=q0x ho;have cN:=q0h ho;have cS:=q2s (s:=decide (od V < 0)) (a:=od V) (m:=dyE V) rfl Oq Oq Oq;rw [qox hK hV] at cS;unfold dT at *;refine ac0 Tryz.func136 Tryz.ntmps136 [.cell 2 46,.tmp 3] ?_;exact wk trivial
def q5a {z:Int} {K:Nat} (hK:K=65536) (hz:bl z.natAbs<=65536):ACt 44 [bT z] (dT (z*(2:Int) ^ K)):=by
 have hm:=q5p (m:=z) (E:=0) Oq Oq;rw [show (0+65536:Int).toNat=65536 from rfl,<- hK] at hm;have C:=qcK (s:=decide (z < 0)) (m:=z) (e:=0) rfl Oq Oq Oq hm;generalize z*(2:Int) ^ K=V at *;unfold bT dT at *;refine ac0 Tryz.func44 Tryz.ntmps44 [.cell 2 48] ?_;exact wk trivial


end Go.Proofs.YtpbaikoblfcmdaaGreatDoor
namespace Go.Dt
def qmN {g:Nat->Rat}:∀ n,(∀ i,i < n->∃ z:Int,g i=(z:Rat))->∃ z:Int,sq g n=(z:Rat)
 | 0,_=>⟨0,rfl⟩
 | n+1,h=>by
  obtain ⟨a,ha⟩:=qmN n λi hi=>h i Oq;obtain ⟨b,hb⟩:=h n Oq;exact ⟨a+b,by rw [sq,ha,hb,Rat.intCast_add]⟩
def qaa:∀ (n:Nat) {A:Mx},(∀ i j,∃ z:Int,A i j=(z:Rat))->∃ z:Int,det n A=(z:Rat)
 | 0,_,_=>⟨1,rfl⟩
 | n+1,A,h=>by
  rw [det];refine qmN (n+1) λi _=>?_;obtain ⟨a,ha⟩:=h i 0;obtain ⟨b,hb⟩:=qaa n (A:=mn A i) λr c=>by unfold mn; exact h _ _
  obtain ⟨s,hs⟩:∃ s:Int,sg1 i=(s:Rat):=by
   unfold sg1
   split
   ·exact ⟨1,rfl⟩
   ·exact ⟨-1,rfl⟩
  exact ⟨s*a*b,by rw [ha,hb,hs,Rat.intCast_mul,Rat.intCast_mul]⟩
end Go.Dt
namespace Go.Proofs.YtpbaikoblfcmdaaGreatDoor
open Go Go.E Go.Sp Go.Dt
def q7v {n:Nat} {M:Nat->Nat->Int}:(((dtE n λr c=>(M r c:Rat)).num:Int):Rat)=det n λr c=>(M r c:Rat):=by
 rw [q9M.1];obtain ⟨z,hz⟩:=qaa n (A:=λr c=>(M r c:Rat)) λi j=>⟨M i j,rfl⟩;rw [hz,Rat.num_intCast]
section
variable {x y:List Nat} {t:Nat}
end
section
variable {f:Nat->Nat->Option Nat} {x:List Nat} {R C:Nat}
end


end Go.Proofs.YtpbaikoblfcmdaaGreatDoor
namespace Go.E
open Go Go.RowKit
end Go.E
namespace Go.Proofs.YtpbaikoblfcmdaaGreatDoor
open Go Go.E Go.Sp
section
variable {pm cp ri:List Int} {vs l:List Nat}
end
end Go.Proofs.YtpbaikoblfcmdaaGreatDoor
namespace Go.Sp
open Go Go.E Go.Proofs.YtpbaikoblfcmdaaGreatDoor
section
open Classical
end
section
variable {n:Nat} {f:Nat->Nat->Option Nat} {F:List Int × List Int × List Int × List Nat} {x r p:List Nat} {rho:Int}
end
end Go.Sp
namespace Go.E
open Go Go.RowKit
end Go.E
namespace Go.Proofs.YtpbaikoblfcmdaaGreatDoor
open Go Go.E Go.Sp
section
variable {n:Nat} {f:Nat->Nat->Option Nat} {F:List Int × List Int × List Int × List Nat} {x r p:List Nat} {rho:Int}
def qwN {a0 a1 a2 a3 a4 a5 a6 a7 a8 a9 a10 a11 a12 a13 a14 a15 a16:PV}:ldU (some 17) (some 5) 0 (.ag [a0,a1,a2,a3,a4,a5,a6,a7,a8,a9,a10,a11,a12,a13,a14,a15,a16])=some (.ag [a0,a1,a2,a3,a4]):=by simp [ldU]
def qwO {a0 a1 a2 a3 a4 a5 a6 a7 a8 a9 a10 a11 a12 a13 a14 a15 a16:PV}:ldU (some 17) (some 4) 5 (.ag [a0,a1,a2,a3,a4,a5,a6,a7,a8,a9,a10,a11,a12,a13,a14,a15,a16])=some (.ag [a5,a6,a7,a8]):=by simp [ldU]
def qwM {a0 a1 a2 a3 a4 a5 a6 a7 a8 a9 a10 a11 a12 a13 a14 a15 a16:PV}:ldU (some 17) (some 4) 13 (.ag [a0,a1,a2,a3,a4,a5,a6,a7,a8,a9,a10,a11,a12,a13,a14,a15,a16])=some (.ag [a13,a14,a15,a16]):=by simp [ldU]
def qu5 {a0 a1 a2 a3 a4 a5 a6 a7 a8 a9 a10 a11 a12 a13 a14 a15 a16 b0 b1 b2 b3:PV}:stU (some 17) (some 4) 13 (.ag [a0,a1,a2,a3,a4,a5,a6,a7,a8,a9,a10,a11,a12,a13,a14,a15,a16]) (.ag [b0,b1,b2,b3])=some (.ag [a0,a1,a2,a3,a4,a5,a6,a7,a8,a9,a10,a11,a12,b0,b1,b2,b3]):=by simp [stU]
attribute [go_sem] qwN qwO qwM qu5
end
section
variable {R C:Nat} {f:Nat->Nat->Option Nat} {F:List Int × List Int × List Int × List Nat} {b:List Nat} {steps:Int}
end
end Go.Proofs.YtpbaikoblfcmdaaGreatDoor
namespace Go.E
open Go Go.RowKit
def flS_5 {off:Nat} {a b c d e:PV} {cs:List PV}:flS (some (off,5)) (.ag [a,b,c,d,e]) cs=q96 cs off [a,b,c,d,e]:=by
 rw [q43 (by simp)];simp [flS]
attribute [go_sem] flS_5
end Go.E
namespace Go.Proofs.YtpbaikoblfcmdaaGreatDoor
open Go Go.E Go.Sp
section
variable {R C:Nat} {f:Nat->Nat->Option Nat} {F:List Int × List Int × List Int × List Nat} {b:List Nat} {steps:Int}
end
section
variable {n k:Nat} {f:Nat->Nat->Option Nat} {F:List Int × List Int × List Int × List Nat} {x r p x' r' p' l:List Nat} {rho rho' e:Int}
end
section
variable {R C:Nat} {f:Nat->Nat->Option Nat} {F:List Int × List Int × List Int × List Nat} {b:List Nat} {steps:Int}
end
def qnM {h:Hp}:clo h .un=some (.un,[]):=by
 unfold clo q2W;exact if_pos trivial
section
variable {f:Nat->Nat->Option Nat} {n:Nat}
end

end Go.Proofs.YtpbaikoblfcmdaaGreatDoor
namespace Go.Sp
open Go Go.E Go.Proofs.YtpbaikoblfcmdaaGreatDoor
def qpi {z:Int} {K:Nat} (hK:K=65536) (h:z.natAbs<=9):ofZ (flz z)=z*(2:Int) ^ K:=by rw [hK]; exact q01 (qg1 (by omega))
section
variable {c1 c2 c4 c8 K:Nat}
end
end Go.Sp
namespace Go.Dt
def fcN (m:Nat):Nat->Nat
 | 0=>1
 | n+1=>(n+1)*(m*fcN m n)
def qmO {c:Rat}:∀ n,sq (λ_=>c) n=(n:Rat)*c
 | 0=>by rw [sq]; exact (Rat.zero_mul c).symm
 | n+1=>by rw [sq,qmO n,show ((n+1:Nat):Rat)=(n:Rat)+1 by push_cast; rfl]; grind
def qzH (i:Nat):ab (sg1 i)=1:=by unfold sg1 ab; split <;> rfl
def qhH {m:Nat}:∀ (n:Nat) {A:Mx},(∀ i j,i < n->j < n->ab (A i j)<=(m:Rat))->ab (det n A)<=((fcN m n:Nat):Rat)
 | 0,_,_=>by rw [det]; exact Rat.le_refl
 | n+1,A,h=>by
  rw [det,fcN];refine Rat.le_trans (qih (n+1)) (Rat.le_trans (qig (n+1) (h:=λ_=>(m:Rat)*((fcN m n:Nat):Rat)) λi hi=>?_) ?_)
  ·rw [q6N,q6N,qzH,Rat.one_mul];have h1:=h i 0 hi Oq;have h2:=qhH n (A:=mn A i) λr c hr hc=>by
    unfold mn;exact h _ _ (by split <;> omega) Oq
   exact Rat.le_trans (q3L h1 (qaq _)) (q2r h2 (Rat.le_trans (qaq _) h1))
  ·rw [qmO]
   push_cast
   exact Rat.le_refl
def qa9 {c:Rat}:∀ (n:Nat) {A:Mx},det n (λi j=>c*A i j)=pr (λ_=>c) n*det n A
 | 0,_=>by rw [det,det,pr]; exact (Rat.mul_one 1).symm
 | n+1,A=>by
  rw [det,det,pr,<- qbW];refine q0X _ λi hi=>?_;have e:mn (λi j=>c*A i j) i=λr s=>c*mn A i r s:=rfl;rw [e,qa9 n]
  grind
def qm5 (a:Nat):∀ n,pr (λ_=>(a:Rat)) n=((a ^ n:Nat):Rat)
 | 0=>rfl
 | n+1=>by rw [pr,qm5 a n,Nat.pow_succ]; push_cast; rfl
def qwQ {n a m:Nat} {A:Mx} (h0:det n A≠0) (hi:∀ i j,∃ z:Int,(a:Rat)*A i j=(z:Rat)) (hm:∀ i j,i < n->j < n->ab (A i j)<=(m:Rat)) (hm1:1<=m) (ha:0 < a) {y:Nat->Rat} {j:Nat} (hy:∀ i,i < n->mv n A y i=if i=j then 1 else 0) {t:Nat} (ht:t < n):ab (y t)<=((fcN m n*a ^ n:Nat):Rat):=by
 have h1:=qnK ht hy;obtain ⟨z,hz⟩:=qaa n (A:=λi j=>(a:Rat)*A i j) hi;rw [qa9,qm5] at hz;have h2:ab (det n (cw A t λi=>if i=j then 1 else 0))<=((fcN m n:Nat):Rat):=qhH n λr c hr hc=>by
  unfold cw
  split
  ·have h1m:(1:Rat)<=(m:Rat):=by exact_mod_cast hm1
   have h0m:(0:Rat)<=(m:Rat):=by grind
   dsimp only
   split
   ·rw [show ab 1=1 from rfl]; exact h1m
   ·rw [qhn]; exact h0m
  ·exact hm r c hr hc
 rw [h1,q6N] at h2;have hz0:z≠0:=by
  rintro rfl
  rcases Rat.mul_eq_zero.1 (hz.trans rfl) with q | q
  ·have:(a ^ n:Nat)≠0:=Nat.pos_iff_ne_zero.1 (Nat.pow_pos ha);exact this (by exact_mod_cast q)
  ·exact h0 q
 have h3:(1:Rat)<=((a ^ n:Nat):Rat)*ab (det n A):=by
  have e:((a ^ n:Nat):Rat)*ab (det n A)=ab (z:Rat):=by
   rw [<- hz,q6N]
   congr 1
   unfold ab;rw [if_neg (Rat.not_lt.2 (by exact_mod_cast zD _))]
  rw [e];have:(1:Int)<=(z.natAbs:Int):=by omega
  unfold ab
  split
  ·rename_i q;have q2:z < 0:=by exact_mod_cast q
   have:(1:Int) <= -z:=by omega
   exact_mod_cast this
  ·rename_i q;have q2:¬ z < 0:=λw=>q (by exact_mod_cast w);have:(1:Int)<=z:=by omega
   exact_mod_cast this
 have h4:=q2r h3 (qaq (y t));have h5:=q3L h2 (show (0:Rat)<=((a ^ n:Nat):Rat) by exact_mod_cast zD _)
 push_cast at h5 ⊢
 push_cast at h4
 generalize ab (y t)=p at *;generalize ab (det n A)=q at *;generalize ((a:Rat) ^ n)=w at *;generalize ((fcN m n:Nat):Rat)=u at *
 grind
def qqE {n a m:Nat} {A:Mx} (h0:det n A≠0) (hi:∀ i j,i < n->j < n->∃ z:Int,(a:Rat)*A i j=(z:Rat)) (hm:∀ i j,i < n->j < n->ab (A i j)<=(m:Rat)) (hm1:1<=m) (ha:0 < a) {y:Nat->Rat} {j:Nat} (hy:∀ i,i < n->mv n A y i=if i=j then 1 else 0) {t:Nat} (ht:t < n):ab (y t)<=((fcN m n*a ^ n:Nat):Rat):=by
 have e:∀ i j,i < n->j < n->(λi j=>if i < n/\j < n then A i j else 0:Mx) i j=A i j:=λi j hi hj=>if_pos ⟨hi,hj⟩;refine qwQ (A:=λi j=>if i < n/\j < n then A i j else 0) (by rw [q2t n e]; exact h0) (λi k=>?_) (λi j hi hj=>by show ab (if i < n/\j < n then A i j else 0)<=_; rw [if_pos ⟨hi,hj⟩]; exact hm i j hi hj) hm1 ha (y:=y) (j:=j) (λi hi'=>?_) ht
 ·by_cases c:i < n/\k < n
  ·obtain ⟨z,hz⟩:=hi i k c.1 c.2;exact ⟨z,by rw [if_pos c]; exact hz⟩
  ·exact ⟨0,by rw [if_neg c,Rat.mul_zero]; rfl⟩
 ·rw [<- hy i hi'];unfold mv;exact q0X n λk hk=>by dsimp only; rw [if_pos ⟨hi',hk⟩]
set_option exponentiation.threshold 600
end Go.Dt
namespace Go.Proofs.YtpbaikoblfcmdaaGreatDoor
open Go Go.E Go.Sp Go.Dt
def tUn:Nat:=65480
def q9p:tUn=65480:=rfl
def gok (b f:Nat):Prop:=f < 18446744073709551616/\q0I f/\∃ m:Int,ofZ f=m*(2:Int) ^ tUn/\m.natAbs < b
def gok.mono {a b f:Nat} (h:gok a f) (hab:a<=b):gok b f:=by
 obtain ⟨h1,h2,m,h3,h4⟩:=h;exact ⟨h1,h2,m,h3,by omega⟩
def gok_0 {b:Nat} (hb:0 < b):gok b 0:=⟨by omega,by simp [q0I],0,by rw [q01 q3K,xA],hb⟩
def qfA {s e m f:Nat} (hs:s < 2) (he:0 < e) (he2:e < 2047) (hm:m < 4503599627370496) (hf:f=s*9223372036854775808+e*4503599627370496+m):ofF f=some (sgn (decide (s=1)) (4503599627370496+m)*(2:Int) ^ (64461+e))/\f < 18446744073709551616/\q0I f:=by
 have h1:f / 4503599627370496 % 2048=e:=by omega
 have h2:f % 4503599627370496=m:=by omega
 have h3:decide (9223372036854775808<=f)=decide (s=1):=by rw [decide_eq_decide]; omega
 refine ⟨?_,by omega,by unfold q0I; omega⟩;unfold ofF;rw [h1,h2,h3,if_neg (by omega),if_neg (by omega)]
def qgR {s e m f t p b:Nat} {M:Nat} (hs:s < 2) (he:0 < e) (he2:e < 2047) (hm:m < 4503599627370496) (hf:f=s*9223372036854775808+e*4503599627370496+m) (hM:4503599627370496+m=M*2 ^ p) (ht:p+(64461+e)=t+tUn) (hb:M*2 ^ t < b):gok b f:=by
 obtain ⟨h1,h2,h3⟩:=qfA hs he he2 hm hf;refine ⟨h2,h3,sgn (decide (s=1)) (M*2 ^ t),?_,by rw [q1N]; exact hb⟩;rw [q01 h1,hM,q7V,q7V,zO,zO,<- zV,<- zV,ht]
def qbf {k w:Nat} (hk:k < 3) (hx:w < 18446744073709551616):gok (3*39614081257132168796771975168+1) (q2U k w):=by
 unfold q2U
 by_cases h1:k=1
 ·rw [if_pos h1];obtain ⟨e,he⟩:∃ e,e=w / 4503599627370496 % 8:=⟨_,rfl⟩;rw [<- he];refine qgR (s:=w / 9223372036854775808) (e:=1019+e) (m:=w % 4503599627370496) (M:=4503599627370496+w % 4503599627370496) (p:=0) (t:=e) (by omega) (by omega) (by omega) (by omega) rfl (by omega) (by rw [q9p]; omega) ?_;have h3:2 ^ e<=2 ^ 7:=yF Oq Oq;have h4:=zI (show 4503599627370496+w % 4503599627370496<=9007199254740992 by omega) h3;exact yI h4 (by decide)
 ·rw [if_neg h1]
  by_cases h2:k=2
  ·rw [if_pos h2];obtain ⟨e,he⟩:∃ e,e=w / 256 % 81:=⟨_,rfl⟩;obtain ⟨h,hh⟩:∃ h,h=w / 2251799813685248 % 2:=⟨_,rfl⟩;rw [<- he,<- hh];have hh2:h < 2:=by omega
   refine qgR (s:=w / 9223372036854775808) (e:=983+e) (m:=h*2251799813685248) (M:=2+h) (p:=51) (t:=15+e) (by omega) (by omega) (by omega) (by omega) rfl ?_ (by rw [q9p]; omega) ?_
   ·have:(2:Nat) ^ 51=2251799813685248:=by decide
    rw [this]; omega
   ·have h3:2 ^ (15+e)<=39614081257132168796771975168:=zR (yF Oq (show 15+e<=95 by omega)) (Nat.le_of_eq rfl);have h4:=zI (show 2+h<=3 by omega) h3;omega
  ·rw [if_neg h2,if_neg (by omega)];have hs:=q5I w;generalize q3p w=z at *;refine ⟨qmx Oq,qg2 Oq,z*(2:Int) ^ 56,?_,?_⟩
   ·obtain ⟨K,hK⟩:∃ K:Nat,K=65536:=⟨_,rfl⟩;rw [qpi hK (by omega),zO,<- zV,show K=56+tUn by rw [hK,q9p]]
   ·rw [q0G];have:=zI (show z.natAbs<=9 by omega) (zL (2 ^ 56));exact yI this (by decide)
def fR2_m {m t K:Nat} (hK:K=65536) (ht1:K<=t+1000) (ht2:t+56<=K) (hm:0 < m) (hb:m < 2 ^ 110):∃ m':Nat,q0I (fR 2 ((m:Int)*(2:Int) ^ t))/\ofZ (fR 2 ((m:Int)*(2:Int) ^ t))=(m':Int)*(2:Int) ^ t/\m<=m'/\m'<=m+m / 2 ^ 52:=by
 have hp:=q0K t;have hV:0 < (m:Int)*(2:Int) ^ t:=Int.mul_pos Oq hp;have hVn:((m:Int)*(2:Int) ^ t).natAbs=m*2 ^ t:=by rw [q0G,zE]
 have hx:fR 2 ((m:Int)*(2:Int) ^ t)=rF 2 false (m*2 ^ t) (2 ^ K):=by
  unfold fR;rw [if_neg (by omega),decide_eq_false (by omega),hVn,hK]
 obtain ⟨u,r,h1,h2,h3,h4,h5⟩:=q38 (mode:=2) (neg:=false) (N:=m*2 ^ t) (D:=2 ^ K) (K:=K) (Nat.mul_pos hm (q0E _)) (q0E _) Oq;rw [hx,h2];have hu:u+1076 < 2047+K:=by
  rcases h5 with h5 | ⟨_,h5⟩
  ·omega
  ·rw [<- uV,yQ,<- uV] at h5;have h6:=Nat.mul_lt_mul_of_pos_right hb (q0E (t+K));rw [<- uV] at h6;have h7:=(Nat.pow_lt_pow_iff_right (by omega:1 < 2)).1 (yI h5 h6);omega
 have hfv:=q5x (mode:=2) (neg:=false) hK h1 h4 (by rcases h5 with h5 | h5; exact .inl h5; exact .inr h5.1) hu;obtain ⟨f1,f2⟩:=q5y hfv;rw [z8 (2 ^ K) (2 ^ u),q3E (q0E K)] at h3
 by_cases hut:u<=t
 ·refine ⟨m,f1,?_,zL _,by omega⟩;rw [f2,qbZ];obtain ⟨c,rfl⟩:∃ c,t=u+c:=⟨t-u,by omega⟩;have hr:r=m*2 ^ c:=by
   rw [h3,uV,z8 (2 ^ u),<- yQ,q3F (Nat.mul_mod_left _ _),Nat.mul_div_cancel _ (q0E u)]
  rw [hr,zK,q0V,zO,<- zV,Nat.add_comm c]
 ·obtain ⟨c,rfl⟩:∃ c,u=t+c:=⟨u-t,by omega⟩;refine ⟨r*2 ^ c,f1,?_,?_,?_⟩
  ·rw [f2,qbZ,zK,q0V,zO,<- zV,Nat.add_comm c]
  ·have:=qet (A:=m*2 ^ t) (q0E (t+c));rw [<- h3,uV,z8 (2 ^ t),Nat.mul_right_comm] at this;have:=yN this (q0E t);rw [z8 r]; exact this
  ·have h6:r<=m*2 ^ t / 2 ^ (t+c)+1:=by rw [h3]; exact qpJ
   rw [uV,z8 m,Nat.mul_div_mul_left _ _ (q0E t)] at h6;have h7:r*2 ^ c<=(m / 2 ^ c+1)*2 ^ c:=zP _ h6;rw [Nat.add_mul,Nat.one_mul] at h7;have h8:=Nat.div_mul_le_self m (2 ^ c);have h9:2 ^ c<=m / 2 ^ 52:=by
    rcases h5 with h5 | ⟨_,h5⟩
    ·omega
    ·rw [Nat.le_div_iff_mul_le (q0E 52),<- uV];rw [z8,show t+c+52=c+52+t by omega,uV 2 (c+52) t] at h5;exact yN (yN h5 (q0E K)) (q0E t)
   omega
def qe1 {G:Nat->Nat->Option Nat} {n i:Nat} (hG:∀ r c,gok (3*39614081257132168796771975168+1) ((G r c).getD 0)) (hi:i < n):∀ k,∃ m:Nat,q1M (rgL G i k)=(m:Int)*(2:Int) ^ tUn/\0 < m/\m<=2 ^ 56+6*k*39614081257132168796771975168
 | 0=>⟨2 ^ 56,by
   unfold rgL;rw [q22,qbc,show (((2 ^ 56:Nat):Int))=(2:Int) ^ 56 from rfl,<- zV];exact congrArg (λk:Nat=>(2:Int) ^ k) (show 65536=56+tUn by rw [q9p]),q0E 56,by omega⟩
 | k+1=>by
  obtain ⟨m,h1,h2,h3⟩:=qe1 hG hi k;unfold rgL
  split
  ·exact ⟨m,h1,h2,zR h3 (xS (zP _ (y9 6 (Nat.le_succ k))) _)⟩
  ·obtain ⟨_,_,a,a1,a2⟩:=hG k i;obtain ⟨_,_,c,c1,c2⟩:=hG i k;refine ⟨m+a.natAbs+c.natAbs,?_,by clear h1 a1 c1; omega,by clear h1 a1 c1; omega⟩;rw [show ∀ p q:Int,[p,q]=[p] ++ [q] from λ_ _=>rfl,<- yW,q0l,q0l,h1,a1,c1,q0G,q0G]
   push_cast
   rw [uQ,uQ]
def qgX {raw:List Nat} {n k:Nat} (hk:k < 3) {j i:Nat}:gok (3*39614081257132168796771975168+1) ((gF raw n k j i).getD 0):=by
 unfold gF
 split
 ·exact qbf hk (q2M _ _)
 ·exact gok_0 (by decide)
def qpM {raw:List Nat} {n k:Nat} (hn:n<=4) (hk:k < 3) {j i:Nat} (hi:i < n):gok (2 ^ 100) ((rgF (gF raw n k) n j i).getD 0):=by
 unfold rgF
 split
 ·obtain ⟨m,h1,h2,h3⟩:=qe1 (G:=gF raw n k) (n:=n) (i:=i) (λr c=>qgX hk) hi n;obtain ⟨P,hP⟩:∃ P:Nat,P=39614081257132168796771975168:=⟨_,rfl⟩;rw [<- hP] at h3;have h4:m<=2 ^ 56+24*P:=zR h3 (xS (zP P (show 6*n<=24 by omega)) _);obtain ⟨K,hK⟩:∃ K:Nat,K=65536:=⟨_,rfl⟩;obtain ⟨m',g1,g2,g3,g4⟩:=fR2_m (t:=tUn) hK (by rw [q9p]; omega) (by rw [q9p]; omega) h2 (yI h4 (by rw [hP]; decide));rw [x8,h1];refine ⟨q4E,g1,m',g2,?_⟩;rw [zE];have:(2:Nat) ^ 100=1267650600228229401496703205376:=by decide
  have:(2:Nat) ^ 56=72057594037927936:=by decide
  have:(2:Nat) ^ 52=4503599627370496:=by decide
  omega
 ·exact (qgX hk).mono Oq
def qi2 {raw:List Nat} {k:Int} {st n:Nat} (hk:st < 3):∀ x ∈ q4y raw k st n,gok (2 ^ 100) x:=λx hx=>by
 unfold q4y at hx;obtain ⟨i,_,rfl⟩:=zH.1 hx;exact (qbf hk (q2M _ _)).mono Oq
def sml (f:Nat):Prop:=f < 18446744073709551616/\f % 9223372036854775808 < 1500*4503599627370496
def qon {f d:Nat} (h:sml f) (hd:d<=1000000):(f+d) % 18446744073709551616 < 18446744073709551616/\q0I ((f+d) % 18446744073709551616):=by
 unfold sml at h;unfold q0I;omega
def qii {w:Nat} (hw:w < 18446744073709551616):sml (q2U 2 w):=by
 unfold q2U sml;rw [if_neg (by omega),if_pos rfl];obtain ⟨e,he⟩:∃ e,e=w / 256 % 81:=⟨_,rfl⟩;obtain ⟨h,hh⟩:∃ h,h=w / 2251799813685248 % 2:=⟨_,rfl⟩;obtain ⟨s,hs⟩:∃ s,s=w / 9223372036854775808:=⟨_,rfl⟩;rw [<- he,<- hh,<- hs];have:h < 2:=by omega
 have:e < 81:=by omega
 have:s < 2:=by omega
 clear he hh hs hw;have hx:(983+e)*4503599627370496+h*2251799813685248 < 9223372036854775808:=by omega
 have hx2:(983+e)*4503599627370496+h*2251799813685248 < 1500*4503599627370496:=by omega
 have e1:(s*9223372036854775808+((983+e)*4503599627370496+h*2251799813685248)) % 9223372036854775808=(983+e)*4503599627370496+h*2251799813685248:=by
  rw [z8 s,Nat.mul_add_mod,Nat.mod_eq_of_lt hx]
 have e2:=Nat.add_lt_add_of_le_of_lt (zP 9223372036854775808 (show s<=1 by omega)) hx;rw [Nat.add_assoc];exact ⟨e2,by rw [e1]; exact hx2⟩
def qom {f:Nat} (hu:f < 18446744073709551616) (hf:q0I f) {K:Nat} (hK:K=65536) (h:(ofZ f).natAbs<=2 ^ (K+460)):sml f:=by
 refine ⟨hu,?_⟩;obtain ⟨e,he⟩:∃ e,e=f / 4503599627370496 % 2048:=⟨_,rfl⟩;obtain ⟨m,hm⟩:∃ m,m=f % 4503599627370496:=⟨_,rfl⟩;have hm2:m < 4503599627370496:=by omega
 by_cases h0:e=0
 ·omega
 unfold q0I at hf;obtain ⟨s,hs⟩:∃ s,s=f / 9223372036854775808:=⟨_,rfl⟩;obtain ⟨h1,_,_⟩:=qfA (f:=f) (s:=s) (e:=e) (m:=m) Oq Oq Oq hm2 Oq;rw [q01 h1,q0G,q1N] at h;have h2:2 ^ 52*2 ^ (64461+e)<=(4503599627370496+m)*2 ^ (64461+e):=zP _ (by
  have:(2:Nat) ^ 52=4503599627370496:=by decide
  omega)
 rw [<- uV] at h2;have:=(Nat.pow_le_pow_iff_right (by omega:1 < 2)).1 (zR h2 h);omega
section
variable {F:Nat->Nat->Option Nat} {n K:Nat} {v:List Nat}
def qar (z:Int):ab (z:Rat)=((z.natAbs:Int):Rat):=by
 unfold ab
 split
 ·rename_i q;have q2:z < 0:=by exact_mod_cast q
  rw [show (z.natAbs:Int) = -z by omega]; push_cast; rfl
 ·rename_i q;have q2:¬ z < 0:=λw=>q (by exact_mod_cast w);rw [show (z.natAbs:Int)=z by omega]
def qgS {f:Nat} (hK:K=65536) (h:gok (2 ^ 100) f):(∃ z:Int,((2 ^ 56:Nat):Rat)*rK K (ofZ f)=(z:Rat))/\ab (rK K (ofZ f))<=((2 ^ 44:Nat):Rat):=by
 obtain ⟨_,_,m,h1,h2⟩:=h;have p:=pKp K;have e:(((2:Int) ^ K:Int):Rat)=((2 ^ 56:Nat):Rat)*(((2:Int) ^ tUn:Int):Rat):=by
  have:(2:Int) ^ K=((2 ^ 56:Nat):Int)*(2:Int) ^ tUn:=by rw [show K=56+tUn by rw [hK,q9p],zV]; rfl
  rw [this,Rat.intCast_mul,Rat.intCast_natCast]
 have e2:((ofZ f:Int):Rat)=(m:Rat)*(((2:Int) ^ tUn:Int):Rat):=by rw [h1,Rat.intCast_mul]
 have key:((2 ^ 56:Nat):Rat)*rK K (ofZ f)=(m:Rat):=by
  unfold rK;rw [e2];have q:((2 ^ 56:Nat):Rat)*((m:Rat)*(((2:Int) ^ tUn:Int):Rat) / (((2:Int) ^ K:Int):Rat))=(m:Rat)*(((2 ^ 56:Nat):Rat)*(((2:Int) ^ tUn:Int):Rat)) / (((2:Int) ^ K:Int):Rat):=by
   rw [Rat.div_def,Rat.div_def]; grind
  rw [q,<- e,Rat.div_def,Rat.mul_assoc,Rat.mul_inv_cancel _ (by grind),Rat.mul_one]
 refine ⟨⟨m,key⟩,?_⟩;have h3:ab (m:Rat)<=((2 ^ 56:Nat):Rat)*((2 ^ 44:Nat):Rat):=by
  have h4:((m.natAbs:Nat):Int)<=((2 ^ 56*2 ^ 44:Nat):Int):=by
   have:(2:Nat) ^ 56*2 ^ 44=2 ^ 100:=by decide
   rw [this]; omega
  rw [qar];have h5:=Rat.intCast_le_intCast.2 h4;rw [Rat.intCast_natCast (2 ^ 56*2 ^ 44),Rat.natCast_mul] at h5;exact h5
 rw [<- key,q6N] at h3;have e3:ab (((2 ^ 56:Nat):Rat))=((2 ^ 56:Nat):Rat):=by
  unfold ab;rw [if_neg (Rat.not_lt.2 (by exact_mod_cast zD _))]
 rw [e3] at h3;have hp:(0:Rat) < ((2 ^ 56:Nat):Rat):=by exact_mod_cast (by decide:0 < 2 ^ 56)
 exact Rat.le_of_mul_le_mul_left h3 hp
def qaM (P:Nat):((P+P:Nat):Rat)=(P:Rat)+(P:Rat):=by push_cast; rfl
def qt7 (hK:K=65536) (hn:n<=4) (h:TOk F n n) (hv:q03 v) (hg:¬ q2T<=grZ (btL n v F)) (hF:∀ j i,j < n->i < n->gok (2 ^ 100) ((F j i).getD 0)) {i k:Nat} (hi:i < n) (hk:k < n):sml (v.getD (k*n+i) 0):=by
 have hreg:=qlc hK h hv hg;have hex:∀ j,∃ y:Nat->Rat,∀ i,i < n->mv n (mA K F) y i=if i=j then 1 else 0:=λj=>by
  rcases (q9M (n:=n) (A:=mA K F)).2 with q | q
  ·exact q.2.1 λi=>if i=j then 1 else 0
  ·exact (hreg q.1).elim
 obtain ⟨B,hB⟩:∃ B:Mx,∀ j i,i < n->mv n (mA K F) (λk=>B k j) i=if i=j then 1 else 0:=⟨λk j=>(hex j).choose k,λj=>(hex j).choose_spec⟩
 have hM:=λj t (ht:t < n)=>qqE (m:=2 ^ 44) hreg (λi j hi hj=>(qgS hK (hF j i hj hi)).1) (λi j hi hj=>(qgS hK (hF j i hj hi)).2) (by decide) (by decide) (hB j) ht;have hfc:fcN (2 ^ 44) n*(2 ^ 56) ^ n<=2 ^ 450:=by
  have hn4:n=0\/n=1\/n=2\/n=3\/n=4:=by omega
  rcases hn4 with rfl | rfl | rfl | rfl | rfl <;> decide
 have hM2:∀ j t,t < n->ab (B t j)<=((2 ^ 450:Nat):Rat):=λj t ht=>Rat.le_trans (hM j t ht) (by exact_mod_cast hfc);have hb0:(0:Rat)<=((2 ^ 450:Nat):Rat):=by exact_mod_cast zD _
 have e1:=R_B (A:=mA K F) (R:=mR K n v) (B:=B) (λj _ i hi=>hB j i hi) hi hk;have e2:=qsd (A:=mA K F) (R:=mR K n v) (x:=λt=>B t k) (λi hi=>qr1 hK h hv hi) (λt ht=>hM2 k t ht) hb0 hi;have e3:=hM2 k i hi;have e4:=qc8 (B i k) (-(mv n (E1 n (mA K F) (mR K n v)) (λt=>B t k) i));rw [qzI] at e4;have e5:ab (mR K n v i k)<=((2 ^ 451:Nat):Rat):=by
  have e6:B i k + -(mv n (E1 n (mA K F) (mR K n v)) (λt=>B t k) i)=mR K n v i k:=by rw [e1]; grind
  rw [e6] at e4;have e7:rK K (grZ (btL n v F))*((2 ^ 450:Nat):Rat)<=1*((2 ^ 450:Nat):Rat):=q3L (Rat.le_of_lt (bt_1 hK hg)) hb0;have e8:((2 ^ 451:Nat):Rat)=((2 ^ 450:Nat):Rat)+((2 ^ 450:Nat):Rat):=by
   have:(2:Nat) ^ 451=2 ^ 450*2:=Nat.pow_succ 2 450;rw [this,Nat.mul_two];exact qaM _
  rw [e8];generalize ((2 ^ 450:Nat):Rat)=P at *
  grind
 have hf:=q0c hv (i:=k*n+i);refine qom hf.1 hf.2 hK ?_;rw [show mR K n v i k=rK K (ofZ (v.getD (k*n+i) 0)) from rfl] at e5;generalize ofZ (v.getD (k*n+i) 0)=z at *;rw [<- qjM] at e5;have h7:((z.natAbs:Int):Rat)<=((2 ^ 451:Nat):Rat)*(((2:Int) ^ K:Int):Rat):=by
  have p:=pKp K;unfold rK at e5;have:=Rat.mul_le_mul_of_nonneg_right e5 (Rat.le_of_lt p);rw [Rat.div_mul_cancel (by grind)] at this;exact this
 have h8:z.natAbs<=2 ^ 451*2 ^ K:=by
  have h9:(z.natAbs:Int)<=((2 ^ 451:Nat):Int)*(2:Int) ^ K:=by
   rw [<- Rat.intCast_natCast (2 ^ 451),<- Rat.intCast_mul] at h7;exact Rat.intCast_le_intCast.1 h7
  rw [<- q0V,<- zK] at h9;exact Int.ofNat_le.1 h9
 refine zR h8 ?_;rw [<- uV];exact yF Oq Oq
end
end Go.Proofs.YtpbaikoblfcmdaaGreatDoor
namespace Go.E
open Go Go.RowKit
section
variable {J:Nat->Prop} {h:Hp} {a n:Nat} {T:TypeId} {xs:List PV} {v1 v2 v3:Value}
def qoT {i j k:Nat} (ti:(if i=5000 then some a else none)=some k) (tj:(if j=5000 then some a else none)=some k):i=j:=by
 split at ti
 ·split at tj
  ·rename_i e1 e2; rw [e1,e2]
  ·cases tj
 ·cases ti
def b5 [NL] {f:Nat->PV} {g:Nat->PV} (hJ:∀ i,¬ J i) (hb:h a=some ⟨T,none,xs,false⟩) (hc:ClL xs) (hv:∀ t,LeV (λi=>if i=5000 then some a else none) h (q0Q h0 5000 ⟨T,none,xs,false⟩) (f t) (g t)):Le J f h g (q0Q h0 5000 ⟨T,none,xs,false⟩) :=
 q4U (λi=>if i=5000 then some a else none) (λi b' hb'=>by
  by_cases hi:i=5000
  ·subst hi;rw [q0L] at hb'; cases hb';unfold LeB;exact ⟨_,hb,rfl,rfl,⟨rfl,rfl⟩,q0F rfl hc⟩
  ·rw [q0A hi] at hb'; cases hb') (λi j k b c hi hj ti tj=>qoT ti tj) hv λi hi=>(hJ i hi).elim
def b5n [NL] {f:Nat->PV} {g:Nat->PV} (hJ:∀ i,¬ J i) (hv:∀ t,LeV (λ_=>none) h (q0Q h0 5000 ⟨T,none,[],false⟩) (f t) (g t)):Le J f h g (q0Q h0 5000 ⟨T,none,[],false⟩) :=
 q4U (λ_=>none) (λi b' hb'=>by
  by_cases hi:i=5000
  ·subst hi;rw [q0L] at hb'; cases hb'
   rfl
  ·rw [q0A hi] at hb'; cases hb') (λi j k b c hi hj ti tj=>by cases ti) hv λi hi=>(hJ i hi).elim
def LePo [NL] (hJ:∀ i,¬ J i) (hb:h a=some ⟨T,none,xs,false⟩) (hc:ClL xs):Le J (λ_=>.ag [.vl v1,.vl v2,.ow a none 0 n]) h (λ_=>.ag [.vl v1,.vl v2,.ow 5000 none 0 n]) (q0Q h0 5000 ⟨T,none,xs,false⟩) :=
 b5 hJ hb hc λ_=>.ag rfl λi x y hx hy=>by
  rcases i with _ | _ | _ | i
  ·cases hx; cases hy; exact .cl trivial
  ·cases hx; cases hy; exact .cl trivial
  ·cases hx; cases hy; exact .ow (if_pos rfl) q0L
  ·simp at hx
def LePt [NL] (hJ:∀ i,¬ J i) (hb:h a=some ⟨T,none,xs,false⟩) (hc:ClL xs):Le J (λ_=>.tu [.ag [.vl v1,.vl v2,.ow a none 0 n],.vl v3]) h (λ_=>.tu [.ag [.vl v1,.vl v2,.ow 5000 none 0 n],.vl v3]) (q0Q h0 5000 ⟨T,none,xs,false⟩) :=
 b5 hJ hb hc λ_=>.tu rfl λi x y hx hy=>by
  rcases i with _ | _ | i
  ·cases hx; cases hy;exact .ag rfl λi x y hx hy=>by
    rcases i with _ | _ | _ | i
    ·cases hx; cases hy; exact .cl trivial
    ·cases hx; cases hy; exact .cl trivial
    ·cases hx; cases hy; exact .ow (if_pos rfl) q0L
    ·simp at hx
  ·cases hx; cases hy; exact .cl trivial
  ·simp at hx
def LePn [NL] (hJ:∀ i,¬ J i):Le J (λ_=>.tu [.ag [.vl v1,.vl v2,.vl (.slice none 0 0)],.vl v3]) h (λ_=>.tu [.ag [.vl v1,.vl v2,.ow 5000 none 0 0],.vl v3]) (q0Q h0 5000 ⟨T,none,[],false⟩) :=
 b5n hJ λ_=>.tu rfl λi x y hx hy=>by
  rcases i with _ | _ | i
  ·cases hx; cases hy;exact .ag rfl λi x y hx hy=>by
    rcases i with _ | _ | _ | i
    ·cases hx; cases hy; exact .cl trivial
    ·cases hx; cases hy; exact .cl trivial
    ·cases hx; cases hy; exact .nilow rfl q0L rfl
    ·simp at hx
  ·cases hx; cases hy; exact .cl trivial
  ·simp at hx
end
end Go.E
namespace Go.Proofs.YtpbaikoblfcmdaaGreatDoor
open Go Go.E Go.Sp
def qeI (n:Nat):q3V (q86 n) n:=by
 refine ⟨by rw [q7I],λx hx=>?_,?_⟩
 ·unfold q86 at hx;obtain ⟨k,hk,rfl⟩:=zH.1 hx;have:=uR.1 hk;omega
 ·unfold q86;unfold List.Nodup;rw [List.pairwise_map];exact List.nodup_range.imp λh q=>h (Int.ofNat_inj.1 q)
section
variable {raw:List Nat} {r c:Nat} {st:Int} {g:LUt}
def qf0 (hr:raw.length<=9223372036854775807) (h1:r<=64) (h2:c<=64) (h3 : -9223372036854775808<=st) (h4:st<=9223372036854775807) :
  qdi 13 [pF raw,iv r,iv c,iv st] h0 (.ag [iv r,iv c,.ow 5000 none 0 (r*c)]) (q0Q h0 5000 ⟨33,none,(q4y raw 500 (q0d st 4) (r*c)).map λz:Nat=>uv z,false⟩):=by
 have hJ:∀ i,¬ (h0 i≠none):=λi h=>h rfl;have hm:r*c<=64*64:=zI h1 h2;have w1:IntKind.i64.wrap ((r:Int)*(c:Int))=((r*c:Nat):Int):=by rw [<- zK,i64_in (by omega) (by omega)]
 generalize r*c=m at *;refine qdo qxx Tryz.func13 rfl Tryz.ntmps13 (by kernel_rfl) ?_ ?_ ?_ ?_
 ·intro i b hb; cases hb
 ·intro i b hb
  by_cases hi:i=5000
  ·subst hi; exact ⟨by omega,by omega⟩
  ·rw [q0A hi] at hb; cases hb
 ·exact IdL.of λx hx=>by
   simp at hx
   rcases hx with rfl | rfl | rfl | rfl <;> unfold IdP <;> trivial
 have hW:WfH h0:=⟨λi b hb=>by cases hb⟩;refine wk ?_;refine q0P (λi=>i<=m) [0,1,2,3,8,9] [8] Lk Lk (λi:Nat=>[(10,iv i)]) (λi=>[(9,⟨31,some 3,[.ag [iv r,iv c,.ow 1001 none 0 i]],false⟩),(1001,⟨33,none,(q4y raw 500 (q0d st 4) i).map λz:Nat=>uv z,false⟩)]) (λ_=>h0) (λi=>m-i) 0 (zD _) ?_ ?_
 ·refine LeW [(1001,none)] rfl rfl ?_ ?_ (by simp [q0j,q0b,win]) ?_
  ·exact Ow
  ·exact hW
  ·try refine Zz ?_
   first | done | rfl | exact ⟨rfl,rfl⟩
 ·intro i hi;have l1:=q3B (raw:=raw) (k:=500) (st:=q0d st 4) (n:=i);have l2:=qle (raw:=raw) (k:=500) (st:=q0d st 4) (n:=i)
  by_cases hlt:i < m
  ·have q:(i:Int) < m:=by omega
   have w2:IntKind.i64.wrap (500+(i:Int))=500+(i:Int):=i64_in Oq Oq;have C1:=q7F (raw:=raw) (k:=500+(i:Int)) hr Oq Oq;have C2:=qf6 (x:=q5H raw (500+(i:Int))) (st:=st) (q2M _ _) h3 h4;generalize q4y raw 500 (q0d st 4) i=V at *;generalize q2U (q0d st 4) (q5H raw (500+(i:Int)))=z at *;generalize q5H raw (500+(i:Int))=w at *;have N1:Nz (uv (w:Nat)):=qdL;have N2:Nz (uv (z:Nat)):=qdL;refine wk1 (x4 w1 w2 q l1) ?_;refine ⟨i+1,by omega,by omega,?_⟩;rw [l2];refine LeW [(1001,some 30)] rfl rfl ?_ ?_ (by simp [q0j,q0b,win]) ?_
   ·exact Ow
   ·exact hW
   ·try refine Zz ?_
    first | done | omega | exact ⟨by omega,q0F (by rw [zF]; rfl) (by rw [<- zF]; exact clU)⟩
  ·obtain rfl:i=m:=by omega
   have q:¬ (i:Int) < i:=by omega
   refine wk1 (x2 w1 q) ?_;refine (rtM (rs:=[.cell 8 31]) rfl rfl Lq ?_ (.inl rfl));refine LePo hJ ?_ clU
   try simp -implicitDefEqProofs (disch:=omega) only [go_sem,Nat.reduceEqDiff,Nat.reduceAdd,↓reduceIte]
end
end Go.Proofs.YtpbaikoblfcmdaaGreatDoor
