/- EncloseKrawczykSound. 6/7. -/
import Derived.Test.YtpbaikoblfcmdaaGreatDoorPr5
open Int renaming natAbs_natCast->zF,mul_assoc->zK,pow_add->zM,mul_ne_zero->u6,zero_mul->zU,sign_eq_one_of_pos->zX,natAbs_mul->zY,sign_eq_neg_one_of_neg->zZ,ne_of_gt->yA,sign_eq_zero_iff_zero->yB,lt_or_gt_of_ne->u7,gcd->yE,natAbs_neg->yF,mul_neg_of_neg_of_pos->yP,mul_pos->yQ,one_mul->yR,gcd_eq_zero_iff->yW,le_refl->y7,add_mul->y8
open List renaming getElem?_map->zA,getElem?_eq_getElem->zB,map_append->zC,getElem?_range->zD,getD_eq_getElem?_getD->zG,mem_of_getElem?->zH,length_map->zJ,mem_map->zL,take_of_length_le->zP,getElem?_eq_none->zQ,take_succ_cons->zR,drop_succ_cons->zS,range_succ->zW,getElem_mem->u9,ext_getElem?->z7,getElem?_set->z8,drop_zero->z9,getElem?_append_left->yC,length_range->yG,map_congr_left->yJ,mem_range->yL,getElem?_append_right->yM,mem_replicate->yX,length_append->yY
open Nat renaming le_refl->zE,zero_le->zI,mul_le_mul->zN,pow_le_pow_right->zV,pow_add->tD,le_trans->z6,mul_comm->yH,zero_mul->yK,lt_of_le_of_lt->yN,le_of_mul_le_mul_right->yO,mul_assoc->yS,mul_div_cancel_left->tE,le_mul_of_pos_left->yU,mul_le_mul_right->yV,le_of_lt->yZ,lt_or_ge->tF,gcd->y9
open Option renaming map_some->zO,map_none->yI,getD_some->y6
set_option linter.unusedSimpArgs false
set_option linter.unusedVariables false
set_option maxRecDepth 20000
set_option maxHeartbeats 2000000
set_option linter.defProp false
namespace Go.Proofs.YtpbaikoblfcmdaaGreatDoor
open Go Go.E Go.Sp
section
variable {K:KwT}
def kw_b (h:KwF K) (hp:KwP K) (hb:K.b.length=K.n) {j:Nat} (hj:j < K.n):spK 1074 66560 (ivZ (K.b.getD j (0,0)))/\spK 1074 66560 (ivZ (K.x.getD j (0,0))):=by
 have hx:=h.xl
 constructor
 .obtain ⟨y,hy⟩:∃ y,K.b[j]?=some y:=⟨_,zB Oq⟩;rw [getD_some hy];have:=hp.2.1 y (zH hy);exact q6E this.1 this.2.1
 .obtain ⟨y,hy⟩:∃ y,K.x[j]?=some y:=⟨_,zB Oq⟩;rw [getD_some hy];have:=hp.2.2 y (zH hy);exact q6E this.1 this.2.1
def qtv (hp:KwP K) {j k:Nat} (hj:j < K.n) (hk:k < K.n):q7I (K.a j k):=hp.1 j hj _ (zH (q58 (j:=j) (a:=K.a) hk))
def qc0 (h:KwF K) (hp:KwP K) (hb:K.b.length=K.n) {j:Nat} (hj:j < K.n):∀ k,k<=K.n->spK 2148 (67585+k) (kwD K j k)
 | 0,_=>(kw_b h hp hb hj).1.mono Oq Oq Oq
 | k+1,hk=>by
  have ha:=qtv hp hj (show k < K.n by omega);have h1:=q9H (q6E ha.1 ha.2.1) (q2u (q0V h.z (i:=k)).2) Oq Oq;exact qd4 (qc0 h hp hb hj k Oq) (h1.mono Oq Oq Oq) Oq
def qcZ (h:KwF K) (hp:KwP K) {i j:Nat} (hj:j < K.n):∀ k,k<=K.n->spK 2148 (67585+k) (kwE K i j k)
 | 0,_=>by
  unfold kwE
  split
  .exact spK_1.mono Oq Oq Oq
  .exact spK_0
 | k+1,hk=>by
  have ha:=qtv hp (show k < K.n by omega) hj;have h1:=q9H (q2u (q0V h.v (i:=k*K.n+i)).2) (q6E ha.1 ha.2.1) Oq Oq;exact qd4 (qcZ h hp hj k Oq) (h1.mono Oq Oq Oq) Oq
def qnj (h:KwF K) (hp:KwP K) (hb:K.b.length=K.n) {i:Nat}:∀ j,j<=K.n->spK 3222 (68700+2*j) (kwS K i j)
 | 0,_=>(q2u (q0V h.z (i:=i)).2).mono Oq Oq Oq
 | j+1,hj=>by
  have hn:=h.n;have h1:=q9H (q2u (q0V h.v (i:=j*K.n+i)).2) (qc0 h hp hb (show j < K.n by omega) K.n (zE _)) Oq Oq;have h2:=qd4 (kw_b h hp hb (show j < K.n by omega)).2 (q2u (q0V h.z (i:=j)).2) (zE _);have h3:=q9H (qcZ h hp (i:=i) (show j < K.n by omega) K.n (zE _)) h2 Oq Oq;exact qjY (qjY (qnj h hp hb j Oq) (h1.mono Oq Oq (q:=68700+2*j) Oq) (zE _)) (h3.mono Oq Oq Oq) Oq
def qnk {i:Nat}:nnI (kwO K i):=⟨⟨q2e,qaz⟩,q2e,qaz⟩
def qv3 {k p:Nat} {a c:Int × Int} (ha:spK k p a) (hc:spK k p c) (hp:p<=131071):q0Q (a.1+c.1)/\q0Q (a.2+c.2):=(qjY ha hc (zE _)).d1 Oq
def qv0 {k p:Nat} {a c:Int × Int} (ha:spK k p a) (hc:spK k p c) (hp:p<=131071):q0Q (a.1-c.2)/\q0Q (a.2-c.1):=(qd4 ha hc (zE _)).d1 Oq
def q5A {k p:Nat} {a c:Int × Int} (ha:spK k p a) (hc:spK k p c) (hp:p<=131071):ACt 86 [pS a,pS c] (pS (spS a c)):=qhb (ha.d1 Oq) (hc.d1 Oq) (qv0 ha hc hp).1 (qv0 ha hc hp).2
def q9k {k p:Nat} {a c:Int × Int} (ha:spK k p a) (hc:spK k p c) (hp:p<=131071):ACt 89 [pS a,pS c] (pS (spA a c)):=ql7 (ha.d1 Oq) (hc.d1 Oq) (qv3 ha hc hp).1 (qv3 ha hc hp).2
def clPS {n:Nat} {g:Nat->Int × Int} {m:Nat}:ClL (rwP n (λc=>pS (g c)) m):=q1h λc=>by
 intro y hy;simp at hy
 rcases hy with rfl | rfl | rfl | rfl | rfl | rfl | rfl | rfl <;> trivial
def cdS {a:Int × Int}:Cld (pS a):=by
 intro y hy;simp at hy
 rcases hy with rfl | rfl | rfl | rfl | rfl | rfl | rfl | rfl <;> trivial
def qqy (h:KwF K) (hp:KwP K) (hb:K.b.length=K.n) {j:Nat} (hj:j < K.n):(q7I (K.b.getD j (0,0))/\nnI (K.b.getD j (0,0)))/\q7I (K.x.getD j (0,0))/\nnI (K.x.getD j (0,0)):=by
 have hx:=h.xl;obtain ⟨y,hy⟩:∃ y,K.b[j]?=some y:=⟨_,zB Oq⟩;obtain ⟨w,hw⟩:∃ w,K.x[j]?=some w:=⟨_,zB Oq⟩;rw [getD_some hy,getD_some hw];exact ⟨⟨hp.2.1 y (zH hy),h.b y (zH hy)⟩,hp.2.2 w (zH hw),h.x w (zH hw)⟩
def qcf {p:Nat × Nat} (h1:q7I p) (h2:nnI p):ACt 85 [.ag [uv p.1,uv p.2]] (pS (ivZ p)):=qhc ⟨h2.1.1,h1.1⟩ ⟨h2.2.1,h1.2.1⟩
def q9Q {f:Nat} (h:f < 18446744073709551616/\q0I f):ACt 88 [uv f] (pS (ptZ f)):=qha h
def qbe {j k p q:Nat} {a c:Int × Int} (ha:spK j p a) (hc:spK k q c) (hjk:j+k<=65536) (hpq:p+q<=196608) (hp:p<=131072) (hq:q<=131072):ACt 87 [pS a,pS c] (pS (spM a c)):=qh9 ha hc hjk hpq hp hq
def qxP {m:Nat}:kwB K (m+1)=(kwB K m && decide (q1M (K.x.getD m (0,0)).1 < q1M (kwO K m).1/\q1M (kwO K m).2 < q1M (K.x.getD m (0,0)).2)):=rfl
def ql9 (h:KwF K):ACt 24 [pIm K.n K.a,pP K.b,pPn K.n K.n K.v,pF K.z,pP K.x] (.tu [pP (kwA K).1,bv (kwA K).2.1,iv (kwA K).2.2]):=by
 have hn:=h.n;have hnn:K.n*K.n<=20*20:=zN hn hn;have c0:=qla h
 by_cases h0:kwC K=0
 rotate_left
 .unfold kwA;rw [if_neg h0];have q:(kwC K != 0)=true:=by simpa using h0
  generalize kwC K=e at *;obtain ⟨n,v,a,b,z,x⟩:=K;dsimp only at *;unfold pIm pPn at *;refine ac0 Tryz.func24 Tryz.ntmps24 [.tmp 10,.tmp 11,.tmp 12] ?_;exact wk1 q trivial
 have hbl:K.b.length=K.n:=by
  unfold kwC at h0
  split at h0
  .cases h0
  .omega
 have hP:KwP K:=by
  unfold kwC at h0;rw [if_neg (not_not_intro hbl)] at h0
  split at h0
  .assumption
  .cases h0
 have hA:kwA K=(kwL K K.n,kwB K K.n,0):=by unfold kwA; rw [if_pos h0]
 rw [hA];rw [h0] at c0;clear hA h0;have hzl:=h.zl;have hxl:=h.xl;have hvl:=h.vl;have pa:=λj k (hj:j < K.n) (hk:k < K.n)=>qtv hP hj hk;have pu:=λj k (hj:j < K.n) (hk:k < K.n)=>h.a j _ (zH (q58 (j:=j) (a:=K.a) hk));have hpi:=λi j hi hj=>qq3 (i:=i) (j:=j) (show K.n<=64 by omega) (show K.n<=64 by omega) hvl hi hj;have sD:=λj (hj:j < K.n) k hk=>qc0 h hP hbl hj k hk;have sE:=λi j (hj:j < K.n) k hk=>qcZ h hP (i:=i) hj k hk;have sS:=λi j hj=>qnj h hP hbl (i:=i) j hj;have sb:=λj (hj:j < K.n)=>kw_b h hP hbl hj;have pr:=λj (hj:j < K.n)=>qqy h hP hbl hj;have hD0:=λj=>show kwD K j 0=ivZ (K.b.getD j (0,0)) from rfl;have hDs:=λj k=>show kwD K j (k+1)=spS (kwD K j k) (spM (ivZ (K.a j k)) (ptZ (K.z.getD k 0))) from rfl;have hE0:=λi j=>show kwE K i j 0=if i=j then (q2Y,q2Y) else (0,0) from rfl
 have hEs:=λi j k=>show kwE K i j (k+1)=spS (kwE K i j k) (spM (ptZ (K.v.getD (k*K.n+i) 0)) (ivZ (K.a k j))) from rfl;have hS0:=λi=>show kwS K i 0=ptZ (K.z.getD i 0) from rfl;have hSs:=λi j=>show kwS K i (j+1)=spA (spA (kwS K i j) (spM (ptZ (K.v.getD (j*K.n+i) 0)) (kwD K j K.n))) (spM (kwE K i j K.n) (spS (ivZ (K.x.getD j (0,0))) (ptZ (K.z.getD j 0)))) from rfl;have hO:=λi=>show kwO K i=(fR 1 (kwS K i K.n).1,fR 2 (kwS K i K.n).2) from rfl;have hOn:=λi=>qnk (K:=K) (i:=i);have hBs:=λi=>qxP (K:=K) (m:=i);have hB0:kwB K 0=true:=rfl;have hLs:=λi=>show kwL K (i+1)=kwL K i ++ [kwO K i] by unfold kwL; rw [zW,zC]; rfl
 have hLl:=λi=>show (kwL K i).length=i by unfold kwL; simp
 have hL0:kwL K 0=[]:=rfl;have hv:=h.v;have hz:=h.z;have hx:=h.x;have hb:=h.b;have hrl:=λj=>show ((q3i K.n K.a j).map λp=>PV.ag [uv p.1,uv p.2]).length=K.n by rw [zJ,q57]
 have hrg:=λj (hj:j < K.n)=>show ((List.range K.n).map λj=>pP (q3i K.n K.a j))[j]?=some (pP (q3i K.n K.a j)) by rw [zA,zD hj]; rfl
 have hrk:=λj k (hk:k < K.n)=>show ((q3i K.n K.a j).map λp=>PV.ag [uv p.1,uv p.2])[k]?=some (.ag [uv (K.a j k).1,uv (K.a j k).2]) by rw [zA,q58 hk]; rfl
 have hrr:((List.range K.n).map λj=>pP (q3i K.n K.a j)).length=K.n:=σ
 generalize kwD K=D at *;generalize kwE K=E at *;generalize kwS K=S at *;generalize kwO K=O at *;generalize kwL K=L at *;generalize kwB K=B at *;clear h hP;obtain ⟨n,v,a,b,z,x⟩:=K;dsimp only at *;unfold pIm at *;generalize (List.range n).map (λj=>pP (q3i n a j))=M at *;unfold pPn at *;refine ac0 Tryz.func24 Tryz.ntmps24 [.tmp 10,.tmp 11,.tmp 12] ?_;refine wk1 hrr ?_;have one:=qaO;have gxl:(x.map λp=>PV.ag [uv p.1,uv p.2]).length=n:=by rw [zJ,hxl]
 have gxg:=λj (hj:j < n)=>show (x.map λp=>PV.ag [uv p.1,uv p.2])[j]?=some (.ag [uv (x.getD j (0,0)).1,uv (x.getD j (0,0)).2]) by
  obtain ⟨w,hw⟩:∃ w,x[j]?=some w:=⟨_,zB Oq⟩;rw [zA,hw,getD_some hw]; rfl
 have gbg:=λj (hj:j < n)=>show (b.map λp=>PV.ag [uv p.1,uv p.2])[j]?=some (.ag [uv (b.getD j (0,0)).1,uv (b.getD j (0,0)).2]) by
  obtain ⟨w,hw⟩:∃ w,b[j]?=some w:=⟨_,zB Oq⟩;rw [zA,hw,getD_some hw]; rfl
 have gbl:(b.map λp=>PV.ag [uv p.1,uv p.2]).length=n:=by rw [zJ,hbl]
 have hzg:=λj (hj:j < n)=>show z[j]?=some (z.getD j 0) by
  obtain ⟨w,hw⟩:∃ w,z[j]?=some w:=⟨_,zB Oq⟩;rw [hw,getD_some hw]
 have hzf:=λj=>q0V hz (i:=j);have hvf:=λj=>q0V hv (i:=j);clear hb hx;unfold pP;generalize (x.map λp=>PV.ag [uv p.1,uv p.2])=xs at *;generalize (b.map λp=>PV.ag [uv p.1,uv p.2])=bs at *;generalize (λj:Nat=>x.getD j (0,0))=xf at *;refine q0A (λj=>j<=n) [0,1,3,4,7,14,39] [7] Lk Lk (λj:Nat=>[(40,iv j),(15,.ow 1001 (some 8) 0 n)]) (λj=>[(1001,⟨132,some 8,rwP n (λc=>pS (D c n)) j,false⟩)]) (λj=>n-j) 0 (zI _) ?_ ?_
 .refine LeM [(1001,some 38)] rfl rfl ?_;refine Zz ?_;exact ⟨rfl,q8d σ⟩
 .intro j hj;have wl:=q6G (n:=n) (g:=λc=>pS (D c n)) (m:=j);have wc:=clPS (n:=n) (g:=λc=>D c n) (m:=j);have ws:=qjd (n:=n) (g:=λc=>pS (D c n)) (m:=j)
  by_cases hlt:j < n
  .have q:(j:Int) < n:=ω
   obtain ⟨⟨p1,p2⟩,_⟩:=pr j hlt;have d0:=hD0 j;have ce:ACt 85 [.ag [uv (b.getD j (0,0)).1,uv (b.getD j (0,0)).2]] (pS (D j 0)):=by rw [d0]; exact qcf p1 p2
   have ds:=hDs j;have sDj:=sD j hlt;have paj:=λk hk=>pa j k hlt hk;have puj:=λk hk=>pu j k hlt hk;have gj:=hrg j hlt;have gk:=hrk j;have gl:=hrl j;have gbj:=gbg j hlt;generalize b.getD j (0,0)=y at *;unfold pP at gj;generalize rwP n (λc=>pS (D c n)) j=W at *;clear sD sE sS sb hD0 hDs hE0 hEs hS0 hSs hO hOn hBs hB0 hLs hLl hL0 hrg hrk hrl pa pu hpi pr gxg gbg;generalize D j=Dj at *;refine wk1 (x4 q gbj gbl wl) ?_;refine q0A (λk=>k<=n) [0,1,3,4,7,14,16,39,40,51] [7] Lk Lk (λk:Nat=>[(52,iv k),(15,.ow 1002 (some 8) 0 n)]) (λk=>[(1002,⟨132,some 8,W.set j (pS (Dj k)),false⟩)]) (λk=>n-k) 0 (zI _) ?_ ?_
   .refine LeM [(1002,some 1001)] rfl rfl ?_;refine Zz ?_;exact ⟨rfl,q0C rfl (q2k wc cdS)⟩
   .intro k hk;have sl:(W.set j (pS (Dj k))).length=n:=by rw [List.length_set,wl]
    by_cases hlt2:k < n
    .have q2:(k:Int) < n:=ω
     have gd:(W.set j (pS (Dj k)))[j]?=some (pS (Dj k)):=List.getElem?_set_self Oq;have gz:=hzg k hlt2;have zf:=hzf k;have c2:=qcf (paj k hlt2) (puj k hlt2);have c3:=q9Q zf;have k1:=q9H (q6E (paj k hlt2).1 (paj k hlt2).2.1) (q2u zf.2) Oq Oq;have c4:=qbe (q6E (paj k hlt2).1 (paj k hlt2).2.1) (q2u zf.2) Oq Oq Oq Oq;have c5:=q5A (sDj k hk) (k1.mono (k:=2148) (q:=67585+k) Oq Oq Oq) Oq;have es:=ds k;rw [<- es] at c5;have gak:=gk k hlt2;clear k1;generalize z.getD k 0=zk at *;change ACt _ _ (pS (spM (ivZ (a j k)) (ptZ zk))) at c4;change ACt _ [pS (ivZ (a j k)),pS (ptZ zk)] _ at c4;change ACt _ [_,pS (spM (ivZ (a j k)) (ptZ zk))] _ at c5;clear es ds;generalize spM (ivZ (a j k)) (ptZ zk)=m1 at *;generalize ivZ (a j k)=m2 at *;generalize ptZ zk=m3 at *;refine wk1 (x6 q2 gd gj hrr gak (x3 gl gz sl)) ?_;refine ⟨k+1,ω,ω,?_⟩;refine LeM [] rfl rfl ?_;refine Zz ?_;rw [List.set_set];exact ⟨ω,q0C rfl (q2k wc cdS)⟩
    .obtain rfl:k=n:=ω
     have q2:¬ (k:Int) < k:=ω
     refine wk1 q2 ?_;refine ⟨j+1,ω,ω,?_⟩;rw [<- ws];refine LeM [(1001,some 1002)] rfl rfl ?_;refine Zz ?_;exact ⟨ω,q0C rfl (q2k wc cdS)⟩
  .obtain rfl:j=n:=ω
   have q:¬ (j:Int) < j:=ω
   have wg:=λc (hc:c < j)=>qf2 (n:=j) (g:=λc=>pS (D c j)) (m:=j) hc (zE _);generalize rwP j (λc=>pS (D c j)) j=W at *;clear ws hD0 hDs gbg gbl sb;refine wk1 q ?_;refine q0A (λi=>i<=j) [0,3,4,7,14,15,79] [7,1001] Lk Lk (λi:Nat=>[(80,iv i),(18,.ow 1003 (some 2) 0 i),(19,bv (B i))]) (λi=>[(1003,⟨58,some 2,(L i).map λp=>.ag [uv p.1,uv p.2],false⟩)]) (λi=>j-i) 0 (zI _) ?_ ?_
   .rw [hL0,hB0];refine LeM [(1003,none)] rfl rfl ?_;refine Zz ?_;exact ⟨rfl,q0C rfl wc⟩
   .intro i hi;have li:=hLl i
    by_cases hlt:i < j
    .have q2:(i:Int) < j:=ω
     have c1:=q9Q (hzf i);rw [<- hS0 i] at c1;have gz:=hzg i hlt;generalize z.getD i 0=zi at *;have sSi:=λt ht=>sS i t ht;have hSi:=λt=>hSs i t;have sEi:=λt ht=>sE i t ht;have hE0i:=λt=>hE0 i t;have hEi:=λt=>hEs i t;have hOi:=hO i;have hOni:=hOn i;have hBi:=hBs i;have hLi:=hLs i;generalize S i=Si at *;generalize E i=Ei at *;generalize O i=Oi at *;clear sS hSs sE hE0 hEs hO hOn hBs hLs hS0;refine wk1 (x2 q2 gz) ?_;refine q0A (λt=>t<=j) [0,3,4,7,14,15,18,19,20,79,80,88] [7,1001,1003] Lk Lk (λt:Nat=>[(89,iv t),(21,.pt 21 0 0)]) (λt=>[(21,⟨132,some 8,[pS (Si t)],false⟩)]) (λt=>j-t) 0 (zI _) ?_ ?_
     .refine LeM [] rfl rfl ?_;refine Zz ?_;exact ⟨rfl,q0C rfl wc,q0C rfl q32⟩
     .intro t ht
      by_cases hlt2:t < j
      .have q3:(t:Int) < j:=ω
       obtain ⟨w1,w2,y,hy⟩:=hpi i t hlt hlt2;have hyf:=hv y (zH hy);have es:=hSi t;rw [getD_some hy] at es;have kD:=sD t hlt2 j (zE _);have gd:=wg t hlt2;generalize D t j=dt at *;have c2:=q9Q hyf;have k1:=q9H (q2u hyf.2) kD Oq Oq;have c3:=qbe (q2u hyf.2) kD Oq Oq Oq Oq;have k2:=(k1.mono (k:=3222) (q:=68700+2*t) Oq Oq Oq);have c4:=q9k (sSi t ht) k2 Oq;have k3:=qjY (sSi t ht) k2 (zE _);have sEt:=sEi t hlt2;have hEt:=λk=>hEi t k;have hE0t:=hE0i t;obtain ⟨⟨_,_⟩,p1,p2⟩:=pr t hlt2;have gxt:=gxg t hlt2;have c6:=qcf p1 p2;have zf:=hzf t;have c7:=q9Q zf;have gzt:=hzg t hlt2;have k5:=qd4 (q6E p1.1 p1.2.1) (q2u zf.2) (zE _);have c8:=q5A (q6E p1.1 p1.2.1) (q2u zf.2) Oq;have c9:=qbe (sEt j (zE _)) k5 Oq Oq Oq Oq;have k6:=q9H (sEt j (zE _)) k5 Oq Oq;have c10:=q9k k3 (k6.mono (k:=3222) (q:=68700+2*t+1) Oq Oq Oq) Oq;have pat:=λk hk=>pa k t hk hlt2;have put:=λk hk=>pu k t hk hlt2;clear k1 k2 k3 k5 k6 pa pu pr;change ACt _ _ (pS (spM (ptZ y) dt)) at c3;change ACt _ [pS (ptZ y),pS dt] _ at c3;change ACt _ [_,pS (spM (ptZ y) dt)] (pS (spA (Si t) (spM (ptZ y) dt))) at c4;change ACt _ [pS (spA (Si t) (spM (ptZ y) dt)),pS (spM (Ei t j) (spS (ivZ (x.getD t (0,0))) (ptZ (z.getD t 0))))] (pS (spA (spA (Si t) (spM (ptZ y) dt)) (spM (Ei t j) (spS (ivZ (x.getD t (0,0))) (ptZ (z.getD t 0)))))) at c10;change ACt _ [pS (ivZ (x.getD t (0,0))),pS (ptZ (z.getD t 0))] (pS (spS (ivZ (x.getD t (0,0))) (ptZ (z.getD t 0)))) at c8;change ACt _ [pS (Ei t j),pS (spS (ivZ (x.getD t (0,0))) (ptZ (z.getD t 0)))] (pS (spM (Ei t j) (spS (ivZ (x.getD t (0,0))) (ptZ (z.getD t 0))))) at c9;rw [<- es] at c10;clear es;generalize z.getD t 0=zt at *;generalize x.getD t (0,0)=xt at *;generalize spM (ptZ y) dt=m1 at *;generalize spA (Si t) m1=m2 at *;generalize ivZ xt=m3 at *;generalize ptZ zt=m4 at *;generalize spS m3 m4=m5 at *;generalize spM (Ei t j) m5=m6 at *;generalize hm7:ptZ y=m7 at *;clear hm7
       generalize Ei t=Et at *;generalize t*j=tj at *;refine wk1 (x6 q3 w1 w2 hy gd wl) ?_;refine qoy λK0 hK0=>?_;have fin:∀ (s0:Nat->PV) (h:Hp),Le (λ_=>False) s0 h (stM [(0,.sl none M),(3,pF z),(4,.sl (some 2) xs),(7,.pt 7 0 0),(14,iv j),(15,.ow 1001 (some 8) 0 j),(18,.ow 1003 (some 2) 0 i),(19,bv (B i)),(20,iv i),(21,.pt 21 0 0),(22,iv t),(23,.pt 23 0 0),(79,iv j),(80,iv i),(88,iv j),(89,iv t)] []) (hpM [(7,⟨31,some 3,[.ag [iv j,iv j,pF v]],false⟩),(1001,⟨132,some 8,W,false⟩),(1003,⟨58,some 2,(L i).map λp=>.ag [uv p.1,uv p.2],false⟩),(21,⟨132,some 8,[pS m2],false⟩),(23,⟨132,some 8,[pS (Et 0)],false⟩)] [])->K0 s0 h:=by
        clear c2 c3 c4 hE0t one;intro s0 h hl;refine hK0 _ _ (q0r hl ?_); clear hK0 K0 hl;refine wk ?_;refine q0A (λk=>k<=j) [0,3,4,7,14,15,18,19,20,21,22,79,80,88,89,115] [7,21,1001,1003] Lk Lk (λk:Nat=>[(116,iv k),(23,.pt 23 0 0)]) (λk=>[(23,⟨132,some 8,[pS (Et k)],false⟩)]) (λk=>j-k) 0 (zI _) ?_ ?_
        .refine LeM [] rfl rfl ?_;refine Zz ?_;exact ⟨rfl,q0C rfl wc,q0C rfl q32⟩
        .intro k hk
         by_cases hlt3:k < j
         .have q4:(k:Int) < j:=ω
          obtain ⟨w3,w4,u,hu⟩:=hpi i k hlt hlt3;have huf:=hv u (zH hu);have e2:=hEt k;rw [getD_some hu] at e2;have gk:=hrg k hlt3;unfold pP at gk;have gkt:=hrk k t hlt2;have glk:=hrl k;have c11:=q9Q huf;have c12:=qcf (pat k hlt3) (put k hlt3);have kk:=q6E (pat k hlt3).1 (pat k hlt3).2.1;have c13:=qbe (q2u huf.2) kk Oq Oq Oq Oq;have k7:=(q9H (q2u huf.2) kk Oq Oq).mono (k:=2148) (q:=67585+k) Oq Oq Oq;have c14:=q5A (sEt k hk) k7 Oq;clear kk k7;change ACt _ [pS (ptZ u),pS (ivZ (a k t))] (pS (spM (ptZ u) (ivZ (a k t)))) at c13;change ACt _ [_,pS (spM (ptZ u) (ivZ (a k t)))] (pS (spS (Et k) (spM (ptZ u) (ivZ (a k t))))) at c14;rw [<- e2] at c14;clear e2;generalize spM (ptZ u) (ivZ (a k t))=n1 at *;generalize ivZ (a k t)=n2 at *;generalize ptZ u=n3 at *;generalize k*j=kj at *;refine wk1 (x6 q4 w3 w4 hu gk (x3 hrr gkt glk)) ?_;refine ⟨k+1,ω,ω,?_⟩;refine LeM [] rfl rfl ?_;refine Zz ?_;exact ⟨ω,q0C rfl wc,q0C rfl q32⟩
         .obtain rfl:k=j:=ω
          have q4:¬ (k:Int) < k:=ω
          refine wk1 (x4 q4 gxt gxl gzt) ?_;refine ⟨t+1,ω,ω,?_⟩;refine LeM [] rfl rfl ?_;refine Zz ?_;exact ⟨ω,q0C rfl wc,q0C rfl q32⟩
       by_cases hit:i=t
       .have q5:((i:Int) == (t:Int))=true:=by simp; omega
        rw [if_pos hit] at hE0t;rw [hE0t] at fin;unfold dT at one;refine wk1 q5 ?_;refine fin _ _ (LeM [] rfl rfl ?_)
        try refine Zz ?_
        first | exact ⟨q0C rfl wc,q0C rfl q32⟩ | exact ⟨q0C rfl q32,q0C rfl wc⟩
       .have q5:((i:Int) == (t:Int))=false:=by simp; omega
        rw [if_neg hit] at hE0t;rw [hE0t] at fin;refine wk1 q5 ?_;refine fin _ _ (LeM [] rfl rfl ?_)
        try refine Zz ?_
        have d0:decide (od 0 < 0)=false:=by rw [q0k]; rfl
        have e0:dyE 0=0:=if_pos rfl
        first | exact ⟨q0C rfl wc,q0C rfl q32,d0.symm,(nfL q0k).mpr trivial,e0.symm,d0.symm,(nfL q0k).mpr trivial,e0.symm⟩ | exact ⟨q0C rfl wc,q0C rfl q32,⟨d0.symm,(nfL q0k).mpr trivial,e0.symm,d0.symm,(nfL q0k).mpr trivial,e0.symm⟩,trivial⟩ | exact ⟨q0C rfl wc,⟨d0.symm,(nfL q0k).mpr trivial,e0.symm,d0.symm,(nfL q0k).mpr trivial,e0.symm⟩,q0C rfl q32⟩
      .obtain rfl:t=j:=ω
       have q3:¬ (t:Int) < t:=ω
       have dS:=(sSi t (zE _)).d1 Oq;have c2:=q4y (mode:=1) (.inr (.inl rfl)) dS.1;have c3:=q4y (mode:=2) (.inr (.inr rfl)) dS.2;unfold dT at c2 c3;obtain ⟨⟨_,_⟩,p1,p2⟩:=pr i hlt;have gxi:=gxg i hlt;have c4:=qeH (p:=Oi) (q:=x.getD i (0,0)) hOni p2;clear pr pa pu hpi;generalize x.getD i (0,0)=xi at *;rw [hOi] at c4 hBi hLi;generalize fR 1 (Si t).1=o1 at *;generalize fR 2 (Si t).2=o2 at *;generalize decide (q1M xi.1 < q1M (o1,o2).1/\q1M (o1,o2).2 < q1M xi.2)=bb at *;generalize B i=Bi at *;cases Bi
       .refine wk1 (x4 q3 li gxi gxl) ?_;refine ⟨i+1,ω,ω,?_⟩;rw [hLi,hBi];refine LeM [(1003,some 167)] rfl rfl ?_;refine Zz ?_
        first | exact ⟨⟨ω,rfl⟩,q0C rfl wc,q0C (by rw [zC]; rfl) q32⟩ | exact ⟨⟨ω,rfl⟩,q0C (by rw [zC]; rfl) q32,q0C rfl wc⟩ | exact ⟨⟨ω,rfl⟩,q0C (by rw [zC]; rfl) q32⟩
       .refine wk1 (x4 q3 li gxi gxl) ?_;refine ⟨i+1,ω,ω,?_⟩;rw [hLi,hBi];refine LeM [(1003,some 167)] rfl rfl ?_;refine Zz ?_
        first | exact ⟨⟨ω,rfl⟩,q0C rfl wc,q0C (by rw [zC]; rfl) q32⟩ | exact ⟨⟨ω,rfl⟩,q0C (by rw [zC]; rfl) q32,q0C rfl wc⟩ | exact ⟨⟨ω,rfl⟩,q0C (by rw [zC]; rfl) q32⟩
    .obtain rfl:i=j:=ω
     have q2:¬ (i:Int) < i:=ω
     have hcl:(∀ a:Nat × Nat,a ∈ L i->Cld (PV.ag [uv a.1,uv a.2]))=True:=eq_true λa _=>by
      intro y hy;simp at hy
      rcases hy with rfl | rfl <;> trivial
     exact wk1 (x3 q2 li hcl) trivial
end
open Go.Dt
def rK (K:Nat) (z:Int):Rat:=(z:Rat) / (((2:Int) ^ K:Int):Rat)
def pK0 (K:Nat):(((2:Int) ^ K:Int):Rat)≠0:=λh=>yA (q0H K) (by exact_mod_cast h)
def qnV {K:Nat} {a b:Int}:rK K (a+b)=rK K a+rK K b:=by unfold rK; rw [Rat.intCast_add,Rat.div_def,Rat.div_def,Rat.div_def,Rat.add_mul]
def qnU {K:Nat} {a b:Int}:rK K (a-b)=rK K a-rK K b:=by unfold rK; rw [Rat.intCast_sub,Rat.div_def,Rat.div_def,Rat.div_def]; grind
def rK_0 {K:Nat}:rK K 0=0:=by unfold rK; simp [Rat.div_def]
def pKp (K:Nat):0 < (((2:Int) ^ K:Int):Rat):=by exact_mod_cast q0H K
def qae {K:Nat} {a b:Int}:rK K a<=rK K b ↔ a<=b:=by
 have p:=Rat.inv_pos.2 (pKp K);unfold rK;rw [Rat.div_def,Rat.div_def]
 constructor
 .intro h
  by_cases q:a<=b
  .exact q
  .exfalso
   have h2:((b:Int):Rat) < (a:Rat):=by exact_mod_cast (show b < a by omega)
   have:=Rat.mul_lt_mul_of_pos_right h2 p
   grind
 .intro h;exact Rat.mul_le_mul_of_nonneg_right (by exact_mod_cast h) (Rat.le_of_lt p)
def rK_P {K:Nat} {a b c:Int} (h:a*b=c*(2:Int) ^ K):rK K c=rK K a*rK K b:=by
 have p:=pK0 K;unfold rK;have h2:((c:Int):Rat)*(((2:Int) ^ K:Int):Rat)=(a:Rat)*(b:Rat):=by rw [<- Rat.intCast_mul,<- Rat.intCast_mul,h]
 generalize (((2:Int) ^ K:Int):Rat)=e at *;generalize ((a:Int):Rat)=u at *;generalize ((b:Int):Rat)=d at *;generalize ((c:Int):Rat)=g at *
 grind
def qwT {K:Nat} (hK:K=65536):rK K q2Y=1:=by
 have p:=pK0 K;unfold rK;rw [qcK,<- hK,Rat.div_def,Rat.mul_inv_cancel _ p]
section
variable {F:Nat->Nat->Option Nat} {n K:Nat} {b z v:List Nat}
abbrev mA (K:Nat) (F:Nat->Nat->Option Nat):Mx:=λr c=>rK K (ofZ ((F c r).getD 0))
abbrev mB (K:Nat) (b:List Nat):Nat->Rat:=λi=>rK K (ofZ (b.getD i 0))
def inIv (K:Nat) (p:Nat × Nat) (num den:Int):Prop:=(p.1=18442240474082181120\/(q0I p.1/\ofZ p.1*den<=num*(2:Int) ^ K))/\(p.2=9218868437227405312\/(q0I p.2/\num*(2:Int) ^ K<=ofZ p.2*den))
def rK_dn {K:Nat} {L num den:Int} (hd:0 < den) (h:rK K L<=(num:Rat) / (den:Rat)):L*den<=num*(2:Int) ^ K:=by
 have p:=pKp K;have hd2:(0:Rat) < (den:Rat):=by exact_mod_cast hd
 have h1:(L:Rat)*(den:Rat)<=(num:Rat)*(((2:Int) ^ K:Int):Rat):=by
  unfold rK at h;generalize (((2:Int) ^ K:Int):Rat)=c at *;have e1:(L:Rat)=(L:Rat) / c*c:=(Rat.div_mul_cancel (by grind)).symm;have e2:(num:Rat)=(num:Rat) / (den:Rat)*(den:Rat):=(Rat.div_mul_cancel (by grind)).symm;rw [e1,e2];generalize (L:Rat) / c=s at *;generalize (num:Rat) / (den:Rat)=t at *;have h2:=Rat.mul_le_mul_of_nonneg_right (Rat.mul_le_mul_of_nonneg_right h (Rat.le_of_lt p)) (Rat.le_of_lt hd2)
  grind
 exact_mod_cast h1
def rK_up {K:Nat} {L num den:Int} (hd:0 < den) (h:(num:Rat) / (den:Rat)<=rK K L):num*(2:Int) ^ K<=L*den:=by
 have p:=pKp K;have hd2:(0:Rat) < (den:Rat):=by exact_mod_cast hd
 have h1:(num:Rat)*(((2:Int) ^ K:Int):Rat)<=(L:Rat)*(den:Rat):=by
  unfold rK at h;generalize (((2:Int) ^ K:Int):Rat)=c at *;have e1:(L:Rat)=(L:Rat) / c*c:=(Rat.div_mul_cancel (by grind)).symm;have e2:(num:Rat)=(num:Rat) / (den:Rat)*(den:Rat):=(Rat.div_mul_cancel (by grind)).symm;rw [e1,e2];generalize (L:Rat) / c=s at *;generalize (num:Rat) / (den:Rat)=t at *;have h2:=Rat.mul_le_mul_of_nonneg_right (Rat.mul_le_mul_of_nonneg_right h (Rat.le_of_lt p)) (Rat.le_of_lt hd2)
  grind
 exact_mod_cast h1
end
def inS (a:Int × Int) (x:Rat):Prop:=rK 65536 a.1<=x/\x<=rK 65536 a.2
section
variable {a c:Int × Int} {x y:Rat}
def qxY (h1:inS a x) (h2:inS c y):inS (spA a c) (x+y):=by
 unfold inS spA at *;dsimp only;rw [qnV,qnV];obtain ⟨a1,a2⟩:=h1;obtain ⟨c1,c2⟩:=h2
 constructor <;> grind
def qrB (h1:inS a x) (h2:inS c y):inS (spS a c) (x-y):=by
 unfold inS spS at *;dsimp only;rw [qnU,qnU];obtain ⟨a1,a2⟩:=h1;obtain ⟨c1,c2⟩:=h2
 constructor <;> grind
def q99 {f:Nat}:inS (ptZ f) (rK 65536 (ofZ f)):=⟨Rat.le_refl,Rat.le_refl⟩
def q9Z {l:List Int}:∀ {n i:Nat},i < n->loQ l n<=l.getD i 0
 | 0,i,h=>by omega
 | n+1,i,h=>by
  rw [loQ]
  by_cases e:i=n
  .subst e
   split <;> omega
  .have h1:=q9Z (l:=l) (show i < n by omega)
   split
   .rename_i hc
    rcases hc with hc | hc
    .omega
    .omega
   .exact h1
def q9c {l:List Int}:∀ {n i:Nat},i < n->l.getD i 0<=hiQ l n
 | 0,i,h=>by omega
 | n+1,i,h=>by
  rw [hiQ]
  by_cases e:i=n
  .subst e
   split <;> omega
  .have h1:=q9c (l:=l) (show i < n by omega)
   split
   .rename_i hc
    rcases hc with hc | hc
    .omega
    .omega
   .exact h1
def qv1:(spM a c).1<=prZ a.1 c.1/\(spM a c).1<=prZ a.1 c.2/\(spM a c).1<=prZ a.2 c.1/\(spM a c).1<=prZ a.2 c.2 :=
 ⟨q9Z (l:=spP a c) (n:=4) (i:=0) Oq,q9Z (l:=spP a c) (n:=4) (i:=1) Oq,q9Z (l:=spP a c) (n:=4) (i:=2) Oq,q9Z (l:=spP a c) (n:=4) (i:=3) Oq⟩
def qv2:prZ a.1 c.1<=(spM a c).2/\prZ a.1 c.2<=(spM a c).2/\prZ a.2 c.1<=(spM a c).2/\prZ a.2 c.2<=(spM a c).2 :=
 ⟨q9c (l:=spP a c) (n:=4) (i:=0) Oq,q9c (l:=spP a c) (n:=4) (i:=1) Oq,q9c (l:=spP a c) (n:=4) (i:=2) Oq,q9c (l:=spP a c) (n:=4) (i:=3) Oq⟩
def qak {x u v y:Rat} (h1:u<=y) (h2:y<=v):(x*u<=x*y\/x*v<=x*y)/\(x*y<=x*u\/x*y<=x*v):=by
 by_cases hx:0<=x
 .exact ⟨.inl (Rat.mul_le_mul_of_nonneg_left h1 hx),.inr (Rat.mul_le_mul_of_nonneg_left h2 hx)⟩
 .have hx:0 <= -x:=by grind
  have a1:=Rat.mul_le_mul_of_nonneg_left h1 hx;have a2:=Rat.mul_le_mul_of_nonneg_left h2 hx;refine ⟨.inr ?_,.inl ?_⟩ <;> grind
def qkY {j k p q:Nat} (ha:spK j p a) (hc:spK k q c) (hjk:j+k<=65536) (hpq:p+q<=196608) (h1:inS a x) (h2:inS c y):inS (spM a c) (x*y):=by
 have e11:=rK_P (q3l ha.1.1 hc.1.1 hjk ha.1.2 hc.1.2 hpq).2.2.2;have e12:=rK_P (q3l ha.1.1 hc.2.1 hjk ha.1.2 hc.2.2 hpq).2.2.2;have e21:=rK_P (q3l ha.2.1 hc.1.1 hjk ha.2.2 hc.1.2 hpq).2.2.2;have e22:=rK_P (q3l ha.2.1 hc.2.1 hjk ha.2.2 hc.2.2 hpq).2.2.2;obtain ⟨l1,l2,l3,l4⟩:=qv1 (a:=a) (c:=c);obtain ⟨g1,g2,g3,g4⟩:=qv2 (a:=a) (c:=c);rw [<- qae (K:=65536)] at l1 l2 l3 l4 g1 g2 g3 g4;rw [e11] at l1 g1;rw [e12] at l2 g2;rw [e21] at l3 g3;rw [e22] at l4 g4;unfold inS at *;clear e11 e12 e21 e22 ha hc;generalize rK 65536 (spM a c).1=L at *;generalize rK 65536 (spM a c).2=G at *;generalize rK 65536 a.1=a1 at *;generalize rK 65536 a.2=a2 at *;generalize rK 65536 c.1=c1 at *;generalize rK 65536 c.2=c2 at *;have m1:=qak (x:=x) h2.1 h2.2;have m2:=qak (x:=c1) h1.1 h1.2;have m3:=qak (x:=c2) h1.1 h1.2;rw [Rat.mul_comm c1 a1,Rat.mul_comm c1 a2,Rat.mul_comm c1 x] at m2;rw [Rat.mul_comm c2 a1,Rat.mul_comm c2 a2,Rat.mul_comm c2 x] at m3;generalize a1*c1=t1 at *;generalize a1*c2=t2 at *;generalize a2*c1=t3 at *;generalize a2*c2=t4 at *;generalize x*c1=t5 at *;generalize x*c2=t6 at *;generalize x*y=t7 at *;clear h1 h2
 constructor
 .rcases m1.1 with m | m
  .rcases m2.1 with m' | m'
   .exact Rat.le_trans l1 (Rat.le_trans m' m)
   .exact Rat.le_trans l3 (Rat.le_trans m' m)
  .rcases m3.1 with m' | m'
   .exact Rat.le_trans l2 (Rat.le_trans m' m)
   .exact Rat.le_trans l4 (Rat.le_trans m' m)
 .rcases m1.2 with m | m
  .rcases m2.2 with m' | m'
   .exact Rat.le_trans m (Rat.le_trans m' g1)
   .exact Rat.le_trans m (Rat.le_trans m' g3)
  .rcases m3.2 with m' | m'
   .exact Rat.le_trans m (Rat.le_trans m' g2)
   .exact Rat.le_trans m (Rat.le_trans m' g4)
end
section
variable {K:KwT} {A:Mx} {B y:Nat->Rat}
abbrev kzR (K:KwT):Nat->Rat:=λk=>rK 65536 (ofZ (K.z.getD k 0))
abbrev kvR (K:KwT):Mx:=λi k=>rK 65536 (ofZ (K.v.getD (k*K.n+i) 0))
def KwI (K:KwT) (A:Mx) (B:Nat->Rat):Prop:=(∀ j k,j < K.n->k < K.n->inS (ivZ (K.a j k)) (A j k))/\∀ j,j < K.n->inS (ivZ (K.b.getD j (0,0))) (B j)
def qxX (h:KwF K) (hp:KwP K) (hb:K.b.length=K.n) (hI:KwI K A B) {j:Nat} (hj:j < K.n):∀ k,k<=K.n->inS (kwD K j k) (B j-sq (λt=>A j t*kzR K t) k)
 | 0,_=>by
  have:=hI.2 j hj;unfold kwD;have e:B j-sq (λt=>A j t*kzR K t) 0=B j:=by unfold sq; grind
  rw [e]; exact this
 | k+1,hk=>by
  have ha:=qtv hp hj (show k < K.n by omega);have h1:=qkY (q6E ha.1 ha.2.1) (q2u (q0V h.z (i:=k)).2) Oq Oq (hI.1 j k hj Oq) (q99 (f:=K.z.getD k 0));have h2:=qrB (qxX h hp hb hI hj k Oq) h1;have e:B j-sq (λt=>A j t*kzR K t) (k+1)=B j-sq (λt=>A j t*kzR K t) k-A j k*kzR K k:=by rw [sq]; grind
  rw [e]; exact h2
def qxW (h:KwF K) (hp:KwP K) (hI:KwI K A B) {i j:Nat} (hj:j < K.n):∀ k,k<=K.n->inS (kwE K i j k) ((if i=j then 1 else 0)-sq (λt=>kvR K i t*A t j) k)
 | 0,_=>by
  have e:(if i=j then (1:Rat) else 0)-sq (λt=>kvR K i t*A t j) 0=if i=j then 1 else 0:=by unfold sq; grind
  rw [e];unfold kwE
  split
  .unfold inS;dsimp only;rw [qwT rfl];exact ⟨Rat.le_refl,Rat.le_refl⟩
  .unfold inS;dsimp only;rw [rK_0];exact ⟨Rat.le_refl,Rat.le_refl⟩
 | k+1,hk=>by
  have ha:=qtv hp (show k < K.n by omega) hj;have h1:=qkY (q2u (q0V h.v (i:=k*K.n+i)).2) (q6E ha.1 ha.2.1) Oq Oq (q99 (f:=K.v.getD (k*K.n+i) 0)) (hI.1 k j Oq hj);have h2:=qrB (qxW (i:=i) h hp hI hj k Oq) h1;have e:(if i=j then (1:Rat) else 0)-sq (λt=>kvR K i t*A t j) (k+1)=(if i=j then (1:Rat) else 0)-sq (λt=>kvR K i t*A t j) k-kvR K i k*A k j:=by rw [sq]; grind
  rw [e]; exact h2
def qxV (h:KwF K) (hp:KwP K) (hb:K.b.length=K.n) (hI:KwI K A B) {i:Nat} (hy:∀ j,j < K.n->inS (ivZ (K.x.getD j (0,0))) (y j)):∀ j,j<=K.n->inS (kwS K i j) (kzR K i+sq (λt=>kvR K i t*(B t-sq (λk=>A t k*kzR K k) K.n)+((if i=t then 1 else 0)-sq (λk=>kvR K i k*A k t) K.n)*(y t-kzR K t)) j)
 | 0,_=>by
  have e:kzR K i+sq (λt=>kvR K i t*(B t-sq (λk=>A t k*kzR K k) K.n)+((if i=t then 1 else 0)-sq (λk=>kvR K i k*A k t) K.n)*(y t-kzR K t)) 0=kzR K i:=by rw [sq]; grind
  rw [e]; exact q99
 | j+1,hj=>by
  have hn:=h.n;have h1:=qkY (q2u (q0V h.v (i:=j*K.n+i)).2) (qc0 h hp hb (show j < K.n by omega) K.n (zE _)) Oq Oq (q99 (f:=K.v.getD (j*K.n+i) 0)) (qxX h hp hb hI (show j < K.n by omega) K.n (zE _));have h2:=qrB (hy j Oq) (q99 (f:=K.z.getD j 0));have h3:=qkY (qcZ h hp (i:=i) (show j < K.n by omega) K.n (zE _)) (qd4 (kw_b h hp hb (show j < K.n by omega)).2 (q2u (q0V h.z (i:=j)).2) (zE _)) Oq Oq (qxW h hp hI (i:=i) (show j < K.n by omega) K.n (zE _)) h2;have h4:=qxY (qxY (qxV (i:=i) h hp hb hI hy j Oq) h1) h3;rw [sq];have e:∀ a b c d:Rat,a+(b+(c+d))=a+b+c+d:=λa b c d=>by grind
  rw [e]; exact h4
def tK_eq {n:Nat} {R:Mx} {z:Nat->Rat} {i:Nat} (hi:i < n):z i+sq (λt=>R i t*(B t-sq (λk=>A t k*z k) n)+((if i=t then 1 else 0)-sq (λk=>R i k*A k t) n)*(y t-z t)) n=tK n A R B y i:=by
 have e1:sq (λt=>R i t*(B t-sq (λk=>A t k*z k) n)+((if i=t then 1 else 0)-sq (λk=>R i k*A k t) n)*(y t-z t)) n=sq (λt=>1*(R i t*(B t-mv n A z t))+1*((if i=t then 1 else 0)*(y t-z t)-sq (λk=>R i k*(A k t*(y t-z t))) n)) n:=by
  refine q07 n λt _=>?_;have e2:sq (λk=>R i k*(A k t*(y t-z t))) n=sq (λk=>R i k*A k t) n*(y t-z t):=by
   rw [<- qpl];exact q07 n λk _=>by rw [Rat.mul_assoc]
  rw [e2];unfold mv
  grind
 rw [e1,q2W,qnE,sq_dl hi,qfQ];have e3:sq (λk=>sq (λt=>R i k*(A k t*(y t-z t))) n) n=sq (λk=>R i k*(mv n A y k-mv n A z k)) n:=by
  refine q07 n λk _=>?_;rw [qbs]
  congr 1
  unfold mv;rw [<- qnE];exact q07 n λt _=>by grind
 rw [e3];unfold tK;have e4:=q2W (g:=λk=>R i k*(B k-mv n A z k)) (h:=λk=>R i k*(mv n A y k-mv n A z k)) (a:=1) (b := -1) n;have e5:sq (λj=>R i j*(B j-mv n A y j)) n=sq (λk=>1*(R i k*(B k-mv n A z k)) + -1*(R i k*(mv n A y k-mv n A z k))) n:=q07 n λk _=>by grind
 rw [e5,e4]
 grind
def qxS (h:KwF K) (hp:KwP K) (hb:K.b.length=K.n) (hI:KwI K A B) (hy:∀ j,j < K.n->inS (ivZ (K.x.getD j (0,0))) (y j)) {i:Nat} (hi:i < K.n):inS (kwS K i K.n) (tK K.n A (kvR K) B y i):=by
 have h1:=qxV h hp hb hI (i:=i) hy K.n (zE _);rw [tK_eq (R:=kvR K) hi] at h1;exact h1
end
def sgn_d {b k:Int} (hb:b≠0):sgn (decide (b*k < 0) != decide (b < 0)) k.natAbs=k:=by
 unfold sgn
 rcases Int.lt_trichotomy k 0 with h | rfl | h
 .rcases u7 hb with g | g
  .have:=Int.mul_pos_of_neg_of_neg g h;rw [if_pos (by simp; omega)]; omega
  .have:=Int.mul_neg_of_pos_of_neg g h;rw [if_pos (by simp; omega)]; omega
 .simp
 .rcases u7 hb with g | g
  .have:=yP g h;rw [if_neg (by simp; omega)]; omega
  .have:=yQ g h;rw [if_neg (by simp; omega)]; omega
def qvn {s:Bool}:sgn s 0=0:=by cases s <;> rfl
def qjW {b k:Int} (ha:bl (b*k).natAbs<=20000000) (hb:bl b.natAbs<=20000000) (hb0:b≠0):ACt 339 [bT (b*k),bT b] (.tu [bT k,bT 0]):=by
 have cA:=q2s ha;have cB:=q2s hb;have cD:=q6y ha hb Oq;have e1:(b*k).natAbs / b.natAbs=k.natAbs:=by rw [zY,tE _ ω]
 have e2:(b*k).natAbs % b.natAbs=0:=by rw [zY,Nat.mul_mod_right]
 rw [e1,e2] at cD;have hk:bl k.natAbs<=20000000:=by
  have:=q0g (Nat.div_le_self (b*k).natAbs b.natAbs);rw [e1] at this; omega
 have cQ:=q4B (s:=decide (b*k < 0) != decide (b < 0)) (z:=k.natAbs) hk;have cR:=q4B (s:=decide (b*k < 0)) (z:=0) (by rw [q02]; omega);have cS:=q0v (a:=0) (by rw [show (0:Int).natAbs=0 from rfl,q02]; omega);rw [sgn_d hb0] at cQ;rw [qvn] at cR;have hs:¬ (0:Int).sign < 0:=σ
 generalize (0:Int).sign=sg at *;have d0:decide ((0:Int) < 0)=false:=rfl;unfold bT at *;rw [d0] at *;generalize decide (b*k < 0)=s at *;generalize decide (b < 0)=t at *;generalize decide (k < 0)=u at *;generalize (decide (b < 0))=t at *;generalize b*k=a at *;refine ac0 Tryz.func339 Tryz.ntmps339 [.cell 4 46,.cell 5 46] ?_;exact wk1 hs trivial
def q7b {b k:Int} (ha:bl (b*k).natAbs<=20000000) (hb:bl b.natAbs<=20000000) (hb0:b≠0):ACt 351 [bT (b*k),bT b] (.tu [bT k,bv true]):=by
 have cD:=qjW ha hb hb0;have cS:=q0v (a:=0) (by rw [show (0:Int).natAbs=0 from rfl,q02]; omega);have hs:((0:Int).sign != 0)=false:=σ
 generalize (0:Int).sign=sg at *;unfold bT at *;generalize decide (b*k < 0)=s at *;generalize decide (b < 0)=t at *;generalize decide (k < 0)=u at *;generalize b*k=a at *;refine ac0 Tryz.func351 Tryz.ntmps351 [.cell 4 46,.tmp 5] ?_;exact wk1 hs trivial
def qp5 {a b:Int} (ha:bl a.natAbs<=20000000) (hb:bl b.natAbs<=20000000):ACt 350 [bT a,bT b] (bT (yE a b:Nat)):=by
 have cA:=q4i ha;have cB:=q4i hb;have hG:y9 a.natAbs b.natAbs=yE a b:=rfl;rw [<- hG];clear hG;have d:∀ z:Nat,decide ((z:Int) < 0)=false:=λz=>decide_eq_false Oq;generalize a.natAbs=x0 at *;generalize b.natAbs=y0 at *;have cS:=λ(y:Nat) (h:bl y<=20000000)=>q0v (a:=y) (by rw [zF]; exact h);have cD:=λ(x y:Nat) (h1:bl x<=20000000) (h2:bl y<=20000000) (h3:y≠0)=>q6x h1 h2 h3;unfold bT at *;simp only [d] at cA cB cS cD ⊢;refine ac0 Tryz.func350 Tryz.ntmps350 [.cell 4 46] ?_;refine wk ?_;refine q0A (λp:Nat × Nat=>y9 p.1 p.2=y9 x0 y0/\bl p.1<=20000000/\bl p.2<=20000000) [0,1,2,3,4,5,6] [2,3,4] Lk Lk (λ_=>[]) (λp=>[(5,⟨46,some 2,[.ag [bv false,.fm (fL p.1)]],false⟩),(6,⟨46,some 2,[.ag [bv false,.fm (fL p.2)]],false⟩)]) (λp=>p.2) (x0,y0) ⟨rfl,ha,hb⟩ ?_ ?_
 .refine LeM [] rfl rfl ?_;exact Zy
 .rintro ⟨x,y⟩ ⟨hg,hx,hy⟩;dsimp only at hg hx hy ⊢;have c1:=cS y hy
  by_cases h0:y=0
  .subst h0;have hs:(((0:Nat):Int).sign != 0)=false:=σ
   generalize ((0:Nat):Int).sign=sg at *;rw [Nat.gcd_zero_right] at hg;refine wk1 hs ?_;rw [hg]
  .have c2:=cD x y hx hy h0;have hs:((y:Int).sign != 0)=true:=by rw [zX ω]; rfl
   have hm:bl (x % y)<=20000000:=z6 (q0g (yZ (Nat.mod_lt _ Oq))) hy;have hl:x % y < y:=Nat.mod_lt _ Oq;have hg2:y9 y (x % y)=y9 x0 y0:=by rw [<- hg,Nat.gcd_comm x y,Nat.gcd_rec y x,Nat.gcd_comm]
   generalize (y:Int).sign=sg at *;generalize x % y=r at *;generalize x / y=q at *;refine wk1 hs ?_;refine ⟨(y,r),⟨hg2,hy,hm⟩,hl,?_⟩;refine LeM [] rfl rfl ?_;exact Zy
abbrev qT (q:Rat):PV:=.ag [bv (decide (q.num < 0)),.fm (fL q.num),bv (decide ((q.den:Int) < 0)),.fm (fL (q.den:Nat))]
def qwZ {n d:Int} (h0:d≠0):n=(d.sign*(yE n d:Nat))*((n:Rat) / (d:Rat)).num/\d=(d.sign*(yE n d:Nat))*(((n:Rat) / (d:Rat)).den:Nat):=by
 rw [<- Rat.divInt_eq_div,Rat.num_divInt,Rat.den_divInt,if_neg h0,Int.gcd_comm d n];have g0:yE n d≠0:=λh=>h0 (yW.1 h).2;obtain ⟨x,hx⟩:=Int.gcd_dvd_left n d;obtain ⟨y,hy⟩:=Int.gcd_dvd_right n d;generalize yE n d=g at *;have hg:(g:Int)≠0:=ω
 have hs:d.sign*d.sign=1:=by
  rcases u7 h0 with h | h
  .rw [zZ h]; rfl
  .rw [zX h]; rfl
 constructor
 .have e:d.sign*n=g*(d.sign*x):=by rw [hx]; grind
  rw [e,Int.mul_ediv_cancel_left _ hg];have:d.sign*(g:Int)*(d.sign*x)=(d.sign*d.sign)*(g*x):=by grind
  rw [this,hs,yR]; exact hx
 .have e:d.natAbs / g=y.natAbs:=by rw [hy,zY,zF,tE _ ω]
  rw [e];have e2:d.sign*(d.natAbs:Int)=d:=Int.sign_mul_natAbs d;have e3:(d.natAbs:Int)=g*(y.natAbs:Int):=by rw [hy,zY,zF]; simp
  rw [zK,<- e3,e2]
def q_le {n d:Int} (h0:d≠0):bl ((n:Rat) / (d:Rat)).num.natAbs<=bl n.natAbs/\bl ((n:Rat) / (d:Rat)).den<=bl d.natAbs:=by
 obtain ⟨h1,h2⟩:=qwZ (n:=n) h0;have g0:0 < (d.sign*(yE n d:Nat):Int).natAbs:=by
  refine Nat.pos_of_ne_zero λh=>?_;have h:=Int.natAbs_eq_zero.1 h;rw [h,zU] at h2;exact h0 h2
 generalize (d.sign*(yE n d:Nat):Int)=g at *
 constructor
 .refine q0g ?_;have:n.natAbs=g.natAbs*((n:Rat) / (d:Rat)).num.natAbs:=by rw [<- zY,<- h1]
  rw [this];exact yU _ g0
 .refine q0g ?_;have:d.natAbs=g.natAbs*((n:Rat) / (d:Rat)).den:=by
   have:=congrArg Int.natAbs h2;rw [zY,zF] at this;exact this
  rw [this];exact yU _ g0
def q7w {n d:Int} (hn:bl n.natAbs<=20000000) (hd:bl d.natAbs<=20000000) (h0:d≠0):ACt 331 [bT n,bT d] (qT ((n:Rat) / (d:Rat))):=by
 have cG:=qp5 hn hd;have cS:=q0v hd;obtain ⟨h1,h2⟩:=qwZ (n:=n) h0;have hgb:bl (yE n d)<=20000000:=z6 (q0g (Nat.le_of_dvd ω (Int.natCast_dvd_natCast.1 (by rw [Int.dvd_natAbs]; exact Int.gcd_dvd_right n d)))) hd;have cN:=q7c (a:=(yE n d:Nat)) (by rw [zF]; exact hgb);have g0:yE n d≠0:=λh=>h0 (yW.1 h).2;generalize (n:Rat) / (d:Rat)=q at *;generalize yE n d=g at *
 rcases u7 h0 with h | h
 .rw [zZ h] at h1 h2 cS;have e:(-1:Int)*(g:Int) = -(g:Int):=ω
  rw [e] at h1 h2;have c1:=q7b (b := -(g:Int)) (k:=q.num) (by rw [<- h1]; exact hn) (by rw [yF,zF]; exact hgb) ω;have c2:=q7b (b := -(g:Int)) (k:=(q.den:Nat)) (by rw [<- h2]; exact hd) (by rw [yF,zF]; exact hgb) ω;rw [<- h1] at c1;rw [<- h2] at c2;have hs:(-1:Int) < 0:=ω
  unfold bT qT at *;generalize -(g:Int)=g' at *;generalize q.num=x at *;generalize (q.den:Int)=y at *;refine ac0 Tryz.func331 Tryz.ntmps331 [.cell 4 291] ?_;exact wk1 hs trivial
 .rw [zX h] at h1 h2 cS;rw [yR] at h1 h2;have c1:=q7b (b:=(g:Int)) (k:=q.num) (by rw [<- h1]; exact hn) (by rw [zF]; exact hgb) ω;have c2:=q7b (b:=(g:Int)) (k:=(q.den:Nat)) (by rw [<- h2]; exact hd) (by rw [zF]; exact hgb) ω;rw [<- h1] at c1;rw [<- h2] at c2;have hs:¬ (1:Int) < 0:=ω
  unfold bT qT at *;generalize (g:Int)=g' at *;generalize q.num=x at *;generalize (q.den:Int)=y at *;refine ac0 Tryz.func331 Tryz.ntmps331 [.cell 4 291] ?_;exact wk1 hs trivial
def qxK {a b c d:PV}:ldU (some 4) (some 2) 0 (.ag [a,b,c,d])=some (.ag [a,b]):=by simp [ldU]
def qxJ {a b c d:PV}:ldU (some 4) (some 2) 2 (.ag [a,b,c,d])=some (.ag [c,d]):=by simp [ldU]
def qvP {a b c d x y:PV}:stU (some 4) (some 2) 0 (.ag [a,b,c,d]) (.ag [x,y])=some (.ag [x,y,c,d]):=by simp [stU]
attribute [go_sem] qxK qxJ qvP
def qjw {q:Rat} (hq:bl q.num.natAbs<=20000000):ACt 330 [qT q] (bv (decide (q=0))):=by
 have cS:=q0v hq;have e:(q.num.sign == 0)=decide (q=0):=by
  rw [Bool.eq_iff_iff];simp [yB]
 unfold bT qT at *;generalize q.num.sign=s at *;generalize decide (q=0)=t at *;generalize decide (q.num < 0)=u at *;generalize decide ((q.den:Int) < 0)=u2 at *;generalize q.num=x at *;generalize (q.den:Int)=y at *;refine ac0 Tryz.func330 Tryz.ntmps330 [.tmp 2] ?_;exact wk1 e trivial
def qs (q:Rat) (b:Nat):Prop:=bl q.num.natAbs<=b/\bl q.den<=b
def qs.mono {q:Rat} {a b:Nat} (h:qs q a) (hab:a<=b):qs q b:=⟨z6 h.1 hab,z6 h.2 hab⟩
def qqV (q:Rat):q=(q.num:Rat) / ((q.den:Int):Rat):=by rw [<- Rat.divInt_eq_div]; exact (Rat.num_divInt_den q).symm
def q2i {a b:Int} {m n:Nat} (ha:bl a.natAbs<=m) (hb:bl b.natAbs<=n):bl (a*b).natAbs<=m+n:=by
 rw [zY];have:=q16 a.natAbs b.natAbs;omega
def q6L (q:Rat):((q.den:Int):Rat)≠0:=by
 have:=q.den_nz;intro h;have:(q.den:Int)=0:=by exact_mod_cast h
 omega
def qqW (x y z w:Rat):x-((((y.num*z.num*(w.den:Nat):Int):Rat)) / ((((y.den:Nat)*(z.den:Nat)*w.num:Int)):Rat))=x-y*z / w:=by
 congr 1
 have hy:=qqV y;have hz:=qqV z;have hw:=qqV w;have y0:=q6L y;have z0:=q6L z;have w0:=q6L w;generalize y.num=yn at *;generalize z.num=zn at *;generalize w.num=wn at *;generalize (y.den:Int)=yd at *;generalize (z.den:Int)=zd at *;generalize (w.den:Int)=wd at *;subst hy hz hw;rw [Rat.intCast_mul,Rat.intCast_mul,Rat.intCast_mul,Rat.intCast_mul]
 by_cases h:(wn:Rat)=0
 .rw [h]; simp [Rat.div_def]
 .grind
def q_sub (x p:Rat):(((x.num*(p.den:Nat)-p.num*(x.den:Nat):Int):Rat)) / ((((x.den:Nat)*(p.den:Nat):Int)):Rat)=x-p:=by
 have hx:=qqV x;have hp:=qqV p;have x0:=q6L x;have p0:=q6L p;generalize x.num=xn at *;generalize p.num=pn at *;generalize (x.den:Int)=xd at *;generalize (p.den:Int)=pd at *;subst hx hp;rw [Rat.intCast_sub,Rat.intCast_mul,Rat.intCast_mul,Rat.intCast_mul]
 grind
def q_mul (x p:Rat):(((x.num*p.num:Int):Rat)) / ((((x.den:Nat)*(p.den:Nat):Int)):Rat)=x*p:=by
 have hx:=qqV x;have hp:=qqV p;have x0:=q6L x;have p0:=q6L p;generalize x.num=xn at *;generalize p.num=pn at *;generalize (x.den:Int)=xd at *;generalize (p.den:Int)=pd at *;subst hx hp;rw [Rat.intCast_mul,Rat.intCast_mul]
 grind
def qfq {x p:Rat} {a b:Nat} (ha:a<=5000000) (hb:b<=5000000) (hx:qs x a) (hp:qs p b):ACt 143 [bT x.num,bT p.num] (bT (x.num*p.num))/\ACt 143 [bT (x.den:Nat),bT (p.den:Nat)] (bT ((x.den:Nat)*(p.den:Nat)))/\ACt 331 [bT (x.num*p.num),bT ((x.den:Nat)*(p.den:Nat))] (qT (x*p))/\qs (x*p) (a+b):=by
 obtain ⟨x1,x2⟩:=hx;obtain ⟨p1,p2⟩:=hp;have dn:∀ q:Rat,((q.den:Nat):Int).natAbs=q.den:=λq=>zF _;have d0:∀ q:Rat,((q.den:Nat):Int)≠0:=λq h=>q.den_nz Oq;have m1:=q2i x1 p1;have m2:=q2i (a:=(x.den:Nat)) (b:=(p.den:Nat)) (by rw [dn]; exact x2) (by rw [dn]; exact p2);have h9:((x.den:Nat)*(p.den:Nat):Int)≠0:=u6 (d0 x) (d0 p);have c10:=q7w (n:=x.num*p.num) (d:=(x.den:Nat)*(p.den:Nat)) Oq Oq h9;have m10:=q_le (n:=x.num*p.num) h9;rw [q_mul] at c10 m10;exact ⟨q1o ω ω,q1o (by rw [dn]; omega) (by rw [dn]; omega),c10,⟨ω,ω⟩⟩
def q6M {x y z w:Rat} {b:Nat} (hb:b<=1000000) (hx:qs x b) (hy:qs y b) (hz:qs z b) (hw:qs w b) (w0:w≠0):ACt 332 [qT x,qT y,qT z,qT w] (qT (x-y*z / w))/\qs (x-y*z / w) (4*b+1):=by
 obtain ⟨x1,x2⟩:=hx;obtain ⟨y1,y2⟩:=hy;obtain ⟨z1,z2⟩:=hz;obtain ⟨w1,w2⟩:=hw;have dn:∀ q:Rat,((q.den:Nat):Int).natAbs=q.den:=λq=>zF _;have d0:∀ q:Rat,((q.den:Nat):Int)≠0:=λq h=>q.den_nz Oq;have wn0:w.num≠0:=λh=>w0 (Rat.num_eq_zero.1 h);have c1:=q1o (a:=y.num) (b:=z.num) Oq Oq;have m1:=q2i y1 z1;have c2:=q1o (a:=y.num*z.num) (b:=(w.den:Nat)) ω (by rw [dn]; omega);have m2:=q2i (b:=(w.den:Nat)) m1 (by rw [dn]; exact w2);have c3:=q1o (a:=(y.den:Nat)) (b:=(z.den:Nat)) (by rw [dn]; omega) (by rw [dn]; omega);have m3:=q2i (a:=(y.den:Nat)) (b:=(z.den:Nat)) (by rw [dn]; exact y2) (by rw [dn]; exact z2);have c4:=q1o (a:=(y.den:Nat)*(z.den:Nat)) (b:=w.num) Oq Oq;have m4:=q2i m3 w1;have h4:((y.den:Nat)*(z.den:Nat)*w.num:Int)≠0:=u6 (u6 (d0 y) (d0 z)) wn0;have c5:=q7w (n:=y.num*z.num*(w.den:Nat)) (d:=(y.den:Nat)*(z.den:Nat)*w.num) Oq Oq h4;have m5:=q_le (n:=y.num*z.num*(w.den:Nat)) h4;have e5:=qqW x y z w;obtain ⟨p,hp⟩:∃ p:Rat,p=(((y.num*z.num*(w.den:Nat):Int):Rat)) / ((((y.den:Nat)*(z.den:Nat)*w.num:Int)):Rat):=⟨_,rfl⟩;rw [<- hp] at c5 m5 e5;rw [<- e5];clear hp e5;have c6:=q1o (a:=x.num) (b:=(p.den:Nat)) ω (by rw [dn]; omega);have m6:=q2i (a:=x.num) (b:=(p.den:Nat)) x1 (by rw [dn]; exact m5.2);have c7:=q1o (a:=p.num) (b:=(x.den:Nat)) ω (by rw [dn]; omega);have m7:=q2i (a:=p.num) (b:=(x.den:Nat)) m5.1 (by rw [dn]; exact x2);have c8:=qex (a:=x.num*(p.den:Nat)) (b:=p.num*(x.den:Nat)) Oq Oq;have m8:bl (x.num*(p.den:Nat)-p.num*(x.den:Nat)).natAbs<=4*b+1:=by
  have:=q0g (Int.natAbs_sub_le (x.num*(p.den:Nat)) (p.num*(x.den:Nat)));have:=q4Z (a:=(x.num*(p.den:Nat)).natAbs) (b:=(p.num*(x.den:Nat)).natAbs) (k:=4*b) Oq Oq;omega
 have c9:=q1o (a:=(x.den:Nat)) (b:=(p.den:Nat)) (by rw [dn]; omega) (by rw [dn]; omega);have m9:=q2i (a:=(x.den:Nat)) (b:=(p.den:Nat)) (by rw [dn]; exact x2) (by rw [dn]; exact m5.2);have h9:((x.den:Nat)*(p.den:Nat):Int)≠0:=u6 (d0 x) (d0 p);have c10:=q7w (n:=x.num*(p.den:Nat)-p.num*(x.den:Nat)) (d:=(x.den:Nat)*(p.den:Nat)) Oq Oq h9;have m10:=q_le (n:=x.num*(p.den:Nat)-p.num*(x.den:Nat)) h9;rw [q_sub] at c10 m10;refine ⟨?_,⟨ω,ω⟩⟩;unfold bT qT at *;refine ac0 Tryz.func332 Tryz.ntmps332 [.cell 8 291] ?_;exact wk trivial
end Go.Proofs.YtpbaikoblfcmdaaGreatDoor
namespace Go.E
open Go Go.RowKit
section
variable {T1 T2:TypeId} {K:Kd} {N R n m:Nat} {p:Nat->Nat} {row:Nat->List PV}
def q9C (T1 T2:TypeId) (K:Kd) (N R n m:Nat) (p:Nat->Nat) (row:Nat->List PV):Hp:=λi =>
 if i=N then some ⟨T1,none,(List.range n).map λj=>.ow (p j+R) K 0 m,false⟩
 else if R<=i/\i < R+n then some ⟨T2,K,row (i-R),false⟩ else none
def qmf:q9C T1 T2 K N R n m p row N=some ⟨T1,none,(List.range n).map λj=>.ow (p j+R) K 0 m,false⟩:=if_pos rfl
def qeu {j:Nat} (hN:N < R) (hj:j < n):q9C T1 T2 K N R n m p row (j+R)=some ⟨T2,K,row j,false⟩:=by
 unfold q9C;rw [if_neg ω,if_pos ω,Nat.add_sub_cancel]
def qp4 {i:Nat} (h1:i < N) (h2:i < R):q9C T1 T2 K N R n m p row i=none:=by
 unfold q9C;rw [if_neg ω,if_neg ω]
attribute [go_sem ↓] qmf qeu qp4
def q5u {i:Nat} {b:Bk} (hb:q9C T1 T2 K N R n m p row i=some b):(i=N/\b=⟨T1,none,(List.range n).map λj=>.ow (p j+R) K 0 m,false⟩)\/(R<=i/\i < R+n/\b=⟨T2,K,row (i-R),false⟩):=by
 unfold q9C at hb
 split at hb
 .cases hb; exact .inl ⟨‹_›,rfl⟩
 .split at hb
  .rename_i hi; cases hb; exact .inr ⟨hi.1,hi.2,rfl⟩
  .cases hb
def qbh {q:Nat->Prop} (hp:∀ j,j < n->q (p j+R)):IdL q ((List.range n).map λj=>.ow (p j+R) K 0 m):=IdL.of λx hx=>by
 obtain ⟨z,hz,rfl⟩:=zL.1 hx;unfold IdP; exact hp z (yL.1 hz)
def qp3 (hrow:∀ j,∀ q,IdL q (row j)) (hp:∀ j,j < n->p j < n) (hN:5000<=N) (hNR:N < R) (hR:R+n<=1000000):WfH (q9C T1 T2 K N R n m p row):=⟨λi b hb=>by
 rcases q5u hb with ⟨_,rfl⟩ | ⟨h1,h2,rfl⟩
 .refine ⟨rfl,qbh λj hj=>?_⟩;have:=hp j hj;exact ⟨⟨ω,ω⟩,by rw [qeu hNR this]; exact Option.some_ne_none _⟩
 .exact ⟨rfl,hrow _ _⟩⟩
def qjS {q:Nat} {xs:List PV} (hNR:N < R) (hq:q < n):q0R (q9C T1 T2 K N R n m p row) (q+R) ⟨T2,K,xs,false⟩=q9C T1 T2 K N R n m p (λj=>if j=q then xs else row j):=by
 funext i
 unfold q0R q9C
 by_cases h:i=q+R
 .subst h;rw [if_pos rfl,if_neg ω,if_pos ω,Nat.add_sub_cancel]
  show _=some (Bk.mk T2 K (if q=q then xs else row q) false)
  rw [if_pos rfl]
 .rw [if_neg h]
  by_cases h1:i=N
  .rw [if_pos h1,if_pos h1]
  .rw [if_neg h1,if_neg h1]
   by_cases h2:R<=i/\i < R+n
   .rw [if_pos h2,if_pos h2]
    show _=some (Bk.mk T2 K (if i-R=q then xs else row (i-R)) false)
    rw [if_neg ω]
   .rw [if_neg h2,if_neg h2]
def qjT {p':Nat->Nat} {xs:List PV} (hx:xs=(List.range n).map λj=>.ow (p' j+R) K 0 m):q0R (q9C T1 T2 K N R n m p row) N ⟨T1,none,xs,false⟩=q9C T1 T2 K N R n m p' row:=by
 funext i
 unfold q0R q9C
 by_cases h:i=N
 .rw [if_pos h,if_pos h,hx]
 .rw [if_neg h,if_neg h,if_neg h]
def qjR (T1 T2:TypeId) (K:Kd) (N R n m:Nat):Hp:=λi =>
 if i=N then some ⟨T1,none,List.replicate n .un,false⟩
 else if R<=i/\i < R+n then some ⟨T2,K,List.replicate m .un,false⟩ else none
def q6u {i:Nat} {b:Bk} (hb:qjR T1 T2 K N R n m i=some b):(i=N/\b=⟨T1,none,List.replicate n .un,false⟩)\/(R<=i/\i < R+n/\b=⟨T2,K,List.replicate m .un,false⟩):=by
 unfold qjR at hb
 split at hb
 .cases hb; exact .inl ⟨‹_›,rfl⟩
 .split at hb
  .rename_i hi; cases hb; exact .inr ⟨hi.1,hi.2,rfl⟩
  .cases hb
end
end Go.E
namespace Go.Proofs.YtpbaikoblfcmdaaGreatDoor
open Go Go.E Go.Sp
def q7m (n:Nat) (D:Nat->Nat->Rat) (q:Nat):List PV:=(List.range n).map λc=>qT (D q c)
abbrev tQ (n:Nat) (p:Nat->Nat) (D:Nat->Nat->Rat):Hp:=q9C 339 291 (some 4) 5000 10000 n n p (q7m n D)
abbrev tQu (n:Nat):Hp:=qjR 339 291 (some 4) 5000 10000 n n
def q3S {n c q:Nat} {D:Nat->Nat->Rat} (hc:c < n):(q7m n D q)[c]?=some (qT (D q c)):=by
 unfold q7m;rw [zA,zD hc]; rfl
def q7l {n q:Nat} {D:Nat->Nat->Rat}:(q7m n D q).length=n:=by unfold q7m; simp
def clQ {n:Nat} {D:Nat->Nat->Rat} {q:Nat}:ClL (q7m n D q):=λx hx=>by
 obtain ⟨c,_,rfl⟩:=zL.1 hx;intro y hy;simp at hy
 rcases hy with rfl | rfl | rfl | rfl <;> trivial
def qcB {n:Nat} {D:Nat->Nat->Rat} (q:Nat) (r:Nat->Prop):IdL r (q7m n D q):=qie clQ
def LeUn {J:Nat->Prop} {h:Hp} {n k:Nat} {p:Nat->Nat} {D:Nat->Nat->Rat} {l:List Nat} {d:Rat} (hn:n<=5) (hq:Wn h (tQ n p D)) (hl:h 1001=some ⟨3,none,l.map λz:Nat=>iv z,false⟩) (hk:l.length=k) :
  Le J (λ_=>.tu [.ow 1001 none 0 k,qT d]) h (λ_=>.tu [pN l,qT d]) (tQu n):=by
 refine q48 (λi=>if i < 5000 then none else some i) (λi b hb=>?_) (λi j k b c hi hj ti tj=>?_) (λ_=>.tu rfl λi x y hx hy=>?_) λi _ q1 _=>if_neg Oq
 .unfold LeB
  rcases q6u hb with ⟨rfl,rfl⟩ | ⟨a1,a2,rfl⟩
  .show ∃ b,h 5000=some b/\_
   refine ⟨_,(hq 5000 ⟨ω,ω⟩).trans qmf,rfl,rfl,⟨rfl,rfl⟩,σ,λc u v _ hv=>?_⟩;have:=zH hv;rw [(yX.1 this).2]; exact .un
  .have ei:(if i < 5000 then none else some i)=some i:=if_neg Oq;dsimp only;rw [ei];have e:tQ n p D i=some ⟨291,some 4,q7m n D (i-10000),false⟩:=by
    have:=qeu (T1:=339) (T2:=291) (K:=some 4) (N:=5000) (R:=10000) (n:=n) (m:=n) (p:=p) (row:=q7m n D) (j:=i-10000) Oq Oq;rw [Nat.sub_add_cancel a1] at this;exact this
   refine ⟨_,(hq i ⟨ω,ω⟩).trans e,rfl,rfl,⟨rfl,rfl⟩,by simp [q7m],λc u v _ hv=>?_⟩;have:=zH hv;rw [(yX.1 this).2]; exact .un
 .replace ti:(if i < 5000 then none else some i)=some k:=ti;replace tj:(if j < 5000 then none else some j)=some k:=tj
  split at ti
  .cases ti
  .split at tj
   .cases tj
   .cases ti; cases tj; rfl
 .rcases i with _ | _ | i
  .cases hx; cases hy;refine q49 (T:=3) (l:=l.map λz:Nat=>iv z) hl (λx hx=>by obtain ⟨z,_,rfl⟩:=zL.1 hx; trivial) (λi hi=>?_) (by rw [z9]; exact zP (by rw [zJ]; omega));replace hi:(if i < 5000 then none else some i)=some 1001:=hi
   split at hi
   .cases hi
   .cases hi; omega
  .cases hx; cases hy; exact .cl (by intro y hy; simp at hy; rcases hy with rfl | rfl | rfl | rfl <;> trivial)
  .simp at hx
def qvq (D:Nat->Nat->Rat) (q c:Nat) (v:Rat):Nat->Nat->Rat:=λa b=>if a=q/\b=c then v else D a b
def qjh {n c q:Nat} {D:Nat->Nat->Rat} {v:Rat}:(λj=>if j=q then (q7m n D q).set c (qT v) else q7m n D j)=q7m n (qvq D q c v):=by
 funext j
 by_cases h:j=q
 .subst h;rw [if_pos rfl];unfold q7m qvq;refine z7 λi=>?_;rw [z8,zA,zA,zJ,yG]
  rcases tF i n with hn | hn
  .rw [zD hn,zO,zO]
   by_cases hc:c=i
   .rw [if_pos hc,if_pos ω,if_pos ⟨rfl,hc.symm⟩]
   .rw [if_neg hc,if_neg (λe=>hc e.2.symm)]
  .rw [zQ (by simpa using hn),yI,yI]
   split
   .rw [if_neg ω]
   .rfl
 .rw [if_neg h];unfold q7m qvq
  congr 1
  funext b
  rw [if_neg ω]
section
open Go.Dt
variable {A B:Mx} {j k n i:Nat}
def qnv (h1:k<=i) (h2:i<=n) (h3:∀ t,k<=t->t < i->B t j=0) (h4:i=n\/B i j≠0):fnz B j k (n-k)=i:=by
 rcases qc5 (A:=B) (j:=j) (n-k) k with ⟨q1,q2⟩ | ⟨q1,q2,q3⟩
 .rcases h4 with rfl | h4
  .omega
  .by_cases h:i=n
   .omega
   .exact (h4 (q2 i h1 Oq)).elim
 .rcases Nat.lt_trichotomy (fnz B j k (n-k)) i with h | h | h
  .exact (q3 (h3 _ q1 h)).elim
  .exact h
  .rcases h4 with rfl | h4
   .omega
   .exfalso
    have:∀ m s,s<=i->i < s+m->s<=fnz B j s m->fnz B j s m > i->False:=by
     intro m
     induction m with
     | zero=>intro s a b _ _; omega
     | succ m ih =>
      intro s a b c d;rw [fnz] at c d
      by_cases hz:B s j=0
      .rw [if_pos hz] at c d
       by_cases hs:s=i
       .subst hs; exact h4 hz
       .exact ih (s+1) Oq Oq Oq d
      .rw [if_neg hz] at d; omega
    exact this (n-k) k h1 Oq q1 h
end
open Go.Dt
def sB (b:Nat):Nat->Nat
 | 0=>b
 | j+1=>4*sB b j+1
def qqB {b j:Nat} (hb:b<=100) (hj:j<=5):sB b j<=200000:=by
 rcases j with _ | _ | _ | _ | _ | _ | j <;> simp only [sB] <;> omega
def pvE (n:Nat) (A:Mx):Nat->List Nat
 | 0=>[]
 | j+1=>if fnz (ech n A j).1 j (ech n A j).2.1 (n-(ech n A j).2.1)=n then pvE n A j else pvE n A j ++ [j]
structure Ec where
 j:Nat
 k:Nat
 p:Nat->Nat
 D:Nat->Nat->Rat
 d:Rat
structure EcI (n b:Nat) (A:Mx) (x:Ec):Prop where
 j:x.j<=n
 kj:x.k<=x.j
 l:(pvE n A x.j).length=x.k
 e:(ech n A x.j).2=(x.k,x.d)
 m:∀ r c,r < n->c < n->x.D (x.p r) c=(ech n A x.j).1 r c
 pi:∀ r,r < n->x.p r < n
 pj:∀ r s,r < n->s < n->x.p r=x.p s->r=s
 s:∀ r c,r < n->c < n->qs (x.D (x.p r) c) (sB b x.j)
 sd:qs x.d (sB b x.j*(x.j+1))
section
variable {n b j k i:Nat} {A:Mx} {p:Nat->Nat} {E E':Nat->Nat->Rat} {d:Rat}
def EcI.no (h:EcI n b A ⟨j,k,p,E,d⟩) (hj:j < n) (hz:∀ t,k<=t->t < n->E (p t) j=0):EcI n b A ⟨j+1,k,p,E,d⟩/\pvE n A (j+1)=pvE n A j:=by
 obtain ⟨h1,h2,h3,h5,h6,h7,h8,h9,h10⟩:=h;dsimp only at h1 h2 h3 h5 h6 h7 h8 h9 h10;have hk:(ech n A j).2.1=k:=by rw [h5]
 have hf:fnz (ech n A j).1 j (ech n A j).2.1 (n-(ech n A j).2.1)=n:=by
  rw [hk];exact qnv ω (zE _) (λt a c=>by rw [<- h6 t j c hj]; exact hz t a c) (.inl rfl)
 have he:ech n A (j+1)=ech n A j:=by rw [ech,est,if_pos hf]
 have hp:pvE n A (j+1)=pvE n A j:=by rw [pvE,if_pos hf]
 refine ⟨⟨hj,by dsimp only; omega,by dsimp only; rw [hp]; exact h3,by dsimp only; rw [he]; exact h5,λr c hr hc=>?_,h7,h8,λr c hr hc=>(h9 r c hr hc).mono ?_,h10.mono ?_⟩,hp⟩
 .dsimp only; rw [he]; exact h6 r c hr hc
 .dsimp only; rw [sB]; omega
 .dsimp only; rw [sB];exact zN Oq Oq
def pSw (p:Nat->Nat) (i k:Nat):Nat->Nat:=λr=>if r=i then p k else if r=k then p i else p r
def EcI.yes (h:EcI n b A ⟨j,k,p,E,d⟩) (hj:j < n) (h1:k<=i) (h2:i < n) (h3:∀ t,k<=t->t < i->E (p t) j=0) (h4:E (p i) j≠0)
  (hE:∀ r c,r < n->c < n->E' (pSw p i k r) c=el (λr c=>E (pSw p i k r) c) k j n r c) (hs:∀ r c,r < n->c < n->qs (E' (pSw p i k r) c) (4*sB b j+1))
  (hd:qs ((if i=k then d else -d)*E (pSw p i k k) j) (sB b j*(j+1)+sB b j)):EcI n b A ⟨j+1,k+1,pSw p i k,E',(if i=k then d else -d)*E (pSw p i k k) j⟩/\pvE n A (j+1)=pvE n A j ++ [j]:=by
 obtain ⟨g1,g2,g3,g5,g6,g7,g8,g9,g10⟩:=h;dsimp only at g1 g2 g3 g5 g6 g7 g8 g9 g10;have hk:(ech n A j).2.1=k:=by rw [g5]
 have hdd:(ech n A j).2.2=d:=by rw [g5]
 have hfk:fnz (ech n A j).1 j k (n-k)=i:=qnv h1 (yZ h2) (λt a c=>by rw [<- g6 t j ω hj]; exact h3 t a c) (.inr (by rw [<- g6 i j h2 hj]; exact h4));have hf:fnz (ech n A j).1 j (ech n A j).2.1 (n-(ech n A j).2.1)=i:=by rw [hk]; exact hfk
 have hsw:∀ r c,r < n->c < n->swp (ech n A j).1 i k r c=E (pSw p i k r) c:=λr c hr hc=>by
  unfold swp pSw
  by_cases e1:r=i
  .rw [if_pos e1,if_pos e1,g6 k c ω hc]
  .rw [if_neg e1,if_neg e1]
   by_cases e2:r=k
   .rw [if_pos e2,if_pos e2,g6 i c h2 hc]
   .rw [if_neg e2,if_neg e2,g6 r c hr hc]
 have he:ech n A (j+1)=(el (swp (ech n A j).1 i k) k j n,k+1,(if i=k then d else -d)*swp (ech n A j).1 i k k j):=by
  rw [ech,est,hf,if_neg ω,hk,hdd]
 have hp:pvE n A (j+1)=pvE n A j ++ [j]:=by rw [pvE,hf,if_neg ω]
 refine ⟨⟨hj,by dsimp only; omega,by dsimp only; rw [hp,yY,g3]; rfl,?_,λr c hr hc=>?_,λr hr=>?_,λr s hr hs' e=>?_,λr c hr hc=>(hs r c hr hc).mono ?_,hd.mono ?_⟩,hp⟩
 .dsimp only; rw [he,hsw k j ω hj]
 .dsimp only; rw [he,hE r c hr hc];unfold el;dsimp only;rw [hsw r c hr hc,hsw r j hr hj,hsw k c ω hc,hsw k j ω hj]
 .dsimp only;unfold pSw
  split
  .exact g7 k Oq
  .split
   .exact g7 i h2
   .exact g7 r hr
 .dsimp only at e;unfold pSw at e
  split at e <;> split at e <;> (try split at e) <;> (try split at e) <;> first | (have:=g8 _ _ ω ω e; omega) | omega
 .dsimp only; rw [sB]; omega
 .dsimp only; rw [sB];have:sB b j*(j+1)+sB b j=sB b j*(j+1+1):=(Nat.mul_succ _ _).symm;rw [this];exact zN Oq (zE _)
def qwc {R m:Nat} {K:Kd} (hi:i < n) (hk:k < n) (hik:i≠k):(((List.range n).map λj=>PV.ow (p j+R) K 0 m).set i (.ow (p k+R) K 0 m)).set k (.ow (p i+R) K 0 m)=(List.range n).map λj=>PV.ow (pSw p i k j+R) K 0 m:=by
 refine z7 λt=>?_;rw [z8,z8,zA,zA,List.length_set,zJ,yG];unfold pSw
 by_cases h1:k=t
 .subst h1;rw [if_pos rfl,if_pos hk,zD hk,zO,if_neg (Ne.symm hik),if_pos rfl]
 .rw [if_neg h1]
  by_cases h2:i=t
  .subst h2;rw [if_pos rfl,if_pos hi,zD hi,zO,if_pos rfl]
  .rw [if_neg h2]
   rcases tF t n with ht | ht
   .rw [zD ht,zO,zO,if_neg (Ne.symm h2),if_neg (Ne.symm h1)]
   .rw [zQ (by simpa using ht)]; rfl
def qx1 {h:Hp} {i:Nat} {a b:Bk}:q0R (q0R h i a) i b=q0R h i b:=by
 funext j
 unfold q0R
 split
 .rfl
 .rfl
def qjz:pSw p k k=p:=by
 funext r
 unfold pSw
 by_cases h:r=k
 .rw [if_pos h,h]
 .rw [if_neg h,if_neg h]
def qqa (g8:∀ r s,r < n->s < n->p r=p s->r=s) (h1:k < n) (h2:i < n):∀ r s,r < n->s < n->pSw p i k r=pSw p i k s->r=s:=λr s hr hs' e=>by
 unfold pSw at e
 split at e <;> split at e <;> (try split at e) <;> (try split at e) <;> first | (have:=g8 _ _ ω ω e; omega) | omega
def qwb (g7:∀ r,r < n->p r < n) (h1:k < n) (h2:i < n):∀ r,r < n->pSw p i k r < n:=λr hr=>by
 unfold pSw
 split
 .exact g7 k h1
 .split
  .exact g7 i h2
  .exact g7 r hr
end
def qs_1:qs 1 1:=⟨by show bl 1<=1; exact q0M (by decide),by show bl 1<=1; exact q0M (by decide)⟩
def qeE {n b:Nat} {D:Nat->Nat->Rat} (hn:n<=5) (hb:b<=100) (hb1:1<=b) (hs:∀ r c,r < n->c < n->qs (D r c) b) :
  qdQ 279 [.ow 5000 none 0 n,iv n] (tQ n (λi=>i) D) (.tu [pN (pvE n D n),qT (ech n D n).2.2]) (tQu n):=by
 refine qeU qoU Tryz.func279 rfl Tryz.ntmps279 κ ?_ ?_ ?_ ?_
 .intro i c hc
  rcases q5u hc with ⟨rfl,rfl⟩ | ⟨a1,a2,rfl⟩
  .exact ⟨⟨ω,ω⟩,rfl,qbh λj hj=>⟨ω,ω⟩,_,if_pos rfl,rfl,σ⟩
  .exact ⟨⟨ω,ω⟩,rfl,qcB _ _,⟨291,some 4,List.replicate n .un,false⟩,by unfold tQu qjR; rw [if_neg ω,if_pos ⟨a1,a2⟩],rfl,by simp [q7m]⟩
 .intro i c hc
  rcases q6u hc with ⟨rfl,rfl⟩ | ⟨a1,a2,rfl⟩
  .exact ⟨ω,ω⟩
  .exact ⟨ω,ω⟩
 .exact IdL.of λx hx=>by
   simp at hx
   rcases hx with rfl | rfl <;> unfold IdP
   .exact ⟨ω,ω⟩
   .trivial
 have c1:=q3f (a:=1) Oq Oq;have hI:EcI n b D ⟨0,0,λi=>i,D,1⟩:=⟨by dsimp only; omega,zE _,rfl,rfl,λr c _ _=>rfl,λr h=>h,λr s _ _ h=>h,hs,qs_1.mono (by show 1<=b*(0+1); omega)⟩;have hW:∀ (p:Nat->Nat) (E:Nat->Nat->Rat),(∀ r,r < n->p r < n)->WfH (tQ n p E):=λp E h=>qp3 qcB h Oq Oq Oq;have cl:∀ {τ h h'} {L:List Nat},LeL τ h h' (L.map λz:Nat=>iv z) (L.map λz:Nat=>iv z):=λ{_ _ _ _}=>q0C rfl λx hx=>by obtain ⟨z,_,rfl⟩:=zL.1 hx; trivial
 refine wk ?_;refine q0P (EcI n b D) [0,1,5,6] [5] Lk Lk (λx:Ec=>[(7,.ow 1001 none 0 x.k),(8,iv x.j)]) (λx=>[(6,⟨291,some 4,[qT x.d],false⟩),(1001,⟨3,none,(pvE n D x.j).map λz:Nat=>iv z,false⟩)]) (λx=>tQ n x.p x.D) (λx=>n-x.j) ⟨0,0,λi=>i,D,1⟩ hI ?_ ?_
 .refine LeW [(1001,none)] rfl rfl ?_ ?_ (by simp [q0i,q0c,win]) ?_
  .exact Ow
  .exact hW _ _ hI.pi
  .try refine Zz ?_
   refine ⟨rfl,⟨rfl,rfl,rfl⟩,rfl⟩
 .rintro ⟨j,k,p,E,d⟩ hi;have hi0:=hi;obtain ⟨h1,h2,h3,h5,h6,h7,h8,h9,h10⟩:=hi;dsimp only at h1 h2 h3 h5 h6 h7 h8 h9 h10
  by_cases hlt:j < n
  .have hlt':(j:Int) < n:=ω
   have hpvl:(pvE n D j).length=k:=h3;have hsb:=qqB (b:=b) (j:=j) hb Oq;generalize hL:pvE n D j=L at *;refine wk1 (x2 hlt' hpvl) ?_;refine q0P (λi=>k<=i/\i<=n/\∀ t,k<=t->t < i->E (p t) j=0) [0,1,5,6,7,8,9] [5,6,1001] Lk Lk (λi:Nat=>[(10,iv i)]) (λ_=>[]) (λ_=>tQ n p E) (λi=>n-i) k ⟨zE _,ω,λt a b=>by omega⟩ ?_ ?_
   .refine LeW [] rfl rfl ?_ ?_ (by simp [q0i,q0c,win]) ?_
    .exact Ow
    .exact hW _ _ h7
    .try refine Zz ?_
     exact cl
   .rintro i ⟨g1,g2,g3⟩
    by_cases hin:i < n
    .have hin':(i:Int) < n:=ω
     have hri:(List.range n)[i]?=some i:=zD hin;have hel:=q3S (n:=n) (D:=E) (q:=p i) hlt;have hpi:=h7 i hin;have Cz:=qjw (q:=E (p i) j) (by have:=(h9 i j hin hlt).1; omega)
     by_cases hz:E (p i) j=0
     .rw [decide_eq_true hz] at Cz;refine wk1 (x3 hin' hri hel) ?_;refine ⟨i+1,⟨ω,ω,λt a b=>?_⟩,ω,?_⟩
      .by_cases ht:t=i
       .rw [ht]; exact hz
       .exact g3 t a Oq
      .refine LeW [] rfl rfl ?_ ?_ (by simp [q0i,q0c,win]) ?_
       .exact Ow
       .exact hW _ _ h7
       .try refine Zz ?_
        exact ⟨ω,cl⟩
     .rw [decide_eq_false hz] at Cz;have hie:((i:Int) == n)=false:=by simp; omega
      refine wk1 (x4 hin' hri hel hie) ?_;refine qoy λK hK=>?_;have hkn:k < n:=ω
      have q7:=qwb (p:=p) (i:=i) h7 hkn hin;have q8:=qqa (p:=p) (i:=i) h8 hkn hin;have fin:∀ (s:Nat->PV) (h:Hp),Le (λi=>tQ n (λi=>i) D i≠none) s h (stM [(0,.ow 5000 none 0 n),(1,iv n),(5,.pt 5 0 0),(6,.pt 6 0 0),(7,.ow 1001 none 0 k),(8,iv j),(9,iv k)] []) (q1B (tQ n (pSw p i k) E) (hpM [(5,⟨291,some 4,[.ag [bv false,q05,bv false,q05]],false⟩),(6,⟨291,some 4,[qT (if i=k then d else -d)],false⟩),(1001,⟨3,none,L.map λz:Nat=>iv z,false⟩)] []))->K s h:=by
       intro s h hl;refine hK _ _ (q0r hl ?_); clear hK K hl Cz;have hd0:qs (if i=k then d else -d) (sB b j*(j+1)):=by
        by_cases hik:i=k
        .rw [if_pos hik]; exact h10
        .rw [if_neg hik]; exact ⟨by rw [Rat.neg_num,yF]; exact h10.1,by rw [Rat.neg_den]; exact h10.2⟩
       have hm6:sB b j*(j+1)<=200000*6:=zN hsb Oq;have hpvs:∀ r c,r < n->c < n->qs (E (pSw p i k r) c) (sB b j):=λr c hr hc=>by
        unfold pSw
        split
        .exact h9 k c hkn hc
        .split
         .exact h9 i c hin hc
         .exact h9 r c hr hc
       obtain ⟨d1,hd1⟩:∃ d1,d1=(if i=k then d else -d):=⟨_,rfl⟩;obtain ⟨p1,hp1⟩:∃ p1,p1=pSw p i k:=⟨_,rfl⟩;rw [<- hd1] at hd0 ⊢;rw [<- hp1] at hpvs q7 q8 ⊢;have hrk:(List.range n)[k]?=some k:=zD hkn;have hel2:=q3S (n:=n) (D:=E) (q:=p1 k) hlt;have hpk:=q7 k hkn;obtain ⟨M1,M2,M3,M4⟩:=qfq (x:=d1) (p:=E (p1 k) j) Oq Oq hd0 (hpvs k j hkn hlt);unfold bT at M1 M2 M3;refine wk1 (x2 hrk hel2) ?_;have hkj:E (p1 k) j≠0:=by
        rw [hp1];unfold pSw
        split
        .rename_i e; rw [e]; exact hz
        .rw [if_pos rfl]; exact hz
       refine q0P (λx:Nat × (Nat->Nat->Rat)=>k+1<=x.1/\x.1<=n/\∀ r c,r < n->c < n->x.2 (p1 r) c=el (λr c=>E (p1 r) c) k j x.1 r c) [0,1,5,6,7,8,9] [5,6,1001] Lk Lk (λx:Nat × (Nat->Nat->Rat)=>[(11,iv x.1)]) (λ_=>[]) (λx=>tQ n p1 x.2) (λx=>n-x.1) (k+1,E) ⟨zE _,by dsimp only; omega,λr c _ _=>by rw [el_0 (zE _)]⟩ ?_ ?_
       .refine LeW [] rfl rfl ?_ ?_ (by simp [q0i,q0c,win]) ?_
        .exact Ow
        .exact hW _ _ q7
        .try refine Zz ?_
         exact ⟨ω,cl⟩
       .rintro ⟨i2,F⟩ ⟨f1,f2,f3⟩;dsimp only at f1 f2 f3 ⊢
        by_cases hi2:i2 < n
        .have hi2':(i2:Int) < n:=ω
         have hr2:(List.range n)[i2]?=some i2:=zD hi2;have hel3:=q3S (n:=n) (D:=F) (q:=p1 i2) hlt;have hp2:=q7 i2 hi2;refine wk1 (x3 hi2' hr2 hel3) ?_;have ef:F (p1 i2) j=E (p1 i2) j:=by
          rw [f3 i2 j hi2 hlt]; unfold el; rw [if_neg ω]
         rw [ef];refine q0P (λy:Nat × (Nat->Nat->Rat)=>j<=y.1/\y.1<=n/\∀ r e,r < n->e < n->y.2 (p1 r) e=if r=i2/\j<=e/\e < y.1 then E (p1 i2) e-E (p1 i2) j*E (p1 k) e / E (p1 k) j else el (λr c=>E (p1 r) c) k j i2 r e) [0,1,5,6,7,8,9,11,12] [5,6,1001,12] Lk Lk (λy:Nat × (Nat->Nat->Rat)=>[(13,iv y.1)]) (λ_=>[]) (λy=>tQ n p1 y.2) (λy=>n-y.1) (j,F) ⟨zE _,by dsimp only; omega,λr e hr he=>by dsimp only; rw [if_neg ω]; exact f3 r e hr he⟩ ?_ ?_
         .refine LeW [] rfl rfl ?_ ?_ (by simp [q0i,q0c,win]) ?_
          .exact Ow
          .exact hW _ _ q7
          .try refine Zz ?_
           exact cl
         .rintro ⟨c,G⟩ ⟨w1,w2,w3⟩;dsimp only at w1 w2 w3 ⊢
          by_cases hc:c < n
          .have hc':(c:Int) < n:=ω
           have x1:=q3S (n:=n) (D:=G) (q:=p1 i2) hc;have z1:=q3S (n:=n) (D:=G) (q:=p1 k) hc;have z2:=q3S (n:=n) (D:=G) (q:=p1 k) hlt;have v1:G (p1 i2) c=E (p1 i2) c:=by
            rw [w3 i2 c hi2 hc,if_neg ω]; unfold el; rw [if_neg ω]
           have v2:G (p1 k) c=E (p1 k) c:=by
            rw [w3 k c hkn hc,if_neg ω]; unfold el; rw [if_neg ω]
           have v3:G (p1 k) j=E (p1 k) j:=by
            rw [w3 k j hkn hlt,if_neg ω]; unfold el; rw [if_neg ω]
           rw [v1] at x1;rw [v2] at z1;rw [v3] at z2;obtain ⟨cM,_⟩:=q6M (x:=E (p1 i2) c) (y:=E (p1 i2) j) (z:=E (p1 k) c) (w:=E (p1 k) j) (b:=sB b j) Oq (hpvs i2 c hi2 hc) (hpvs i2 j hi2 hlt) (hpvs k c hkn hc) (hpvs k j hkn hlt) hkj;generalize hv:E (p1 i2) c-E (p1 i2) j*E (p1 k) c / E (p1 k) j=v at *;have dn:∀ q:Rat,decide (((q.den:Nat):Int) < 0)=false:=λq=>decide_eq_false Oq;unfold qT at cM;rw [dn,dn,dn,dn,dn] at cM;have rl:=q7l (n:=n) (D:=G) (q:=p1 i2);refine wk1 (x6 hc' hr2 hrk x1 z1 (x2 z2 rl)) ?_;refine ⟨(c+1,qvq G (p1 i2) c v),⟨by dsimp only; omega,by dsimp only; omega,λr e hr he=>?_⟩,by dsimp only; omega,?_⟩
           .dsimp only;unfold qvq
            by_cases hre:r=i2/\e=c
            .obtain ⟨rfl,rfl⟩:=hre;rw [if_pos ⟨rfl,rfl⟩,if_pos ⟨rfl,w1,ω⟩];exact hv.symm
            .rw [if_neg (λh=>hre ⟨q8 r i2 hr hi2 h.1,h.2⟩),w3 r e hr he]
             by_cases h3:r=i2/\j<=e/\e < c
             .rw [if_pos h3,if_pos ⟨h3.1,h3.2.1,ω⟩]
             .rw [if_neg h3,if_neg ω]
           .have ev:qT v=.ag [bv (decide (v.num < 0)),.fm (fL v.num),bv false,.fm (fL (v.den:Nat))]:=by
             unfold qT; rw [dn]
            refine LeW [] rfl rfl ?_ ?_ (by simp [q0i,q0c,win]) ?_
            .refine q8a (q46 q3K) ?_;rw [qjS ω hp2,<- ev,qjh]
            .exact hW _ _ q7
            .try refine Zz ?_
             exact ⟨ω,cl⟩
          .obtain rfl:n=c:=ω
           refine wk ?_;refine ⟨(i2+1,G),⟨by dsimp only; omega,by dsimp only; omega,λr e hr he=>?_⟩,by dsimp only; omega,?_⟩
           .dsimp only;rw [w3 r e hr he];unfold el
            by_cases h3:r=i2
            .subst h3
             by_cases h4:j<=e
             .rw [if_pos ⟨rfl,h4,he⟩,if_pos ⟨ω,ω,h4⟩]
             .rw [if_neg ω,if_neg ω,if_neg ω]
            .rw [if_neg ω]
             by_cases h4:k < r/\r < i2/\j<=e
             .rw [if_pos h4,if_pos ⟨h4.1,ω,h4.2.2⟩]
             .rw [if_neg h4,if_neg ω]
           .refine LeW [] rfl rfl ?_ ?_ (by simp [q0i,q0c,win]) ?_
            .exact Ow
            .exact hW _ _ q7
            .try refine Zz ?_
             exact ⟨ω,cl⟩
        .obtain rfl:n=i2:=ω
         refine wk ?_;have hsz:∀ r c,r < n->c < n->qs (F (p1 r) c) (4*sB b j+1):=λr c hr hc=>by
          rw [f3 r c hr hc];unfold el
          split
          .exact (q6M (x:=E (p1 r) c) (y:=E (p1 r) j) (z:=E (p1 k) c) (w:=E (p1 k) j) (b:=sB b j) Oq (hpvs r c hr hc) (hpvs r j hr hlt) (hpvs k c hkn hc) (hpvs k j hkn hlt) hkj).2
          .exact (hpvs r c hr hc).mono Oq
         obtain ⟨hy,hpy⟩:=EcI.yes (E':=F) hi0 hlt g1 hin g3 hz (by rw [<- hp1]; exact f3) (by rw [<- hp1]; exact hsz) (by rw [<- hp1,<- hd1]; exact M4);rw [<- hp1,<- hd1] at hy;refine ⟨_,hy,by dsimp only; omega,?_⟩;refine LeW [(1001,some 142)] rfl rfl ?_ ?_ (by simp [q0i,q0c,win]) ?_
         .exact Ow
         .exact hW _ _ hy.pi
         .try refine Zz ?_
          rw [hpy,hL];exact ⟨⟨hpvl,ω⟩,by rw [zC]; exact q0C rfl (by rw [<- zC]; exact λx hx=>by obtain ⟨z,_,rfl⟩:=zL.1 hx; trivial)⟩
      by_cases hik:i=k
      .have qik:((i:Int) != k)=false:=by simp [hik]
       refine wk1 qik ?_;refine fin _ _ ?_;refine LeW [] rfl rfl ?_ ?_ (by simp [q0i,q0c,win]) ?_
       .rw [show pSw p i k=p by rw [hik]; exact qjz];exact q3K
       .exact hW _ _ q7
       .try refine Zz ?_
        rw [if_pos hik];exact ⟨⟨rfl,rfl,rfl⟩,cl⟩
      .have qik:((i:Int) != k)=true:=by simp; omega
       have hrk:(List.range n)[k]?=some k:=zD hkn;have hpk:=h7 k hkn;have cN:=q7c (a:=d.num) (by have:=h10.1; have:sB b j*(j+1)<=200000*6:=zN hsb ω; omega);unfold bT at cN;refine wk1 (x3 qik hri hrk) ?_;refine fin _ _ ?_;refine LeW [] rfl rfl ?_ ?_ (by simp [q0i,q0c,win]) ?_
       .rw [j08 (by unfold win; omega)];refine q8a (q46 (q46 q3K)) ?_;rw [qx1];exact qjT (qwc hin hkn hik)
       .exact hW _ _ q7
       .try refine Zz ?_
        rw [if_neg hik,Rat.neg_num,Rat.neg_den];exact ⟨⟨rfl,rfl,rfl⟩,cl⟩
    .obtain rfl:n=i:=ω
     refine wk ?_;obtain ⟨hno,hpno⟩:=EcI.no hi0 hlt g3;refine ⟨⟨j+1,k,p,E,d⟩,hno,by dsimp only; omega,?_⟩;refine LeW [] rfl rfl ?_ ?_ (by simp [q0i,q0c,win]) ?_
     .exact Ow
     .exact hW _ _ hno.pi
     .try refine Zz ?_
      rw [hpno,hL];exact ⟨ω,cl⟩
  .obtain rfl:n=j:=ω
   have hr1:d=(ech n D n).2.2:=by rw [h5]
   rw [<- hr1];refine wk ?_;refine (rtM (rs:=[.tmp 4,.cell 5 291]) rfl rfl Lq ?_ (.inl rfl));refine LeUn hn (p:=p) (D:=E) ?_ ?_ h3
   .exact Ow
   .try simp -implicitDefEqProofs (disch:=omega) only [go_sem,Nat.reduceEqDiff,Nat.reduceAdd,↓reduceIte]
abbrev pMM (n:Nat) (M:Nat->Nat->Int):PV:=.sl none ((List.range n).map λr=>.sl (some 2) ((List.range n).map λc=>bT (M r c)))
def q_ofI {z:Int}:qT (z:Rat)=.ag [bv (decide (z < 0)),.fm (fL z),bv false,.fm (fL 1)]:=by
 unfold qT;rw [Rat.num_intCast,Rat.den_intCast]; rfl
abbrev tXQ (n t:Nat) (D:Nat->Nat->Rat):Hp:=q1V 339 291 (some 4) 5000 10000 t (q7m n D) h0
def quu {n:Nat} {D:Nat->Nat->Rat}:tXQ n n D=tQ n (λi=>i) D:=by
 show q1V _ _ _ _ _ _ _ _=q9C _ _ _ _ _ _ _ _ _
 funext i
 unfold q1V q9C
 split
 .congr 2
  refine yJ λj _=>?_;rw [q7l]
 .rfl
def q6v {n t:Nat} {D:Nat->Nat->Rat} (ht:t<=1000):BOk (tXQ n t D) win:=q1P BOk.h0 (λ_ _=>clQ) Oq ⟨⟨ω,ω⟩,λj hj=>⟨ω,ω⟩⟩
def clQc {l:List Nat} {f:Nat->Rat}:ClL (l.map λe=>qT (f e)):=λx hx=>by
 obtain ⟨c,_,rfl⟩:=zL.1 hx;intro y hy;simp at hy
 rcases hy with rfl | rfl | rfl | rfl <;> trivial
def qrV {n:Nat} {M:Nat->Nat->Int} (hn:n<=5) (hM:∀ r c,r < n->c < n->bl (M r c).natAbs<=1000):qdQ 280 [pMM n M] h0 (.ow 5000 none 0 n) (tQ n (λi=>i) λr c=>(M r c:Rat)):=by
 obtain ⟨D,hD⟩:∃ D:Nat->Nat->Rat,D=λr c=>(M r c:Rat):=⟨_,rfl⟩;rw [<- hD];refine qeU qoT Tryz.func280 rfl Tryz.ntmps280 κ ?_ ?_ ?_ ?_
 .intro i b hb; cases hb
 .intro i c hc
  rcases q5u hc with ⟨rfl,rfl⟩ | ⟨a1,a2,rfl⟩
  .exact ⟨ω,ω⟩
  .exact ⟨ω,ω⟩
 .exact IdL.of λx hx=>by simp at hx; subst hx; unfold IdP; trivial
 have c1:=q3f (a:=1) Oq Oq;rw [<- quu];refine wk ?_;refine q0r (LeT (hw:=tXQ n 0 D) tnW (λ_ h=>(h rfl).elim) (λi hi hw=>?_) (λi b hw hb=>?_) (λi j x hi hj ti tj=>?_) (xs:=[(0,pMM n M),(3,.ow 5000 none 0 0),(4,iv 0)]) (kv:=[]) (bs:=[]) (kb:=[]) ?_) ?_
 .simp at hi
 .unfold LeB;rw [q5I hw.1 hw.2]
  rcases q0j hb with ⟨rfl,rfl⟩ | ⟨_,h1,h2,_⟩ | ⟨_,_,hb⟩
  .rfl
  .omega
  .cases hb
 .unfold tnW at ti tj
  split at ti <;> split at tj <;> cases ti <;> cases tj <;> rfl
 .try simp -implicitDefEqProofs (disch:=omega) only [go_sem,Nat.reduceEqDiff,Nat.reduceAdd,↓reduceIte]
 refine q0P (λt=>t<=n) [0] [] Lk Lk (λt:Nat=>[(3,.ow 5000 none 0 t),(4,iv t)]) (λ_=>[]) (λt=>tXQ n t D) (λt=>n-t) 0 (zI _) ?_ ?_
 .refine LeW [] rfl rfl ?_ ?_ (by simp [q0i,q0c,win]) ?_
  .exact Ow
  .exact wfB (q6v Oq)
  .try refine Zz ?_
   rfl
 .intro t ht;have hlr:(((List.range n).map λr=>PV.sl (some 2) ((List.range n).map λc=>bT (M r c))).length)=n:=σ
  by_cases hlt:t < n
  .have hlt':(t:Int) < n:=ω
   have hrt:((List.range n).map λr=>PV.sl (some 2) ((List.range n).map λc=>bT (M r c)))[t]?=some (PV.sl (some 2) ((List.range n).map λc=>bT (M t c))):=by rw [zA,zD hlt]; rfl
   refine wk1 (x2 hlr hlt') ?_;refine q0P (λc=>c<=n) [0,3,4] [] Lk Lk (λc:Nat=>[(5,.ow 1001 (some 4) 0 c),(6,iv c)]) (λc=>[(1001,⟨291,some 4,(List.range c).map λe=>qT (D t e),false⟩)]) (λ_=>tXQ n t D) (λc=>n-c) 0 (zI _) ?_ ?_
   .refine LeW [(1001,none)] rfl rfl ?_ ?_ (by simp [q0i,q0c,win]) ?_
    .exact Ow
    .exact wfB (q6v Oq)
    .try refine Zz ?_
     exact ⟨rfl,rfl⟩
   .intro c hc;have hlc:((List.range n).map λc=>bT (M t c)).length=n:=σ
    by_cases hcn:c < n
    .have hcn':(c:Int) < n:=ω
     have hrc:((List.range n).map λc=>bT (M t c))[c]?=some (bT (M t c)):=by rw [zA,zD hcn]; rfl
     have cN:=q2s (a:=M t c) (by have:=hM t c hlt hcn; omega);generalize ((List.range n).map λc=>bT (M t c))=rw1 at *;refine wk1 (x5 hlr hrt hlc hcn' hrc) ?_;refine ⟨c+1,ω,ω,?_⟩;refine LeW [(1001,some 34)] rfl rfl ?_ ?_ (by simp [q0i,q0c,win]) ?_
     .exact Ow
     .exact wfB (q6v Oq)
     .try refine Zz ?_
      refine ⟨ω,q0C ?_ clQc⟩;rw [zC]
      show _=_ ++ [qT (D t c)]
      rw [hD,q_ofI]
    .obtain rfl:n=c:=ω
     refine wk1 (x3 hlr hrt hlc) ?_;refine ⟨t+1,ω,ω,?_⟩;refine q1s (T1:=339) (T2:=291) (K:=some 4) (N:=5000) (R:=10000) (n:=t) (o:=38) (r:=1001) (l:=q7m n D t) (hw:=tXQ n t D) (hw':=tXQ n (t+1) D) (λ_ h=>h rfl) clQ (λj=>(q7m n D j).length) ?_ ?_ (λi h1 h2=>?_) q1H (q1F ω ω) (λi h1 h2=>q1G h1 h2) (λj hj=>q26 ω) (q6v ω) (q6i qb2 (λ_ _=>clQ) λj hj=>by omega) ?_ ω ω ω ω ω ω (by simp [nmW]) ?_
     .try refine Zz ?_
      rw [q7l]
     .try refine Zz ?_
      rfl
     .obtain ⟨w1,w2⟩:=h1
      repeat rw [q0B ω]
      rw [q0W ⟨w1,w2⟩]
     .exact q0O Oq (.inr Oq)
     .try refine Zz ?_
      omega
  .obtain rfl:n=t:=ω
   refine wk1 hlr ?_;refine (rtM (rs:=[.tmp 2]) rfl rfl Lq ?_ (.inl rfl));exact LeF q3K (λi b hb=>((q6v Oq).b i b hb).1) (wfB (q6v Oq)) (.ow rfl q1H)
def qh8 {n:Nat} {A:Mx}:∀ j,(pvE n A j).length=(ech n A j).2.1
 | 0=>rfl
 | j+1=>by
  have ih:=qh8 (n:=n) (A:=A) j;rw [pvE,ech,est]
  split
  .exact ih
  .rw [yY,ih]; rfl
def qoN {n:Nat} {M:Nat->Nat->Int} (hn:n<=5) (hM:∀ r c,r < n->c < n->bl (M r c).natAbs<=100):ACt 195 [pMM n M] (bT (dtE n λr c=>(M r c:Rat)).num):=by
 have cF:=qrV hn (λr c hr hc=>z6 (hM r c hr hc) Oq);obtain ⟨D,hD⟩:∃ D:Nat->Nat->Rat,D=λr c=>(M r c:Rat):=⟨_,rfl⟩;rw [<- hD] at cF ⊢;have cE:=qeE (D:=D) (b:=100) hn (zE _) Oq (λr c hr hc=>by
  rw [hD];exact ⟨by rw [Rat.num_intCast]; exact hM r c hr hc,by rw [Rat.den_intCast]; exact q0M (by decide)⟩)
 have hl:=qh8 (n:=n) (A:=D) n;unfold dtE;have hlr:(((List.range n).map λr=>PV.sl (some 2) ((List.range n).map λc=>bT (M r c))).length)=n:=σ
 generalize (ech n D n).2.1=k at *;generalize (ech n D n).2.2=d at *;generalize pvE n D n=l at *;refine ac0 Tryz.func195 Tryz.ntmps195 [.cell 2 46] ?_;refine wk ?_;refine qox λK hK=>?_;refine Zz ?_;refine jmF cF ?_ ?_
 .exact Ow
 try refine Zz1 hlr ?_
 refine jmF cE ?_ ?_
 .exact Ow
 try refine Zz ?_
 refine hK _ _ ?_; clear hK K;have q0:(0:Rat).num=0:=rfl
 by_cases hk:k < n
 .have hk':(k:Int) < n:=ω
  rw [if_pos hk,q0];exact wk1 (x3 hlr hl hk') trivial
 .have hk':¬ (k:Int) < n:=ω
  rw [if_neg hk];exact wk1 (x3 hlr hl hk') trivial
abbrev pZB (n:Nat) (b:Nat->Int):PV:=.sl (some 2) ((List.range n).map λr=>bT (b r))
def q3T (n:Nat) (M:Nat->Nat->Int) (r:Nat):List PV:=(List.range n).map λc=>bT (M r c)
def q59 {n r:Nat} {M:Nat->Nat->Int}:(q3T n M r).length=n:=by unfold q3T; simp
def clB {n r:Nat} {M:Nat->Nat->Int}:ClL (q3T n M r):=λx hx=>by
 obtain ⟨c,_,rfl⟩:=zL.1 hx;intro y hy;simp at hy
 rcases hy with rfl | rfl <;> trivial
def qzC {l:List Nat} {f:Nat->Int}:ClL (l.map λe=>bT (f e)):=λx hx=>by
 obtain ⟨c,_,rfl⟩:=zL.1 hx;intro y hy;simp at hy
 rcases hy with rfl | rfl <;> trivial
def q8l (M:Nat->Nat->Int) (j:Nat) (b:Nat->Int):Nat->Nat->Int:=λr c=>if c=j then b r else M r c
def qji {n r j:Nat} {M:Nat->Nat->Int} {b:Nat->Int}:(q3T n M r).set j (bT (b r))=q3T n (q8l M j b) r:=by
 unfold q3T q8l;refine z7 λi=>?_;rw [z8,zA,zA,zJ,yG]
 rcases tF i n with hn | hn
 .rw [zD hn,zO,zO]
  by_cases hc:j=i
  .rw [if_pos hc,if_pos ω,if_pos hc.symm]
  .rw [if_neg hc,if_neg (λe=>hc e.symm)]
 .rw [zQ (by simpa using hn),yI,yI]
  split
  .rw [if_neg ω]
  .rfl
abbrev tXB (n t:Nat) (M:Nat->Nat->Int):Hp:=q1V 64 46 (some 2) 5000 10000 t (q3T n M) h0
def q6w {n t:Nat} {M:Nat->Nat->Int} (ht:t<=1000):BOk (tXB n t M) win:=q1P BOk.h0 (λ_ _=>clB) Oq ⟨⟨ω,ω⟩,λj hj=>⟨ω,ω⟩⟩
def qa8 {n j:Nat} {M:Nat->Nat->Int} {b:Nat->Int} (hn:n<=5) (hj:j < n):ACt 196 [pMM n M,iv j,pZB n b] (pMM n (q8l M j b)):=by
 obtain ⟨M',hM'⟩:∃ M',M'=q8l M j b:=⟨_,rfl⟩;have hset:=λr=>qji (n:=n) (r:=r) (j:=j) (M:=M) (b:=b);rw [<- hM'] at hset ⊢;refine ac0 Tryz.func196 Tryz.ntmps196 [.tmp 6] ?_;refine wk ?_;refine q0r (LeT (hw:=tXB n 0 M') tnW (λ_ h=>h.elim) (λi hi hw=>?_) (λi b hw hb=>?_) (λi j x hi hj ti tj=>?_) (xs:=[(0,pMM n M),(1,iv j),(2,pZB n b),(7,.ow 5000 none 0 0),(8,iv 0)]) (kv:=[]) (bs:=[]) (kb:=[]) ?_) ?_
 .simp at hi
 .unfold LeB;rw [q5I hw.1 hw.2]
  rcases q0j hb with ⟨rfl,rfl⟩ | ⟨_,h1,h2,_⟩ | ⟨_,_,hb⟩
  .rfl
  .omega
  .cases hb
 .unfold tnW at ti tj
  split at ti <;> split at tj <;> cases ti <;> cases tj <;> rfl
 .try simp -implicitDefEqProofs (disch:=omega) only [go_sem,Nat.reduceEqDiff,Nat.reduceAdd,↓reduceIte]
 refine q0P (λt=>t<=n) [0,1,2] [] Lk Lk (λt:Nat=>[(7,.ow 5000 none 0 t),(8,iv t)]) (λ_=>[]) (λt=>tXB n t M') (λt=>n-t) 0 (zI _) ?_ ?_
 .refine LeW [] rfl rfl ?_ ?_ (by simp [q0i,q0c,win]) ?_
  .exact Ow
  .exact wfB (q6w Oq)
  .try refine Zz ?_
   rfl
 .intro t ht;have hlr:(((List.range n).map λr=>PV.sl (some 2) ((List.range n).map λc=>bT (M r c))).length)=n:=σ
  by_cases hlt:t < n
  .have hlt':(t:Int) < n:=ω
   have hrt:((List.range n).map λr=>PV.sl (some 2) ((List.range n).map λc=>bT (M r c)))[t]?=some (PV.sl (some 2) (q3T n M t)):=by rw [zA,zD hlt]; rfl
   have hrb:((List.range n).map λr=>bT (b r))[t]?=some (bT (b t)):=by rw [zA,zD hlt]; rfl
   have hle:=q59 (n:=n) (r:=t) (M:=M);have hgj:(q3T n M t)[j]?=some (bT (M t j)):=by unfold q3T; rw [zA,zD hj]; rfl
   refine wk1 (x6 hlr hlt' hrt hle hrb hgj) ?_;refine ⟨t+1,ω,ω,?_⟩;refine q1s (T1:=64) (T2:=46) (K:=some 2) (N:=5000) (R:=10000) (n:=t) (o:=32) (r:=21) (l:=q3T n M' t) (hw:=tXB n t M') (hw':=tXB n (t+1) M') (λ_ h=>h.elim) clB (λj=>(q3T n M' j).length) ?_ ?_ (λi h1 h2=>?_) q1H (q1F ω ω) (λi h1 h2=>q1G h1 h2) (λj hj=>q26 ω) (q6w ω) (q6i qb2 (λ_ _=>clB) λj hj=>by omega) ?_ ω ω ω ω ω ω (by simp [nmW]) ?_
   .try refine Zz ?_
    rw [q59]
   .try refine Zz ?_
    rw [hset]
   .obtain ⟨w1,w2⟩:=h1
    repeat rw [q0B ω]
    rw [q0W ⟨w1,w2⟩]
   .exact q0O Oq (.inr Oq)
   .try refine Zz ?_
    omega
  .obtain rfl:n=t:=ω
   have hcl:(∀ j,j < n->ClL (q3T n M' j))=True:=eq_true λ_ _=>clB;refine wk1 (x2 hlr hcl) ?_
   rfl
def qoF {n b:Nat} {A:Mx} (hn:n<=5) (hb:b<=100) (hb1:1<=b) (h:∀ r c,r < n->c < n->qs (A r c) b):∀ j,j<=n->(ech n A j).2.1<=j/\(∀ r c,r < n->c < n->qs ((ech n A j).1 r c) (sB b j))/\qs (ech n A j).2.2 (sB b j*(j+1))
 | 0,_=>⟨zE _,h,qs_1.mono (by show 1<=b*(0+1); omega)⟩
 | j+1,hj=>by
  obtain ⟨h1,h2,h3⟩:=qoF hn hb hb1 h j Oq;have hsb:=qqB (b:=b) (j:=j) hb Oq;have hm6:sB b j*(j+1)<=200000*6:=zN hsb Oq;have hs1:sB b j<=sB b (j+1):=by rw [sB]; omega
  have hs2:sB b j*(j+1)+sB b j<=sB b (j+1)*(j+1+1):=by
   have:sB b j*(j+1)+sB b j=sB b j*(j+1+1):=(Nat.mul_succ _ _).symm;rw [this];exact zN hs1 (zE _)
  rw [ech];generalize ech n A j=S at *;obtain ⟨B,k,d⟩:=S;dsimp only at h1 h2 h3;unfold est;dsimp only
  rcases qc5 (A:=B) (j:=j) (n-k) k with ⟨q1,q2⟩ | ⟨q1,q2,q3⟩
  .rw [if_pos ω];exact ⟨by dsimp only; omega,λr c hr hc=>(h2 r c hr hc).mono hs1,h3.mono ω⟩
  .rw [if_neg ω];generalize fnz B j k (n-k)=i at *;have hsw:∀ r c,r < n->c < n->qs (swp B i k r c) (sB b j):=λr c hr hc=>by
    unfold swp
    split
    .exact h2 k c Oq hc
    .split
     .exact h2 i c Oq hc
     .exact h2 r c hr hc
   have hp0:swp B i k k j≠0:=by
    unfold swp
    split
    .rename_i e; rw [e]; exact q3
    .rw [if_pos rfl]; exact q3
   have hd:qs (if i=k then d else -d) (sB b j*(j+1)):=by
    split
    .exact h3
    .exact ⟨by rw [Rat.neg_num,yF]; exact h3.1,by rw [Rat.neg_den]; exact h3.2⟩
   refine ⟨by dsimp only; omega,λr c hr hc=>?_,((qfq ω ω hd (hsw k j ω ω)).2.2.2).mono hs2⟩;dsimp only;unfold el
   split
   .exact (q6M Oq (hsw r c hr hc) (hsw r j hr Oq) (hsw k c Oq hc) (hsw k j Oq Oq) hp0).2
   .exact (hsw r c hr hc).mono hs1
def qoH {n:Nat} {M:Nat->Nat->Int} (hn:n<=5) (hM:∀ r c,r < n->c < n->bl (M r c).natAbs<=100):bl (dtE n λr c=>(M r c:Rat)).num.natAbs<=1200000:=by
 have h:=(qoF (n:=n) (b:=100) (A:=λr c=>(M r c:Rat)) hn (zE _) ω (λr c hr hc=>⟨by rw [Rat.num_intCast]; exact hM r c hr hc,by rw [Rat.den_intCast]; exact q0M (by decide)⟩) n (zE _)).2.2.1;have hm:sB 100 n*(n+1)<=200000*6:=zN (qqB (zE _) hn) Oq;unfold dtE
 split
 .show bl 0<=_
  rw [q02]; omega
 .omega
def slX (n:Nat) (M:Nat->Nat->Int) (b:Nat->Int) (j:Nat):Int:=if (dtE n λr c=>(M r c:Rat)).num < 0 then -(dtE n λr c=>(q8l M j b r c:Rat)).num else (dtE n λr c=>(q8l M j b r c:Rat)).num
def qfR {n:Nat} {M:Nat->Nat->Int} {b:Nat->Int} (hn:n<=5) (hM:∀ r c,r < n->c < n->bl (M r c).natAbs<=100) (hb:∀ r,r < n->bl (b r).natAbs<=100) (h0:(dtE n λr c=>(M r c:Rat)).num≠0) :
  ACt 105 [pMM n M,pZB n b] (.tu [pZB n (slX n M b),bT ((dtE n λr c=>(M r c:Rat)).num.natAbs:Nat),bv true]):=by
 have cD:=qoN hn hM;have hR:∀ j,∀ r c,r < n->c < n->bl (q8l M j b r c).natAbs<=100:=λj r c hr hc=>by
  unfold q8l
  split
  .exact hb r hr
  .exact hM r c hr hc
 have cR:=λj hj=>qa8 (M:=M) (b:=b) (j:=j) hn hj;have cE:=λj=>qoN hn (hR j);have hz:=qoH hn hM;have hy:=λj=>qoH hn (hR j);have hx:∀ j,slX n M b j=if (dtE n λr c=>(M r c:Rat)).num < 0 then -(dtE n λr c=>(q8l M j b r c:Rat)).num else (dtE n λr c=>(q8l M j b r c:Rat)).num:=λj=>rfl
 generalize slX n M b=x at *;generalize (dtE n λr c=>(M r c:Rat)).num=d at *;generalize hyy:(λj=>(dtE n λr c=>(q8l M j b r c:Rat)).num)=y at *;have hyj:∀ j,(dtE n λr c=>(q8l M j b r c:Rat)).num=y j:=λj=>congrFun hyy j;simp only [hyj] at cE hy hx;clear hyj hyy hR hM hb;have cS:=q0v (a:=d) Oq;have cA:=q4i (a:=d) Oq;have cN:=λj=>q7c (a:=y j) (by have:=hy j; omega);have hs0:(d.sign == 0)=false:=by simp [yB,h0]
 have hlr:(((List.range n).map λr=>PV.sl (some 2) ((List.range n).map λc=>bT (M r c))).length)=n:=σ
 unfold bT at cD cE cS cA cN ⊢;refine ac0 Tryz.func105 Tryz.ntmps105 [.tmp 4,.cell 5 46,.tmp 6] ?_;refine wk1 hs0 ?_;refine q0A (λj=>j<=n) [0,1,5,7] [5,7] Lk Lk (λj:Nat=>[(8,.ow 1001 (some 2) 0 j),(9,iv j)]) (λj=>[(1001,⟨46,some 2,(List.range j).map λe=>bT (x e),false⟩)]) (λj=>n-j) 0 (zI _) ?_ ?_
 .refine LeM [(1001,none)] rfl rfl ?_;refine Zz ?_;exact ⟨rfl,rfl⟩
 .intro j hj
  by_cases hlt:j < n
  .have hlt':(j:Int) < n:=ω
   have c1:=cR j hlt;have c2:=cE j;have c3:=cN j;have hxj:=hx j;have ha:(List.range (j+1)).map (λe=>bT (x e))=(List.range j).map (λe=>bT (x e)) ++ [bT (x j)]:=by rw [zW,zC]; rfl
   by_cases hd:d < 0
   .have hs:d.sign < 0:=by rw [zZ hd]; omega
    rw [if_pos hd] at hxj;rw [<- hxj] at c3;refine wk1 (x3 hlr hlt' hs) ?_;refine ⟨j+1,ω,ω,?_⟩;refine LeM [(1001,some 36)] rfl rfl ?_;refine Zz ?_;exact ⟨ω,q0C (by rw [zC]; rfl) qzC⟩
   .have hs:¬ d.sign < 0:=by rw [zX ω]; omega
    rw [if_neg hd] at hxj;rw [<- hxj] at c2;refine wk1 (x3 hlr hlt' hs) ?_;refine ⟨j+1,ω,ω,?_⟩;refine LeM [(1001,some 36)] rfl rfl ?_;refine Zz ?_;exact ⟨ω,q0C (by rw [zC]; rfl) qzC⟩
  .obtain rfl:n=j:=ω
   have hcl:(∀ a,a ∈ List.range n->Cld (bT (x a)))=True:=eq_true λa _=>by
    intro y hy;simp at hy
    rcases hy with rfl | rfl <;> trivial
   exact wk1 (x2 hlr hcl) trivial
def qpw {z V:Int} {K:Nat} (hK:K=65536) (hV:V=z*(2:Int) ^ K):shI (od V) (dyE V)=z:=by
 by_cases h0:z=0
 .subst h0;rw [zU] at hV;subst hV;rw [q0k];unfold dyE shI;simp
 .have hp:(2:Int) ^ K≠0:=yA (q0H K);have hV0:V≠0:=by rw [hV]; exact u6 h0 hp
  have e:=q1K z;obtain ⟨o1,o2⟩:=qdn (m:=V) (o:=od z) (k:=tz z.natAbs+K) (q9S h0) (by rw [hV,zM,<- zK,e]);have hd:dyE V=(tz z.natAbs:Nat):=by unfold dyE; rw [if_neg hV0,o2]; omega
  rw [o1,hd];unfold shI;rw [if_pos ω,Int.toNat_natCast];exact e
def qfB {z V:Int} {K:Nat} (hK:K=65536) (ho:q0Q V) (hV:V=z*(2:Int) ^ K):ACt 136 [dT V] (.tu [bT z,bv true]):=by
 obtain ⟨h1,h2,h3⟩:=q1A ho;have cN:=q0l ho;have cS:=q3E (s:=decide (od V < 0)) (a:=od V) (m:=dyE V) rfl Oq Oq Oq;rw [qpw hK hV] at cS;unfold dT at *;refine ac0 Tryz.func136 Tryz.ntmps136 [.cell 2 46,.tmp 3] ?_;exact wk trivial
def q5y {z:Int} {K:Nat} (hK:K=65536) (hz:bl z.natAbs<=65536):ACt 44 [bT z] (dT (z*(2:Int) ^ K)):=by
 have hm:=q5O (m:=z) (E:=0) Oq Oq;rw [show (0+65536:Int).toNat=65536 from rfl,<- hK] at hm;have C:=qci (s:=decide (z < 0)) (m:=z) (e:=0) rfl Oq Oq Oq hm;generalize z*(2:Int) ^ K=V at *;unfold bT dT at *;refine ac0 Tryz.func44 Tryz.ntmps44 [.cell 2 48] ?_;exact wk trivial


end Go.Proofs.YtpbaikoblfcmdaaGreatDoor
namespace Go.Dt
def qnF {g:Nat->Rat}:∀ n,(∀ i,i < n->∃ z:Int,g i=(z:Rat))->∃ z:Int,sq g n=(z:Rat)
 | 0,_=>⟨0,rfl⟩
 | n+1,h=>by
  obtain ⟨a,ha⟩:=qnF n λi hi=>h i Oq;obtain ⟨b,hb⟩:=h n Oq;exact ⟨a+b,by rw [sq,ha,hb,Rat.intCast_add]⟩
def qhl:∀ (n:Nat) {A:Mx},(∀ i j,∃ z:Int,A i j=(z:Rat))->∃ z:Int,det n A=(z:Rat)
 | 0,_,_=>⟨1,rfl⟩
 | n+1,A,h=>by
  rw [det];refine qnF (n+1) λi _=>?_;obtain ⟨a,ha⟩:=h i 0;obtain ⟨b,hb⟩:=qhl n (A:=mn A i) λr c=>by unfold mn; exact h _ _
  obtain ⟨s,hs⟩:∃ s:Int,sg1 i=(s:Rat):=by
   unfold sg1
   split
   .exact ⟨1,rfl⟩
   .exact ⟨-1,rfl⟩
  exact ⟨s*a*b,by rw [ha,hb,hs,Rat.intCast_mul,Rat.intCast_mul]⟩
end Go.Dt
namespace Go.Proofs.YtpbaikoblfcmdaaGreatDoor
open Go Go.E Go.Sp Go.Dt
def q8W {n:Nat} {M:Nat->Nat->Int}:(((dtE n λr c=>(M r c:Rat)).num:Int):Rat)=det n λr c=>(M r c:Rat):=by
 rw [qcj.1];obtain ⟨z,hz⟩:=qhl n (A:=λr c=>(M r c:Rat)) λi j=>⟨M i j,rfl⟩;rw [hz,Rat.num_intCast]
section
variable {x y:List Nat} {t:Nat}
end
section
variable {f:Nat->Nat->Option Nat} {x:List Nat} {R C:Nat}
end


end Go.Proofs.YtpbaikoblfcmdaaGreatDoor
namespace Go.E
open Go Go.RowKit
end Go.E
namespace Go.Proofs.YtpbaikoblfcmdaaGreatDoor
open Go Go.E Go.Sp
section
variable {pm cp ri:List Int} {vs l:List Nat}
end
end Go.Proofs.YtpbaikoblfcmdaaGreatDoor
namespace Go.Sp
open Go Go.E Go.Proofs.YtpbaikoblfcmdaaGreatDoor
section
open Classical
end
section
variable {n:Nat} {f:Nat->Nat->Option Nat} {F:List Int × List Int × List Int × List Nat} {x r p:List Nat} {rho:Int}
end
end Go.Sp
namespace Go.E
open Go Go.RowKit
end Go.E
namespace Go.Proofs.YtpbaikoblfcmdaaGreatDoor
open Go Go.E Go.Sp
section
variable {n:Nat} {f:Nat->Nat->Option Nat} {F:List Int × List Int × List Int × List Nat} {x r p:List Nat} {rho:Int}
def qxM {a0 a1 a2 a3 a4 a5 a6 a7 a8 a9 a10 a11 a12 a13 a14 a15 a16:PV}:ldU (some 17) (some 5) 0 (.ag [a0,a1,a2,a3,a4,a5,a6,a7,a8,a9,a10,a11,a12,a13,a14,a15,a16])=some (.ag [a0,a1,a2,a3,a4]):=by simp [ldU]
def qxN {a0 a1 a2 a3 a4 a5 a6 a7 a8 a9 a10 a11 a12 a13 a14 a15 a16:PV}:ldU (some 17) (some 4) 5 (.ag [a0,a1,a2,a3,a4,a5,a6,a7,a8,a9,a10,a11,a12,a13,a14,a15,a16])=some (.ag [a5,a6,a7,a8]):=by simp [ldU]
def qxL {a0 a1 a2 a3 a4 a5 a6 a7 a8 a9 a10 a11 a12 a13 a14 a15 a16:PV}:ldU (some 17) (some 4) 13 (.ag [a0,a1,a2,a3,a4,a5,a6,a7,a8,a9,a10,a11,a12,a13,a14,a15,a16])=some (.ag [a13,a14,a15,a16]):=by simp [ldU]
def qvX {a0 a1 a2 a3 a4 a5 a6 a7 a8 a9 a10 a11 a12 a13 a14 a15 a16 b0 b1 b2 b3:PV}:stU (some 17) (some 4) 13 (.ag [a0,a1,a2,a3,a4,a5,a6,a7,a8,a9,a10,a11,a12,a13,a14,a15,a16]) (.ag [b0,b1,b2,b3])=some (.ag [a0,a1,a2,a3,a4,a5,a6,a7,a8,a9,a10,a11,a12,b0,b1,b2,b3]):=by simp [stU]
attribute [go_sem] qxM qxN qxL qvX
end
section
variable {R C:Nat} {f:Nat->Nat->Option Nat} {F:List Int × List Int × List Int × List Nat} {b:List Nat} {steps:Int}
end
end Go.Proofs.YtpbaikoblfcmdaaGreatDoor
namespace Go.E
open Go Go.RowKit
def flS_5 {off:Nat} {a b c d e:PV} {cs:List PV}:flS (some (off,5)) (.ag [a,b,c,d,e]) cs=qaE cs off [a,b,c,d,e]:=by
 rw [q4k σ];simp [flS]
attribute [go_sem] flS_5
end Go.E
namespace Go.Proofs.YtpbaikoblfcmdaaGreatDoor
open Go Go.E Go.Sp
section
variable {R C:Nat} {f:Nat->Nat->Option Nat} {F:List Int × List Int × List Int × List Nat} {b:List Nat} {steps:Int}
end
section
variable {n k:Nat} {f:Nat->Nat->Option Nat} {F:List Int × List Int × List Int × List Nat} {x r p x' r' p' l:List Nat} {rho rho' e:Int}
end
section
variable {R C:Nat} {f:Nat->Nat->Option Nat} {F:List Int × List Int × List Int × List Nat} {b:List Nat} {steps:Int}
end
def qoQ {h:Hp}:clo h .un=some (.un,[]):=by
 unfold clo q20;exact if_pos trivial
section
variable {f:Nat->Nat->Option Nat} {n:Nat}
end

end Go.Proofs.YtpbaikoblfcmdaaGreatDoor
namespace Go.Sp
open Go Go.E Go.Proofs.YtpbaikoblfcmdaaGreatDoor
def qgG {z:Int} {K:Nat} (hK:K=65536) (h:z.natAbs<=9):ofZ (flz z)=z*(2:Int) ^ K:=by rw [hK]; exact q04 (qgz ω)
section
variable {c1 c2 c4 c8 K:Nat}
end
end Go.Sp
namespace Go.Dt
def fcN (m:Nat):Nat->Nat
 | 0=>1
 | n+1=>(n+1)*(m*fcN m n)
def qnG {c:Rat}:∀ n,sq (λ_=>c) n=(n:Rat)*c
 | 0=>by rw [sq]; exact (Rat.zero_mul c).symm
 | n+1=>by rw [sq,qnG n,show ((n+1:Nat):Rat)=(n:Rat)+1 by push_cast; rfl]; grind
def j04 (i:Nat):ab (sg1 i)=1:=by unfold sg1 ab; split <;> rfl
def qoM {m:Nat}:∀ (n:Nat) {A:Mx},(∀ i j,i < n->j < n->ab (A i j)<=(m:Rat))->ab (det n A)<=((fcN m n:Nat):Rat)
 | 0,_,_=>by rw [det]; exact Rat.le_refl
 | n+1,A,h=>by
  rw [det,fcN];refine Rat.le_trans (qvZ (n+1)) (Rat.le_trans (qvY (n+1) (h:=λ_=>(m:Rat)*((fcN m n:Nat):Rat)) λi hi=>?_) ?_)
  .rw [qdI,qdI,j04,Rat.one_mul];have h1:=h i 0 hi Oq;have h2:=qoM n (A:=mn A i) λr c hr hc=>by
    unfold mn;exact h _ _ (by split <;> omega) Oq
   exact Rat.le_trans (q7z h1 (j05 _)) (q6Q h2 (Rat.le_trans (j05 _) h1))
  .rw [qnG]
   push_cast
   exact Rat.le_refl
def qhk {c:Rat}:∀ (n:Nat) {A:Mx},det n (λi j=>c*A i j)=pr (λ_=>c) n*det n A
 | 0,_=>by rw [det,det,pr]; exact (Rat.mul_one 1).symm
 | n+1,A=>by
  rw [det,det,pr,<- qbs];refine q07 _ λi hi=>?_;have e:mn (λi j=>c*A i j) i=λr s=>c*mn A i r s:=rfl;rw [e,qhk n]
  grind
set_option exponentiation.threshold 600
end Go.Dt
namespace Go.Proofs.YtpbaikoblfcmdaaGreatDoor
open Go Go.E Go.Sp Go.Dt
def tUn:Nat:=65480
def qaY:tUn=65480:=rfl
def gok (b f:Nat):Prop:=f < 18446744073709551616/\q0I f/\∃ m:Int,ofZ f=m*(2:Int) ^ tUn/\m.natAbs < b
def gok.mono {a b f:Nat} (h:gok a f) (hab:a<=b):gok b f:=by
 obtain ⟨h1,h2,m,h3,h4⟩:=h;exact ⟨h1,h2,m,h3,ω⟩
def qrT {b:Nat} (hb:0 < b):gok b 0:=⟨ω,by simp [q0I],0,by rw [q04 q2c,zU],hb⟩
section
variable {F:Nat->Nat->Option Nat} {n K:Nat} {v:List Nat}
def qi6 (z:Int):ab (z:Rat)=((z.natAbs:Int):Rat):=by
 unfold ab
 split
 .rename_i q;have q2:z < 0:=by exact_mod_cast q
  rw [show (z.natAbs:Int) = -z by omega]; push_cast; rfl
 .rename_i q;have q2:¬ z < 0:=λw=>q (by exact_mod_cast w);rw [show (z.natAbs:Int)=z by omega]
end
section
variable {F:Nat->Nat->Option Nat} {n:Nat} {b z v:List Nat}
def vpL (F:Nat->Nat->Option Nat) (b z:List Nat) (i k:Nat):List Int:=ofZ (b.getD i 0) :: (List.range k).map λj => -(q1W ((F j i).getD 0) (z.getD j 0))
def quZ {i k:Nat}:vpL F b z i (k+1)=vpL F b z i k ++ [-(q1W ((F k i).getD 0) (z.getD k 0))]:=by unfold vpL; rw [zW,zC]; rfl
def qpR {i k:Nat}:(vpL F b z i k).length=k+1:=by unfold vpL; simp
def qeg {i:Nat}:∀ k,q1R (vpL F b z i k)=ofZ (b.getD i 0)-sg (λj=>q1W ((F j i).getD 0) (z.getD j 0)) k
 | 0=>by show q1R [ofZ (b.getD i 0)]=_; rw [q28,sg]; omega
 | k+1=>by rw [quZ,q0m,qeg k,sg]; omega
def vrL_s {i:Nat}:((List.range (i+1)).map (vrX F n b z))=(List.range i).map (vrX F n b z) ++ [vrX F n b z i]:=qwD
def qdS (h:TOk F n n) (hn:n<=20) (hl:v.length=n*n) (hv:q0b v) (hb:q0b b) (hbl:b.length=n) (hz:q0b z) (hzl:z.length=n):ACt 160 [pT n n F,pF b,pBx n v z] (.tu [.un,bv (vfO F n v b z).2,iv 0]):=by
 have hm2:n*n<=20*20:=zN hn hn;have hch:chP n n v=0:=by unfold chP; rw [if_neg (not_not_intro hl),if_pos λx hx=>(hv x hx).2]
 have C1:=qix (r:=n) (c:=n) (v:=v) h hn hn Oq Oq Oq λx hx=>(hv x hx).1;have hbt:btA n n F n n v=(btL n v F,0):=by
  unfold btA btC;rw [if_neg (not_not_intro rfl),if_neg (not_not_intro hch),if_neg (show ¬ (n≠n\/n≠n) by omega),if_neg (show ¬ (0:Int)≠0 by decide)]
 rw [hbt] at C1;dsimp only at C1;have C2:=qe8;have C3:=q8p (l:=btL n v F) (by unfold btL; rw [q6J]; omega);have hG:=qei h hv;have dG:q0Q (vfG F n v):=by unfold q0Q; omega
 have C4:ACt 127 [pV q2Y,pV (grZ (btL n v F))] (pV (vfG F n v)):=qho dG;have C5:=q4U (V:=vfG F n v);have D3:=q3M (l:=b) (λx hx=>(hb x hx).1) Oq;have D4:=q3M (l:=z) (λx hx=>(hz x hx).1) Oq;rw [decide_eq_true λx hx=>(hb x hx).2] at D3;rw [decide_eq_true λx hx=>(hz x hx).2] at D4;have q1:((b.length:Int) != (n:Int))=false:=by simp; omega
 have q2:((z.length:Int) != (n:Int))=false:=by simp; omega
 have hr:=λk (hk:k < n)=>q8x h hb hz (b:=b) (z:=z) hk;have hds:=λi=>q8y (v:=v) (r:=vrX F n b z) (i:=i) Oq hv hr;have cA:∀ {i j:Nat},i < n->j < n->_:=λ{i j} hi hj=>q5z (i:=i) (j:=j) h hi hj;have hfi:∀ {i j:Nat},i < n->j < n->_:=λ{i j} hi hj=>h.fin (j:=j) (i:=i) hj hi;have cV:=λi j hi hj=>q8o (i:=i) (j:=j) (show n<=64 by omega) (show n<=64 by omega) hl hv hi hj;have C9:=q8p (l:=vfD F n v b z) (by unfold vfD; rw [q6J]; omega);have hNs:=λi (hi:i < n)=>qm4 h hv hb hz (i:=i) hi;have hdD:=λi=>qu1 (F:=F) (n:=n) (b:=b) (z:=z) (v:=v) (i:=i);have hrs:=λi=>vrL_s (F:=F) (n:=n) (b:=b) (z:=z) (i:=i);have hLs:=λi=>qu0 (F:=F) (n:=n) (b:=b) (z:=z) (v:=v) (i:=i);have hLl:=λi=>qeh (F:=F) (n:=n) (b:=b) (z:=z) (v:=v) (i:=i);have hL0:vfL F n v b z 0=[]:=rfl;have hvn:=λi=>show vfN F n v b z i=prZ (vdX n v (vrX F n b z) i) (vfG F n v)+prZ (btZ n v F i) (grZ (vfD F n v b z)) from rfl;have hDe:vfD F n v b z=(List.range n).map (vdX n v (vrX F n b z)):=rfl;have hBg:=λi (hi:i < n)=>show ((btL n v F).map λV=>pV V)[i]?=some (pV (btZ n v F i)) by unfold btL; rw [zA,q4l hi]; rfl
 have hBl:((btL n v F).map λV=>pV V).length=n:=by unfold btL; simp
 have hDg:=λi (hi:i < n)=>show (((List.range n).map (vdX n v (vrX F n b z))).map λV=>pV V)[i]?=some (pV (vdX n v (vrX F n b z) i)) by rw [zA,q4l hi]; rfl
 have hRg:=λi (hi:i < n)=>show (((List.range n).map (vrX F n b z)).map λV=>pV V)[i]?=some (pV (vrX F n b z i)) by rw [zA,q4l hi]; rfl
 have hDl:(((List.range n).map (vdX n v (vrX F n b z))).map λV=>pV V).length=n:=σ
 have hRl:(((List.range n).map (vrX F n b z)).map λV=>pV V).length=n:=σ
 have hG0:vfG F n v=q2Y-grZ (btL n v F):=rfl;rw [hDe] at C9;have hvp:=λi k=>quZ (F:=F) (b:=b) (z:=z) (i:=i) (k:=k);have hvl:=λi k=>qpR (F:=F) (b:=b) (z:=z) (i:=i) (k:=k);have hv0:=λi=>show vpL F b z i 0=[ofZ (b.getD i 0)] from rfl;have hvs:=λi=>show q1R (vpL F b z i n)=vrX F n b z i from qeg n;have hT:=λi k (hk:k < n)=>(⟨(q8w (n:=n) hv (i:=i) (hr k hk)).1,(q8w (n:=n) hv (i:=i) (hr k hk)).2.1⟩:_/\_);have hrb:=λk (hk:k < n)=>(hr k hk).2;have hdb:=λi=>(hds i).2.2;clear hr hds hG;have hts:=λi=>qef (n:=n) (v:=v) (r:=vrX F n b z) (i:=i);have ht0:=λi=>show vtL n v (vrX F n b z) i 0=[] from rfl;have hss:=λi k=>quY (n:=n) (v:=v) (r:=vrX F n b z) (i:=i) (k:=k);have htl:=λi k=>qaU (n:=n) (v:=v) (r:=vrX F n b z) (i:=i) (k:=k);unfold vfO;unfold pPn at C1 cV;unfold pBx at *;unfold pT q2M at *;generalize (tM F n n).1=ms at *;generalize (tM F n n).2.1=mi at *;generalize (tM F n n).2.2=mv at *;have NG:=q1Y (V:=vfG F n v);have N1:=q1Y (V:=q2Y);have NB:=q1Y (V:=grZ (btL n v F))
 by_cases h1:q2Y<=grZ (btL n v F)
 .rw [if_pos h1];have q:(vfG F n v).sign<=0:=by
   rw [hG0]
   rcases Int.lt_or_eq_of_le h1 with h1 | h1
   .rw [zZ ω]; omega
   .rw [show q2Y-grZ (btL n v F)=0 by omega]; decide
  generalize (vfG F n v).sign=s at *;generalize vfG F n v=G at *;generalize btL n v F=B at *;refine ac0 Tryz.func160 Tryz.ntmps160 [.tmp 6,.tmp 7,.tmp 8] ?_;exact wk1 (x2 q1 q2) trivial
 rw [if_neg h1];dsimp only;have hGp:0 < vfG F n v:=ω
 rw [zX hGp] at C5;have CQ:=λN=>qad (A:=N) (B:=vfG F n v) (mode:=2) Oq;generalize vfG F n v=G at *;rw [hDe] at hNs hvn;generalize grZ ((List.range n).map (vdX n v (vrX F n b z)))=M at *;have NM:=q1Y (V:=M);refine ac0 Tryz.func160 Tryz.ntmps160 [.tmp 6,.tmp 7,.tmp 8] ?_;refine wk1 (x2 q1 q2) ?_;refine q0A (λi=>i<=n) [1,3,5,9,11,12,14] [3,5,12] Lk Lk (λi:Nat=>[(15,iv i),(13,.ow 1001 (some 4) 0 i)]) (λi=>[(1001,⟨48,some 4,((List.range i).map (vrX F n b z)).map λV=>pV V,false⟩)]) (λi=>n-i) 0 (zI _) ?_ ?_
 .refine LeM [(1001,none)] rfl rfl ?_;refine Zz ?_
  repeat' (first | rfl | exact q0C rfl clV | apply And.intro)
 .intro i hi;have li:(((List.range i).map (vrX F n b z)).map λV=>pV V).length=i:=σ
  by_cases hlt:i < n
  .have q:(i:Int) < n:=ω
   have p0:=hv0 i;have ps:=hvp i;have pl:=hvl i;have psum:=hvs i;have es:=hrs i;have hri:=hrb i hlt;have cAi:=λj hj=>cA (i:=i) (j:=j) hlt hj;have hfii:=λj hj=>hfi (i:=i) (j:=j) hlt hj;obtain ⟨y,hy⟩:∃ y,b[i]?=some y:=⟨_,zB Oq⟩;obtain ⟨u1,u2⟩:=hb y (zH hy);rw [getD_some hy] at p0;have c1:=q0s u1 (q0S u2);have N2:=q1Y (V:=ofZ y);generalize vpL F b z i=T at *;generalize vrX F n b z i=r at *;refine wk1 (x2 q hy) ?_;refine q0A (λk=>k<=n) [1,3,5,9,11,12,13,14,15] [3,5,12,1001] Lk Lk (λk:Nat=>[(17,iv k),(16,.ow 1002 (some 4) 0 (k+1))]) (λk=>[(1002,⟨48,some 4,(T k).map λV=>pV V,false⟩)]) (λk=>n-k) 0 (zI _) ?_ ?_
   .rw [p0];refine LeM [(1002,some 74)] rfl rfl ?_;refine Zz ?_
    repeat' (first | rfl | exact q0C rfl clV | apply And.intro)
   .intro k hk;have lk:=pl k
    by_cases hlt2:k < n
    .have l2:(k:Int) < n:=ω
     have c2:=cAi k hlt2;obtain ⟨x1,xu⟩:=hfii k hlt2;have e2:=ps k;obtain ⟨w,hw⟩:∃ w,z[k]?=some w:=⟨_,zB Oq⟩;obtain ⟨w1,w2⟩:=hz w (zH hw);rw [getD_some hw] at e2;generalize (F k i).getD 0=x at *;have MM:=q0n x1 w2;have c3:=q1r xu w1 (q0S x1) (q0S w2) MM.1;have c4:=q5B (V:=q1W x w);have N3:=q1Y (V := -(q1W x w));have N4:=q1Y (V:=q1W x w);refine wk1 (x3 l2 lk hw) ?_;refine ⟨k+1,ω,ω,?_⟩;rw [e2];refine LeM [(1002,some 93)] rfl rfl ?_;refine Zz ?_
     repeat' (first | omega | rfl | exact q0C rfl clV | exact q0C (by rw [zC]; rfl) clV | exact q0C (by rw [zC]; rfl) q32 | apply And.intro)
    .obtain rfl:k=n:=ω
     have l2:¬ (k:Int) < k:=ω
     have c5:=q3q (l:=T k) ω (by rw [psum]; unfold q0Q; omega);rw [psum] at c5;have N5:=q1Y (V:=r);refine wk1 (x3 l2 lk li) ?_;refine ⟨i+1,ω,ω,?_⟩;rw [es];refine LeM [(1001,some 98)] rfl rfl ?_;refine Zz ?_
     repeat' (first | omega | rfl | exact q0C rfl clV | exact q0C (by rw [zC]; rfl) clV | exact q0C (by rw [zC]; rfl) q32 | apply And.intro)
  .obtain rfl:i=n:=ω
   have q:¬ (i:Int) < i:=ω
   clear cA hfi;refine wk1 q ?_;refine q0A (λj=>j<=i) [3,5,9,11,12,13] [3,5,12,1001] Lk Lk (λj:Nat=>[(18,iv j),(14,.ow 1003 (some 4) 0 j)]) (λj=>[(1003,⟨48,some 4,((List.range j).map (vdX i v (vrX F i b z))).map λV=>pV V,false⟩)]) (λj=>i-j) 0 (zI _) ?_ ?_
   .refine LeM [(1003,none)] rfl rfl ?_;refine Zz ?_
    repeat' (first | rfl | exact q0C rfl clV | apply And.intro)
   .intro j hj;have lj:(((List.range j).map (vdX i v (vrX F i b z))).map λV=>pV V).length=j:=σ
    by_cases hlt:j < i
    .have q:(j:Int) < i:=ω
     have p0:=ht0 j;have ps:=hss j;have pl:=htl j;have psum:=hts j;have es:=hdD j;have hdj:=hdb j;have cVj:=λk hk=>cV j k hlt hk;have hTj:=λk hk=>hT j k hk;have hde:=show vdX i v (vrX F i b z) j=((vsX i v (vrX F i b z) j).natAbs:Int) from rfl;generalize vtL i v (vrX F i b z) j=T at *;generalize vsX i v (vrX F i b z) j=S at *;generalize vdX i v (vrX F i b z) j=d at *;refine wk1 q ?_;refine q0A (λk=>k<=i) [3,5,9,11,12,13,14,18] [3,5,12,1001,1003] Lk Lk (λk:Nat=>[(20,iv k),(19,.ow 1004 (some 4) 0 k)]) (λk=>[(1004,⟨48,some 4,(T k).map λV=>pV V,false⟩)]) (λk=>i-k) 0 (zI _) ?_ ?_
     .rw [p0];refine LeM [(1004,none)] rfl rfl ?_;refine Zz ?_
      repeat' (first | rfl | exact q0C rfl clV | apply And.intro)
     .intro k hk;have lk:=pl k
      by_cases hlt2:k < i
      .have l2:(k:Int) < i:=ω
       have c2:=cVj k hlt2;have e2:=ps k;have MM:=hTj k hlt2;have gk:=hRg k hlt2;generalize ofZ (v.getD (k*i+j) 0)=y at *;generalize vrX F i b z k=r at *;have c3:=q2x MM.1;have N3:=q1Y (V:=y);have N4:=q1Y (V:=r);have N5:=q1Y (V:=prZ y r);refine wk1 (x4 l2 lk gk hRl) ?_;refine ⟨k+1,ω,ω,?_⟩;rw [e2];refine LeM [(1004,some 121)] rfl rfl ?_;refine Zz ?_
       repeat' (first | omega | rfl | exact q0C rfl clV | exact q0C (by rw [zC]; rfl) clV | exact q0C (by rw [zC]; rfl) q32 | apply And.intro)
      .obtain rfl:k=i:=ω
       have l2:¬ (k:Int) < k:=ω
       have c5:=q3q (l:=T k) ω (by rw [psum]; unfold q0Q; omega);rw [psum] at c5;have c6:=q67 (V:=S);rw [<- hde] at c6;have N5:=q1Y (V:=S);have N6:=q1Y (V:=d);refine wk1 (x3 l2 lk lj) ?_;refine ⟨j+1,ω,ω,?_⟩;rw [es];refine LeM [(1003,some 127)] rfl rfl ?_;refine Zz ?_
       repeat' (first | omega | rfl | exact q0C rfl clV | exact q0C (by rw [zC]; rfl) clV | exact q0C (by rw [zC]; rfl) q32 | apply And.intro)
    .obtain rfl:j=i:=ω
     have q:¬ (j:Int) < j:=ω
     clear cV hT;have tk:List.take j (((List.range j).map (vdX j v (vrX F j b z))).map λV=>pV V)=((List.range j).map (vdX j v (vrX F j b z))).map λV=>pV V:=zP σ;refine wk1 q ?_;refine q0A (λi=>i<=j) [5,9,11,12,14] [5,12,1003] Lk Lk (λi:Nat=>[(22,iv i),(21,.ow 1005 (some 2) 0 i)]) (λi=>[(1005,⟨58,some 2,(vfL F j v b z i).map λp=>.ag [uv p.1,uv p.2],false⟩)]) (λi=>j-i) 0 (zI _) ?_ ?_
     .rw [hL0];refine LeM [(1005,none)] rfl rfl ?_;refine Zz ?_
      repeat' (first | rfl | exact q0C rfl clV | apply And.intro)
     .intro i hi;have li:=hLl i
      by_cases hlt:i < j
      .have q:(i:Int) < j:=ω
       have gd:=hDg i hlt;have gb:=hBg i hlt;have es:=hLs i;obtain ⟨m1,m2,m3,m4⟩:=hNs i hlt;have nn:=hvn i;obtain ⟨w,hw⟩:∃ w,z[i]?=some w:=⟨_,zB Oq⟩;obtain ⟨w1,w2⟩:=hz w (zH hw);rw [getD_some hw] at es;generalize vdX j v (vrX F j b z) i=d at *;generalize btZ j v F i=u at *;generalize vfN F j v b z i=N at *;have c1:=q2x m1;have c2:=q2x m2;have dN:q0Q N:=by unfold q0Q; omega
       have c3:=q5C (A:=prZ d G) (B:=prZ u M) (by rw [<- nn]; exact dN);rw [<- nn] at c3;have c4:=CQ N;have r1:=qhX (mode:=2) (a:=N) (b:=G) Oq;have r2:=qoA (mode:=2) (a:=N) (b:=G) Oq;unfold vIv at es;generalize fQ 2 N G=R at *;have c5:=qac (mode:=1) (.inr (.inl rfl)) ⟨w1,w2⟩ r1 r2;have c6:=q7t (mode:=2) (.inr (.inr rfl)) ⟨w1,w2⟩ r1 r2;generalize qa2 1 w R=a1 at *;generalize q6f 2 w R=a2 at *;have N2:=q1Y (V:=d);have N3:=q1Y (V:=u);have N4:=q1Y (V:=N);have N5:=q1Y (V:=prZ d G);have N6:=q1Y (V:=prZ u M);refine wk1 (x6 q gd gb hw hDl (x3 hBl li tk)) ?_;refine ⟨i+1,ω,ω,?_⟩;rw [es];refine LeM [(1005,some 167)] rfl rfl ?_;refine Zz ?_
       repeat' (first | omega | rfl | exact q0C rfl clV | exact q0C (by rw [zC]; rfl) clV | exact q0C (by rw [zC]; rfl) q32 | apply And.intro)
      .obtain rfl:i=j:=ω
       have q:¬ (i:Int) < i:=ω
       have hcl:(∀ a:Nat × Nat,a ∈ vfL F i v b z i->Cld (PV.ag [uv a.1,uv a.2]))=True:=eq_true λa _=>by
        intro y hy;simp at hy
        rcases hy with rfl | rfl <;> trivial
       exact wk1 (x3 q li hcl) trivial
end
section
variable {K:KwT}
def qdU {x:Nat} (hu:x < 18446744073709551616/\q0I x):ACt 55 [uv x] (dT (ofZ x)):=qy8 (q0s hu.1 (q0S hu.2))
end
section
variable {K:KwT}
end
section
variable {C:Nat} {F:Nat->Nat->Option Nat} {f:LUt} {b:List Nat}
def qeX (l:List Nat):Prop:=(∀ v ∈ l,v < 9223372036854775808/\q0I v)/\∀ (k u v:Nat),l[k]?=some u->l[k+1]?=some v->2*ofZ v<=ofZ u
def qeX.snoc {l:List Nat} {a v:Nat} (h:qeX (l ++ [a])) (hv:v < 9223372036854775808/\q0I v) (h2:2*ofZ v<=ofZ a):qeX (l ++ [a] ++ [v]):=by
 refine ⟨λx hx=>?_,λk u w hu hw=>?_⟩
 .rcases List.mem_append.1 hx with hx | hx
  .exact h.1 x hx
  .simp at hx; subst hx; exact hv
 .by_cases hk:k+1 < (l ++ [a]).length
  .rw [yC ω] at hu;rw [yC hk] at hw;exact h.2 k u w hu hw
  .have hk2:=(List.getElem?_eq_some_iff.1 hw).1;simp at hk hk2;obtain rfl:k=l.length:=ω
   rw [yC σ,yM (zE _),Nat.sub_self] at hu;rw [yM σ,show l.length+1-(l ++ [a]).length=0 by simp] at hw;cases hu; cases hw; exact h2
def RefG (C:Nat) (F:Nat->Nat->Option Nat) (b:List Nat) (q:List (Nat × Nat) × List Nat × Int):Prop:=q.2.2=0->q.1.length=C/\(∀ p ∈ q.1,(p.1 < 18446744073709551616/\q0I p.1)/\p.2=0)/\q0b (rdL F q.1 b C C)/\qeX q.2.1/\∃ l,q.2.1=l ++ [q1q (rdL F q.1 b C C) C]
def chL_0 {x:List (Nat × Nat)} {d:List Nat} {n:Nat}:∀ p ∈ chL false x d n,p.2=0:=λp hp=>by
 obtain ⟨j,_,rfl⟩:=zL.1 hp
 rfl
def qwG:∀ (k:Nat) (x:List (Nat × Nat)) (r l:List Nat),r=rdL F x b C C->x.length=C->(∀ p ∈ x,(p.1 < 18446744073709551616/\q0I p.1)/\p.2=0)->q0b r->qeX (l ++ [q1q r C])->RefG C F b (rfL C F f b false k x r (l ++ [q1q r C]))
 | 0,x,r,l,hr,h1,h2,h3,h4=>λ_=>⟨h1,h2,hr ▸ h3,h4,l,by rw [hr]; rfl⟩
 | k+1,x,r,l,hr,h1,h2,h3,h4=>by
  rw [rfL]
  by_cases c1:q1q r C=0
  .rw [if_pos c1]; exact λ_=>⟨h1,h2,hr ▸ h3,h4,l,by rw [hr]⟩
  rw [if_neg c1]
  by_cases c2:(lgE f r).2≠0
  .rw [if_pos c2]; exact λh=>(c2 h).elim
  rw [if_neg c2]
  by_cases c3:¬ ∀ p ∈ chL false x (lgE f r).1 C,q0I p.1
  .rw [if_pos c3]; exact λh=>by cases h
  rw [if_neg c3]
  by_cases c4:¬ ∀ v ∈ rdL F (chL false x (lgE f r).1 C) b C C,q0I v
  .rw [if_pos c4]; exact λh=>by cases h
  rw [if_neg c4]
  by_cases c5:ofZ (q1q r C) < 2*ofZ (q1q (rdL F (chL false x (lgE f r).1 C) b C C) C)
  .rw [if_pos c5]; exact λ_=>⟨h1,h2,hr ▸ h3,h4,l,by rw [hr]⟩
  rw [if_neg c5];have hfin:q0b (rdL F (chL false x (lgE f r).1 C) b C C):=λv hv=>⟨qqQ v hv,Classical.not_not.1 c4 v hv⟩;have hsz:=qbt hfin;rw [qab] at hsz;refine qwG k _ _ (l ++ [q1q r C]) rfl qbO (λp hp=>⟨⟨(qiD (Classical.not_not.1 c3) p hp).1.1,Classical.not_not.1 c3 p hp⟩,chL_0 p hp⟩) hfin (h4.snoc hsz Oq)
def rfS_G {R:Nat} {steps:Int} (hb:LUb f) (hu:∀ v ∈ b,v < 18446744073709551616):RefG C F b (rfS C F f b false R steps):=by
 unfold rfS
 by_cases c1:rfR R C f steps≠0
 .rw [if_pos c1]; exact λh=>(c1 h).elim
 rw [if_neg c1];obtain ⟨_,_,hC,_,_⟩:=qjk (Classical.not_not.1 c1)
 by_cases c2:(lgE f b).2≠0
 .rw [if_pos c2]; exact λh=>(c2 h).elim
 rw [if_neg c2];obtain ⟨_,_,_,e1,e2⟩:=q7O hb hu (Classical.not_not.1 c2)
 by_cases c3:¬ ∀ v ∈ rdL F ((lgE f b).1.map λv=>(v,0)) b C C,q0I v
 .rw [if_pos c3]; exact λh=>by cases h
 rw [if_neg c3];have hfin:q0b (rdL F ((lgE f b).1.map λv=>(v,0)) b C C):=λv hv=>⟨qqQ v hv,Classical.not_not.1 c3 v hv⟩;have hsz:=qbt hfin;rw [qab] at hsz;have hH:qeX ([] ++ [q1q (rdL F ((lgE f b).1.map λv=>(v,0)) b C C) C]):=⟨λx hx=>by simp at hx; subst hx; exact hsz,λk u v hu hv=>by simp at hv⟩;exact qwG _ _ _ [] rfl (by rw [zJ]; omega) (λp hp=>by
  obtain ⟨v,hv,rfl⟩:=zL.1 hp;exact ⟨e2 v hv,rfl⟩) hfin hH
end
abbrev pBo (m:Nat) (v z:List Nat):PV:=.ag [iv m,iv m,.ow 5000 none 0 v.length,pF z]
section
variable {F:Nat->Nat->Option Nat} {n m:Nat} {b z v:List Nat}
def BxOk (F:Nat->Nat->Option Nat) (n m:Nat) (v z:List Nat):Prop:=(m=n/\v.length=n*n/\q0b v/\z.length=n/\q0b z/\¬ q2Y<=grZ (btL n v F))\/(m=0/\v=[]/\z=[])
def LeBn {J:Nat->Prop} {h:Hp} (hJ:∀ i,¬ J i) {k:Int}:Le J (λ_=>.tu [q05,.ag [iv 0,iv 0,q05,q05],iv k]) h (λ_=>.tu [.un,pBo 0 [] [],.un]) (q0R h0 5000 ⟨33,none,([]:List Nat).map λz:Nat=>uv z,false⟩) :=
 b5n hJ λ_=>.tu rfl λi x y hx hy=>by
  rcases i with _ | _ | _ | i
  .cases hx; cases hy; exact .un
  .cases hx; cases hy;exact .ag rfl λi x y hx hy=>by
    rcases i with _ | _ | _ | _ | i
    .cases hx; cases hy; exact .cl trivial
    .cases hx; cases hy; exact .cl trivial
    .cases hx; cases hy; exact .nilow rfl q0L rfl
    .cases hx; cases hy; exact .nilsl
    .simp at hx
  .cases hx; cases hy; exact .un
  .simp at hx
def quP (h:TOk F n n) (hn:n<=20) (hb:q0b b) (hbl:b.length=n):∃ m v z,BxOk F n m v z/\qdQ 59 [pT n n F,pF b] h0 (.tu [.un,pBo m v z,.un]) (q0R h0 5000 ⟨33,none,v.map λz:Nat=>uv z,false⟩):=by
 have hJ:∀ i,¬ (h0 i≠none):=λi h=>h rfl;have hJe:(λi=>(h0:Hp) i≠none)=λ_=>False:=funext λi=>eq_false (hJ i);have C1:=qa1 h;have D3:=q3M (l:=b) (λx hx=>(hb x hx).1) Oq;rw [decide_eq_true λx hx=>(hb x hx).2] at D3;have cL:=qkK (num:=1) (den:=1) h Oq (cols:=q9A n) (qem n) Oq Oq Oq;have hLL:LUb (qnz F (tM F n n).2.1 n (q9A n) 1 1)/\(qnz F (tM F n n).2.1 n (q9A n) 1 1).rows.length<=n:=qxj ω (by rw [q74]; omega);unfold facP at cL;obtain ⟨e0,he0⟩:∃ e0,e0=(q3Z F (tM F n n).2.1 n (q9A n) 1 1 n).1:=⟨_,rfl⟩;rw [<- he0] at cL;clear he0;obtain ⟨k0,hk0⟩:∃ k0:Nat,k0=(if e0=0 then n else (q3Z F (tM F n n).2.1 n (q9A n) 1 1 n).2.1:Nat):=⟨_,rfl⟩;rw [<- hk0] at cL;clear hk0;generalize qnz F (tM F n n).2.1 n (q9A n) 1 1=f at *;obtain ⟨hLb,hLr⟩:=hLL;have cV:=qiu hLb Oq;have hI:=qxU (g:=f) hLb;have cR:=qdT (steps:=2) h hLb Oq (λx hx=>(hb x hx).1) Oq Oq Oq;have hG:=rfS_G (C:=n) (F:=F) (f:=f) (b:=b) (R:=n) (steps:=2) hLb λx hx=>(hb x hx).1;unfold rfH at cR;obtain ⟨x,hx⟩:∃ x,x=(rfS n F f b false n 2).1.map (·.1):=⟨_,rfl⟩;have hxo:(rfS n F f b false n 2).2.2=0->x.length=n/\q0b x:=λq=>by
  obtain ⟨g1,g2,_⟩:=hG q;refine ⟨by rw [hx,zJ]; exact g1,λy hy=>?_⟩;rw [hx] at hy;obtain ⟨p,hp,rfl⟩:=zL.1 hy;exact (g2 p hp).1
 rw [<- hx] at cR;have hnr:(rfS n F f b false n 2).2.2=0->n=f.rows.length:=λq=>by
  unfold rfS at q
  by_cases c1:rfR n n f 2≠0
  .rw [if_pos c1] at q; exact (c1 q).elim
  .exact (qjk (Classical.not_not.1 c1)).2.1
 clear hx hG;generalize (rfS n F f b false n 2).2.1=sz at *;generalize (rfS n F f b false n 2).2.2=e3 at *;have hI1:=hI.1;have hI2:=hI.2.1;clear hI;generalize (ivA f).1=M at *;generalize (ivA f).2.1=W at *;generalize (ivA f).2.2=e2 at *;have hres:∃ m v z,BxOk F n m v z/\((e0=0/\e2=0/\e3=0/\(vfO F n W b x).2=true)->m=n/\v=W/\z=x)/\(¬ (e0=0/\e2=0/\e3=0/\(vfO F n W b x).2=true)->m=0/\v=[]/\z=[]):=by
  by_cases c:e0=0/\e2=0/\e3=0/\(vfO F n W b x).2=true
  .obtain ⟨c0,c2,c3,c4⟩:=c;obtain ⟨x1,x2⟩:=hxo c3;obtain ⟨w1,w2⟩:=hI1 c2;refine ⟨n,W,x,.inl ⟨rfl,by rw [w2,<- hnr c3],hI2,x1,x2,λq=>?_⟩,λ_=>⟨rfl,rfl,rfl⟩,λq=>(q ⟨c0,c2,c3,c4⟩).elim⟩;unfold vfO at c4;rw [if_pos q] at c4;cases c4
  .exact ⟨0,[],[],.inr ⟨rfl,rfl,rfl⟩,λq=>(c q).elim,λ_=>⟨rfl,rfl,rfl⟩⟩
 obtain ⟨m,v,z,hok,hp,hq⟩:=hres;refine ⟨m,v,z,hok,?_⟩;have cW:e2=0->e3=0->M=n/\ACt 160 [pT n n F,pF b,pBx n W x] (.tu [.un,bv (vfO F n W b x).2,iv 0]):=λc2 c3=>by
  obtain ⟨x1,x2⟩:=hxo c3;obtain ⟨w1,w2⟩:=hI1 c2;have hn3:=hnr c3;exact ⟨ω,qdS h hn (by rw [w2,<- hn3]) hI2 hb hbl x2 x1⟩
 clear hok hI1 hxo hnr;have q1:((b.length:Int) != (n:Int))=false:=by simp; omega
 have q0:((n:Int) != (n:Int))=false:=σ
 generalize (vfO F n W b x).2=ok at *;have NB:Nz (.tu [.un,bv ok,iv 0]):=nz_tu λx hx=>by
  simp at hx
  rcases hx with rfl | rfl | rfl
  .exact λw D B v hB h=>by unfold Rd; trivial
  .exact qcM
  .exact qcM
 unfold pLU at cL cV cR;unfold pBx at cW;unfold pT q2M at *;generalize (tM F n n).1=ms at *;generalize (tM F n n).2.1=mi at *;generalize (tM F n n).2.2=mv at *;refine qeU qzL Tryz.func59 rfl Tryz.ntmps59 κ ?_ ?_ ?_ ?_
 .intro i b hb; cases hb
 .intro i b hb
  by_cases hi:i=5000
  .subst hi; exact ⟨ω,ω⟩
  .rw [q0B hi] at hb; cases hb
 .exact IdL.of λx hx=>by
   simp at hx
   rcases hx with rfl | rfl
   .unfold IdP;exact IdL.of λx hx=>by
     simp at hx
     rcases hx with rfl | rfl | rfl | rfl | rfl <;> unfold IdP <;> trivial
   .unfold IdP; trivial
 have hW:WfH h0:=⟨λi b hb=>by cases hb⟩;rw [hJe];refine wk1 (x2 q0 q1) ?_;refine q0P (λi=>i<=n) [1,2,4,5,6,8] [2,5] Lk Lk (λi:Nat=>[(10,iv i),(9,.ow 1001 none 0 i)]) (λi=>[(1001,⟨3,none,(q9A i).map λz=>iv z,false⟩)]) (λ_=>h0) (λi=>n-i) 0 (zI _) ?_ ?_
 .refine LeW [(1001,none)] rfl rfl ?_ ?_ (by simp [q0i,q0c,win]) ?_
  .exact Ow
  .exact hW
  .try refine Zz ?_
   first | done | rfl | exact ⟨rfl,rfl⟩
 .intro i hi;have l1:=q74 i;have l2:=qel i
  by_cases hlt:i < n
  .have q:(i:Int) < n:=ω
   refine wk1 (x2 q l1) ?_;refine ⟨i+1,ω,ω,?_⟩;rw [l2];refine LeW [(1001,some 58)] rfl rfl ?_ ?_ (by simp [q0i,q0c,win]) ?_
   .exact Ow
   .exact hW
   .try refine Zz ?_
    omega
  .obtain rfl:i=n:=ω
   have q:¬ (i:Int) < i:=ω
   refine wk1 q ?_;refine q0r (LeW [] rfl rfl (hw:=h0) (xs:=[(1,pF b),(2,.pt 2 0 0),(4,q05),(5,.pt 5 0 0),(6,iv 0),(8,iv i),(9,pI (q9A i))]) (kv:=[]) (bs:=[(2,⟨27,some 5,[.ag [iv i,iv i,pI ms,pI mi,pF mv]],false⟩),(5,⟨37,some 4,[.ag [iv 0,iv 0,q05,q05]],false⟩)]) (kb:=[]) ?_ hW (by simp [q0i,q0c,win]) ?_) ?_
   .exact Ow
   .try refine Zz ?_
    refine qoo (T:=3) (l:=(q9A i).map λz=>iv z) ?_ clI ?_ (by rw [zJ,l1])
    .try simp -implicitDefEqProofs (disch:=omega) only [go_sem,Nat.reduceEqDiff,Nat.reduceAdd,↓reduceIte]
    .try simp -implicitDefEqProofs (disch:=omega) only [go_sem,Nat.reduceEqDiff,Nat.reduceAdd,↓reduceIte]
   by_cases g0:e0=0
   rotate_left
   .have q2:(e0 != 0)=true:=by simpa using g0
    obtain ⟨rfl,rfl,rfl⟩:=hq λq=>g0 q.1;clear cV cW cR;refine wk1 q2 ?_;refine (rtM (rs:=[.tmp 4,.cell 5 37,.tmp 6]) rfl rfl Lq ?_ (.inl rfl));exact LeBn hJ
   subst g0;refine wk ?_;refine qox λK hK=>?_;refine Zz ?_;refine jmF cV ?_ ?_
   .exact Ow
   try refine Zz ?_
   refine hK _ _ ?_; clear hK K
   by_cases g2:e2=0
   rotate_left
   .have q2:(e2 != 0)=true:=by simpa using g2
    obtain ⟨rfl,rfl,rfl⟩:=hq λq=>g2 q.2.1;clear cW cR;refine wk1 q2 ?_;refine (rtM (rs:=[.tmp 4,.cell 5 37,.tmp 6]) rfl rfl Lq ?_ (.inl rfl));exact LeBn hJ
   subst g2
   by_cases g3:e3=0
   rotate_left
   .have q2:(e3 != 0)=true:=by simpa using g3
    obtain ⟨rfl,rfl,rfl⟩:=hq λq=>g3 q.2.2.1;clear cW;refine wk1 q2 ?_;refine (rtM (rs:=[.tmp 4,.cell 5 37,.tmp 6]) rfl rfl Lq ?_ (.inl rfl));exact LeBn hJ
   subst g3;obtain ⟨rfl,cW⟩:=cW rfl rfl;have tk:List.take W.length (W.map λz:Nat=>uv z)=W.map λz:Nat=>uv z:=zP σ;cases ok
   .obtain ⟨rfl,rfl,rfl⟩:=hq λq=>by cases q.2.2.2
    refine wk1 tk ?_;refine (rtM (rs:=[.tmp 4,.cell 5 37,.tmp 6]) rfl rfl Lq ?_ (.inl rfl));exact LeBn hJ
   .obtain ⟨rfl,rfl,rfl⟩:=hp ⟨rfl,rfl,rfl,rfl⟩;refine wk1 tk ?_;refine (rtM (rs:=[.tmp 4,.cell 5 37,.tmp 6]) rfl rfl Lq ?_ (.inl rfl));refine b5 (a:=5000) hJ ?_ clU λ_=>.tu rfl λi x y hx hy=>?_
    .try simp -implicitDefEqProofs (disch:=omega) only [go_sem,Nat.reduceEqDiff,Nat.reduceAdd,↓reduceIte]
    .rcases i with _ | _ | _ | i
     .cases hx; cases hy; exact .un
     .cases hx; cases hy;exact .ag rfl λi x y hx hy=>by
       rcases i with _ | _ | _ | _ | i
       .cases hx; cases hy; exact .cl trivial
       .cases hx; cases hy; exact .cl trivial
       .cases hx; cases hy; exact .ow (if_pos rfl) q0L
       .cases hx; cases hy; exact .cl trivial
       .simp at hx
     .cases hx; cases hy; exact .un
     .simp at hx
end
def sqX (raw:List Nat) (s k x:Nat):Nat:=(x+s*(q4d raw (k:Int) % 1000)) % 18446744073709551616
def sqL (raw:List Nat) (s:Nat) (p:List Nat) (i:Nat):List Nat:=(List.range p.length).map λk=>if k < i then sqX raw s k (p.getD k 0) else p.getD k 0
section
variable {raw p:List Nat} {s i N:Nat} {st sp n:Int} {rg wild:Bool}
def q7f:(sqL raw s p i).length=p.length:=by unfold sqL; simp
def sqL_0:sqL raw s p 0=p:=by
 unfold sqL;refine z7 λk=>?_;rw [zA]
 by_cases h:k < p.length
 .rw [zD h,zO,if_neg ω,zG,zB h]; rfl
 .rw [zQ (by simpa using h),zQ ω]; rfl
def qpm (h:i < p.length):(sqL raw s p i)[i]?=some (p.getD i 0):=by
 unfold sqL;rw [zA,zD h,zO,if_neg ω]
def sqL_s (h:i < p.length):(sqL raw s p i).set i (sqX raw s i (p.getD i 0))=sqL raw s p (i+1):=by
 refine z7 λk=>?_;rw [z8,q7f];unfold sqL;rw [zA,zA]
 by_cases hk:k < p.length
 .rw [zD hk,zO,zO]
  by_cases e:i=k
  .subst e; rw [if_pos rfl,if_pos hk,if_pos ω]
  .rw [if_neg e]
   by_cases h2:k < i
   .rw [if_pos h2,if_pos ω]
   .rw [if_neg h2,if_neg ω]
 .rw [zQ (by simpa using hk),if_neg ω]; rfl
def qgA (hr:raw.length<=9223372036854775807) (h1 : -9223372036854775808<=n) (h2:n<=9223372036854775807) (h3 : -9223372036854775808<=st) (h4:st<=9223372036854775807) :
  ACt 14 [pF raw,iv n,iv st,bv rg] (.tu [pT (q0Y n 5) (q0Y n 5) (ckT raw (q0Y n 5) st rg),pF (q4g raw 30 (q0Y st 4) (q0Y n 5))]):=by
 have cM:=q5M (a:=n) (n:=5) h1 h2 Oq Oq;have hN:q0Y n 5 < 5:=by unfold q0Y; omega
 generalize q0Y n 5=N at *;have cG:=q6Y (raw:=raw) (st:=st) (R:=N) (C:=N) hr Oq Oq h3 h4;have cR:=qde (raw:=raw) (st:=st) (n:=N) hr Oq h3 h4;have cV:=qek (raw:=raw) (k:=30) (st:=st) (n:=N) hr Oq Oq Oq h3 h4;have e1:rg=false->ckT raw N st rg=gF raw N (q0Y st 4):=λq=>by subst q; rfl
 have e2:rg=true->ckT raw N st rg=rgF (gF raw N (q0Y (q0Y st 3:Nat) 4)) N:=λq=>by subst q; rfl
 generalize q4g raw 30 (q0Y st 4) N=y at *;cases rg
 .rw [e1 rfl];clear e1 e2 cR;generalize gF raw N (q0Y st 4)=F at *;unfold pT q2M at *;refine ac0 Tryz.func14 Tryz.ntmps14 [.cell 8 27,.tmp 9] ?_;exact wk trivial
 .rw [e2 rfl];clear e1 e2 cG;generalize rgF (gF raw N (q0Y (q0Y st 3:Nat) 4)) N=F at *;unfold pT q2M at *;refine ac0 Tryz.func14 Tryz.ntmps14 [.cell 8 27,.tmp 9] ?_;exact wk trivial
def PfOk (raw:List Nat) (F:Nat->Nat->Option Nat) (n s:Nat) (w y:List Nat):Prop:=y.length=n/\q0b y/\∃ v,w=sqL raw s v v.length/\v.length=n*n/\((q0b v/\¬ q2Y<=grZ (btL n v F))\/v=q4g raw 500 (q0Y 2 4) (n*n)\/n=0)
def qq0 {F:Nat->Nat->Option Nat} {n:Nat} {b:List Nat} (hr:raw.length<=9223372036854775807) (h5 : -9223372036854775808<=sp) (h6:sp<=9223372036854775807) (h:TOk F n n) (hn:n<=4) (hb:q0b b) (hbl:b.length=n) :
  ∃ w y,PfOk raw F n (q0Y sp 4) w y/\qdQ 15 [pT n n F,pF b,pF raw,iv sp,bv wild] h0 (pBo n w y) (q0R h0 5000 ⟨33,none,w.map λz:Nat=>uv z,false⟩):=by
 have hJ:∀ i,¬ (h0 i≠none):=λi h=>h rfl;have hJe:(λi=>(h0:Hp) i≠none)=λ_=>False:=funext λi=>eq_false (hJ i);have cS:=q5M (a:=sp) (n:=4) h5 h6 Oq Oq;have hs:q0Y sp 4 < 4:=by unfold q0Y; omega
 generalize q0Y sp 4=s at *;obtain ⟨M,V,Z,hB,cB⟩:=quP h Oq hb hbl;have cP:=qgB (raw:=raw) (r:=n) (c:=n) (st:=2) hr Oq Oq Oq Oq;have cV:=qek (raw:=raw) (k:=8) (st:=0) (n:=n) hr Oq Oq Oq Oq Oq;have hVl:=q21 (raw:=raw) (k:=500) (st:=q0Y 2 4) (n:=n*n);have hVf:=q3y (raw:=raw) (k:=500) (st:=q0Y 2 4) (n:=n*n);have hYl:=q21 (raw:=raw) (k:=8) (st:=q0Y 0 4) (n:=n);have hYf:=q3y (raw:=raw) (k:=8) (st:=q0Y 0 4) (n:=n);have hres:∃ v y,PfOk raw F n s (sqL raw s v v.length) y/\v.length=n*n/\(∀ x ∈ v,x < 18446744073709551616)/\((wild=true\/Z.length≠n)->v=q4g raw 500 (q0Y 2 4) (n*n)/\y=q4g raw 8 (q0Y 0 4) n)/\(¬ (wild=true\/Z.length≠n)->M=n/\v=V/\y=Z):=by
  by_cases c:wild=true\/Z.length≠n
  .exact ⟨_,_,⟨hYl,λx hx=>hYf x hx,_,rfl,hVl,.inr (.inl rfl)⟩,hVl,λx hx=>(hVf x hx).1,λ_=>⟨rfl,rfl⟩,λq=>(q c).elim⟩
  .have hz:Z.length=n:=Classical.not_not.1 λq=>c (.inr q)
   rcases hB with ⟨b1,b2,b3,b4,b5,b6⟩ | ⟨b1,b2,b3⟩
   .exact ⟨V,Z,⟨b4,b5,V,rfl,b2,.inl ⟨b3,b6⟩⟩,b2,λx hx=>(b3 x hx).1,λq=>(c q).elim,λ_=>⟨b1,rfl,rfl⟩⟩
   .subst b2 b3;have hn0:n=0:=hz.symm;subst hn0;exact ⟨[],[],⟨rfl,λx hx=>(by cases hx),[],rfl,rfl,.inr (.inr rfl)⟩,rfl,λx hx=>(by cases hx),λq=>(c q).elim,λ_=>⟨b1,rfl,rfl⟩⟩
 obtain ⟨p,y,hpf,hpl,hpu,hp1,hp2⟩:=hres;refine ⟨_,y,hpf,?_⟩;have hMl:M*0=0:=Nat.mul_zero M;have hyl:=hpf.1;clear hpf hB hVf hYf hMl;generalize q4g raw 500 (q0Y 2 4) (n*n)=VV at *;generalize q4g raw 8 (q0Y 0 4) n=YY at *;have hNN:n*n<=4*4:=zN Oq Oq;have hql:(sqL raw s p p.length).length=n*n:=by rw [q7f]; exact hpl
 unfold pBo;rw [hql];unfold pT q2M at *;generalize (tM F n n).1=ms at *;generalize (tM F n n).2.1=mi at *;generalize (tM F n n).2.2=mv at *;refine qeU qzO Tryz.func15 rfl Tryz.ntmps15 κ ?_ ?_ ?_ ?_
 .intro i b hb; cases hb
 .intro i b hb
  by_cases hi:i=5000
  .subst hi; exact ⟨ω,ω⟩
  .rw [q0B hi] at hb; cases hb
 .exact IdL.of λx hx=>by
   simp at hx
   rcases hx with rfl | rfl | rfl | rfl | rfl <;> unfold IdP
   .exact IdL.of λx hx=>by
     simp at hx
     rcases hx with rfl | rfl | rfl | rfl | rfl <;> unfold IdP <;> trivial
   all_goals trivial
 rw [hJe];refine wk ?_;refine qox λK hK=>?_;refine Zz ?_;refine jmF cB ?_ ?_
 .exact Ow
 try refine Zz ?_
 refine hK _ _ ?_; clear hK K;refine wk ?_;refine qoy λK hK=>?_;have q4e:∀ (s0:Nat->PV) (h:Hp),Le (λ_=>False) s0 h (stM [(2,pF raw),(3,iv sp),(10,.pt 10 0 0),(12,.pt 12 0 0)] []) (q1B (q0R h0 5000 ⟨33,none,p.map λz:Nat=>uv z,false⟩) (hpM [(10,⟨37,some 4,[.ag [iv 0,iv 0,q05,q05]],false⟩),(12,⟨37,some 4,[.ag [iv n,iv n,.ow 5000 none 0 (n*n),pF y]],false⟩)] []))->K s0 h:=by
  intro s0 h hl;refine hK _ _ (q0r hl ?_); clear hK K hl;refine wk ?_;refine q0P (λi=>i<=n*n) [2,3,10,12] [10,12] Lk Lk (λi:Nat=>[(14,iv i)]) (λ_=>[]) (λi=>q0R h0 5000 ⟨33,none,(sqL raw s p i).map λz:Nat=>uv z,false⟩) (λi=>n*n-i) 0 (zI _) ?_ ?_
  .rw [sqL_0];refine LeW [] rfl rfl ?_ ?_ (by simp [q0i,q0c,win]) ?_
   .exact Ow
   .exact qtl _
   .try refine Zz ?_
    rfl
  .intro i hi
   by_cases hlt:i < n*n
   .have q:(i:Int) < ((n*n:Nat):Int):=ω
    have C1:=q5p (raw:=raw) (k:=(i:Int)) hr Oq Oq;have l1:=q7f (raw:=raw) (s:=s) (p:=p) (i:=i);have l2:=qpm (raw:=raw) (s:=s) (p:=p) (i:=i) Oq;have l3:=sqL_s (raw:=raw) (s:=s) (p:=p) (i:=i) Oq;have hx:p.getD i 0 < 18446744073709551616:=by
     rw [zG,zB ω];exact hpu _ (u9 _)
    have e1:((q4d raw (i:Int):Nat):Int).tmod 1000=((q4d raw (i:Int) % 1000:Nat):Int):=rfl;have e6:sqX raw s i (p.getD i 0)=(p.getD i 0+s*(q4d raw (i:Int) % 1000)) % 18446744073709551616:=rfl;have hw:=q2p raw (i:Int);generalize sqL raw s p i=P at *;generalize p.getD i 0=x at *;generalize sqX raw s i x=y' at *;generalize q4d raw (i:Int)=w at *;obtain ⟨m,hm⟩:∃ m,m=w % 1000:=⟨_,rfl⟩;rw [<- hm] at e1 e6;have hmm:m < 1000:=ω
    have e2:IntKind.i64.wrap ((m:Nat):Int)=(m:Int):=i64_in Oq Oq;have hsm:s*m<=3*1000:=zN Oq Oq;have e3:IntKind.i64.wrap ((s:Int)*(m:Int))=((s*m:Nat):Int):=by rw [<- Int.natCast_mul,i64_in ω ω]
    have e4:IntKind.u64.wrap ((s*m:Nat):Int)=((s*m:Nat):Int):=u64_in Oq Oq;have e5:IntKind.u64.wrap ((x:Int)+((s*m:Nat):Int))=((y':Nat):Int):=by rw [q0u,e6]; omega
    have N1:Nz (uv (w:Nat)):=qcM;have N2:Nz (iv (s:Nat)):=qcM;generalize s*m=sm at *;refine wk1 (x6 q l1 l2 e1 e2 (x3 e3 e4 e5)) ?_;refine ⟨i+1,ω,ω,?_⟩;rw [<- l3];refine LeW [] rfl rfl ?_ ?_ (by simp [q0i,q0c,win]) ?_
    .intro c hc
     by_cases ec:c=5000
     .subst ec;rw [q0L,q0L,List.map_set]
     .rw [q0B ec,q0W hc,q0B ec,q0B ec]
    .exact qtl _
    .try refine Zz ?_
     omega
   .obtain rfl:i=n*n:=ω
    have q:¬ ((n*n:Nat):Int) < ((n*n:Nat):Int):=ω
    rw [hpl];refine wk1 q ?_;refine (rtM (rs:=[.cell 10 37]) rfl rfl Lq ?_ (.inl rfl));refine LeF ?_ (λi b hb=>?_) (qtl _) (.ag rfl λi x y hx hy=>?_)
    .exact Ow
    .by_cases hi:i=5000
     .subst hi; exact ⟨ω,ω⟩
     .rw [q0B hi] at hb; cases hb
    .rcases i with _ | _ | _ | _ | i
     .cases hx; cases hy; exact .cl trivial
     .cases hx; cases hy; exact .cl trivial
     .cases hx; cases hy; exact .ow rfl q0L
     .cases hx; cases hy; exact .cl trivial
     .simp at hx
 by_cases c:wild=true\/Z.length≠n
 rotate_left
 .obtain ⟨rfl,rfl,rfl⟩:=hp2 c;obtain rfl:wild=false:=by
   cases wild
   .rfl
   .exact (c (.inl rfl)).elim
  have q3:((p.length:Int) != (p.length:Int))=false:=σ
  have q4:((y.length:Int) != (M:Int))=false:=by simp; omega
  refine wk1 q4 ?_;refine q4e _ _ ?_;rw [<- hpl];refine LeW [] rfl rfl ?_ ?_ (by simp [q0i,q0c,win]) ?_
  .exact Ow
  .exact qtl _
  .try simp -implicitDefEqProofs (disch:=omega) only [go_sem,Nat.reduceEqDiff,Nat.reduceAdd,↓reduceIte]
 .obtain ⟨rfl,rfl⟩:=hp1 c;cases wild
  .have q4:((Z.length:Int) != (n:Int))=true:=by
    rcases c with c | c
    .cases c
    .simp; omega
   refine wk1 q4 ?_;refine q0r (LeM [] rfl rfl (xs:=[(2,pF raw),(3,iv sp),(5,.pt 5 0 0),(10,.pt 10 0 0),(12,.pt 12 0 0)]) (kv:=[]) (bs:=[(5,⟨27,some 5,[.ag [iv n,iv n,pI ms,pI mi,pF mv]],false⟩),(10,⟨37,some 4,[.ag [iv 0,iv 0,q05,q05]],false⟩),(12,⟨37,some 4,[.un],false⟩)]) (kb:=[]) ?_) ?_
   .try simp -implicitDefEqProofs (disch:=omega) only [go_sem,Nat.reduceEqDiff,Nat.reduceAdd,↓reduceIte]
   refine qdO q5W (.one 0 (.one 1 (.one 3 (.one 6 (.one 7 (.alt (.one 2 (.alt (.one 4 (.alt (.one 5 (.one 8 (.one 9 (.one 10 (.one 11 .fin))))) (.one 8 (.one 5 (.one 9 (.one 10 (.one 11 .fin))))))) (.one 8 (.one 4 (.one 5 (.one 9 (.one 10 (.one 11 .fin)))))))) (.alt (.one 4 (.alt (.one 2 (.alt (.one 5 (.one 8 (.one 9 (.one 10 (.one 11 .fin))))) (.one 8 (.one 5 (.one 9 (.one 10 (.one 11 .fin))))))) (.one 8 (.one 2 (.one 5 (.one 9 (.one 10 (.one 11 .fin)))))))) (.one 8 (.alt (.one 2 (.one 4 (.one 5 (.one 9 (.one 10 (.one 11 .fin)))))) (.one 4 (.one 2 (.one 5 (.one 9 (.one 10 (.one 11 .fin))))))))))))))) κ λK9 hK9=>?_;refine Zz ?_
   repeat' (with_reducible apply And.intro)
   all_goals
    refine jmF cP ?_ ?_
    .exact Ow
    try refine Zz ?_
    refine jc ?_
    try refine Zz ?_
    refine q0T cV ?_
    try refine Zz ?_
    refine hK9 _ _ (q4e _ _ ?_);refine LeW [] rfl rfl ?_ ?_ (by simp [q0i,q0c,win]) ?_
    .exact Ow
    .exact qtl _
    .try simp -implicitDefEqProofs (disch:=omega) only [go_sem,Nat.reduceEqDiff,Nat.reduceAdd,↓reduceIte]
  .refine wk ?_;refine q0r (LeM [] rfl rfl (xs:=[(2,pF raw),(3,iv sp),(5,.pt 5 0 0),(10,.pt 10 0 0),(12,.pt 12 0 0)]) (kv:=[]) (bs:=[(5,⟨27,some 5,[.ag [iv n,iv n,pI ms,pI mi,pF mv]],false⟩),(10,⟨37,some 4,[.ag [iv 0,iv 0,q05,q05]],false⟩),(12,⟨37,some 4,[.un],false⟩)]) (kb:=[]) ?_) ?_
   .try simp -implicitDefEqProofs (disch:=omega) only [go_sem,Nat.reduceEqDiff,Nat.reduceAdd,↓reduceIte]
   refine qdO q5W (.one 0 (.one 1 (.one 3 (.one 6 (.one 7 (.alt (.one 2 (.alt (.one 4 (.alt (.one 5 (.one 8 (.one 9 (.one 10 (.one 11 .fin))))) (.one 8 (.one 5 (.one 9 (.one 10 (.one 11 .fin))))))) (.one 8 (.one 4 (.one 5 (.one 9 (.one 10 (.one 11 .fin)))))))) (.alt (.one 4 (.alt (.one 2 (.alt (.one 5 (.one 8 (.one 9 (.one 10 (.one 11 .fin))))) (.one 8 (.one 5 (.one 9 (.one 10 (.one 11 .fin))))))) (.one 8 (.one 2 (.one 5 (.one 9 (.one 10 (.one 11 .fin)))))))) (.one 8 (.alt (.one 2 (.one 4 (.one 5 (.one 9 (.one 10 (.one 11 .fin)))))) (.one 4 (.one 2 (.one 5 (.one 9 (.one 10 (.one 11 .fin))))))))))))))) κ λK9 hK9=>?_;refine Zz ?_
   repeat' (with_reducible apply And.intro)
   all_goals
    refine jmF cP ?_ ?_
    .exact Ow
    try refine Zz ?_
    refine jc ?_
    try refine Zz ?_
    refine q0T cV ?_
    try refine Zz ?_
    refine hK9 _ _ (q4e _ _ ?_);refine LeW [] rfl rfl ?_ ?_ (by simp [q0i,q0c,win]) ?_
    .exact Ow
    .exact qtl _
    .try simp -implicitDefEqProofs (disch:=omega) only [go_sem,Nat.reduceEqDiff,Nat.reduceAdd,↓reduceIte]
end
end Go.Proofs.YtpbaikoblfcmdaaGreatDoor
namespace Go.Sp
open Go Go.E Go.Proofs.YtpbaikoblfcmdaaGreatDoor
def fR_ex {m:Int} {t K:Nat} (hK:K=65536) (hm:m.natAbs < 9007199254740992) (h1:K<=t+1000) (h2:t<=K+900):ofZ (fR 0 (m*(2:Int) ^ t))=m*(2:Int) ^ t/\fR 0 (m*(2:Int) ^ t) < 18446744073709551616/\q0I (fR 0 (m*(2:Int) ^ t)):=by
 have key:ofF (fR 0 (m*(2:Int) ^ t))=some (m*(2:Int) ^ t)/\fR 0 (m*(2:Int) ^ t) < 18446744073709551616:=by
  unfold fR;rw [<- hK]
  by_cases h0:m=0
  .subst h0;rw [zU,if_pos rfl];exact ⟨q2c,ω⟩
  .have hp:=q0H t;have hne:m*(2:Int) ^ t≠0:=u6 h0 (yA hp);have hsg:decide (m*(2:Int) ^ t < 0)=decide (m < 0):=by
    rw [decide_eq_decide]
    constructor
    .intro h
     rcases Int.lt_or_le m 0 with h1 | h1
     .exact h1
     .have:=Int.mul_nonneg h1 (Int.le_of_lt hp); omega
    .intro h; exact yP h hp
   rw [if_neg hne,hsg,q0E];have hb:bl m.natAbs<=53:=q0M hm;have:=qcF (mode:=0) (neg:=decide (m < 0)) (N:=m.natAbs*2 ^ t) (D:=2 ^ K) (M:=m.natAbs) (f:=(t:Int)-K) (q0G K) Oq hb Oq Oq (by
    rcases Nat.le_total K t with h | h
    .obtain ⟨d,rfl⟩:∃ d,t=K+d:=⟨t-K,ω⟩;rw [show (-(((K+d:Nat):Int)-K)).toNat=0 by omega,show (((K+d:Nat):Int)-K).toNat=d by omega,Nat.pow_zero,Nat.mul_one,tD,yH (2 ^ K) m.natAbs,yS]
    .obtain ⟨d,rfl⟩:∃ d,K=t+d:=⟨K-t,ω⟩;rw [show (-((t:Int)-((t+d:Nat):Int))).toNat=d by omega,show ((t:Int)-((t+d:Nat):Int)).toNat=0 by omega,Nat.pow_zero,Nat.mul_one,tD,yH _ m.natAbs,yS])
   rw [q0f,show ((t:Int)-K+65536).toNat=t by omega] at this;exact this
 refine ⟨q04 key.1,key.2,λh=>?_⟩;have:=key.1;unfold ofF at this;rw [if_pos h] at this;cases this
end Go.Sp
namespace Go.Proofs.YtpbaikoblfcmdaaGreatDoor
open Go Go.E Go.Sp
section
variable {n:Nat} {o:List Int} {vs:List Nat}
end
section
variable {n U:Nat} {o:List Int} {vs b:List Nat} {h:Nat->Nat} {c:Nat->Int} {f:Nat->Nat->Option Nat}
end
def pw2 (t:Nat):Nat:=fR 0 (1*(2:Int) ^ t)
def qfs {U t:Nat} (hU:U+8=65536) (h1:U<=t+500) (h2:t<=U+500):ofZ (pw2 t)=(2:Int) ^ t/\pw2 t < 18446744073709551616/\q0I (pw2 t):=by
 have:=fR_ex (m:=1) (t:=t) (K:=U+8) hU Oq Oq Oq;rw [yR] at this;unfold pw2;rw [yR];exact this
def qbx {n:Int} {U t:Nat} (hU:U+8=65536) (h1 : -400<=n) (h2:n<=400) (ht:(t:Int)=U+8+n):ACt 21 [uv 4607182418800017408,iv n,iv 0] (uv (pw2 t:Nat)):=by
 have e1:flz 1=4607182418800017408:=qrW;have hf:q0I 4607182418800017408:=by rw [<- e1]; exact qau ω
 have ho:ofZ 4607182418800017408=(1:Int)*(2:Int) ^ (U+8):=by rw [<- e1,qgG hU ω]
 obtain ⟨o1,o2⟩:=qdn (m:=(1:Int)*(2:Int) ^ (U+8)) (o:=1) (k:=U+8) rfl rfl;have hne:(1:Int)*(2:Int) ^ (U+8)≠0:=u6 Oq (yA (q0H _));have hd:dyE ((1:Int)*(2:Int) ^ (U+8))=0:=by unfold dyE; rw [if_neg hne,o2]; omega
 have hm:=q5O (m:=1) (E:=n) Oq (by have:bl (1:Int).natAbs<=1:=q0M (by decide); omega);rw [show (n+65536).toNat=t by omega] at hm;have:=qhW (x:=4607182418800017408) (n:=n) (W:=1*(2:Int) ^ t) (mode:=0) ω hf ω ω (by rw [ho,o1,hd,Int.zero_add]; exact hm);rw [if_pos (show q03 4607182418800017408=1 from rfl)] at this;exact this
def Le_tr [NL] {J:Nat->Prop} {s s' s2:Nat->PV} {h h' h2:Hp} (a:Le J s h s' h') (b:Le J s' h' s2 h2):Le J s h s2 h2:=λD0 w0 ρ e w hJ S=>by
 obtain ⟨ρ',S'⟩:=a D0 w0 ρ e w hJ S;exact b D0 w0 ρ' e w hJ S'
def q44 {m:Int} {a b:Nat} (ha:q03 a≠3) (hb:q03 b≠3):q03 (q6f m a b)≠3:=by
 unfold q6f
 split
 .exact hb
 .split
  .exact ha
  .split
   .split <;> decide
   .exact qaz
def arW (raw:List Nat) (wd k:Int):Nat:=if q4d raw k % 3=0 then 0 else pw2 (65532-q0Y wd 50)
def arF (raw:List Nat) (wd k:Int) (v:Nat):Nat × Nat:=(qa2 1 v (arW raw wd k),q6f 2 v (arW raw wd k))
section
variable {raw b:List Nat} {wd k:Int} {v N:Nat} {F:Nat->Nat->Option Nat}
def qob:arW raw wd k < 18446744073709551616/\q0I (arW raw wd k):=by
 unfold arW
 split
 .exact ⟨ω,by unfold q0I; omega⟩
 .exact (qfs (U:=65528) rfl (by unfold q0Y; omega) Oq).2
def qoc (hv:v < 18446744073709551616/\q0I v):nnI (arF raw wd k v):=by
 obtain ⟨w1,w2⟩:=qob (raw:=raw) (wd:=wd) (k:=k);unfold arF;exact ⟨⟨q89 hv.1 (q6O w1),q44 (q0p hv.2) (by rw [q4F w1]; exact q0p w2)⟩,q89 hv.1 w1,q44 (q0p hv.2) (q0p w2)⟩
def q9x (hr:raw.length<=9223372036854775807) (h1 : -9223372036854775808<=wd) (h2:wd<=9223372036854775807) (h3 : -9223372036854775808<=k) (h4:k<=9223372036854775807) (hv:v < 18446744073709551616/\q0I v):ACt 74 [uv v,iv k,pF raw,iv wd] (.ag [uv (arF raw wd k v).1,uv (arF raw wd k v).2]):=by
 obtain ⟨w1,w2⟩:=qob (raw:=raw) (wd:=wd) (k:=k);have c1:=q5M (a:=wd) (n:=50) h1 h2 Oq Oq;have hm:q0Y wd 50 < 50:=by unfold q0Y; omega
 have c2:=qbx (n := -4-(q0Y wd 50:Int)) (U:=65528) (t:=65532-q0Y wd 50) rfl Oq Oq Oq;have c3:=q5p (raw:=raw) (k:=k) hr h3 h4;have c4:=qac (mode:=1) (a:=v) (.inr (.inl rfl)) hv w1 (q0p w2);have c5:=q7t (mode:=2) (a:=v) (.inr (.inr rfl)) hv w1 (q0p w2);have e1:((q4d raw k:Nat):Int).tmod 3=((q4d raw k % 3:Nat):Int):=rfl;have hA:arF raw wd k v=(qa2 1 v (arW raw wd k),q6f 2 v (arW raw wd k)):=rfl;have hW:arW raw wd k=if q4d raw k % 3=0 then 0 else pw2 (65532-q0Y wd 50):=rfl
 have hw:=q2p raw k;generalize pw2 (65532-q0Y wd 50)=W0 at *;generalize q0Y wd 50=m at *;generalize arF raw wd k v=A at *;generalize arW raw wd k=W at *;generalize qa2 1 v W=S1 at *;generalize q6f 2 v W=S2 at *;subst hA;generalize q4d raw k=wo at *
 by_cases h0:wo % 3=0
 .rw [if_pos h0] at hW;rw [h0] at e1;subst hW;have q:(((wo:Nat):Int).tmod 3 == 0)=true:=by rw [e1]; rfl
  refine ac0 Tryz.func74 Tryz.ntmps74 [.cell 8 58] ?_;exact wk1 q trivial
 .rw [if_neg h0] at hW;subst hW;have q:(((wo:Nat):Int).tmod 3 == 0)=false:=by rw [e1]; simp; omega
  refine ac0 Tryz.func74 Tryz.ntmps74 [.cell 8 58] ?_;exact wk1 q trivial
def bxA (raw:List Nat) (wd:Int) (F:Nat->Nat->Option Nat) (i j:Nat):Nat × Nat:=arF raw wd (10*(i:Int)+(j:Int)) ((F j i).getD 0)
def bxR (raw:List Nat) (wd:Int) (b:List Nat) (m:Nat):List (Nat × Nat):=(List.range m).map λi:Nat=>arF raw wd (200+(i:Int)) (b.getD i 0)
def rwA (n:Nat) (a:Nat->Nat->Nat × Nat) (t:Nat):List PV:=(q3i n a t).map λp=>.ag [uv p.1,uv p.2]
def rwA_s {c t:Nat} {a:Nat->Nat->Nat × Nat}:rwA (c+1) a t=rwA c a t ++ [.ag [uv (a t c).1,uv (a t c).2]]:=by
 unfold rwA q3i;rw [zW,zC,zC]; rfl
def q7k {n t:Nat} {a:Nat->Nat->Nat × Nat}:(rwA n a t).length=n:=by unfold rwA; rw [zJ,q57]
abbrev tXI (n t:Nat) (a:Nat->Nat->Nat × Nat):Hp:=q1V 52 58 (some 2) 5000 10000 t (rwA n a) h0
def q5J {n t:Nat} {a:Nat->Nat->Nat × Nat} (ht:t<=1000):BOk (tXI n t a) win:=q1P BOk.h0 (λ_ _=>q32) Oq ⟨⟨ω,ω⟩,λj hj=>⟨ω,ω⟩⟩
def box_m (hr:raw.length<=9223372036854775807) (h1 : -9223372036854775808<=wd) (h2:wd<=9223372036854775807) (h:TOk F N N) (hN:N<=4) (hb:q0b b) (hbl:b.length=N):qdQ 20 [pT N N F,pF b,pF raw,iv wd] h0 (.tu [.ow 5000 none 0 N,pP (bxR raw wd b N)]) (tXI N N (bxA raw wd F)):=by
 have cA:=λi j (hi:i < N) (hj:j < N)=>q5z (i:=i) (j:=j) h hi hj;have hf:∀ i j,i < N->j < N->q0I ((F j i).getD 0)/\(F j i).getD 0 < 18446744073709551616:=λi j hi hj=>h.fin (j:=j) (i:=i) hj hi;have cR:=λ(i j:Nat) (hi:i < N) (hj:j < N)=>q9x (raw:=raw) (wd:=wd) (k:=10*(i:Int)+(j:Int)) (v:=(F j i).getD 0) hr h1 h2 Oq Oq ⟨(hf i j hi hj).2,(hf i j hi hj).1⟩;have hbf:=λj=>q0V hb (i:=j);have cS:=λ(i:Nat) (hi:i < N)=>q9x (raw:=raw) (wd:=wd) (k:=200+(i:Int)) (v:=b.getD i 0) hr h1 h2 Oq Oq (hbf i);have hbg:=λj (hj:j < N)=>show b[j]?=some (b.getD j 0) by
  obtain ⟨w,hw⟩:∃ w,b[j]?=some w:=⟨_,zB Oq⟩;rw [hw,getD_some hw]
 have hRs:=λi:Nat=>show bxR raw wd b (i+1)=bxR raw wd b i ++ [arF raw wd (200+(i:Int)) (b.getD i 0)] by unfold bxR; rw [zW,zC]; rfl
 have hRl:=λi=>show (bxR raw wd b i).length=i by unfold bxR; simp
 have hR0:bxR raw wd b 0=[]:=rfl;have hAe:=λi j:Nat=>show bxA raw wd F i j=arF raw wd (10*(i:Int)+(j:Int)) ((F j i).getD 0) from rfl;generalize bxA raw wd F=A at *;generalize bxR raw wd b=R at *;clear hf;unfold pT q2M at *;generalize (tM F N N).1=ms at *;generalize (tM F N N).2.1=mi at *;generalize (tM F N N).2.2=mv at *;refine qeU qzN Tryz.func20 rfl Tryz.ntmps20 κ ?_ ?_ ?_ ?_
 .intro i b hb; cases hb
 .exact λi b hb=>((q5J Oq).b i b hb).1
 .exact IdL.of λx hx=>by
   simp at hx
   rcases hx with rfl | rfl | rfl | rfl <;> unfold IdP
   .exact IdL.of λx hx=>by
     simp at hx
     rcases hx with rfl | rfl | rfl | rfl | rfl <;> unfold IdP <;> trivial
   all_goals trivial
 refine wk ?_;refine q0r (LeT (hw:=tXI N 0 A) tnW (λ_ h=>(h rfl).elim) (λi hi hw=>?_) (λi b hw hb=>?_) (λi j x hi hj ti tj=>?_) (xs:=[(1,pF b),(2,pF raw),(3,iv wd),(4,.pt 4 0 0),(10,.ow 5000 none 0 0),(11,q05),(12,iv 0)]) (kv:=[]) (bs:=[(4,⟨27,some 5,[.ag [iv N,iv N,pI ms,pI mi,pF mv]],false⟩)]) (kb:=[]) ?_) ?_
 .simp at hi;subst hi;unfold win at hw;omega
 .unfold LeB;rw [q5I hw.1 hw.2]
  rcases q0j hb with ⟨rfl,rfl⟩ | ⟨_,h1,h2,_⟩ | ⟨_,_,hb⟩
  .rfl
  .omega
  .cases hb
 .unfold tnW at ti tj
  split at ti <;> split at tj <;> cases ti <;> cases tj <;> rfl
 .try simp -implicitDefEqProofs (disch:=omega) only [go_sem,Nat.reduceEqDiff,Nat.reduceAdd,↓reduceIte]
 refine q0P (λt=>t<=N) [1,2,3,4] [4] Lk Lk (λt:Nat=>[(10,.ow 5000 none 0 t),(11,.ow 1003 (some 2) 0 t),(12,iv t)]) (λt=>[(1003,⟨58,some 2,(R t).map λp=>.ag [uv p.1,uv p.2],false⟩)]) (λt=>tXI N t A) (λt=>N-t) 0 (zI _) ?_ ?_
 .rw [hR0];refine LeW [(1003,none)] rfl rfl ?_ ?_ (by simp [q0i,q0c,win]) ?_
  .exact Ow
  .exact wfB (q5J Oq)
  .try refine Zz ?_
   rfl
 .intro t ht
  by_cases hlt:t < N
  .have q:(t:Int) < N:=ω
   have cAt:=λj (hj:j < N)=>cA t j hlt hj;have cRt:=λj (hj:j < N)=>cR t j hlt hj;have hAt:=λj=>hAe t j;have cSt:=cS t hlt;have gb:=hbg t hlt;have rs:=hRs t;have rl:=hRl t;refine wk1 q ?_;refine q0P (λc=>c<=N) [1,2,3,4,10,11,12] [4,1003] Lk Lk (λc:Nat=>[(13,.ow 1001 (some 2) 0 c),(14,iv c)]) (λc=>[(1001,⟨58,some 2,rwA c A t,false⟩)]) (λ_=>tXI N t A) (λc=>N-c) 0 (zI _) ?_ ?_
   .refine LeW [(1001,none)] rfl rfl ?_ ?_ (by simp [q0i,q0c,win]) ?_
    .exact Ow
    .exact wfB (q5J Oq)
    .try refine Zz ?_
     exact ⟨rfl,rfl,q0C rfl q32⟩
   .intro c hc
    by_cases hlc:c < N
    .have q2:(c:Int) < N:=ω
     have c1:=cAt c hlc;have c2:=cRt c hlc;have e1:=hAt c;rw [<- e1] at c2;have ws:=rwA_s (a:=A) (t:=t) (c:=c);have wl:=q7k (a:=A) (t:=t) (n:=c);generalize (F c t).getD 0=v at *;generalize A t c=ap at *;refine wk1 (x2 q2 wl) ?_;refine ⟨c+1,ω,ω,?_⟩;refine LeW [(1001,some 40)] rfl rfl ?_ ?_ (by simp [q0i,q0c,win]) ?_
     .exact Ow
     .exact wfB (q5J Oq)
     .try refine Zz ?_
      exact ⟨ω,q0C (by rw [ws]) q32,q0C rfl q32⟩
    .obtain rfl:c=N:=ω
     have q2:¬ (c:Int) < c:=ω
     refine wk1 (x3 q2 gb rl) ?_;refine ⟨t+1,ω,ω,?_⟩;refine Le_tr (q1s (T1:=52) (T2:=58) (K:=some 2) (N:=5000) (R:=10000) (n:=t) (o:=44) (r:=1001) (l:=rwA c A t) (hw:=tXI c t A) (hw':=tXI c (t+1) A) (xs:=[(1,pF b),(2,pF raw),(3,iv wd),(4,.pt 4 0 0),(10,.ow 5000 none 0 (t+1)),(11,.ow 56 (some 2) 0 (t+1)),(12,iv ((t+1:Nat):Int))]) (kv:=[]) (bs:=[(4,⟨27,some 5,[.ag [iv c,iv c,pI ms,pI mi,pF mv]],false⟩),(56,⟨58,some 2,(R (t+1)).map λp=>.ag [uv p.1,uv p.2],false⟩)]) (kb:=[]) (λ_ h=>h rfl) q32 (λj=>(rwA c A j).length) ?_ ?_ (λi h1 h2=>?_) q1H (q1F ω ω) (λi h1 h2=>q1G h1 h2) (λj hj=>q26 ω) (q5J ω) (q6i qb2 (λ_ _=>q32) λj hj=>by omega) ?_ ω ω ω ω ω ω (by simp [nmW]) ?_) ?_
     .try refine Zz ?_
      rw [q7k]
     .try simp -implicitDefEqProofs (disch:=omega) only [go_sem,Nat.reduceEqDiff,Nat.reduceAdd,↓reduceIte]
     .obtain ⟨w1,w2⟩:=h1
      repeat rw [q0B ω]
      rw [q0W ⟨w1,w2⟩]
     .exact q0O Oq (.inr Oq)
     .try refine Zz ?_
      exact ⟨ω,q0C (by rw [rs,zC]; rfl) q32⟩
     .refine LeW [(1003,some 56)] rfl rfl ?_ ?_ (by simp [q0i,q0c,win]) ?_
      .exact Ow
      .exact wfB (q5J Oq)
      .try refine Zz ?_
       exact q0C rfl q32
  .obtain rfl:t=N:=ω
   have q:¬ (t:Int) < t:=ω
   refine wk1 q ?_;refine (rtM (rs:=[.tmp 8,.tmp 9]) rfl rfl Lq ?_ (.inl rfl));refine LeF q3K (λi b hb=>((q5J Oq).b i b hb).1) (wfB (q5J Oq)) (.tu rfl λi x y hx hy=>?_)
   rcases i with _ | _ | i
   .cases hx; cases hy; exact .ow rfl q1H
   .cases hx; cases hy;refine q49 (T:=58) (l:=(R t).map λp=>.ag [uv p.1,uv p.2]) ?_ q32 (λi hi=>?_) ?_
    .try simp -implicitDefEqProofs (disch:=omega) only [go_sem,Nat.reduceEqDiff,Nat.reduceAdd,↓reduceIte]
    .cases hi;unfold tXI q1V;rw [if_neg ω,if_neg ω]
     rfl
    .rw [z9];exact zP (Nat.le_of_eq (by rw [zJ,hRl]))
   .simp at hx
end
def ctM {x K:Nat} {den:Int} (hK:K=65536) (hx:q0I x) (h2:bl den.natAbs<=50000):mkV (ofZ x*(den*(2:Int) ^ K)) (-131072)=some (ofZ x*den)/\q0Q (ofZ x*den):=by
 have h:=q17 hx;have hd:q0Q (ofZ x*den):=by
  unfold q0Q;have:=q16 (ofZ x).natAbs den.natAbs;rw [zY];omega
 subst hK;exact ⟨qdq (by rw [zK]) hd,hd⟩
def qbK {p:Nat × Nat} {num den:Int} {K:Nat} (hK:K=65536) (hp:nnI p) (h1:bl num.natAbs<=50000) (h2:bl den.natAbs<=50000) (h:inIv K p num den):ACt 29 [.ag [uv p.1,uv p.2],bT num,bT den] (bv true):=by
 have c1:=q5y hK (show bl num.natAbs<=65536 by omega);have c2:=q5y hK (show bl den.natAbs<=65536 by omega);have hdy:∀ z:Int,bl z.natAbs<=50000->q0Q (z*(2:Int) ^ K):=λz hz=>by
  unfold q0Q;rw [q0E]
  by_cases h0:z.natAbs=0
  .rw [h0,yK,q02]; omega
  .rw [q1C h0]; omega
 have d1:=hdy num h1;have d2:=hdy den h2;obtain ⟨u,v⟩:=p;unfold inIv at h;dsimp only at h hp ⊢;unfold nnI at hp;dsimp only at hp;obtain ⟨hl,hr⟩:=h;clear hdy
 by_cases l:u=18442240474082181120 <;> by_cases r:v=9218868437227405312
 .have q1:((u:Int) == 18442240474082181120)=true:=by simp; omega
  have q2:((v:Int) == 9218868437227405312)=true:=by simp; omega
  clear hl hr;generalize num*(2:Int) ^ K=V at *;generalize den*(2:Int) ^ K=D at *;unfold bT at *;unfold dT at *;refine ac0 Tryz.func29 Tryz.ntmps29 [.tmp 6] ?_;exact wk1 (x2 q1 q2) trivial
 .have q1:((u:Int) == 18442240474082181120)=true:=by simp; omega
  have q2:((v:Int) == 9218868437227405312)=false:=by simp; omega
  obtain ⟨rf,rv⟩:=hr.resolve_left r;clear hl hr;have b1:=qdU ⟨hp.2.1,rf⟩;have b2:=q50 (q2l rf) d2 (ctM hK rf h2).1;have b3:=qi5 (ctM hK rf h2).2 d1 (q5e (A:=ofZ v*den) (B:=num*(2:Int) ^ K));rw [decide_eq_false ω] at b3;generalize ofZ v*den=H at *;generalize ofZ v=x2' at *;generalize num*(2:Int) ^ K=V at *;generalize den*(2:Int) ^ K=D at *;unfold bT at *;unfold dT at *;refine ac0 Tryz.func29 Tryz.ntmps29 [.tmp 6] ?_;exact wk1 (x2 q1 q2) trivial
 .have q1:((u:Int) == 18442240474082181120)=false:=by simp; omega
  have q2:((v:Int) == 9218868437227405312)=true:=by simp; omega
  obtain ⟨lf,lv⟩:=hl.resolve_left l;clear hl hr;have a1:=qdU ⟨hp.1.1,lf⟩;have a2:=q50 (q2l lf) d2 (ctM hK lf h2).1;have a3:=qi5 d1 (ctM hK lf h2).2 (q5e (A:=num*(2:Int) ^ K) (B:=ofZ u*den));rw [decide_eq_false ω] at a3;generalize ofZ u*den=L at *;generalize ofZ u=x1 at *;generalize num*(2:Int) ^ K=V at *;generalize den*(2:Int) ^ K=D at *;unfold bT at *;unfold dT at *;refine ac0 Tryz.func29 Tryz.ntmps29 [.tmp 6] ?_;exact wk1 (x2 q1 q2) trivial
 .have q1:((u:Int) == 18442240474082181120)=false:=by simp; omega
  have q2:((v:Int) == 9218868437227405312)=false:=by simp; omega
  obtain ⟨lf,lv⟩:=hl.resolve_left l;obtain ⟨rf,rv⟩:=hr.resolve_left r;clear hl hr;have a1:=qdU ⟨hp.1.1,lf⟩;have a2:=q50 (q2l lf) d2 (ctM hK lf h2).1;have a3:=qi5 d1 (ctM hK lf h2).2 (q5e (A:=num*(2:Int) ^ K) (B:=ofZ u*den));rw [decide_eq_false ω] at a3;have b1:=qdU ⟨hp.2.1,rf⟩;have b2:=q50 (q2l rf) d2 (ctM hK rf h2).1;have b3:=qi5 (ctM hK rf h2).2 d1 (q5e (A:=ofZ v*den) (B:=num*(2:Int) ^ K));rw [decide_eq_false ω] at b3;generalize ofZ u*den=L at *;generalize ofZ u=x1 at *;generalize ofZ v*den=H at *;generalize ofZ v=x2' at *;generalize num*(2:Int) ^ K=V at *;generalize den*(2:Int) ^ K=D at *;unfold bT at *;unfold dT at *;refine ac0 Tryz.func29 Tryz.ntmps29 [.tmp 6] ?_;exact wk1 (x2 q1 q2) trivial
def ltR (V:Nat->Nat->Int) (i:Nat) (l:Int):Nat->Int
 | 0=>l
 | j+1=>if V i j=0 then ltR V i l j else min (ltR V i l j) (dyE (V i j))
def ltA (V:Nat->Nat->Int) (c:Nat):Nat->Int
 | 0=>0
 | i+1=>ltR V i (ltA V c i) c
section
variable {V:Nat->Nat->Int} {c i j:Nat} {l:Int}
def qcS:∀ j,ltR V i l j<=l
 | 0=>y7 _
 | j+1=>by
  have:=qcS j;rw [ltR]
  split <;> omega
def qne:∀ {j k:Nat},k < j->V i k≠0->ltR V i l j<=dyE (V i k)
 | 0,_,h,_=>by omega
 | j+1,k,h,h0=>by
  rw [ltR]
  by_cases e:k=j
  .subst e;rw [if_neg h0];omega
  .have:=qne (show k < j by omega) h0
   split <;> omega
def qqr:∀ i,ltA V c i<=0
 | 0=>y7 _
 | i+1=>Int.le_trans (qcS c) (qqr i)
def qnf {k:Nat} (hk:k < c):∀ {m i:Nat},i < m->V i k≠0->ltA V c m<=dyE (V i k)
 | 0,_,h,_=>by omega
 | m+1,i,h,h0=>by
  rw [ltA]
  by_cases e:i=m
  .subst e; exact qne hk h0
  .exact Int.le_trans (qcS c) (qnf hk (show i < m by omega) h0)
def qg3 {b:Int} (hl:b<=l) (hV:∀ k,k < c->V i k≠0->b<=dyE (V i k)):∀ j,j<=c->b<=ltR V i l j
 | 0,_=>hl
 | j+1,hj=>by
  have:=qg3 hl hV j Oq;rw [ltR]
  split
  .exact this
  .have:=hV j Oq (by assumption);omega
def qcT {b:Int} (hb:b<=0) {n:Nat} (hV:∀ i k,i < n->k < c->V i k≠0->b<=dyE (V i k)):∀ m,m<=n->b<=ltA V c m
 | 0,_=>hb
 | m+1,hm=>qg3 (qcT hb hV m Oq) (λk hk=>hV m k Oq hk) c (zE _)
end
def ac_p1 {f:FuncId} {A:Int} {r:PV} (hA:q0Q A) (h:ACt f [pV A] r):ACt f [dT A] r:=q5R (p:=True) h.1 (λD w vs hR=>by
 obtain ⟨a,rfl,h1⟩:=qqP hR;refine ⟨?_,trivial⟩;exact RdL.one (qa9 (q2m.1 ⟨h1,hA⟩))) λ_=>h
set_option exponentiation.threshold 600
open Go.Dt
def qpo {n:Nat} {M:Nat->Nat->Int} {b:Nat->Int} (h0:det n (λr c=>(M r c:Rat))≠0) {i:Nat} (hi:i < n) :
  mv n (λr c=>(M r c:Rat)) (λk=>((slX n M b k:Int):Rat) / (((dtE n λr c=>(M r c:Rat)).num.natAbs:Int):Rat)) i=((b i:Int):Rat):=by
 obtain ⟨y,hy⟩:∃ x,∀ i,i < n->mv n (λr c=>(M r c:Rat)) x i=((b i:Int):Rat):=by
  rcases (qcj (n:=n) (A:=λr c=>(M r c:Rat))).2 with h | h
  .exact h.2.1 _
  .exact (h0 h.1).elim
 have hn:=q8W (n:=n) (M:=M);have key:∀ k,k < n->((slX n M b k:Int):Rat)=y k*(((dtE n λr c=>(M r c:Rat)).num.natAbs:Int):Rat):=λk hk=>by
  have h1:=qyk hk hy;have h2:=q8W (n:=n) (M:=q8l M k b);have h3:det n (λr c=>(q8l M k b r c:Rat))=det n (cw (λr c=>(M r c:Rat)) k λi=>((b i:Int):Rat)):=q4T n λr c _ _=>by
   unfold q8l cw;dsimp only
   split <;> rfl
  rw [h3,h1] at h2;unfold slX;generalize (dtE n λr c=>(q8l M k b r c:Rat)).num=u at *;generalize (dtE n λr c=>(M r c:Rat)).num=d at *;rw [<- hn] at h2
  split
  .rename_i hd;rw [show (d.natAbs:Int) = -d by omega,Rat.intCast_neg,Rat.intCast_neg,h2]; grind
  .rename_i hd;rw [show (d.natAbs:Int)=d by omega,h2]
 have hD:(((dtE n λr c=>(M r c:Rat)).num.natAbs:Int):Rat)≠0:=by
  intro h;have h:(((dtE n λr c=>(M r c:Rat)).num.natAbs:Int))=0:=by exact_mod_cast h
  have h4:(dtE n λr c=>(M r c:Rat)).num=0:=ω
  rw [h4] at hn;exact h0 (hn.symm.trans rfl)
 generalize (((dtE n λr c=>(M r c:Rat)).num.natAbs:Int):Rat)=D at *;have e:mv n (λr c=>(M r c:Rat)) (λk=>((slX n M b k:Int):Rat) / D) i=mv n (λr c=>(M r c:Rat)) y i:=by
  unfold mv;refine q07 n λc hc=>?_;dsimp only;rw [key c hc]
  congr 1
  rw [Rat.div_def,Rat.mul_assoc,Rat.mul_inv_cancel _ hD,Rat.mul_one]
 rw [e,hy i hi]
def qu7 {V m:Int} {t K:Nat} (hK:K=65536) (h:V=m*(2:Int) ^ t) (h0:m≠0):od V=od m/\dyE V=(tz m.natAbs:Int)+(t:Int)-(K:Int):=by
 have h1:V=od m*(2:Int) ^ (tz m.natAbs+t):=by rw [h,zM,<- zK,q1K]
 have h2:=qdn (q9S h0) h1;have hV:V≠0:=by rw [h]; exact u6 h0 (yA (q0H t))
 refine ⟨h2.1,?_⟩;unfold dyE;rw [if_neg hV,h2.2];omega
def snV (F:Nat->Nat->Option Nat) (n:Nat) (b:List Nat) (i j:Nat):Int:=if j < n then ofZ ((F j i).getD 0) else ofZ (b.getD i 0)
def snM (F:Nat->Nat->Option Nat) (n:Nat) (b:List Nat):Nat:=(-(ltA (snV F n b) (n+1) n)).toNat
def snZ (F:Nat->Nat->Option Nat) (n:Nat) (b:List Nat) (i j:Nat):Int:=od (snV F n b i j)*(2:Int) ^ (dyE (snV F n b i j)+(snM F n b:Int)).toNat
def qt4 (B:Nat) (F:Nat->Nat->Option Nat) (n:Nat) (b:List Nat):Prop:=∀ i j,i < n->j < n+1->∃ m:Int,snV F n b i j=m*(2:Int) ^ tUn/\m.natAbs < 2 ^ B
section
variable {F:Nat->Nat->Option Nat} {n K B:Nat} {b:List Nat}
def qpn (hF:∀ j i,j < n->i < n->gok (2 ^ B) ((F j i).getD 0)) (hb:∀ x ∈ b,gok (2 ^ B) x) (hbl:b.length=n):qt4 B F n b:=λi j hi hj=>by
 unfold snV
 split
 .rename_i h;exact (hF j i h hi).2.2
 .rw [zG,zB ω];exact (hb _ (u9 _)).2.2
def qnI (hK:K=65536) (h:qt4 B F n b):ltA (snV F n b) (n+1) n = -((snM F n b:Nat):Int)/\snM F n b<=56/\tUn+56=K:=by
 have hU:tUn+56=K:=by rw [hK]; rfl
 have h1:=qqr (V:=snV F n b) (c:=n+1) n;have h2:=qcT (V:=snV F n b) (c:=n+1) (b := -56) Oq (n:=n) (λi k hi hk h0=>by
  obtain ⟨m,hm,_⟩:=h i k hi hk;have hm0:m≠0:=λe=>h0 (by rw [hm,e,zU]);have:=(qu7 hK hm hm0).2;omega) n (zE _)
 unfold snM;omega
def qfT (hK:K=65536) (hB:B<=400) (h:qt4 B F n b) {i j:Nat} (hi:i < n) (hj:j < n+1):snV F n b i j*(2:Int) ^ snM F n b=snZ F n b i j*(2:Int) ^ K/\(snZ F n b i j).natAbs < 2 ^ B/\q0Q (snV F n b i j*(2:Int) ^ snM F n b)/\q0Q (snV F n b i j) /\ -56<=dyE (snV F n b i j)/\dyE (snV F n b i j)<=400:=by
 obtain ⟨h1,h2,h3⟩:=qnI hK h;obtain ⟨m,hm,hb⟩:=h i j hi hj;have key:snV F n b i j*(2:Int) ^ snM F n b=snZ F n b i j*(2:Int) ^ K/\(snZ F n b i j).natAbs < 2 ^ B /\ -56<=dyE (snV F n b i j)/\dyE (snV F n b i j)<=400:=by
  by_cases h0:m=0
  .have hv:snV F n b i j=0:=by rw [hm,h0,zU]
   unfold snZ;rw [hv,q0k,zU,zU,zU];exact ⟨rfl,by rw [Int.natAbs_zero]; exact Nat.two_pow_pos B,by unfold dyE; simp,by unfold dyE; simp⟩
  .have hv:snV F n b i j≠0:=by rw [hm]; exact u6 h0 (yA (q0H _))
   obtain ⟨e1,e2⟩:=qu7 hK hm h0;have h4:=qnf (V:=snV F n b) (c:=n+1) (k:=j) hj (m:=n) hi hv;have h5:=q9u h0;have h6:bl m.natAbs<=B:=q0M hb;unfold snZ;rw [e1];generalize snM F n b=M at *;generalize dyE (snV F n b i j)=E at *;obtain ⟨t,ht⟩:∃ t,t=(E+(M:Int)).toNat:=⟨_,rfl⟩;rw [<- ht];have h7:=q1K m;have h8:=q6N m;generalize tz m.natAbs=z at *;refine ⟨?_,?_,ω,ω⟩
   .rw [hm,<- h7,zK,zK,zK,<- zM,<- zM,<- zM,h7]
    congr 2
    omega
   .rw [q0E];refine yN (Nat.mul_le_mul_left _ (zV Oq (show t<=z by omega))) ?_;rw [h8]; exact hb
 obtain ⟨k1,k2,k3,k4⟩:=key;have hz:bl (snZ F n b i j).natAbs<=B:=q0M k2;refine ⟨k1,k2,?_,?_,k3,k4⟩
 .rw [k1];unfold q0Q;rw [q0E]
  by_cases h0:(snZ F n b i j).natAbs=0
  .rw [h0,yK,q02]; omega
  .rw [q1C h0]; omega
 .unfold q0Q;rw [hm,q0E]
  by_cases h0:m.natAbs=0
  .rw [h0,yK,q02]; omega
  .rw [q1C h0];have:=q0M hb;omega
def qfS (hK:K=65536) (hB:B<=400) (h:qt4 B F n b) {i j:Nat} (hi:i < n) (hj:j < n+1):((snZ F n b i j:Int):Rat)=(((2:Nat) ^ snM F n b:Nat):Rat)*rK K (snV F n b i j):=by
 have h1:=(qfT hK hB h hi hj).1;have h2:((snV F n b i j*(2:Int) ^ snM F n b:Int):Rat)=((snZ F n b i j*(2:Int) ^ K:Int):Rat):=by rw [h1]
 rw [Rat.intCast_mul,Rat.intCast_mul] at h2;have hp:(((2:Int) ^ K:Int):Rat)≠0:=by
  have:=pKp K;intro e; rw [e] at this; exact absurd this (by decide)
 have e3:(((2:Nat) ^ snM F n b:Nat):Rat)=(((2:Int) ^ snM F n b:Int):Rat):=by push_cast; rfl
 rw [e3];unfold rK;generalize (((2:Int) ^ K:Int):Rat)=P at *;generalize (((2:Int) ^ snM F n b:Int):Rat)=Q at *;rw [Rat.div_def,<- Rat.mul_assoc,Rat.mul_comm Q,h2,Rat.mul_assoc,Rat.mul_inv_cancel _ hp,Rat.mul_one]
def qwn {n:Nat} {A B:Mx} {c:Rat} {x:Nat->Rat} {i:Nat} (hi:i < n) (h:∀ r k,r < n->k < n->A r k=c*B r k):mv n A x i=c*mv n B x i:=by
 unfold mv;rw [<- qbs];refine q07 n λk hk=>?_;rw [h i k hi hk,Rat.mul_assoc]
def qjo (m:Nat):(((2:Nat) ^ m:Nat):Rat)≠0:=by
 have h:(0:Nat) < 2 ^ m:=Nat.two_pow_pos m;intro e;have e:((2:Nat) ^ m:Nat)=0:=by exact_mod_cast e
 omega
def qv4 (hK:K=65536) (hB:B<=400) (h:qt4 B F n b) (hr:det n (mA K F)≠0):(dtE n λr c=>(snZ F n b r c:Rat)).num≠0/\∀ i,i < n->mv n (mA K F) (λk=>((slX n (snZ F n b) (λi=>snZ F n b i n) k:Int):Rat) / (((dtE n λr c=>(snZ F n b r c:Rat)).num.natAbs:Int):Rat)) i=mB K b i:=by
 have hs:=qjo (snM F n b);have e1:∀ r c,r < n->c < n->((snZ F n b r c:Int):Rat)=(((2:Nat) ^ snM F n b:Nat):Rat)*mA K F r c:=λr c hr hc=>by
  rw [qfS hK hB h hr ω];unfold snV mA;rw [if_pos hc]
 have e2:∀ r,r < n->((snZ F n b r n:Int):Rat)=(((2:Nat) ^ snM F n b:Nat):Rat)*mB K b r:=λr hr=>by
  rw [qfS hK hB h hr ω];unfold snV mB;rw [if_neg ω]
 generalize (((2:Nat) ^ snM F n b:Nat):Rat)=c at *;have hd:det n (λr c=>(snZ F n b r c:Rat))≠0:=by
  rw [q4T n (B:=λi j=>c*mA K F i j) λi j hi hj=>e1 i j hi hj,qhk];intro e
  rcases Rat.mul_eq_zero.1 e with e | e
  .exact qq1 n (λ_ _=>hs) e
  .exact hr e
 refine ⟨λe=>hd ?_,λi hi=>?_⟩
 .rw [<- q8W,e]; rfl
 .have h1:=qpo (b:=λi=>snZ F n b i n) hd hi;rw [qwn (B:=mA K F) (c:=c) hi e1,e2 i hi] at h1;have h2:=congrArg (λt=>c⁻¹*t) h1;simp only [<- Rat.mul_assoc,Rat.inv_mul_cancel c hs,Rat.one_mul] at h2;exact h2
def qy9 {M:Nat->Nat->Int} (hn:n<=4) (hM:∀ r c,r < n->c < n->(M r c).natAbs < 2 ^ 120):bl (dtE n λr c=>(M r c:Rat)).num.natAbs<=500:=by
 have h3:fcN (2 ^ 120) n < 2 ^ 500:=by
  have hn4:n=0\/n=1\/n=2\/n=3\/n=4:=ω
  rcases hn4 with rfl | rfl | rfl | rfl | rfl <;> decide
 generalize (2:Nat) ^ 120=P at *;have h1:=qoM (m:=P) n (A:=λr c=>(M r c:Rat)) λi j hi hj=>by
  rw [qi6,Rat.intCast_natCast];exact Rat.natCast_le_natCast.2 (yZ (hM i j hi hj))
 rw [<- q8W,qi6,Rat.intCast_natCast] at h1;have h2:(dtE n λr c=>(M r c:Rat)).num.natAbs<=fcN P n:=Rat.natCast_le_natCast.1 h1;exact q0M (yN h2 h3)
def qv6 {M:Nat->Nat->Int} {b:Nat->Int} {j:Nat} (hn:n<=4) (hM:∀ r c,r < n->c < n->(M r c).natAbs < 2 ^ 120) (hb:∀ r,r < n->(b r).natAbs < 2 ^ 120):bl (slX n M b j).natAbs<=500:=by
 have h:=qy9 (M:=q8l M j b) hn λr c hr hc=>by
  unfold q8l
  split
  .exact hb r hr
  .exact hM r c hr hc
 unfold slX
 split
 .rw [yF]; exact h
 .exact h
end
set_option exponentiation.threshold 600
def qxn {mode m:Int} {t K:Nat} (hK:K=65536) (ht1:K<=t+1000) (ht2:t+56<=K) (h0:m≠0) (hb:m.natAbs < 2 ^ 110):∃ m':Int,q0I (fR mode (m*(2:Int) ^ t))/\ofZ (fR mode (m*(2:Int) ^ t))=m'*(2:Int) ^ t/\m'.natAbs<=2*m.natAbs:=by
 have hp:=q0H t;have hV0:m*(2:Int) ^ t≠0:=u6 h0 (yA hp);have hVn:(m*(2:Int) ^ t).natAbs=m.natAbs*2 ^ t:=q0E _ _;obtain ⟨g,hg⟩:∃ g,g=decide (m*(2:Int) ^ t < 0):=⟨_,rfl⟩;have hm:0 < m.natAbs:=ω
 generalize hn:m.natAbs=n at *;have hx:fR mode (m*(2:Int) ^ t)=rF mode g (n*2 ^ t) (2 ^ K):=by
  unfold fR;rw [if_neg hV0,<- hg,hVn,hK]
 obtain ⟨u,r,h1,h2,h3,h4,h5⟩:=q3j (mode:=mode) (neg:=g) (N:=n*2 ^ t) (D:=2 ^ K) (K:=K) (Nat.mul_pos hm (q0G _)) (q0G _) Oq;rw [hx,h2];have hu:u+1076 < 2047+K:=by
  rcases h5 with h5 | ⟨_,h5⟩
  .omega
  .rw [<- tD,yS,<- tD] at h5;have h6:=Nat.mul_lt_mul_of_pos_right hb (q0G (t+K));rw [<- tD] at h6;have h7:=(Nat.pow_lt_pow_iff_right (by omega:1 < 2)).1 (yN h5 h6);omega
 have hfv:=q6Z (mode:=mode) (neg:=g) hK h1 h4 (by rcases h5 with h5 | h5; exact .inl h5; exact .inr h5.1) hu;obtain ⟨f1,f2⟩:=q60 hfv;rw [yH (2 ^ K) (2 ^ u),q3Q (q0G K)] at h3
 by_cases hut:u<=t
 .obtain ⟨c,rfl⟩:∃ c,t=u+c:=⟨t-u,ω⟩;have hr:r=n*2 ^ c:=by
   rw [h3,tD,yH (2 ^ u),<- yS,q3R (Nat.mul_mod_left _ _),Nat.mul_div_cancel _ (q0G u)]
  refine ⟨sgn g n,f1,?_,by rw [q1S]; omega⟩;rw [f2,hr,q7h,zK,<- zM,Nat.add_comm c]
 .obtain ⟨c,rfl⟩:∃ c,u=t+c:=⟨u-t,ω⟩;refine ⟨sgn g (r*2 ^ c),f1,?_,?_⟩
  .rw [f2,q7h,zK,<- zM,Nat.add_comm c]
  .rw [q1S];have h6:r<=n*2 ^ t / 2 ^ (t+c)+1:=by rw [h3]; exact qqI
   rw [tD,yH n,Nat.mul_div_mul_left _ _ (q0G t)] at h6;have h7:r*2 ^ c<=(n / 2 ^ c+1)*2 ^ c:=yV _ h6;rw [Nat.add_mul,Nat.one_mul] at h7;have h8:=Nat.div_mul_le_self n (2 ^ c);have h9:2 ^ c<=n / 2 ^ 52:=by
    rcases h5 with h5 | ⟨_,h5⟩
    .omega
    .rw [Nat.le_div_iff_mul_le (q0G 52),<- tD];rw [yH,show t+c+52=c+52+t by omega,tD 2 (c+52) t] at h5;exact yO (yO h5 (q0G K)) (q0G t)
   have h10:=Nat.div_le_self n (2 ^ 52);omega
def qc3 {mode:Int} {x y a b:Nat} (hx:gok a x) (hy:gok b y) (hab:a+b<=2 ^ 100):gok (2*(a+b)+1) (q6f mode x y):=by
 obtain ⟨x1,x2,m,x3,x4⟩:=hx;obtain ⟨y1,y2,k,y3,y4⟩:=hy;unfold q6f;rw [if_neg (not_not_intro y2)]
 split
 .exact ⟨x1,x2,m,x3,ω⟩
 .split
  .split
   .exact ⟨ω,by unfold q0I; omega,0,by rw [qwd,zU],ω⟩
   .exact qrT Oq
  .rename_i h0;rw [x3,y3,<- y8] at h0 ⊢;have hmk:m+k≠0:=λe=>h0 (by rw [e,zU]);obtain ⟨K,hK⟩:∃ K:Nat,K=65536:=⟨_,rfl⟩;have hlt:(m+k).natAbs < 2 ^ 110:=by
    have:(m+k).natAbs < a+b:=ω
    have h2:(2:Nat) ^ 100<=2 ^ 110:=zV Oq Oq;omega
   obtain ⟨m',g1,g2,g3⟩:=qxn (mode:=mode) (t:=tUn) hK (by rw [qaY]; omega) (by rw [qaY]; omega) hmk hlt;exact ⟨q2e,g1,m',g2,ω⟩
def qkd {x b:Nat} (hx:gok b x):gok b (q5L x):=by
 obtain ⟨x1,x2,m,x3,x4⟩:=hx;exact ⟨q6O x1,(qcN x1).2 x2,-m,by rw [q7y x1 x2,x3,Int.neg_mul],ω⟩
def qbk {G:Nat->Nat->Option Nat} {n i b:Nat} (hG:∀ r c,gok (b+1) ((G r c).getD 0)) (hi:i < n):∀ k,∃ m:Nat,q1R (rgL G i k)=(m:Int)*(2:Int) ^ tUn/\0 < m/\m<=2 ^ 56+2*k*b
 | 0=>⟨2 ^ 56,by
   unfold rgL;rw [q28,qcK,show (((2 ^ 56:Nat):Int))=(2:Int) ^ 56 from rfl,<- zM];exact congrArg (λk:Nat=>(2:Int) ^ k) (show 65536=56+tUn by rw [qaY]),q0G 56,ω⟩
 | k+1=>by
  obtain ⟨m,h1,h2,h3⟩:=qbk hG hi k;have h4:2*(k+1)*b=2*k*b+2*b:=by rw [Nat.mul_add,Nat.add_mul]
  unfold rgL
  split
  .exact ⟨m,h1,h2,by rw [h4]; omega⟩
  .obtain ⟨_,_,a,a1,a2⟩:=hG k i;obtain ⟨_,_,c,c1,c2⟩:=hG i k;refine ⟨m+a.natAbs+c.natAbs,?_,by clear h1 a1 c1; omega,by clear h1 a1 c1; rw [h4]; omega⟩;rw [show ∀ p q:Int,[p,q]=[p] ++ [q] from λ_ _=>rfl,<- List.append_assoc,q0m,q0m,h1,a1,c1,q0E,q0E]
   push_cast
   rw [y8,y8]
def q9U {w:Nat}:gok (9*2 ^ 56+1) (q2d 0 w):=by
 unfold q2d;rw [if_neg ω,if_neg ω,if_neg ω];have hs:=q53 w;generalize q4C w=z at *;refine ⟨qnx Oq,qau Oq,z*(2:Int) ^ 56,?_,?_⟩
 .obtain ⟨K,hK⟩:∃ K:Nat,K=65536:=⟨_,rfl⟩;rw [qgG hK ω,zK,<- zM,show K=56+tUn by rw [hK,qaY]]
 .rw [q0E];have:=zN (show z.natAbs<=9 by omega) (zE (2 ^ 56));omega
def qgv {raw:List Nat} {n j i:Nat}:gok (9*2 ^ 56+1) ((gF raw n 0 j i).getD 0):=by
 unfold gF
 split
 .rw [y6]; exact q9U
 .rw [Option.getD_none]; exact qrT ω
def qjj {raw:List Nat} {n:Nat} (hn:n<=4) {j i:Nat} (hi:i < n):gok (2 ^ 70) ((rgF (gF raw n 0) n j i).getD 0):=by
 have p70:(2:Nat) ^ 70=1180591620717411303424:=by decide
 have p56:(2:Nat) ^ 56=72057594037927936:=by decide
 unfold rgF
 split
 .obtain ⟨m,h1,h2,h3⟩:=qbk (G:=gF raw n 0) (n:=n) (i:=i) (b:=9*2 ^ 56) (λr c=>qgv) hi n;have h4:m<=2 ^ 56+8*(9*2 ^ 56):=z6 h3 (Nat.add_le_add_left (yV _ (show 2*n<=8 by omega)) _);obtain ⟨K,hK⟩:∃ K:Nat,K=65536:=⟨_,rfl⟩;have h5:((m:Int)).natAbs < 2 ^ 110:=by
   rw [zF];have:(2:Nat) ^ 70<=2 ^ 110:=zV Oq Oq;omega
  have h6:(m:Int)≠0:=by clear h1; omega
  obtain ⟨m',g1,g2,g3⟩:=qxn (mode:=2) (m:=(m:Int)) (t:=tUn) hK (by rw [qaY]; omega) (by rw [qaY]; omega) h6 h5;rw [zF] at g3;rw [y6,h1];exact ⟨q2e,g1,m',g2,by clear g1 g2 h1; omega⟩
 .exact qgv.mono Oq
def qsW {raw:List Nat} {n:Nat} (hn:n<=4) {j i:Nat} (hi:i < n):gok (2 ^ 70) ((ckT raw n 0 true j i).getD 0):=by
 have e:ckT raw n 0 true=rgF (gF raw n 0) n:=by
  unfold ckT;rw [if_pos rfl,show q0Y ((q0Y 0 3:Nat):Int) 4=0 from rfl]
 rw [e];exact qjj hn hi
def qej {raw:List Nat} {k:Int} {n:Nat}:∀ x ∈ q4g raw k 0 n,gok (2 ^ 70) x:=λx hx=>by
 unfold q4g at hx;obtain ⟨i,_,rfl⟩:=zL.1 hx;have p70:(2:Nat) ^ 70=1180591620717411303424:=by decide
 have p56:(2:Nat) ^ 56=72057594037927936:=by decide
 exact q9U.mono Oq
section
variable {raw:List Nat} {wd k:Int} {v:Nat}
def qtE:gok (2 ^ 56) (arW raw wd k):=by
 unfold arW
 split
 .exact qrT (by decide)
 .have hm:q0Y wd 50 < 50:=by unfold q0Y; omega
  obtain ⟨o1,o2,o3⟩:=qfs (U:=65528) (t:=65532-q0Y wd 50) rfl Oq Oq;refine ⟨o2,o3,1*(2:Int) ^ (52-q0Y wd 50),?_,?_⟩
  .rw [o1,yR,<- zM];exact congrArg (λk:Nat=>(2:Int) ^ k) (show 65532-q0Y wd 50=52-q0Y wd 50+tUn by rw [qaY]; omega)
  .rw [q0E];have:(2:Nat) ^ (52-q0Y wd 50)<=2 ^ 52:=zV Oq Oq;have p56:(2:Nat) ^ 56=16*2 ^ 52:=by decide
   rw [p56];have:0 < 2 ^ 52:=by decide
   show 1*2 ^ (52-q0Y wd 50) < 16*2 ^ 52
   omega
def qiW (hv:gok (2 ^ 70) v):gok (2 ^ 72) (arF raw wd k v).1/\gok (2 ^ 72) (arF raw wd k v).2:=by
 have p72:(2:Nat) ^ 72=4722366482869645213696:=by decide
 have p70:(2:Nat) ^ 70=1180591620717411303424:=by decide
 have p56:(2:Nat) ^ 56=72057594037927936:=by decide
 have p100:(2:Nat) ^ 100=1267650600228229401496703205376:=by decide
 have hw:=qtE (raw:=raw) (wd:=wd) (k:=k);unfold arF;exact ⟨(qc3 hv (qkd hw) Oq).mono Oq,(qc3 hv hw Oq).mono Oq⟩
end
section
variable {K:KwT} {A:Mx} {B s:Nat->Rat}
def qkU {f:Nat} (hf:f < 18446744073709551616/\q0I f):¬ q1M f < q1M 18442240474082181120:=by
 obtain ⟨h1,h2⟩:=hf;unfold q0I at h2;unfold q1M q2J
 repeat' split
 all_goals omega
def qkT {f:Nat} (hf:f < 18446744073709551616/\q0I f):¬ q1M 9218868437227405312 < q1M f:=by
 obtain ⟨h1,h2⟩:=hf;unfold q0I at h2;unfold q1M q2J
 repeat' split
 all_goals omega
def qnl:∀ {m i:Nat},kwB K m=true->i < m->q1M (K.x.getD i (0,0)).1 < q1M (kwO K i).1/\q1M (kwO K i).2 < q1M (K.x.getD i (0,0)).2
 | 0,i,_,h=>by omega
 | m+1,i,hb,h=>by
  rw [qxP,Bool.and_eq_true] at hb
  by_cases e:i=m
  .subst e; simpa using hb.2
  .exact qnl hb.1 Oq
def qwU {K:Nat} {a b:Int} (h:a < b):rK K a < rK K b:=by
 rw [<- Rat.not_le,qae];omega
def qxO (h:KwF K) (hp:KwP K) (hb:K.b.length=K.n) (hB:kwB K K.n=true) {i:Nat} (hi:i < K.n):ofZ (K.x.getD i (0,0)).1 < (kwS K i K.n).1/\(kwS K i K.n).2 < ofZ (K.x.getD i (0,0)).2:=by
 obtain ⟨h1,h2⟩:=qnl hB hi;obtain ⟨_,⟨p1,p2,_⟩,q1,q2⟩:=qqy h hp hb hi;unfold kwO at h1 h2;dsimp only at h1 h2;have hlo:(K.x.getD i (0,0)).1 < 18446744073709551616/\q0I (K.x.getD i (0,0)).1:=⟨q1.1,p1⟩;have hhi:(K.x.getD i (0,0)).2 < 18446744073709551616/\q0I (K.x.getD i (0,0)).2:=⟨q2.1,p2⟩
 constructor
 .rcases qxm (V:=(kwS K i K.n).1) with e | ⟨e1,e2⟩
  .rw [e] at h1; exact (qkU hlo h1).elim
  .have:=qgc ⟨q2e,e1⟩ hlo;omega
 .rcases qxk (V:=(kwS K i K.n).2) with e | ⟨e1,e2⟩
  .rw [e] at h2; exact (qkT hhi h2).elim
  .have:=qgc hhi ⟨q2e,e1⟩;omega
def qkS (h:KwF K) (hp:KwP K) (hb:K.b.length=K.n) (hB:kwB K K.n=true) (hI:KwI K A B):det K.n A≠0/\∀ s:Nat->Rat,(∀ i,i < K.n->mv K.n A s i=B i)->∀ i,i < K.n->inS (kwS K i K.n) (s i):=by
 have hX:∀ y:Nat->Rat,(∀ i,i < K.n->rK 65536 (ofZ (K.x.getD i (0,0)).1)<=y i/\y i<=rK 65536 (ofZ (K.x.getD i (0,0)).2))->∀ i,i < K.n->rK 65536 (ofZ (K.x.getD i (0,0)).1) < tK K.n A (kvR K) B y i/\tK K.n A (kvR K) B y i < rK 65536 (ofZ (K.x.getD i (0,0)).2):=λy hy i hi=>by
  obtain ⟨a1,a2⟩:=qxS h hp hb hI (y:=y) (λj hj=>hy j hj) hi;obtain ⟨b1,b2⟩:=qxO h hp hb hB hi;have c1:=qwU (K:=65536) b1;have c2:=qwU (K:=65536) b2;generalize rK 65536 (ofZ (K.x.getD i (0,0)).1)=u1 at *;generalize rK 65536 (ofZ (K.x.getD i (0,0)).2)=u2 at *;generalize rK 65536 (kwS K i K.n).1=v1 at *;generalize rK 65536 (kwS K i K.n).2=v2 at *
  constructor <;> grind
 have hle:∀ i,i < K.n->rK 65536 (ofZ (K.x.getD i (0,0)).1)<=rK 65536 (ofZ (K.x.getD i (0,0)).2):=λi hi=>by
  obtain ⟨_,⟨_,_,p3⟩,_⟩:=qqy h hp hb hi;exact qae.2 p3
 have hlt:∀ i,i < K.n->rK 65536 (ofZ (K.x.getD i (0,0)).1) < rK 65536 (ofZ (K.x.getD i (0,0)).2):=λi hi=>by
  obtain ⟨a1,a2⟩:=hX (λi=>rK 65536 (ofZ (K.x.getD i (0,0)).1)) (λj hj=>⟨Rat.le_refl,hle j hj⟩) i hi
  grind
 refine ⟨qxR hX hlt,λs hs i hi=>?_⟩;have h1:=qxQ hX hlt hs;have h2:=qxS h hp hb hI (y:=s) (λj hj=>h1 j hj) hi;rw [quz hs i] at h2;exact h2
def qqz {N D:Int} (hD:0 < D) {i:Nat} (h:inS (kwS K i K.n) ((N:Rat) / (D:Rat))):inIv 65536 (kwO K i) N D:=by
 obtain ⟨h1,h2⟩:=h;unfold kwO inIv;dsimp only
 constructor
 .rcases qxm (V:=(kwS K i K.n).1) with e | ⟨e1,e2⟩
  .exact .inl e
  .exact .inr ⟨e1,rK_dn hD (Rat.le_trans (qae.2 e2) h1)⟩
 .rcases qxk (V:=(kwS K i K.n).2) with e | ⟨e1,e2⟩
  .exact .inl e
  .exact .inr ⟨e1,rK_up hD (Rat.le_trans h2 (qae.2 e2))⟩
end
def qws {V:Int} {m:Nat} (ho:q0Q (V*(2:Int) ^ m)):mkV (od V) (dyE V+m)=some (V*(2:Int) ^ m):=by
 have a1:=q64 (V:=V);rw [q3X (V:=V*(2:Int) ^ m) ω ?_,q1e ho];have h0:=q1x (V:=V) (E:=dyE V) a1 (y7 _);rw [Int.sub_self,show (0:Int).toNat=0 from rfl,Int.pow_zero,Int.mul_one] at h0;rw [show (dyE V+m+65536).toNat=(dyE V+65536).toNat+m by omega,zM,<- zK,h0]
def qny {a b c d:PV}:fdP Tryz.prog 48 2 (.ag [a,b,c,d])=some d:=κ
abbrev pDt (n c:Nat) (V:Nat->Nat->Int):PV:=.sl none ((List.range n).map λi=>.sl (some 4) ((List.range c).map λj=>dT (V i j)))
def qao {n c K m:Nat} {V Z:Nat->Nat->Int} (hK:K=65536) (hn:n<=20) (hc:c<=21) (hm:ltA V c n = -(m:Int)) (hm2:m<=60000) (hV:∀ i j,i < n->j < c->q0Q (V i j)) (hZ:∀ i j,i < n->j < c->V i j*(2:Int) ^ m=Z i j*(2:Int) ^ K/\q0Q (V i j*(2:Int) ^ m)) (hE:∀ i j,i < n->j < c -> -60000<=dyE (V i j)/\dyE (V i j)<=60000) (hL:∀ i,i<=n -> -60000<=ltA V c i) (hLr:∀ i j,i < n->j<=c -> -60000<=ltR V i (ltA V c i) j/\ltR V i (ltA V c i) j<=0) :
  ACt 103 [pDt n c V] (.sl none ((List.range n).map λi=>.sl (some 2) (q3T c Z i))):=by
 have cSg:=λi j (hi:i < n) (hj:j < c)=>ac_p1 (hV i j hi hj) (q4U (V:=V i j));have cNm:=λi j (hi:i < n) (hj:j < c)=>q0l (hV i j hi hj);have cSc:=λi j (hi:i < n) (hj:j < c)=>q5x (hV i j hi hj) (j:=(m:Int)) Oq Oq (qws (hZ i j hi hj).2);have cFl:=λi j (hi:i < n) (hj:j < c)=>qfB hK (hZ i j hi hj).2 (hZ i j hi hj).1;have hrl:((List.range n).map λi=>PV.sl (some 4) ((List.range c).map λj=>dT (V i j))).length=n:=σ
 have hcl:∀ i,((List.range c).map λj=>dT (V i j)).length=c:=λi=>by simp
 have hrg:=λi (hi:i < n)=>show ((List.range n).map λi=>PV.sl (some 4) ((List.range c).map λj=>dT (V i j)))[i]?=some (.sl (some 4) ((List.range c).map λj=>dT (V i j))) by rw [zA,zD hi]; rfl
 have hcg:=λi j (hj:j < c)=>show ((List.range c).map λj=>dT (V i j))[j]?=some (dT (V i j)) by rw [zA,zD hj]; rfl
 have hA0:ltA V c 0=0:=rfl;have hAs:=λi=>show ltA V c (i+1)=ltR V i (ltA V c i) c from rfl;have hR0:=λi l=>show ltR V i l 0=l from rfl;have hRs:=λi l j=>show ltR V i l (j+1)=if V i j=0 then ltR V i l j else min (ltR V i l j) (dyE (V i j)) from rfl
 unfold pDt;generalize (List.range n).map (λi=>PV.sl (some 4) ((List.range c).map λj=>dT (V i j)))=M at *;refine ac0 Tryz.func103 Tryz.ntmps103 [.tmp 2] ?_;refine wk ?_;refine q0A (λi=>i<=n) [0] [] Lk Lk (λi:Nat=>[(4,iv i),(3,iv (ltA V c i))]) (λ_=>[]) (λi=>n-i) 0 (zI _) ?_ ?_
 .rw [hA0];refine LeM [] rfl rfl ?_;refine Zz ?_
  first | rfl | exact ⟨rfl,rfl⟩
 .intro i hi
  by_cases hlt:i < n
  .have q:(i:Int) < n:=ω
   have gi:=hrg i hlt;have gl:=hcl i;refine wk1 (x2 q hrl) ?_;refine q0A (λj=>j<=c) [0,4] [] Lk Lk (λj:Nat=>[(5,iv j),(3,iv (ltR V i (ltA V c i) j))]) (λ_=>[]) (λj=>c-j) 0 (zI _) ?_ ?_
   .rw [hR0];refine LeM [] rfl rfl ?_;refine Zz ?_
    first | rfl | exact ⟨rfl,rfl⟩
   .intro j hj
    by_cases hlj:j < c
    .have q2:(j:Int) < c:=ω
     have gj:=hcg i j hlj;have c1:=cSg i j hlt hlj;have c2:=cNm i j hlt hlj;have rs:=hRs i (ltA V c i) j;generalize ltR V i (ltA V c i) j=l0 at *
     by_cases h0:V i j=0
     .have s0:(V i j).sign=0:=by rw [h0]; rfl
      rw [s0] at c1;rw [if_pos h0] at rs;refine wk1 (x5 q2 gi hrl gl gj) ?_;refine ⟨j+1,ω,ω,?_⟩;rw [rs];refine LeM [] rfl rfl ?_;refine Zz ?_;omega
     .have s0:((V i j).sign != 0)=true:=by simp [yB,h0]
      rw [if_neg h0] at rs;generalize (V i j).sign=sg at *;refine wk1 (x6 q2 gi hrl gl gj s0) ?_;refine qig λK hK=>?_;simp -implicitDefEqProofs (disch:=omega) only [go_sem,Nat.reduceEqDiff,Nat.reduceAdd,↓reduceIte,i64_in,Bool.not_true,Bool.not_false,yG,Nat.zero_add,Int.reduceLT,Int.reduceEq,zF,Bool.true_and,Bool.false_and,Bool.and_true,Bool.and_false,qd5,qd6,qd9,qda,qd7,qd8,q4q,q4r,q4s,q4t,q4o,q4p,q2,gi,hrl,gl,gj,s0,@qny];refine q0T c2 ?_
      try simp -implicitDefEqProofs (disch:=omega) only [go_sem,Nat.reduceEqDiff,Nat.reduceAdd,↓reduceIte,@qny]
      refine hK _ _ ?_; clear hK K;refine wk ?_;refine ⟨j+1,ω,ω,?_⟩;rw [rs];refine LeM [] rfl rfl ?_;refine Zz ?_;omega
    .obtain rfl:j=c:=ω
     have q2:¬ (j:Int) < j:=ω
     refine wk1 (x4 q2 gi hrl gl) ?_;refine ⟨i+1,ω,ω,?_⟩;rw [hAs];refine LeM [] rfl rfl ?_;refine Zz ?_
     first | omega | exact ⟨ω,rfl⟩
  .obtain rfl:i=n:=ω
   have q:¬ (i:Int) < i:=ω
   rw [hm];have wng:IntKind.i64.wrap (0 - -(m:Int))=(m:Int):=by rw [i64_in ω ω]; omega
   clear cSg cNm hL hLr hE hA0 hAs hR0 hRs hm;refine wk1 (x2 q hrl) ?_;refine q0r (LeT (hw:=tXB c 0 Z) tnW (λ_ h=>h.elim) (λi hi hw=>?_) (λi b hw hb=>?_) (λi j x hi hj ti tj=>?_) (xs:=[(0,.sl none M),(3,iv (-(m:Int))),(6,.ow 5000 none 0 0),(7,iv 0)]) (kv:=[]) (bs:=[]) (kb:=[]) ?_) ?_
   .simp at hi
   .unfold LeB;rw [q5I hw.1 hw.2]
    rcases q0j hb with ⟨rfl,rfl⟩ | ⟨_,h1,h2,_⟩ | ⟨_,_,hb⟩
    .rfl
    .omega
    .cases hb
   .unfold tnW at ti tj
    split at ti <;> split at tj <;> cases ti <;> cases tj <;> rfl
   .try simp -implicitDefEqProofs (disch:=omega) only [go_sem,Nat.reduceEqDiff,Nat.reduceAdd,↓reduceIte]
   refine q0P (λt=>t<=i) [0,3] [] Lk Lk (λt:Nat=>[(6,.ow 5000 none 0 t),(7,iv t)]) (λ_=>[]) (λt=>tXB c t Z) (λt=>i-t) 0 (zI _) ?_ ?_
   .refine LeW [] rfl rfl ?_ ?_ (by simp [q0i,q0c,win]) ?_
    .exact Ow
    .exact wfB (q6w Oq)
    .try refine Zz ?_
     rfl
   .intro t ht
    by_cases hlt:t < i
    .have hlt':(t:Int) < i:=ω
     have gi:=hrg t hlt;have gl:=hcl t;refine wk1 (x2 hlt' hrl) ?_;refine q0P (λe=>e<=c) [0,3,6,7] [] Lk Lk (λe:Nat=>[(8,.ow 1001 (some 2) 0 e),(9,iv e)]) (λe=>[(1001,⟨46,some 2,(List.range e).map λe=>bT (Z t e),false⟩)]) (λ_=>tXB c t Z) (λe=>c-e) 0 (zI _) ?_ ?_
     .refine LeW [(1001,none)] rfl rfl ?_ ?_ (by simp [q0i,q0c,win]) ?_
      .exact Ow
      .exact wfB (q6w Oq)
      .try refine Zz ?_
       exact ⟨rfl,rfl⟩
     .intro e he
      by_cases hen:e < c
      .have hen':(e:Int) < c:=by omega
       have gj:=hcg t e hen;have d2:=cSc t e hlt hen;have d3:=cFl t e hlt hen;generalize V t e*(2:Int) ^ m=W at *;generalize V t e=V0 at *;unfold dT at gj d2 d3;clear cSc cFl;refine wk1 (x6 hen' gi hrl gl gj wng) ?_;refine ⟨e+1,ω,ω,?_⟩;refine LeW [(1001,some 79)] rfl rfl ?_ ?_ (by simp [q0i,q0c,win]) ?_
       .exact Ow
       .exact wfB (q6w Oq)
       .try refine Zz ?_
        exact ⟨ω,q0C (by rw [zC]; rfl) qzC⟩
      .obtain rfl:c=e:=ω
       have hcc:¬ (c:Int) < c:=ω
       refine wk1 (x4 hcc gi hrl gl) ?_;refine ⟨t+1,ω,ω,?_⟩;refine q1s (T1:=64) (T2:=46) (K:=some 2) (N:=5000) (R:=10000) (n:=t) (o:=83) (r:=1001) (l:=q3T c Z t) (hw:=tXB c t Z) (hw':=tXB c (t+1) Z) (λ_ h=>h.elim) clB (λj=>(q3T c Z j).length) ?_ ?_ (λi h1 h2=>?_) q1H (q1F ω ω) (λi h1 h2=>q1G h1 h2) (λj hj=>q26 ω) (q6w ω) (q6i qb2 (λ_ _=>clB) λj hj=>by omega) ?_ ω ω ω ω ω ω (by simp [nmW]) ?_
       .try refine Zz ?_
        rw [q59]
       .try refine Zz ?_
        rfl
       .obtain ⟨w1,w2⟩:=h1
        repeat rw [q0B ω]
        rw [q0W ⟨w1,w2⟩]
       .exact q0O Oq (.inr Oq)
       .try refine Zz ?_
        omega
    .obtain rfl:i=t:=ω
     have hnn:¬ (i:Int) < i:=ω
     have hcB:(∀ j,j < i->ClL (q3T c Z j))=True:=eq_true λ_ _=>clB;have tk:List.take i ((List.range i).map λj=>PV.sl (some 2) (q3T c Z j))=(List.range i).map λj=>PV.sl (some 2) (q3T c Z j):=zP σ;exact wk1 (x4 hnn hrl hcB tk) trivial
def qeY (c:Nat) (V:Nat->Nat->Int) (r:Nat):List PV:=(List.range c).map λj=>dT (V r j)
def q7o {c r:Nat} {V:Nat->Nat->Int}:(qeY c V r).length=c:=by unfold qeY; simp
def clRD {c r:Nat} {V:Nat->Nat->Int}:ClL (qeY c V r):=λx hx=>by
 obtain ⟨z,_,rfl⟩:=zL.1 hx;intro y hy;simp at hy
 rcases hy with rfl | rfl | rfl | rfl <;> trivial
def clDx {l:List Nat} {f:Nat->Int}:ClL (l.map λe=>dT (f e)):=λx hx=>by
 obtain ⟨z,_,rfl⟩:=zL.1 hx;intro y hy;simp at hy
 rcases hy with rfl | rfl | rfl | rfl <;> trivial
def qzB {l:List Nat} {X:Nat->List PV}:ClL (l.map λe=>PV.sl (some 2) (X e)):=λx hx=>by
 obtain ⟨c,_,rfl⟩:=zL.1 hx
 trivial
abbrev tXD (c t:Nat) (V:Nat->Nat->Int):Hp:=q1V 39 48 (some 4) 5000 10000 t (qeY c V) h0
def qbj {c t:Nat} {V:Nat->Nat->Int} (ht:t<=1000):BOk (tXD c t V) win:=q1P BOk.h0 (λ_ _=>clRD) Oq ⟨⟨ω,ω⟩,λj hj=>⟨ω,ω⟩⟩
def qwC {c r:Nat} {V:Nat->Nat->Int}:((List.range c).map λj=>dT (V r j)) ++ [dT (V r c)]=qeY (c+1) V r:=by unfold qeY; rw [zW,zC]; rfl
def qa3 {F:Nat->Nat->Option Nat} {n K B:Nat} {b:List Nat} (hK:K=65536) (h:TOk F n n) (hn:n<=5) (hb:q0b b) (hbl:b.length=n) (hB:B<=100) (hS:qt4 B F n b) (h0:(dtE n λr c=>(snZ F n b r c:Rat)).num≠0) :
  ACt 28 [pT n n F,pF b] (.tu [pZB n (slX n (snZ F n b) λi=>snZ F n b i n),bT ((dtE n λr c=>(snZ F n b r c:Rat)).num.natAbs:Nat),bv true]):=by
 have cA:=λr c (hr:r < n) (hc:c < n)=>q5z (i:=r) (j:=c) h hr hc;have cO:=λr c (hr:r < n) (hc:c < n)=>qdU (x:=(F c r).getD 0) ⟨(h.fin hc hr).2,(h.fin hc hr).1⟩;have cOb:=λr (hr:r < n)=>qdU (x:=b.getD r 0) (hb _ (by rw [zG,zB ω]; exact u9 _));have hgb:=λr (hr:r < n)=>show (b.map λz:Nat=>uv z)[r]?=some (uv (b.getD r 0:Nat)) by rw [zA,zB ω,zG,zB ω]; rfl
 obtain ⟨m1,m2,m3⟩:=qnI hK hS;have hz:=λi j hi hj=>qfT (i:=i) (j:=j) hK Oq hS hi hj;have cI:=qao (n:=n) (c:=n+1) (K:=K) (m:=snM F n b) (V:=snV F n b) (Z:=snZ F n b) hK Oq Oq m1 Oq (λi j hi hj=>(hz i j hi hj).2.2.2.1) (λi j hi hj=>⟨(hz i j hi hj).1,(hz i j hi hj).2.2.1⟩) (λi j hi hj=>by have:=(hz i j hi hj).2.2.2.2; omega) (λi hi=>by
   have:=qcT (V:=snV F n b) (c:=n+1) (b := -60000) Oq (n:=i) (λi k hi' hk _=>by have:=(hz i k Oq hk).2.2.2.2.1; omega) i (zE _);exact this) (λi j hi hj=>by
   have h1:=qcT (V:=snV F n b) (c:=n+1) (b := -60000) Oq (n:=i) (λi k hi' hk _=>by have:=(hz i k Oq hk).2.2.2.2.1; omega) i (zE _);have h2:=qqr (V:=snV F n b) (c:=n+1) i;have h3:=qcS (V:=snV F n b) (i:=i) (l:=ltA (snV F n b) (n+1) i) j;have h4:=qg3 (V:=snV F n b) (i:=i) (l:=ltA (snV F n b) (n+1) i) (c:=n+1) (b := -60000) h1 (λk hk _=>by have:=(hz i k hi hk).2.2.2.2.1; omega) j hj;omega)
 have hp:(2:Nat) ^ B<=2 ^ 100:=zV Oq hB;have cS:=qfR (n:=n) (M:=snZ F n b) (b:=λi=>snZ F n b i n) hn (λr c hr hc=>q0M (Nat.lt_of_lt_of_le (hz r c hr Oq).2.1 hp)) (λr hr=>q0M (Nat.lt_of_lt_of_le (hz r n hr Oq).2.1 hp)) h0;have c1:=q3f (a:=1) Oq Oq;have hvF:∀ r c,r < n->c < n->ofZ ((F c r).getD 0)=snV F n b r c:=λr c hr hc=>by unfold snV; rw [if_pos hc]
 have hvb:∀ r,r < n->ofZ (b.getD r 0)=snV F n b r n:=λr hr=>by unfold snV; rw [if_neg ω]
 have hD0:n=0->(dtE n λr c=>(snZ F n b r c:Rat)).num.natAbs=1:=λh=>by subst h; rfl
 clear m1 m2 m3 hz hp h0 hS hb;generalize (dtE n λr c=>(snZ F n b r c:Rat)).num.natAbs=D at *;generalize slX n (snZ F n b) (λi=>snZ F n b i n)=X at *;generalize snV F n b=V at *;generalize snZ F n b=Z at *;unfold pT q2M at *;generalize (tM F n n).1=ms at *;generalize (tM F n n).2.1=mi at *;generalize (tM F n n).2.2=mv at *;refine ac0 Tryz.func28 Tryz.ntmps28 [.tmp 4,.cell 5 46,.tmp 6] ?_;refine wk ?_;refine q0r (LeT (hw:=tXD (n+1) 0 V) tnW (λ_ h=>h.elim) (λi hi hw=>?_) (λi b hw hb=>?_) (λi j x hi hj ti tj=>?_) (xs:=[(1,pF b),(2,.pt 2 0 0),(4,q05),(5,.pt 5 0 0),(6,bv false),(7,.ow 5000 none 0 0),(8,iv 0)]) (kv:=[]) (bs:=[(2,⟨27,some 5,[.ag [iv n,iv n,pI ms,pI mi,pF mv]],false⟩),(5,⟨46,some 2,[.ag [bv false,q05]],false⟩)]) (kb:=[]) ?_) ?_
 .simp at hi;unfold win at hw;omega
 .unfold LeB;rw [q5I hw.1 hw.2]
  rcases q0j hb with ⟨rfl,rfl⟩ | ⟨_,h1,h2,_⟩ | ⟨_,_,hb⟩
  .rfl
  .omega
  .cases hb
 .unfold tnW at ti tj
  split at ti <;> split at tj <;> cases ti <;> cases tj <;> rfl
 .try simp -implicitDefEqProofs (disch:=omega) only [go_sem,Nat.reduceEqDiff,Nat.reduceAdd,↓reduceIte]
 refine q0P (λt=>t<=n) [1,2,4,5,6] [2,5] Lk Lk (λt:Nat=>[(7,.ow 5000 none 0 t),(8,iv t)]) (λ_=>[]) (λt=>tXD (n+1) t V) (λt=>n-t) 0 (zI _) ?_ ?_
 .refine LeW [] rfl rfl ?_ ?_ (by simp [q0i,q0c,win]) ?_
  .exact Ow
  .exact wfB (qbj Oq)
  .try refine Zz ?_
   rfl
 .intro t ht
  by_cases hlt:t < n
  .have hlt':(t:Int) < n:=ω
   refine wk1 hlt' ?_;refine q0P (λc=>c<=n) [1,2,4,5,6,7,8] [2,5] Lk Lk (λc:Nat=>[(9,.ow 1001 (some 4) 0 c),(10,iv c)]) (λc=>[(1001,⟨48,some 4,(List.range c).map λe=>dT (V t e),false⟩)]) (λ_=>tXD (n+1) t V) (λc=>n-c) 0 (zI _) ?_ ?_
   .refine LeW [(1001,none)] rfl rfl ?_ ?_ (by simp [q0i,q0c,win]) ?_
    .exact Ow
    .exact wfB (qbj Oq)
    .try refine Zz ?_
     exact ⟨rfl,rfl⟩
   .intro c hc
    by_cases hcn:c < n
    .have hcn':(c:Int) < n:=ω
     have d1:=cA t c hlt hcn;have d2:=cO t c hlt hcn;rw [hvF t c hlt hcn] at d2;generalize (F c t).getD 0=x at *;refine wk1 hcn' ?_;refine ⟨c+1,ω,ω,?_⟩;refine LeW [(1001,some 34)] rfl rfl ?_ ?_ (by simp [q0i,q0c,win]) ?_
     .exact Ow
     .exact wfB (qbj Oq)
     .try refine Zz ?_
      exact ⟨ω,q0C (by rw [zC]; rfl) clDx⟩
    .obtain rfl:n=c:=ω
     have hcn':¬ (n:Int) < n:=ω
     have d2:=cOb t hlt;have gb:=hgb t hlt;rw [hvb t hlt] at d2;generalize b.getD t 0=x at *;refine wk1 (x2 hcn' gb) ?_;refine ⟨t+1,ω,ω,?_⟩;refine q1s (T1:=39) (T2:=48) (K:=some 4) (N:=5000) (R:=10000) (n:=t) (o:=45) (r:=43) (l:=qeY (n+1) V t) (hw:=tXD (n+1) t V) (hw':=tXD (n+1) (t+1) V) (λ_ h=>h.elim) clRD (λj=>(qeY (n+1) V j).length) ?_ ?_ (λi h1 h2=>?_) q1H (q1F ω ω) (λi h1 h2=>q1G h1 h2) (λj hj=>q26 ω) (qbj ω) (q6i qb2 (λ_ _=>clRD) λj hj=>by omega) ?_ ω ω ω ω ω ω (by simp [nmW]) ?_
     .try refine Zz ?_
      rw [q7o]
     .try refine Zz ?_
      rw [qwC]
     .obtain ⟨w1,w2⟩:=h1
      repeat rw [q0B ω]
      rw [q0W ⟨w1,w2⟩]
     .exact q0O Oq (.inr Oq)
     .try refine Zz ?_
      omega
  .obtain rfl:n=t:=ω
   have hnn:¬ (n:Int) < n:=ω
   refine wk1 hnn ?_;refine q0r (LeM [] rfl rfl (xs:=[(2,.pt 2 0 0),(4,q05),(5,.pt 5 0 0),(6,bv false),(7,.sl none ((List.range n).map λi=>.sl (some 4) (qeY (n+1) V i)))]) (kv:=[]) (bs:=[(2,⟨27,some 5,[.ag [iv n,iv n,pI ms,pI mi,pF mv]],false⟩),(5,⟨46,some 2,[.ag [bv false,q05]],false⟩)]) (kb:=[]) ?_) ?_
   .try refine Zz ?_
    refine q5t (N:=5000) (R:=10000) (T1:=39) (T2:=48) (row:=qeY (n+1) V) (λ_=>n+1) ?_ (λj hj=>⟨?_,clRD,q7o⟩) λi j hi hj=>?_
    .try simp -implicitDefEqProofs (disch:=omega) only [go_sem,Nat.reduceEqDiff,Nat.reduceAdd,↓reduceIte,@q7o]
    .try simp -implicitDefEqProofs (disch:=omega) only [go_sem,Nat.reduceEqDiff,Nat.reduceAdd,↓reduceIte]
    .obtain rfl:i=j:=by
      have hi:(some i:Option Nat)=some j:=hi;cases hi; rfl
     have a:i≠2:=ω
     have b:i≠5:=ω
     try refine Zz ?_
     rw [if_neg a,if_neg b]
   have cI:ACt 103 [.sl none ((List.range n).map λi=>.sl (some 4) (qeY (n+1) V i))] (.sl none ((List.range n).map λi=>PV.sl (some 2) (q3T (n+1) Z i))):=cI;have hwl:((List.range n).map λi=>PV.sl (some 2) (q3T (n+1) Z i)).length=n:=σ
   have hwg:=λi (hi:i < n)=>show ((List.range n).map λi=>PV.sl (some 2) (q3T (n+1) Z i))[i]?=some (.sl (some 2) (q3T (n+1) Z i)) by rw [zA,zD hi]; rfl
   have hrs:=λi=>show slP (some 2) none (some (iv (n:Int))) (.sl (some 2) (q3T (n+1) Z i))=some (.sl (some 2) (q3T n Z i)) by
    have e:(q3T (n+1) Z i).take n=q3T n Z i:=by unfold q3T; rw [<- List.map_take,List.take_range,Nat.min_eq_left (Nat.le_succ n)]
    simp [slP,qbR,ksz,q59,e]
   have hrg:=λi=>show (q3T (n+1) Z i)[n]?=some (bT (Z i n)) by unfold q3T; rw [zA,zD (Nat.lt_succ_self n)]; rfl
   generalize hM:(List.range n).map (λi=>PV.sl (some 2) (q3T (n+1) Z i))=M at *;have hrb:=λi=>show q3T n Z i=(List.range n).map λc=>bT (Z i c) from rfl;generalize q3T (n+1) Z=P at *;generalize hQ:q3T n Z=Q at *;clear hQ;generalize qeY (n+1) V=RD at *;clear cA cO cOb hgb hvF hvb;refine wk ?_;refine q0A (λt=>t<=n) [2,4,5,6,11] [2,5] Lk Lk (λt:Nat=>[(12,.ow 1001 none 0 t),(13,.ow 1002 (some 2) 0 t),(14,iv t)]) (λt=>[(1001,⟨64,none,(List.range t).map λe=>PV.sl (some 2) (Q e),false⟩),(1002,⟨46,some 2,(List.range t).map λe=>bT (Z e n),false⟩)]) (λt=>n-t) 0 (zI _) ?_ ?_
   .refine LeM [(1001,none),(1002,none)] rfl rfl ?_;refine Zz ?_;exact ⟨rfl,rfl,rfl⟩
   .intro t ht
    by_cases hlt:t < n
    .have hlt':(t:Int) < n:=ω
     have g1:=hwg t hlt;have g2:=hrs t;have g3:=hrg t;refine wk1 (x5 hlt' hwl g1 g2 g3) ?_;refine ⟨t+1,ω,ω,?_⟩;refine LeM [(1001,some 63),(1002,some 74)] rfl rfl ?_;refine Zz ?_;exact ⟨ω,q0C (by rw [zC]; rfl) qzB,q0C (by rw [zC]; rfl) qzC⟩
    .obtain rfl:n=t:=ω
     have hlt':¬ (n:Int) < n:=ω
     by_cases hn0:n=0
     .have q:((n:Int) == 0)=true:=by simp; omega
      have hD1:=hD0 hn0;refine wk1 (x3 hlt' hwl q) ?_;subst hD1;exact ⟨by rw [hn0]; rfl,rfl⟩
     .have q:((n:Int) == 0)=false:=by simp; omega
      have cS:ACt 105 [.sl none ((List.range n).map λe=>PV.sl (some 2) (Q e)),pZB n λi=>Z i n] (.tu [pZB n X,bT (D:Nat),bv true]):=by
       have e:(λe=>PV.sl (some 2) (Q e))=λr=>PV.sl (some 2) ((List.range n).map λc=>bT (Z r c)):=funext λe=>by rw [hrb e]
       rw [e]; exact cS
      refine wk1 (x3 hlt' hwl q) ?_;refine q0r (LeM [] rfl rfl (xs:=[(5,.pt 5 0 0),(12,.sl none ((List.range n).map λe=>PV.sl (some 2) (Q e))),(13,pZB n λi=>Z i n)]) (kv:=[]) (bs:=[(5,⟨46,some 2,[.ag [bv false,q05]],false⟩)]) (kb:=[]) ?_) ?_
      .try refine Zz ?_
       exact ⟨q5S (T:=64) rfl qzB rfl σ,q5S (T:=46) rfl qzC rfl σ⟩
      generalize (List.range n).map (λe=>PV.sl (some 2) (Q e))=M1 at *;clear hrs hrg hwg hrb;unfold bT at *;exact wk trivial
def qrs {mode:Int} {z y s:Nat} (hz:0 < z) (hy:0 < y):fQ mode ((z:Int)*(2:Int) ^ s) ((y:Int)*(2:Int) ^ s)=rF mode false z y:=by
 have hp:=q0H s;have h1:0 < (z:Int)*(2:Int) ^ s:=yQ Oq hp;have h2:0 < (y:Int)*(2:Int) ^ s:=yQ Oq hp;unfold fQ;rw [if_neg ω,decide_eq_false ω,decide_eq_false ω,q0E,q0E,zF,zF];exact q3U hz hy (q0G _)
def q6j (f:Nat):Nat->Nat->Option Nat:=λj i=>if j=0 then (if i=0 then some f else none) else none
section
variable {K f1 f3 t r:Nat}
def aw41 (hK:K=65536) (u1:q0I f1) (u3:q0I f3) (ut:q0I t) (ur:r < 18446744073709551616/\q0I r) (o1:ofZ f1=(2:Int) ^ K) (o3:ofZ f3=3*(2:Int) ^ K) (ot:ofZ t=6004799503160661*(2:Int) ^ (K-54)) (or:ofZ r=6004799503160662*(2:Int) ^ (K-108))
  (hr:rF 2 false 6004799503160661 (18014398509481983*2 ^ 54)=r):vrX (q6j f3) 1 [f1] [t] 0=(2:Int) ^ (K-54)/\vfG (q6j f3) 1 [t]=18014398509481983*(2:Int) ^ (K-54)/\vfN (q6j f3) 1 [t] [f1] [t] 0=6004799503160661*(2:Int) ^ (K-108)/\fQ 2 (vfN (q6j f3) 1 [t] [f1] [t] 0) (vfG (q6j f3) 1 [t])=r:=by
 have e1:q2Y=(2:Int) ^ K:=by rw [qcK,hK]
 obtain ⟨P,hP⟩:∃ P:Int,P=(2:Int) ^ (K-162):=⟨_,rfl⟩;have hPp:0 < P:=by rw [hP]; exact q0H _
 have p108:(2:Int) ^ (K-108)=18014398509481984*P:=by
  rw [hP,show (18014398509481984:Int)=(2:Int) ^ 54 from by decide,<- zM]; congr 1; omega
 have p54:(2:Int) ^ (K-54)=18014398509481984*(18014398509481984*P):=by
  rw [<- p108,show (18014398509481984:Int)=(2:Int) ^ 54 from by decide,<- zM]; congr 1; omega
 have pK:(2:Int) ^ K=18014398509481984*(18014398509481984*(18014398509481984*P)):=by
  rw [<- p54,show (18014398509481984:Int)=(2:Int) ^ 54 from by decide,<- zM]; congr 1; omega
 have pp:∀ a b s u:Int,a*s*(b*u)=a*b*(s*u):=λa b s u=>by rw [zK,zK,Int.mul_left_comm s b u]
 have m1:q1W t f3=18014398509481983*(2:Int) ^ (K-54):=qwo hK ut u3 (by
  rw [ot,o3];generalize (2:Int) ^ (K-54)=a;generalize (2:Int) ^ K=c;rw [pp,show (6004799503160661:Int)*3=18014398509481983 from by decide,zK])
 have m2:q1W f3 t=18014398509481983*(2:Int) ^ (K-54):=by rw [qn9]; exact m1
 have dK:∀ m:Nat,m<=K->∀ a:Nat,bl a<=60000->q0Q ((a:Int)*(2:Int) ^ m):=λm hm a ha=>by
  unfold q0Q;rw [q0E,zF]
  by_cases h0:a=0
  .subst h0; rw [yK,q02]; omega
  .rw [q1C h0]; omega
 have pz:∀ (a b V:Int),q0Q V->a*b=V*(2:Int) ^ K->prZ a b=V:=λa b V hV e=>by
  unfold prZ;rw [e,hK,q8G hV]; rfl
 have b1:bl 6004799503160661<=60000:=z6 (q0M (k:=53) (by decide)) Oq;have b2:bl (6004799503160661*18014398509481983)<=60000:=z6 (q0M (k:=200) (by decide)) Oq;have hE:btE 1 [t] (q6j f3) 0 0=(2:Int) ^ (K-54):=by
  show (if 0=0 then q2Y else 0)-(0+q1W t f3)=_
  rw [if_pos rfl,e1,m1,pK,p54];omega
 have hZ:btZ 1 [t] (q6j f3) 0=(2:Int) ^ (K-54):=by
  show 0+(((btE 1 [t] (q6j f3) 0 0).natAbs:Nat):Int)=_
  rw [hE];have:=q0H (K-54);omega
 have hL:grZ (btL 1 [t] (q6j f3))=(2:Int) ^ (K-54):=by
  show max 0 (btZ 1 [t] (q6j f3) 0)=_
  rw [hZ];have:=q0H (K-54);omega
 have hG:vfG (q6j f3) 1 [t]=18014398509481983*(2:Int) ^ (K-54):=by
  unfold vfG;rw [hL,e1,pK,p54];omega
 have hR:vrX (q6j f3) 1 [f1] [t] 0=(2:Int) ^ (K-54):=by
  show ofZ f1-(0+q1W f3 t)=_
  rw [o1,m2,pK,p54];omega
 have hD:vdX 1 [t] (vrX (q6j f3) 1 [f1] [t]) 0=6004799503160661*(2:Int) ^ (K-108):=by
  show (((0+prZ (ofZ t) (vrX (q6j f3) 1 [f1] [t] 0)).natAbs:Nat):Int)=_
  rw [hR,ot,pz _ _ (6004799503160661*(2:Int) ^ (K-108)) (dK (K-108) ω 6004799503160661 b1) (by
   rw [zK,zK,<- zM,<- zM]; congr 2; omega)]
  have:=q0H (K-108);omega
 have hM:grZ (vfD (q6j f3) 1 [t] [f1] [t])=6004799503160661*(2:Int) ^ (K-108):=by
  show max 0 (vdX 1 [t] (vrX (q6j f3) 1 [f1] [t]) 0)=_
  rw [hD];have:=q0H (K-108);omega
 have hN:vfN (q6j f3) 1 [t] [f1] [t] 0=6004799503160661*(2:Int) ^ (K-108):=by
  unfold vfN vnX;rw [hD,hG,hZ,hM];have a1:prZ (6004799503160661*(2:Int) ^ (K-108)) (18014398509481983*(2:Int) ^ (K-54))=((6004799503160661*18014398509481983:Nat):Int)*(2:Int) ^ (K-162):=pz _ _ _ (dK (K-162) Oq _ b2) (by
   rw [pp,<- zM,show K-108+(K-54)=K-162+K by omega,zM,<- zK]; rfl)
  have a2:prZ ((2:Int) ^ (K-54)) (6004799503160661*(2:Int) ^ (K-108))=((6004799503160661:Nat):Int)*(2:Int) ^ (K-162):=pz _ _ _ (dK (K-162) Oq _ b1) (by
   rw [Int.mul_left_comm,<- zM,show K-54+(K-108)=K-162+K by omega,zM,<- zK]; rfl)
  rw [a1,a2,p108,<- hP];omega
 refine ⟨hR,hG,hN,?_⟩;rw [hN,hG,<- hr,show (18014398509481983:Int)*(2:Int) ^ (K-54)=((18014398509481983*2 ^ 54:Nat):Int)*(2:Int) ^ (K-108) by rw [p54,<- p108,show ((18014398509481983*2 ^ 54:Nat):Int)=18014398509481983*18014398509481984 from by decide,zK]];exact qrs (z:=6004799503160661) (by decide) (by decide)
def aw41b (hK:K=65536) (ut:q0I t) (ur:r < 18446744073709551616/\q0I r) (ot:ofZ t=6004799503160661*(2:Int) ^ (K-54)) (or:ofZ r=6004799503160662*(2:Int) ^ (K-108)) (ta:q2J t≠0) {lo hi:Nat}
  (hlo:rF 1 false (6004799503160661*18014398509481984-6004799503160662) (2 ^ 108)=lo) (hhi:rF 2 false (6004799503160661*18014398509481984+6004799503160662) (2 ^ 108)=hi):qa2 1 t r=lo/\q6f 2 t r=hi:=by
 have hp:=q0H (K-108);have p54:(2:Int) ^ (K-54)=18014398509481984*(2:Int) ^ (K-108):=by
  rw [show (18014398509481984:Int)=(2:Int) ^ 54 from by decide,<- zM]; congr 1; omega
 have hon:ofZ (q5L r) = -ofZ r:=q7y ur.1 ur.2;have hs:(2:Int) ^ K=((2 ^ 108:Nat):Int)*(2:Int) ^ (K-108):=by
  rw [q01,<- zM]; congr 1; omega
 constructor
 .unfold qa2 q6f;rw [if_neg (not_not_intro ((qcN ur.1).2 ur.2)),if_neg λq=>ta q.1,hon,ot,or,p54];have e:6004799503160661*(18014398509481984*(2:Int) ^ (K-108)) + -(6004799503160662*(2:Int) ^ (K-108))=((6004799503160661*18014398509481984-6004799503160662:Nat):Int)*(2:Int) ^ (K-108):=by
   rw [show ((6004799503160661*18014398509481984-6004799503160662:Nat):Int)=6004799503160661*18014398509481984-6004799503160662 from by decide];omega
  rw [e,if_neg (by
   have:0 < ((6004799503160661*18014398509481984-6004799503160662:Nat):Int)*(2:Int) ^ (K-108):=yQ (by decide) hp;omega),qlZ hK,hs,qrs (by decide) (by decide),hlo]
 .unfold q6f;rw [if_neg (not_not_intro ur.2),if_neg λq=>ta q.1,ot,or,p54];have e:6004799503160661*(18014398509481984*(2:Int) ^ (K-108))+6004799503160662*(2:Int) ^ (K-108)=((6004799503160661*18014398509481984+6004799503160662:Nat):Int)*(2:Int) ^ (K-108):=by
   rw [show ((6004799503160661*18014398509481984+6004799503160662:Nat):Int)=6004799503160661*18014398509481984+6004799503160662 from by decide];omega
  rw [e,if_neg (by
   have:0 < ((6004799503160661*18014398509481984+6004799503160662:Nat):Int)*(2:Int) ^ (K-108):=yQ (by decide) hp;omega),qlZ hK,hs,qrs (by decide) (by decide),hhi]
end
def q7V {T id n:Nat} {h h':Hp} {l:List PV} (h1:h id=some ⟨T,none,l,false⟩) (hc:ClL l) (h2:h' id=none) (hn:l.length=n):LeV (q0c []) h h' (.ow id none 0 n) (.sl none l):=q49 (T:=T) (l:=l) h1 hc (λi hi=>by
 have hi:some i=some id:=hi;cases hi;exact h2) (by rw [z9]; exact zP ω)
def qx0 {y:PV}:qaH (some 2) (.sl (some 2) [y]) (iv 0)=some (.qt (some 2) y):=by
 unfold qaH;simp [ksz]
def vfL_1 {F:Nat->Nat->Option Nat} {v b z:List Nat}:vfL F 1 v b z 1=[vIv (z.getD 0 0) (vfN F 1 v b z 0) (vfG F 1 v)]:=rfl
def qeQ:ACt 19 [] (bv true):=by
 obtain ⟨K,hK⟩:∃ K:Nat,K=65536:=⟨_,rfl⟩;have p52:(4503599627370496:Int)=(2:Int) ^ 52:=by decide
 have o1:ofZ 4607182418800017408=(2:Int) ^ K:=by
  rw [qkB (m:=4503599627370496) (e:=1023) ω ω ω ω ω,show (((4503599627370496:Nat):Int))=(2:Int) ^ 52 from p52,<- zM,show 52+(64461+1023)=K by omega]
 have o3:ofZ 4613937818241073152=3*(2:Int) ^ K:=by
  rw [qkB (m:=6755399441055744) (e:=1024) ω ω ω ω ω,show (((6755399441055744:Nat):Int))=3*(2:Int) ^ 51 from by decide,zK,<- zM,show 51+(64461+1024)=K by omega]
 have ot:ofZ 4599676419421066581=6004799503160661*(2:Int) ^ (K-54):=by
  rw [qkB (m:=6004799503160661) (e:=1021) ω ω ω ω ω,show 64461+1021=K-54 by omega]; rfl
 have or:ofZ 4356482039543059798=6004799503160662*(2:Int) ^ (K-108):=by
  rw [qkB (m:=6004799503160662) (e:=967) ω ω ω ω ω,show 64461+967=K-108 by omega]; rfl
 have hr:rF 2 false 6004799503160661 (18014398509481983*2 ^ 54)=4356482039543059798:=κ
 have hlo:rF 1 false (6004799503160661*18014398509481984-6004799503160662) (2 ^ 108)=4599676419421066580:=κ
 have hhi:rF 2 false (6004799503160661*18014398509481984+6004799503160662) (2 ^ 108)=4599676419421066582:=κ
 have z3:rF 0 false 3 1=4613937818241073152:=κ
 have f3:flz 3=4613937818241073152:=by
  have h1:=fR_u (z:=3) (K:=65536) (s:=0) rfl Oq Oq;have h2:fR 0 (((3:Nat):Int)*(2:Int) ^ (65536-0))=flz 3:=rfl;rw [<- h2,h1];exact z3
 obtain ⟨r1,r2,r3,r4⟩:=aw41 (f1:=4607182418800017408) (f3:=4613937818241073152) (t:=4599676419421066581) (r:=4356482039543059798) hK (by unfold q0I; omega) (by unfold q0I; omega) (by unfold q0I; omega) ⟨ω,by unfold q0I; omega⟩ o1 o3 ot or hr;obtain ⟨s1,s2⟩:=aw41b (t:=4599676419421066581) (r:=4356482039543059798) hK (by unfold q0I; omega) ⟨ω,by unfold q0I; omega⟩ ot or (by unfold q2J; omega) hlo hhi;have hm:TOk (q6j 4613937818241073152) 1 1:=by
  refine ⟨ω,ω,ω,λj i x _ _ h=>?_,λj i x _ _ h=>?_⟩
  all_goals
   unfold q6j at h
   split at h
   .split at h
    .cases h; first | omega | (unfold q0I; omega)
    .cases h
   .cases h
 have hv:vfO (q6j 4613937818241073152) 1 [4599676419421066581] [4607182418800017408] [4599676419421066581]=([(4599676419421066580,4599676419421066582)],true):=by
  have hg:¬ q2Y<=grZ (btL 1 [4599676419421066581] (q6j 4613937818241073152)):=λh=>by
   have h1:=r2;unfold vfG at h1;have hp:=q0H (K-54);generalize grZ (btL 1 [4599676419421066581] (q6j 4613937818241073152))=g at h h1;generalize q2Y=o at h h1;generalize (2:Int) ^ (K-54)=c at hp h1;omega
  unfold vfO;rw [if_neg hg,vfL_1,show ([4599676419421066581]:List Nat).getD 0 0=4599676419421066581 from rfl];unfold vIv;rw [r4,s1,s2]
 have C1:ACt 73 [iv 3,iv 0] (uv (4613937818241073152:Nat)):=by
  rw [<- f3];exact q7H (z:=3) (mode:=0) Oq Oq (q8F (by have:=q0M (n:=(3:Int).natAbs) (k:=4) (by decide); omega))
 have C2:=qeF (v:=[4599676419421066581]) (b:=[4607182418800017408]) (z:=[4599676419421066581]) hm ω rfl (λx hx=>by simp at hx; subst hx; exact ⟨ω,by unfold q0I; omega⟩) (λx hx=>by simp at hx; subst hx; exact ⟨ω,by unfold q0I; omega⟩) rfl (λx hx=>by simp at hx; subst hx; exact ⟨ω,by unfold q0I; omega⟩) rfl;rw [hv] at C2;clear hv hm r1 r2 r3 r4 s1 s2 hr hlo hhi z3 f3 o1 o3 ot or p52;have D1:ACt 73 [iv 3,iv 0] (uv 4613937818241073152):=C1;have D2:ACt 27 [.ag [iv 1,iv 1,.sl none [iv 0,iv 1],.sl none [iv 0],.sl none [uv 4613937818241073152]],.sl none [uv 4607182418800017408],.ag [iv 1,iv 1,.sl none [uv 4599676419421066581],.sl none [uv 4599676419421066581]]] (.tu [.sl (some 2) [.ag [uv 4599676419421066580,uv 4599676419421066582]],bv true,iv 0]):=C2;clear C1 C2;have b1:((4599676419421066580:Int) == 4599676419421066580)=true:=by decide
 have b2:((4599676419421066582:Int) == 4599676419421066582)=true:=by decide
 have b3:((0:Int) == 0)=true:=rfl;have b4:((1:Int) == 1)=true:=rfl;have w1:IntKind.u64.wrap (4599676419421066581-1)=4599676419421066580:=rfl;have w2:IntKind.u64.wrap (4599676419421066581+1)=4599676419421066582:=rfl;refine ac0 Tryz.func19 Tryz.ntmps19 [.tmp 0] ?_;refine wk ?_;refine q3c λK0 hK0=>?_;refine qb4 8 λK hK=>?_;rw [zR,zR,zR,zR,zR,zR,zR,zR,List.take_zero,zS,zS,zS,zS,zS,zS,zS,zS,z9]
 try refine Zz ?_
 refine ⟨_,_,LeM [] rfl rfl (xs:=[(2,uv 4599676419421066581),(12,.ag [iv 1,iv 1,.sl none [iv 0,iv 1],.sl none [iv 0],.sl none [uv 4613937818241073152]]),(13,.sl none [uv 4607182418800017408]),(19,.ag [iv 1,iv 1,.sl none [uv 4599676419421066581],.sl none [uv 4599676419421066581]])]) (kv:=[]) (bs:=[]) (kb:=[]) ?_,?_⟩
 .try refine Zz ?_
  exact ⟨⟨q7V rfl (clI (l:=[0,1])) rfl rfl,q7V rfl (clI (l:=[0])) rfl rfl,q7V rfl (clU (l:=[4613937818241073152])) rfl rfl⟩,q7V rfl (clU (l:=[4607182418800017408])) rfl rfl,q7V rfl (clU (l:=[4599676419421066581])) rfl rfl,q7V rfl (clU (l:=[4599676419421066581])) rfl rfl⟩
 try refine Zz ?_
 refine q0T D2 ?_
 try refine Zz ?_
 refine hK _ _ ?_;refine hK0 _ _ ?_;clear hK hK0 K K0;exact wk1 (x6 b1 b2 b3 b4 w1 (x2 w2 @qx0)) trivial
section
variable {raw w y b:List Nat} {n K s i:Nat} {st:Int} {rg:Bool} {F:Nat->Nat->Option Nat}
def qfz {sp:Int} {wild:Bool} (hr:raw.length<=9223372036854775807) (h5 : -9223372036854775808<=sp) (h6:sp<=9223372036854775807) (h:TOk F n n) (hn:n<=4) (hb:q0b b) (hbl:b.length=n) :
  ∃ w y,PfOk raw F n (q0Y sp 4) w y/\ACt 15 [pT n n F,pF b,pF raw,iv sp,bv wild] (pBx n w y):=by
 obtain ⟨w,y,hp,hc⟩:=qq0 (wild:=wild) hr h5 h6 h hn hb hbl;refine ⟨w,y,hp,qb5 (ids:=[5000]) hc ?_⟩;have k1:∀ z:Int,q20 (q0R h0 5000 ⟨33,none,w.map λz:Nat=>uv z,false⟩) (iv z)=some (iv z,[]):=λz=>by
  unfold q20;exact if_pos trivial
 have k2:q20 (q0R h0 5000 ⟨33,none,w.map λz:Nat=>uv z,false⟩) (pF y)=some (pF y,[]):=by
  unfold q20 pF;exact if_pos trivial
 unfold pBo q2f q2f clo;dsimp only;unfold q2Z q2Z q2Z q2Z q2Z;simp only [k1,k2,qlq,Option.bind_some,zO]
 rfl
end

def krP (y:List Nat) (W i:Nat):Nat × Nat:=(qa2 0 (y.getD i 0) W,q6f 0 (y.getD i 0) W)
def krX (y:List Nat) (W m:Nat):List (Nat × Nat):=(List.range m).map λi:Nat=>krP y W i
section
variable {raw b w y:List Nat} {wd n sp:Int} {W N m i:Nat} {F A:Nat->Nat->Option Nat} {wild:Bool}
def krX_s:krX y W (i+1)=krX y W i ++ [krP y W i]:=by unfold krX; rw [zW,zC]; rfl
def qxT (hy:∀ i,y.getD i 0 < 18446744073709551616/\q0I (y.getD i 0)) (hW:W < 18446744073709551616/\q0I W):nnL (krX y W i):=λp hp=>by
 obtain ⟨c,_,rfl⟩:=zL.1 hp;exact ⟨⟨q89 (hy c).1 (q6O hW.1),q44 (q0p (hy c).2) (by rw [q4F hW.1]; exact q0p hW.2)⟩,q89 (hy c).1 hW.1,q44 (q0p (hy c).2) (q0p hW.2)⟩
def qzT {N:Nat} (h:TOk F N N) (i j:Nat) (hi:i < N) (hj:j < N):nnI (bxA raw wd F i j):=by
 have hf:q0I ((F j i).getD 0)/\(F j i).getD 0 < 18446744073709551616:=h.fin (j:=j) (i:=i) hj hi;exact qoc ⟨hf.2,hf.1⟩
def qzS (hb:q0b b):nnL (bxR raw wd b m):=λp hp=>by
 obtain ⟨c,_,rfl⟩:=zL.1 hp;exact qoc (q0V hb)
def pf0 {F:Nat->Nat->Option Nat} {N:Nat} (h:PfOk raw F N (q0Y 0 4) w y):y.length=N/\q0b y/\w.length=N*N/\q0b w:=by
 obtain ⟨h1,h2,v,rfl,h3,h4⟩:=h;have hv:q0b v:=by
  rcases h4 with h4 | h4 | h4
  .exact h4.1
  .rw [h4]; exact λx hx=>q3y x hx
  .subst h4;have:v=[]:=List.length_eq_zero_iff.1 h3;rw [this]; exact λx hx=>by cases hx
 refine ⟨h1,h2,by rw [q7f]; exact h3,λx hx=>?_⟩;unfold sqL at hx;obtain ⟨k,hk,rfl⟩:=zL.1 hx;have hg:=q0V hv (i:=k);have e:sqX raw (q0Y 0 4) k (v.getD k 0)=v.getD k 0:=by
  unfold sqX;rw [show q0Y 0 4=0 from rfl,yK,Nat.add_zero];exact Nat.mod_eq_of_lt hg.1
 rw [e]
 split <;> exact hg
def qfb {A A':Nat->Nat->Nat × Nat} {i:Nat} (h:∀ j,j < N->A i j=A' i j):q3i N A i=q3i N A' i:=yJ λj hj=>h j (yL.1 hj)
def qjU {A A':Nat->Nat->Nat × Nat} (h:∀ i j,i < N->j < N->A i j=A' i j):tXI N N A=tXI N N A':=by
 funext i
 unfold tXI q1V
 by_cases h0:i=5000
 .rw [if_pos h0,if_pos h0]
  congr 2
  exact yJ λj _=>by rw [q7k,q7k]
 .rw [if_neg h0,if_neg h0]
  by_cases h1:10000<=i/\i < 10000+N
  .rw [if_pos h1,if_pos h1];unfold rwA;rw [qfb λj hj=>h _ j ω hj]
  .rw [if_neg h1,if_neg h1]
def qwj {A:Nat->Nat->Nat × Nat} (h:∀ i j,nnI (A i j)) (j:Nat):nnL (q3i N A j):=λp hp=>by
 obtain ⟨c,_,rfl⟩:=zL.1 hp;exact h j c
def j0m {h h':Hp} {A:Nat->Nat->Nat × Nat} (h1:∀ i,win i->h i=tXI N N A i) (h2:∀ i,win i->h' i=none) (hN:N<=100):LeV (q0c []) h h' (.ow 5000 none 0 N) (pIm N A):=by
 have e:(((List.range N).map λj=>pP (q3i N A j)).drop 0).take N=((List.range N).map λj=>pP (q3i N A j)):=by
  rw [z9];exact zP σ
 unfold pIm;rw [<- e];refine .fzg (b:=⟨52,none,(List.range N).map λj=>.ow (j+10000) (some 2) 0 (rwA N A j).length,false⟩) ?_ rfl rfl σ (λi x y hx hy=>?_) (λy hy=>?_) (λi hi=>?_)
 .rw [h1 5000 ⟨ω,ω⟩]; exact q1H
 .by_cases hiN:i < N
  .rw [zA,zD hiN] at hx hy;cases hx; cases hy;refine q49 (T:=58) (l:=rwA N A i) ?_ q32 (λj hj=>?_) ?_
   .rw [h1 (i+10000) ⟨ω,ω⟩]; exact q1F ω hiN
   .obtain rfl:=Option.some.inj hj;exact h2 _ ⟨ω,ω⟩
   .rw [z9];exact zP (zE _)
  .rw [zQ (by simp; omega)] at hx; cases hx
 .obtain ⟨c,_,rfl⟩:=zL.1 hy
  trivial
 .obtain rfl:=Option.some.inj hi;exact h2 _ ⟨ω,ω⟩
end
def enF (picks:List Bool) (p:Nat × Nat) (k:Nat):Nat:=if picks.getD k false then p.1 else p.2
def qoC {picks:List Bool} {p:Nat × Nat} {k:Nat} (hp:picks.length<=9223372036854775807) (hk:k<=1000000):ACt 30 [.ag [uv p.1,uv p.2],iv k,pB picks] (uv (enF picks p k:Nat)):=by
 obtain ⟨u,v⟩:=p
 by_cases h:k < picks.length
 .have q:(k:Int) < picks.length:=ω
  have g:picks[k]?=some picks[k]:=zB h;have gi:(picks.map bv)[k]?=some (bv picks[k]):=by rw [zA,g]; rfl
  have e:enF picks (u,v) k=if picks[k] then u else v:=by unfold enF; rw [zG,g]; rfl
  rw [e];generalize picks[k]=t at *;cases t
  .refine ac0 Tryz.func30 Tryz.ntmps30 [.tmp 6] ?_;exact wk1 (x2 q gi) trivial
  .refine ac0 Tryz.func30 Tryz.ntmps30 [.tmp 6] ?_;exact wk1 (x2 q gi) trivial
 .have q:¬ (k:Int) < picks.length:=ω
  have e:enF picks (u,v) k=v:=by unfold enF; rw [zG,zQ ω]; rfl
  rw [e];refine ac0 Tryz.func30 Tryz.ntmps30 [.tmp 6] ?_;exact wk1 q trivial
def hp9 {b:Bk} {i:Nat} (hi:win i):hpM [(9,b)] [] i=none:=by
 unfold win at hi;unfold hpM;rw [if_neg ω]
 rfl
section
variable {picks:List Bool} {A:Nat->Nat->Nat × Nat} {R:List (Nat × Nat)} {K:KwT} {N:Nat}
def enA (picks:List Bool) (A:Nat->Nat->Nat × Nat) (j i:Nat):Option Nat:=some (enF picks (A i j) (4*i+j))
def enB (picks:List Bool) (R:List (Nat × Nat)) (n:Nat):List Nat:=(List.range n).map λi=>enF picks (R.getD i (0,0)) (20+i)
def qoD {p:Nat × Nat} {k:Nat}:enF picks p k=p.1\/enF picks p k=p.2:=by unfold enF; split <;> simp
def q8U {b k:Nat} {p:Nat × Nat} (h:gok b p.1/\gok b p.2):gok b (enF picks p k):=by
 rcases qoD (picks:=picks) (p:=p) (k:=k) with e | e <;> rw [e]
 .exact h.1
 .exact h.2
def qxz {b:Nat} (hN:N<=4) (h:∀ i j,i < N->j < N->gok b (A i j).1/\gok b (A i j).2):TOk (enA picks A) N N:=by
 refine ⟨ω,ω,by have:=zN hN hN; omega,λj i x hj hi hx=>?_,λj i x hj hi hx=>?_⟩
 .cases hx; exact (q8U (h i j hi hj)).1
 .cases hx; exact (q8U (h i j hi hj)).2.1
def qoE {p:Nat × Nat} {k:Nat} (h:q7I p):inS (ivZ p) (rK 65536 (ofZ (enF picks p k))):=by
 obtain ⟨_,_,h3⟩:=h
 rcases qoD (picks:=picks) (p:=p) (k:=k) with e | e <;> rw [e]
 .exact ⟨Rat.le_refl,qae.2 h3⟩
 .exact ⟨qae.2 h3,Rat.le_refl⟩
def qxy (hp:KwP K) (hb:K.b.length=K.n):KwI K (mA 65536 (enA picks K.a)) (mB 65536 (enB picks K.b K.n)):=by
 refine ⟨λj k hj hk=>qoE (qtv hp hj hk),λj hj=>?_⟩;have e:(enB picks K.b K.n).getD j 0=enF picks (K.b.getD j (0,0)) (20+j):=by
  unfold enB;rw [zG,zA,zD hj]; rfl
 show inS _ (rK 65536 (ofZ ((enB picks K.b K.n).getD j 0)))
 rw [e];refine qoE ?_;rw [zG,zB (show j < K.b.length by omega)];exact hp.2.1 _ (u9 _)
def qrv {b:Nat} (hR:∀ p ∈ R,gok b p.1/\gok b p.2) (hl:R.length=N):∀ x ∈ enB picks R N,gok b x:=λx hx=>by
 unfold enB at hx;obtain ⟨i,hi,rfl⟩:=zL.1 hx;have hi:=yL.1 hi;refine q8U (hR _ ?_);rw [zG,zB ω];exact u9 _
def kwC_0 (h:kwC K=0):KwP K/\K.b.length=K.n:=by
 unfold kwC at h
 split at h
 .omega
 .split at h
  .exact ⟨by assumption,Classical.not_not.1 (by assumption)⟩
  .omega
end
def q93 {raw:List Nat} {n wd:Int} {picks:List Bool} (hr:raw.length<=9223372036854775807) (h1 : -9223372036854775808<=n) (h2:n<=9223372036854775807) (h3 : -9223372036854775808<=wd) (h4:wd<=9223372036854775807) (h5:picks.length<=9223372036854775807) :
  ACt 6 [pF raw,iv n,iv wd,pB picks] (bv true):=by
 have cA:=qeQ;have cM:=q5M (a:=n) (n:=4) h1 h2 Oq Oq;have cMw:=q5M (a:=wd) (n:=20) h3 h4 Oq Oq;change ACt _ [iv n,iv 4] _ at cM;change ACt _ [iv wd,iv 20] _ at cMw;have hN0:q0Y n 4 < 4:=by unfold q0Y; omega
 have hW0:q0Y wd 20 < 20:=by unfold q0Y; omega
 have eN:q0Y (q0Y n 4:Nat) 5=q0Y n 4:=by
  generalize q0Y n 4=m at *;unfold q0Y;omega
 have cPk:=qgA (raw:=raw) (n:=(q0Y n 4:Nat)) (st:=0) (rg:=true) hr Oq Oq Oq Oq;rw [eN] at cPk;have hF:=qzD (raw:=raw) (N:=q0Y n 4) (st:=0) (rg:=true) Oq;have hbf:=q3y (raw:=raw) (k:=30) (st:=q0Y 0 4) (n:=q0Y n 4);have hbl:=q21 (raw:=raw) (k:=30) (st:=q0Y 0 4) (n:=q0Y n 4);have cBx:=box_m (raw:=raw) (wd:=wd) hr h3 h4 hF Oq hbf hbl;obtain ⟨w,y,hPf,cPr⟩:=qfz (raw:=raw) (sp:=0) (wild:=false) hr Oq Oq hF Oq hbf hbl;obtain ⟨hyl,hyf,hwl,hwf⟩:=pf0 hPf;have hAn:=qzT (raw:=raw) (wd:=wd) hF;have hRn:=qzS (raw:=raw) (wd:=wd) (b:=q4g raw 30 (q0Y 0 4) (q0Y n 4)) (m:=q0Y n 4) hbf;have hRl:(bxR raw wd (q4g raw 30 (q0Y 0 4) (q0Y n 4)) (q0Y n 4)).length=q0Y n 4:=by unfold bxR; simp
 have hAg:∀ i j,i < q0Y n 4->j < q0Y n 4->gok (2 ^ 72) (bxA raw wd (ckT raw (q0Y n 4) 0 true) i j).1/\gok (2 ^ 72) (bxA raw wd (ckT raw (q0Y n 4) 0 true) i j).2:=λi j hi hj=>qiW (qsW Oq hi);have hRg:∀ p ∈ bxR raw wd (q4g raw 30 (q0Y 0 4) (q0Y n 4)) (q0Y n 4),gok (2 ^ 72) p.1/\gok (2 ^ 72) p.2:=λp hp=>by
  unfold bxR at hp;obtain ⟨c,hc,rfl⟩:=zL.1 hp;have hc:=yL.1 hc;refine qiW ?_;rw [zG,zB (by rw [q21]; exact hc)];exact qej _ (u9 _)
 clear hPf;generalize ckT raw (q0Y n 4) 0 true=F at *;generalize q4g raw 30 (q0Y 0 4) (q0Y n 4)=b at *;have cSc:=qbx (n:=1-(q0Y wd 20:Int)) (U:=65528) (t:=65537-q0Y wd 20) rfl Oq Oq Oq;have hPw:=(qfs (U:=65528) (t:=65537-q0Y wd 20) rfl Oq Oq).2;generalize pw2 (65537-q0Y wd 20)=W at *;have hy:∀ i,y.getD i 0 < 18446744073709551616/\q0I (y.getD i 0):=λi=>q0V hyf;have cS:=λi=>qac (mode:=0) (.inl rfl) (hy i) hPw.1 (q0p hPw.2);have cD:=λi=>q7t (mode:=0) (.inl rfl) (hy i) hPw.1 (q0p hPw.2);have hXs:=λi=>krX_s (y:=y) (W:=W) (i:=i);have hXl:=λi=>show (krX y W i).length=i by unfold krX; simp
 have hX0:krX y W 0=[]:=rfl;have hXn:=λi=>qxT (y:=y) (W:=W) (i:=i) hy hPw;have hXe:=λi=>show krP y W i=(qa2 0 (y.getD i 0) W,q6f 0 (y.getD i 0) W) from rfl;have hyg:=λj (hj:j < q0Y n 4)=>show y[j]?=some (y.getD j 0) by
  obtain ⟨w,hw⟩:∃ w,y[j]?=some w:=⟨_,zB Oq⟩;rw [hw,getD_some hw]
 clear hF hbf hbl hPw hy eN;generalize krX y W=X at *;generalize krP y W=XP at *;generalize bxA raw wd F=A at *;generalize bxR raw wd b (q0Y n 4)=R at *;generalize q0Y n 4=N at *;generalize q0Y wd 20=m at *;obtain ⟨A',hA'⟩:∃ A':Nat->Nat->Nat × Nat,A'=λi j=>if i < N/\j < N then A i j else (0,0):=⟨_,rfl⟩
 have eA:tXI N N A=tXI N N A':=qjU λi j hi hj=>by rw [hA']; exact (if_pos ⟨hi,hj⟩).symm
 rw [eA] at cBx;have hAp:∀ i j,nnI (A' i j):=λi j=>by
  rw [hA'];dsimp only
  split
  .rename_i hh;exact hAn i j hh.1 hh.2
  .exact ⟨⟨ω,by decide⟩,ω,by decide⟩
 have hAq:∀ i j,i < N->j < N->gok (2 ^ 72) (A' i j).1/\gok (2 ^ 72) (A' i j).2:=λi j hi hj=>by
  rw [hA'];dsimp only;rw [if_pos ⟨hi,hj⟩];exact hAg i j hi hj
 clear hAn hAg eA hA';clear A;have kf:KwF ⟨N,w,A',R,y,X N⟩:=⟨by dsimp only; omega,hwl,hwf,hyl,hyf,hXl N,hXn N,by dsimp only; omega,hRn,qwj hAp⟩;have cKr:=ql9 kf;dsimp only at cKr;have hTk:=qxz (picks:=picks) (A:=A') (N:=N) Oq hAq;have hBg:=qrv (picks:=picks) (R:=R) (N:=N) hRg hRl;have hBl:(enB picks R N).length=N:=by unfold enB; simp
 have hle:(2:Nat) ^ 72<=2 ^ 100:=zV Oq Oq;have hSn:qt4 100 (enA picks A') N (enB picks R N):=qpn (λj i hj hi=>(q8U (hAq i j hi hj)).mono hle) (λx hx=>(hBg x hx).mono hle) hBl;have hBf:q0b (enB picks R N):=λx hx=>⟨(hBg x hx).1,(hBg x hx).2.1⟩;have hsys:kwC ⟨N,w,A',R,y,X N⟩=0->kwB ⟨N,w,A',R,y,X N⟩ N=true->∃ (D:Nat) (S:Nat->Int),ACt 28 [pT N N (enA picks A'),pF (enB picks R N)] (.tu [pZB N S,bT (D:Nat),bv true])/\∀ i,i < N->ACt 29 [.ag [uv (kwO ⟨N,w,A',R,y,X N⟩ i).1,uv (kwO ⟨N,w,A',R,y,X N⟩ i).2],bT (S i),bT (D:Nat)] (bv true):=λg1 g2=>by
  obtain ⟨hp,hb⟩:=kwC_0 g1;have hI:=qxy (picks:=picks) hp hb;obtain ⟨hd,hs⟩:=qkS kf hp hb g2 hI;dsimp only at hd hs;obtain ⟨K0,hK0⟩:∃ K0,K0=65536:=⟨_,rfl⟩;rw [<- hK0] at hd hs;obtain ⟨hn0,hsol⟩:=qv4 hK0 Oq hSn hd;have hz:=λi j hi hj=>(qfT (i:=i) (j:=j) hK0 Oq hSn hi hj).2.1;have hlt:∀ z:Int,z.natAbs < 2 ^ 100->z.natAbs < 2 ^ 120:=λz h=>Nat.lt_trans h (by decide);have b1:=qy9 (M:=snZ (enA picks A') N (enB picks R N)) (n:=N) Oq λr c hr hc=>hlt _ (hz r c hr Oq);have b2:=λi=>qv6 (M:=snZ (enA picks A') N (enB picks R N)) (b:=λi=>snZ (enA picks A') N (enB picks R N) i N) (n:=N) (j:=i) Oq (λr c hr hc=>hlt _ (hz r c hr Oq)) λr hr=>hlt _ (hz r N hr Oq);refine ⟨_,_,qa3 hK0 hTk Oq hBf hBl Oq hSn hn0,λi hi=>?_⟩;have hD:(0:Int) < ((dtE N λr c=>(snZ (enA picks A') N (enB picks R N) r c:Rat)).num.natAbs:Int):=ω
  refine qbK (K:=65536) rfl qnk (by have:=b2 i; omega) (by rw [zF]; omega) (qqz hD ?_);rw [<- hK0] at hI;exact hs _ hsol i hi
 clear hTk hBg hSn hBf kf hle hAq hRg hAp;have hNN:N*N<=3*3:=zN Oq Oq;have cEA:=λ(i j:Nat) (hi:i < 4) (hj:j < 4)=>qoC (p:=A' i j) (k:=4*i+j) h5 Oq;have hEA:∀ j i,enA picks A' j i=some (enF picks (A' i j) (4*i+j)):=λ_ _=>rfl;have cEB:=λ(i:Nat) (hi:i < 4)=>qoC (p:=R.getD i (0,0)) (k:=20+i) h5 Oq;have hEB:∀ i,(List.range (i+1)).map (λi=>enF picks (R.getD i (0,0)) (20+i))=(List.range i).map (λi=>enF picks (R.getD i (0,0)) (20+i)) ++ [enF picks (R.getD i (0,0)) (20+i)]:=λi=>by rw [zW,zC]; rfl
 have hEn:enB picks R N=(List.range N).map λi=>enF picks (R.getD i (0,0)) (20+i):=rfl;have hRg:=λi (hi:i < N)=>show (R.map λp=>PV.ag [uv p.1,uv p.2])[i]?=some (.ag [uv (R.getD i (0,0)).1,uv (R.getD i (0,0)).2]) by
  rw [zA,zB ω,zG,zB ω]; rfl
 generalize hKK:(⟨N,w,A',R,y,X N⟩:KwT)=KK at *;have hLl:(kwL KK N).length=N:=by unfold kwL; simp
 have hLg:=λi (hi:i < N)=>show ((kwL KK N).map λp=>PV.ag [uv p.1,uv p.2])[i]?=some (.ag [uv (kwO KK i).1,uv (kwO KK i).2]) by
  unfold kwL; rw [zA,zA,zD hi]; rfl
 have hkw:(kwC KK≠0/\kwA KK=([],false,kwC KK))\/(kwC KK=0/\kwA KK=(kwL KK N,kwB KK N,0)):=by
  have hn:KK.n=N:=by rw [<- hKK]
  by_cases h:kwC KK=0
  .exact .inr ⟨h,by unfold kwA; rw [if_pos h,hn]⟩
  .exact .inl ⟨h,by unfold kwA; rw [if_neg h]⟩
 clear hKK;generalize kwA KK=q at *;generalize kwC KK=kc at *;generalize kwB KK N=kb at *;generalize kwL KK N=L at *;generalize kwO KK=O at *;clear KK;unfold pT q2M pBx at *;generalize (tM F N N).1=ms at *;generalize (tM F N N).2.1=mi at *;generalize (tM F N N).2.2=mv at *;have hng:IntKind.i64.wrap (1-(m:Int))=1-(m:Int):=by rw [i64_in ω ω]
 refine ac0 Tryz.func6 Tryz.ntmps6 [.tmp 8] ?_;refine wk ?_;refine qox λK hK=>?_;refine Zz ?_;refine jmF cBx ?_ ?_
 .exact Ow
 try refine Zz ?_
 refine hK _ _ ?_; clear hK K;refine q0r (LeM [] rfl rfl (xs:=[(0,pF raw),(2,iv wd),(3,pB picks),(9,.pt 9 0 0),(10,pF b),(11,pIm N A'),(12,pP R)]) (kv:=[]) (bs:=[(9,⟨27,some 5,[.ag [iv N,iv N,pI ms,pI mi,pF mv]],false⟩)]) (kb:=[]) ?_) ?_
 .try refine Zz ?_
  exact j0m (λi hi=>q0W hi) (λi hi=>hp9 hi) Oq
 clear cBx cM cPk;refine wk ?_;refine q0A (λi=>i<=N) [2,3,9,11,12,13] [9,13] Lk Lk (λi:Nat=>[(15,iv i),(14,.ow 1004 (some 2) 0 i)]) (λi=>[(1004,⟨58,some 2,(X i).map λp=>.ag [uv p.1,uv p.2],false⟩)]) (λi=>N-i) 0 (zI _) ?_ ?_
 .rw [hX0];refine LeM [(1004,none)] rfl rfl ?_;refine Zz ?_
  rfl
 .intro i hi;have xl:=hXl i
  by_cases hlt:i < N
  .have q:(i:Int) < N:=ω
   have c1:=cS i;have c2:=cD i;have xs:=hXs i;have xe:=hXe i;have gy:=hyg i hlt;generalize y.getD i 0=yi at *;generalize qa2 0 yi W=u1 at *;generalize q6f 0 yi W=u2 at *;rw [xe] at xs;clear hXn hXe cS cD hXs;refine wk1 (x4 q gy xl hng) ?_;refine ⟨i+1,ω,ω,?_⟩;rw [xs];refine LeM [(1004,some 75)] rfl rfl ?_;refine Zz ?_;exact ⟨ω,q0C (by rw [zC]; rfl) q32⟩
  .obtain rfl:i=N:=ω
   have q:¬ (i:Int) < i:=ω
   clear cS cD hXs hXe cSc hXn hX0 hXl hyg;generalize X i=Xs at *;refine wk1 q ?_;refine q0r (LeM [] rfl rfl (xs:=[(3,pB picks),(9,.pt 9 0 0),(11,pIm i A'),(12,pP R),(13,.pt 13 0 0),(14,pP Xs)]) (kv:=[]) (bs:=[(9,⟨27,some 5,[.ag [iv i,iv i,pI ms,pI mi,pF mv]],false⟩),(13,⟨37,some 4,[.ag [iv i,iv i,pF w,pF y]],false⟩)]) (kb:=[]) ?_) ?_
   .try refine Zz ?_
    exact q5S (T:=58) rfl q32 rfl (by rw [zJ,xl])
   have hMl0:=λj=>q11 (f:=enA picks A') (R:=i) j;have hMl:=λj (hj:j<=i)=>q11 (f:=enA picks A') (R:=i) j;have hCl:=λj r=>q6z (f:=enA picks A') (j:=j) (p:=(tM (enA picks A') i j).2) ((hMl0 j).2.1) r;have hMs:∀ j,tM (enA picks A') i (j+1)=((tM (enA picks A') i j).1 ++ [((tC (enA picks A') j (tM (enA picks A') i j).2 i).1.length:Int)],tC (enA picks A') j (tM (enA picks A') i j).2 i):=λ_=>rfl;have hM0:tM (enA picks A') i 0=([0],[],[]):=rfl;have hC0:∀ j,tC (enA picks A') j (tM (enA picks A') i j).2 0=(tM (enA picks A') i j).2:=λ_=>rfl;have hCs:∀ j r,tC (enA picks A') j (tM (enA picks A') i j).2 (r+1)=((tC (enA picks A') j (tM (enA picks A') i j).2 r).1 ++ [(r:Int)],(tC (enA picks A') j (tM (enA picks A') i j).2 r).2 ++ [enF picks (A' r j) (4*r+j)]):=λ_ _=>rfl;have hb1:∀ j,j<=i->(tM (enA picks A') i j).1.length<=1000:=λj hj=>by have:=(hMl j hj).1; omega
   have hb2:∀ j r,j<=i->r<=i->(tC (enA picks A') j (tM (enA picks A') i j).2 r).1.length<=1000/\(tC (enA picks A') j (tM (enA picks A') i j).2 r).2.length<=1000:=λj r hj hr=>by
    have a1:=(hMl j hj).2.2;have a2:=hCl j r;have a3:=zN hj (zE i);omega
   clear hMl hCl hMl0 hEA;generalize hCC:(λj r=>tC (enA picks A') j (tM (enA picks A') i j).2 r)=C at *;have hCe:∀ j r,tC (enA picks A') j (tM (enA picks A') i j).2 r=C j r:=λj r=>congrFun (congrFun hCC j) r;simp only [hCe] at hMs hC0 hCs hb2;clear hCe hCC;generalize tM (enA picks A') i=M at *;have hrg:=λj (hj:j < i)=>show ((List.range i).map λj=>pP (q3i i A' j))[j]?=some (pP (q3i i A' j)) by rw [zA,zD hj]; rfl
   have hrr:=λr j (hj:j < i)=>show ((q3i i A' r).map λp=>PV.ag [uv p.1,uv p.2])[j]?=some (.ag [uv (A' r j).1,uv (A' r j).2]) by rw [zA,q58 hj]; rfl
   unfold pIm pPn at *;generalize (List.range i).map (λj=>pP (q3i i A' j))=MI at *
   rcases hkw with ⟨g1,rfl⟩ | ⟨g1,rfl⟩
   .dsimp only at cKr;have qe:(kc != 0)=true:=by simp [g1]
    clear hrg hrr hMs hM0 hC0 hCs hb1 hb2 cEA cEB hEB hRg hLg hsys;exact wk1 qe trivial
   dsimp only at cKr;cases hkb:kb
   .subst hkb;clear hrg hrr hMs hM0 hC0 hCs hb1 hb2 cEA cEB hEB hRg hLg hsys;exact wk trivial
   obtain ⟨D,S,cSo,cCo⟩:=hsys g1 hkb;rw [hkb] at cKr;clear hsys hkb g1;refine wk ?_;refine q0A (λj=>j<=i) [3,9,11,12,17,20] [9] Lk Lk (λj:Nat=>[(21,iv j)]) (λj=>[(20,⟨27,some 5,[.ag [iv i,iv i,.ow 1010 none 0 (M j).1.length,.ow 1011 none 0 (M j).2.1.length,.ow 1012 none 0 (M j).2.2.length]],false⟩),(1010,⟨3,none,(M j).1.map λz=>iv z,false⟩),(1011,⟨3,none,(M j).2.1.map λz=>iv z,false⟩),(1012,⟨33,none,(M j).2.2.map λz:Nat=>uv z,false⟩)]) (λj=>i-j) 0 (zI _) ?_ ?_
   .rw [hM0];refine LeM [(1010,some 99),(1011,none),(1012,none)] rfl rfl ?_;refine Zz ?_
    rfl
   .intro j hj
    by_cases hlj:j < i
    .have qj:(j:Int) < i:=ω
     refine wk1 qj ?_;refine q0A (λr=>r<=i) [3,9,11,12,17,20,21] [9,1010] Lk Lk (λr:Nat=>[(22,iv r)]) (λr=>[(20,⟨27,some 5,[.ag [iv i,iv i,.ow 1010 none 0 (M j).1.length,.ow 1021 none 0 (C j r).1.length,.ow 1022 none 0 (C j r).2.length]],false⟩),(1021,⟨3,none,(C j r).1.map λz=>iv z,false⟩),(1022,⟨33,none,(C j r).2.map λz:Nat=>uv z,false⟩)]) (λr=>i-r) 0 (zI _) ?_ ?_
     .rw [hC0];refine LeM [(1021,some 1011),(1022,some 1012)] rfl rfl ?_;refine Zz ?_
      rfl
     .intro r hr2
      by_cases hlr:r < i
      .have qr:(r:Int) < i:=ω
       have g1:=hrg r hlr;have g2:=hrr r j hlj;have c1:=cEA r j Oq Oq;have e1:IntKind.i64.wrap (4*(r:Int))=((4*r:Nat):Int):=by rw [i64_in ω ω]; push_cast; rfl
       have e2:IntKind.i64.wrap (((4*r:Nat):Int)+(j:Int))=((4*r+j:Nat):Int):=by rw [i64_in ω ω]; push_cast; rfl
       have h1:=hCs j r;have h2:=hb2 j r Oq Oq;generalize A' r j=p at *;generalize enF picks p (4*r+j)=x at *;clear hrg hrr cEA hMs hM0 hC0 hCs hb1 hb2 cEB hEB hRg hLg cKr;refine wk1 (x5 qr g1 g2 e1 e2) ?_;refine ⟨r+1,ω,ω,?_⟩;rw [h1];refine LeM [(1021,some 117),(1022,some 134)] rfl rfl ?_;refine Zz ?_;omega
      .obtain rfl:r=i:=ω
       have qr:¬ (r:Int) < r:=ω
       have h1:=hMs j;have h2:=hb1 j Oq;clear hrg hrr cEA hMs hM0 hC0 hCs hb1 hb2 cEB hEB hRg hLg cKr;refine wk1 qr ?_;refine ⟨j+1,ω,ω,?_⟩;rw [h1];refine LeM [(1010,some 143),(1011,some 1021),(1012,some 1022)] rfl rfl ?_;refine Zz ?_;omega
    .obtain rfl:j=i:=ω
     have qj:¬ (j:Int) < j:=ω
     clear hrg hrr cEA hMs hM0 hC0 hCs hb1 hb2 cKr;generalize (M j).1=ns at *;generalize (M j).2.1=ni at *;generalize (M j).2.2=nv at *;refine wk1 qj ?_;refine q0A (λt=>t<=j) [3,9,12,17,20] [9,20,1010,1011,1012] Lk Lk (λt:Nat=>[(24,iv t),(23,.ow 1013 none 0 t)]) (λt=>[(1013,⟨33,none,((List.range t).map λi=>enF picks (R.getD i (0,0)) (20+i)).map λz:Nat=>uv z,false⟩)]) (λt=>j-t) 0 (zI _) ?_ ?_
     .refine LeM [(1013,none)] rfl rfl ?_;refine Zz ?_;exact ⟨rfl,rfl⟩
     .intro t ht;have hl:((List.range t).map λi=>enF picks (R.getD i (0,0)) (20+i)).length=t:=σ
      by_cases hlt2:t < j
      .have qt:(t:Int) < j:=ω
       have g1:=hRg t hlt2;have c1:=cEB t Oq;have e1:IntKind.i64.wrap (20+(t:Int))=((20+t:Nat):Int):=by rw [i64_in ω ω]; push_cast; rfl
       clear hEB cEB hRg;refine wk1 (x3 qt g1 e1) ?_;refine ⟨t+1,ω,ω,?_⟩;refine LeM [(1013,some 161)] rfl rfl ?_;refine Zz ?_;exact ⟨ω,by rw [zC]; rfl⟩
      .obtain rfl:t=j:=ω
       have qt:¬ (t:Int) < t:=ω
       have hl2:(enB picks R t).length=t:=by rw [hEn]; exact hl
       rw [<- hEn] at *;clear hEB cEB hRg;generalize enB picks R t=tv at *;refine wk1 qt ?_;refine q0r (LeM [] rfl rfl (xs:=[(9,.pt 9 0 0),(17,pP L),(20,.pt 20 0 0),(23,pF tv)]) (kv:=[]) (bs:=[(9,⟨27,some 5,[.ag [iv t,iv t,pI ms,pI mi,pF mv]],false⟩),(20,⟨27,some 5,[.ag [iv t,iv t,pI ns,pI ni,pF nv]],false⟩)]) (kb:=[]) ?_) ?_
       .try refine Zz ?_
        exact ⟨q5S (T:=33) rfl clU rfl (by rw [zJ,hl2]),q5S (T:=3) rfl clI rfl (by rw [zJ]),q5S (T:=3) rfl clI rfl (by rw [zJ]),q5S (T:=33) rfl clU rfl (by rw [zJ])⟩
       have q1:((t:Int) != (t:Int))=false:=σ
       unfold bT at *;refine wk1 (x2 q1 hLl) ?_;refine q0A (λc=>c<=t) [9,17,25,26] [9,26] Lk Lk (λc:Nat=>[(28,iv c)]) (λ_=>[]) (λc=>t-c) 0 (zI _) ?_ ?_
       .refine LeM [] rfl rfl ?_;refine Zz ?_
        rfl
       .intro c hc
        by_cases hlc:c < t
        .have qc:(c:Int) < t:=ω
         have cc:=cCo c hlc;have gi:=hLg c hlc;have gx:((List.range t).map λr=>PV.ag [bv (decide (S r < 0)),.fm (fL (S r))])[c]?=some (.ag [bv (decide (S c < 0)),.fm (fL (S c))]):=by rw [zA,zD hlc]; rfl
         clear cCo hLg cSo;refine wk1 (x3 qc gi gx) ?_;refine ⟨c+1,ω,ω,?_⟩;refine LeM [] rfl rfl ?_;refine Zz ?_;omega
        .obtain rfl:c=t:=ω
         have qc:¬ (c:Int) < c:=ω
         clear cCo hLg cSo;exact wk1 qc trivial
end Go.Proofs.YtpbaikoblfcmdaaGreatDoor
