/- CondSound. 6/7. -/
import Derived.Test.YtbjoghfmhgadkaaGreatDoorPs5
open Int renaming natAbs_natCast->zC,ne_of_gt->zF,pow_add->zL,one_mul->zP,mul_assoc->zS,le_of_lt->zU,mul_comm->zW,mul_pos->zY
open List renaming getD_eq_getElem?_getD->zA,getElem?_eq_getElem->zB,getElem?_map->zD,getElem?_eq_none->zG,getElem?_range->zI,getElem_mem->zM,mem_map->uW
open Nat renaming mul_le_mul->zE,lt_of_le_of_lt->zJ,pow_add->zK,le_trans->zN,sub_zero->zO,pow_lt_pow_right->zQ,mul_assoc->zR,mul_comm->zV
open Option renaming map_some->zH,getD_some->zX
set_option linter.unusedSimpArgs false
set_option linter.unusedVariables false
set_option maxRecDepth 20000
set_option maxHeartbeats 2000000
set_option linter.defProp false
namespace Go.Proofs.YtbjoghfmhgadkaaGreatDoor
open Go Go.E Go.Sp
noncomputable def ckT (raw:List Nat) (N:Nat) (st:Int) (rg:Bool):Nat->Nat->Option Nat:=if rg then rgF (gF raw N (q1A (q1A st 3:Nat) 4)) N else gF raw N (q1A st 4)
noncomputable def ckL (raw:List Nat) (N:Nat) (st:Int) (rg:Bool):LUt:=qgr (ckT raw N st rg) (tM (ckT raw N st rg) N N).2.1 N (qcB N) 1 1
open Classical in
noncomputable def ckB (raw:List Nat) (N:Nat) (st:Int) (rg wild:Bool):List Nat:=if wild=true\/(ivA (ckL raw N st rg)).2.2≠0\/(ivA (ckL raw N st rg)).1≠N then qaW raw 500 (q1A 2 4) (N*N) else (ivA (ckL raw N st rg)).2.1
def spX (raw:List Nat) (s k x:Nat):Nat:=(x+s*(q44 raw (k:Int) % 100000)) % 18446744073709551616
def spL (raw:List Nat) (s:Nat) (p:List Nat) (i:Nat):List Nat:=(List.range p.length).map λk=>if k < i then spX raw s k (p.getD k 0) else p.getD k 0
noncomputable def ckV (raw:List Nat) (N:Nat) (st:Int) (rg:Bool) (sp:Int) (wild:Bool):List Nat:=spL raw (q1A sp 4) (ckB raw N st rg wild) (ckB raw N st rg wild).length
section
variable {raw p:List Nat} {s i N:Nat} {st sp n:Int} {rg wild:Bool}
def q6n:(spL raw s p i).length=p.length:=by unfold spL; simp
def spL_0:spL raw s p 0=p:=by
 unfold spL;refine List.ext_getElem? λk=>?_;rw [zD]
 by_cases h:k < p.length
 .rw [zI h,zH,if_neg ω,zA,zB h]; rfl
 .rw [zG (by simpa using h),zG ω]; rfl
def qnM (h:i < p.length):(spL raw s p i)[i]?=some (p.getD i 0):=by
 unfold spL;rw [zD,zI h,zH,if_neg ω]
def spL_s (h:i < p.length):(spL raw s p i).set i (spX raw s i (p.getD i 0))=spL raw s p (i+1):=by
 refine List.ext_getElem? λk=>?_;rw [List.getElem?_set,q6n];unfold spL;rw [zD,zD]
 by_cases hk:k < p.length
 .rw [zI hk,zH,zH]
  by_cases e:i=k
  .subst e; rw [if_pos rfl,if_pos hk,if_pos ω]
  .rw [if_neg e]
   by_cases h2:k < i
   .rw [if_pos h2,if_pos ω]
   .rw [if_neg h2,if_neg ω]
 .rw [zG (by simpa using hk),if_neg ω]; rfl
def spL_u (hp:∀ x ∈ p,x < 18446744073709551616):∀ x ∈ spL raw s p i,x < 18446744073709551616:=λx hx=>by
 unfold spL at hx;obtain ⟨k,hk,rfl⟩:=uW.1 hx
 split
 .exact Nat.mod_lt _ Oq
 .have hk:=List.mem_range.1 hk;rw [zA,zB hk];exact hp _ (zM hk)
def qlq (hN:N<=100):TOk (ckT raw N st rg) N N:=by
 unfold ckT;cases rg
 .rw [if_neg (by decide)];exact qoe Oq Oq (by have:=zE hN hN; omega)
 .rw [if_pos rfl];exact qtE hN (by unfold q1A; omega)
def qpb (hN:N<=100):LUb (ckL raw N st rg)/\(ckL raw N st rg).rows.length<=N:=qla hN (by rw [q4h]; omega)
def qlr (hN:N<=100):(ckB raw N st rg wild).length=N*N/\∀ x ∈ ckB raw N st rg wild,x < 18446744073709551616:=by
 unfold ckB
 split
 .exact ⟨q6b,λx hx=>(qdG x hx).1⟩
 .rename_i h;have hI:=qew (g:=ckL raw N st rg) (qpb hN).1;have h2:(ivA (ckL raw N st rg)).2.2=0:=Classical.not_not.1 λq=>h (.inr (.inl q));have h3:(ivA (ckL raw N st rg)).1=N:=Classical.not_not.1 λq=>h (.inr (.inr q));refine ⟨?_,λx hx=>(hI.2.1 x hx).1⟩;rw [(hI.1 h2).2,<- (hI.1 h2).1,h3]
def qvs (hN:N<=100):(ckV raw N st rg sp wild).length=N*N/\∀ x ∈ ckV raw N st rg sp wild,x < 18446744073709551616:=by
 obtain ⟨h1,h2⟩:=qlr (raw:=raw) (st:=st) (rg:=rg) (wild:=wild) hN;unfold ckV;exact ⟨by rw [q6n]; exact h1,spL_u h2⟩
def qhs (hr:raw.length<=9223372036854775807) (h1 : -9223372036854775808<=n) (h2:n<=9223372036854775807) (h3 : -9223372036854775808<=st) (h4:st<=9223372036854775807) (h5 : -9223372036854775808<=sp) (h6:sp<=9223372036854775807) :
  ACt 13 [pF raw,iv n,iv st,bv rg,iv sp,bv wild] (.tu [pT (q1A n 5) (q1A n 5) (ckT raw (q1A n 5) st rg),pPn (q1A n 5) (q1A n 5) (ckV raw (q1A n 5) st rg sp wild)]):=by
 have cM:=q8Q (a:=n) (n:=5) h1 h2 Oq Oq;have cS:=q8Q (a:=sp) (n:=4) h5 h6 Oq Oq;have hs:q1A sp 4 < 4:=by unfold q1A; omega
 have hN:q1A n 5 < 5:=by unfold q1A; omega
 generalize q1A n 5=N at *;have cG:=q56 (raw:=raw) (st:=st) (R:=N) (C:=N) hr Oq Oq h3 h4;have cR:=qcI (raw:=raw) (st:=st) (n:=N) hr Oq h3 h4;have hF:=qlq (raw:=raw) (N:=N) (st:=st) (rg:=rg) Oq;have cI:=qiT (n:=N) Oq;have cL:=qiH (num:=1) (den:=1) hF Oq (cols:=qcB N) (qdI N) Oq Oq Oq;obtain ⟨hLb,hLr⟩:=qpb (raw:=raw) (N:=N) (st:=st) (rg:=rg) Oq;have cV:=qgx hLb Oq;have cP:=qeT (raw:=raw) (r:=N) (c:=N) (st:=2) hr Oq Oq Oq Oq;obtain ⟨hBl,hBu⟩:=qlr (raw:=raw) (N:=N) (st:=st) (rg:=rg) (wild:=wild) Oq;have hI:=qew hLb;have hBe:=show ckB raw N st rg wild=if wild=true\/(ivA (ckL raw N st rg)).2.2≠0\/(ivA (ckL raw N st rg)).1≠N then qaW raw 500 (q1A 2 4) (N*N) else (ivA (ckL raw N st rg)).2.1 from rfl
 have hVl:=q6b (raw:=raw) (k:=500) (st:=q1A 2 4) (n:=N*N);unfold ckV;unfold facP at cL;change ACt _ _ (.tu [pLU (ckL raw N st rg),_,_]) at cL;generalize q1A sp 4=s at *;generalize ckL raw N st rg=f at *;generalize ckB raw N st rg wild=p at *;generalize qaW raw 500 (q1A 2 4) (N*N)=V at *;generalize (ivA f).1=M at *;generalize (ivA f).2.1=W at *;generalize (ivA f).2.2=e at *;have hNN:N*N<=5*5:=zE Oq Oq;have cG1:rg=false->(tM (gF raw N (q1A st 4)) N N).1=(tM (ckT raw N st rg) N N).1/\(tM (gF raw N (q1A st 4)) N N).2.1=(tM (ckT raw N st rg) N N).2.1/\(tM (gF raw N (q1A st 4)) N N).2.2=(tM (ckT raw N st rg) N N).2.2:=λq=>by subst q; exact ⟨rfl,rfl,rfl⟩
 have cR1:rg=true->ACt 40 [pF raw,iv N,iv st] (pT N N (ckT raw N st rg)):=λq=>by subst q; exact cR
 clear cR;generalize ckT raw N st rg=F at *;generalize gF raw N (q1A st 4)=F0 at *;unfold pLU at cL cV;unfold pT q26 pPn at *;generalize (tM F N N).1=ms at *;generalize (tM F N N).2.1=mi at *;generalize (tM F N N).2.2=mv at *;generalize (tM F0 N N).1=ms0 at *;generalize (tM F0 N N).2.1=mi0 at *;generalize (tM F0 N N).2.2=mv0 at *;refine ac0 Tryz.func13 Tryz.ntmps13 [.cell 12 26,.cell 13 28] ?_;refine wk ?_;refine qqr λK hK=>?_;have fin:∀ (s0:Nat->PV) (h:Hp),Le (λ_=>False) s0 h (stM [(0,pF raw),(1,iv N),(4,iv sp),(5,bv wild),(12,.pt 12 0 0),(13,.pt 13 0 0),(14,.pt 14 0 0)] []) (hpM [(12,⟨26,some 5,[.ag [iv 0,iv 0,q0W,q0W,q0W]],false⟩),(13,⟨28,some 3,[.ag [iv 0,iv 0,q0W]],false⟩),(14,⟨26,some 5,[.ag [iv N,iv N,pI ms,pI mi,pF mv]],false⟩)] [])->K s0 h:=by
  clear cG cG1 cR1;intro s0 h hl;refine hK _ _ (q0z hl ?_); clear hK K hl;refine wk ?_;refine qrV λK hK=>?_;refine Zz ?_;refine jmF cV ?_ ?_
  .exact Ow
  try refine Zz ?_
  refine hK _ _ ?_; clear hK K;refine wk ?_;refine qqr λK hK=>?_;have q4S:∀ (s0:Nat->PV) (h:Hp),Le (λ_=>False) s0 h (stM [(0,pF raw),(4,iv sp),(12,.pt 12 0 0),(13,.pt 13 0 0),(14,.pt 14 0 0),(18,.pt 18 0 0)] []) (q0u (q0Q h0 5000 ⟨32,none,p.map λz:Nat=>uv z,false⟩) (hpM [(12,⟨26,some 5,[.ag [iv 0,iv 0,q0W,q0W,q0W]],false⟩),(13,⟨28,some 3,[.ag [iv 0,iv 0,q0W]],false⟩),(14,⟨26,some 5,[.ag [iv N,iv N,pI ms,pI mi,pF mv]],false⟩),(18,⟨28,some 3,[.ag [iv N,iv N,.ow 5000 none 0 (N*N)]],false⟩)] []))->K s0 h:=by
   intro s0 h hl;refine hK _ _ (q0z hl ?_); clear hK K hl;refine wk ?_;refine q0P (λi=>i<=N*N) [0,4,12,13,14,18] [12,13,14,18] Lk Lk (λi:Nat=>[(20,iv i)]) (λ_=>[]) (λi=>q0Q h0 5000 ⟨32,none,(spL raw s p i).map λz:Nat=>uv z,false⟩) (λi=>N*N-i) 0 (Nat.zero_le _) ?_ ?_
   .rw [spL_0];refine LeW [] rfl rfl ?_ ?_ (by simp [q0f,q0b,win]) ?_
    .exact Ow
    .exact qqz _
    .try refine Zz ?_
     rfl
   .intro i hi
    by_cases hlt:i < N*N
    .have q:(i:Int) < ((N*N:Nat):Int):=ω
     have C1:=q9I (raw:=raw) (k:=(i:Int)) hr Oq Oq;have l1:=q6n (raw:=raw) (s:=s) (p:=p) (i:=i);have l2:=qnM (raw:=raw) (s:=s) (p:=p) (i:=i) Oq;have l3:=spL_s (raw:=raw) (s:=s) (p:=p) (i:=i) Oq;have hx:p.getD i 0 < 18446744073709551616:=by
      rw [zA,zB ω];exact hBu _ (zM _)
     have e1:((q44 raw (i:Int):Nat):Int).tmod 100000=((q44 raw (i:Int) % 100000:Nat):Int):=rfl;have e6:spX raw s i (p.getD i 0)=(p.getD i 0+s*(q44 raw (i:Int) % 100000)) % 18446744073709551616:=rfl;have hw:=q3K raw (i:Int);generalize spL raw s p i=P at *;generalize p.getD i 0=x at *;generalize spX raw s i x=y at *;generalize q44 raw (i:Int)=w at *;obtain ⟨m,hm⟩:∃ m,m=w % 100000:=⟨_,rfl⟩;rw [<- hm] at e1 e6;have hmm:m < 100000:=ω
     have e2:IntKind.i64.wrap ((m:Nat):Int)=(m:Int):=i64_in Oq Oq;have hsm:s*m<=3*100000:=zE Oq Oq;have e3:IntKind.i64.wrap ((s:Int)*(m:Int))=((s*m:Nat):Int):=by rw [<- Int.natCast_mul,i64_in ω ω]
     have e4:IntKind.u64.wrap ((s*m:Nat):Int)=((s*m:Nat):Int):=u64_in Oq Oq;have e5:IntKind.u64.wrap ((x:Int)+((s*m:Nat):Int))=((y:Nat):Int):=by rw [q0v,e6]; omega
     have N1:Nz (uv (w:Nat)):=qcP;have N2:Nz (iv (s:Nat)):=qcP;generalize s*m=sm at *;refine wk1 (x6 q l1 l2 e1 e2 (x3 e3 e4 e5)) ?_;refine ⟨i+1,ω,ω,?_⟩;rw [<- l3];refine LeW [] rfl rfl ?_ ?_ (by simp [q0f,q0b,win]) ?_
     .intro c hc
      by_cases ec:c=5000
      .subst ec;rw [q0I,q0I,List.map_set]
      .rw [q0A ec,q0U hc,q0A ec,q0A ec]
     .exact qqz _
     .try refine Zz ?_
      omega
    .obtain rfl:i=N*N:=ω
     have q:¬ ((N*N:Nat):Int) < ((N*N:Nat):Int):=ω
     refine wk1 q ?_;rw [hBl];exact List.take_of_length_le (by rw [List.length_map,q6n]; omega)
  by_cases g1:wild=true
  .rw [if_pos (.inl g1)] at hBe;subst hBe;subst g1;refine wk ?_;refine q0z (LeM [] rfl rfl (xs:=[(0,pF raw),(1,iv N),(4,iv sp),(12,.pt 12 0 0),(13,.pt 13 0 0),(14,.pt 14 0 0),(18,.pt 18 0 0)]) (kv:=[]) (bs:=[(12,⟨26,some 5,[.ag [iv 0,iv 0,q0W,q0W,q0W]],false⟩),(13,⟨28,some 3,[.ag [iv 0,iv 0,q0W]],false⟩),(14,⟨26,some 5,[.ag [iv N,iv N,pI ms,pI mi,pF mv]],false⟩),(18,⟨28,some 3,[.un],false⟩)]) (kb:=[]) ?_) ?_
   .try simp -implicitDefEqProofs (disch:=omega) only [go_sem,Nat.reduceEqDiff,Nat.reduceAdd,↓reduceIte]
   refine q5o λK9 hK9=>?_;refine Zz ?_;refine jmF cP ?_ ?_
   .exact Ow
   try refine Zz ?_
   refine hK9 _ _ (q4S _ _ ?_);refine LeW [] rfl rfl ?_ ?_ (by simp [q0f,q0b,win]) ?_
   .exact Ow
   .exact qqz _
   .try simp -implicitDefEqProofs (disch:=omega) only [go_sem,Nat.reduceEqDiff,Nat.reduceAdd,↓reduceIte]
  by_cases g2:e=0
  rotate_left
  .have q2:(e != 0)=true:=by simpa using g2
   rw [if_pos (.inr (.inl g2))] at hBe;subst hBe;obtain rfl:wild=false:=by simpa using g1
   refine wk1 q2 ?_;refine q0z (LeM [] rfl rfl (xs:=[(0,pF raw),(1,iv N),(4,iv sp),(12,.pt 12 0 0),(13,.pt 13 0 0),(14,.pt 14 0 0),(18,.pt 18 0 0)]) (kv:=[]) (bs:=[(12,⟨26,some 5,[.ag [iv 0,iv 0,q0W,q0W,q0W]],false⟩),(13,⟨28,some 3,[.ag [iv 0,iv 0,q0W]],false⟩),(14,⟨26,some 5,[.ag [iv N,iv N,pI ms,pI mi,pF mv]],false⟩),(18,⟨28,some 3,[.un],false⟩)]) (kb:=[]) ?_) ?_
   .try simp -implicitDefEqProofs (disch:=omega) only [go_sem,Nat.reduceEqDiff,Nat.reduceAdd,↓reduceIte]
   refine q5o λK9 hK9=>?_;refine Zz ?_;refine jmF cP ?_ ?_
   .exact Ow
   try refine Zz ?_
   refine hK9 _ _ (q4S _ _ ?_);refine LeW [] rfl rfl ?_ ?_ (by simp [q0f,q0b,win]) ?_
   .exact Ow
   .exact qqz _
   .try simp -implicitDefEqProofs (disch:=omega) only [go_sem,Nat.reduceEqDiff,Nat.reduceAdd,↓reduceIte]
  by_cases g3:M=N
  rotate_left
  .have q3:((M:Int) != (N:Int))=true:=by simp; omega
   rw [if_pos (.inr (.inr g3))] at hBe;subst hBe;subst g2;obtain rfl:wild=false:=by simpa using g1
   refine wk1 q3 ?_;refine q0z (LeM [] rfl rfl (xs:=[(0,pF raw),(1,iv N),(4,iv sp),(12,.pt 12 0 0),(13,.pt 13 0 0),(14,.pt 14 0 0),(18,.pt 18 0 0)]) (kv:=[]) (bs:=[(12,⟨26,some 5,[.ag [iv 0,iv 0,q0W,q0W,q0W]],false⟩),(13,⟨28,some 3,[.ag [iv 0,iv 0,q0W]],false⟩),(14,⟨26,some 5,[.ag [iv N,iv N,pI ms,pI mi,pF mv]],false⟩),(18,⟨28,some 3,[.un],false⟩)]) (kb:=[]) ?_) ?_
   .try simp -implicitDefEqProofs (disch:=omega) only [go_sem,Nat.reduceEqDiff,Nat.reduceAdd,↓reduceIte]
   refine q5o λK9 hK9=>?_;refine Zz ?_;refine jmF cP ?_ ?_
   .exact Ow
   try refine Zz ?_
   refine hK9 _ _ (q4S _ _ ?_);refine LeW [] rfl rfl ?_ ?_ (by simp [q0f,q0b,win]) ?_
   .exact Ow
   .exact qqz _
   .try simp -implicitDefEqProofs (disch:=omega) only [go_sem,Nat.reduceEqDiff,Nat.reduceAdd,↓reduceIte]
  have q3:((M:Int) != (N:Int))=false:=by simp; omega
  rw [if_neg (by rintro (h | h | h) <;> first | exact g1 h | exact h g2 | exact h g3)] at hBe;subst hBe;subst g2;obtain rfl:wild=false:=by simpa using g1
  refine wk1 q3 ?_;refine q4S _ _ ?_;subst g3;rw [<- hBl];refine LeW [] rfl rfl ?_ ?_ (by simp [q0f,q0b,win]) ?_
  .exact Ow
  .exact qqz _
  .try simp -implicitDefEqProofs (disch:=omega) only [go_sem,Nat.reduceEqDiff,Nat.reduceAdd,↓reduceIte]
 cases rg
 .obtain ⟨rfl,rfl,rfl⟩:=cG1 rfl;clear cR1;refine wk ?_;refine fin _ _ (LeM [] rfl rfl ?_)
  try simp -implicitDefEqProofs (disch:=omega) only [go_sem,Nat.reduceEqDiff,Nat.reduceAdd,↓reduceIte]
 .have cR2:=cR1 rfl;refine wk ?_;refine fin _ _ (LeM [] rfl rfl ?_)
  try simp -implicitDefEqProofs (disch:=omega) only [go_sem,Nat.reduceEqDiff,Nat.reduceAdd,↓reduceIte]
end
section
variable {raw:List Nat} {N K n k j i:Nat} {rg wild:Bool} {sp:Int} {G:Nat->Nat->Option Nat}
def qug {mode m:Int} {t K:Nat} (hK:K=65536) (hm:m.natAbs < 9007199254740992) (h1:K<=t+1000) (h2:t<=K+900):ofZ (fR mode (m*(2:Int) ^ t))=m*(2:Int) ^ t:=by
 refine q0V ?_;unfold fR;rw [<- hK]
 by_cases h0:m=0
 .subst h0;rw [Int.zero_mul,if_pos rfl];exact q2A
 .have hp:=q0N t;have hne:m*(2:Int) ^ t≠0:=Int.mul_ne_zero h0 (zF hp);have hsg:decide (m*(2:Int) ^ t < 0)=decide (m < 0):=by
   rw [decide_eq_decide]
   constructor
   .intro h
    rcases Int.lt_or_le m 0 with h1 | h1
    .exact h1
    .have:=Int.mul_nonneg h1 (zU hp); omega
   .intro h; exact Int.mul_neg_of_neg_of_pos h hp
  rw [if_neg hne,hsg,q0H];have hb:bl m.natAbs<=53:=q0K hm;have:=qan (mode:=mode) (neg:=decide (m < 0)) (N:=m.natAbs*2 ^ t) (D:=2 ^ K) (M:=m.natAbs) (f:=(t:Int)-K) (q0F K) Oq hb Oq Oq (by
   rcases Nat.le_total K t with h | h
   .obtain ⟨d,rfl⟩:∃ d,t=K+d:=⟨t-K,ω⟩;rw [show (-(((K+d:Nat):Int)-K)).toNat=0 by omega,show (((K+d:Nat):Int)-K).toNat=d by omega,Nat.pow_zero,Nat.mul_one,zK,zV (2 ^ K) m.natAbs,zR]
   .obtain ⟨d,rfl⟩:∃ d,K=t+d:=⟨K-t,ω⟩;rw [show (-((t:Int)-((t+d:Nat):Int))).toNat=d by omega,show ((t:Int)-((t+d:Nat):Int)).toNat=0 by omega,Nat.pow_zero,Nat.mul_one,zK,zV _ m.natAbs,zR])
  rw [q08,show ((t:Int)-K+65536).toNat=t by omega] at this;exact this.1
def qe0 (hK:K=65536) (w:Nat):∃ z:Int,ofZ (q2M 0 w)=z*(2:Int) ^ K/\z.natAbs<=9:=by
 unfold q2M;rw [if_neg ω,if_neg ω,if_neg ω];have hs:=q4j w;exact ⟨q37 w,qnu hK Oq,ω⟩
def qof (hK:K=65536) (j i:Nat):∃ z:Int,ofZ ((gF raw n 0 j i).getD 0)=z*(2:Int) ^ K/\z.natAbs<=9:=by
 unfold gF
 split
 .rw [zX]; exact qe0 hK _
 .rw [Option.getD_none,q3e]; exact ⟨0,(Int.zero_mul _).symm,Nat.zero_le _⟩
def qdw (hK:K=65536) (hG:∀ j i,∃ z:Int,ofZ ((G j i).getD 0)=z*(2:Int) ^ K/\z.natAbs<=9):∀ k,∃ m:Nat,q1L (rgL G i k)=(m:Int)*(2:Int) ^ K/\m<=1+18*k
 | 0=>⟨1,by unfold rgL; rw [q4i,q6Q,<- hK,show ((1:Nat):Int)=1 from rfl,zP],ω⟩
 | k+1=>by
  obtain ⟨m,h1,h2⟩:=qdw hK hG k;unfold rgL
  split
  .exact ⟨m,h1,ω⟩
  .obtain ⟨a,a1,a2⟩:=hG k i;obtain ⟨c,c1,c2⟩:=hG i k;refine ⟨m+a.natAbs+c.natAbs,?_,by clear h1 a1 c1; omega⟩;rw [show ∀ p q:Int,[p,q]=[p] ++ [q] from λ_ _=>rfl,<- List.append_assoc,q0j,q0j,h1,a1,c1,q0H,q0H]
   push_cast
   rw [Int.add_mul,Int.add_mul]
def qgG (hK:K=65536) (hN:N<=4) (j i:Nat):∃ z:Int,ofZ ((ckT raw N 0 rg j i).getD 0)=z*(2:Int) ^ K/\z.natAbs<=73:=by
 have hG:∀ j i,∃ z:Int,ofZ ((gF raw N 0 j i).getD 0)=z*(2:Int) ^ K/\z.natAbs<=9:=qof hK;have e1:q1A 0 4=0:=by unfold q1A; simp
 have e2:q1A ((q1A 0 3:Nat):Int) 4=0:=by unfold q1A; simp
 unfold ckT;rw [e1,e2];cases rg
 .rw [if_neg (by decide)];obtain ⟨z,h1,h2⟩:=hG j i;exact ⟨z,h1,zN h2 (by decide)⟩
 .rw [if_pos rfl];unfold rgF
  split
  .obtain ⟨m,h1,h2⟩:=qdw (i:=i) hK hG N;rw [zX,h1];exact ⟨m,qug hK Oq Oq Oq,ω⟩
  .obtain ⟨z,h1,h2⟩:=hG j i;exact ⟨z,h1,zN h2 (by decide)⟩
def qpa (hN : N <= 4) : ∀ x ∈ ckV raw N 0 rg sp wild, q0M x /\ x < 18446744073709551616 := λx hx => by
  obtain ⟨K, hK⟩ : ∃ K : Nat, K = 65536 := ⟨_, rfl⟩
  have hs : q1A sp 4 < 4 := by unfold q1A; omega
  have hbase : ∀ y ∈ ckB raw N 0 rg wild, ∀ d, d <= 1000000 -> (y + d) % 18446744073709551616 < 18446744073709551616 /\ q0M ((y + d) % 18446744073709551616) := λy hy d hd => by
    unfold ckB at hy
    split at hy
    . unfold qaW at hy
      obtain ⟨i, _, rfl⟩ := uW.1 hy
      exact qnN (qhY (q3K _ _)) hd
    . have hsz := quR (F := ckT raw N 0 rg) (mi := (tM (ckT raw N 0 rg) N N).2.1) (n := N) (cols := qcB N) (a := 7) hK Oq hN (λj i => by
        obtain ⟨z, z1, z2⟩ := qgG (raw := raw) (rg := rg) hK hN j i
        rw [z1]
        refine ⟨⟨z, by rw [zO, hK]⟩, ?_⟩
        rw [Int.natAbs_mul, q0a, zK, zV]
        exact Nat.mul_le_mul_left _ (by have : (2 : Nat) ^ 7 = 128 := by decide
                                        omega)) (by rw [q4h]; omega) y hy
      have hfin := (qew (qpb (raw := raw) (N := N) (st := 0) (rg := rg) Oq).1).2.1 y hy
      exact qqS hfin.1 hfin.2 hK hsz hd
  unfold ckV spL at hx
  obtain ⟨k, hk, rfl⟩ := uW.1 hx
  rw [List.mem_range] at hk
  rw [if_pos hk]
  unfold spX
  have hm : (ckB raw N 0 rg wild).getD k 0 ∈ ckB raw N 0 rg wild := by
    rw [zA, zB hk]
    exact zM hk
  have := hbase _ hm (q1A sp 4 * (q44 raw (k : Int) % 100000)) (by
    have h1 : q1A sp 4 * (q44 raw (k : Int) % 100000) <= 3 * 100000 := zE Oq Oq
    omega)
  exact ⟨this.2, this.1⟩
end
def qnv {f m e:Nat} (h1:f / 4503599627370496 % 2048=e) (h2:e≠0) (h3:e≠2047) (h4:f < 9223372036854775808) (h5:4503599627370496+f % 4503599627370496=m):ofZ f=(m:Int)*(2:Int) ^ (64461+e):=by
 refine q0V ?_;unfold ofF;rw [h1,if_neg h3,if_neg h2,decide_eq_false ω,h5]
 rfl
def fR_u {z K s:Nat} (hK:K=65536) (hs:s<=K) (hz:0 < z):fR 0 ((z:Int)*(2:Int) ^ (K-s))=rF 0 false z (2 ^ s):=by
 have hp:=q0N (K-s);have hpos:0 < (z:Int)*(2:Int) ^ (K-s):=zY Oq hp;unfold fR;rw [if_neg ω,decide_eq_false ω,q0H,zC,<- hK,show (2:Nat) ^ K=2 ^ s*2 ^ (K-s) by rw [<- zK]; congr 1; omega];exact q3d hz (q0F _) (q0F _)
section
variable {K:Nat}
end
end Go.Proofs.YtbjoghfmhgadkaaGreatDoor
namespace Go.E
open Go Go.RowKit
section
variable {P:Program} {Tb:World->Prop}
variable {d:Option Nat} {ty t:TypeId} {pos:String} {af:Array Edge} {g:Option (Nat × Bool)} {s:Nat->PV} {h:Hp} {K:PV->Hp->FP->Prop} {ops r:List Oper} {KL:(Nat->PV)->Hp->List FP->Prop} {acc:List FP} {dd:Nat}
def qwe [NL] {a b c f}:ao P Tb (some dd) (.buildSlice t 4 #[(0,a),(1,b),(2,c),(3,f)]) s h K=nnK (h dd) dd (@oK _ (elK P t) ⟨λe=>@cK (4*ksz e.2.1<=16777216) ⟨vK (pe s a) λx=>vK (pe s b) λy=>vK (pe s c) λz=>vK (pe s f) λu=>q1p e.2.1 x (q1p e.2.1 y (q1p e.2.1 z (q1p e.2.1 u (K (.ow dd e.2.1 0 4) (q0Q h dd ⟨e.1,e.2.1,[x,y,z,u],false⟩) ([],[dd])))))⟩⟩):=by
 have:=qg1 (P:=P) (Tb:=Tb) (s:=s) (h:=h) (K:=K) (t:=t) (dd:=dd) (len:=4) (ps:=[(0,a),(1,b),(2,c),(3,f)]) rfl;simpa [oK,cK,q82,q81,vK] using this
attribute [go_sem ↓] qwe
end
end Go.E
namespace Go.Proofs.YtbjoghfmhgadkaaGreatDoor
open Go Go.E Go.Sp
def nzL {w:World} {D B:Nat->Prop} (hB:∀ g,B g->∃ cs T,Blk w g T cs/\∀ u ∈ cs.toList,q4c u=true):∀ (l:List PV) (vs:List Value),(∀ x ∈ l,Nz x)->RdL w D l (λ_=>none) h0 vs->RdL w (λk=>D k/\¬ B k) l (λ_=>none) h0 vs
 | [],vs,_,h=>by unfold RdL at h ⊢; exact h
 | x :: l,vs,hl,h=>by
  unfold RdL at h ⊢;obtain ⟨a,b,rfl,h1,h2⟩:=h;exact ⟨a,b,rfl,hl x List.mem_cons_self w D B a hB h1,nzL hB l b (λy hy=>hl y (List.mem_cons_of_mem _ hy)) h2⟩
def qtk {l:List PV} (hl:∀ x ∈ l,Nz x):Nz (.tu l):=λw D B v hB h=>by
 unfold Rd at h ⊢;obtain ⟨vs,rfl,h1⟩:=h;exact ⟨vs,rfl,nzL hB l vs hl h1⟩
def nz_ag {l:List PV} (hl:∀ x ∈ l,Nz x):Nz (.ag l):=λw D B v hB h=>by
 unfold Rd at h ⊢;obtain ⟨vs,rfl,h1⟩:=h;exact ⟨vs,rfl,nzL hB l vs hl h1⟩
def qur:q9n Tryz.prog 34=true:=κ
def eq_iv {k m:IntKind} {a b c d:Int}:bnP Tryz.prog .eql 34 (.ag [.vl (.int k a),.vl (.int m b)]) (.ag [.vl (.int k c),.vl (.int m d)])=some (.vl (.bool (a == c && b == d))):=qwR qur
attribute [go_sem] eq_iv
def qpH {mode:Int} {z y K s:Nat} (hs:s<=K) (hz:0 < z) (hy:0 < y):fQ mode ((z:Int)*(2:Int) ^ (K-s)) ((y:Int)*(2:Int) ^ K)=rF mode false z (y*2 ^ s):=by
 have hpos:0 < (z:Int)*(2:Int) ^ (K-s):=zY Oq (q0N _);have hpos2:0 < (y:Int)*(2:Int) ^ K:=zY Oq (q0N _);unfold fQ;rw [if_neg ω,decide_eq_false ω,decide_eq_false ω,q0H,q0H,zC,zC,show y*(2:Nat) ^ K=y*2 ^ s*2 ^ (K-s) by rw [zR,<- zK]; congr 2; omega];exact q3d hz (Nat.mul_pos hy (q0F _)) (q0F _)
def qe6 {x y K:Nat} {V:Int} (hK:K=65536) (hx:q0M x) (hy:q0M y) (h:ofZ x*ofZ y=V*(2:Int) ^ K):q1M x y=V:=Int.eq_of_mul_eq_mul_right (zF (q0N K)) ((q7G hK hx hy).1.trans h)
def awF (a b:Nat):Nat->Nat->Option Nat:=λj i=>if i=j then (if j=0 then some a else some b) else none
section
variable {K:Nat} {f1 f4 fq:Nat}
def awB (hK:K=65536) (h1:q0M f1) (h4:q0M f4) (hq:q0M fq) (o1:ofZ f1=(2:Int) ^ K) (o4:ofZ f4=4*(2:Int) ^ K) (oq:4*ofZ fq=(2:Int) ^ K) (i:Nat) (hi:i < 2):btZ 2 [f1,0,0,fq] (awF f1 f4) i=0:=by
 have e1:q0s=(2:Int) ^ K:=by rw [q6Q,hK]
 have m1:q1M f1 f1=(2:Int) ^ K:=qe6 hK h1 h1 (by rw [o1]);have m2:q1M fq f4=(2:Int) ^ K:=qe6 hK hq h4 (by rw [o4,<- oq]; generalize ofZ fq=z; rw [Int.mul_left_comm,<- zS]);have hi:i=0\/i=1:=ω
 unfold btZ btE btD
 rcases hi with rfl | rfl
 .simp [sg,awF,m1,m2,q8O,q8N,e1]
 .simp [sg,awF,m1,m2,q8O,q8N,e1]
def qi9 {a b:Int} (ha:0<=a):grZ [a,b]=max a b:=by unfold grZ; simp [Int.max_eq_right ha]
def awP {v:List Nat} (hv:v=[f1,0,0,fq]) (hK:K=65536) (o1:ofZ f1=(2:Int) ^ K) (o4:ofZ f4=4*(2:Int) ^ K) (oq:4*ofZ fq=(2:Int) ^ K):grZ (pnL 2 2 v)=(2:Int) ^ K/\grZ (nmL (awF f1 f4) 2 2)=4*(2:Int) ^ K:=by
 have hp:=q0N K;have a1:abZ f1=(2:Int) ^ K:=by unfold abZ; rw [o1]; omega
 have a4:abZ f4=4*(2:Int) ^ K:=by unfold abZ; rw [o4]; omega
 have aq:4*abZ fq=(2:Int) ^ K:=by unfold abZ; omega
 have s2:∀ g:Nat->Int,sg g 2=0+g 0+g 1:=λg=>rfl;have r2:∀ g:Nat->Int,(List.range 2).map g=[g 0,g 1]:=λg=>rfl;have b0:=qkA;have hq:0<=abZ fq:=by unfold abZ; omega
 subst hv
 constructor
 .unfold pnL;rw [r2];have p0:pnZ 2 2 [f1,0,0,fq] 0=(2:Int) ^ K:=by
   unfold pnZ;rw [s2]
   show 0+abZ f1+abZ 0=_
   rw [b0,a1]; omega
  have p1:pnZ 2 2 [f1,0,0,fq] 1=abZ fq:=by
   unfold pnZ;rw [s2]
   show 0+abZ 0+abZ fq=_
   rw [b0]; omega
  rw [p0,p1,qi9 (zU hp)];generalize (2:Int) ^ K=P at *;omega
 .unfold nmL;rw [r2];have p0:nmZ (awF f1 f4) 2 0=(2:Int) ^ K:=by
   unfold nmZ;rw [s2]
   show 0+abZ f1+abZ 0=_
   rw [b0,a1]; omega
  have p1:nmZ (awF f1 f4) 2 1=4*(2:Int) ^ K:=by
   unfold nmZ;rw [s2]
   show 0+abZ 0+abZ f4=_
   rw [b0,a4]; omega
  rw [p0,p1,qi9 (zU hp)];generalize (2:Int) ^ K=P at *;omega
def aw43 (hK:K=65536) (u1:f1 < 18446744073709551616/\q0M f1) (u4:f4 < 18446744073709551616/\q0M f4) (uq:fq < 18446744073709551616/\q0M fq) (o1:ofZ f1=(2:Int) ^ K) (o4:ofZ f4=4*(2:Int) ^ K) (oq:4*ofZ fq=(2:Int) ^ K) (x4:f4=rF 1 false 4 1) (y4:f4=rF 2 false 4 1) (xq:fq=rF 1 false 1 4):bnA 2 2 (awF f1 f4) 2 2 [f1,0,0,fq] (grZ (nmL (awF f1 f4) 2 2))=(f4,f4,true,0)/\lwA 2 2 (awF f1 f4) [0,f1]=(fq,0):=by
 have hp:=q0N K;have e1:q0s=(2:Int) ^ K:=by rw [q6Q,hK]
 obtain ⟨g1,g2⟩:=awP (v:=[f1,0,0,fq]) rfl hK o1 o4 oq;have hb:=λi hi=>awB (i:=i) hK u1.2 u4.2 uq.2 o1 o4 oq hi;have q1:fQ 1 (4*(2:Int) ^ K) ((2:Int) ^ K)=f4:=by
  have:=qpH (mode:=1) (z:=4) (y:=1) (K:=K) (s:=0) Oq Oq Oq;rw [zO,show (((1:Nat):Int)*(2:Int) ^ K)=(2:Int) ^ K from zP _] at this;rw [x4]; exact this
 have q2:fQ 2 (4*(2:Int) ^ K) ((2:Int) ^ K)=f4:=by
  have:=qpH (mode:=2) (z:=4) (y:=1) (K:=K) (s:=0) Oq Oq Oq;rw [zO,show (((1:Nat):Int)*(2:Int) ^ K)=(2:Int) ^ K from zP _] at this;rw [y4]; exact this
 have q3:fQ 1 ((2:Int) ^ K) (4*(2:Int) ^ K)=fq:=by
  have:=qpH (mode:=1) (z:=1) (y:=4) (K:=K) (s:=0) Oq Oq Oq;rw [zO,show (((1:Nat):Int)*(2:Int) ^ K)=(2:Int) ^ K from zP _] at this;rw [xq]; exact this
 constructor
 .have h0:btC 2 2 2 2 [f1,0,0,fq]=0:=by
   unfold btC chP;rw [if_neg ω,if_neg (by
    rw [if_neg σ,if_pos (λx hx=>by
     simp at hx
     rcases hx with rfl | rfl | rfl
     .exact u1.2
     .simp [q0M]
     .exact uq.2)]; decide),if_neg ω]
  have h1:grZ (btL 2 [f1,0,0,fq] (awF f1 f4))=0:=by
   unfold btL
   show grZ [btZ 2 [f1,0,0,fq] (awF f1 f4) 0,btZ 2 [f1,0,0,fq] (awF f1 f4) 1]=0
   rw [hb 0 ω,hb 1 ω]; rfl
  have h2:prZ ((2:Int) ^ K) (4*(2:Int) ^ K)=4*(2:Int) ^ K:=by
   have hb4:q0Y (4*(2:Int) ^ K):=by
    unfold q0Y;rw [q0H,q1D (by decide)];have:bl (4:Int).natAbs<=3:=q0K (by decide);omega
   have:=q7K hb4;unfold prZ;rw [zW];rw [<- hK] at this;rw [this]; rfl
  unfold bnA;rw [h0,if_neg (show ¬ (0:Int)≠0 by decide),g1,g2,h1,h2];unfold bnI;rw [if_neg ω,e1,Int.add_zero,Int.sub_zero,q1,q2]
 .unfold lwA;rw [if_neg ω,if_neg σ,if_pos (λx hx=>by
   simp at hx
   rcases hx with rfl | rfl
   .simp [q0M]
   .exact u1.2)]
  have a1:abZ f1=(2:Int) ^ K:=by unfold abZ; rw [o1]; omega
  have m4:q1M f4 f1=4*(2:Int) ^ K:=qe6 hK u4.2 u1.2 (by rw [o1,o4]);have v1:grZ ([0,f1].map abZ)=(2:Int) ^ K:=by
   show grZ [abZ 0,abZ f1]=_
   rw [qkA,a1,qi9 ω];omega
  have s2:∀ g:Nat->Int,sg g 2=0+g 0+g 1:=λg=>rfl;have v2:grZ (imL (awF f1 f4) [0,f1] 2 2)=4*(2:Int) ^ K:=by
   unfold imL
   show grZ [imZ (awF f1 f4) [0,f1] 2 0,imZ (awF f1 f4) [0,f1] 2 1]=_
   have p0:imZ (awF f1 f4) [0,f1] 2 0=0:=by
    unfold imZ;rw [s2]
    show ((0+q1M f1 0+q1M 0 f1).natAbs:Int)=0
    rw [q8N,q8O]; rfl
   have p1:imZ (awF f1 f4) [0,f1] 2 1=4*(2:Int) ^ K:=by
    unfold imZ;rw [s2]
    show ((0+q1M 0 0+q1M f4 f1).natAbs:Int)=_
    rw [q8N,m4];omega
   rw [p0,p1,qi9 ω];omega
  unfold lwV;rw [v1,v2,if_neg ω,if_neg ω,q3]
end
def qgZ:ACt 16 [] (bv true):=by
 obtain ⟨K,hK⟩:∃ K:Nat,K=65536:=⟨_,rfl⟩;have p52:(4503599627370496:Int)=(2:Int) ^ 52:=by decide
 have o1:ofZ 4607182418800017408=(2:Int) ^ K:=by
  rw [qnv (m:=4503599627370496) (e:=1023) ω ω ω ω ω,show (((4503599627370496:Nat):Int))=(2:Int) ^ 52 from p52,<- zL]
  congr 1
  omega
 have o4:ofZ 4616189618054758400=4*(2:Int) ^ K:=by
  rw [qnv (m:=4503599627370496) (e:=1025) ω ω ω ω ω,show (((4503599627370496:Nat):Int))=(2:Int) ^ 52 from p52,<- zL,show (4:Int)=(2:Int) ^ 2 from rfl,<- zL]
  congr 1
  omega
 have oq:4*ofZ 4598175219545276416=(2:Int) ^ K:=by
  rw [qnv (m:=4503599627370496) (e:=1021) ω ω ω ω ω,show (((4503599627370496:Nat):Int))=(2:Int) ^ 52 from p52,<- zL,show (4:Int)=(2:Int) ^ 2 from rfl,<- zL]
  congr 1
  omega
 have x4:4616189618054758400=rF 1 false 4 1:=κ
 have y4:4616189618054758400=rF 2 false 4 1:=κ
 have z4:rF 0 false 4 1=4616189618054758400:=κ
 have xq:4598175219545276416=rF 1 false 1 4:=κ
 have f4:flz 4=4616189618054758400:=by
  have h1:=fR_u (z:=4) (K:=65536) (s:=0) rfl Oq Oq;have h2:fR 0 (((4:Nat):Int)*(2:Int) ^ (65536-0))=flz 4:=rfl;rw [<- h2,h1];exact z4
 obtain ⟨r1,r2⟩:=aw43 (f1:=4607182418800017408) (f4:=4616189618054758400) (fq:=4598175219545276416) hK ⟨ω,by unfold q0M; omega⟩ ⟨ω,by unfold q0M; omega⟩ ⟨ω,by unfold q0M; omega⟩ o1 o4 oq x4 y4 xq;have hm:TOk (awF 4607182418800017408 4616189618054758400) 2 2:=by
  refine ⟨ω,ω,ω,λj i x _ _ h=>?_,λj i x _ _ h=>?_⟩
  .unfold awF at h
   split at h
   .split at h <;> cases h <;> omega
   .cases h
  .unfold awF at h
   split at h
   .split at h <;> cases h <;> (unfold q0M; omega)
   .cases h
 have C1:ACt 68 [iv 4,iv 0] (uv (4616189618054758400:Nat)):=by
  rw [<- f4];exact q6P (z:=4) (mode:=0) Oq Oq (q7J (by have:=q0K (n:=(4:Int).natAbs) (k:=4) (by decide); omega))
 have C2:=qb8 (r:=2) (c:=2) (v:=[4607182418800017408,0,0,4598175219545276416]) hm ω ω ω ω σ (λx hx=>by simp at hx; rcases hx with rfl | rfl | rfl <;> omega);have C3:=qgK (y:=[0,4607182418800017408]) hm ω ω (λx hx=>by simp at hx; rcases hx with rfl | rfl <;> omega) σ;rw [r1] at C2;rw [r2] at C3;clear r1 r2 o1 o4 oq x4 y4 xq z4 f4 p52;have D2:ACt 15 [.ag [iv 2,iv 2,.sl none [iv 0,iv 1,iv 2],.sl none [iv 0,iv 1],.sl none [uv 4607182418800017408,uv 4616189618054758400]],.ag [iv 2,iv 2,.sl none [uv 4607182418800017408,uv 0,uv 0,uv 4598175219545276416]]] (.tu [.ag [uv 4616189618054758400,uv 4616189618054758400],bv true,iv 0]):=C2;have D3:ACt 27 [.ag [iv 2,iv 2,.sl none [iv 0,iv 1,iv 2],.sl none [iv 0,iv 1],.sl none [uv 4607182418800017408,uv 4616189618054758400]],.sl none [uv 0,uv 4607182418800017408]] (.tu [uv 4598175219545276416,iv 0]):=C3;have D1:ACt 68 [iv 4,iv 0] (uv 4616189618054758400):=C1;clear C1 C2 C3;have N2:Nz (.tu [.ag [uv 4616189618054758400,uv 4616189618054758400],bv true,iv 0]):=qtk λx hx=>by
  simp at hx
  rcases hx with rfl | rfl | rfl
  .exact nz_ag λx hx=>by simp at hx; subst hx; exact qcP
  .exact qcP
  .exact qcP
 have N3:Nz (.tu [uv 4598175219545276416,iv 0]):=qtk λx hx=>by
  simp at hx
  rcases hx with rfl | rfl <;> exact qcP
 have b1:((4616189618054758400:Int) == 4616189618054758400)=true:=by decide
 have b2:((4598175219545276416:Int) == 4598175219545276416)=true:=by decide
 have b3:((0:Int) == 0)=true:=rfl;refine ac0 Tryz.func16 Tryz.ntmps16 [.tmp 0] ?_;exact wk1 (x3 b1 b2 b3) trivial
section
variable {V W n:Int} {x:Nat}
end
section
attribute [local instance] lNL
end
section
variable {raw other:List Nat} {n st sp:Int} {rg wild zero:Bool}
end
def q9L {lo hi:Nat} {A B L P:Int} (hl:lo < 18446744073709551616) (hh:hi < 18446744073709551616) (hL:ofF lo=some L) (hP:mkV (L*B) (-131072)=some P) (h1:¬ A < P) (h2:hi=9218868437227405312\/∃ H Q,ofF hi=some H/\mkV (H*B) (-131072)=some Q/\¬ Q < A) :
  ACt 21 [.ag [uv lo,uv hi],pV A,pV B] (bv true):=by
 have c1:=q1k hl hL;have c2:=q4M hP;have c3:=qbG (A:=A) (B:=P);rw [decide_eq_false h1] at c3
 rcases h2 with rfl | ⟨H,Q,e1,e2,e3⟩
 .have q:(((9218868437227405312:Nat):Int) == 9218868437227405312)=true:=rfl;refine ac0 Tryz.func21 Tryz.ntmps21 [.tmp 6] ?_;exact wk1 q trivial
 .have c4:=q1k hh e1;have c5:=q4M e2;have c6:=qbG (A:=Q) (B:=A);rw [decide_eq_false e3] at c6;have q:((hi:Int) == 9218868437227405312)=false:=by
   simp only [beq_eq_false_iff_ne,ne_eq];intro e;have:hi=9218868437227405312:=ω
   subst this;cases e1
  have N1:Nz (pV H):=q2J;have N2:Nz (pV Q):=q2J;have N3:Nz (pV L):=q2J;have N4:Nz (pV P):=q2J;refine ac0 Tryz.func21 Tryz.ntmps21 [.tmp 6] ?_;exact wk1 q trivial
def quL {a b c d:PV}:ldU (some 4) (some 3) 0 (.ag [a,b,c,d])=some (.ag [a,b,c]):=by simp [ldU]
def flS_3 {off:Nat} {a b c:PV} {cs:List PV}:flS (some (off,3)) (.ag [a,b,c]) cs=q8t cs off [a,b,c]:=by
 rw [q4K σ];simp [flS]
attribute [go_sem] quL flS_3
section
variable {l:List Nat}
end
section
variable {F:Nat->Nat->Option Nat} {n i:Nat} {b z v:List Nat} {r:Nat->Int}
end
section
variable {F:Nat->Nat->Option Nat} {n:Nat} {b z v:List Nat}
end
section
variable {R C:Nat} {F:Nat->Nat->Option Nat} {f:LUt} {b:List Nat} {sg:Bool} {steps:Int}
end
section
variable {R C:Nat} {F:Nat->Nat->Option Nat} {f:LUt} {b x:List Nat} {steps:Int}
end

section
variable {raw:List Nat} {n st steps:Int} {w:Bool}
end
section
variable {a:Nat} {V:Int}
end
section
variable {C:Nat} {F:Nat->Nat->Option Nat} {f:LUt} {b:List Nat}
end
section
variable {raw:List Nat} {n st:Int} {w:Bool}
end
def quK {a b c d e f g h:PV}:ldU (some 8) (some 4) 0 (.ag [a,b,c,d,e,f,g,h])=some (.ag [a,b,c,d]):=by simp [ldU]
def quJ {a b c d e f g h:PV}:ldU (some 8) (some 4) 4 (.ag [a,b,c,d,e,f,g,h])=some (.ag [e,f,g,h]):=by simp [ldU]
def qsU {a b c d e f g h p q r s:PV}:stU (some 8) (some 4) 0 (.ag [a,b,c,d,e,f,g,h]) (.ag [p,q,r,s])=some (.ag [p,q,r,s,e,f,g,h]):=by simp [stU]
def qsT {a b c d e f g h p q r s:PV}:stU (some 8) (some 4) 4 (.ag [a,b,c,d,e,f,g,h]) (.ag [p,q,r,s])=some (.ag [a,b,c,d,p,q,r,s]):=by simp [stU]
attribute [go_sem] quK quJ qsU qsT
section
variable {a c:Int × Int} {u v j k p q:Nat}
end
section
variable {a c:Int × Int} {j k p q:Nat}
end
def proI (p:Nat × Nat):Prop:=q0M p.1/\q0M p.2/\ofZ p.1<=ofZ p.2
instance (p:Nat × Nat):Decidable (proI p):=by unfold proI; infer_instance
section
variable {l:List (Nat × Nat)} {p q:Nat × Nat}
end
structure KwT where
 n:Nat
 v:List Nat
 a:Nat->Nat->Nat × Nat
 b:List (Nat × Nat)
 z:List Nat
 x:List (Nat × Nat)
section
variable (K:KwT)
end
section
variable {K:KwT}
end
section
variable {K:KwT}
end
section
variable {F:Nat->Nat->Option Nat} {n:Nat} {b z v:List Nat}
end
section
variable {K:KwT}
end

section
variable {V:Nat->Nat->Int} {c i j:Nat} {l:Int}
end
set_option exponentiation.threshold 600
open Go.Dt
section
variable {F:Nat->Nat->Option Nat} {n K B:Nat} {b:List Nat}
def qvN {M:Nat->Nat->Int} (hn:n<=4) (hM:∀ r c,r < n->c < n->(M r c).natAbs < 2 ^ 120):bl (dtE n λr c=>(M r c:Rat)).num.natAbs<=500:=by
 have h3:fcN (2 ^ 120) n < 2 ^ 500:=by
  have hn4:n=0\/n=1\/n=2\/n=3\/n=4:=ω
  rcases hn4 with rfl | rfl | rfl | rfl | rfl <;> decide
 generalize (2:Nat) ^ 120=P at *;have h1:=qlk (m:=P) n (A:=λr c=>(M r c:Rat)) λi j hi hj=>by
  rw [qga,Rat.intCast_natCast];exact Rat.natCast_le_natCast.2 (Nat.le_of_lt (hM i j hi hj))
 rw [<- q7Y,qga,Rat.intCast_natCast] at h1;have h2:(dtE n λr c=>(M r c:Rat)).num.natAbs<=fcN P n:=Rat.natCast_le_natCast.1 h1;exact q0K (zJ h2 h3)
def qs8 {M:Nat->Nat->Int} {b:Nat->Int} {j:Nat} (hn:n<=4) (hM:∀ r c,r < n->c < n->(M r c).natAbs < 2 ^ 120) (hb:∀ r,r < n->(b r).natAbs < 2 ^ 120):bl (slX n M b j).natAbs<=500:=by
 have h:=qvN (M:=q7k M j b) hn λr c hr hc=>by
  unfold q7k
  split
  .exact hb r hr
  .exact hM r c hr hc
 unfold slX
 split
 .rw [Int.natAbs_neg]; exact h
 .exact h
end
def qnh {P:Int} (h:q0Y P):prZ P q0s=P:=by unfold prZ; rw [mul_one h]; rfl
def bnI_t {Q B:Int} (hg:¬ q0s<=B):bnI Q B=(fQ 1 Q (q0s+B),fQ 2 Q (q0s-B),true):=by unfold bnI; rw [if_neg hg]
def bnI_f {Q B:Int} (hg:q0s<=B):bnI Q B=(0,0,false):=by unfold bnI; rw [if_pos hg]
def mulK1 {z W:Int} {K:Nat} (hK:K=65536) (hW:q0Y (z*W)):mkV (z*(2:Int) ^ K*W) (-131072)=some (z*W):=by
 rw [show z*(2:Int) ^ K*W=z*W*(2:Int) ^ K by simp only [zS,zW,Int.mul_left_comm],q1U,show (-131072:Int)+K = -65536 by omega];exact q1f hW
def qtu {z W:Int} {K:Nat} (hK:K=65536) (hW:q0Y (W*z)):mkV (W*(z*(2:Int) ^ K)) (-131072)=some (W*z):=by
 rw [<- zS,q1U,show (-131072:Int)+K = -65536 by omega];exact q1f hW
def q8a {a b:Int} {p q:Nat} (h1:bl a.natAbs<=p) (h2:bl b.natAbs<=q) (h:p+q<=131072):q0Y (a*b):=by
 unfold q0Y;have:=q1W a.natAbs b.natAbs;rw [Int.natAbs_mul];omega
def qeH {K:Nat} {z a:Int}:rK K (z*a)=(z:Rat)*rK K a:=by
 unfold rK;rw [Rat.intCast_mul,Rat.div_def,Rat.div_def,Rat.mul_assoc]
def qdF {K lo hi:Nat} {D V:Int} (hK:K=65536) (hl:lo < 18446744073709551616) (hh:hi < 18446744073709551616) (hD:0 < D) (hDb:bl D.natAbs<=500) (hf:q0M lo) (h1:rK K (ofZ lo)<=rK K V / (D:Rat)) (h2:hi=9218868437227405312\/(q0M hi/\rK K V / (D:Rat)<=rK K (ofZ hi))) :
  ACt 21 [.ag [uv lo,uv hi],pV V,pV (D*(2:Int) ^ K)] (bv true):=by
 have hD2:(0:Rat) < (D:Rat):=by exact_mod_cast hD
 have e1:∀ x:Int,rK K (x*D)=rK K x*(D:Rat):=λx=>by rw [zW,qeH,Rat.mul_comm]
 have e2:rK K V=rK K V / (D:Rat)*(D:Rat):=(Rat.div_mul_cancel (by grind)).symm;have m1:ofZ lo*D<=V:=q3S.1 (by rw [e1,e2]; exact Rat.mul_le_mul_of_nonneg_right h1 (Rat.le_of_lt hD2));refine q9L hl hh (q0e hf) (qtu hK (q8a (qeX hf) hDb Oq)) Oq ?_
 rcases h2 with h2 | ⟨h2,h3⟩
 .exact .inl h2
 .have m2:V<=ofZ hi*D:=q3S.1 (by rw [e1,e2]; exact Rat.mul_le_mul_of_nonneg_right h3 (Rat.le_of_lt hD2));exact .inr ⟨_,_,q0e h2,qtu hK (q8a (qeX h2) hDb Oq),ω⟩
def q8f {raw:List Nat} {n sp:Int} {rg wild:Bool} (hr:raw.length<=9223372036854775807) (h1 : -9223372036854775808<=n) (h2:n<=9223372036854775807) (h5 : -9223372036854775808<=sp) (h6:sp<=9223372036854775807) :
  ACt 3 [pF raw,iv n,bv rg,iv sp,bv wild] (bv true):=by
 obtain ⟨K,hK⟩:∃ K,K=65536:=⟨_,rfl⟩;have cA:=qgZ;have cP:=qhs (st:=0) (rg:=rg) (wild:=wild) hr h1 h2 Oq Oq h5 h6;have hN:q1A n 5 < 5:=by unfold q1A; omega
 generalize q1A n 5=N at *;have hF:=qlq (raw:=raw) (N:=N) (st:=0) (rg:=rg) Oq;obtain ⟨hvl,hvu⟩:=qvs (raw:=raw) (N:=N) (st:=0) (rg:=rg) (sp:=sp) (wild:=wild) Oq;have hvf:=qpa (raw:=raw) (rg:=rg) (wild:=wild) (sp:=sp) (N:=N) Oq;have hI:=qgG (raw:=raw) (N:=N) (rg:=rg) hK Oq;generalize ckT raw N 0 rg=F at *;generalize ckV raw N 0 rg sp wild=v at *;obtain ⟨M,hM⟩:∃ M:Nat->Nat->Int,∀ r c,ofZ ((F c r).getD 0)=M r c*(2:Int) ^ K/\(M r c).natAbs<=73:=⟨λr c=>(hI c r).choose,λr c=>(hI c r).choose_spec⟩;clear hI;have hNN:N*N<=5*5:=zE Oq Oq;have hfv:q1N v:=λx hx=>⟨(hvf x hx).2,(hvf x hx).1⟩;have c2:=qcu hF Oq Oq;have c3:=qph hF Oq Oq (by omega:N<=64) (by omega:N<=64) Oq hvu;have c5:=qb8 hF Oq Oq (by omega:N<=64) (by omega:N<=64) Oq hvu;have hbt:btC N N N N v=0:=by
  have hch:chP N N v=0:=by
   unfold chP;rw [if_neg ω,if_pos λx hx=>(hvf x hx).1]
  unfold btC;rw [if_neg ω,if_neg (not_not_intro hch),if_neg ω]
 unfold bnA at c3 c5;rw [if_neg (not_not_intro hbt)] at c3 c5;clear hbt
 by_cases hg:q0s<=grZ (btL N v F)
 .rw [bnI_f hg] at c3 c5;clear hF hvu hvf hfv hM hg;unfold pT q26 pPn pBn at *;dsimp only at *;generalize (tM F N N).1=ms at *;generalize (tM F N N).2.1=mi at *;generalize (tM F N N).2.2=mv at *;have q1:(false != false)=false:=rfl;refine ac0 Tryz.func3 Tryz.ntmps3 [.tmp 10] ?_;exact wk1 q1 trivial
 .rw [bnI_t hg] at c3 c5;obtain ⟨hd0,hd1,hD⟩:=qls hK hF hfv (λr c _ _=>(hM r c).1) hg;have hnm:=qpf hK hF hfv (λr c _ _=>(hM r c).1) hg;have hdP:bl (grZ (pnL N N v)).natAbs<=66571:=q42 (qeS hfv Oq);have hdm:bl (grZ (nmL F N N)).natAbs<=66571:=q42 (qlK hF);obtain ⟨p1,p2,p3⟩:=qlA (qlC hfv) (qlI hF) hdP hdm;rw [qnh (by unfold q0Y; omega)] at c3;have hx:∀ r c,r < N->c < N->bl (M r c).natAbs<=100:=λr c _ _=>q0K (zJ (hM r c).2 (by decide));have hx2:∀ r c,r < N->c < N->(M r c).natAbs < 2 ^ 120:=λr c _ _=>zJ (hM r c).2 (by decide);have cI:=q8W (M:=M) hK hF ω hx (λr c hr hc=>⟨⟨(hF.fin hc hr).2,by rw [q0e (hF.finD hc hr),(hM r c).1]⟩,by rw [<- (hM r c).1]; exact q5X (hF.finD hc hr)⟩) hd1;change ACt _ _ (.tu [pMM N λj=>slX N M (unI j),bT (dtN N M),bv true]) at cI;have hXb:∀ j i,j < N->i < N->bl (slX N M (unI j) i).natAbs<=500:=λj i _ _=>qs8 Oq hx2 λr _=>by unfold unI; split <;> decide
  have cN:=qe1 (X:=λj=>slX N M (unI j)) Oq (λj i hj hi=>zN (hXb j i hj hi) Oq);change ACt _ _ (bT (nrI N M)) at cN;have hnb:bl (nrI N M).natAbs<=510:=zN (qe4 (X:=λj=>slX N M (unI j)) (b:=500) (λj i hj hi=>hXb j i hj hi) N (Nat.le_refl _)) Oq;have hDb:bl (dtN N M).natAbs<=500:=by unfold dtN; rw [zC]; exact qvN ω hx2
  have k1:=bn_c (N:=(nrI N M:Rat) / (dtN N M:Rat)) hK q41 q41 hg hnm.1 hnm.2;have hm0:0<=rK K (grZ (nmL F N N)):=by rw [<- qgq (K:=K)]; exact q3S.2 q41
  have hP2:rK K (prZ (grZ (pnL N N v)) (grZ (nmL F N N)))=rK K (grZ (pnL N N v))*rK K (grZ (nmL F N N)):=rK_P (by rw [hK]; exact p3);have hP0:0<=rK K (grZ (pnL N N v)):=by rw [<- qgq (K:=K)]; exact q3S.2 q41
  have k2:=bn_c (P:=prZ (grZ (pnL N N v)) (grZ (nmL F N N))) (N:=(nrI N M:Rat) / (dtN N M:Rat)*rK K (grZ (nmL F N N))) hK (q3S.1 (by rw [qgq,hP2]; exact Rat.mul_nonneg hP0 hm0)) q41 hg (by
   rw [hP2,<- Rat.mul_assoc]; exact Rat.mul_le_mul_of_nonneg_right hnm.1 hm0) (by
   rw [hP2,<- Rat.mul_assoc]; exact Rat.mul_le_mul_of_nonneg_right hnm.2 hm0)
  have hrK:rK K (nrI N M*(2:Int) ^ K)=(nrI N M:Rat):=by
   unfold rK;rw [Rat.intCast_mul,Rat.div_def,Rat.mul_assoc,Rat.mul_inv_cancel _ (pK0 K),Rat.mul_one]
  have hdv:∀ x y d:Rat,x / d*y=x*y / d:=λx y d=>by rw [Rat.div_def,Rat.div_def]; grind
  have hs1:0 < q0s+grZ (btL N v F):=by have:=q41 (l:=btL N v F); omega
  have hs2:0 < q0s-grZ (btL N v F):=ω
  have w1:=qdF (V:=nrI N M*(2:Int) ^ K) hK (q87 (zF hs1)) (q87 (zF hs2)) hD hDb k1.1.1 (by rw [hrK]; exact k1.1.2) (by rw [hrK]; exact k1.2);have w2:=qdF (V:=nrI N M*grZ (nmL F N N)) hK (q87 (zF hs1)) (q87 (zF hs2)) hD hDb k2.1.1 (by rw [qeH,<- hdv]; exact k2.1.2) (by rw [qeH,<- hdv]; exact k2.2);have cF1:=q1c (q5J (z:=nrI N M) hK ω) (q8a (q:=K+1) hnb (q0K (by rw [q0a]; exact zQ ω ω)) ω);have cF2:=q1c (q5J (z:=dtN N M) hK ω) (q8a (q:=K+1) hDb (q0K (by rw [q0a]; exact zQ ω ω)) ω);have cMu:=q4M (mulK1 (z:=nrI N M) (W:=grZ (nmL F N N)) hK (q8a hnb hdm Oq));clear k1 k2 hnm hXb hx hx2 hdP hdm p1 p2 p3 hP2 hP0 hm0 hrK hdv hs1 hs2 hnb hDb hD hd0 hd1 hfv hvf hvu hM hF;generalize fQ 1 (grZ (pnL N N v)) (q0s+grZ (btL N v F))=l1 at *;generalize fQ 2 (grZ (pnL N N v)) (q0s-grZ (btL N v F))=u1 at *;generalize fQ 1 (prZ (grZ (pnL N N v)) (grZ (nmL F N N))) (q0s+grZ (btL N v F))=l2 at *;generalize fQ 2 (prZ (grZ (pnL N N v)) (grZ (nmL F N N))) (q0s-grZ (btL N v F))=u2 at *;clear hg;generalize nrI N M*grZ (nmL F N N)=V at *;generalize grZ (nmL F N N)=m at *;generalize nrI N M*(2:Int) ^ K=A2 at *;generalize dtN N M*(2:Int) ^ K=D2 at *;generalize nrI N M=A at *;generalize dtN N M=D at *;unfold pT q26 pPn pBn pMM at *;dsimp only at *;generalize (tM F N N).1=ms at *;generalize (tM F N N).2.1=mi at *;generalize (tM F N N).2.2=mv at *;have q1:(true != true)=false:=rfl;refine ac0 Tryz.func3 Tryz.ntmps3 [.tmp 10] ?_;exact wk1 q1 trivial
end Go.Proofs.YtbjoghfmhgadkaaGreatDoor
