/- CondScales is proved. 6/7. -/
import Derived.Test.YtbjoghfmhgadkaaGreatDoorPw5
open List renaming length_map->zA,getElem?_eq_some_iff->zB,getElem?_eq_getElem->zC,length_take->zD,take_of_length_le->zE,mem_of_getElem?->zF
set_option linter.unusedSimpArgs false
set_option linter.unusedVariables false
set_option maxRecDepth 20000
set_option maxHeartbeats 2000000
set_option linter.defProp false
namespace Go.Proofs.YtbjoghfmhgadkaaGreatDoor
open Go Go.E Go.Sp
def q5u {α β:Type} {f:α->β} {l:List α} {i:Nat} {x:α} (h:l[i]?=some x):(l.take (i+1)).map f=(l.take i).map f ++ [f x]:=by rw [q1a h,List.map_append]; rfl
def zrL (p:List Nat) (i:Nat):List Nat:=(p.take i).map zrX ++ p.drop i
def zrL_0 {p:List Nat}:zrL p 0=p:=by unfold zrL; simp
def ql3 {p:List Nat} {i:Nat}:(zrL p i).length=p.length:=by unfold zrL; simp; omega
def ql4 {p:List Nat} {i x:Nat} (h:p[i]?=some x):(zrL p i)[i]?=some x:=by
 have hi:=(zB.1 h).1;unfold zrL;rw [List.getElem?_append_right (by simp; omega),zA,zD,List.getElem?_drop,show i+(i-min i p.length)=i by omega,h]
def zrL_s {p:List Nat} {i x:Nat} (h:p[i]?=some x):(zrL p i).set i (zrX x)=zrL p (i+1):=by
 have hi:=(zB.1 h).1;have hl:((p.take i).map zrX).length=i:=by simp; omega
 unfold zrL;rw [List.set_append,if_neg ω,hl,Nat.sub_self,q1a h,List.map_append,List.append_assoc]
 congr 1
 rw [List.drop_eq_getElem_cons hi,List.set_cons_zero]
 rfl
def zrL_n {p:List Nat}:zrL p p.length=p.map zrX:=by unfold zrL; simp
def st_2:∀ m:Nat,m < 2->q06 (q06 (m:Nat) 3:Nat) 4=0\/q06 (q06 (m:Nat) 3:Nat) 4=1:=λm hm=>by
 have h3:q06 (m:Nat) 3=m:=by unfold q06; omega
 rw [h3];have h4:q06 (m:Nat) 4=m:=by unfold q06; omega
 rw [h4];omega
def sc_st (st:Int):q06 (q06 (q06 st 2:Nat) 3:Nat) 4=0\/q06 (q06 (q06 st 2:Nat) 3:Nat) 4=1:=st_2 _ (by unfold q06; omega)
def qqY {x:Nat} (h:gdX (zrX x)):q0I x:=by
 unfold zrX at h
 split at h
 .rename_i q; unfold q2S at q; unfold q0I; omega
 .exact h.f
def ckT_t {raw:List Nat} {N:Nat} {st:Int}:ckT raw N st true=rgF (gF raw N (q06 (q06 st 3:Nat) 4)) N:=if_pos rfl
def quj {raw:List Nat} {N:Nat} {st:Int} (hn:N<=4) (hs:q06 (q06 st 3:Nat) 4=0\/q06 (q06 st 3:Nat) 4=1):∀ j i x,j < N->i < N->ckT raw N st true j i=some x->gdX x:=λj i x hj hi hx=>by
 rw [ckT_t] at hx;exact rg_gd hn hs hj hi hx
set_option maxHeartbeats 1000000 in
def q6z {raw:List Nat} {n st sp k:Int} (hr:raw.length<=9223372036854775807) (h1 : -9223372036854775808<=n) (h2:n<=9223372036854775807) (h3 : -9223372036854775808<=st) (h4:st<=9223372036854775807) (h5 : -9223372036854775808<=sp) (h6:sp<=9223372036854775807) (h7 : -9223372036854775808<=k) (h8:k<=9223372036854775807) :
  ACt 4 [pF raw,iv n,iv st,iv sp,iv k] (bv true):=by
 have cM2:=q5U (a:=st) (n:=2) h3 h4 Oq Oq;have cK:=q5U (a:=k) (n:=61) h7 h8 Oq Oq;have hs2:q06 st 2 < 2:=by unfold q06; omega
 have hk61:q06 k 61 < 61:=by unfold q06; omega
 have hN:q06 n 5 < 5:=by unfold q06; omega
 have hst:=sc_st st;have cP:=qmj (raw:=raw) (n:=n) (st:=(q06 st 2:Nat)) (sp:=sp) hr h1 h2 Oq Oq h5 h6 hst;have hF:=qkp (raw:=raw) (N:=q06 n 5) (st:=(q06 st 2:Nat)) (rg:=true) Oq;have hFg:=quj (raw:=raw) (N:=q06 n 5) (st:=(q06 st 2:Nat)) Oq hst;have hPg:=ck_gd (raw:=raw) (n:=q06 n 5) (st:=(q06 st 2:Nat)) (sp:=sp) Oq hst;have hPl:=qko (raw:=raw) (N:=q06 n 5) (st:=(q06 st 2:Nat)) (rg:=true) (sp:=sp) (wild:=false) Oq;have hPf:∀ x ∈ ckV raw (q06 n 5) (q06 st 2:Nat) true sp false,q0I x:=λx hx=>qqY (hPg x hx);have cA:=qfp;generalize q06 st 2=s at *;obtain ⟨kk,hkk⟩:∃ kk:Int,kk=(q06 k 61:Nat)-30:=⟨_,rfl⟩;have hk1 : -30<=kk:=ω
 have hk2:kk<=30:=ω
 have w61:IntKind.i64.wrap (((q06 k 61:Nat):Int)-30)=kk:=by rw [i64_in ω ω]; omega
 generalize q06 k 61=k6 at *;clear hkk;have wng:IntKind.i64.wrap (0-kk) = -kk:=by rw [i64_in ω ω]; omega
 have wng2:IntKind.i64.wrap (-kk) = -kk:=i64_in Oq Oq;generalize q06 n 5=N at *;generalize ckT raw N (s:Nat) true=F at *;generalize ckV raw N (s:Nat) true sp false=p at *;have hNN:N*N<=5*5:=Nat.mul_le_mul Oq Oq;obtain ⟨hpl,hpu⟩:=hPl;have hF2:=qro (k:=kk) hF hFg hk1 hk2;have hzg:∀ x ∈ p.map zrX,gdX x:=λx hx=>by
  obtain ⟨y,hy,rfl⟩:=List.mem_map.1 hx;exact hPg y hy
 have hzl:(p.map zrX).length=N*N:=by rw [zA,hpl]
 obtain ⟨x0,y0,ok,B1,B2⟩:=qoU (n:=N) (F:=F) (v:=p.map zrX) (k:=kk) hFg hzg hzl hk1 hk2;have C1:=q7D (r:=N) (c:=N) (v:=p.map zrX) hF Oq Oq Oq Oq Oq λx hx=>(hzg x hx).u;have C2:=q7D (r:=N) (c:=N) (v:=(p.map zrX).map (scX (-kk))) hF2 ω ω ω ω (by rw [zA]; omega) λx hx=>by
  obtain ⟨y,hy,rfl⟩:=List.mem_map.1 hx;exact (q7j (hzg y hy) Oq Oq).2.1
 rw [B1] at C1;rw [B2] at C2;clear B1 B2 hF2;have hMv:∀ x ∈ (tM F N N).2.2,gdX x:=λx hx=>by
  obtain ⟨j,i,hj,hi,h⟩:=q2g N hx;exact hFg j i x hj hi h
 have hMl:=q0w (f:=F) (R:=N) N;unfold pBn pPn pT q2w at *;rw [qrE] at C2;dsimp only at C1 C2;generalize (tM F N N).1=ms at *;generalize (tM F N N).2.1=mi at *;generalize (tM F N N).2.2=mv at *;clear hF hFg;refine ac0 Tryz.func4 Tryz.ntmps4 [.tmp 10] ?_;refine wk ?_;refine qqX λK hK=>?_;refine Zz ?_;refine jc ?_
 try refine Zz ?_
 refine q0T cM2 ?_
 try refine Zz ?_
 refine jmF cP ?_ ?_
 .exact Ow
 try refine Zz ?_
 refine hK _ _ ?_; clear hK K;refine wk1 w61 ?_;refine q0U (λi=>i<=mv.length) [4,11,12,13,14] [11,12,14] Lk Lk (λi:Nat=>[(15,iv i)]) (λi=>[(13,⟨26,some 5,[.ag [iv N,iv N,pI ms,pI mi,.ow 1002 none 0 i]],false⟩),(1002,⟨32,none,((mv.take i).map (scX kk)).map λz:Nat=>uv z,false⟩)]) (λ_=>q0P h0 5000 ⟨32,none,p.map λz:Nat=>uv z,false⟩) (λi=>mv.length-i) 0 (Nat.zero_le _) ?_ ?_
 .refine LeW [(1002,none)] rfl rfl ?_ ?_ (by simp [q0y,q0n,win]) ?_
  .exact Ow
  .exact qll _
  .try refine Zz ?_
   rfl
 .intro i hi;have l1:((mv.take i).map (scX kk)).length=i:=by rw [zA,zD]; omega
  by_cases hlt:i < mv.length
  .have hlt':(i:Int) < mv.length:=ω
   obtain ⟨x,hx⟩:∃ x,mv[i]?=some x:=⟨_,zC hlt⟩;have hg:=hMv x (zF hx);have C3:=(q7j hg hk1 hk2).1;have es:=q5u (f:=scX kk) hx;have nz:Nz (uv (scX kk x:Nat)):=qa6;have w1:IntKind.i64.wrap ((i:Int)+1)=((i+1:Nat):Int):=by rw [i64_in ω ω]; omega
   generalize scX kk x=y at *;generalize (mv.take i).map (scX kk)=Y at *;refine wk1 (x4 hlt' hx l1 w1) ?_;refine ⟨i+1,ω,ω,?_⟩;rw [es];refine LeW [(1002,some 67)] rfl rfl ?_ ?_ (by simp [q0y,q0n,win]) ?_
   .exact Ow
   .exact qll _
   .try simp -implicitDefEqProofs (disch:=omega) only [go_sem,Nat.reduceEqDiff,Nat.reduceAdd,↓reduceIte]
  .obtain rfl:i=mv.length:=ω
   have hlt':¬ (mv.length:Int) < mv.length:=ω
   rw [List.take_length] at l1 ⊢;refine wk1 hlt' ?_;refine q0U (λi=>i<=N*N) [4,11,12,13,14] [11,12,13,1002] Lk Lk (λi:Nat=>[(16,iv i)]) (λi=>[(14,⟨28,some 3,[.ag [iv N,iv N,.ow 1003 none 0 i]],false⟩),(1003,⟨32,none,(((p.map zrX).take i).map (scX (-kk))).map λz:Nat=>uv z,false⟩)]) (λi=>q0P h0 5000 ⟨32,none,(zrL p i).map λz:Nat=>uv z,false⟩) (λi=>N*N-i) 0 (Nat.zero_le _) ?_ ?_
   .rw [zrL_0];refine LeW [(1003,none)] rfl rfl ?_ ?_ (by simp [q0y,q0n,win]) ?_
    .exact Ow
    .exact qll _
    .try refine Zz ?_
     rfl
   .intro i hi;have l2:(((p.map zrX).take i).map (scX (-kk))).length=i:=by rw [zA,zD]; omega
    have l3:=ql3 (p:=p) (i:=i)
    by_cases hlt2:i < N*N
    .have q1:(i:Int) < ((N*N:Nat):Int):=ω
     obtain ⟨x,hx⟩:∃ x,p[i]?=some x:=⟨_,zC Oq⟩;have hxm:=zF hx;have hxu:=hpu x hxm;have hxf:=hPf x hxm;have hxg:=hPg x hxm;have l4:=ql4 hx;have l5:=zrL_s hx;have hx2:(p.map zrX)[i]?=some (zrX x):=by rw [List.getElem?_map,hx]; rfl
     have es:=q5u (f:=scX (-kk)) hx2;have C4:=qma hxu hxf;obtain ⟨C5,_⟩:=q7j (n := -kk) hxg Oq Oq;have w1:IntKind.i64.wrap ((i:Int)+1)=((i+1:Nat):Int):=by rw [i64_in ω ω]; omega
     have hz:zrX x=if q2S x / 4503599627370496 < 100 then 0 else x:=rfl
     generalize hv:scX (-kk) (zrX x)=v at *;have nv:Nz (uv (v:Nat)):=qa6;have na:Nz (uv (q2S x:Nat)):=qa6;generalize ((p.map zrX).take i).map (scX (-kk))=Y at *;generalize zrL p i=Z at *
     by_cases q:q2S x / 4503599627370496 < 100
     .rw [if_pos q] at hz;rw [hz] at C5 l5;have q':((q2S x / 4503599627370496:Nat):Int) < 100:=ω
      have C6:ACt 24 [.vl (.int .u64 0),iv (-kk),iv 0] (uv (v:Nat)):=C5;refine wk1 (x6 q1 l2 l3 l4 hpl (x4 q' wng wng2 w1)) ?_;refine ⟨i+1,ω,ω,?_⟩;rw [es,<- l5];refine LeW [(1003,some 97)] rfl rfl ?_ ?_ (by simp [q0y,q0n,win]) ?_
      .intro c hc;have hc2:5000<=c:=hc.1
       by_cases ec:c=5000
       .subst ec;rw [q0A ω,q0A ω,q0A ω,q0A ω,q0H,q0H,List.map_set]
        rfl
       .rw [q0A ω,q0A ω,q0A ω,q0A ω,q0A ec,q0V hc,q0A ec,q0A ec]
      .exact qll _
      .try simp -implicitDefEqProofs (disch:=omega) only [go_sem,Nat.reduceEqDiff,Nat.reduceAdd,↓reduceIte]
     .rw [if_neg q] at hz;rw [hz] at C5 l5;have q':¬ ((q2S x / 4503599627370496:Nat):Int) < 100:=ω
      refine wk1 (x6 q1 l2 l3 l4 hpl (x4 q' wng wng2 w1)) ?_;refine ⟨i+1,ω,ω,?_⟩;rw [es,<- l5];refine LeW [(1003,some 97)] rfl rfl ?_ ?_ (by simp [q0y,q0n,win]) ?_
      .intro c hc;have hc2:5000<=c:=hc.1
       by_cases ec:c=5000
       .subst ec;rw [q0A ω,q0A ω,q0A ω,q0A ω,q0H,q0H,List.map_set]
       .rw [q0A ω,q0A ω,q0A ω,q0A ω,q0A ec,q0V hc,q0A ec,q0A ec]
      .exact qll _
      .try simp -implicitDefEqProofs (disch:=omega) only [go_sem,Nat.reduceEqDiff,Nat.reduceAdd,↓reduceIte]
    .obtain rfl:i=N*N:=ω
     have q1:¬ ((N*N:Nat):Int) < ((N*N:Nat):Int):=ω
     have eZ:zrL p (N*N)=p.map zrX:=by rw [<- hpl]; exact zrL_n
     rw [zE ω] at l2 ⊢;rw [eZ] at l3 ⊢;rw [zA] at l1 l2;refine wk1 (x2 q1 l3) ?_;have hno:∀ c,(c=5000\/c=1002\/c=1003)->∀ i,q0n [] i=some c->hpM [(11,⟨26,some 5,[.ag [iv N,iv N,pI ms,pI mi,pF mv]],false⟩),(12,⟨28,some 3,[.ag [iv N,iv N,pF (p.map zrX)]],false⟩),(13,⟨26,some 5,[.ag [iv N,iv N,pI ms,pI mi,pF (mv.map (scX kk))]],false⟩),(14,⟨28,some 3,[.ag [iv N,iv N,pF ((p.map zrX).map (scX (-kk)))]],false⟩)] [] i=none:=λc hc i hi=>by
      have e:i=c:=Option.some.inj hi;subst e;simp only [hpM,hpV];rw [if_neg ω,if_neg ω,if_neg ω,if_neg ω]
     refine q1g (LeM [] rfl rfl (xs:=[(11,.pt 11 0 0),(12,.pt 12 0 0),(13,.pt 13 0 0),(14,.pt 14 0 0)]) (kv:=[]) (bs:=[(11,⟨26,some 5,[.ag [iv N,iv N,pI ms,pI mi,pF mv]],false⟩),(12,⟨28,some 3,[.ag [iv N,iv N,pF (p.map zrX)]],false⟩),(13,⟨26,some 5,[.ag [iv N,iv N,pI ms,pI mi,pF (mv.map (scX kk))]],false⟩),(14,⟨28,some 3,[.ag [iv N,iv N,pF ((p.map zrX).map (scX (-kk)))]],false⟩)]) (kb:=[]) ?_) ?_
     .try refine Zz ?_
      have hl:∀ {l:List Nat} {c:Nat},l.length=c->((l.map λz:Nat=>uv z).drop 0).take c=l.map λz:Nat=>uv z:=λ{l c} h=>by
       rw [List.drop_zero];exact zE (by rw [zA]; omega)
      refine ⟨q5f (T:=32) (by rw [q0V ⟨ω,ω⟩,q0H]) clU (hno 5000 (.inl rfl)) (hl (by rw [zA]; omega)),q5f (T:=32) (by rw [q14 (λhw=>by have:=hw.1; omega)]; rfl) clU (hno 1002 (.inr (.inl rfl))) (hl (by rw [zA])),q5f (T:=32) (by rw [q14 (λhw=>by have:=hw.1; omega)]; rfl) clU (hno 1003 (.inr (.inr rfl))) (hl (by rw [zA,zA]; omega))⟩
     have r1:((0:Int) == 0)=true:=rfl;have r2:(ok == ok)=true:=σ
     exact wk1 (x2 r1 r2) trivial
end Go.Proofs.YtbjoghfmhgadkaaGreatDoor
