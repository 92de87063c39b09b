/- LuFactors, LuSingular and LuTriangular are proved. 6/6. -/
import Derived.SevenTiedAt
import Derived.Test.YtbjoghfmhgadkaaGreatDoorCards
import Derived.Test.YtbjoghfmhgadkaaGreatDoorTie
import Derived.Test.YtbjoghfmhgadkaaGreatDoorPu5
open Array renaming mem_of_getElem?->zL
open Bool renaming and_eq_true->zA
open Int renaming natCast_mul->zO
open List renaming take_of_length_le->zC,map_append->zE,length_map->zF,drop_zero->zI,getD_eq_getElem?_getD->zR,filter_append->zU,getElem?_map->zV,getElem?_eq_getElem->zW,all_eq_true->zZ,mem_range->tJ,length_append->tL
open Nat renaming pow_le_pow_right->zB,pow_add->zD,mul_le_mul_right->zG,le_trans->zJ,lt_of_lt_of_le->zK,zero_le->zN,mul_le_mul_left->zP,mul_lt_mul_of_pos_right->zQ,mul_le_mul->zS,lt_of_le_of_lt->tP,pow_lt_pow_iff_right->zX,mul_assoc->zY,le_refl->tQ,mul_comm->tR
open Option renaming some->zH,getD_some->zM
set_option linter.unusedSimpArgs false
set_option linter.unusedVariables false
set_option maxRecDepth 20000
set_option maxHeartbeats 2000000
set_option linter.defProp false
namespace Go.Proofs.YtbjoghfmhgadkaaGreatDoor
open Go Go.E Go.Sp Go.ChangeShapes Go.WideShapes Go.ChangeAt Go.WideMaps Go.WideElems Go.RowKit
set_option maxRecDepth 100000
abbrev q5b : List (String × DataW Unit) := [("math/bits.deBruijn32tab", Rows.laid_math_bits_deBruijn32tab)]
def own:ownKnob Tryz.prog.godebug=none:=κ
def q7B (os:Os) (args:Array Value):laidMetH Tryz.prog q5b ((World.doorLaid Tryz.prog 400 os).forCall (λ_ _=>0) ⟨#[],args,[]⟩).memory :=
 laidMetH_of_parts3 (fuel:=8) (laidMet_of_run' 8 κ κ) κ κ
def undW:Tryz.prog.underlying 22=some (.slice 31):=κ
def cellU:Tryz.prog.cellsOf 31=1:=κ
def q6s {H:Type} {enc:TypeId × Value->H} {W:World} {v:Value} {d:DataW H} {p:List MemPlace} {b0:Nat} (hv:Value.okWide Tryz.prog W .any b0 22 v) (h:DataW.Trod enc Tryz.prog W 0 (λ_=>true) true 22 v d p) :
  ∃ A n c raw,v=.slice A n c/\n<=9223372036854775807/\In (fSc u64v raw) (λ_=>True) (.slice A n c) W:=by
 obtain ⟨A,n,c,rfl⟩:=okWide_slice undW hv;obtain ⟨fuel,hf⟩:=h
 rcases open_ints undW qps cellU hf with ⟨h1,_⟩ | ⟨a,len,cap,zs,h1,_,hl,hm,hz,_,hc,hw⟩
 .injection h1 with h1 _
  injection h1 with h1 h2 h3
  subst h1; subst h2; subst h3;exact ⟨_,_,_,[],rfl,ω,In.sc_nil⟩
 .injection h1 with h1 _
  injection h1 with h1 h2 h3
  subst h1; subst h2; subst h3;have hz':zs.length=c:=by simpa using hz
  refine ⟨_,_,_,(zs.take n).map Int.toNat,rfl,by unfold maxLen at hm; omega,some a,n,c,rfl,hl,by simp; omega,λ_=>⟨a,rfl,trivial,λj u hu=>?_⟩⟩;rw [zV,zV,List.getElem?_take] at hu
  split at hu
  .rename_i hj;have hjz:j < zs.length:=ω
   rw [zW hjz] at hu;have h0:=hc j hjz;rw [zR,zW hjz] at h0;have h1:=hw zs[j] (List.getElem_mem _);simp only [Lit.wf,zA,decide_eq_true_eq] at h1;have h2:(0:Int)<=zs[j]:=h1.1;rw [h0,<- zH.inj hu]
   show some (Value.int .u64 zs[j])=some (Value.int .u64 ((zs[j].toNat:Nat):Int))
   rw [Int.toNat_of_nonneg h2]
  .cases hu
section
variable {w:World} {D:Nat->Prop} {ρ:Nat->Option Nat} {h:Hp} {x:PV} {l:List PV} {a:Value} {vs:List Value}
def qlo:RdL w D [] ρ h []:=by unfold RdL; rfl
def q3C (h1:Rd w D x ρ h a) (h2:RdL w D l ρ h vs):RdL w D (x :: l) ρ h (a :: vs):=by
 unfold RdL;exact ⟨_,_,rfl,h1,h2⟩
end
set_option maxRecDepth 100000
def qba (os:Os) (started:os.Started) (H:Type) (enc:TypeId × Value->H) :
  ReturnsInHanded {} Tryz.checked os 6 .any (λw args=>(Rows.luFactorsSpec.pre enc Tryz.prog Tryz.f6 [] false w args/\laidMetH Tryz.prog q5b w)/\sizedMet enc Tryz.prog Tryz.f6 (OpenSpec.ofChange Rows.luFactorsSpec) false w args)
   (Rows.luFactorsSpec.post enc Tryz.prog Tryz.f6 false true false false):=by
 refine returnsInHanded_of_change_and (C:=Tryz.checked) (X:=λw _=>laidMetH Tryz.prog q5b w) (λ_ _ _ hh h=>h.of_heap hh) own started κ Tryz.func6
  (ChangeSpec.witness_shaped (enc:=enc) (C:=Tryz.checked) (os:=os) (X:=λw _=>laidMetH Tryz.prog q5b w) false (World.doorLaid Tryz.prog 400 os) #[.slice none 0 0,.int .i64 0,.int .i64 0,.bool false,.int .i64 0,.int .i64 0] 8 rfl (World.shaped_of_RefB κ κ) κ κ κ (q7B os _)) ?_
 intro W base args ds gs before hval0 hW _ _ hL _;have hval:∀ (j:Nat) t v,Tryz.f6.params[j]?=some t->args[j]?=some v->Value.okWide Tryz.prog W .any base t v:=hval0;have hW':DataW.Whole enc Tryz.prog Tryz.f6.params.toList Rows.luFactorsSpec.vars false W args.toList ds gs before:=hW;obtain ⟨p,q,hA0,hV,rfl,_,_⟩:=hW;have hA:DataW.TrodAll enc Tryz.prog W 0 (λ_=>true) true [22,3,3,4,3,3] args.toList ds p:=hA0;obtain ⟨v0,s0,d0,e0,p0,q0,ha,rfl,rfl,h0,r0⟩:=trodAll_cons hA;obtain ⟨v1,s1,d1,e1,p1,q1,rfl,rfl,rfl,h1,r1⟩:=trodAll_cons r0;obtain ⟨v2,s2,d2,e2,p2,q2,rfl,rfl,rfl,h2,r2⟩:=trodAll_cons r1;obtain ⟨v3,s3,d3,e3,p3,q3,rfl,rfl,rfl,h3,r3⟩:=trodAll_cons r2;obtain ⟨v4,s4,d4,e4,p4,q4,rfl,rfl,rfl,h4,r4⟩:=trodAll_cons r3;obtain ⟨v5,s5,d5,e5,p5,q5,rfl,rfl,rfl,h5,r5⟩:=trodAll_cons r4;obtain ⟨rfl,rfl,rfl⟩:=trodAll_nil r5;obtain rfl:args=#[v0,v1,v2,v3,v4,v5]:=by cases args; simp_all
 obtain ⟨rfl,rfl⟩:=trodVars_none hV;obtain ⟨A0,n0,c0,y0,rfl,hn0,hi0⟩:=q6s (hval 0 22 _ rfl rfl) h0;obtain ⟨y1,rfl,_,_,g1⟩:=open_int qcJ (hval 1 3 _ rfl rfl) h1;simp only [Lit.wf,zA,decide_eq_true_eq] at g1;obtain ⟨y2,rfl,_,_,g2⟩:=open_int qcJ (hval 2 3 _ rfl rfl) h2;simp only [Lit.wf,zA,decide_eq_true_eq] at g2;obtain ⟨y3,rfl,_,_⟩:=open_bool qoz (hval 3 4 _ rfl rfl) h3;obtain ⟨y4,rfl,_,_,g4⟩:=open_int qcJ (hval 4 3 _ rfl rfl) h4;simp only [Lit.wf,zA,decide_eq_true_eq] at g4;obtain ⟨y5,rfl,_,_,g5⟩:=open_int qcJ (hval 5 3 _ rfl rfl) h5;simp only [Lit.wf,zA,decide_eq_true_eq] at g5;have hc:=q7q (raw:=y0) (rg:=y3) (by rw [hi0.sc_len]; exact hn0) g1.1 g1.2 g2.1 g2.2 g4.1 g4.2 g5.1 g5.2;refine (hc.2 _ W [_,_,_,_,_,_] (q8l hL) (Fr.triv _) (q3C (qlp hi0) (q3C q2j (q3C q2j (q3C q2j (q3C q2j (q3C q2j qlo))))))).mono λe W' ⟨v,he,hx,hr⟩=>?_;rw [q8u hr] at he;subst he;exact ⟨_,rfl,q6q rfl hW' κ rfl rfl hx⟩
def qsd:(Rows.luFactorsRow.inPlace == Tryz.pinned.checked.prog.inPlace 6)=true:=κ
def qsc:(Rows.luFactorsRow.unfollowed == Tryz.pinned.checked.prog.unfollowed 6)=true:=κ
def qsb:(Rows.luFactorsRow.recurses == Tryz.pinned.checked.prog.recurses 6)=true:=κ
def qsa:(Rows.luFactorsRow.named == Tryz.pinned.checked.prog.varsNamed 6)=true:=κ
def qs9:joinedFacts Tryz.pinned.checked.prog 6 Tryz.f6 Rows.luFactorsSpec Rows.luFactorsRow=true:=by
 unfold joinedFacts;rw [qsd,qsc,qsb,qsa]
 kernel_rfl
def q5O:Rows.LuFactorsSaid :=
 OpenClaim.holds_of_wide 6 Tryz.f6 rfl rfl rfl rfl rfl rfl rfl ⟨rfl,rfl,rfl,rfl,rfl⟩ rfl rfl rfl rfl rfl κ Tryz.func6 qs9
  (of_decide_eq_true κ) (by unfold Func.isWrapper; first | (rw [if_pos (by decide +kernel)]; kernel_rfl) | (rw [if_neg (by decide +kernel)]; exact ⟨rfl,rfl⟩))
  (λos started H enc _=>qba os started H enc)
set_option maxRecDepth 100000
def qsi:OpenClaim.wfByText (OpenSpec.ofChange Rows.luFactorsSpec) Rows.luFactorsRow=true:=κ
def qsh : Tryz.pinned.checked.prog.mainIs = some (true, ("4ea1ea1af5882540d6044f003e91dc42835ade560e3fe663dbddcd91269f8aa1" : String).toList) := by kernel_rfl
def qsg:false=Tryz.pinned.checked.prog.looks []:=κ
def qsf:false=Rows.luFactorsRow.goesBy Tryz.pinned.checked.prog:=κ
def qse : Tryz.prog.funcNamed "sparse/sparselaw26.LuFactors" = some 6 := by kernel_rfl
theorem luf_card:Rows.LuFactorsCardSaid :=
 Claim7.holds_tied_plain_at .later [] [.data] true (true, "4ea1ea1af5882540d6044f003e91dc42835ade560e3fe663dbddcd91269f8aa1") false
  q5O (λ_ h=>by cases h) qsi (λ_ h=>by cases h) luFactors_row_tie rfl ⟨rfl,rfl⟩ qsh rfl
  (λf fn hf hfn=>by
   obtain rfl:f=6:=zH.inj (qse.symm.trans hf) |>.symm;obtain rfl:fn=Tryz.f6:=(zH.inj (Tryz.func6.symm.trans hfn)).symm;exact ⟨qsg,λj t ht=>by
    have hm:t ∈ [22,3,3,4,3,3]:=by simpa using zL ht
    have hall:([22,3,3,4,3,3].all λu=>!Tryz.prog.wantsStandIn u)=true:=κ
    exact (show Tryz.prog.wantsStandIn t=false by simpa using zZ.1 hall t hm)⟩)
  qsf
#print axioms luf_card
def sgF (F:Nat->Nat->Option Nat) (J K:Nat) (rw:Bool) (c i:Nat):Option Nat:=some (if rw=true/\i=J then 9223372036854775808 else if rw=false/\c=J then (F K i).getD 0 else (F c i).getD 0)
def qrH {F:Nat->Nat->Option Nat} {N J K:Nat} {rw:Bool} (h:TOk F N N) (hK:K < N):TOk (sgF F J K rw) N N:=by
 have key:∀ c i,c < N->i < N->∀ x,sgF F J K rw c i=some x->q0O x/\x < 18446744073709551616:=λc i hc hi x hx=>by
  unfold sgF at hx;cases hx
  split
  .exact ⟨by unfold q0O; omega,ω⟩
  .split
   .exact h.fin hK hi
   .exact h.fin hc hi
 exact ⟨h.r,h.c,h.m,λj i x hj hi hx=>(key j i hj hi x hx).2,λj i x hj hi hx=>(key j i hj hi x hx).1⟩
def qpA {f:Nat->Nat->Option Nat} {j i x:Nat} {p:List Int × List Nat} (h:f j i=some x):tC f j p (i+1)=((tC f j p i).1 ++ [(i:Int)],(tC f j p i).2 ++ [x]):=by
 rw [tC,h]
section
variable {raw:List Nat} {n j k:Int} {rw:Bool}
def q6n (hr:raw.length<=9223372036854775807) (h1 : -9223372036854775808<=n) (h2:n<=9223372036854775807) (h3 : -9223372036854775808<=j) (h4:j<=9223372036854775807) (h5 : -9223372036854775808<=k) (h6:k<=9223372036854775807) :
  ACt 7 [pF raw,iv n,iv j,iv k,bv rw] (bv true):=by
 have hN:q06 n 6 < 6:=by unfold q06; omega
 have cP:=qaN (st:=0) (rg:=true) hr h1 h2 Oq Oq;have cA:=q53;have hF:=qaM (raw:=raw) (n:=n) (st:=0) (rg:=true);generalize q8y raw n 0 true=F at *;generalize q06 n 6=N at *;have hpm:=qaP raw N;have hll:=q5K raw N;have hP:q4E (q3R raw N) N:=⟨by rw [hll],λx hx=>by have:=hpm.1 x hx; omega,hpm.2⟩;generalize q3R raw N=o at *
 by_cases hN2:N < 2
 .have q:(N:Int) < 2:=ω
  unfold pT q3G at *;refine ac0 Tryz.func7 Tryz.ntmps7 [.tmp 10] ?_;exact wk1 q trivial
 .have q:¬ (N:Int) < 2:=ω
  have cj:=q3H (a:=j) (n:=N) h3 h4 Oq Oq;have ck:=q3H (a:=k) (n:=N) h5 h6 Oq Oq;have hJ:q06 j N < N:=q3T Oq;have hK:q06 k N < N:=q3T Oq;generalize q06 j N=J at *;generalize q06 k N=K at *;have hG:=qrH (J:=J) (rw:=rw) hF hK;have hGv:∀ c i,sgF F J K rw c i=some (if rw=true/\i=J then 9223372036854775808 else if rw=false/\c=J then (F K i).getD 0 else (F c i).getD 0):=λ_ _=>rfl;have cAt:=λ(i c:Nat) (hi:i < N) (hc:c < N)=>qce (i:=i) (j:=c) hF hi hc;generalize sgF F J K rw=G at *;have c1:=q23 (num:=1) (den:=1) hG Oq hP Oq Oq Oq;have c2:=qaZ (num:=1) (den:=1) hG Oq hP Oq Oq Oq;have hs:=qkE (F:=G) (mi:=(tM G N N).2.1) (n:=N) (cols:=o) (num:=1) (den:=1) Oq Oq;have cS:=q7e hs;unfold qfZ at c1 c2;generalize qhi G (tM G N N).2.1 N o 1 1=f at *;obtain ⟨x,hx⟩:∃ x:Nat,x=if (q0i G (tM G N N).2.1 N o 1 1 N).1=0 then N else (q0i G (tM G N N).2.1 N o 1 1 N).2.1:=⟨_,rfl⟩
  rw [<- hx] at c1 c2;generalize (q0i G (tM G N N).2.1 N o 1 1 N).1=e at *;have r1:(e == e)=true:=σ
  have r2:((x:Int) == x)=true:=σ
  clear hx;have hL:=λc=>q0y (f:=G) (R:=N) c;have hC:=λc i=>q5j (f:=G) (j:=c) (p:=(tM G N c).2) (hL c).2.1 i;have hNN:∀ c,c < N->(c+1)*N<=6*6:=λc hc=>zS Oq Oq;unfold pLU at *;have D1:ACt 36 [.ag [iv N,iv N,pI (tM G N N).1,pI (tM G N N).2.1,pF (tM G N N).2.2],pI o,iv 1,iv 1] (.tu [.ag [pI f.rows,pI f.cols,pI f.ls,pI f.li,pF f.lv,pI f.us,pI f.ui,pF f.uv],iv x,iv e]):=c1;have D2:ACt 28 [.ag [iv N,iv N,pI (tM G N N).1,pI (tM G N N).2.1,pF (tM G N N).2.2],pI o,iv 1,iv 1] (.tu [.ag [pI f.rows,pI f.cols,pI f.ls,pI f.li,pF f.lv,pI f.us,pI f.ui,pF f.uv],iv x,iv e]):=c2;clear c1 c2;unfold pT q3G at *;generalize (tM F N N).1=ms at *;generalize (tM F N N).2.1=mi at *;generalize (tM F N N).2.2=mv at *;refine ac0 Tryz.func7 Tryz.ntmps7 [.tmp 10] ?_;refine wk1 q ?_;refine q0B (λc=>c<=N) [2,3,4,11,12,13] [11] Lk Lk (λc:Nat=>[(14,iv c)]) (λc=>[(13,⟨26,some 5,[.ag [iv N,iv N,.ow 1001 none 0 (c+1),.ow 1002 none 0 (tM G N c).2.1.length,.ow 1003 none 0 (tM G N c).2.2.length]],false⟩),(1001,⟨3,none,(tM G N c).1.map λz:Int=>iv z,false⟩),(1002,⟨3,none,(tM G N c).2.1.map λz:Int=>iv z,false⟩),(1003,⟨32,none,(tM G N c).2.2.map λz:Nat=>uv z,false⟩)]) (λc=>N-c) 0 (zN _) ?_ ?_
  .refine LeM [(1001,some 45),(1002,none),(1003,none)] rfl rfl ?_;refine Zz ?_;exact ⟨rfl,⟨rfl,rfl⟩,rfl,rfl,rfl⟩
  .intro c hc
   by_cases hcn:c < N
   .have hcn':(c:Int) < N:=ω
    have hNc:=hNN c hcn;refine wk1 hcn' ?_;have hCc:=hC c;have hLc:=hL c;have eM1:(tM G N (c+1)).1=(tM G N c).1 ++ [((tC G c (tM G N c).2 N).1.length:Int)]:=rfl;have eM2:(tM G N (c+1)).2=tC G c (tM G N c).2 N:=rfl;refine q0B (λi=>i<=N) [2,3,4,11,12,13,14] [11,1001] Lk Lk (λi:Nat=>[(15,iv i)]) (λi=>[(13,⟨26,some 5,[.ag [iv N,iv N,.ow 1001 none 0 (c+1),.ow 1002 none 0 (tC G c (tM G N c).2 i).1.length,.ow 1003 none 0 (tC G c (tM G N c).2 i).2.length]],false⟩),(1002,⟨3,none,(tC G c (tM G N c).2 i).1.map λz:Int=>iv z,false⟩),(1003,⟨32,none,(tC G c (tM G N c).2 i).2.map λz:Nat=>uv z,false⟩)]) (λi=>N-i) 0 (zN _) ?_ ?_
    .refine LeM [] rfl rfl ?_;refine Zz ?_;exact ⟨rfl,⟨rfl,rfl⟩,rfl,rfl⟩
    .intro i hi;have hCi:=hCc i;have hs1:(tC G c (tM G N c).2 i).1.length<=36:=by rw [Nat.succ_mul] at hNc; omega
     have hs2:(tC G c (tM G N c).2 i).2.length<=36:=ω
     by_cases hin:i < N
     .have hin':(i:Int) < N:=ω
      have c1:=cAt i c hin hcn;have c2:=cAt i K hin hK;have hv:=hGv c i;generalize (F c i).getD 0=a1 at *;generalize (F K i).getD 0=a2 at *;cases hrw:rw
      .subst hrw;rw [if_neg σ] at hv
       by_cases hcJ:c=J
       .have b1:((c:Int) == J)=true:=by simp [hcJ]
        rw [if_pos ⟨rfl,hcJ⟩] at hv;refine wk1 (x2 hin' b1) ?_;refine ⟨i+1,ω,ω,?_⟩;rw [qpA hv];refine LeM [(1002,some 84),(1003,some 89)] rfl rfl ?_;refine Zz ?_
        all_goals (first | rfl | exact ⟨rfl,q0G (by rw [zE]; rfl) clU⟩)
       .have b1:((c:Int) == J)=false:=by simp; omega
        rw [if_neg (λh=>hcJ h.2)] at hv;refine wk1 (x2 hin' b1) ?_;refine ⟨i+1,ω,ω,?_⟩;rw [qpA hv];refine LeM [(1002,some 84),(1003,some 89)] rfl rfl ?_;refine Zz ?_
        all_goals (first | rfl | exact ⟨rfl,q0G (by rw [zE]; rfl) clU⟩)
      .subst hrw
       by_cases hiJ:i=J
       .have b1:((i:Int) == J)=true:=by simp [hiJ]
        rw [if_pos ⟨rfl,hiJ⟩] at hv
        by_cases hcJ:c=J
        .have b2:((c:Int) == J)=true:=by simp [hcJ]
         refine wk1 (x3 hin' b1 b2) ?_;refine ⟨i+1,ω,ω,?_⟩;rw [qpA hv];refine LeM [(1002,some 84),(1003,some 89)] rfl rfl ?_;refine Zz ?_
         all_goals (first | rfl | exact ⟨rfl,q0G (by rw [zE]; rfl) clU⟩)
        .have b2:((c:Int) == J)=false:=by simp; omega
         refine wk1 (x3 hin' b1 b2) ?_;refine ⟨i+1,ω,ω,?_⟩;rw [qpA hv];refine LeM [(1002,some 84),(1003,some 89)] rfl rfl ?_;refine Zz ?_
         all_goals (first | rfl | exact ⟨rfl,q0G (by rw [zE]; rfl) clU⟩)
       .have b1:((i:Int) == J)=false:=by simp; omega
        rw [if_neg (λh=>hiJ h.2),if_neg σ] at hv
        by_cases hcJ:c=J
        .have b2:((c:Int) == J)=true:=by simp [hcJ]
         refine wk1 (x3 hin' b1 b2) ?_;refine ⟨i+1,ω,ω,?_⟩;rw [qpA hv];refine LeM [(1002,some 84),(1003,some 89)] rfl rfl ?_;refine Zz ?_
         all_goals (first | rfl | exact ⟨rfl,q0G (by rw [zE]; rfl) clU⟩)
        .have b2:((c:Int) == J)=false:=by simp; omega
         refine wk1 (x3 hin' b1 b2) ?_;refine ⟨i+1,ω,ω,?_⟩;rw [qpA hv];refine LeM [(1002,some 84),(1003,some 89)] rfl rfl ?_;refine Zz ?_
         all_goals (first | rfl | exact ⟨rfl,q0G (by rw [zE]; rfl) clU⟩)
     .obtain rfl:N=i:=ω
      have hin':¬ (N:Int) < N:=ω
      refine wk1 hin' ?_;refine ⟨c+1,ω,ω,?_⟩;rw [eM1,eM2];refine LeM [(1001,some 98)] rfl rfl ?_;refine Zz ?_;exact ⟨rfl,hLc.1⟩
   .obtain rfl:N=c:=ω
    have hcn':¬ (N:Int) < N:=ω
    refine wk1 hcn' ?_;have hLN:=hL N;have hno:∀ c,1001<=c->c < 1100->∀ i,q0Z [] i=some c->q0o (hpG [] Go.E.h0) (hpM [(13,⟨26,some 5,[.ag [iv N,iv N,pI (tM G N N).1,pI (tM G N N).2.1,pF (tM G N N).2.2]],false⟩)] []) i=none:=λc hc hc2 i hi=>by
     have e:i=c:=zH.inj hi;subst e;rw [q1G λhw=>by have:=hw.1; omega];simp only [hpM,hpV];rw [if_neg ω]
    refine q1h (LeG [] (L:=[]) (B:=Go.E.h0) (xs:=[(12,pI o),(13,.pt 13 0 0)]) (kv:=[]) (bs:=[(13,⟨26,some 5,[.ag [iv N,iv N,pI (tM G N N).1,pI (tM G N N).2.1,pF (tM G N N).2.2]],false⟩)]) (kb:=[]) rfl (λi hi=>hi.elim) BOk.h0 (λi hi=>(hi rfl).elim) (λi hi hm=>(hi rfl).elim) (λp hp=>by cases hp) (by simp [loN,win]) (by simp [q2e,q0Z,win,Go.E.h0]) ?_) ?_
    .try refine Zz ?_
     refine ⟨q1A (T:=3) rfl clI (hno 1001 Oq Oq) ?_,q1A (T:=3) rfl clI (hno 1002 Oq Oq) ?_,q1A (T:=32) rfl clU (hno 1003 Oq Oq) ?_⟩
     .rw [zI]; exact zC (by rw [zF,hLN.1]; omega)
     .rw [zI]; exact zC (by rw [zF]; omega)
     .rw [zI]; exact zC (by rw [zF]; omega)
    exact wk1 (x2 r1 r2) trivial
end
set_option maxRecDepth 100000
def qb9 (os:Os) (started:os.Started) (H:Type) (enc:TypeId × Value->H) :
  ReturnsInHanded {} Tryz.checked os 7 .any (λw args=>(Rows.luSingularSpec.pre enc Tryz.prog Tryz.f7 [] false w args/\laidMetH Tryz.prog q5b w)/\sizedMet enc Tryz.prog Tryz.f7 (OpenSpec.ofChange Rows.luSingularSpec) false w args)
   (Rows.luSingularSpec.post enc Tryz.prog Tryz.f7 false true false false):=by
 refine returnsInHanded_of_change_and (C:=Tryz.checked) (X:=λw _=>laidMetH Tryz.prog q5b w) (λ_ _ _ hh h=>h.of_heap hh) own started κ Tryz.func7
  (ChangeSpec.witness_shaped (enc:=enc) (C:=Tryz.checked) (os:=os) (X:=λw _=>laidMetH Tryz.prog q5b w) false (World.doorLaid Tryz.prog 400 os) #[.slice none 0 0,.int .i64 0,.int .i64 0,.int .i64 0,.bool false] 8 rfl (World.shaped_of_RefB κ κ) κ κ κ (q7B os _)) ?_
 intro W base args ds gs before hval0 hW _ _ hL _;have hval:∀ (j:Nat) t v,Tryz.f7.params[j]?=some t->args[j]?=some v->Value.okWide Tryz.prog W .any base t v:=hval0;have hW':DataW.Whole enc Tryz.prog Tryz.f7.params.toList Rows.luSingularSpec.vars false W args.toList ds gs before:=hW;obtain ⟨p,q,hA0,hV,rfl,_,_⟩:=hW;have hA:DataW.TrodAll enc Tryz.prog W 0 (λ_=>true) true [22,3,3,3,4] args.toList ds p:=hA0;obtain ⟨v0,s0,d0,e0,p0,q0,ha,rfl,rfl,h0,r0⟩:=trodAll_cons hA;obtain ⟨v1,s1,d1,e1,p1,q1,rfl,rfl,rfl,h1,r1⟩:=trodAll_cons r0;obtain ⟨v2,s2,d2,e2,p2,q2,rfl,rfl,rfl,h2,r2⟩:=trodAll_cons r1;obtain ⟨v3,s3,d3,e3,p3,q3,rfl,rfl,rfl,h3,r3⟩:=trodAll_cons r2;obtain ⟨v4,s4,d4,e4,p4,q4,rfl,rfl,rfl,h4,r4⟩:=trodAll_cons r3;obtain ⟨rfl,rfl,rfl⟩:=trodAll_nil r4;obtain rfl:args=#[v0,v1,v2,v3,v4]:=by cases args; simp_all
 obtain ⟨rfl,rfl⟩:=trodVars_none hV;obtain ⟨A0,n0,c0,y0,rfl,hn0,hi0⟩:=q6s (hval 0 22 _ rfl rfl) h0;obtain ⟨y1,rfl,_,_,g1⟩:=open_int qcJ (hval 1 3 _ rfl rfl) h1;simp only [Lit.wf,zA,decide_eq_true_eq] at g1;obtain ⟨y2,rfl,_,_,g2⟩:=open_int qcJ (hval 2 3 _ rfl rfl) h2;simp only [Lit.wf,zA,decide_eq_true_eq] at g2;obtain ⟨y3,rfl,_,_,g3⟩:=open_int qcJ (hval 3 3 _ rfl rfl) h3;simp only [Lit.wf,zA,decide_eq_true_eq] at g3;obtain ⟨y4,rfl,_,_⟩:=open_bool qoz (hval 4 4 _ rfl rfl) h4;have hc:=q6n (raw:=y0) (rw:=y4) (by rw [hi0.sc_len]; exact hn0) g1.1 g1.2 g2.1 g2.2 g3.1 g3.2;refine (hc.2 _ W [_,_,_,_,_] (q8l hL) (Fr.triv _) (q3C (qlp hi0) (q3C q2j (q3C q2j (q3C q2j (q3C q2j qlo)))))).mono λe W' ⟨v,he,hx,hr⟩=>?_;rw [q8u hr] at he;subst he;exact ⟨_,rfl,q6q rfl hW' κ rfl rfl hx⟩
def qs3:(Rows.luSingularRow.inPlace == Tryz.pinned.checked.prog.inPlace 7)=true:=κ
def qs2:(Rows.luSingularRow.unfollowed == Tryz.pinned.checked.prog.unfollowed 7)=true:=κ
def qs1:(Rows.luSingularRow.recurses == Tryz.pinned.checked.prog.recurses 7)=true:=κ
def qs0:(Rows.luSingularRow.named == Tryz.pinned.checked.prog.varsNamed 7)=true:=κ
def qsZ:joinedFacts Tryz.pinned.checked.prog 7 Tryz.f7 Rows.luSingularSpec Rows.luSingularRow=true:=by
 unfold joinedFacts;rw [qs3,qs2,qs1,qs0]
 kernel_rfl
def q4d:Rows.LuSingularSaid :=
 OpenClaim.holds_of_wide 7 Tryz.f7 rfl rfl rfl rfl rfl rfl rfl ⟨rfl,rfl,rfl,rfl,rfl⟩ rfl rfl rfl rfl rfl κ Tryz.func7 qsZ
  (of_decide_eq_true κ) (by unfold Func.isWrapper; first | (rw [if_pos (by decide +kernel)]; kernel_rfl) | (rw [if_neg (by decide +kernel)]; exact ⟨rfl,rfl⟩))
  (λos started H enc _=>qb9 os started H enc)
set_option maxRecDepth 100000
def qs8:OpenClaim.wfByText (OpenSpec.ofChange Rows.luSingularSpec) Rows.luSingularRow=true:=κ
def qs7 : Tryz.pinned.checked.prog.mainIs = some (true, ("4ea1ea1af5882540d6044f003e91dc42835ade560e3fe663dbddcd91269f8aa1" : String).toList) := by kernel_rfl
def qs6:false=Tryz.pinned.checked.prog.looks []:=κ
def qs5:false=Rows.luSingularRow.goesBy Tryz.pinned.checked.prog:=κ
def qs4 : Tryz.prog.funcNamed "sparse/sparselaw26.LuSingular" = some 7 := by kernel_rfl
theorem lus_card:Rows.LuSingularCardSaid :=
 Claim7.holds_tied_plain_at .later [] [.data] true (true, "4ea1ea1af5882540d6044f003e91dc42835ade560e3fe663dbddcd91269f8aa1") false
  q4d (λ_ h=>by cases h) qs8 (λ_ h=>by cases h) luSingular_row_tie rfl ⟨rfl,rfl⟩ qs7 rfl
  (λf fn hf hfn=>by
   obtain rfl:f=7:=zH.inj (qs4.symm.trans hf) |>.symm;obtain rfl:fn=Tryz.f7:=(zH.inj (Tryz.func7.symm.trans hfn)).symm;exact ⟨qs6,λj t ht=>by
    have hm:t ∈ [22,3,3,3,4]:=by simpa using zL ht
    have hall:([22,3,3,3,4].all λu=>!Tryz.prog.wantsStandIn u)=true:=κ
    exact (show Tryz.prog.wantsStandIn t=false by simpa using zZ.1 hall t hm)⟩)
  qs5
#print axioms lus_card
def trF (F:Nat->Nat->Option Nat) (j i:Nat):Option Nat:=if i<=j then F j i else none
structure TrI (k:Nat) (S:LuS):Prop where
 r:S.rows=List.range k
 l:∀ i m,S.l i m=0
 f:∀ i m,S.iL i m=false
def bsT_t {v:Nat->Nat} {mi:List Int} {num den:Nat} {w:Int} {L:List Nat} {t:Nat} (h:¬ ((v (L.getD t 0)=0\/v (L.getD t 0)=9223372036854775808)\/(den:Int)*abZ (v (L.getD t 0)) < num*w)) (h2:bsT v mi num den w L t < 0):bsT v mi num den w L (t+1)=t:=by rw [bsT,if_neg h,if_pos (.inl h2)]
section
variable {T:Nat->Nat->Option Nat} {mi:List Int} {n k num den:Nat} {S q:LuS}
def qaQ:ofZ 0=0:=q03 q2u
def q9K {l u:Nat->Nat->Nat} (hl:∀ i m,l i m=0) {i j c:Nat}:∀ m,luZ T l u i j c m=ofZ ((T j i).getD 0)
 | 0=>q2r _
 | m+1=>by
  show q1l (luL T l u i j c m ++ [-(q4J (l i m) (u m c))])=_
  rw [q10,hl,qd1 qaQ];have:=q9K (u:=u) hl (i:=i) (j:=j) (c:=c) m;unfold luZ at this;rw [this]; omega
def qc0 (h:∀ i m,S.l i m=0) (hf:∀ i,i < n->q0O (fR 0 (ofZ ((T k i).getD 0)))) (hr:∀ x ∈ S.rows,x < n) (hn:0 < n):∀ m,∃ q,upS T S k k m=some q/\q.l=S.l/\q.iL=S.iL/\q.rows=S.rows
 | 0=>⟨S,rfl,rfl,rfl,rfl⟩
 | m+1=>by
  obtain ⟨q,h1,h2,h3,h4⟩:=qc0 h hf hr hn m;have hz:luZ T q.l q.u (S.rows.getD m 0) k k m=ofZ ((T k (S.rows.getD m 0)).getD 0):=q9K (by rw [h2]; exact h) m;have hx:S.rows.getD m 0 < n:=by
   rw [zR];cases hc:S.rows[m]? with
   | none=>exact hn
   | some x=>exact hr x (List.mem_of_getElem? hc)
  unfold upS;rw [h1,Option.bind_some,hz,if_pos (hf _ hx)];exact ⟨_,rfl,h2,h3,h4⟩
def qdU {z:Nat->Int} (hk:k < n) (hz:z k≠0) (h0:∀ i,k < i->z i=0):∀ m,k < m->m<=n->opR (List.range k) z m=[k]
 | 0,h,_=>by omega
 | m+1,h,hm=>by
  rw [q9A]
  by_cases e:m=k
  .subst e;rw [if_pos ⟨σ,hz⟩];have:opR (List.range m) z m=[]:=by
    unfold opR;rw [List.filter_eq_nil_iff];intro i hi;have:=tJ.1 hi;simp [this]
   rw [this]; rfl
  .rw [if_neg λhc=>hc.2 (h0 m ω),qdU hk hz h0 m ω ω]
def qn0 (h:TrI k S) (hk:k < n) (hf:∀ i,i < n->q0O (fR 0 (ofZ ((T k i).getD 0)))) (h0:∀ i,k < i->T k i=none) (hd:ofZ ((T k k).getD 0)≠0) (hv:ofZ (fR 0 (ofZ ((T k k).getD 0)))≠0) (hnd:num<=den) (hd1:1<=den):∃ r,q14 T mi n S k k num den=(0,r)/\TrI (k+1) r:=by
 obtain ⟨q,hu,ql,qi,qr⟩:=qc0 (T:=T) (k:=k) h.l hf (by rw [h.r]; exact λx hx=>by have:=tJ.1 hx; omega) ω k;have hz:∀ i,rsZ T q k k i=ofZ ((T k i).getD 0):=λi=>q9K (by rw [ql]; exact h.l) k;have hz0:∀ i,k < i->rsZ T q k k i=0:=λi hi=>by rw [hz,h0 i hi]; exact qaQ
 have hL:clL T q n k k=[k]:=by
  unfold clL;rw [qr,h.r];exact qdU hk (by rw [hz]; exact hd) hz0 n hk (tQ _)
 have h2:∀ i,i < n->i ∉ q.rows->q0O (fR 0 (rsZ T q k k i)):=λi hi _=>by rw [hz]; exact hf i hi
 have hvk:rsV T q k k k=fR 0 (ofZ ((T k k).getD 0)):=by
  unfold rsV;rw [if_neg (by rw [qr,h.r]; simp),hz]
 have hB:clB T mi q n k k num den=0:=by
  unfold clB;rw [hL];have hab:0 < abZ (rsV T q k k k):=by
   rw [hvk]; unfold abZ; omega
  have hm:mxT (rsV T q k k) [k] 1=abZ (rsV T q k k k):=if_pos hab;have hm':mxT (rsV T q k k) [k] ([k]:List Nat).length=abZ (rsV T q k k k):=hm;rw [hm'];have hmul:(num:Int)*abZ (rsV T q k k k)<=den*abZ (rsV T q k k k):=Int.mul_le_mul_of_nonneg_right Oq Oq;refine bsT_t (t:=0) (λhc=>?_) (show (-1:Int) < 0 by omega);have hc:(rsV T q k k k=0\/rsV T q k k k=9223372036854775808)\/(den:Int)*abZ (rsV T q k k k) < num*abZ (rsV T q k k k):=hc
  rcases hc with hc | hc
  .have hlt:rsV T q k k k < 18446744073709551616:=by rw [hvk]; exact q3q
   have:=(q6r hlt).1 hc;rw [<- hvk] at hv;exact hv ((q9D (by rw [hvk]; exact hf k hk)).2 this)
  .omega
 have hp:(clL T q n k k)[(clB T mi q n k k num den).toNat]?=some k:=by rw [hL,hB]; rfl
 have he:=qn2 (mi:=mi) (num:=num) (den:=den) hu h2 (by rw [hB]; omega) hp (λi hi hip=>by rw [hL] at hi; exact absurd (List.mem_singleton.1 hi) hip);refine ⟨_,he,?_⟩;have hdz:ofZ (rsV T q k k k)≠0:=by rw [hvk]; exact hv
 refine ⟨?_,λi m=>?_,λi m=>?_⟩
 .show q.rows ++ [k]=_
  rw [qr,h.r,List.range_succ]
 .unfold clS loE
  show (if m=k/\i < n/\i ∉ (pvS q k (rsV T q k k) k).rows then q4H 0 (rsZ T q k k i) _ else q.l i m)=0
  split
  .rename_i hc;have hik:k < i:=by
    have hni:i ∉ q.rows ++ [k]:=hc.2.2;rw [qr,h.r] at hni;simp at hni;omega
   rw [hz0 i hik,qdK hdz]
  .rw [ql]; exact h.l i m
 .unfold clS loE
  show (if m=k/\i < n/\i ∉ (pvS q k (rsV T q k k) k).rows then decide (rsZ T q k k i≠0) else q.iL i m)=false
  split
  .rename_i hc;have hik:k < i:=by
    have hni:i ∉ q.rows ++ [k]:=hc.2.2;rw [qr,h.r] at hni;simp at hni;omega
   rw [hz0 i hik]; rfl
  .rw [qi]; exact h.f i m
def qaf (hf:∀ j i,j < n->i < n->q0O (fR 0 (ofZ ((T j i).getD 0)))) (h0:∀ j i,j < i->T j i=none) (hd:∀ j,j < n->ofZ ((T j j).getD 0)≠0) (hv:∀ j,j < n->ofZ (fR 0 (ofZ ((T j j).getD 0)))≠0) (hnd:num<=den) (hd1:1<=den):∀ k,k<=n->(q0i T mi n (q29 n) num den k).1=0/\TrI k (q0i T mi n (q29 n) num den k).2.2
 | 0,_=>⟨rfl,rfl,λ_ _=>rfl,λ_ _=>rfl⟩
 | k+1,hk=>by
  obtain ⟨i1,i2⟩:=qaf hf h0 hd hv hnd hd1 k Oq;have hx:(q29 n)[k]?=some ((k:Nat):Int):=by
   unfold q29;rw [zV,List.getElem?_range ω]; rfl
  have hl:lfN (q29 n) k=k:=q9N hx;obtain ⟨r,r1,r2⟩:=qn0 (mi:=mi) i2 Oq (λi hi=>hf k i Oq hi) (λi hi=>h0 k i hi) (hd k Oq) (hv k Oq) hnd hd1;have hs:q0i T mi n (q29 n) num den (k+1)=if (q0i T mi n (q29 n) num den k).1=0 then ((q14 T mi n (q0i T mi n (q29 n) num den k).2.2 (lfN (q29 n) k) k num den).1,if (q14 T mi n (q0i T mi n (q29 n) num den k).2.2 (lfN (q29 n) k) k num den).1=9 then k else 0,(q14 T mi n (q0i T mi n (q29 n) num den k).2.2 (lfN (q29 n) k) k num den).2) else q0i T mi n (q29 n) num den k:=rfl
  rw [hs,if_pos i1,hl,r1];exact ⟨rfl,r2⟩
def qhh (hf:∀ j i,j < n->i < n->q0O (fR 0 (ofZ ((T j i).getD 0)))) (h0:∀ j i,j < i->T j i=none) (hd:∀ j,j < n->ofZ ((T j j).getD 0)≠0) (hv:∀ j,j < n->ofZ (fR 0 (ofZ ((T j j).getD 0)))≠0) (hnd:num<=den) (hd1:1<=den):∃ f:LUt,qfZ T mi n (q29 n) num den=.tu [pLU f,iv n,iv 0]/\f.rows=q29 n/\f.li=[]:=by
 obtain ⟨e,h⟩:=qaf (mi:=mi) hf h0 hd hv hnd hd1 n (tQ _);refine ⟨qjq (q0i T mi n (q29 n) num den n).2.2 (q29 n) n,?_,?_,?_⟩
 .unfold qfZ qhi;rw [if_pos e,if_pos e,e]
 .show (q0i T mi n (q29 n) num den n).2.2.rows.map _=_
  rw [h.r]; rfl
 .show (tM (fLt (q0i T mi n (q29 n) num den n).2.2) n n).2.1=[]
  have hz:∀ j i,fLt (q0i T mi n (q29 n) num den n).2.2 j i=none:=λj i=>if_neg λhc=>by rw [h.f] at hc; exact absurd hc.2 (by decide)
  have key:∀ c,(tM (fLt (q0i T mi n (q29 n) num den n).2.2) n c).2=([],[]):=λc=>by
   induction c with
   | zero=>rfl
   | succ c ih =>
    show tC (fLt (q0i T mi n (q29 n) num den n).2.2) c (tM (fLt (q0i T mi n (q29 n) num den n).2.2) n c).2 n=_
    rw [q8o n λi _=>hz c i,ih]
  rw [key]
end
section
variable {r c i j:Nat} {v:List Nat}
end
section
variable {f:Nat->Nat->Option Nat} {R C:Nat}
end
section
variable {F:Nat->Nat->Option Nat} {n R C r c:Nat} {v:List Nat}
end
section
variable {F:Nat->Nat->Option Nat} {n R C r c:Nat} {v:List Nat}
end
section
variable {F:Nat->Nat->Option Nat} {n R C r c:Nat} {v:List Nat} {f P:Int}
end
section
variable {f:Nat->Nat->Option Nat} {y:List Nat} {R C J:Nat} {rows:Nat->List Int}
end
section
variable {f:Nat->Nat->Option Nat} {y:List Nat} {R C:Nat}
end
section
variable {f g:Nat}
end
section
variable {l:List Nat}
end
end Go.Proofs.YtbjoghfmhgadkaaGreatDoor
namespace Go.E
open Go Go.RowKit
end Go.E
namespace Go.Sp
open Go.E Go.Proofs.YtbjoghfmhgadkaaGreatDoor
end Go.Sp
namespace Go.Proofs.YtbjoghfmhgadkaaGreatDoor
open Go Go.E Go.Sp
section
variable {f:Nat->Nat->Option Nat} {g:LUt} {R C n j:Nat}
end
end Go.Proofs.YtbjoghfmhgadkaaGreatDoor
namespace Go.Sp
open Go Go.E Go.Proofs.YtbjoghfmhgadkaaGreatDoor
end Go.Sp
namespace Go.Proofs.YtbjoghfmhgadkaaGreatDoor
open Go Go.E Go.Sp
section
variable {mode A:Int} {a b:Nat}
end
def mlk (k:Nat) (z:Int):Prop:=∃ m:Int,z=m*(2:Int) ^ (65536-k)
def mlk_0 {k:Nat}:mlk k 0:=⟨0,(Int.zero_mul _).symm⟩
section
variable {F:Nat->Nat->Option Nat} {n:Nat} {b z v:List Nat}
end
section
variable {f k t K B:Nat} {V d l:Int}
def q6F (u:Nat):((2:Int) ^ u).natAbs=2 ^ u:=by rw [Int.natAbs_pow]; rfl
def qi5 (hf:q0O f):q31 f < 9223372036854775808/\q0O (q31 f):=by
 unfold q31 q0O at *;omega
def q9I {u:Nat} {m:Int} (h:65536<=u+k):mlk k (m*(2:Int) ^ u):=by
 obtain ⟨c,hc⟩:∃ c,u=c+(65536-k):=⟨u-(65536-k),ω⟩;exact ⟨m*(2:Int) ^ c,by rw [hc,Int.pow_add,Int.mul_assoc]⟩
def flt_k (hK:K=65536) (hu:f < 18446744073709551616) (hf:q0O f) (ht:t<=1000) (h:2 ^ (K-t)<=(ofZ f).natAbs):mlk (t+53) (ofZ f):=by
 obtain ⟨a1,a2⟩:=qi5 hf;have h1:=qmL a1 a2;have h2:=qdW hu hf;have hm:(if q31 f / 4503599627370496=0 then q31 f else 4503599627370496+q31 f % 4503599627370496:Nat) < 2 ^ 53:=by
  have:(2:Nat) ^ 53=9007199254740992:=by decide
  split <;> omega
 generalize (if q31 f / 4503599627370496=0 then q31 f else 4503599627370496+q31 f % 4503599627370496:Nat)=m at h1 hm;generalize ulpE (q31 f)=u at h1;rw [h1] at h2;have h3:(ofZ f).natAbs=m*2 ^ u:=by
  have:(((ofZ f).natAbs:Nat):Int)=((m*2 ^ u:Nat):Int):=by rw [h2]; push_cast; rfl
  exact_mod_cast this
 have h4:2 ^ (K-t) < 2 ^ (53+u):=by
  rw [zD];rw [h3] at h;exact tP h (zQ hm (Nat.pow_pos Oq))
 have h5:=(zX (by omega:1 < 2)).1 h4;have h6:ofZ f=m*(2:Int) ^ u\/ofZ f = -(m*(2:Int) ^ u):=ω
 rcases h6 with e | e
 .rw [e]; exact q9I ω
 .rw [e,<- Int.neg_mul]; exact q9I ω
def fR_k (hK:K=65536) (hk:k<=1074) (h:mlk k V) (hf:q0O (fR 0 V)):mlk k (ofZ (fR 0 V))/\(ofZ (fR 0 V)).natAbs<=2*V.natAbs/\V.natAbs<=2*(ofZ (fR 0 V)).natAbs:=by
 by_cases h0:V=0
 .subst h0;have:ofZ (fR 0 0)=0:=by have:=q03 q2u; simpa [fR] using this
  rw [this];exact ⟨mlk_0,ω,ω⟩
 obtain ⟨u,r,h1,h2,_,h4,h5,h6,h7⟩:=qnL hK h0 hf;obtain ⟨m,hm⟩:=h;generalize ofZ (fR 0 V)=q at *;have hs:q.natAbs=r*2 ^ u:=by
  rw [h4,Int.natAbs_mul,q6F]
  congr 1
  unfold sgn
  split <;> omega
 have p:0 < 2 ^ u:=Nat.pow_pos Oq
 by_cases hu:u+k<=K
 .obtain ⟨c,hc⟩:∃ c,(65536-k)=u+c:=⟨65536-k-u,ω⟩;have e:V-q=(m*(2:Int) ^ c-sgn (decide (V < 0)) r)*(2:Int) ^ u:=by
   rw [h4,hm,hc,Int.pow_add,Int.sub_mul,Int.mul_assoc,Int.mul_comm ((2:Int) ^ c)]
  have e2:(V-q).natAbs=(m*(2:Int) ^ c-sgn (decide (V < 0)) r).natAbs*2 ^ u:=by rw [e,Int.natAbs_mul,q6F]
  have e3:(m*(2:Int) ^ c-sgn (decide (V < 0)) r).natAbs=0:=by
   rcases Nat.eq_zero_or_pos (m*(2:Int) ^ c-sgn (decide (V < 0)) r).natAbs with z | z
   .exact z
   .have:=zG (2 ^ u) z;generalize (m*(2:Int) ^ c-sgn (decide (V < 0)) r).natAbs*2 ^ u=X at *;generalize 2 ^ u=Y at *;omega
  have e4:q=V:=by rw [e3,Nat.zero_mul] at e2; omega
  rw [e4];exact ⟨⟨m,hm⟩,ω,ω⟩
 .refine ⟨by rw [h4]; exact q9I ω,?_⟩;have h8:4503599627370496*2 ^ u<=r*2 ^ u:=zG _ Oq;rw [<- hs] at h8;generalize 2 ^ u=Y at *;omega
end

def qmM {neg:Bool} {E:Nat} (hE:E=66507):ofF (sb neg 9218868437227405311)=some (sgn neg 9007199254740991*(2:Int) ^ E):=by
 unfold ofF;have h1:sb neg 9218868437227405311 / 4503599627370496 % 2048=2046:=by unfold sb; cases neg <;> simp
 have h2:sb neg 9218868437227405311 % 4503599627370496=4503599627370495:=by unfold sb; cases neg <;> simp
 have h3:decide (9223372036854775808<=sb neg 9218868437227405311)=neg:=by unfold sb; cases neg <;> simp
 rw [h1,if_neg ω,if_neg ω,h2,h3,show 64461+2046=E by omega]
def qmH {mode:Int} {neg:Bool} (hm:mode=1\/mode=2) (h:awy mode neg=true):q8a mode neg=sb neg 9218868437227405312:=by
 unfold q8a;unfold awy at h;rw [if_neg];rintro (h1 | ⟨h1,h2⟩ | ⟨h1,h2⟩)
 .omega
 .subst h1 h2; simp at h
 .subst h1 h2; simp at h
def qmJ {mode:Int} {neg:Bool} (hm:mode=1\/mode=2) (h:awy mode neg=false):q8a mode neg=sb neg 9218868437227405311:=by
 unfold q8a;unfold awy at h;rw [if_pos]
 rcases hm with rfl | rfl
 .exact .inr (.inl ⟨rfl,by simpa using h⟩)
 .exact .inr (.inr ⟨rfl,by simpa using h⟩)
def qll {mode:Int} {neg:Bool} {A B:Nat} (hm:mode=1\/mode=2) (hB:0 < B) (h:awy mode neg=true):A<=B*rq mode neg A B:=by
 have h1:=Nat.div_add_mod A B;have h2:=Nat.mod_lt A hB;have h3:B*(A / B+1)=B*(A / B)+B:=by rw [Nat.mul_add,Nat.mul_one]
 unfold awy at h;unfold rq
 split
 .omega
 .rcases hm with rfl | rfl
  .rw [if_pos rfl] at h ⊢;rw [if_pos h,h3]; omega
  .rw [if_neg (by omega:¬ (2:Int)=1)] at h ⊢;rw [if_pos rfl,if_neg (by simpa using h),h3]; omega
def qrQ {mode:Int} {neg:Bool} {A B:Nat} (hm:mode=1\/mode=2) (h:awy mode neg=false):B*rq mode neg A B<=A:=by
 have h1:=Nat.div_add_mod A B;unfold awy at h;unfold rq
 split
 .omega
 .rcases hm with rfl | rfl
  .rw [if_pos rfl] at h ⊢;rw [if_neg (by simpa using h)]; omega
  .rw [if_neg (by omega:¬ (2:Int)=1)] at h ⊢;rw [if_pos rfl,if_pos (by simpa using h)]; omega
def qr8 {mode:Int} {neg:Bool} {N D K:Nat} (hK:K=65536) (hm:mode=1\/mode=2) (hN:0 < N) (hD:0 < D) :
  (awy mode neg=true->rF mode neg N D=sb neg 9218868437227405312\/∃ y:Nat,ofF (rF mode neg N D)=some (sgn neg y)/\N*2 ^ K<=D*y)/\(awy mode neg=false->∃ y:Nat,ofF (rF mode neg N D)=some (sgn neg y)/\D*y<=N*2 ^ K):=by
 obtain ⟨u,r,h1,h2,h3,h4,h5⟩:=q6f (mode:=mode) (neg:=neg) (N:=N) (D:=D) (K:=K) hN hD Oq;rw [h2];have ha:awy mode neg=true->N*2 ^ K<=D*(r*2 ^ u):=λq=>by
  have:=qll (A:=N*2 ^ K) hm (Nat.mul_pos hD (q0F u)) q;rw [<- h3,zY,tR (2 ^ u)] at this;exact this
 have ht:awy mode neg=false->D*(r*2 ^ u)<=N*2 ^ K:=λq=>by
  have:=qrQ (A:=N*2 ^ K) (B:=D*2 ^ u) hm q;rw [<- h3,zY,tR (2 ^ u)] at this;exact this
 have good:ofF (fin mode neg r ((u:Int)-K))=some (sgn neg r*(2:Int) ^ u)->(awy mode neg=true->fin mode neg r ((u:Int)-K)=sb neg 9218868437227405312\/∃ y:Nat,ofF (fin mode neg r ((u:Int)-K))=some (sgn neg y)/\N*2 ^ K<=D*y)/\(awy mode neg=false->∃ y:Nat,ofF (fin mode neg r ((u:Int)-K))=some (sgn neg y)/\D*y<=N*2 ^ K):=λq=>by
  rw [<- qcw] at q;exact ⟨λw=>.inr ⟨_,q,ha w⟩,λw=>⟨_,q,ht w⟩⟩
 have bad:fin mode neg r ((u:Int)-K)=q8a mode neg->9007199254740992*2 ^ (K+971)<=r*2 ^ u->(awy mode neg=true->fin mode neg r ((u:Int)-K)=sb neg 9218868437227405312\/∃ y:Nat,ofF (fin mode neg r ((u:Int)-K))=some (sgn neg y)/\N*2 ^ K<=D*y)/\(awy mode neg=false->∃ y:Nat,ofF (fin mode neg r ((u:Int)-K))=some (sgn neg y)/\D*y<=N*2 ^ K):=λq hb=>by
  rw [q];refine ⟨λw=>.inl (qmH hm w),λw=>⟨9007199254740991*2 ^ (K+971),?_,?_⟩⟩
  .rw [qmJ hm w,qmM (E:=K+971) ω,<- qcw]
  .refine zJ (zP D (zJ (zG _ Oq) hb)) (ht w)
 by_cases hu:u+1076 < 2047+K
 .exact good (q6v hK h1 h4 (by rcases h5 with h5 | h5; exact .inl h5; exact .inr h5.1) hu)
 have hr2:4503599627370496<=r:=by rcases h5 with h5 | h5; omega; exact h5.1
 by_cases hr:r=9007199254740992
 .refine bad ?_ ?_
  .unfold fin;rw [if_pos hr];unfold q5c;rw [if_neg ω,if_pos ω]
  .rw [hr];exact zP _ (zB Oq Oq)
 .by_cases hu2:u+1076=2047+K
  .refine good ?_;unfold fin;rw [if_neg hr,q3p ω ω ω (.inr hr2),show ((u:Int)-K+65536).toNat=u by omega]
  .refine bad ?_ ?_
   .unfold fin;rw [if_neg hr];unfold q5c;rw [if_neg ω,if_pos ω]
   .obtain ⟨w,rfl⟩:∃ w,u=K+971+1+w:=⟨u-(K+971+1),ω⟩;have e:r*2 ^ (K+971+1+w)=r*2*2 ^ w*2 ^ (K+971):=by rw [show K+971+1+w=1+w+(K+971) by omega,zD,zD,Nat.pow_one,<- zY,<- zY]
    rw [e];refine zG _ ?_;have:=zS (show 9007199254740992<=r*2 by omega) (q0F w)
    rwa [Nat.mul_one] at this
def qe1 {f:Nat} {V:Int} (h:ofF f=some V):q0O f/\ofZ f=V:=by
 refine ⟨λq=>?_,q03 h⟩;unfold ofF at h;rw [if_pos q] at h;cases h
def qrB (r:Nat):sgn true r = -(r:Int):=rfl
def qrE (r:Nat):sgn false r=(r:Int):=rfl
def fQ_up {a b:Int} {K:Nat} (hK:K=65536) (hb:0 < b):fQ 2 a b=9218868437227405312\/(q0O (fQ 2 a b)/\a*(2:Int) ^ K<=b*ofZ (fQ 2 a b)):=by
 have hp:=q0R K;unfold fQ
 by_cases ha:a=0
 .rw [if_pos ha,ha];refine .inr ⟨by simp [q0O],?_⟩;rw [q03 q2u]; simp
 .rw [if_neg ha,decide_eq_false (show ¬ b < 0 by omega),Bool.bne_false];obtain ⟨d1,d2⟩:=qr8 (mode:=2) (neg:=decide (a < 0)) (N:=a.natAbs) (D:=b.natAbs) hK (.inr rfl) Oq Oq;have eb:((b.natAbs:Nat):Int)=b:=ω
  by_cases hn:a < 0
  .rw [decide_eq_true hn] at d1 d2 ⊢;obtain ⟨y,h1,h2⟩:=d2 rfl;obtain ⟨h3,h4⟩:=qe1 h1;refine .inr ⟨h3,?_⟩;rw [h4,qrB];have h5:((b.natAbs*y:Nat):Int)<=((a.natAbs*2 ^ K:Nat):Int):=by exact_mod_cast h2
   rw [zO,zO,eb,q00,show ((a.natAbs:Nat):Int) = -a by omega,Int.neg_mul] at h5;rw [Int.mul_neg];omega
  .rw [decide_eq_false hn] at d1 d2 ⊢
   rcases d1 rfl with h | ⟨y,h1,h2⟩
   .exact .inl h
   obtain ⟨h3,h4⟩:=qe1 h1;refine .inr ⟨h3,?_⟩;rw [h4,qrE];have h5:((a.natAbs*2 ^ K:Nat):Int)<=((b.natAbs*y:Nat):Int):=by exact_mod_cast h2
   rw [zO,zO,eb,q00,show ((a.natAbs:Nat):Int)=a by omega] at h5;exact h5
def fR_fQ {mode V:Int} {K:Nat} (hK:K=65536):fR mode V=fQ mode V ((2:Int) ^ K):=by
 have hp:=q0R K;unfold fR fQ;rw [decide_eq_false (show ¬ (2:Int) ^ K < 0 by omega),Bool.bne_false,<- hK]
 congr 2
def fR_up {V:Int}:fR 2 V=9218868437227405312\/(q0O (fR 2 V)/\V<=ofZ (fR 2 V)):=by
 obtain ⟨K,hK⟩:∃ K:Nat,K=65536:=⟨_,rfl⟩;have hp:=q0R K;rw [fR_fQ hK]
 rcases fQ_up (a:=V) hK hp with h | ⟨h1,h2⟩
 .exact .inl h
 .refine .inr ⟨h1,?_⟩;rw [Int.mul_comm] at h2;exact Int.le_of_mul_le_mul_left h2 hp
def fR_ub {mode V:Int} {K c:Nat} (hK:K=65536) (hc:c=900) (h:V.natAbs < 2 ^ c*2 ^ K):(ofZ (fR mode V)).natAbs<=2*V.natAbs+2 ^ K:=by
 unfold fR
 split
 .rw [qaQ]; exact zN _
 .rw [<- hK];obtain ⟨u,r,h1,h2,h3,h4,h5⟩:=q6f (mode:=mode) (neg:=decide (V < 0)) (N:=V.natAbs) (D:=2 ^ K) (K:=K) Oq (q0F _) Oq;rw [h2];have hu:u+1076 < 2047+K:=by
   rcases h5 with h5 | ⟨_,h5⟩
   .omega
   .have h6:2 ^ K*2 ^ (u+52) < 2 ^ c*2 ^ K*2 ^ K:=tP h5 (zQ h (q0F K));rw [<- zD,<- zD,<- zD] at h6;have:=(zX (by omega:1 < 2)).1 h6;omega
  have hv:=q6v (mode:=mode) (neg:=decide (V < 0)) hK h1 h4 Oq hu;rw [q03 hv,q0M];have hs:(sgn (decide (V < 0)) r).natAbs=r:=by unfold sgn; split <;> omega
  rw [hs];have e53:r*2 ^ u<=9007199254740992*2 ^ u:=zG _ h4
  rcases h5 with h5 | ⟨_,h5⟩
  .have:9007199254740992*2 ^ u<=2 ^ K:=by
    rw [show (9007199254740992:Nat)=2 ^ 53 by decide,<- zD];exact zB Oq Oq
   exact zJ e53 (zJ this (Nat.le_add_left _ _))
  .rw [tR V.natAbs] at h5;have h6:2 ^ (u+52)<=V.natAbs:=Nat.le_of_mul_le_mul_left h5 (q0F K);have h7:9007199254740992*2 ^ u=2*2 ^ (u+52):=by
    rw [zD,show (2:Nat) ^ 52=4503599627370496 by decide];generalize 2 ^ u=x;omega
   rw [h7] at e53;exact zJ e53 (zJ (zP 2 h6) (Nat.le_add_right _ _))
def qj0 {G:Nat->Nat->Option Nat} {i:Nat}:∀ k,qja<=q1l (rgL G i k)
 | 0=>by unfold rgL; rw [q2r]; exact Int.le_refl _
 | k+1=>by
  have:=qj0 (G:=G) (i:=i) k;unfold rgL
  split
  .exact this
  .rw [show ∀ (a b:Int) (l:List Int),l ++ [a,b]=(l ++ [a]) ++ [b] from λa b l=>by simp,q10,q10];omega
def qrs {K:Nat} (hK:K=65536):qja=(2:Int) ^ K:=by
 have h:=q5L (m:=1) (E:=0) Oq (by have:bl (Int.natAbs 1)<=1:=q0N (by decide); omega);unfold qja;rw [h,zM,Int.one_mul,show ((0:Int)+65536).toNat=K by omega]
section
variable {raw:List Nat} {n k:Nat}
def q9W (hn:n<=100) (hk:k < 3) {i:Nat} (hi:i < n):q0O (fR 0 (ofZ (fR 2 (q1l (rgL (gF raw n k) i n)))))/\ofZ (fR 2 (q1l (rgL (gF raw n k) i n)))≠0/\ofZ (fR 0 (ofZ (fR 2 (q1l (rgL (gF raw n k) i n)))))≠0:=by
 obtain ⟨c,hc⟩:∃ c,c=900:=⟨_,rfl⟩;obtain ⟨K,hK⟩:∃ K,K=65536:=⟨_,rfl⟩;have hnn:n*n<=100*100:=zS hn hn;have hG:=qgu (raw:=raw) (R:=n) (C:=n) (st:=k) Oq Oq Oq;have hge:=qj0 (G:=gF raw n k) (i:=i) n;have hl:=(qaD hG hi n (tQ _)).1;have h1:=q6a (K:=66000) (qaE (raw:=raw) (R:=n) (i:=i) hk n) (i:=(rgL (gF raw n k) i n).length) Oq;rw [List.take_length] at h1;generalize q1l (rgL (gF raw n k) i n)=V at *;have hV:V.natAbs < 2 ^ (K+480):=zK (q1y _) (zB Oq Oq);have hVc:V.natAbs < 2 ^ c*2 ^ K:=by
  refine zK hV ?_;rw [<- zD];exact zB Oq Oq
 have hf:=qag (mode:=2) hK hc hVc;have hub:=fR_ub (mode:=2) hK hc hVc;have hup:V<=ofZ (fR 2 V):=by
  rcases fR_up (V:=V) with h | h
  .rw [h] at hf; unfold q0O at hf; omega
  .exact h.2
 rw [qrs hK] at hge;have hlt:fR 2 V < 18446744073709551616:=q3q;generalize fR 2 V=x at *;have hp:(2:Int) ^ K<=ofZ x:=Int.le_trans hge hup;have hpos:=q0R K;have hpn:2 ^ K<=(ofZ x).natAbs:=by
  have e:=q00 K;rw [<- e] at hp;omega
 have hxc:(ofZ x).natAbs < 2 ^ c*2 ^ K:=by
  have e1:2*V.natAbs+2 ^ K < 2 ^ (K+482):=by
   have a1:2 ^ (K+482)=4*2 ^ (K+480):=by rw [show K+482=2+(K+480) by omega,zD]
   have a2:2 ^ K<=2 ^ (K+480):=zB Oq Oq;rw [a1];generalize 2 ^ (K+480)=a at *;generalize 2 ^ K=b at *;omega
  refine tP hub (zK e1 ?_);rw [<- zD];exact zB Oq Oq
 have hf0:=qag (mode:=0) hK hc hxc;have hm:=flt_k (t:=0) hK hlt hf ω (by rw [Nat.sub_zero]; exact hpn);have h2:=(fR_k hK Oq hm hf0).2.2;refine ⟨hf0,ω,λe=>?_⟩;rw [e] at h2;have:=q0F K;simp at h2;omega
def qpz (hn:n<=100) (hk:k < 3):(∀ j i,j < n->i < n->q0O (fR 0 (ofZ ((trF (rgF (gF raw n k) n) j i).getD 0))))/\(∀ j i,j < i->trF (rgF (gF raw n k) n) j i=none)/\(∀ j,j < n->ofZ ((trF (rgF (gF raw n k) n) j j).getD 0)≠0)/\(∀ j,j < n->ofZ (fR 0 (ofZ ((trF (rgF (gF raw n k) n) j j).getD 0)))≠0):=by
 have hd:∀ j,trF (rgF (gF raw n k) n) j j=some (fR 2 (q1l (rgL (gF raw n k) j n))):=λj=>by
  unfold trF rgF;rw [if_pos (tQ j),if_pos rfl]
 refine ⟨λj i hj hi=>?_,λj i hi=>if_neg Oq,λj hj=>?_,λj hj=>?_⟩
 .by_cases e:i=j
  .subst e;rw [hd,zM];exact (q9W hn hk hi).1
  .have hz:q0O (fR 0 (ofZ 0)):=by rw [qaQ]; unfold fR; rw [if_pos rfl]; unfold q0O; simp
   unfold trF
   split
   .unfold rgF;rw [if_neg e];obtain ⟨c,hc⟩:∃ c,c=900:=⟨_,rfl⟩;obtain ⟨K,hK⟩:∃ K,K=65536:=⟨_,rfl⟩;refine qag hK hc (zK (q1y _) ?_);rw [<- zD];exact zB Oq (by have:=qtG (raw:=raw) (R:=n) hk (j:=j) (i:=i); omega)
   .exact hz
 .rw [hd,zM];exact (q9W hn hk hj).2.1
 .rw [hd,zM];exact (q9W hn hk hj).2.2
def qqB {F:Nat->Nat->Option Nat} (h:TOk F n n):TOk (trF F) n n:=by
 refine ⟨h.r,h.c,h.m,λj i x hj hi hx=>?_,λj i x hj hi hx=>?_⟩
 .unfold trF at hx
  split at hx
  .exact h.u j i x hj hi hx
  .cases hx
 .unfold trF at hx
  split at hx
  .exact h.v j i x hj hi hx
  .cases hx
end
end Go.Proofs.YtbjoghfmhgadkaaGreatDoor
namespace Go.E
open Go Go.RowKit
section
variable {J:Nat->Prop} {h:Hp} {a n:Nat} {T:TypeId} {xs:List PV} {v1 v2 v3:Value}
end
end Go.E
namespace Go.Proofs.YtbjoghfmhgadkaaGreatDoor
open Go Go.E Go.Sp
def qcZ (n:Nat):q4E (q29 n) n:=by
 refine ⟨by rw [q62],λx hx=>?_,?_⟩
 .unfold q29 at hx;obtain ⟨k,hk,rfl⟩:=List.mem_map.1 hx;have:=tJ.1 hk;omega
 .unfold q29;unfold List.Nodup;rw [List.pairwise_map];exact List.nodup_range.imp λh q=>h (Int.ofNat_inj.1 q)
def qgg {n:Nat} (hn:n<=1000000):ACt 29 [iv n] (pI (q29 n)):=by
 refine ac0 Tryz.func29 Tryz.ntmps29 [.tmp 2] ?_;refine wk ?_;refine q0B (λi=>i<=n) [0] [] Lk Lk (λi:Nat=>[(4,iv i),(3,.ow 1001 none 0 i)]) (λi=>[(1001,⟨3,none,(q29 i).map λz=>iv z,false⟩)]) (λi=>n-i) 0 (zN _) ?_ ?_
 .refine LeM [(1001,some 5)] rfl rfl ?_;refine Zz ?_
  first | done | rfl | exact ⟨rfl,rfl⟩
 .intro i hi;have l1:=q62 i;have l2:=qcY i
  by_cases hlt:i < n
  .have q:(i:Int) < n:=ω
   refine wk1 (x2 q l1) ?_;refine ⟨i+1,ω,ω,?_⟩;rw [l2];refine LeM [(1001,some 14)] rfl rfl ?_;refine Zz ?_;omega
  .obtain rfl:i=n:=ω
   have q:¬ (i:Int) < i:=ω
   exact wk1 (x2 q l1) trivial
section
variable {raw:List Nat} {r c:Nat} {st:Int} {g:LUt}
end
def qqW {F:Nat->Nat->Option Nat} {j:Nat}:∀ i,tZ (trF F) j i=(tZ F j i).filter λq=>decide (q.1<=j)
 | 0=>rfl
 | i+1=>by
  rw [qlP,qlP,zU,qqW i]
  congr 1
  unfold trF
  by_cases h:i<=j
  .rw [if_pos h];cases F j i <;> simp [h]
  .rw [if_neg h];cases F j i <;> simp [h]
section
variable {raw:List Nat} {n st num den:Int}
def q5N (hr:raw.length<=9223372036854775807) (h1 : -9223372036854775808<=n) (h2:n<=9223372036854775807) (h3 : -9223372036854775808<=st) (h4:st<=9223372036854775807) (h5 : -9223372036854775808<=num) (h6:num<=9223372036854775807) (h7 : -9223372036854775808<=den) (h8:den<=9223372036854775807) :
  ACt 8 [pF raw,iv n,iv st,iv num,iv den] (bv true):=by
 have hN:q06 n 7 < 7:=by unfold q06; omega
 have hk:q06 (q06 st 3:Nat) 4 < 3:=by unfold q06; omega
 have cM:=q3H (a:=n) (n:=7) h1 h2 Oq Oq;generalize q06 n 7=N at *;have cR:=q5z (raw:=raw) (st:=st) (n:=N) hr Oq h3 h4;have hF:=qj1 (raw:=raw) (n:=N) Oq hk;obtain ⟨u1,u2,u3,u4⟩:=qpz (raw:=raw) (n:=N) Oq hk;have cT:=q41 h5 h6 h7 h8;obtain ⟨t1,t2,t3⟩:=qqK (num:=num) (den:=den);generalize thN num den=p at *;generalize thD den=q at *;have cA:=q53;have cI:=qgg (n:=N) Oq;generalize rgF (gF raw N (q06 (q06 st 3:Nat) 4)) N=F at *;have hT:=qqB hF;have hZ:=λj i=>qqW (F:=F) (j:=j) i;generalize trF F=T at *;obtain ⟨f,e1,e2,e3⟩:=qhh (mi:=(tM T N N).2.1) (num:=p) (den:=q) u1 u2 u3 u4 t1 t2;have cF:=q23 hT Oq (qcZ N) t1 t2 t3;rw [e1] at cF;have cK:=q1r (l:=q29 N) (by rw [q62]; omega);clear e1 u1 u2 u3 u4;obtain ⟨a1,a2,a3,a4,a5,a6,a7,a8⟩:=f;simp only at e2 e3;subst e2 e3;unfold pLU at cF;have r1:((0:Int) == 0)=true:=rfl;have r2:((N:Int) == N)=true:=σ
 have hLT:=λj=>q0y (f:=T) (R:=N) j;have hLF:=λj=>q0y (f:=F) (R:=N) j;have eM2:∀ j,(tM T N (j+1)).2.1=(tM T N j).2.1 ++ ((tZ F j N).filter λq=>decide (q.1<=j)).map (λq=>(q.1:Int)):=λj=>by
  rw [<- hZ]
  show (tC T j (tM T N j).2 N).1=_
  rw [q4b]
 have eM3:∀ j,(tM T N (j+1)).2.2=(tM T N j).2.2 ++ ((tZ F j N).filter λq=>decide (q.1<=j)).map (·.2):=λj=>by
  rw [<- hZ]
  show (tC T j (tM T N j).2 N).2=_
  rw [q4b]
 have eM1:∀ j,(tM T N (j+1)).1=(tM T N j).1 ++ [((tM T N (j+1)).2.1.length:Int)]:=λj=>rfl;have hG:=λj (hj:j<=N)=>q3F (f:=F) (R:=N) (C:=N) (j:=j) hj;have hX:=λj k (hj:j < N)=>qbU (f:=F) (R:=N) (C:=N) (j:=j) (k:=k) hj;have hO:=λj=>qiw (f:=F) (R:=N) (j:=j);have hO2:∀ j,tO F N j=(tM F N j).2.1.length:=λj=>rfl;have D1:ACt 36 [.ag [iv N,iv N,pI (tM T N N).1,pI (tM T N N).2.1,pF (tM T N N).2.2],pI (q29 N),iv p,iv q] (.tu [.ag [pI (q29 N),pI a2,pI a3,.sl none [],pF a5,pI a6,pI a7,pF a8],iv N,iv 0]):=cF;clear cF;have hNN:∀ c,c<=N->c*N<=7*7:=λc hc=>zS Oq Oq;unfold pT q3G at *;generalize (tM F N N).1=ms at *;generalize (tM F N N).2.1=mi at *;generalize (tM F N N).2.2=mv at *;refine ac0 Tryz.func8 Tryz.ntmps8 [.tmp 10] ?_;refine wk ?_;refine q0B (λj=>j<=N) [1,3,4,11,12] [11] Lk Lk (λj:Nat=>[(13,iv j)]) (λj=>[(12,⟨26,some 5,[.ag [iv N,iv N,.ow 1001 none 0 (j+1),.ow 1002 none 0 (tM T N j).2.1.length,.ow 1003 none 0 (tM T N j).2.2.length]],false⟩),(1001,⟨3,none,(tM T N j).1.map λz:Int=>iv z,false⟩),(1002,⟨3,none,(tM T N j).2.1.map λz:Int=>iv z,false⟩),(1003,⟨32,none,(tM T N j).2.2.map λz:Nat=>uv z,false⟩)]) (λj=>N-j) 0 (zN _) ?_ ?_
 .refine LeM [(1001,some 28),(1002,none),(1003,none)] rfl rfl ?_;refine Zz ?_;exact ⟨rfl,⟨rfl,rfl⟩,rfl,rfl,rfl⟩
 .intro j hj;have hLj:=hLT j;have hLN:=hLT N;have hn1:=hNN j hj
  by_cases hjn:j < N
  .have hjn':(j:Int) < N:=ω
   have g1:=hG j Oq;have g2:=hG (j+1) Oq;have hOj:=hO j;have hXj:=λk=>hX j k hjn;have hO3:=hO2 j;have hLF1:=hLF j;have hLF2:=hLF (j+1);have hn2:=hNN (j+1) Oq;have hO4:=hO2 (j+1);obtain ⟨o,ho⟩:∃ o,o=tO F N j:=⟨_,rfl⟩;rw [<- ho] at g1 hOj hXj hO3;rw [hOj] at g2 hXj hO4;have eN2:=eM2 j;have eN3:=eM3 j;have eN1:=eM1 j;have hl1:=hLT (j+1);generalize tZ F j N=Z at *;generalize hA:(tM T N j).2.1=A at *;generalize hV:(tM T N j).2.2=V at *;have w1:(j:Int)+1=((j+1:Nat):Int):=rfl;refine wk1 (x2 hjn' g1) ?_;refine q0B (λt=>t<=Z.length) [1,3,4,11,12,13] [11,1001] Lk Lk (λt:Nat=>[(14,iv ((o+t:Nat):Int))]) (λt=>[(12,⟨26,some 5,[.ag [iv N,iv N,.ow 1001 none 0 (j+1),.ow 1002 none 0 (A ++ ((Z.take t).filter λq=>decide (q.1<=j)).map (λq=>(q.1:Int))).length,.ow 1003 none 0 (V ++ ((Z.take t).filter λq=>decide (q.1<=j)).map (·.2)).length]],false⟩),(1002,⟨3,none,(A ++ ((Z.take t).filter λq=>decide (q.1<=j)).map (λq=>(q.1:Int))).map λz:Int=>iv z,false⟩),(1003,⟨32,none,(V ++ ((Z.take t).filter λq=>decide (q.1<=j)).map (·.2)).map λz:Nat=>uv z,false⟩)]) (λt=>Z.length-t) 0 (zN _) ?_ ?_
   .refine LeM [] rfl rfl ?_;refine Zz ?_;exact ⟨⟨rfl,rfl⟩,(List.append_nil _).symm,(List.append_nil _).symm⟩
   .intro t ht;have hzl:((Z.take t).filter λq=>decide (q.1<=j)).length<=Z.length:=zJ (List.length_filter_le _ _) (by rw [List.length_take]; omega);have hs1:(A ++ ((Z.take t).filter λq=>decide (q.1<=j)).map (λq=>(q.1:Int))).length<=200:=by rw [tL,zF]; omega
    have hs2:(V ++ ((Z.take t).filter λq=>decide (q.1<=j)).map (·.2)).length<=200:=by rw [tL,zF]; omega
    by_cases htz:t < Z.length
    .have htz':((o+t:Nat):Int) < ((o+Z.length:Nat):Int):=ω
     obtain ⟨⟨c,x⟩,x1,x2,x3⟩:=hXj (o+t) Oq Oq;rw [show o+t-o=t by omega] at x1;have eT:=q2f x1;dsimp only at x2 x3
     by_cases hcj:c<=j
     .have hcj':(c:Int)<=j:=ω
      have eF:(Z.take (t+1)).filter (λq=>decide (q.1<=j))=(Z.take t).filter (λq=>decide (q.1<=j)) ++ [(c,x)]:=by rw [eT,zU]; simp [hcj]
      refine wk1 (x6 w1 g2 htz' x2 x3 hcj') ?_;refine ⟨t+1,ω,ω,?_⟩;rw [eF];refine LeM [(1002,some 65),(1003,some 74)] rfl rfl ?_;refine Zz ?_;refine ⟨?_,?_,?_⟩
      all_goals first
       | rfl
       | exact ⟨rfl,rfl⟩
       | exact ⟨by rw [zE,List.append_assoc]; rfl,by rw [zE,List.append_assoc]; rfl⟩
       | trace_state
     .have hcj':¬ (c:Int)<=j:=ω
      have eF:(Z.take (t+1)).filter (λq=>decide (q.1<=j))=(Z.take t).filter (λq=>decide (q.1<=j)):=by rw [eT,zU]; simp [hcj]
      refine wk1 (x5 w1 g2 htz' x2 hcj') ?_;refine ⟨t+1,ω,ω,?_⟩;rw [eF];refine LeM [] rfl rfl ?_;refine Zz ?_
      rfl
    .obtain rfl:t=Z.length:=ω
     have htz':¬ ((o+Z.length:Nat):Int) < ((o+Z.length:Nat):Int):=ω
     rw [List.take_length] at hs1 hs2 hzl;refine wk1 (x3 w1 g2 htz') ?_;refine ⟨j+1,ω,ω,?_⟩;rw [eN1,eN2,eN3];refine LeM [(1001,some 83)] rfl rfl ?_;refine Zz ?_;exact hLj.1
  .obtain rfl:N=j:=ω
   have hjn':¬ (N:Int) < N:=ω
   have hno:∀ c,1001<=c->c < 1100->∀ i,q0Z [] i=some c->q0o (hpG [] Go.E.h0) (hpM [(12,⟨26,some 5,[.ag [iv N,iv N,pI (tM T N N).1,pI (tM T N N).2.1,pF (tM T N N).2.2]],false⟩)] []) i=none:=λc hc hc2 i hi=>by
    have e:i=c:=zH.inj hi;subst e;rw [q1G λhw=>by have:=hw.1; omega];simp only [hpM,hpV];rw [if_neg ω]
   refine q1h (LeG [] (L:=[]) (B:=Go.E.h0) (xs:=[(1,iv N),(3,iv num),(4,iv den),(12,.pt 12 0 0),(13,iv N)]) (kv:=[]) (bs:=[(12,⟨26,some 5,[.ag [iv N,iv N,pI (tM T N N).1,pI (tM T N N).2.1,pF (tM T N N).2.2]],false⟩)]) (kb:=[]) rfl (λi hi=>hi.elim) BOk.h0 (λi hi=>(hi rfl).elim) (λi hi hm=>(hi rfl).elim) (λp hp=>by cases hp) (by simp [loN,win]) (by simp [q2e,q0Z,win,Go.E.h0]) ?_) ?_
   .try refine Zz ?_
    refine ⟨q1A (T:=3) rfl clI (hno 1001 Oq Oq) ?_,q1A (T:=3) rfl clI (hno 1002 Oq Oq) ?_,q1A (T:=32) rfl clU (hno 1003 Oq Oq) ?_⟩
    .rw [zI]; exact zC (by rw [zF,hLj.1]; omega)
    .rw [zI]; exact zC (by rw [zF]; omega)
    .rw [zI]; exact zC (by rw [zF]; omega)
   exact wk1 (x3 hjn' r1 r2) trivial
end
open Go.ChangeShapes Go.WideShapes Go.ChangeAt Go.WideMaps Go.WideElems Go.RowKit
set_option maxRecDepth 100000
def qb8 (os:Os) (started:os.Started) (H:Type) (enc:TypeId × Value->H) :
  ReturnsInHanded {} Tryz.checked os 8 .any (λw args=>(Rows.luTriangularSpec.pre enc Tryz.prog Tryz.f8 [] false w args/\laidMetH Tryz.prog q5b w)/\sizedMet enc Tryz.prog Tryz.f8 (OpenSpec.ofChange Rows.luTriangularSpec) false w args)
   (Rows.luTriangularSpec.post enc Tryz.prog Tryz.f8 false true false false):=by
 refine returnsInHanded_of_change_and (C:=Tryz.checked) (X:=λw _=>laidMetH Tryz.prog q5b w) (λ_ _ _ hh h=>h.of_heap hh) own started κ Tryz.func8
  (ChangeSpec.witness_shaped (enc:=enc) (C:=Tryz.checked) (os:=os) (X:=λw _=>laidMetH Tryz.prog q5b w) false (World.doorLaid Tryz.prog 400 os) #[.slice none 0 0,.int .i64 0,.int .i64 0,.int .i64 0,.int .i64 0] 8 rfl (World.shaped_of_RefB κ κ) κ κ κ (q7B os _)) ?_
 intro W base args ds gs before hval0 hW _ _ hL _;have hval:∀ (j:Nat) t v,Tryz.f8.params[j]?=some t->args[j]?=some v->Value.okWide Tryz.prog W .any base t v:=hval0;have hW':DataW.Whole enc Tryz.prog Tryz.f8.params.toList Rows.luTriangularSpec.vars false W args.toList ds gs before:=hW;obtain ⟨p,q,hA0,hV,rfl,_,_⟩:=hW;have hA:DataW.TrodAll enc Tryz.prog W 0 (λ_=>true) true [22,3,3,3,3] args.toList ds p:=hA0;obtain ⟨v0,s0,d0,e0,p0,q0,ha,rfl,rfl,h0,r0⟩:=trodAll_cons hA;obtain ⟨v1,s1,d1,e1,p1,q1,rfl,rfl,rfl,h1,r1⟩:=trodAll_cons r0;obtain ⟨v2,s2,d2,e2,p2,q2,rfl,rfl,rfl,h2,r2⟩:=trodAll_cons r1;obtain ⟨v3,s3,d3,e3,p3,q3,rfl,rfl,rfl,h3,r3⟩:=trodAll_cons r2;obtain ⟨v4,s4,d4,e4,p4,q4,rfl,rfl,rfl,h4,r4⟩:=trodAll_cons r3;obtain ⟨rfl,rfl,rfl⟩:=trodAll_nil r4;obtain rfl:args=#[v0,v1,v2,v3,v4]:=by cases args; simp_all
 obtain ⟨rfl,rfl⟩:=trodVars_none hV;obtain ⟨A0,n0,c0,y0,rfl,hn0,hi0⟩:=q6s (hval 0 22 _ rfl rfl) h0;obtain ⟨y1,rfl,_,_,g1⟩:=open_int qcJ (hval 1 3 _ rfl rfl) h1;simp only [Lit.wf,zA,decide_eq_true_eq] at g1;obtain ⟨y2,rfl,_,_,g2⟩:=open_int qcJ (hval 2 3 _ rfl rfl) h2;simp only [Lit.wf,zA,decide_eq_true_eq] at g2;obtain ⟨y3,rfl,_,_,g3⟩:=open_int qcJ (hval 3 3 _ rfl rfl) h3;simp only [Lit.wf,zA,decide_eq_true_eq] at g3;obtain ⟨y4,rfl,_,_,g4⟩:=open_int qcJ (hval 4 3 _ rfl rfl) h4;simp only [Lit.wf,zA,decide_eq_true_eq] at g4;have hc:=q5N (raw:=y0) (by rw [hi0.sc_len]; exact hn0) g1.1 g1.2 g2.1 g2.2 g3.1 g3.2 g4.1 g4.2;refine (hc.2 _ W [_,_,_,_,_] (q8l hL) (Fr.triv _) (q3C (qlp hi0) (q3C q2j (q3C q2j (q3C q2j (q3C q2j qlo)))))).mono λe W' ⟨v,he,hx,hr⟩=>?_;rw [q8u hr] at he;subst he;exact ⟨_,rfl,q6q rfl hW' κ rfl rfl hx⟩
def qsT:(Rows.luTriangularRow.inPlace == Tryz.pinned.checked.prog.inPlace 8)=true:=κ
def qsS:(Rows.luTriangularRow.unfollowed == Tryz.pinned.checked.prog.unfollowed 8)=true:=κ
def qsR:(Rows.luTriangularRow.recurses == Tryz.pinned.checked.prog.recurses 8)=true:=κ
def qsQ:(Rows.luTriangularRow.named == Tryz.pinned.checked.prog.varsNamed 8)=true:=κ
def qsP:joinedFacts Tryz.pinned.checked.prog 8 Tryz.f8 Rows.luTriangularSpec Rows.luTriangularRow=true:=by
 unfold joinedFacts;rw [qsT,qsS,qsR,qsQ]
 kernel_rfl
def q3g:Rows.LuTriangularSaid :=
 OpenClaim.holds_of_wide 8 Tryz.f8 rfl rfl rfl rfl rfl rfl rfl ⟨rfl,rfl,rfl,rfl,rfl⟩ rfl rfl rfl rfl rfl κ Tryz.func8 qsP
  (of_decide_eq_true κ) (by unfold Func.isWrapper; first | (rw [if_pos (by decide +kernel)]; kernel_rfl) | (rw [if_neg (by decide +kernel)]; exact ⟨rfl,rfl⟩))
  (λos started H enc _=>qb8 os started H enc)
set_option maxRecDepth 100000
def qsY:OpenClaim.wfByText (OpenSpec.ofChange Rows.luTriangularSpec) Rows.luTriangularRow=true:=κ
def qsX : Tryz.pinned.checked.prog.mainIs = some (true, ("4ea1ea1af5882540d6044f003e91dc42835ade560e3fe663dbddcd91269f8aa1" : String).toList) := by kernel_rfl
def qsW:false=Tryz.pinned.checked.prog.looks []:=κ
def qsV:false=Rows.luTriangularRow.goesBy Tryz.pinned.checked.prog:=κ
def qsU : Tryz.prog.funcNamed "sparse/sparselaw26.LuTriangular" = some 8 := by kernel_rfl
theorem lut_card:Rows.LuTriangularCardSaid :=
 Claim7.holds_tied_plain_at .later [] [.data] true (true, "4ea1ea1af5882540d6044f003e91dc42835ade560e3fe663dbddcd91269f8aa1") false
  q3g (λ_ h=>by cases h) qsY (λ_ h=>by cases h) luTriangular_row_tie rfl ⟨rfl,rfl⟩ qsX rfl
  (λf fn hf hfn=>by
   obtain rfl:f=8:=zH.inj (qsU.symm.trans hf) |>.symm;obtain rfl:fn=Tryz.f8:=(zH.inj (Tryz.func8.symm.trans hfn)).symm;exact ⟨qsW,λj t ht=>by
    have hm:t ∈ [22,3,3,3,3]:=by simpa using zL ht
    have hall:([22,3,3,3,3].all λu=>!Tryz.prog.wantsStandIn u)=true:=κ
    exact (show Tryz.prog.wantsStandIn t=false by simpa using zZ.1 hall t hm)⟩)
  qsV
#print axioms lut_card

end Go.Proofs.YtbjoghfmhgadkaaGreatDoor
