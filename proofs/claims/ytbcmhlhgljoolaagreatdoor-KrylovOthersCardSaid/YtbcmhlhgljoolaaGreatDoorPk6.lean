/- Krylov. 6/6. -/
import Derived.SevenTiedAt
import Derived.Test.YtbcmhlhgljoolaaGreatDoorCards
import Derived.Test.YtbcmhlhgljoolaaGreatDoorTie
import Derived.Test.YtbcmhlhgljoolaaGreatDoorPk5
set_option linter.unusedSimpArgs false
set_option linter.unusedVariables false
set_option maxRecDepth 20000
set_option maxHeartbeats 2000000
set_option linter.defProp false
namespace Go.Proofs.YtbcmhlhgljoolaaGreatDoor
open Go Go.E Go.Sp Go.ChangeShapes Go.WideShapes Go.ChangeAt Go.WideMaps Go.WideElems Go.RowKit
set_option maxRecDepth 100000
abbrev q64 : List (String × DataW Unit) := [("math/bits.deBruijn32tab", Rows.laid_math_bits_deBruijn32tab)]
def own:ownKnob Tryz.prog.godebug=none:=by kernel_rfl
def q7k (os:Os) (args:Array Value):laidMetH Tryz.prog q64 ((World.doorLaid Tryz.prog 400 os).forCall (fun _ _=>0) ⟨#[],args,[]⟩).memory :=
 laidMetH_of_parts3 (fuel:=8) (laidMet_of_run' 8 (by kernel_rfl) (by kernel_rfl)) (by kernel_rfl) (by kernel_rfl)
def undW:Tryz.prog.underlying 22=some (.slice 29):=by kernel_rfl
def cellU:Tryz.prog.cellsOf 29=1:=by kernel_rfl
def q5c {H:Type} {enc:TypeId × Value→H} {W:World} {v:Value} {d:DataW H} {p:List MemPlace} {b0:Nat} (hv:Value.okWide Tryz.prog W .any b0 22 v) (h:DataW.Trod enc Tryz.prog W 0 (fun _=>true) true 22 v d p) :
  ∃ A n c raw,v=.slice A n c∧n≤9223372036854775807∧In (fSc q2T raw) (fun _=>True) (.slice A n c) W:=by
 obtain ⟨A,n,c,rfl⟩:=okWide_slice undW hv;obtain ⟨fuel,hf⟩:=h
 rcases open_ints undW qmK cellU hf with ⟨h1,_⟩ | ⟨a,len,cap,zs,h1,_,hl,hm,hz,_,hc,hw⟩
 ·injection h1 with h1 _
  injection h1 with h1 h2 h3
  subst h1; subst h2; subst h3;exact ⟨_,_,_,[],rfl,by omega,In.sc_nil⟩
 ·injection h1 with h1 _
  injection h1 with h1 h2 h3
  subst h1; subst h2; subst h3;have hz':zs.length=c:=by simpa using hz
  refine ⟨_,_,_,(zs.take n).map Int.toNat,rfl,by unfold maxLen at hm; omega,some a,n,c,rfl,hl,by simp; omega,fun _=>⟨a,rfl,trivial,fun j u hu=>?_⟩⟩;rw [List.getElem?_map,List.getElem?_map,List.getElem?_take] at hu
  split at hu
  ·rename_i hj;have hjz:j < zs.length:=by omega
   rw [List.getElem?_eq_getElem hjz] at hu;have h0:=hc j hjz;rw [List.getD_eq_getElem?_getD,List.getElem?_eq_getElem hjz] at h0;have h1:=hw zs[j] (List.getElem_mem _);simp only [Lit.wf,Bool.and_eq_true,decide_eq_true_eq] at h1;have h2:(0:Int)≤zs[j]:=h1.1;rw [h0,← Option.some.inj hu]
   show some (Value.int .u64 zs[j])=some (Value.int .u64 ((zs[j].toNat:Nat):Int))
   rw [Int.toNat_of_nonneg h2]
  ·cases hu
section
variable {w:World} {D:Nat→Prop} {ρ:Nat→Option Nat} {h:Hp} {x:PV} {l:List PV} {a:Value} {vs:List Value}
def qmh:RdL w D [] ρ h []:=by unfold RdL; rfl
def q3V (h1:Rd w D x ρ h a) (h2:RdL w D l ρ h vs):RdL w D (x :: l) ρ h (a :: vs):=by
 unfold RdL;exact ⟨_,_,rfl,h1,h2⟩
end
set_option maxRecDepth 100000
def qcz (os:Os) (started:os.Started) (H:Type) (enc:TypeId × Value→H) :
  ReturnsInHanded {} Tryz.checked os 5 .any (fun w args=>(Rows.krylovGradientsSpec.pre enc Tryz.prog Tryz.f5 [] false w args∧laidMetH Tryz.prog q64 w)∧sizedMet enc Tryz.prog Tryz.f5 (OpenSpec.ofChange Rows.krylovGradientsSpec) false w args)
   (Rows.krylovGradientsSpec.post enc Tryz.prog Tryz.f5 false true false false):=by
 refine returnsInHanded_of_change_and (C:=Tryz.checked) (X:=fun w _=>laidMetH Tryz.prog q64 w) (fun _ _ _ hh h=>h.of_heap hh) own started (by kernel_rfl) Tryz.func5
  (ChangeSpec.witness_shaped (enc:=enc) (C:=Tryz.checked) (os:=os) (X:=fun w _=>laidMetH Tryz.prog q64 w) false (World.doorLaid Tryz.prog 400 os) #[.slice none 0 0,.int .i64 0,.int .i64 0,.bool false,.int .i64 0] 8 rfl (World.shaped_of_RefB (by kernel_rfl) (by kernel_rfl)) (by kernel_rfl) (by kernel_rfl) (by kernel_rfl) (q7k os _)) ?_
 intro W base args ds gs before hval0 hW _ _ hL _;have hval:∀ (j:Nat) t v,Tryz.f5.params[j]?=some t→args[j]?=some v→Value.okWide Tryz.prog W .any base t v:=hval0;have hW':DataW.Whole enc Tryz.prog Tryz.f5.params.toList Rows.krylovGradientsSpec.vars false W args.toList ds gs before:=hW;obtain ⟨p,q,hA0,hV,rfl,_,_⟩:=hW;have hA:DataW.TrodAll enc Tryz.prog W 0 (fun _=>true) true [22,3,3,4,3] args.toList ds p:=hA0;obtain ⟨v0,s0,d0,e0,p0,q0,ha,rfl,rfl,h0,r0⟩:=trodAll_cons hA;obtain ⟨v1,s1,d1,e1,p1,q1,rfl,rfl,rfl,h1,r1⟩:=trodAll_cons r0;obtain ⟨v2,s2,d2,e2,p2,q2,rfl,rfl,rfl,h2,r2⟩:=trodAll_cons r1;obtain ⟨v3,s3,d3,e3,p3,q3,rfl,rfl,rfl,h3,r3⟩:=trodAll_cons r2;obtain ⟨v4,s4,d4,e4,p4,q4,rfl,rfl,rfl,h4,r4⟩:=trodAll_cons r3;obtain ⟨rfl,rfl,rfl⟩:=trodAll_nil r4;obtain rfl:args=#[v0,v1,v2,v3,v4]:=by cases args; simp_all
 obtain ⟨rfl,rfl⟩:=trodVars_none hV;obtain ⟨A0,n0,c0,y0,rfl,hn0,hi0⟩:=q5c (hval 0 22 _ rfl rfl) h0;obtain ⟨y1,rfl,_,_,g1⟩:=open_int qdm (hval 1 3 _ rfl rfl) h1;simp only [Lit.wf,Bool.and_eq_true,decide_eq_true_eq] at g1;obtain ⟨y2,rfl,_,_,g2⟩:=open_int qdm (hval 2 3 _ rfl rfl) h2;simp only [Lit.wf,Bool.and_eq_true,decide_eq_true_eq] at g2;obtain ⟨y3,rfl,_,_⟩:=open_bool qqW (hval 3 4 _ rfl rfl) h3;obtain ⟨y4,rfl,_,_,g4⟩:=open_int qdm (hval 4 3 _ rfl rfl) h4;simp only [Lit.wf,Bool.and_eq_true,decide_eq_true_eq] at g4;have hc:=q4J (raw:=y0) (w:=y3) (by rw [hi0.sc_len]; exact hn0) g1.1 g1.2 g2.1 g2.2 g4.1 g4.2;refine (hc.2 _ W [_,_,_,_,_] (q99 hL) (Fr.triv _) (q3V (qcg hi0) (q3V q2g (q3V q2g (q3V q2g (q3V q2g qmh)))))).mono fun e W' ⟨v,he,hx,hr⟩=>?_;rw [q9o hr] at he;subst he;exact ⟨_,rfl,q79 rfl hW' (by kernel_rfl) rfl rfl hx⟩
def q3A:Rows.KrylovGradientsSaid :=
 OpenClaim.holds_of_wide 5 Tryz.f5 rfl rfl rfl rfl rfl rfl rfl ⟨rfl,rfl,rfl,rfl,rfl⟩ rfl rfl rfl rfl rfl (by kernel_rfl) Tryz.func5 (by kernel_rfl)
  (of_decide_eq_true (by kernel_rfl)) (by unfold Func.isWrapper; first | (rw [if_pos (by decide +kernel)]; kernel_rfl) | (rw [if_neg (by decide +kernel)]; exact ⟨rfl,rfl⟩))
  (fun os started H enc _=>qcz os started H enc)
set_option maxRecDepth 100000
theorem kgr_card:Rows.KrylovGradientsCardSaid :=
 Claim7.holds_tied_plain_at .later [] [.data] true (true, "1152ba08cf519ea60d813af4e373f6d249d3327580b00ea5080b605239196640") false
  q3A (fun _ h=>by cases h) (by kernel_rfl) (fun _ h=>by cases h) krylovGradients_row_tie rfl ⟨rfl,rfl⟩ (by kernel_rfl) rfl
  (fun f fn hf hfn=>by
   obtain rfl : f = 5 := Option.some.inj ((show Tryz.prog.funcNamed "sparse/sparselaw36.KrylovGradients" = some 5 by kernel_rfl).symm.trans hf) |>.symm;obtain rfl:fn=Tryz.f5:=(Option.some.inj (Tryz.func5.symm.trans hfn)).symm;exact ⟨by kernel_rfl,fun j t ht=>by
    have hm:t ∈ [22,3,3,4,3]:=by simpa using Array.mem_of_getElem? ht
    have hall:([22,3,3,4,3].all fun u=>!Tryz.prog.wantsStandIn u)=true:=by kernel_rfl
    exact (show Tryz.prog.wantsStandIn t=false by simpa using List.all_eq_true.1 hall t hm)⟩)
  (by kernel_rfl)
#print axioms kgr_card
set_option maxRecDepth 100000
def qcy (os:Os) (started:os.Started) (H:Type) (enc:TypeId × Value→H) :
  ReturnsInHanded {} Tryz.checked os 6 .any (fun w args=>(Rows.krylovOthersSpec.pre enc Tryz.prog Tryz.f6 [] false w args∧laidMetH Tryz.prog q64 w)∧sizedMet enc Tryz.prog Tryz.f6 (OpenSpec.ofChange Rows.krylovOthersSpec) false w args)
   (Rows.krylovOthersSpec.post enc Tryz.prog Tryz.f6 false true false false):=by
 refine returnsInHanded_of_change_and (C:=Tryz.checked) (X:=fun w _=>laidMetH Tryz.prog q64 w) (fun _ _ _ hh h=>h.of_heap hh) own started (by kernel_rfl) Tryz.func6
  (ChangeSpec.witness_shaped (enc:=enc) (C:=Tryz.checked) (os:=os) (X:=fun w _=>laidMetH Tryz.prog q64 w) false (World.doorLaid Tryz.prog 400 os) #[.slice none 0 0,.int .i64 0,.int .i64 0,.slice none 0 0] 8 rfl (World.shaped_of_RefB (by kernel_rfl) (by kernel_rfl)) (by kernel_rfl) (by kernel_rfl) (by kernel_rfl) (q7k os _)) ?_
 intro W base args ds gs before hval0 hW _ _ hL _;have hval:∀ (j:Nat) t v,Tryz.f6.params[j]?=some t→args[j]?=some v→Value.okWide Tryz.prog W .any base t v:=hval0;have hW':DataW.Whole enc Tryz.prog Tryz.f6.params.toList Rows.krylovOthersSpec.vars false W args.toList ds gs before:=hW;obtain ⟨p,q,hA0,hV,rfl,_,_⟩:=hW;have hA:DataW.TrodAll enc Tryz.prog W 0 (fun _=>true) true [22,3,3,22] args.toList ds p:=hA0;obtain ⟨v0,s0,d0,e0,p0,q0,ha,rfl,rfl,h0,r0⟩:=trodAll_cons hA;obtain ⟨v1,s1,d1,e1,p1,q1,rfl,rfl,rfl,h1,r1⟩:=trodAll_cons r0;obtain ⟨v2,s2,d2,e2,p2,q2,rfl,rfl,rfl,h2,r2⟩:=trodAll_cons r1;obtain ⟨v3,s3,d3,e3,p3,q3,rfl,rfl,rfl,h3,r3⟩:=trodAll_cons r2;obtain ⟨rfl,rfl,rfl⟩:=trodAll_nil r3;obtain rfl:args=#[v0,v1,v2,v3]:=by cases args; simp_all
 obtain ⟨rfl,rfl⟩:=trodVars_none hV;obtain ⟨A0,n0,c0,y0,rfl,hn0,hi0⟩:=q5c (hval 0 22 _ rfl rfl) h0;obtain ⟨y1,rfl,_,_,g1⟩:=open_int qdm (hval 1 3 _ rfl rfl) h1;simp only [Lit.wf,Bool.and_eq_true,decide_eq_true_eq] at g1;obtain ⟨y2,rfl,_,_,g2⟩:=open_int qdm (hval 2 3 _ rfl rfl) h2;simp only [Lit.wf,Bool.and_eq_true,decide_eq_true_eq] at g2;obtain ⟨A3,n3,c3,y3,rfl,hn3,hi3⟩:=q5c (hval 3 22 _ rfl rfl) h3;have hc:=q6H (raw:=y0) (other:=y3) (by rw [hi0.sc_len]; exact hn0) (by rw [hi3.sc_len]; exact hn3) g1.1 g1.2 g2.1 g2.2;refine (hc.2 _ W [_,_,_,_] (q99 hL) (Fr.triv _) (q3V (qcg hi0) (q3V q2g (q3V q2g (q3V (qcg hi3) qmh))))).mono fun e W' ⟨v,he,hx,hr⟩=>?_;rw [q9o hr] at he;subst he;exact ⟨_,rfl,q79 rfl hW' (by kernel_rfl) rfl rfl hx⟩
def q4I:Rows.KrylovOthersSaid :=
 OpenClaim.holds_of_wide 6 Tryz.f6 rfl rfl rfl rfl rfl rfl rfl ⟨rfl,rfl,rfl,rfl,rfl⟩ rfl rfl rfl rfl rfl (by kernel_rfl) Tryz.func6 (by kernel_rfl)
  (of_decide_eq_true (by kernel_rfl)) (by unfold Func.isWrapper; first | (rw [if_pos (by decide +kernel)]; kernel_rfl) | (rw [if_neg (by decide +kernel)]; exact ⟨rfl,rfl⟩))
  (fun os started H enc _=>qcy os started H enc)
set_option maxRecDepth 100000
theorem kot_card:Rows.KrylovOthersCardSaid :=
 Claim7.holds_tied_plain_at .later [] [.data] true (true, "1152ba08cf519ea60d813af4e373f6d249d3327580b00ea5080b605239196640") false
  q4I (fun _ h=>by cases h) (by kernel_rfl) (fun _ h=>by cases h) krylovOthers_row_tie rfl ⟨rfl,rfl⟩ (by kernel_rfl) rfl
  (fun f fn hf hfn=>by
   obtain rfl : f = 6 := Option.some.inj ((show Tryz.prog.funcNamed "sparse/sparselaw36.KrylovOthers" = some 6 by kernel_rfl).symm.trans hf) |>.symm;obtain rfl:fn=Tryz.f6:=(Option.some.inj (Tryz.func6.symm.trans hfn)).symm;exact ⟨by kernel_rfl,fun j t ht=>by
    have hm:t ∈ [22,3,3,22]:=by simpa using Array.mem_of_getElem? ht
    have hall:([22,3,3,22].all fun u=>!Tryz.prog.wantsStandIn u)=true:=by kernel_rfl
    exact (show Tryz.prog.wantsStandIn t=false by simpa using List.all_eq_true.1 hall t hm)⟩)
  (by kernel_rfl)
#print axioms kot_card
section
variable {raw:List Nat} {n r c long steps:Int} {value:Nat}
def q5Q (hr:raw.length≤9223372036854775807) (h1 : -9223372036854775808≤n) (h2:n≤9223372036854775807) (h3 : -9223372036854775808≤r) (h4:r≤9223372036854775807) (h5 : -9223372036854775808≤c) (h6:c≤9223372036854775807) (h7 : -9223372036854775808≤long) (h8:long≤9223372036854775807) (h9 : -9223372036854775808≤steps) (h10:steps≤9223372036854775807) (hv:value < 18446744073709551616) :
  ACt 7 [pF raw,iv n,iv r,iv c,iv long,iv steps,uv value] (bv true):=by
 have cA:=q6U;have cP:=q9w (w:=true) (st:=0) hr h1 h2 Oq Oq;have hN:q07 n 5 < 5:=by unfold q07; omega
 generalize q07 n 5=N at *;have hF:=q9u (raw:=raw) (N:=N) (st:=0) (w:=true) Oq;generalize qcl raw N 0=f at *;generalize qpl raw N 0 true=F at *;generalize q8G raw 30 (q07 0 4) N=b0 at *;have cR:=q30 (a:=r) (n:=4) h3 h4 Oq Oq;have cC:=q30 (a:=c) (n:=4) h5 h6 Oq Oq;have cL:=q30 (a:=long) (n:=5) h7 h8 Oq Oq;have hR:q07 r 4 < 4:=by unfold q07; omega
 have hC:q07 c 4 < 4:=by unfold q07; omega
 have hL:q07 long 5 < 5:=by unfold q07; omega
 generalize q07 r 4=R at *;generalize q07 c 4=C at *;generalize q07 long 5=L at *;have hCR:C*R≤5*5:=Nat.mul_le_mul Oq Oq;have cG:=q3h (raw:=raw) (st:=0) (R:=R) (C:=C) hr Oq Oq Oq Oq;have hG:=qig (raw:=raw) (R:=R) (C:=C) (st:=q07 0 4) Oq Oq Oq;generalize gF raw R (q07 0 4)=g at *;have cD:=q6Q (raw:=raw) (n:=R) (st:=0) hr Oq Oq Oq;have hD:=q9v (raw:=raw) (N:=R) (st:=0) Oq;rw [show dfF (gF raw R (q07 (q07 0 3:Nat) 4)) R=qcl raw R 0 from rfl] at cD;generalize qcl raw R 0=d at *;have cV:=q6b (raw:=raw) (k:=3) (st:=0) (n:=L) hr Oq Oq Oq Oq Oq;have hb:=q5l (raw:=raw) (k:=3) (st:=q07 0 4) (n:=L);have hbl:=q5X (raw:=raw) (k:=3) (st:=q07 0 4) (n:=L);generalize q8G raw 3 (q07 0 4) L=b at *;have gr:=fun (R C:Nat) (g:Nat→Nat→Option Nat) (b:List Nat) (s:Int) (hm:TOk g R C) (hR:R≤20)=>q7c (b:=b) (steps:=s) hm hR hF;unfold pT q2M q1L at *;refine ac0 Tryz.func7 Tryz.ntmps7 [.tmp 14] ?_;refine wk ?_;refine qqE fun K hK=>?_;have fin:∀ (R C:Nat) (g:Nat→Nat→Option Nat) (s:Nat→PV) (h:Hp),TOk g R C→R≤4→Le (fun _=>False) s h (stM [(0,pF raw),(4,iv long),(5,iv steps),(6,uv (value:Nat)),(16,.pt 16 0 0),(18,.pt 18 0 0)] []) (hpM [(16,⟨27,some 4,[.ag [pI F.1,pI F.2.1,pI F.2.2.1,pF F.2.2.2]],false⟩),(18,⟨52,some 5,[.ag [iv R,iv C,pI (tM g R C).1,pI (tM g R C).2.1,pF (tM g R C).2.2]],false⟩)] [])→K s h:=by
  clear cP cG cD hG hD;intro R C g s h hm hR hl;refine hK _ _ (q3J hl ?_); clear hK K hl;have gr:=fun (b:List Nat) (s:Int)=>gr R C g b s hm Oq;refine qcV fun K hK=>?_;refine Zz ?_;refine jc ?_
  try refine Zz ?_
  refine q0N cL ?_
  try refine Zz ?_
  refine jmF cV ?_ ?_
  ·exact Ow
  try refine Zz ?_
  refine hK _ _ ?_; clear hK K;refine wk ?_;refine qqE fun K hK=>?_;have q7h:∀ (X:List Nat) (s:Nat→PV) (h:Hp),(∀ v ∈ X,v < 18446744073709551616)→X.length≤10→Le (fun _=>False) s h (stM [(5,iv steps),(16,.pt 16 0 0),(18,.pt 18 0 0),(19,pF X)] []) (hpM [(16,⟨27,some 4,[.ag [pI F.1,pI F.2.1,pI F.2.2.1,pF F.2.2.2]],false⟩),(18,⟨52,some 5,[.ag [iv R,iv C,pI (tM g R C).1,pI (tM g R C).2.1,pF (tM g R C).2.2]],false⟩)] [])→K s h:=by
   clear cL cV hb hbl;intro X s h hX hXl hl;refine hK _ _ (q3J hl ?_); clear hK K hl;have gr:=fun (s:Int)=>gr X s hX Oq
   by_cases q1:steps > 2
   ·by_cases q2:steps≤64
    ·obtain ⟨x,l,e,⟨hl1,hl2⟩,C1,C2⟩:=gr 2;have C3:=q0V hl1;have C4:=q0V hl2;clear gr;exact wk1 (x2 q1 q2) trivial
    ·obtain ⟨x,l,e,⟨hl1,hl2⟩,C1,C2⟩:=gr steps;have C3:=q0V hl1;have C4:=q0V hl2;clear gr;exact wk1 (x2 q1 q2) trivial
   ·obtain ⟨x,l,e,⟨hl1,hl2⟩,C1,C2⟩:=gr steps;have C3:=q0V hl1;have C4:=q0V hl2;clear gr;exact wk1 q1 trivial
  by_cases q1:(L:Int) > 0
  ·cases q2:(long.tmod 3 == 0)
   ·refine wk1 (x2 q1 q2) ?_;refine q7h b _ _ (fun v hv=>(hb v hv).1) Oq (LeM [] rfl rfl ?_)
    try refine Zz ?_
    exact q1y (T:=30) rfl clU rfl (by rw [List.length_map]; omega)
   ·refine wk1 (x2 q1 q2) ?_;refine q7h (b.set 0 value) _ _ (fun v hv=>?_) (by rw [List.length_set]; omega) (LeM [] rfl rfl ?_)
    ·rcases List.mem_or_eq_of_mem_set hv with h | rfl
     ·exact (hb v h).1
     ·assumption
    try refine Zz ?_
    exact q1y (T:=30) (by rw [List.map_set]; rfl) clU rfl (by rw [List.length_map,List.length_set]; omega)
  ·refine wk1 q1 ?_;refine q7h b _ _ (fun v hv=>(hb v hv).1) Oq (LeM [] rfl rfl ?_)
   try refine Zz ?_
   exact q1y (T:=30) rfl clU rfl (by rw [List.length_map]; omega)
 cases q1:(r.tmod 2 == 0)
 ·refine wk1 q1 ?_;refine fin _ _ _ _ _ hG Oq (LeM [] rfl rfl ?_)
  try simp -implicitDefEqProofs (disch:=omega) only [go_sem,Nat.reduceEqDiff,Nat.reduceAdd,↓reduceIte]
 ·refine wk1 q1 ?_;refine fin _ _ _ _ _ hD Oq (LeM [] rfl rfl ?_)
  try simp -implicitDefEqProofs (disch:=omega) only [go_sem,Nat.reduceEqDiff,Nat.reduceAdd,↓reduceIte]
end
set_option maxRecDepth 100000
def qcx (os:Os) (started:os.Started) (H:Type) (enc:TypeId × Value→H) :
  ReturnsInHanded {} Tryz.checked os 7 .any (fun w args=>(Rows.krylovRefusesSpec.pre enc Tryz.prog Tryz.f7 [] false w args∧laidMetH Tryz.prog q64 w)∧sizedMet enc Tryz.prog Tryz.f7 (OpenSpec.ofChange Rows.krylovRefusesSpec) false w args)
   (Rows.krylovRefusesSpec.post enc Tryz.prog Tryz.f7 false true false false):=by
 refine returnsInHanded_of_change_and (C:=Tryz.checked) (X:=fun w _=>laidMetH Tryz.prog q64 w) (fun _ _ _ hh h=>h.of_heap hh) own started (by kernel_rfl) Tryz.func7
  (ChangeSpec.witness_shaped (enc:=enc) (C:=Tryz.checked) (os:=os) (X:=fun w _=>laidMetH Tryz.prog q64 w) false (World.doorLaid Tryz.prog 400 os) #[.slice none 0 0,.int .i64 0,.int .i64 0,.int .i64 0,.int .i64 0,.int .i64 0,.int .u64 0] 8 rfl (World.shaped_of_RefB (by kernel_rfl) (by kernel_rfl)) (by kernel_rfl) (by kernel_rfl) (by kernel_rfl) (q7k os _)) ?_
 intro W base args ds gs before hval0 hW _ _ hL _;have hval:∀ (j:Nat) t v,Tryz.f7.params[j]?=some t→args[j]?=some v→Value.okWide Tryz.prog W .any base t v:=hval0;have hW':DataW.Whole enc Tryz.prog Tryz.f7.params.toList Rows.krylovRefusesSpec.vars false W args.toList ds gs before:=hW;obtain ⟨p,q,hA0,hV,rfl,_,_⟩:=hW;have hA:DataW.TrodAll enc Tryz.prog W 0 (fun _=>true) true [22,3,3,3,3,3,29] args.toList ds p:=hA0;obtain ⟨v0,s0,d0,e0,p0,q0,ha,rfl,rfl,h0,r0⟩:=trodAll_cons hA;obtain ⟨v1,s1,d1,e1,p1,q1,rfl,rfl,rfl,h1,r1⟩:=trodAll_cons r0;obtain ⟨v2,s2,d2,e2,p2,q2,rfl,rfl,rfl,h2,r2⟩:=trodAll_cons r1;obtain ⟨v3,s3,d3,e3,p3,q3,rfl,rfl,rfl,h3,r3⟩:=trodAll_cons r2;obtain ⟨v4,s4,d4,e4,p4,q4,rfl,rfl,rfl,h4,r4⟩:=trodAll_cons r3;obtain ⟨v5,s5,d5,e5,p5,q5,rfl,rfl,rfl,h5,r5⟩:=trodAll_cons r4;obtain ⟨v6,s6,d6,e6,p6,q6,rfl,rfl,rfl,h6,r6⟩:=trodAll_cons r5;obtain ⟨rfl,rfl,rfl⟩:=trodAll_nil r6;obtain rfl:args=#[v0,v1,v2,v3,v4,v5,v6]:=by cases args; simp_all
 obtain ⟨rfl,rfl⟩:=trodVars_none hV;obtain ⟨A0,n0,c0,y0,rfl,hn0,hi0⟩:=q5c (hval 0 22 _ rfl rfl) h0;obtain ⟨y1,rfl,_,_,g1⟩:=open_int qdm (hval 1 3 _ rfl rfl) h1;simp only [Lit.wf,Bool.and_eq_true,decide_eq_true_eq] at g1;obtain ⟨y2,rfl,_,_,g2⟩:=open_int qdm (hval 2 3 _ rfl rfl) h2;simp only [Lit.wf,Bool.and_eq_true,decide_eq_true_eq] at g2;obtain ⟨y3,rfl,_,_,g3⟩:=open_int qdm (hval 3 3 _ rfl rfl) h3;simp only [Lit.wf,Bool.and_eq_true,decide_eq_true_eq] at g3;obtain ⟨y4,rfl,_,_,g4⟩:=open_int qdm (hval 4 3 _ rfl rfl) h4;simp only [Lit.wf,Bool.and_eq_true,decide_eq_true_eq] at g4;obtain ⟨y5,rfl,_,_,g5⟩:=open_int qdm (hval 5 3 _ rfl rfl) h5;simp only [Lit.wf,Bool.and_eq_true,decide_eq_true_eq] at g5;obtain ⟨z6,rfl,_,_,g6⟩:=open_int qmK (hval 6 29 _ rfl rfl) h6;simp only [Lit.wf,Bool.and_eq_true,decide_eq_true_eq] at g6;have l6:(0:Int)≤z6:=g6.1;have m6:z6≤(18446744073709551615:Int):=g6.2;obtain ⟨y6,rfl⟩:∃ x:Nat,z6=x:=⟨z6.toNat,by omega⟩;have hc:=q5Q (raw:=y0) (value:=y6) (by rw [hi0.sc_len]; exact hn0) g1.1 g1.2 g2.1 g2.2 g3.1 g3.2 g4.1 g4.2 g5.1 g5.2 (by omega);refine (hc.2 _ W [_,_,_,_,_,_,_] (q99 hL) (Fr.triv _) (q3V (qcg hi0) (q3V q2g (q3V q2g (q3V q2g (q3V q2g (q3V q2g (q3V q2g qmh)))))))).mono fun e W' ⟨v,he,hx,hr⟩=>?_;rw [q9o hr] at he;subst he;exact ⟨_,rfl,q79 rfl hW' (by kernel_rfl) rfl rfl hx⟩
def q3d:Rows.KrylovRefusesSaid :=
 OpenClaim.holds_of_wide 7 Tryz.f7 rfl rfl rfl rfl rfl rfl rfl ⟨rfl,rfl,rfl,rfl,rfl⟩ rfl rfl rfl rfl rfl (by kernel_rfl) Tryz.func7 (by kernel_rfl)
  (of_decide_eq_true (by kernel_rfl)) (by unfold Func.isWrapper; first | (rw [if_pos (by decide +kernel)]; kernel_rfl) | (rw [if_neg (by decide +kernel)]; exact ⟨rfl,rfl⟩))
  (fun os started H enc _=>qcx os started H enc)
set_option maxRecDepth 100000
theorem kre_card:Rows.KrylovRefusesCardSaid :=
 Claim7.holds_tied_plain_at .later [] [.data] true (true, "1152ba08cf519ea60d813af4e373f6d249d3327580b00ea5080b605239196640") false
  q3d (fun _ h=>by cases h) (by kernel_rfl) (fun _ h=>by cases h) krylovRefuses_row_tie rfl ⟨rfl,rfl⟩ (by kernel_rfl) rfl
  (fun f fn hf hfn=>by
   obtain rfl : f = 7 := Option.some.inj ((show Tryz.prog.funcNamed "sparse/sparselaw36.KrylovRefuses" = some 7 by kernel_rfl).symm.trans hf) |>.symm;obtain rfl:fn=Tryz.f7:=(Option.some.inj (Tryz.func7.symm.trans hfn)).symm;exact ⟨by kernel_rfl,fun j t ht=>by
    have hm:t ∈ [22,3,3,3,3,3,29]:=by simpa using Array.mem_of_getElem? ht
    have hall:([22,3,3,3,3,3,29].all fun u=>!Tryz.prog.wantsStandIn u)=true:=by kernel_rfl
    exact (show Tryz.prog.wantsStandIn t=false by simpa using List.all_eq_true.1 hall t hm)⟩)
  (by kernel_rfl)
#print axioms kre_card
end Go.Proofs.YtbcmhlhgljoolaaGreatDoor
