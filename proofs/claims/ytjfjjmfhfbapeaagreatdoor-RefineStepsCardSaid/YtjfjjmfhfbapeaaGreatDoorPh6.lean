/- RefineRefines, RefineSteps. 6/6. -/
import Derived.SevenTiedAt
import Derived.Test.YtjfjjmfhfbapeaaGreatDoorCards
import Derived.Test.YtjfjjmfhfbapeaaGreatDoorTie
import Derived.Test.YtjfjjmfhfbapeaaGreatDoorPh5
set_option linter.unusedSimpArgs false
set_option linter.unusedVariables false
set_option maxRecDepth 20000
set_option maxHeartbeats 2000000
set_option linter.defProp false
namespace Go.Proofs.YtjfjjmfhfbapeaaGreatDoor
open Go Go.E Go.Sp Go.ChangeShapes Go.WideShapes Go.ChangeAt Go.WideMaps Go.WideElems Go.RowKit
set_option maxRecDepth 100000
abbrev q9A : List (String × DataW Unit) := [("math/bits.deBruijn32tab", Rows.laid_math_bits_deBruijn32tab)]
def own:ownKnob Tryz.prog.godebug=none:=by kernel_rfl
def qan (os:Os) (args:Array Value):laidMetH Tryz.prog q9A ((World.doorLaid Tryz.prog 400 os).forCall (fun _ _=>0) ⟨#[],args,[]⟩).memory :=
 laidMetH_of_parts3 (fuel:=8) (laidMet_of_run' 8 (by kernel_rfl) (by kernel_rfl)) (by kernel_rfl) (by kernel_rfl)
def undW:Tryz.prog.underlying 22=some (.slice 41):=by kernel_rfl
def cellU:Tryz.prog.cellsOf 41=1:=by kernel_rfl
def qa7 {H:Type} {enc:TypeId × Value→H} {W:World} {v:Value} {d:DataW H} {p:List MemPlace} {b0:Nat} (hv:Value.okWide Tryz.prog W .any b0 22 v) (h:DataW.Trod enc Tryz.prog W 0 (fun _=>true) true 22 v d p) :
  ∃ A n c raw,v=.slice A n c∧n≤9223372036854775807∧In (fSc u64v raw) (fun _=>True) (.slice A n c) W:=by
 obtain ⟨A,n,c,rfl⟩:=okWide_slice undW hv;obtain ⟨fuel,hf⟩:=h
 rcases open_ints undW qom cellU hf with ⟨h1,_⟩ | ⟨a,len,cap,zs,h1,_,hl,hm,hz,_,hc,hw⟩
 ·injection h1 with h1 _
  injection h1 with h1 h2 h3
  subst h1; subst h2; subst h3;exact ⟨_,_,_,[],rfl,by omega,In.sc_nil⟩
 ·injection h1 with h1 _
  injection h1 with h1 h2 h3
  subst h1; subst h2; subst h3;have hz':zs.length=c:=by simpa using hz
  refine ⟨_,_,_,(zs.take n).map Int.toNat,rfl,by unfold maxLen at hm; omega,some a,n,c,rfl,hl,by simp; omega,fun _=>⟨a,rfl,trivial,fun j u hu=>?_⟩⟩;rw [List.getElem?_map,List.getElem?_map,List.getElem?_take] at hu
  split at hu
  ·rename_i hj;have hjz:j < zs.length:=by omega
   rw [List.getElem?_eq_getElem hjz] at hu;have h0:=hc j hjz;rw [List.getD_eq_getElem?_getD,List.getElem?_eq_getElem hjz] at h0;have h1:=hw zs[j] (List.getElem_mem _);simp only [Lit.wf,Bool.and_eq_true,decide_eq_true_eq] at h1;have h2:(0:Int)≤zs[j]:=h1.1;rw [h0,← Option.some.inj hu]
   show some (Value.int .u64 zs[j])=some (Value.int .u64 ((zs[j].toNat:Nat):Int))
   rw [Int.toNat_of_nonneg h2]
  ·cases hu
section
variable {w:World} {D:Nat→Prop} {ρ:Nat→Option Nat} {h:Hp} {x:PV} {l:List PV} {a:Value} {vs:List Value}
def qqK:RdL w D [] ρ h []:=by unfold RdL; rfl
def q5e (h1:Rd w D x ρ h a) (h2:RdL w D l ρ h vs):RdL w D (x :: l) ρ h (a :: vs):=by
 unfold RdL;exact ⟨_,_,rfl,h1,h2⟩
end
set_option maxRecDepth 100000
def qba (os:Os) (started:os.Started) (H:Type) (enc:TypeId × Value→H) :
  ReturnsInHanded {} Tryz.checked os 5 .any (fun w args=>(Rows.refineRefinesSpec.pre enc Tryz.prog Tryz.f5 [] false w args∧laidMetH Tryz.prog q9A w)∧sizedMet enc Tryz.prog Tryz.f5 (OpenSpec.ofChange Rows.refineRefinesSpec) false w args)
   (Rows.refineRefinesSpec.post enc Tryz.prog Tryz.f5 false true false false):=by
 refine returnsInHanded_of_change_and (C:=Tryz.checked) (X:=fun w _=>laidMetH Tryz.prog q9A w) (fun _ _ _ hh h=>h.of_heap hh) own started (by kernel_rfl) Tryz.func5
  (ChangeSpec.witness_shaped (enc:=enc) (C:=Tryz.checked) (os:=os) (X:=fun w _=>laidMetH Tryz.prog q9A w) false (World.doorLaid Tryz.prog 400 os) #[.slice none 0 0,.int .i64 0,.int .i64 0,.bool false,.int .i64 0] 8 rfl (World.shaped_of_RefB (by kernel_rfl) (by kernel_rfl)) (by kernel_rfl) (by kernel_rfl) (by kernel_rfl) (qan os _)) ?_
 intro W base args ds gs before hval0 hW _ _ hL _;have hval:∀ (j:Nat) t v,Tryz.f5.params[j]?=some t→args[j]?=some v→Value.okWide Tryz.prog W .any base t v:=hval0;have hW':DataW.Whole enc Tryz.prog Tryz.f5.params.toList Rows.refineRefinesSpec.vars false W args.toList ds gs before:=hW;obtain ⟨p,q,hA0,hV,rfl,_,_⟩:=hW;have hA:DataW.TrodAll enc Tryz.prog W 0 (fun _=>true) true [22,3,3,4,3] args.toList ds p:=hA0;obtain ⟨v0,s0,d0,e0,p0,q0,ha,rfl,rfl,h0,r0⟩:=trodAll_cons hA;obtain ⟨v1,s1,d1,e1,p1,q1,rfl,rfl,rfl,h1,r1⟩:=trodAll_cons r0;obtain ⟨v2,s2,d2,e2,p2,q2,rfl,rfl,rfl,h2,r2⟩:=trodAll_cons r1;obtain ⟨v3,s3,d3,e3,p3,q3,rfl,rfl,rfl,h3,r3⟩:=trodAll_cons r2;obtain ⟨v4,s4,d4,e4,p4,q4,rfl,rfl,rfl,h4,r4⟩:=trodAll_cons r3;obtain ⟨rfl,rfl,rfl⟩:=trodAll_nil r4;obtain rfl:args=#[v0,v1,v2,v3,v4]:=by cases args; simp_all
 obtain ⟨rfl,rfl⟩:=trodVars_none hV;obtain ⟨A0,n0,c0,y0,rfl,hn0,hi0⟩:=qa7 (hval 0 22 _ rfl rfl) h0;obtain ⟨y1,rfl,_,_,g1⟩:=open_int qk4 (hval 1 3 _ rfl rfl) h1;simp only [Lit.wf,Bool.and_eq_true,decide_eq_true_eq] at g1;obtain ⟨y2,rfl,_,_,g2⟩:=open_int qk4 (hval 2 3 _ rfl rfl) h2;simp only [Lit.wf,Bool.and_eq_true,decide_eq_true_eq] at g2;obtain ⟨y3,rfl,_,_⟩:=open_bool qoL (hval 3 4 _ rfl rfl) h3;obtain ⟨y4,rfl,_,_,g4⟩:=open_int qk4 (hval 4 3 _ rfl rfl) h4;simp only [Lit.wf,Bool.and_eq_true,decide_eq_true_eq] at g4;have hc:=q40 (raw:=y0) (w:=y3) (by rw [hi0.sc_len]; exact hn0) g1.1 g1.2 g2.1 g2.2 g4.1 g4.2;refine (hc.2 _ W [_,_,_,_,_] (qcf hL) (Fr.triv _) (q5e (qqL hi0) (q5e q41 (q5e q41 (q5e q41 (q5e q41 qqK)))))).mono fun e W' ⟨v,he,hx,hr⟩=>?_;rw [qbc hr] at he;subst he;exact ⟨_,rfl,qa3 rfl hW' (by kernel_rfl) rfl rfl hx⟩
def q3D:Rows.RefineRefinesSaid :=
 OpenClaim.holds_of_wide 5 Tryz.f5 rfl rfl rfl rfl rfl rfl rfl ⟨rfl,rfl,rfl,rfl,rfl⟩ rfl rfl rfl rfl rfl (by kernel_rfl) Tryz.func5 (by kernel_rfl)
  (of_decide_eq_true (by kernel_rfl)) (by unfold Func.isWrapper; first | (rw [if_pos (by decide +kernel)]; kernel_rfl) | (rw [if_neg (by decide +kernel)]; exact ⟨rfl,rfl⟩))
  (fun os started H enc _=>qba os started H enc)
set_option maxRecDepth 100000
theorem rrf_card:Rows.RefineRefinesCardSaid :=
 Claim7.holds_tied_plain_at .later [] [.data] true (true, "b92b06eba65dc3d2880439fc1d0909eafd78e7613dbefb735d71cd252be6ba6f") false
  q3D (fun _ h=>by cases h) (by kernel_rfl) (fun _ h=>by cases h) refineRefines_row_tie rfl ⟨rfl,rfl⟩ (by kernel_rfl) rfl
  (fun f fn hf hfn=>by
   obtain rfl : f = 5 := Option.some.inj ((show Tryz.prog.funcNamed "sparse/sparselaw35.RefineRefines" = some 5 by kernel_rfl).symm.trans hf) |>.symm;obtain rfl:fn=Tryz.f5:=(Option.some.inj (Tryz.func5.symm.trans hfn)).symm;exact ⟨by kernel_rfl,fun j t ht=>by
    have hm:t ∈ [22,3,3,4,3]:=by simpa using Array.mem_of_getElem? ht
    have hall:([22,3,3,4,3].all fun u=>!Tryz.prog.wantsStandIn u)=true:=by kernel_rfl
    exact (show Tryz.prog.wantsStandIn t=false by simpa using List.all_eq_true.1 hall t hm)⟩)
  (by kernel_rfl)
#print axioms rrf_card
section
variable {C:Nat} {F:Nat→Nat→Option Nat} {f:LUt} {b:List Nat} {dbl:Bool}
def qdV:∀ (k:Nat) (x:List (Nat × Nat)) (r l:List Nat),(rfL C F f b dbl k x r l).2.2=0→∃ t,(rfL C F f b dbl k x r l).2.1=l ++ t
 | 0,x,r,l,_=>⟨[],(List.append_nil l).symm⟩
 | k+1,x,r,l,h=>by
  rw [rfL] at h ⊢
  by_cases h1:q0r r C=0
  ·rw [if_pos h1]; exact ⟨[],(List.append_nil l).symm⟩
  rw [if_neg h1] at h ⊢
  by_cases h2:(lgE f r).2≠0
  ·rw [if_pos h2] at h; exact (h2 h).elim
  rw [if_neg h2] at h ⊢
  by_cases h3:¬ ∀ p ∈ chL dbl x (lgE f r).1 C,q0H p.1
  ·rw [if_pos h3] at h; cases h
  rw [if_neg h3] at h ⊢
  by_cases h4:¬ ∀ v ∈ rdL F (chL dbl x (lgE f r).1 C) b C C,q0H v
  ·rw [if_pos h4] at h; cases h
  rw [if_neg h4] at h ⊢
  by_cases h5:ofZ (q0r r C) < 2*ofZ (q0r (rdL F (chL dbl x (lgE f r).1 C) b C C) C)
  ·rw [if_pos h5]; exact ⟨[],(List.append_nil l).symm⟩
  rw [if_neg h5] at h ⊢;obtain ⟨t,ht⟩:=qdV k _ _ _ h;rw [ht,List.append_assoc];exact ⟨_,rfl⟩
def qaK:∀ (k d:Nat) (x:List (Nat × Nat)) (r l:List Nat),(rfL C F f b dbl k x r l).2.2=0→(rfL C F f b dbl (k+d) x r l).2.2=0→(∃ t,(rfL C F f b dbl (k+d) x r l).2.1=(rfL C F f b dbl k x r l).2.1 ++ t)∧((rfL C F f b dbl k x r l).2.1.length=l.length+k∨(rfL C F f b dbl k x r l).2.1.length=(rfL C F f b dbl (k+d) x r l).2.1.length)
 | 0,d,x,r,l,_,h=>by
  rw [Nat.zero_add] at h ⊢;exact ⟨qdV _ _ _ _ h,.inl rfl⟩
 | k+1,d,x,r,l,h,h'=>by
  rw [show k+1+d=k+d+1 by omega] at h' ⊢;rw [rfL] at h h';rw [rfL,rfL]
  by_cases h1:q0r r C=0
  ·rw [if_pos h1,if_pos h1];exact ⟨⟨[],(List.append_nil l).symm⟩,.inr rfl⟩
  rw [if_neg h1] at h h' ⊢;rw [if_neg h1]
  by_cases h2:(lgE f r).2≠0
  ·rw [if_pos h2] at h; exact (h2 h).elim
  rw [if_neg h2] at h h' ⊢;rw [if_neg h2]
  by_cases h3:¬ ∀ p ∈ chL dbl x (lgE f r).1 C,q0H p.1
  ·rw [if_pos h3] at h; cases h
  rw [if_neg h3] at h h' ⊢;rw [if_neg h3]
  by_cases h4:¬ ∀ v ∈ rdL F (chL dbl x (lgE f r).1 C) b C C,q0H v
  ·rw [if_pos h4] at h; cases h
  rw [if_neg h4] at h h' ⊢;rw [if_neg h4]
  by_cases h5:ofZ (q0r r C) < 2*ofZ (q0r (rdL F (chL dbl x (lgE f r).1 C) b C C) C)
  ·rw [if_pos h5,if_pos h5];exact ⟨⟨[],(List.append_nil l).symm⟩,.inr rfl⟩
  rw [if_neg h5] at h h' ⊢;rw [if_neg h5];have:=qaK k d _ _ _ h h';rw [List.length_append,List.length_singleton] at this;exact ⟨this.1,this.2.elim (fun q=>.inl Oq) .inr⟩
def qgN {R k m:Nat} (hkm:k≤m) (h:(rfS C F f b dbl R k).2.2=0) (h':(rfS C F f b dbl R m).2.2=0):(∃ t,(rfS C F f b dbl R m).2.1=(rfS C F f b dbl R k).2.1 ++ t)∧((rfS C F f b dbl R k).2.1.length=k+1∨(rfS C F f b dbl R k).2.1.length=(rfS C F f b dbl R m).2.1.length)∧(rfS C F f b dbl R k).2.1.length≤k+1:=by
 unfold rfS at h h' ⊢
 by_cases h1:rfR R C f k≠0
 ·rw [if_pos h1] at h; exact (h1 h).elim
 by_cases h2:rfR R C f m≠0
 ·rw [if_pos h2] at h'; exact (h2 h').elim
 obtain ⟨_,_,hCr,_,_⟩:=qgO (Classical.not_not.1 h1);rw [if_neg h1] at h ⊢;rw [if_neg h2] at h' ⊢
 by_cases h3:(lgE f b).2≠0
 ·rw [if_pos h3] at h; exact (h3 h).elim
 rw [if_neg h3] at h h' ⊢;rw [if_neg h3]
 by_cases h4:¬ ∀ v ∈ rdL F ((lgE f b).1.map fun v=>(v,0)) b C C,q0H v
 ·rw [if_pos h4] at h; cases h
 rw [if_neg h4] at h h' ⊢;rw [if_neg h4];rw [Int.toNat_natCast] at h h' ⊢;rw [Int.toNat_natCast];obtain ⟨d,rfl⟩:∃ d,m=k+d:=⟨m-k,by omega⟩;have hlE:(lgE f b).1.length≤C:=by have:=qlh (f:=f) (l:=b); omega
 have hle:=(q8m (C:=C) (F:=F) (f:=f) (b:=b) (dbl:=dbl) k ((lgE f b).1.map fun v=>(v,0)) (rdL F ((lgE f b).1.map fun v=>(v,0)) b C C) [q0r (rdL F ((lgE f b).1.map fun v=>(v,0)) b C C) C] (by rw [List.length_map]; exact hlE)).2;have:=qaK k d _ _ _ h h';rw [List.length_singleton] at this hle;exact ⟨this.1,this.2.elim (fun q=>.inl Oq) .inr,by omega⟩
end
section
variable {raw:List Nat} {n st k:Int} {w:Bool}
def q5d (hr:raw.length≤9223372036854775807) (h1 : -9223372036854775808≤n) (h2:n≤9223372036854775807) (h3 : -9223372036854775808≤st) (h4:st≤9223372036854775807) (h5 : -9223372036854775808≤k) (h6:k≤9223372036854775807) :
  ACt 7 [pF raw,iv n,iv st,bv w,iv k] (bv true):=by
 have cA:=q8Q;have cP:=qaR (w:=w) hr h1 h2 h3 h4;have hN:q1C n 5 < 5:=by unfold q1C; omega
 generalize q1C n 5=N at *;have hm:=qdc (raw:=raw) (N:=N) (st:=st) Oq;obtain ⟨hb,hbr⟩:=qqZ (raw:=raw) (N:=N) (st:=st) (w:=w) Oq;have hv:=q74 (raw:=raw) (k:=30) (st:=q1C st 4) (n:=N);have hvl:=q4e (raw:=raw) (k:=30) (st:=q1C st 4) (n:=N);generalize pcG raw N st=F at *;generalize pcL raw N st w=f at *;generalize q9l raw 30 (q1C st 4) N=b at *;have cM:=q5z (a:=k) (n:=5) h5 h6 Oq Oq;have hk:q1C k 5 < 5:=by unfold q1C; omega
 generalize q1C k 5=K at *;have hu:=fun v hx=>(hv v hx).1;have C1:=q2j (steps:=(K:Nat)) hm hb Oq hu Oq Oq Oq;have C2:=q2j (steps:=(5:Nat)) hm hb Oq hu Oq Oq Oq;have hmo:=qgN (R:=N) (C:=N) (F:=F) (f:=f) (b:=b) (dbl:=false) (k:=K) (m:=5) Oq;have hl1:=(q5I (R:=N) (C:=N) (F:=F) (steps:=(K:Nat)) (dbl:=false) hb hu hm.c).2;have hl2:=(q5I (R:=N) (C:=N) (F:=F) (steps:=(5:Nat)) (dbl:=false) hb hu hm.c).2;generalize rfS N F f b false N (K:Nat)=X at *;generalize rfS N F f b false N (5:Nat)=Y at *;obtain ⟨x,l,e⟩:=X;obtain ⟨y,m,d⟩:=Y;unfold rfH at C1 C2;dsimp only at C1 C2 hmo hl1 hl2;have C3:=q1U (l:=l) Oq;unfold pT q2G pLU at *;rw [show ((5:Nat):Int)=5 from rfl] at C2
 by_cases he:e=0
 rotate_left
 ·have q:(e != 0)=true:=by simpa using he
  refine ac0 Tryz.func7 Tryz.ntmps7 [.tmp 10] ?_;exact wk1 q trivial
 subst he
 by_cases hd:d=0
 rotate_left
 ·have q:(d != 0)=true:=by simpa using hd
  refine ac0 Tryz.func7 Tryz.ntmps7 [.tmp 10] ?_;exact wk1 q trivial
 subst hd;obtain ⟨⟨t,ht⟩,m3,m4⟩:=hmo rfl rfl;have hml:m.length=l.length+t.length:=by rw [ht,List.length_append]
 have a2:(l.length:Int)≤(m.length:Int):=by omega
 have a3:slP (some 1) none (some (iv (l.length:Int))) (pF m)=some (pF l):=by
  rw [ht];simp [slP,q7X,ksz]
 clear ht hml;have a4:IntKind.i64.wrap ((K:Int)+1)=((K+1:Nat):Int):=by rw [i64_in (by omega) (by omega)]; omega
 have a1:(l.length:Int)≤((K+1:Nat):Int):=by omega
 refine ac0 Tryz.func7 Tryz.ntmps7 [.tmp 10] ?_
 rcases m3 with m3 | m3
 ·have a5:((l.length:Int) == ((K+1:Nat):Int))=true:=by simp; omega
  exact wk1 (x5 a1 a2 a3 a4 a5) trivial
 ·cases a5:((l.length:Int) == ((K+1:Nat):Int)) with
  | true =>
   exact wk1 (x5 a1 a2 a3 a4 a5) trivial
  | false =>
   have a6:((l.length:Int) == (m.length:Int))=true:=by rw [← m3]; simp
   exact wk1 (x6 a1 a2 a3 a4 a5 a6) trivial
end
set_option maxRecDepth 100000
def qb9 (os:Os) (started:os.Started) (H:Type) (enc:TypeId × Value→H) :
  ReturnsInHanded {} Tryz.checked os 7 .any (fun w args=>(Rows.refineStepsSpec.pre enc Tryz.prog Tryz.f7 [] false w args∧laidMetH Tryz.prog q9A w)∧sizedMet enc Tryz.prog Tryz.f7 (OpenSpec.ofChange Rows.refineStepsSpec) false w args)
   (Rows.refineStepsSpec.post enc Tryz.prog Tryz.f7 false true false false):=by
 refine returnsInHanded_of_change_and (C:=Tryz.checked) (X:=fun w _=>laidMetH Tryz.prog q9A w) (fun _ _ _ hh h=>h.of_heap hh) own started (by kernel_rfl) Tryz.func7
  (ChangeSpec.witness_shaped (enc:=enc) (C:=Tryz.checked) (os:=os) (X:=fun w _=>laidMetH Tryz.prog q9A w) false (World.doorLaid Tryz.prog 400 os) #[.slice none 0 0,.int .i64 0,.int .i64 0,.bool false,.int .i64 0] 8 rfl (World.shaped_of_RefB (by kernel_rfl) (by kernel_rfl)) (by kernel_rfl) (by kernel_rfl) (by kernel_rfl) (qan os _)) ?_
 intro W base args ds gs before hval0 hW _ _ hL _;have hval:∀ (j:Nat) t v,Tryz.f7.params[j]?=some t→args[j]?=some v→Value.okWide Tryz.prog W .any base t v:=hval0;have hW':DataW.Whole enc Tryz.prog Tryz.f7.params.toList Rows.refineStepsSpec.vars false W args.toList ds gs before:=hW;obtain ⟨p,q,hA0,hV,rfl,_,_⟩:=hW;have hA:DataW.TrodAll enc Tryz.prog W 0 (fun _=>true) true [22,3,3,4,3] args.toList ds p:=hA0;obtain ⟨v0,s0,d0,e0,p0,q0,ha,rfl,rfl,h0,r0⟩:=trodAll_cons hA;obtain ⟨v1,s1,d1,e1,p1,q1,rfl,rfl,rfl,h1,r1⟩:=trodAll_cons r0;obtain ⟨v2,s2,d2,e2,p2,q2,rfl,rfl,rfl,h2,r2⟩:=trodAll_cons r1;obtain ⟨v3,s3,d3,e3,p3,q3,rfl,rfl,rfl,h3,r3⟩:=trodAll_cons r2;obtain ⟨v4,s4,d4,e4,p4,q4,rfl,rfl,rfl,h4,r4⟩:=trodAll_cons r3;obtain ⟨rfl,rfl,rfl⟩:=trodAll_nil r4;obtain rfl:args=#[v0,v1,v2,v3,v4]:=by cases args; simp_all
 obtain ⟨rfl,rfl⟩:=trodVars_none hV;obtain ⟨A0,n0,c0,y0,rfl,hn0,hi0⟩:=qa7 (hval 0 22 _ rfl rfl) h0;obtain ⟨y1,rfl,_,_,g1⟩:=open_int qk4 (hval 1 3 _ rfl rfl) h1;simp only [Lit.wf,Bool.and_eq_true,decide_eq_true_eq] at g1;obtain ⟨y2,rfl,_,_,g2⟩:=open_int qk4 (hval 2 3 _ rfl rfl) h2;simp only [Lit.wf,Bool.and_eq_true,decide_eq_true_eq] at g2;obtain ⟨y3,rfl,_,_⟩:=open_bool qoL (hval 3 4 _ rfl rfl) h3;obtain ⟨y4,rfl,_,_,g4⟩:=open_int qk4 (hval 4 3 _ rfl rfl) h4;simp only [Lit.wf,Bool.and_eq_true,decide_eq_true_eq] at g4;have hc:=q5d (raw:=y0) (w:=y3) (by rw [hi0.sc_len]; exact hn0) g1.1 g1.2 g2.1 g2.2 g4.1 g4.2;refine (hc.2 _ W [_,_,_,_,_] (qcf hL) (Fr.triv _) (q5e (qqL hi0) (q5e q41 (q5e q41 (q5e q41 (q5e q41 qqK)))))).mono fun e W' ⟨v,he,hx,hr⟩=>?_;rw [qbc hr] at he;subst he;exact ⟨_,rfl,qa3 rfl hW' (by kernel_rfl) rfl rfl hx⟩
def q4I:Rows.RefineStepsSaid :=
 OpenClaim.holds_of_wide 7 Tryz.f7 rfl rfl rfl rfl rfl rfl rfl ⟨rfl,rfl,rfl,rfl,rfl⟩ rfl rfl rfl rfl rfl (by kernel_rfl) Tryz.func7 (by kernel_rfl)
  (of_decide_eq_true (by kernel_rfl)) (by unfold Func.isWrapper; first | (rw [if_pos (by decide +kernel)]; kernel_rfl) | (rw [if_neg (by decide +kernel)]; exact ⟨rfl,rfl⟩))
  (fun os started H enc _=>qb9 os started H enc)
set_option maxRecDepth 100000
theorem rst_card:Rows.RefineStepsCardSaid :=
 Claim7.holds_tied_plain_at .later [] [.data] true (true, "b92b06eba65dc3d2880439fc1d0909eafd78e7613dbefb735d71cd252be6ba6f") false
  q4I (fun _ h=>by cases h) (by kernel_rfl) (fun _ h=>by cases h) refineSteps_row_tie rfl ⟨rfl,rfl⟩ (by kernel_rfl) rfl
  (fun f fn hf hfn=>by
   obtain rfl : f = 7 := Option.some.inj ((show Tryz.prog.funcNamed "sparse/sparselaw35.RefineSteps" = some 7 by kernel_rfl).symm.trans hf) |>.symm;obtain rfl:fn=Tryz.f7:=(Option.some.inj (Tryz.func7.symm.trans hfn)).symm;exact ⟨by kernel_rfl,fun j t ht=>by
    have hm:t ∈ [22,3,3,4,3]:=by simpa using Array.mem_of_getElem? ht
    have hall:([22,3,3,4,3].all fun u=>!Tryz.prog.wantsStandIn u)=true:=by kernel_rfl
    exact (show Tryz.prog.wantsStandIn t=false by simpa using List.all_eq_true.1 hall t hm)⟩)
  (by kernel_rfl)
#print axioms rst_card
end Go.Proofs.YtjfjjmfhfbapeaaGreatDoor
namespace Go
end Go
