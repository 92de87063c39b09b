/- CondBounds, CondLower, CondRefuses. 7/7. -/
import Derived.SevenTiedAt
import Derived.Test.YtfmojhhokfkdaaaGreatDoorCards
import Derived.Test.YtfmojhhokfkdaaaGreatDoorTie
import Derived.Test.YtfmojhhokfkdaaaGreatDoorPc6
set_option linter.unusedSimpArgs false
set_option linter.unusedVariables false
set_option maxRecDepth 20000
set_option maxHeartbeats 2000000
set_option linter.defProp false
namespace Go.Proofs.YtfmojhhokfkdaaaGreatDoor
open Go Go.E Go.Sp Go.ChangeShapes Go.WideShapes Go.ChangeAt Go.WideMaps Go.WideElems Go.RowKit
set_option maxRecDepth 100000
abbrev q6T : List (String × DataW Unit) := [("math/bits.deBruijn32tab", Rows.laid_math_bits_deBruijn32tab)]
def own:ownKnob Tryz.prog.godebug=none:=by kernel_rfl
def q7i (os:Os) (args:Array Value):laidMetH Tryz.prog q6T ((World.doorLaid Tryz.prog 400 os).forCall (fun _ _=>0) ⟨#[],args,[]⟩).memory :=
 laidMetH_of_parts3 (fuel:=8) (laidMet_of_run' 8 (by kernel_rfl) (by kernel_rfl)) (by kernel_rfl) (by kernel_rfl)
def undW:Tryz.prog.underlying 22=some (.slice 42):=by kernel_rfl
def cellU:Tryz.prog.cellsOf 42=1:=by kernel_rfl
def q5K {H:Type} {enc:TypeId × Value→H} {W:World} {v:Value} {d:DataW H} {p:List MemPlace} {b0:Nat} (hv:Value.okWide Tryz.prog W .any b0 22 v) (h:DataW.Trod enc Tryz.prog W 0 (fun _=>true) true 22 v d p) :
  ∃ A n c raw,v=.slice A n c∧n≤9223372036854775807∧In (fSc u64v raw) (fun _=>True) (.slice A n c) W:=by
 obtain ⟨A,n,c,rfl⟩:=okWide_slice undW hv;obtain ⟨fuel,hf⟩:=h
 rcases open_ints undW qmQ cellU hf with ⟨h1,_⟩ | ⟨a,len,cap,zs,h1,_,hl,hm,hz,_,hc,hw⟩
 ·injection h1 with h1 _
  injection h1 with h1 h2 h3
  subst h1; subst h2; subst h3;exact ⟨_,_,_,[],rfl,by omega,In.sc_nil⟩
 ·injection h1 with h1 _
  injection h1 with h1 h2 h3
  subst h1; subst h2; subst h3;have hz':zs.length=c:=by simpa using hz
  refine ⟨_,_,_,(zs.take n).map Int.toNat,rfl,by unfold maxLen at hm; omega,some a,n,c,rfl,hl,by simp; omega,fun _=>⟨a,rfl,trivial,fun j u hu=>?_⟩⟩;rw [List.getElem?_map,List.getElem?_map,List.getElem?_take] at hu
  split at hu
  ·rename_i hj;have hjz:j < zs.length:=by omega
   rw [List.getElem?_eq_getElem hjz] at hu;have h0:=hc j hjz;rw [List.getD_eq_getElem?_getD,List.getElem?_eq_getElem hjz] at h0;have h1:=hw zs[j] (List.getElem_mem _);simp only [Lit.wf,Bool.and_eq_true,decide_eq_true_eq] at h1;have h2:(0:Int)≤zs[j]:=h1.1;rw [h0,← Option.some.inj hu]
   show some (Value.int .u64 zs[j])=some (Value.int .u64 ((zs[j].toNat:Nat):Int))
   rw [Int.toNat_of_nonneg h2]
  ·cases hu
section
variable {w:World} {D:Nat→Prop} {ρ:Nat→Option Nat} {h:Hp} {x:PV} {l:List PV} {a:Value} {vs:List Value}
def qnD:RdL w D [] ρ h []:=by unfold RdL; rfl
def q2P (h1:Rd w D x ρ h a) (h2:RdL w D l ρ h vs):RdL w D (x :: l) ρ h (a :: vs):=by
 unfold RdL;exact ⟨_,_,rfl,h1,h2⟩
end
set_option maxRecDepth 100000
def qdF (os:Os) (started:os.Started) (H:Type) (enc:TypeId × Value→H) :
  ReturnsInHanded {} Tryz.checked os 10 .any (fun w args=>(Rows.condBoundsSpec.pre enc Tryz.prog Tryz.f10 [] false w args∧laidMetH Tryz.prog q6T w)∧sizedMet enc Tryz.prog Tryz.f10 (OpenSpec.ofChange Rows.condBoundsSpec) false w args)
   (Rows.condBoundsSpec.post enc Tryz.prog Tryz.f10 false true false false):=by
 refine returnsInHanded_of_change_and (C:=Tryz.checked) (X:=fun w _=>laidMetH Tryz.prog q6T w) (fun _ _ _ hh h=>h.of_heap hh) own started (by kernel_rfl) Tryz.func10
  (ChangeSpec.witness_shaped (enc:=enc) (C:=Tryz.checked) (os:=os) (X:=fun w _=>laidMetH Tryz.prog q6T w) false (World.doorLaid Tryz.prog 400 os) #[.slice none 0 0,.int .i64 0,.int .i64 0,.bool false,.int .i64 0,.bool false] 8 rfl (World.shaped_of_RefB (by kernel_rfl) (by kernel_rfl)) (by kernel_rfl) (by kernel_rfl) (by kernel_rfl) (q7i os _)) ?_
 intro W base args ds gs before hval0 hW _ _ hL _;have hval:∀ (j:Nat) t v,Tryz.f10.params[j]?=some t→args[j]?=some v→Value.okWide Tryz.prog W .any base t v:=hval0;have hW':DataW.Whole enc Tryz.prog Tryz.f10.params.toList Rows.condBoundsSpec.vars false W args.toList ds gs before:=hW;obtain ⟨p,q,hA0,hV,rfl,_,_⟩:=hW;have hA:DataW.TrodAll enc Tryz.prog W 0 (fun _=>true) true [22,3,3,4,3,4] args.toList ds p:=hA0;obtain ⟨v0,s0,d0,e0,p0,q0,ha,rfl,rfl,h0,r0⟩:=trodAll_cons hA;obtain ⟨v1,s1,d1,e1,p1,q1,rfl,rfl,rfl,h1,r1⟩:=trodAll_cons r0;obtain ⟨v2,s2,d2,e2,p2,q2,rfl,rfl,rfl,h2,r2⟩:=trodAll_cons r1;obtain ⟨v3,s3,d3,e3,p3,q3,rfl,rfl,rfl,h3,r3⟩:=trodAll_cons r2;obtain ⟨v4,s4,d4,e4,p4,q4,rfl,rfl,rfl,h4,r4⟩:=trodAll_cons r3;obtain ⟨v5,s5,d5,e5,p5,q5,rfl,rfl,rfl,h5,r5⟩:=trodAll_cons r4;obtain ⟨rfl,rfl,rfl⟩:=trodAll_nil r5;obtain rfl:args=#[v0,v1,v2,v3,v4,v5]:=by cases args; simp_all
 obtain ⟨rfl,rfl⟩:=trodVars_none hV;obtain ⟨A0,n0,c0,y0,rfl,hn0,hi0⟩:=q5K (hval 0 22 _ rfl rfl) h0;obtain ⟨y1,rfl,_,_,g1⟩:=open_int qdP (hval 1 3 _ rfl rfl) h1;simp only [Lit.wf,Bool.and_eq_true,decide_eq_true_eq] at g1;obtain ⟨y2,rfl,_,_,g2⟩:=open_int qdP (hval 2 3 _ rfl rfl) h2;simp only [Lit.wf,Bool.and_eq_true,decide_eq_true_eq] at g2;obtain ⟨y3,rfl,_,_⟩:=open_bool qjx (hval 3 4 _ rfl rfl) h3;obtain ⟨y4,rfl,_,_,g4⟩:=open_int qdP (hval 4 3 _ rfl rfl) h4;simp only [Lit.wf,Bool.and_eq_true,decide_eq_true_eq] at g4;obtain ⟨y5,rfl,_,_⟩:=open_bool qjx (hval 5 4 _ rfl rfl) h5;have hc:=q7m (raw:=y0) (rg:=y3) (wild:=y5) (by rw [hi0.sc_len]; exact hn0) g1.1 g1.2 g2.1 g2.2 g4.1 g4.2;refine (hc.2 _ W [_,_,_,_,_,_] (q9f hL) (Fr.triv _) (q2P (qh5 hi0) (q2P q2Q (q2P q2Q (q2P q2Q (q2P q2Q (q2P q2Q qnD))))))).mono fun e W' ⟨v,he,hx,hr⟩=>?_;rw [qbJ hr] at he;subst he;exact ⟨_,rfl,q76 rfl hW' (by kernel_rfl) rfl rfl hx⟩
def qu1:(Rows.condBoundsRow.inPlace == Tryz.pinned.checked.prog.inPlace 10)=true:=by kernel_rfl
def qu0:(Rows.condBoundsRow.unfollowed == Tryz.pinned.checked.prog.unfollowed 10)=true:=by kernel_rfl
def quZ:(Rows.condBoundsRow.recurses == Tryz.pinned.checked.prog.recurses 10)=true:=by kernel_rfl
def quY:(Rows.condBoundsRow.named == Tryz.pinned.checked.prog.varsNamed 10)=true:=by kernel_rfl
def quX:joinedFacts Tryz.pinned.checked.prog 10 Tryz.f10 Rows.condBoundsSpec Rows.condBoundsRow=true:=by
 unfold joinedFacts;rw [qu1,qu0,quZ,quY]
 kernel_rfl
def q4v:Rows.CondBoundsSaid :=
 OpenClaim.holds_of_wide 10 Tryz.f10 rfl rfl rfl rfl rfl rfl rfl ⟨rfl,rfl,rfl,rfl,rfl⟩ rfl rfl rfl rfl rfl (by kernel_rfl) Tryz.func10 quX
  (of_decide_eq_true (by kernel_rfl)) (by unfold Func.isWrapper; first | (rw [if_pos (by decide +kernel)]; kernel_rfl) | (rw [if_neg (by decide +kernel)]; exact ⟨rfl,rfl⟩))
  (fun os started H enc _=>qdF os started H enc)
set_option maxRecDepth 100000
def qu6:OpenClaim.wfByText (OpenSpec.ofChange Rows.condBoundsSpec) Rows.condBoundsRow=true:=by kernel_rfl
def qu5 : Tryz.pinned.checked.prog.mainIs = some (true, ("a2740fb67fdf1770b87b446d3cf87e00c3ed12e7a272b0be716aadfd10a83fed" : String).toList) := by kernel_rfl
def qu4:false=Tryz.pinned.checked.prog.looks []:=by kernel_rfl
def qu3:false=Rows.condBoundsRow.goesBy Tryz.pinned.checked.prog:=by kernel_rfl
def qu2 : Tryz.prog.funcNamed "sparse/sparselaw43.CondBounds" = some 10 := by kernel_rfl
theorem cbd_card:Rows.CondBoundsCardSaid :=
 Claim7.holds_tied_plain_at .later [] [.data] true (true, "a2740fb67fdf1770b87b446d3cf87e00c3ed12e7a272b0be716aadfd10a83fed") false
  q4v (fun _ h=>by cases h) qu6 (fun _ h=>by cases h) condBounds_row_tie rfl ⟨rfl,rfl⟩ qu5 rfl
  (fun f fn hf hfn=>by
   obtain rfl:f=10:=Option.some.inj (qu2.symm.trans hf) |>.symm;obtain rfl:fn=Tryz.f10:=(Option.some.inj (Tryz.func10.symm.trans hfn)).symm;exact ⟨qu4,fun j t ht=>by
    have hm:t ∈ [22,3,3,4,3,4]:=by simpa using Array.mem_of_getElem? ht
    have hall:([22,3,3,4,3,4].all fun u=>!Tryz.prog.wantsStandIn u)=true:=by kernel_rfl
    exact (show Tryz.prog.wantsStandIn t=false by simpa using List.all_eq_true.1 hall t hm)⟩)
  qu3
#print axioms cbd_card
set_option maxRecDepth 100000
def qdD (os:Os) (started:os.Started) (H:Type) (enc:TypeId × Value→H) :
  ReturnsInHanded {} Tryz.checked os 12 .any (fun w args=>(Rows.condLowerSpec.pre enc Tryz.prog Tryz.f12 [] false w args∧laidMetH Tryz.prog q6T w)∧sizedMet enc Tryz.prog Tryz.f12 (OpenSpec.ofChange Rows.condLowerSpec) false w args)
   (Rows.condLowerSpec.post enc Tryz.prog Tryz.f12 false true false false):=by
 refine returnsInHanded_of_change_and (C:=Tryz.checked) (X:=fun w _=>laidMetH Tryz.prog q6T w) (fun _ _ _ hh h=>h.of_heap hh) own started (by kernel_rfl) Tryz.func12
  (ChangeSpec.witness_shaped (enc:=enc) (C:=Tryz.checked) (os:=os) (X:=fun w _=>laidMetH Tryz.prog q6T w) false (World.doorLaid Tryz.prog 400 os) #[.slice none 0 0,.int .i64 0,.int .i64 0,.bool false,.slice none 0 0,.bool false] 8 rfl (World.shaped_of_RefB (by kernel_rfl) (by kernel_rfl)) (by kernel_rfl) (by kernel_rfl) (by kernel_rfl) (q7i os _)) ?_
 intro W base args ds gs before hval0 hW _ _ hL _;have hval:∀ (j:Nat) t v,Tryz.f12.params[j]?=some t→args[j]?=some v→Value.okWide Tryz.prog W .any base t v:=hval0;have hW':DataW.Whole enc Tryz.prog Tryz.f12.params.toList Rows.condLowerSpec.vars false W args.toList ds gs before:=hW;obtain ⟨p,q,hA0,hV,rfl,_,_⟩:=hW;have hA:DataW.TrodAll enc Tryz.prog W 0 (fun _=>true) true [22,3,3,4,22,4] args.toList ds p:=hA0;obtain ⟨v0,s0,d0,e0,p0,q0,ha,rfl,rfl,h0,r0⟩:=trodAll_cons hA;obtain ⟨v1,s1,d1,e1,p1,q1,rfl,rfl,rfl,h1,r1⟩:=trodAll_cons r0;obtain ⟨v2,s2,d2,e2,p2,q2,rfl,rfl,rfl,h2,r2⟩:=trodAll_cons r1;obtain ⟨v3,s3,d3,e3,p3,q3,rfl,rfl,rfl,h3,r3⟩:=trodAll_cons r2;obtain ⟨v4,s4,d4,e4,p4,q4,rfl,rfl,rfl,h4,r4⟩:=trodAll_cons r3;obtain ⟨v5,s5,d5,e5,p5,q5,rfl,rfl,rfl,h5,r5⟩:=trodAll_cons r4;obtain ⟨rfl,rfl,rfl⟩:=trodAll_nil r5;obtain rfl:args=#[v0,v1,v2,v3,v4,v5]:=by cases args; simp_all
 obtain ⟨rfl,rfl⟩:=trodVars_none hV;obtain ⟨A0,n0,c0,y0,rfl,hn0,hi0⟩:=q5K (hval 0 22 _ rfl rfl) h0;obtain ⟨y1,rfl,_,_,g1⟩:=open_int qdP (hval 1 3 _ rfl rfl) h1;simp only [Lit.wf,Bool.and_eq_true,decide_eq_true_eq] at g1;obtain ⟨y2,rfl,_,_,g2⟩:=open_int qdP (hval 2 3 _ rfl rfl) h2;simp only [Lit.wf,Bool.and_eq_true,decide_eq_true_eq] at g2;obtain ⟨y3,rfl,_,_⟩:=open_bool qjx (hval 3 4 _ rfl rfl) h3;obtain ⟨A4,n4,c4,y4,rfl,hn4,hi4⟩:=q5K (hval 4 22 _ rfl rfl) h4;obtain ⟨y5,rfl,_,_⟩:=open_bool qjx (hval 5 4 _ rfl rfl) h5;have hc:=q9K (raw:=y0) (rg:=y3) (other:=y4) (zero:=y5) (by rw [hi0.sc_len]; exact hn0) (by rw [hi4.sc_len]; exact hn4) g1.1 g1.2 g2.1 g2.2;refine (hc.2 _ W [_,_,_,_,_,_] (q9f hL) (Fr.triv _) (q2P (qh5 hi0) (q2P q2Q (q2P q2Q (q2P q2Q (q2P (qh5 hi4) (q2P q2Q qnD))))))).mono fun e W' ⟨v,he,hx,hr⟩=>?_;rw [qbJ hr] at he;subst he;exact ⟨_,rfl,q76 rfl hW' (by kernel_rfl) rfl rfl hx⟩
def quC:(Rows.condLowerRow.inPlace == Tryz.pinned.checked.prog.inPlace 12)=true:=by kernel_rfl
def quB:(Rows.condLowerRow.unfollowed == Tryz.pinned.checked.prog.unfollowed 12)=true:=by kernel_rfl
def quA:(Rows.condLowerRow.recurses == Tryz.pinned.checked.prog.recurses 12)=true:=by kernel_rfl
def qtz:(Rows.condLowerRow.named == Tryz.pinned.checked.prog.varsNamed 12)=true:=by kernel_rfl
def qty:joinedFacts Tryz.pinned.checked.prog 12 Tryz.f12 Rows.condLowerSpec Rows.condLowerRow=true:=by
 unfold joinedFacts;rw [quC,quB,quA,qtz]
 kernel_rfl
def q5y:Rows.CondLowerSaid :=
 OpenClaim.holds_of_wide 12 Tryz.f12 rfl rfl rfl rfl rfl rfl rfl ⟨rfl,rfl,rfl,rfl,rfl⟩ rfl rfl rfl rfl rfl (by kernel_rfl) Tryz.func12 qty
  (of_decide_eq_true (by kernel_rfl)) (by unfold Func.isWrapper; first | (rw [if_pos (by decide +kernel)]; kernel_rfl) | (rw [if_neg (by decide +kernel)]; exact ⟨rfl,rfl⟩))
  (fun os started H enc _=>qdD os started H enc)
set_option maxRecDepth 100000
def quH:OpenClaim.wfByText (OpenSpec.ofChange Rows.condLowerSpec) Rows.condLowerRow=true:=by kernel_rfl
def quG : Tryz.pinned.checked.prog.mainIs = some (true, ("a2740fb67fdf1770b87b446d3cf87e00c3ed12e7a272b0be716aadfd10a83fed" : String).toList) := by kernel_rfl
def quF:false=Tryz.pinned.checked.prog.looks []:=by kernel_rfl
def quE:false=Rows.condLowerRow.goesBy Tryz.pinned.checked.prog:=by kernel_rfl
def quD : Tryz.prog.funcNamed "sparse/sparselaw43.CondLower" = some 12 := by kernel_rfl
theorem clw_card:Rows.CondLowerCardSaid :=
 Claim7.holds_tied_plain_at .later [] [.data] true (true, "a2740fb67fdf1770b87b446d3cf87e00c3ed12e7a272b0be716aadfd10a83fed") false
  q5y (fun _ h=>by cases h) quH (fun _ h=>by cases h) condLower_row_tie rfl ⟨rfl,rfl⟩ quG rfl
  (fun f fn hf hfn=>by
   obtain rfl:f=12:=Option.some.inj (quD.symm.trans hf) |>.symm;obtain rfl:fn=Tryz.f12:=(Option.some.inj (Tryz.func12.symm.trans hfn)).symm;exact ⟨quF,fun j t ht=>by
    have hm:t ∈ [22,3,3,4,22,4]:=by simpa using Array.mem_of_getElem? ht
    have hall:([22,3,3,4,22,4].all fun u=>!Tryz.prog.wantsStandIn u)=true:=by kernel_rfl
    exact (show Tryz.prog.wantsStandIn t=false by simpa using List.all_eq_true.1 hall t hm)⟩)
  quE
#print axioms clw_card
section
variable {R C r c:Nat} {ms mi:List Int} {mv v y:List Nat} {g:LUt}
def qhq (h:q2h R C ms mi mv=4) (hu:∀ x ∈ mv,x < 18446744073709551616):ACt 88 [q0b R C ms mi mv] (iv 4):=by
 unfold q2h at h
 split at h
 ·rename_i hS
  split at h
  ·rename_i hP
   split at h
   ·cases h
   ·rename_i hf;have C1:=qbX hS hP.1 hP.2;have hvl:=hP.1.v;obtain ⟨z1,z2,z3,z4,z5⟩:=hS;have C2:=q1u (f:=164) (l:=mv) (fun x hx=>qbY hx) hu Oq;rw [decide_eq_false hf] at C2;have C3:∀ n:Nat,n≤200→ACt 162 [iv n,iv 0,iv 200] (bv true):=fun n hn=>by
     have q1:(0:Int)≤n:=by omega
     have q2:(n:Int)≤200:=by omega
     refine ac0 Tryz.func162 Tryz.ntmps162 [.tmp 6] ?_;exact wk1 (x2 q1 q2) trivial
    unfold q0b at *;refine ac0 Tryz.func88 Tryz.ntmps88 [.tmp 2] ?_;exact wk trivial
  ·cases h
 ·cases h
def qeY (h:q2h R C ms mi mv=4) (hs:ms.length≤1000) (hi:mi.length≤1000) (hl:mv.length≤1000) (hu:∀ x ∈ mv,x < 18446744073709551616):ACt 81 [q0b R C ms mi mv] (iv 4):=by
 have:=q5F (rows:=R) (cols:=C) (st:=ms) (ix:=mi) (vl:=mv) Oq Oq Oq hu;rw [h] at this;exact this
variable (C1:ACt 88 [q0b R C ms mi mv] (iv 4)) (C2:ACt 81 [q0b R C ms mi mv] (iv 4))
include C1 in
def qgD:ACt 55 [q0b R C ms mi mv] (.tu [pV 0,iv 4]):=by
 unfold q0b at *;refine ac0 Tryz.func55 Tryz.ntmps55 [.cell 2 40,.tmp 3] ?_;refine wk ?_;exact q2X rfl
include C2 in
def qd4:ACt 56 [q0b R C ms mi mv] (.tu [pV 0,iv 4]):=by
 unfold q0b at *;refine ac0 Tryz.func56 Tryz.ntmps56 [.cell 2 40,.tmp 3] ?_;refine wk ?_;exact q2X rfl
include C1 in
def q9F:ACt 111 [q0b R C ms mi mv,pPn r c v] (.tu [pVs [],iv 4]):=by
 have C3:ACt 188 [q0b R C ms mi mv,pPn r c v] (iv 4):=by
  unfold q0b pPn at *;refine ac0 Tryz.func188 Tryz.ntmps188 [.tmp 4] ?_;exact wk trivial
 unfold q0b pPn at *;refine ac0 Tryz.func111 Tryz.ntmps111 [.tmp 4,.tmp 5] ?_;exact wk trivial
include C2 in
def qd8:ACt 202 [q0b R C ms mi mv,pPn r c v] (.tu [pVs [],iv 4]):=by
 unfold q0b pPn at *;refine ac0 Tryz.func202 Tryz.ntmps202 [.tmp 4,.tmp 5] ?_;exact wk trivial
include C1 in
def qjS:ACt 57 [q0b R C ms mi mv,pPn r c v] (pBn (0,0,false,4)):=by
 have C3:=q9F (r:=r) (c:=c) (v:=v) C1;unfold q0b pPn pBn at *;refine ac0 Tryz.func57 Tryz.ntmps57 [.cell 4 87,.tmp 5,.tmp 6] ?_;refine wk ?_
 rfl
include C1 in
def qgF:ACt 53 [q0b R C ms mi mv,pPn r c v] (pBn (0,0,false,4)):=by
 have C3:=q9F (r:=r) (c:=c) (v:=v) C1;unfold q0b pPn pBn at *;refine ac0 Tryz.func53 Tryz.ntmps53 [.cell 4 87,.tmp 5,.tmp 6] ?_;refine wk ?_
 rfl
include C2 in
def q5U {whole:Bool}:ACt 118 [q0b R C ms mi mv,pPn r c v,bv whole] (pBn (0,0,false,4)):=by
 have C3:=qd8 (r:=r) (c:=c) (v:=v) C2;unfold q0b pPn pBn at *;refine ac0 Tryz.func118 Tryz.ntmps118 [.cell 6 87,.tmp 7,.tmp 8] ?_;refine wk ?_
 rfl
include C2 in
def qgt:ACt 58 [q0b R C ms mi mv,pPn r c v] (pBn (0,0,false,4)):=by
 have C3:=q5U (r:=r) (c:=c) (v:=v) (whole:=false) C2;unfold q0b pPn pBn at *;refine ac0 Tryz.func58 Tryz.ntmps58 [.cell 4 87,.tmp 5,.tmp 6] ?_;exact wk trivial
include C2 in
def qd7:ACt 59 [q0b R C ms mi mv,pPn r c v] (pBn (0,0,false,4)):=by
 have C3:=q5U (r:=r) (c:=c) (v:=v) (whole:=true) C2;unfold q0b pPn pBn at *;refine ac0 Tryz.func59 Tryz.ntmps59 [.cell 4 87,.tmp 5,.tmp 6] ?_;exact wk trivial
include C1 in
def qdG:ACt 65 [q0b R C ms mi mv,pF y] (.tu [uv 0,iv 4]):=by
 unfold q0b at *;refine ac0 Tryz.func65 Tryz.ntmps65 [.tmp 4,.tmp 5] ?_;refine wk ?_
 trivial
include C2 in
def qcW:ACt 66 [q0b R C ms mi mv,pF y] (.tu [uv 0,iv 4]):=by
 unfold q0b at *;refine ac0 Tryz.func66 Tryz.ntmps66 [.tmp 4,.tmp 5] ?_;refine wk ?_
 trivial
include C1 in
def qjT:ACt 67 [q0b R C ms mi mv,pLU g] (.tu [uv 0,iv 0,iv 4]):=by
 unfold q0b pLU at *;refine ac0 Tryz.func67 Tryz.ntmps67 [.tmp 4,.tmp 5,.tmp 6] ?_;refine wk ?_
 trivial
include C2 in
def qgu:ACt 68 [q0b R C ms mi mv,pLU g] (.tu [uv 0,iv 0,iv 4]):=by
 unfold q0b pLU at *;refine ac0 Tryz.func68 Tryz.ntmps68 [.tmp 4,.tmp 5,.tmp 6] ?_;refine wk ?_
 trivial
end
def LeGm [NL] {J:Nat→Prop} {h:Hp} {a b d n T T1 T2:Nat} {k1 k2:List Int} {xs:List PV} {v1 v2:Value} (hJ:∀ i,¬ J i) (e1:h b=some ⟨T1,none,k1.map fun z=>iv z,false⟩) (e2:h d=some ⟨T2,none,k2.map fun z=>iv z,false⟩) (hb:h a=some ⟨T,none,xs,false⟩) (hc:ClL xs) (n1:b≠a) (n2:d≠a):Le J (fun _=>.ag [.vl v1,.vl v2,.ow b none 0 k1.length,.ow d none 0 k2.length,.ow a none 0 n]) h (fun _=>.ag [.vl v1,.vl v2,pI k1,pI k2,.ow 5000 none 0 n]) (q0Q h0 5000 ⟨T,none,xs,false⟩) :=
 b5 hJ hb hc fun _=>.ag rfl fun i x y hx hy=>by
  rcases i with _ | _ | _ | _ | _ | i
  ·cases hx; cases hy; exact .cl trivial
  ·cases hx; cases hy; exact .cl trivial
  ·cases hx; cases hy;refine q4l (T:=T1) (l:=k1.map fun z=>iv z) e1 clI (fun i hi=>?_) (by rw [List.drop_zero]; exact List.take_of_length_le (by rw [List.length_map]; exact Nat.le_refl _));replace hi:(if i=5000 then some a else none)=some _:=hi
   split at hi
   ·cases hi; exact (n1 rfl).elim
   ·cases hi
  ·cases hx; cases hy;refine q4l (T:=T2) (l:=k2.map fun z=>iv z) e2 clI (fun i hi=>?_) (by rw [List.drop_zero]; exact List.take_of_length_le (by rw [List.length_map]; exact Nat.le_refl _));replace hi:(if i=5000 then some a else none)=some _:=hi
   split at hi
   ·cases hi; exact (n2 rfl).elim
   ·cases hi
  ·cases hx; cases hy; exact .ow (if_pos rfl) q0H
  ·simp at hx
def qaD {raw : List Nat} {st : Int} {R C : Nat} (hr : raw.length ≤ 9223372036854775807) (hR : R ≤ 1000) (hC : C ≤ 1000) (h3 : -9223372036854775808 ≤ st) (h4 : st ≤ 9223372036854775807) :
    qdZ 27 [pF raw, iv R, iv C, iv st] h0 (.ag [iv R, iv C, pI (gM raw R (q02 st 4) C).1, pI (gM raw R (q02 st 4) C).2.1, .ow 5000 none 0 (gM raw R (q02 st 4) C).2.2.length]) (q0Q h0 5000 ⟨43, none, (gM raw R (q02 st 4) C).2.2.map fun z : Nat => uv z, false⟩) := by
  have hJ : ∀ i, ¬ (h0 i ≠ none) := fun i h => h rfl
  refine qg2 quc Tryz.func27 rfl Tryz.ntmps27 (by kernel_rfl) ?_ ?_ ?_ ?_
  · intro i b hb; cases hb
  · intro i b hb
    by_cases hi : i = 5000
    · subst hi; exact ⟨by omega, by omega⟩
    · rw [q0A hi] at hb; cases hb
  · exact IdL.of fun x hx => by
      simp at hx
      rcases hx with rfl | rfl | rfl | rfl <;> unfold IdP <;> trivial
  have hW : WfH h0 := ⟨fun i b hb => by cases hb⟩
  refine wk ?_
  obtain ⟨sm, hsm⟩ : ∃ sm, sm = q02 st 4 := ⟨_, rfl⟩
  rw [← hsm]
  refine q0N (fun j => j ≤ C) [0, 1, 2, 3, 8, 9] [8] Lk Lk (fun j : Nat => [(10, iv j)]) (fun j => [(9, ⟨26, some 5, [.ag [iv R, iv C, .ow 1001 none 0 (gM raw R sm j).1.length, .ow 1002 none 0 (gM raw R sm j).2.1.length, .ow 1003 none 0 (gM raw R sm j).2.2.length]], false⟩), (1001, ⟨3, none, (gM raw R sm j).1.map fun z => iv z, false⟩), (1002, ⟨3, none, (gM raw R sm j).2.1.map fun z => iv z, false⟩), (1003, ⟨43, none, (gM raw R sm j).2.2.map fun z : Nat => uv z, false⟩)]) (fun _ => h0) (fun j => C - j) 0 (Nat.zero_le _) ?_ ?_
  · refine LeW [(1001, some 15), (1002, none), (1003, none)] rfl rfl ?_ ?_ (by simp [q09, q05, win]) ?_
    · exact Ow
    · exact hW
    · try refine Zz ?_
      exact ⟨rfl, ⟨rfl, rfl, rfl⟩, rfl, rfl, rfl⟩
  · intro j hj
    have hg := qfR (raw := raw) (R := R) (st := sm) j
    have hjR : j * R ≤ 1000 * 1000 := Nat.mul_le_mul Oq hR
    refine wk ?_
    by_cases hlt : j < C
    · have hlt' : (j : Int) < C := by omega
      refine wk1 hlt' ?_
      refine q0N (fun i => i ≤ R) [0, 1, 2, 3, 8, 9, 10] [8, 1001] Lk Lk (fun i : Nat => [(11, iv i)]) (fun i => [(9, ⟨26, some 5, [.ag [iv R, iv C, .ow 1001 none 0 (gM raw R sm j).1.length, .ow 1002 none 0 (gC raw R sm j (gM raw R sm j).2 i).1.length, .ow 1003 none 0 (gC raw R sm j (gM raw R sm j).2 i).2.length]], false⟩), (1002, ⟨3, none, (gC raw R sm j (gM raw R sm j).2 i).1.map fun z => iv z, false⟩), (1003, ⟨43, none, (gC raw R sm j (gM raw R sm j).2 i).2.map fun z : Nat => uv z, false⟩)]) (fun _ => h0) (fun i => R - i) 0 (Nat.zero_le _) ?_ ?_
      · refine LeW [] rfl rfl ?_ ?_ (by simp [q09, q05, win]) ?_
        · exact Ow
        · exact hW
        · try refine Zz ?_
          exact ⟨rfl, ⟨rfl, rfl⟩, rfl, rfl⟩
      · intro i hi
        have hq := qba (raw := raw) (R := R) (st := sm) (j := j) hg.2.1 i
        refine wk ?_
        by_cases hlt2 : i < R
        · have hlt2' : (i : Int) < R := by omega
          refine wk1 hlt2' ?_
          have e0 : 0 ≤ (j : Int) * R := Int.mul_nonneg Oq Oq
          have e1 : (j : Int) * R ≤ 1000000 := by have : ((j * R : Nat) : Int) ≤ 1000000 := by omega
                                                  rwa [Int.natCast_mul] at this
          obtain ⟨x, hx⟩ : ∃ x, x = q2v raw (100 + j * R + i) := ⟨_, rfl⟩
          have hxl : x < 18446744073709551616 := by rw [hx]; exact q2H _ _
          have e2 : (((x : Nat) : Int).fdiv (2 ^ min (Int.toNat 40) 64)) = ((x / 1099511627776 : Nat) : Int) := by
            show (((x : Nat) : Int).fdiv (2 ^ 40)) = _
            rw [show ((2 : Int) ^ 40) = ((1099511627776 : Nat) : Int) from rfl, Int.fdiv_eq_ediv_of_nonneg _ (by omega)]; rfl
          have e3 : (((x / 1099511627776 : Nat) : Int).tmod 3) = ((x / 1099511627776 % 3 : Nat) : Int) := by rw [Int.tmod_eq_emod_of_nonneg (by omega)]; rfl
          have C1 := @q4W
          have C2 := @qbT
          have ek : (decide (((x / 1099511627776 % 3 : Nat) : Int) > 0)) = decide (keep x) := by unfold keep; congr 1; exact propext ⟨fun h => by omega, fun h => by omega⟩
          by_cases hkp : keep x
          · refine wk1 (x6 hx.symm hsm.symm e2 e3 ek hkp) ?_
            have eg : gC raw R sm j (gM raw R sm j).2 (i + 1) = ((gC raw R sm j (gM raw R sm j).2 i).1 ++ [(i : Int)], (gC raw R sm j (gM raw R sm j).2 i).2 ++ [q2T sm x]) := by
              simp only [gC]; rw [← hx, if_pos hkp]
            refine ⟨i + 1, by omega, by omega, ?_⟩
            rw [eg]
            refine LeW [(1002, some 43), (1003, some 51)] rfl rfl ?_ ?_ (by simp [q09, q05, win]) ?_
            · exact Ow
            · exact hW
            · try refine Zz ?_
              omega
          · refine wk1 (x5 hx.symm e2 e3 ek hkp) ?_
            refine ⟨i + 1, by omega, by omega, ?_⟩
            have eg : gC raw R sm j (gM raw R sm j).2 (i + 1) = gC raw R sm j (gM raw R sm j).2 i := by
              simp only [gC]; rw [← hx, if_neg hkp]
            rw [eg]
            refine LeW [] rfl rfl ?_ ?_ (by simp [q09, q05, win]) ?_
            · exact Ow
            · exact hW
            · try refine Zz ?_
              omega
        · have hlt2' : ¬ (i : Int) < R := by omega
          obtain rfl : i = R := by omega
          refine wk1 hlt2' ?_
          refine ⟨j + 1, by omega, by omega, ?_⟩
          refine LeW [(1001, some 59)] rfl rfl ?_ ?_ (by simp [q09, q05, win]) ?_
          · exact Ow
          · exact hW
          · try refine Zz ?_
            exact ⟨by omega, ⟨by simp [gM], rfl, rfl⟩, rfl, rfl, rfl⟩
    · have hlt' : ¬ (j : Int) < C := by omega
      obtain rfl : j = C := by omega
      refine wk1 (x2 hlt' hsm.symm) ?_
      refine (rtM (rs := [.cell 8 26]) rfl rfl Lq ?_ (.inl rfl))
      refine LeGm (T1 := 3) (T2 := 3) (b := 1001) (d := 1002) (a := 1003) hJ ?_ ?_ ?_ clU Oq Oq
      · try simp -implicitDefEqProofs (disch := omega) only [go_sem, Nat.reduceEqDiff, Nat.reduceAdd, ↓reduceIte]
      · try simp -implicitDefEqProofs (disch := omega) only [go_sem, Nat.reduceEqDiff, Nat.reduceAdd, ↓reduceIte]
      · try simp -implicitDefEqProofs (disch := omega) only [go_sem, Nat.reduceEqDiff, Nat.reduceAdd, ↓reduceIte]
def f1T (F:Nat→Nat→Option Nat) (R w:Nat) (j i:Nat):Option Nat:=match F j i with
 | none=>none
 | some x=>if (tC F j (tM F R j).2 i).2=[] then some w else some x
def qmq {l:List Nat} {x w:Nat} (h:l≠[]):(l ++ [x]).set 0 w=l.set 0 w ++ [x]:=by
 cases l with
 | nil=>exact (h rfl).elim
 | cons a l=>rfl
def f1C {F:Nat→Nat→Option Nat} {R w j:Nat} {p:List Int × List Nat} (hp:p=(tM F R j).2):∀ i,tC (f1T F R w) j (p.1,p.2.set 0 w) i=((tC F j p i).1,(tC F j p i).2.set 0 w)
 | 0=>rfl
 | i+1=>by
  have ih:=f1C (w:=w) hp i
  rcases hF:F j i with _ | x
  ·rw [q83 hF,q83 (show f1T F R w j i=none by unfold f1T; rw [hF]),ih]
  ·rw [q85 hF]
   by_cases h:(tC F j p i).2=[]
   ·rw [q85 (x:=w) (show f1T F R w j i=some w by unfold f1T; rw [hF]; dsimp only; rw [← hp,if_pos h]),ih,h]; rfl
   ·rw [q85 (x:=x) (show f1T F R w j i=some x by unfold f1T; rw [hF]; dsimp only; rw [← hp,if_neg h]),ih,qmq h]
def f1M {F:Nat→Nat→Option Nat} {R w:Nat}:∀ j,tM (f1T F R w) R j=((tM F R j).1,(tM F R j).2.1,(tM F R j).2.2.set 0 w)
 | 0=>rfl
 | j+1=>by
  have ih:=f1M (F:=F) (R:=R) (w:=w) j;have e:=f1C (F:=F) (R:=R) (w:=w) (j:=j) rfl R;simp only [tM];rw [ih];dsimp only;rw [e]
def f1_ok {F:Nat→Nat→Option Nat} {R C w:Nat} (h:TOk F R C) (hw:w < 18446744073709551616) (hf:q0M w):TOk (f1T F R w) R C:=by
 refine ⟨h.r,h.c,h.m,fun j i x hj hi hx=>?_,fun j i x hj hi hx=>?_⟩ <;>
 ·unfold f1T at hx
  split at hx
  ·cases hx
  ·rename_i y hy
   split at hx <;> cases hx
   ·assumption
   ·first | exact h.u j i _ hj hi hy | exact h.v j i _ hj hi hy
def qtH {F:Nat→Nat→Option Nat} {R C w:Nat} (h:TOk F R C) (hn:0 < (tM F R C).2.2.length) (hf:¬ q0M w):q2h R C (tM F R C).1 (tM F R C).2.1 ((tM F R C).2.2.set 0 w)=4:=by
 have h0:=h.chk;unfold q2h at h0 ⊢
 split at h0
 ·rename_i hS;rw [if_pos hS]
  split at h0
  ·rename_i hP;rw [if_pos ⟨⟨by rw [List.length_set]; exact hP.1.v,hP.1.s,hP.1.f,hP.1.l,hP.1.m⟩,hP.2⟩,if_neg];intro hA;exact hf (hA w (by
    rw [List.mem_iff_getElem?];exact ⟨0,by rw [List.getElem?_set_self (by omega)]⟩))
  ·cases h0
 ·cases h0
def Rfz (R C:Nat) (ms mi:List Int) (X:List Nat):Prop :=
 (∃ (V e:Int),ACt 55 [q0b R C ms mi X] (.tu [pV V,iv e])∧ACt 56 [q0b R C ms mi X] (.tu [pV V,iv e])) ∧
 (∀ (a b:Nat) (v:List Nat),a≤64→b≤64→v.length≤1000→(∀ x ∈ v,x < 18446744073709551616)→∃ q p,(ACt 57 [q0b R C ms mi X,pPn a b v] (pBn q)∧ACt 58 [q0b R C ms mi X,pPn a b v] (pBn q))∧(ACt 53 [q0b R C ms mi X,pPn a b v] (pBn p)∧ACt 59 [q0b R C ms mi X,pPn a b v] (pBn p))) ∧
 (∀ y:List Nat,y.length≤1000→(∀ x ∈ y,x < 18446744073709551616)→∃ (l:Nat) (e:Int),ACt 65 [q0b R C ms mi X,pF y] (.tu [uv l,iv e])∧ACt 66 [q0b R C ms mi X,pF y] (.tu [uv l,iv e])) ∧
 (∀ g:LUt,LUb g→g.rows.length≤20→∃ (l:Nat) (m e:Int),ACt 67 [q0b R C ms mi X,pLU g] (.tu [uv l,iv m,iv e])∧ACt 68 [q0b R C ms mi X,pLU g] (.tu [uv l,iv m,iv e]))
def qk5 {R C : Nat} {F : Nat → Nat → Option Nat} (h : TOk F R C) (hR : R ≤ 20) (hC : C ≤ 20) : Rfz R C (tM F R C).1 (tM F R C).2.1 (tM F R C).2.2 :=
  ⟨⟨_, _, q7r h hR hC, q5T h hR hC⟩,
   fun a b v ha hb hn hv => ⟨_, _, ⟨qgE h hR hC ha hb Oq hv, qd5 h hR hC ha hb Oq hv⟩, ⟨q7s h hR hC ha hb Oq hv, qac h hR hC ha hb Oq hv⟩⟩,
   fun y hn hy => ⟨_, _, q6D h hR hC hy Oq, q4U h hR hC hy Oq⟩,
   fun g hg hn => ⟨_, _, _, qaT h hR hC hg hn, q92 h hR hC hg hn⟩⟩
def qmz {R C : Nat} {ms mi : List Int} {X : List Nat} (h : q2h R C ms mi X = 4) (hs : ms.length ≤ 1000) (hi : mi.length ≤ 1000) (hl : X.length ≤ 1000) (hu : ∀ x ∈ X, x < 18446744073709551616) : Rfz R C ms mi X := by
  have C1 := qhq h hu
  have C2 := qeY h hs hi hl hu
  exact ⟨⟨_, _, qgD C1, qd4 C2⟩,
   fun a b v ha hb hn hv => ⟨_, _, ⟨qjS C1, qgt C2⟩, ⟨qgF C1, qd7 C2⟩⟩,
   fun y hn hy => ⟨_, _, qdG C1, qcW C2⟩,
   fun g hg hn => ⟨_, _, _, qjT C1, qgu C2⟩⟩
def qmy {R C w:Nat} {F:Nat→Nat→Option Nat} (h:TOk F R C) (hR:R≤20) (hC:C≤20) (hw:w < 18446744073709551616) (hn:0 < (tM F R C).2.2.length):Rfz R C (tM F R C).1 (tM F R C).2.1 ((tM F R C).2.2.set 0 w):=by
 by_cases hf:q0M w
 ·have:=qk5 (f1_ok h hw hf) hR hC;rw [f1M] at this;exact this
 ·obtain ⟨m1,m2,m3⟩:=q1N (f:=F) (R:=R) C;have hCR:C*R≤20*20:=Nat.mul_le_mul hC hR;refine qmz (qtH h hn hf) (by omega) (by omega) (by rw [List.length_set]; omega) fun x hx=>?_
  rcases List.mem_or_eq_of_mem_set hx with hx | rfl
  ·exact h.vl.2.2.2 x hx
  ·exact hw
section
variable {raw:List Nat} {r c sa ta long n:Int} {value:Nat}
def q6U (hr:raw.length≤9223372036854775807) (h1 : -9223372036854775808≤r) (h2:r≤9223372036854775807) (h3 : -9223372036854775808≤c) (h4:c≤9223372036854775807) (h5 : -9223372036854775808≤sa) (h6:sa≤9223372036854775807) (h7 : -9223372036854775808≤ta) (h8:ta≤9223372036854775807) (h9 : -9223372036854775808≤long) (h10:long≤9223372036854775807) (h11 : -9223372036854775808≤n) (h12:n≤9223372036854775807) (hval:value < 18446744073709551616) :
  ACt 14 [pF raw,iv r,iv c,iv sa,iv ta,iv long,uv value,iv n] (bv true):=by
 have cA:=q6I;have cP:=q5G (st:=0) (rg:=true) (sp:=0) (wild:=true) hr h11 h12 Oq Oq Oq Oq;have hN:q02 n 5 < 5:=by unfold q02; omega
 generalize q02 n 5=N at *;have hF:=q9O (raw:=raw) (N:=N) (st:=0) (rg:=true) Oq;have cI:=qb7 (n:=N) Oq;have cL:=q5J (num:=1) (den:=1) hF Oq (cols:=qah N) (q8X N) Oq Oq Oq;obtain ⟨hb,hbr⟩:=qow (raw:=raw) (N:=N) (st:=0) (rg:=true) Oq;unfold qtE at cL;change ACt _ _ (.tu [pLU (ckL raw N 0 true),_,_]) at cL;generalize ckL raw N 0 true=f at *;generalize ckT raw N 0 true=F at *;generalize ckV raw N 0 true 0 true=v0 at *;generalize qah N=o at *;have cR:=q2p (a:=r) (n:=4) h1 h2 Oq Oq;have cC:=q2p (a:=c) (n:=4) h3 h4 Oq Oq;have cS:=q2p (a:=sa) (n:=4) h5 h6 Oq Oq;have cT:=q2p (a:=ta) (n:=4) h7 h8 Oq Oq;have cO:=q2p (a:=long) (n:=4) h9 h10 Oq Oq;have hR:q02 r 4 < 4:=by unfold q02; omega
 have hC:q02 c 4 < 4:=by unfold q02; omega
 have hS:q02 sa 4 < 4:=by unfold q02; omega
 have hT:q02 ta 4 < 4:=by unfold q02; omega
 have hO:q02 long 4 < 4:=by unfold q02; omega
 generalize q02 r 4=R at *;generalize q02 c 4=C at *;generalize q02 sa 4=S at *;generalize q02 ta 4=T at *;generalize q02 long 4=L at *;have hCR:C*R≤4*4:=Nat.mul_le_mul Oq Oq;have hG:=qiT (raw:=raw) (R:=R) (C:=C) (st:=q02 0 4) Oq Oq Oq;have cG:=qaD (raw:=raw) (st:=0) (R:=R) (C:=C) hr Oq Oq Oq Oq;rw [qso] at cG;have hz0:=qk5 hG Oq Oq;have hz1:=fun hn=>qmy (w:=value) hG Oq Oq hval hn;have hml:=q1N (f:=gF raw R (q02 0 4)) (R:=R) C;have hmu:=hG.vl.2.2.2;have cQ:=q8g (raw:=raw) (r:=S) (c:=T) (st:=0) hr Oq Oq Oq Oq;have hST:S*T≤4*4:=Nat.mul_le_mul Oq Oq;have hpl:=q1y (raw:=raw) (k:=500) (st:=q02 0 4) (n:=S*T);have hpu:∀ x ∈ q5X raw 500 (q02 0 4) (S*T),x < 18446744073709551616:=fun x hx=>(q3e x hx).1;have cV:=q63 (raw:=raw) (k:=2) (st:=0) (n:=L) hr Oq Oq Oq Oq Oq;have hvl:=q1y (raw:=raw) (k:=2) (st:=q02 0 4) (n:=L);have hvu:∀ x ∈ q5X raw 2 (q02 0 4) L,x < 18446744073709551616:=fun x hx=>(q3e x hx).1;generalize gF raw R (q02 0 4)=G at *;generalize q5X raw 500 (q02 0 4) (S*T)=p at *;generalize q5X raw 2 (q02 0 4) L=y at *;generalize S*T=m at *;unfold pT q0b pPn pLU at *;clear hG;generalize (tM G R C).1=ms at *;generalize (tM G R C).2.1=mi at *;generalize (tM G R C).2.2=mv at *;generalize (tM F N N).1=ns at *;generalize (tM F N N).2.1=ni at *;generalize (tM F N N).2.2=nv at *;refine ac0 Tryz.func14 Tryz.ntmps14 [.tmp 16] ?_;refine wk ?_;refine qjp fun K hK=>?_;refine Zz ?_;refine jc ?_
 try refine Zz ?_
 refine q0O cR ?_
 try refine Zz ?_
 refine jc ?_
 try refine Zz ?_
 refine q0O cC ?_
 try refine Zz ?_
 refine jmF cG ?_ ?_
 ·exact Ow
 try refine Zz ?_
 refine hK _ _ ?_; clear hK K;refine wk ?_;refine qgo fun K hK=>?_;have fin:∀ (X:List Nat) (s:Nat→PV) (h:Hp),Rfz R C ms mi X→Le (fun _=>False) s h (stM [(0,pF raw),(3,iv sa),(4,iv ta),(5,iv long),(6,uv value),(7,iv n),(17,.pt 17 0 0)] []) (hpM [(17,⟨26,some 5,[.ag [iv R,iv C,pI ms,pI mi,pF X]],false⟩)] [])→K s h:=by
  clear cG cR cC hz0 hz1 hml hmu;intro X s h hX hl;refine hK _ _ (q0q hl ?_); clear hK K hl;refine wk ?_;refine qjp fun K hK=>?_;refine Zz ?_;refine jc ?_
  try refine Zz ?_
  refine q0O cS ?_
  try refine Zz ?_
  refine jc ?_
  try refine Zz ?_
  refine q0O cT ?_
  try refine Zz ?_
  refine jmF cQ ?_ ?_
  ·exact Ow
  try refine Zz ?_
  refine hK _ _ ?_; clear hK K;refine wk ?_;refine qgo fun K hK=>?_;have fin:∀ (V:List Nat) (s:Nat→PV) (h:Hp),V.length≤1000→(∀ x ∈ V,x < 18446744073709551616)→Le (fun _=>False) s h (stM [(0,pF raw),(5,iv long),(6,uv value),(7,iv n),(17,.pt 17 0 0),(18,.pt 18 0 0)] []) (hpM [(17,⟨26,some 5,[.ag [iv R,iv C,pI ms,pI mi,pF X]],false⟩),(18,⟨82,some 3,[.ag [iv S,iv T,pF V]],false⟩)] [])→K s h:=by
   clear cQ cS cT hpl hpu;intro V s h hV hVu hl;refine hK _ _ (q0q hl ?_); clear hK K hl;refine wk ?_;refine qjp fun K hK=>?_;refine Zz ?_;refine jc ?_
   try refine Zz ?_
   refine q0O cO ?_
   try refine Zz ?_
   refine jmF cV ?_ ?_
   ·exact Ow
   try refine Zz ?_
   refine hK _ _ ?_; clear hK K;refine wk ?_;refine qgo fun K hK=>?_;have fin:∀ (Y:List Nat) (s:Nat→PV) (h:Hp),Y.length≤1000→(∀ x ∈ Y,x < 18446744073709551616)→Le (fun _=>False) s h (stM [(0,pF raw),(7,iv n),(17,.pt 17 0 0),(18,.pt 18 0 0),(19,pF Y)] []) (hpM [(17,⟨26,some 5,[.ag [iv R,iv C,pI ms,pI mi,pF X]],false⟩),(18,⟨82,some 3,[.ag [iv S,iv T,pF V]],false⟩)] [])→K s h:=by
    clear cV cO hvl hvu;intro Y s h hY hYu hl;refine hK _ _ (q0q hl ?_); clear hK K hl;obtain ⟨⟨d1,d2,e1,e2⟩,hb2,hb3,hb4⟩:=hX;obtain ⟨⟨q1,q2,q3,q4⟩,⟨p1,p2,p3,p4⟩,⟨e3,e4⟩,⟨e5,e6⟩⟩:=hb2 S T V Oq Oq hV hVu;obtain ⟨l1,l2,e7,e8⟩:=hb3 Y hY hYu;obtain ⟨z1,z2,z3,e9,e10⟩:=hb4 f hb Oq;clear hb2 hb3 hb4;have b1:∀ x:Int,(x == x)=true:=fun x=>by simp
    have b2:∀ x:Bool,(x == x)=true:=fun x=>by simp
    unfold q0b pPn pLU at *;exact wk1 (x2 b1 b2) trivial
   by_cases k1:(L:Int) > 0
   ·cases k2:(long.tmod 3 == 0)
    ·refine wk1 (x3 k1 k2 hvl) ?_;refine fin y _ _ Oq hvu (LeM [] rfl rfl ?_)
     try refine Zz ?_
     exact q4O (T:=43) rfl clU rfl (by rw [List.length_map]; omega)
    ·refine wk1 (x3 k1 k2 hvl) ?_;refine fin (y.set 0 value) _ _ (by rw [List.length_set]; omega) (fun v hx=>?_) (LeM [] rfl rfl ?_)
     ·rcases List.mem_or_eq_of_mem_set hx with h | rfl
      ·exact hvu v h
      ·exact hval
     try refine Zz ?_
     exact q4O (T:=43) (by rw [List.map_set]; rfl) clU rfl (by rw [List.length_map,List.length_set]; omega)
   ·refine wk1 (x2 k1 hvl) ?_;refine fin y _ _ Oq hvu (LeM [] rfl rfl ?_)
    try refine Zz ?_
    exact q4O (T:=43) rfl clU rfl (by rw [List.length_map]; omega)
  by_cases k1:(m:Int) > 0
  ·cases k2:(long.tmod 5 == 0)
   ·refine wk1 (x3 k1 k2 hpl) ?_;refine fin p _ _ Oq hpu (LeM [] rfl rfl ?_)
    try refine Zz ?_
    exact q4O (T:=43) rfl clU rfl (by rw [List.length_map]; omega)
   ·refine wk1 (x3 k1 k2 hpl) ?_;refine fin (p.set 0 value) _ _ (by rw [List.length_set]; omega) (fun v hx=>?_) (LeM [] rfl rfl ?_)
    ·rcases List.mem_or_eq_of_mem_set hx with h | rfl
     ·exact hpu v h
     ·exact hval
    try refine Zz ?_
    exact q4O (T:=43) (by rw [List.map_set]; rfl) clU rfl (by rw [List.length_map,List.length_set]; omega)
  ·refine wk1 (x2 k1 hpl) ?_;refine fin p _ _ Oq hpu (LeM [] rfl rfl ?_)
   try refine Zz ?_
   exact q4O (T:=43) rfl clU rfl (by rw [List.length_map]; omega)
 by_cases k1:(mv.length:Int) > 0
 ·have hz2:=hz1 Oq;cases k2:(long.tmod 4 == 0)
  ·refine wk1 (x2 k1 k2) ?_;refine fin mv _ _ hz0 (LeM [] rfl rfl ?_)
   try refine Zz ?_
   exact q4O (T:=43) rfl clU rfl (by rw [List.length_map])
  ·refine wk1 (x2 k1 k2) ?_;refine fin (mv.set 0 value) _ _ hz2 (LeM [] rfl rfl ?_)
   try refine Zz ?_
   exact q4O (T:=43) (by rw [List.map_set]; rfl) clU rfl (by rw [List.length_map,List.length_set])
 ·refine wk1 k1 ?_;refine fin mv _ _ hz0 (LeM [] rfl rfl ?_)
  try refine Zz ?_
  exact q4O (T:=43) rfl clU rfl (by rw [List.length_map])
end
set_option maxRecDepth 100000
def qdA (os:Os) (started:os.Started) (H:Type) (enc:TypeId × Value→H) :
  ReturnsInHanded {} Tryz.checked os 14 .any (fun w args=>(Rows.condRefusesSpec.pre enc Tryz.prog Tryz.f14 [] false w args∧laidMetH Tryz.prog q6T w)∧sizedMet enc Tryz.prog Tryz.f14 (OpenSpec.ofChange Rows.condRefusesSpec) false w args)
   (Rows.condRefusesSpec.post enc Tryz.prog Tryz.f14 false true false false):=by
 refine returnsInHanded_of_change_and (C:=Tryz.checked) (X:=fun w _=>laidMetH Tryz.prog q6T w) (fun _ _ _ hh h=>h.of_heap hh) own started (by kernel_rfl) Tryz.func14
  (ChangeSpec.witness_shaped (enc:=enc) (C:=Tryz.checked) (os:=os) (X:=fun w _=>laidMetH Tryz.prog q6T w) false (World.doorLaid Tryz.prog 400 os) #[.slice none 0 0,.int .i64 0,.int .i64 0,.int .i64 0,.int .i64 0,.int .i64 0,.int .u64 0,.int .i64 0] 8 rfl (World.shaped_of_RefB (by kernel_rfl) (by kernel_rfl)) (by kernel_rfl) (by kernel_rfl) (by kernel_rfl) (q7i os _)) ?_
 intro W base args ds gs before hval0 hW _ _ hL _;have hval:∀ (j:Nat) t v,Tryz.f14.params[j]?=some t→args[j]?=some v→Value.okWide Tryz.prog W .any base t v:=hval0;have hW':DataW.Whole enc Tryz.prog Tryz.f14.params.toList Rows.condRefusesSpec.vars false W args.toList ds gs before:=hW;obtain ⟨p,q,hA0,hV,rfl,_,_⟩:=hW;have hA:DataW.TrodAll enc Tryz.prog W 0 (fun _=>true) true [22,3,3,3,3,3,42,3] args.toList ds p:=hA0;obtain ⟨v0,s0,d0,e0,p0,q0,ha,rfl,rfl,h0,r0⟩:=trodAll_cons hA;obtain ⟨v1,s1,d1,e1,p1,q1,rfl,rfl,rfl,h1,r1⟩:=trodAll_cons r0;obtain ⟨v2,s2,d2,e2,p2,q2,rfl,rfl,rfl,h2,r2⟩:=trodAll_cons r1;obtain ⟨v3,s3,d3,e3,p3,q3,rfl,rfl,rfl,h3,r3⟩:=trodAll_cons r2;obtain ⟨v4,s4,d4,e4,p4,q4,rfl,rfl,rfl,h4,r4⟩:=trodAll_cons r3;obtain ⟨v5,s5,d5,e5,p5,q5,rfl,rfl,rfl,h5,r5⟩:=trodAll_cons r4;obtain ⟨v6,s6,d6,e6,p6,q6,rfl,rfl,rfl,h6,r6⟩:=trodAll_cons r5;obtain ⟨v7,s7,d7,e7,p7,q7,rfl,rfl,rfl,h7,r7⟩:=trodAll_cons r6;obtain ⟨rfl,rfl,rfl⟩:=trodAll_nil r7;obtain rfl:args=#[v0,v1,v2,v3,v4,v5,v6,v7]:=by cases args; simp_all
 obtain ⟨rfl,rfl⟩:=trodVars_none hV;obtain ⟨A0,n0,c0,y0,rfl,hn0,hi0⟩:=q5K (hval 0 22 _ rfl rfl) h0;obtain ⟨y1,rfl,_,_,g1⟩:=open_int qdP (hval 1 3 _ rfl rfl) h1;simp only [Lit.wf,Bool.and_eq_true,decide_eq_true_eq] at g1;obtain ⟨y2,rfl,_,_,g2⟩:=open_int qdP (hval 2 3 _ rfl rfl) h2;simp only [Lit.wf,Bool.and_eq_true,decide_eq_true_eq] at g2;obtain ⟨y3,rfl,_,_,g3⟩:=open_int qdP (hval 3 3 _ rfl rfl) h3;simp only [Lit.wf,Bool.and_eq_true,decide_eq_true_eq] at g3;obtain ⟨y4,rfl,_,_,g4⟩:=open_int qdP (hval 4 3 _ rfl rfl) h4;simp only [Lit.wf,Bool.and_eq_true,decide_eq_true_eq] at g4;obtain ⟨y5,rfl,_,_,g5⟩:=open_int qdP (hval 5 3 _ rfl rfl) h5;simp only [Lit.wf,Bool.and_eq_true,decide_eq_true_eq] at g5;obtain ⟨z6,rfl,_,_,g6⟩:=open_int qmQ (hval 6 42 _ rfl rfl) h6;simp only [Lit.wf,Bool.and_eq_true,decide_eq_true_eq] at g6;have l6:(0:Int)≤z6:=g6.1;have m6:z6≤(18446744073709551615:Int):=g6.2;obtain ⟨y6,rfl⟩:∃ x:Nat,z6=x:=⟨z6.toNat,by omega⟩;obtain ⟨y7,rfl,_,_,g7⟩:=open_int qdP (hval 7 3 _ rfl rfl) h7;simp only [Lit.wf,Bool.and_eq_true,decide_eq_true_eq] at g7;have hc:=q6U (raw:=y0) (value:=y6) (by rw [hi0.sc_len]; exact hn0) g1.1 g1.2 g2.1 g2.2 g3.1 g3.2 g4.1 g4.2 g5.1 g5.2 g7.1 g7.2 (by omega);refine (hc.2 _ W [_,_,_,_,_,_,_,_] (q9f hL) (Fr.triv _) (q2P (qh5 hi0) (q2P q2Q (q2P q2Q (q2P q2Q (q2P q2Q (q2P q2Q (q2P q2Q (q2P q2Q qnD))))))))).mono fun e W' ⟨v,he,hx,hr⟩=>?_;rw [qbJ hr] at he;subst he;exact ⟨_,rfl,q76 rfl hW' (by kernel_rfl) rfl rfl hx⟩
def qto:(Rows.condRefusesRow.inPlace == Tryz.pinned.checked.prog.inPlace 14)=true:=by kernel_rfl
def qtn:(Rows.condRefusesRow.unfollowed == Tryz.pinned.checked.prog.unfollowed 14)=true:=by kernel_rfl
def qtm:(Rows.condRefusesRow.recurses == Tryz.pinned.checked.prog.recurses 14)=true:=by kernel_rfl
def qtl:(Rows.condRefusesRow.named == Tryz.pinned.checked.prog.varsNamed 14)=true:=by kernel_rfl
def qtk:joinedFacts Tryz.pinned.checked.prog 14 Tryz.f14 Rows.condRefusesSpec Rows.condRefusesRow=true:=by
 unfold joinedFacts;rw [qto,qtn,qtm,qtl]
 kernel_rfl
def q4a:Rows.CondRefusesSaid :=
 OpenClaim.holds_of_wide 14 Tryz.f14 rfl rfl rfl rfl rfl rfl rfl ⟨rfl,rfl,rfl,rfl,rfl⟩ rfl rfl rfl rfl rfl (by kernel_rfl) Tryz.func14 qtk
  (of_decide_eq_true (by kernel_rfl)) (by unfold Func.isWrapper; first | (rw [if_pos (by decide +kernel)]; kernel_rfl) | (rw [if_neg (by decide +kernel)]; exact ⟨rfl,rfl⟩))
  (fun os started H enc _=>qdA os started H enc)
set_option maxRecDepth 100000
def qtt:OpenClaim.wfByText (OpenSpec.ofChange Rows.condRefusesSpec) Rows.condRefusesRow=true:=by kernel_rfl
def qts : Tryz.pinned.checked.prog.mainIs = some (true, ("a2740fb67fdf1770b87b446d3cf87e00c3ed12e7a272b0be716aadfd10a83fed" : String).toList) := by kernel_rfl
def qtr:false=Tryz.pinned.checked.prog.looks []:=by kernel_rfl
def qtq:false=Rows.condRefusesRow.goesBy Tryz.pinned.checked.prog:=by kernel_rfl
def qtp : Tryz.prog.funcNamed "sparse/sparselaw43.CondRefuses" = some 14 := by kernel_rfl
theorem crf_card:Rows.CondRefusesCardSaid :=
 Claim7.holds_tied_plain_at .later [] [.data] true (true, "a2740fb67fdf1770b87b446d3cf87e00c3ed12e7a272b0be716aadfd10a83fed") false
  q4a (fun _ h=>by cases h) qtt (fun _ h=>by cases h) condRefuses_row_tie rfl ⟨rfl,rfl⟩ qts rfl
  (fun f fn hf hfn=>by
   obtain rfl:f=14:=Option.some.inj (qtp.symm.trans hf) |>.symm;obtain rfl:fn=Tryz.f14:=(Option.some.inj (Tryz.func14.symm.trans hfn)).symm;exact ⟨qtr,fun j t ht=>by
    have hm:t ∈ [22,3,3,3,3,3,42,3]:=by simpa using Array.mem_of_getElem? ht
    have hall:([22,3,3,3,3,3,42,3].all fun u=>!Tryz.prog.wantsStandIn u)=true:=by kernel_rfl
    exact (show Tryz.prog.wantsStandIn t=false by simpa using List.all_eq_true.1 hall t hm)⟩)
  qtq
#print axioms crf_card
end Go.Proofs.YtfmojhhokfkdaaaGreatDoor
