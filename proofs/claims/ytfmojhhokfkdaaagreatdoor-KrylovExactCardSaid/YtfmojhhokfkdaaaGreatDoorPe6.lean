/- KrylovExact. 6/6. -/
import Derived.SevenTiedAt
import Derived.Test.YtfmojhhokfkdaaaGreatDoorCards
import Derived.Test.YtfmojhhokfkdaaaGreatDoorTie
import Derived.Test.YtfmojhhokfkdaaaGreatDoorPe5
set_option linter.unusedSimpArgs false
set_option linter.unusedVariables false
set_option maxRecDepth 20000
set_option maxHeartbeats 2000000
set_option linter.defProp false
namespace Go.Proofs.YtfmojhhokfkdaaaGreatDoor
open Go Go.E Go.Sp Go.ChangeShapes Go.WideShapes Go.ChangeAt Go.WideMaps Go.WideElems Go.RowKit
set_option maxRecDepth 100000
abbrev qel : List (String × DataW Unit) := [("math/bits.deBruijn32tab", Rows.laid_math_bits_deBruijn32tab)]
def own:ownKnob Tryz.prog.godebug=none:=by kernel_rfl
def qfd (os:Os) (args:Array Value):laidMetH Tryz.prog qel ((World.doorLaid Tryz.prog 400 os).forCall (fun _ _=>0) ⟨#[],args,[]⟩).memory :=
 laidMetH_of_parts3 (fuel:=8) (laidMet_of_run' 8 (by kernel_rfl) (by kernel_rfl)) (by kernel_rfl) (by kernel_rfl)
def undW:Tryz.prog.underlying 22=some (.slice 42):=by kernel_rfl
def cellU:Tryz.prog.cellsOf 42=1:=by kernel_rfl
def qem {H:Type} {enc:TypeId × Value→H} {W:World} {v:Value} {d:DataW H} {p:List MemPlace} {b0:Nat} (hv:Value.okWide Tryz.prog W .any b0 22 v) (h:DataW.Trod enc Tryz.prog W 0 (fun _=>true) true 22 v d p) :
  ∃ A n c raw,v=.slice A n c∧n≤9223372036854775807∧In (fSc q2A raw) (fun _=>True) (.slice A n c) W:=by
 obtain ⟨A,n,c,rfl⟩:=okWide_slice undW hv;obtain ⟨fuel,hf⟩:=h
 rcases open_ints undW qlf cellU hf with ⟨h1,_⟩ | ⟨a,len,cap,zs,h1,_,hl,hm,hz,_,hc,hw⟩
 ·injection h1 with h1 _
  injection h1 with h1 h2 h3
  subst h1; subst h2; subst h3;exact ⟨_,_,_,[],rfl,by omega,In.sc_nil⟩
 ·injection h1 with h1 _
  injection h1 with h1 h2 h3
  subst h1; subst h2; subst h3;have hz':zs.length=c:=by simpa using hz
  refine ⟨_,_,_,(zs.take n).map Int.toNat,rfl,by unfold maxLen at hm; omega,some a,n,c,rfl,hl,by simp; omega,fun _=>⟨a,rfl,trivial,fun j u hu=>?_⟩⟩;rw [List.getElem?_map,List.getElem?_map,List.getElem?_take] at hu
  split at hu
  ·rename_i hj;have hjz:j < zs.length:=by omega
   rw [List.getElem?_eq_getElem hjz] at hu;have h0:=hc j hjz;rw [List.getD_eq_getElem?_getD,List.getElem?_eq_getElem hjz] at h0;have h1:=hw zs[j] (List.getElem_mem _);simp only [Lit.wf,Bool.and_eq_true,decide_eq_true_eq] at h1;have h2:(0:Int)≤zs[j]:=h1.1;rw [h0,← Option.some.inj hu]
   show some (Value.int .u64 zs[j])=some (Value.int .u64 ((zs[j].toNat:Nat):Int))
   rw [Int.toNat_of_nonneg h2]
  ·cases hu
section
variable {w:World} {D:Nat→Prop} {ρ:Nat→Option Nat} {h:Hp} {x:PV} {l:List PV} {a:Value} {vs:List Value}
def rdl_0:RdL w D [] ρ h []:=by unfold RdL; rfl
def qnF (h1:Rd w D x ρ h a) (h2:RdL w D l ρ h vs):RdL w D (x :: l) ρ h (a :: vs):=by
 unfold RdL;exact ⟨_,_,rfl,h1,h2⟩
end
set_option maxRecDepth 100000
def qaL (os:Os) (started:os.Started) (H:Type) (enc:TypeId × Value→H) :
  ReturnsInHanded {} Tryz.checked os 8 .any (fun w args=>(Rows.krylovExactSpec.pre enc Tryz.prog Tryz.f8 [] false w args∧laidMetH Tryz.prog qel w)∧sizedMet enc Tryz.prog Tryz.f8 (OpenSpec.ofChange Rows.krylovExactSpec) false w args)
   (Rows.krylovExactSpec.post enc Tryz.prog Tryz.f8 false true false false):=by
 refine returnsInHanded_of_change_and (C:=Tryz.checked) (X:=fun w _=>laidMetH Tryz.prog qel w) (fun _ _ _ hh h=>h.of_heap hh) own started (by kernel_rfl) Tryz.func8
  (ChangeSpec.witness_shaped (enc:=enc) (C:=Tryz.checked) (os:=os) (X:=fun w _=>laidMetH Tryz.prog qel w) false (World.doorLaid Tryz.prog 400 os) #[.slice none 0 0,.int .i64 0] 8 rfl (World.shaped_of_RefB (by kernel_rfl) (by kernel_rfl)) (by kernel_rfl) (by kernel_rfl) (by kernel_rfl) (qfd os _)) ?_
 intro W base args ds gs before hval0 hW _ _ hL _;have hval:∀ (j:Nat) t v,Tryz.f8.params[j]?=some t→args[j]?=some v→Value.okWide Tryz.prog W .any base t v:=hval0;have hW':DataW.Whole enc Tryz.prog Tryz.f8.params.toList Rows.krylovExactSpec.vars false W args.toList ds gs before:=hW;obtain ⟨p,q,hA0,hV,rfl,_,_⟩:=hW;have hA:DataW.TrodAll enc Tryz.prog W 0 (fun _=>true) true [22,3] args.toList ds p:=hA0;obtain ⟨v0,s0,d0,e0,p0,q0,ha,rfl,rfl,h0,r0⟩:=trodAll_cons hA;obtain ⟨v1,s1,d1,e1,p1,q1,rfl,rfl,rfl,h1,r1⟩:=trodAll_cons r0;obtain ⟨rfl,rfl,rfl⟩:=trodAll_nil r1;obtain rfl:args=#[v0,v1]:=by cases args; simp_all
 obtain ⟨rfl,rfl⟩:=trodVars_none hV;obtain ⟨A0,n0,c0,y0,rfl,hn0,hi0⟩:=qem (hval 0 22 _ rfl rfl) h0;obtain ⟨y1,rfl,_,_,g1⟩:=open_int und3 (hval 1 3 _ rfl rfl) h1;simp only [Lit.wf,Bool.and_eq_true,decide_eq_true_eq] at g1;have hc:=q5D (raw:=y0) (by rw [hi0.sc_len]; exact hn0) g1.1 g1.2;refine (hc.2 _ W [_,_] (qiC hL) (Fr.triv _) (qnF (qi3 hi0) (qnF q7q rdl_0))).mono fun e W' ⟨v,he,hx,hr⟩=>?_;rw [qaB hr] at he;subst he;exact ⟨_,rfl,qeh rfl hW' (by kernel_rfl) rfl rfl hx⟩
def qnr:(Rows.krylovExactRow.inPlace == Tryz.pinned.checked.prog.inPlace 8)=true:=by kernel_rfl
def qnq:(Rows.krylovExactRow.unfollowed == Tryz.pinned.checked.prog.unfollowed 8)=true:=by kernel_rfl
def qnp:(Rows.krylovExactRow.recurses == Tryz.pinned.checked.prog.recurses 8)=true:=by kernel_rfl
def qno:(Rows.krylovExactRow.named == Tryz.pinned.checked.prog.varsNamed 8)=true:=by kernel_rfl
def qnn:joinedFacts Tryz.pinned.checked.prog 8 Tryz.f8 Rows.krylovExactSpec Rows.krylovExactRow=true:=by
 unfold joinedFacts;rw [qnr,qnq,qnp,qno]
 kernel_rfl
def q39:Rows.KrylovExactSaid :=
 OpenClaim.holds_of_wide 8 Tryz.f8 rfl rfl rfl rfl rfl rfl rfl ⟨rfl,rfl,rfl,rfl,rfl⟩ rfl rfl rfl rfl rfl (by kernel_rfl) Tryz.func8 qnn
  (of_decide_eq_true (by kernel_rfl)) (by unfold Func.isWrapper; first | (rw [if_pos (by decide +kernel)]; kernel_rfl) | (rw [if_neg (by decide +kernel)]; exact ⟨rfl,rfl⟩))
  (fun os started H enc _=>qaL os started H enc)
set_option maxRecDepth 100000
def qnw:OpenClaim.wfByText (OpenSpec.ofChange Rows.krylovExactSpec) Rows.krylovExactRow=true:=by kernel_rfl
def qnv : Tryz.pinned.checked.prog.mainIs = some (true, ("a2740fb67fdf1770b87b446d3cf87e00c3ed12e7a272b0be716aadfd10a83fed" : String).toList) := by kernel_rfl
def qnu:false=Tryz.pinned.checked.prog.looks []:=by kernel_rfl
def qnt:false=Rows.krylovExactRow.goesBy Tryz.pinned.checked.prog:=by kernel_rfl
def qns : Tryz.prog.funcNamed "sparse/sparselaw36.KrylovExact" = some 8 := by kernel_rfl
theorem kex_card:Rows.KrylovExactCardSaid :=
 Claim7.holds_tied_plain_at .later [] [.data] true (true, "a2740fb67fdf1770b87b446d3cf87e00c3ed12e7a272b0be716aadfd10a83fed") false
  q39 (fun _ h=>by cases h) qnw (fun _ h=>by cases h) krylovExact_row_tie rfl ⟨rfl,rfl⟩ qnv rfl
  (fun f fn hf hfn=>by
   obtain rfl:f=8:=Option.some.inj (qns.symm.trans hf) |>.symm;obtain rfl:fn=Tryz.f8:=(Option.some.inj (Tryz.func8.symm.trans hfn)).symm;exact ⟨qnu,fun j t ht=>by
    have hm:t ∈ [22,3]:=by simpa using Array.mem_of_getElem? ht
    have hall:([22,3].all fun u=>!Tryz.prog.wantsStandIn u)=true:=by kernel_rfl
    exact (show Tryz.prog.wantsStandIn t=false by simpa using List.all_eq_true.1 hall t hm)⟩)
  qnt
#print axioms kex_card
end Go.Proofs.YtfmojhhokfkdaaaGreatDoor
