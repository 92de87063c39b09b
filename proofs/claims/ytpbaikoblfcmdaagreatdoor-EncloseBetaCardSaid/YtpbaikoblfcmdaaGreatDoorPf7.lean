/- EncloseBeta. 7/7. -/
import Derived.SevenTiedAt
import Derived.Test.YtpbaikoblfcmdaaGreatDoorCards
import Derived.Test.YtpbaikoblfcmdaaGreatDoorTie
import Derived.Test.YtpbaikoblfcmdaaGreatDoorPf6
set_option linter.unusedSimpArgs false
set_option linter.unusedVariables false
set_option maxRecDepth 20000
set_option maxHeartbeats 2000000
set_option linter.defProp false
namespace Go.Proofs.YtpbaikoblfcmdaaGreatDoor
open Go Go.E Go.Sp Go.ChangeShapes Go.WideShapes Go.ChangeAt Go.WideMaps Go.WideElems Go.RowKit
set_option maxRecDepth 100000
abbrev qhn : List (String × DataW Unit) := [("math/bits.deBruijn32tab", Rows.laid_math_bits_deBruijn32tab)]
def own:ownKnob Tryz.prog.godebug=none:=by kernel_rfl
def qjA (os:Os) (args:Array Value):laidMetH Tryz.prog qhn ((World.doorLaid Tryz.prog 400 os).forCall (fun _ _=>0) ⟨#[],args,[]⟩).memory :=
 laidMetH_of_parts3 (fuel:=8) (laidMet_of_run' 8 (by kernel_rfl) (by kernel_rfl)) (by kernel_rfl) (by kernel_rfl)
def undW:Tryz.prog.underlying 22=some (.slice 23):=by kernel_rfl
def cellU:Tryz.prog.cellsOf 23=1:=by kernel_rfl
def qhq {H:Type} {enc:TypeId × Value→H} {W:World} {v:Value} {d:DataW H} {p:List MemPlace} {b0:Nat} (hv:Value.okWide Tryz.prog W .any b0 22 v) (h:DataW.Trod enc Tryz.prog W 0 (fun _=>true) true 22 v d p) :
  ∃ A n c raw,v=.slice A n c∧n≤9223372036854775807∧In (fSc u64v raw) (fun _=>True) (.slice A n c) W:=by
 obtain ⟨A,n,c,rfl⟩:=okWide_slice undW hv;obtain ⟨fuel,hf⟩:=h
 rcases open_ints undW qmD cellU hf with ⟨h1,_⟩ | ⟨a,len,cap,zs,h1,_,hl,hm,hz,_,hc,hw⟩
 ·injection h1 with h1 _
  injection h1 with h1 h2 h3
  subst h1; subst h2; subst h3;exact ⟨_,_,_,[],rfl,by omega,In.sc_nil⟩
 ·injection h1 with h1 _
  injection h1 with h1 h2 h3
  subst h1; subst h2; subst h3;have hz':zs.length=c:=by simpa using hz
  refine ⟨_,_,_,(zs.take n).map Int.toNat,rfl,by unfold maxLen at hm; omega,some a,n,c,rfl,hl,by simp; omega,fun _=>⟨a,rfl,trivial,fun j u hu=>?_⟩⟩;rw [List.getElem?_map,List.getElem?_map,List.getElem?_take] at hu
  split at hu
  ·rename_i hj;have hjz:j < zs.length:=by omega
   rw [List.getElem?_eq_getElem hjz] at hu;have h0:=hc j hjz;rw [List.getD_eq_getElem?_getD,List.getElem?_eq_getElem hjz] at h0;have h1:=hw zs[j] (List.getElem_mem _);simp only [Lit.wf,Bool.and_eq_true,decide_eq_true_eq] at h1;have h2:(0:Int)≤zs[j]:=h1.1;rw [h0,← Option.some.inj hu]
   show some (Value.int .u64 zs[j])=some (Value.int .u64 ((zs[j].toNat:Nat):Int))
   rw [Int.toNat_of_nonneg h2]
  ·cases hu
section
variable {w:World} {D:Nat→Prop} {ρ:Nat→Option Nat} {h:Hp} {x:PV} {l:List PV} {a:Value} {vs:List Value}
def rdl_0:RdL w D [] ρ h []:=by unfold RdL; rfl
def q9U (h1:Rd w D x ρ h a) (h2:RdL w D l ρ h vs):RdL w D (x :: l) ρ h (a :: vs):=by
 unfold RdL;exact ⟨_,_,rfl,h1,h2⟩
end
set_option maxRecDepth 100000
def qcS (os:Os) (started:os.Started) (H:Type) (enc:TypeId × Value→H) :
  ReturnsInHanded {} Tryz.checked os 3 .any (fun w args=>(Rows.encloseBetaSpec.pre enc Tryz.prog Tryz.f3 [] false w args∧laidMetH Tryz.prog qhn w)∧sizedMet enc Tryz.prog Tryz.f3 (OpenSpec.ofChange Rows.encloseBetaSpec) false w args)
   (Rows.encloseBetaSpec.post enc Tryz.prog Tryz.f3 false true false false):=by
 refine returnsInHanded_of_change_and (C:=Tryz.checked) (X:=fun w _=>laidMetH Tryz.prog qhn w) (fun _ _ _ hh h=>h.of_heap hh) own started (by kernel_rfl) Tryz.func3
  (ChangeSpec.witness_shaped (enc:=enc) (C:=Tryz.checked) (os:=os) (X:=fun w _=>laidMetH Tryz.prog qhn w) false (World.doorLaid Tryz.prog 400 os) #[.slice none 0 0,.int .i64 0,.int .i64 0,.int .i64 0,.int .i64 0,.int .i64 0,.int .u64 0] 8 rfl (World.shaped_of_RefB (by kernel_rfl) (by kernel_rfl)) (by kernel_rfl) (by kernel_rfl) (by kernel_rfl) (qjA os _)) ?_
 intro W base args ds gs before hval0 hW _ _ hL _;have hval:∀ (j:Nat) t v,Tryz.f3.params[j]?=some t→args[j]?=some v→Value.okWide Tryz.prog W .any base t v:=hval0;have hW':DataW.Whole enc Tryz.prog Tryz.f3.params.toList Rows.encloseBetaSpec.vars false W args.toList ds gs before:=hW;obtain ⟨p,q,hA0,hV,rfl,_,_⟩:=hW;have hA:DataW.TrodAll enc Tryz.prog W 0 (fun _=>true) true [22,3,3,3,3,3,23] args.toList ds p:=hA0;obtain ⟨v0,s0,d0,e0,p0,q0,ha,rfl,rfl,h0,r0⟩:=trodAll_cons hA;obtain ⟨v1,s1,d1,e1,p1,q1,rfl,rfl,rfl,h1,r1⟩:=trodAll_cons r0;obtain ⟨v2,s2,d2,e2,p2,q2,rfl,rfl,rfl,h2,r2⟩:=trodAll_cons r1;obtain ⟨v3,s3,d3,e3,p3,q3,rfl,rfl,rfl,h3,r3⟩:=trodAll_cons r2;obtain ⟨v4,s4,d4,e4,p4,q4,rfl,rfl,rfl,h4,r4⟩:=trodAll_cons r3;obtain ⟨v5,s5,d5,e5,p5,q5,rfl,rfl,rfl,h5,r5⟩:=trodAll_cons r4;obtain ⟨v6,s6,d6,e6,p6,q6,rfl,rfl,rfl,h6,r6⟩:=trodAll_cons r5;obtain ⟨rfl,rfl,rfl⟩:=trodAll_nil r6;obtain rfl:args=#[v0,v1,v2,v3,v4,v5,v6]:=by cases args; simp_all
 obtain ⟨rfl,rfl⟩:=trodVars_none hV;obtain ⟨A0,n0,c0,y0,rfl,hn0,hi0⟩:=qhq (hval 0 22 _ rfl rfl) h0;obtain ⟨y1,rfl,_,_,g1⟩:=open_int qqF (hval 1 3 _ rfl rfl) h1;simp only [Lit.wf,Bool.and_eq_true,decide_eq_true_eq] at g1;obtain ⟨y2,rfl,_,_,g2⟩:=open_int qqF (hval 2 3 _ rfl rfl) h2;simp only [Lit.wf,Bool.and_eq_true,decide_eq_true_eq] at g2;obtain ⟨y3,rfl,_,_,g3⟩:=open_int qqF (hval 3 3 _ rfl rfl) h3;simp only [Lit.wf,Bool.and_eq_true,decide_eq_true_eq] at g3;obtain ⟨y4,rfl,_,_,g4⟩:=open_int qqF (hval 4 3 _ rfl rfl) h4;simp only [Lit.wf,Bool.and_eq_true,decide_eq_true_eq] at g4;obtain ⟨y5,rfl,_,_,g5⟩:=open_int qqF (hval 5 3 _ rfl rfl) h5;simp only [Lit.wf,Bool.and_eq_true,decide_eq_true_eq] at g5;obtain ⟨z6,rfl,_,_,g6⟩:=open_int qmD (hval 6 23 _ rfl rfl) h6;simp only [Lit.wf,Bool.and_eq_true,decide_eq_true_eq] at g6;have l6:(0:Int)≤z6:=g6.1;have m6:z6≤(18446744073709551615:Int):=g6.2;obtain ⟨y6,rfl⟩:∃ x:Nat,z6=x:=⟨z6.toNat,by omega⟩;have hc:=q5w (raw:=y0) (value:=y6) (by rw [hi0.sc_len]; exact hn0) g1.1 g1.2 g2.1 g2.2 g3.1 g3.2 g4.1 g4.2 g5.1 g5.2 (by omega);refine (hc.2 _ W [_,_,_,_,_,_,_] (qmL hL) (Fr.triv _) (q9U (rd_pF hi0) (q9U q5v (q9U q5v (q9U q5v (q9U q5v (q9U q5v (q9U q5v rdl_0)))))))).mono fun e W' ⟨v,he,hx,hr⟩=>?_;rw [qce hr] at he;subst he;exact ⟨_,rfl,qhk rfl hW' (by kernel_rfl) rfl rfl hx⟩
def qte:(Rows.encloseBetaRow.inPlace == Tryz.pinned.checked.prog.inPlace 3)=true:=by kernel_rfl
def qtd:(Rows.encloseBetaRow.unfollowed == Tryz.pinned.checked.prog.unfollowed 3)=true:=by kernel_rfl
def qtc:(Rows.encloseBetaRow.recurses == Tryz.pinned.checked.prog.recurses 3)=true:=by kernel_rfl
def qtb:(Rows.encloseBetaRow.named == Tryz.pinned.checked.prog.varsNamed 3)=true:=by kernel_rfl
def qta:joinedFacts Tryz.pinned.checked.prog 3 Tryz.f3 Rows.encloseBetaSpec Rows.encloseBetaRow=true:=by
 unfold joinedFacts;rw [qte,qtd,qtc,qtb]
 kernel_rfl
def q4V:Rows.EncloseBetaSaid :=
 OpenClaim.holds_of_wide 3 Tryz.f3 rfl rfl rfl rfl rfl rfl rfl ⟨rfl,rfl,rfl,rfl,rfl⟩ rfl rfl rfl rfl rfl (by kernel_rfl) Tryz.func3 qta
  (of_decide_eq_true (by kernel_rfl)) (by unfold Func.isWrapper; first | (rw [if_pos (by decide +kernel)]; kernel_rfl) | (rw [if_neg (by decide +kernel)]; exact ⟨rfl,rfl⟩))
  (fun os started H enc _=>qcS os started H enc)
set_option maxRecDepth 100000
def qtj:OpenClaim.wfByText (OpenSpec.ofChange Rows.encloseBetaSpec) Rows.encloseBetaRow=true:=by kernel_rfl
def qti : Tryz.pinned.checked.prog.mainIs = some (true, ("60c4ae752ec399ada9ca079687d444fe5a4c87f8de564b43f68dc3af20c35bcc" : String).toList) := by kernel_rfl
def qth:false=Tryz.pinned.checked.prog.looks []:=by kernel_rfl
def qtg:false=Rows.encloseBetaRow.goesBy Tryz.pinned.checked.prog:=by kernel_rfl
def qtf : Tryz.prog.funcNamed "sparse/sparselaw41.EncloseBeta" = some 3 := by kernel_rfl
theorem ebt_card:Rows.EncloseBetaCardSaid :=
 Claim7.holds_tied_plain_at .later [] [.data] true (true, "60c4ae752ec399ada9ca079687d444fe5a4c87f8de564b43f68dc3af20c35bcc") false
  q4V (fun _ h=>by cases h) qtj (fun _ h=>by cases h) encloseBeta_row_tie rfl ⟨rfl,rfl⟩ qti rfl
  (fun f fn hf hfn=>by
   obtain rfl:f=3:=Option.some.inj (qtf.symm.trans hf) |>.symm;obtain rfl:fn=Tryz.f3:=(Option.some.inj (Tryz.func3.symm.trans hfn)).symm;exact ⟨qth,fun j t ht=>by
    have hm:t ∈ [22,3,3,3,3,3,23]:=by simpa using Array.mem_of_getElem? ht
    have hall:([22,3,3,3,3,3,23].all fun u=>!Tryz.prog.wantsStandIn u)=true:=by kernel_rfl
    exact (show Tryz.prog.wantsStandIn t=false by simpa using List.all_eq_true.1 hall t hm)⟩)
  qtg
#print axioms ebt_card
end Go.Proofs.YtpbaikoblfcmdaaGreatDoor
