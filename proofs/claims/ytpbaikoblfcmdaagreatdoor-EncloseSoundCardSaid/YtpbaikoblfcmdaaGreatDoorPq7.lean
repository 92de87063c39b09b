/- EncloseSound. 7/7. -/
import Derived.SevenTiedAt
import Derived.Test.YtpbaikoblfcmdaaGreatDoorCards
import Derived.Test.YtpbaikoblfcmdaaGreatDoorTie
import Derived.Test.YtpbaikoblfcmdaaGreatDoorPq6
open Bool renaming and_eq_true->zA
open List renaming getElem?_eq_getElem->zB
open Option renaming some->zC
set_option linter.unusedSimpArgs false
set_option linter.unusedVariables false
set_option maxRecDepth 20000
set_option maxHeartbeats 2000000
set_option linter.defProp false
namespace Go.Proofs.YtpbaikoblfcmdaaGreatDoor
open Go Go.E Go.Sp Go.ChangeShapes Go.WideShapes Go.ChangeAt Go.WideMaps Go.WideElems Go.RowKit
set_option maxRecDepth 100000
abbrev qja : List (String × DataW Unit) := [("math/bits.deBruijn32tab", Rows.laid_math_bits_deBruijn32tab)]
def own:ownKnob Tryz.prog.godebug=none:=by kernel_rfl
def qkm (os:Os) (args:Array Value):laidMetH Tryz.prog qja ((World.doorLaid Tryz.prog 400 os).forCall (λ_ _=>0) ⟨#[],args,[]⟩).memory :=
 laidMetH_of_parts3 (fuel:=8) (laidMet_of_run' 8 (by kernel_rfl) (by kernel_rfl)) (by kernel_rfl) (by kernel_rfl)
def undW:Tryz.prog.underlying 22=some (.slice 23):=by kernel_rfl
def cellU:Tryz.prog.cellsOf 23=1:=by kernel_rfl
def qjc {H:Type} {enc:TypeId × Value->H} {W:World} {v:Value} {d:DataW H} {p:List MemPlace} {b0:Nat} (hv:Value.okWide Tryz.prog W .any b0 22 v) (h:DataW.Trod enc Tryz.prog W 0 (λ_=>true) true 22 v d p) :
  ∃ A n c raw,v=.slice A n c/\n<=9223372036854775807/\In (fSc u64v raw) (λ_=>True) (.slice A n c) W:=by
 obtain ⟨A,n,c,rfl⟩:=okWide_slice undW hv;obtain ⟨fuel,hf⟩:=h
 rcases open_ints undW qtg cellU hf with ⟨h1,_⟩ | ⟨a,len,cap,zs,h1,_,hl,hm,hz,_,hc,hw⟩
 ·injection h1 with h1 _
  injection h1 with h1 h2 h3
  subst h1; subst h2; subst h3;exact ⟨_,_,_,[],rfl,by omega,In.sc_nil⟩
 ·injection h1 with h1 _
  injection h1 with h1 h2 h3
  subst h1; subst h2; subst h3;have hz':zs.length=c:=by simpa using hz
  refine ⟨_,_,_,(zs.take n).map Int.toNat,rfl,by unfold maxLen at hm; omega,some a,n,c,rfl,hl,by simp; omega,λ_=>⟨a,rfl,trivial,λj u hu=>?_⟩⟩;rw [List.getElem?_map,List.getElem?_map,List.getElem?_take] at hu
  split at hu
  ·rename_i hj;have hjz:j < zs.length:=by omega
   rw [zB hjz] at hu;have h0:=hc j hjz;rw [List.getD_eq_getElem?_getD,zB hjz] at h0;have h1:=hw zs[j] (List.getElem_mem _);simp only [Lit.wf,zA,decide_eq_true_eq] at h1;have h2:(0:Int)<=zs[j]:=h1.1;rw [h0,<- zC.inj hu]
   show some (Value.int .u64 zs[j])=some (Value.int .u64 ((zs[j].toNat:Nat):Int))
   rw [Int.toNat_of_nonneg h2]
  ·cases hu
section
variable {w:World} {D:Nat->Prop} {ρ:Nat->Option Nat} {h:Hp} {x:PV} {l:List PV} {a:Value} {vs:List Value}
def rdl_0:RdL w D [] ρ h []:=by unfold RdL; rfl
def qdD (h1:Rd w D x ρ h a) (h2:RdL w D l ρ h vs):RdL w D (x :: l) ρ h (a :: vs):=by
 unfold RdL;exact ⟨_,_,rfl,h1,h2⟩
end
set_option maxRecDepth 100000
def qd0 (os:Os) (started:os.Started) (H:Type) (enc:TypeId × Value->H) :
  ReturnsInHanded {} Tryz.checked os 5 .any (λw args=>(Rows.encloseSoundSpec.pre enc Tryz.prog Tryz.f5 [] false w args/\laidMetH Tryz.prog qja w)/\sizedMet enc Tryz.prog Tryz.f5 (OpenSpec.ofChange Rows.encloseSoundSpec) false w args)
   (Rows.encloseSoundSpec.post enc Tryz.prog Tryz.f5 false true false false):=by
 refine returnsInHanded_of_change_and (C:=Tryz.checked) (X:=λw _=>laidMetH Tryz.prog qja w) (λ_ _ _ hh h=>h.of_heap hh) own started (by kernel_rfl) Tryz.func5
  (ChangeSpec.witness_shaped (enc:=enc) (C:=Tryz.checked) (os:=os) (X:=λw _=>laidMetH Tryz.prog qja w) false (World.doorLaid Tryz.prog 400 os) #[.slice none 0 0,.int .i64 0,.int .i64 0,.bool false,.int .i64 0,.bool false] 8 rfl (World.shaped_of_RefB (by kernel_rfl) (by kernel_rfl)) (by kernel_rfl) (by kernel_rfl) (by kernel_rfl) (qkm os _)) ?_
 intro W base args ds gs before hval0 hW _ _ hL _;have hval:∀ (j:Nat) t v,Tryz.f5.params[j]?=some t->args[j]?=some v->Value.okWide Tryz.prog W .any base t v:=hval0;have hW':DataW.Whole enc Tryz.prog Tryz.f5.params.toList Rows.encloseSoundSpec.vars false W args.toList ds gs before:=hW;obtain ⟨p,q,hA0,hV,rfl,_,_⟩:=hW;have hA:DataW.TrodAll enc Tryz.prog W 0 (λ_=>true) true [22,3,3,4,3,4] args.toList ds p:=hA0;obtain ⟨v0,s0,d0,e0,p0,q0,ha,rfl,rfl,h0,r0⟩:=trodAll_cons hA;obtain ⟨v1,s1,d1,e1,p1,q1,rfl,rfl,rfl,h1,r1⟩:=trodAll_cons r0;obtain ⟨v2,s2,d2,e2,p2,q2,rfl,rfl,rfl,h2,r2⟩:=trodAll_cons r1;obtain ⟨v3,s3,d3,e3,p3,q3,rfl,rfl,rfl,h3,r3⟩:=trodAll_cons r2;obtain ⟨v4,s4,d4,e4,p4,q4,rfl,rfl,rfl,h4,r4⟩:=trodAll_cons r3;obtain ⟨v5,s5,d5,e5,p5,q5,rfl,rfl,rfl,h5,r5⟩:=trodAll_cons r4;obtain ⟨rfl,rfl,rfl⟩:=trodAll_nil r5;obtain rfl:args=#[v0,v1,v2,v3,v4,v5]:=by cases args; simp_all
 obtain ⟨rfl,rfl⟩:=trodVars_none hV;obtain ⟨A0,n0,c0,y0,rfl,hn0,hi0⟩:=qjc (hval 0 22 _ rfl rfl) h0;obtain ⟨y1,rfl,_,_,g1⟩:=open_int und3 (hval 1 3 _ rfl rfl) h1;simp only [Lit.wf,zA,decide_eq_true_eq] at g1;obtain ⟨y2,rfl,_,_,g2⟩:=open_int und3 (hval 2 3 _ rfl rfl) h2;simp only [Lit.wf,zA,decide_eq_true_eq] at g2;obtain ⟨y3,rfl,_,_⟩:=open_bool qss (hval 3 4 _ rfl rfl) h3;obtain ⟨y4,rfl,_,_,g4⟩:=open_int und3 (hval 4 3 _ rfl rfl) h4;simp only [Lit.wf,zA,decide_eq_true_eq] at g4;obtain ⟨y5,rfl,_,_⟩:=open_bool qss (hval 5 4 _ rfl rfl) h5;have hc:=q6B (raw:=y0) (rg:=y3) (wild:=y5) (by rw [hi0.sc_len]; exact hn0) g1.1 g1.2 g2.1 g2.2 g4.1 g4.2;refine (hc.2 _ W [_,_,_,_,_,_] (qoX hL) (Fr.triv _) (qdD (rd_pF hi0) (qdD q74 (qdD q74 (qdD q74 (qdD q74 (qdD q74 rdl_0))))))).mono λe W' ⟨v,he,hx,hr⟩=>?_;rw [qdk hr] at he;subst he;exact ⟨_,rfl,qj8 rfl hW' (by kernel_rfl) rfl rfl hx⟩
def qwo:(Rows.encloseSoundRow.inPlace == Tryz.pinned.checked.prog.inPlace 5)=true:=by kernel_rfl
def qwn:(Rows.encloseSoundRow.unfollowed == Tryz.pinned.checked.prog.unfollowed 5)=true:=by kernel_rfl
def qwm:(Rows.encloseSoundRow.recurses == Tryz.pinned.checked.prog.recurses 5)=true:=by kernel_rfl
def qwl:(Rows.encloseSoundRow.named == Tryz.pinned.checked.prog.varsNamed 5)=true:=by kernel_rfl
def qwk:joinedFacts Tryz.pinned.checked.prog 5 Tryz.f5 Rows.encloseSoundSpec Rows.encloseSoundRow=true:=by
 unfold joinedFacts;rw [qwo,qwn,qwm,qwl]
 kernel_rfl
def q4F:Rows.EncloseSoundSaid :=
 OpenClaim.holds_of_wide 5 Tryz.f5 rfl rfl rfl rfl rfl rfl rfl ⟨rfl,rfl,rfl,rfl,rfl⟩ rfl rfl rfl rfl rfl (by kernel_rfl) Tryz.func5 qwk
  (of_decide_eq_true (by kernel_rfl)) (by unfold Func.isWrapper; first | (rw [if_pos (by decide +kernel)]; kernel_rfl) | (rw [if_neg (by decide +kernel)]; exact ⟨rfl,rfl⟩))
  (λos started H enc _=>qd0 os started H enc)
set_option maxRecDepth 100000
def qwt:OpenClaim.wfByText (OpenSpec.ofChange Rows.encloseSoundSpec) Rows.encloseSoundRow=true:=by kernel_rfl
def qws : Tryz.pinned.checked.prog.mainIs = some (true, ("60c4ae752ec399ada9ca079687d444fe5a4c87f8de564b43f68dc3af20c35bcc" : String).toList) := by kernel_rfl
def qwr:false=Tryz.pinned.checked.prog.looks []:=by kernel_rfl
def qwq:false=Rows.encloseSoundRow.goesBy Tryz.pinned.checked.prog:=by kernel_rfl
def qwp : Tryz.prog.funcNamed "sparse/sparselaw41.EncloseSound" = some 5 := by kernel_rfl
theorem esd_card:Rows.EncloseSoundCardSaid :=
 Claim7.holds_tied_plain_at .later [] [.data] true (true, "60c4ae752ec399ada9ca079687d444fe5a4c87f8de564b43f68dc3af20c35bcc") false
  q4F (λ_ h=>by cases h) qwt (λ_ h=>by cases h) encloseSound_row_tie rfl ⟨rfl,rfl⟩ qws rfl
  (λf fn hf hfn=>by
   obtain rfl:f=5:=zC.inj (qwp.symm.trans hf) |>.symm;obtain rfl:fn=Tryz.f5:=(zC.inj (Tryz.func5.symm.trans hfn)).symm;exact ⟨qwr,λj t ht=>by
    have hm:t ∈ [22,3,3,4,3,4]:=by simpa using Array.mem_of_getElem? ht
    have hall:([22,3,3,4,3,4].all λu=>!Tryz.prog.wantsStandIn u)=true:=by kernel_rfl
    exact (show Tryz.prog.wantsStandIn t=false by simpa using List.all_eq_true.1 hall t hm)⟩)
  qwq
#print axioms esd_card
end Go.Proofs.YtpbaikoblfcmdaaGreatDoor
