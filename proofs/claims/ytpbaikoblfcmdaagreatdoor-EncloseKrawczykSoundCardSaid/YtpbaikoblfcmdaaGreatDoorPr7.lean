/- EncloseKrawczykSound. 7/7. -/
import Derived.Deep.Grids
import Derived.SevenTiedAt
import Derived.Test.YtpbaikoblfcmdaaGreatDoorCards
import Derived.Test.YtpbaikoblfcmdaaGreatDoorTie
import Derived.Test.YtpbaikoblfcmdaaGreatDoorPr6
open Bool renaming and_eq_true->zC
open List renaming getElem?_map->zA,getElem?_eq_getElem->zB
open Option renaming some->zD
set_option linter.unusedSimpArgs false
set_option linter.unusedVariables false
set_option maxRecDepth 20000
set_option maxHeartbeats 2000000
set_option linter.defProp false
namespace Go.Proofs.YtpbaikoblfcmdaaGreatDoor
open Go Go.E Go.Sp Go.ChangeShapes Go.WideShapes Go.ChangeAt Go.WideMaps Go.WideElems Go.RowKit
set_option maxRecDepth 100000
abbrev qkR : List (String × DataW Unit) := [("math/bits.deBruijn32tab", Rows.laid_math_bits_deBruijn32tab)]
def own:ownKnob Tryz.prog.godebug=none:=κ
def qlf (os:Os) (args:Array Value):laidMetH Tryz.prog qkR ((World.doorLaid Tryz.prog 400 os).forCall (λ_ _=>0) ⟨#[],args,[]⟩).memory :=
 laidMetH_of_parts3 (fuel:=8) (laidMet_of_run' 8 κ κ) κ κ
def undW:Tryz.prog.underlying 22=some (.slice 23):=κ
def cellU:Tryz.prog.cellsOf 23=1:=κ
def qkW {H:Type} {enc:TypeId × Value->H} {W:World} {v:Value} {d:DataW H} {p:List MemPlace} {b0:Nat} (hv:Value.okWide Tryz.prog W .any b0 22 v) (h:DataW.Trod enc Tryz.prog W 0 (λ_=>true) true 22 v d p) :
  ∃ A n c raw,v=.slice A n c/\n<=9223372036854775807/\In (fSc u64v raw) (λ_=>True) (.slice A n c) W:=by
 obtain ⟨A,n,c,rfl⟩:=okWide_slice undW hv;obtain ⟨fuel,hf⟩:=h
 rcases open_ints undW qu5 cellU hf with ⟨h1,_⟩ | ⟨a,len,cap,zs,h1,_,hl,hm,hz,_,hc,hw⟩
 .injection h1 with h1 _
  injection h1 with h1 h2 h3
  subst h1; subst h2; subst h3;exact ⟨_,_,_,[],rfl,ω,In.sc_nil⟩
 .injection h1 with h1 _
  injection h1 with h1 h2 h3
  subst h1; subst h2; subst h3;have hz':zs.length=c:=by simpa using hz
  refine ⟨_,_,_,(zs.take n).map Int.toNat,rfl,by unfold maxLen at hm; omega,some a,n,c,rfl,hl,by simp; omega,λ_=>⟨a,rfl,trivial,λj u hu=>?_⟩⟩;rw [zA,zA,List.getElem?_take] at hu
  split at hu
  .rename_i hj;have hjz:j < zs.length:=ω
   rw [zB hjz] at hu;have h0:=hc j hjz;rw [List.getD_eq_getElem?_getD,zB hjz] at h0;have h1:=hw zs[j] (List.getElem_mem _);simp only [Lit.wf,zC,decide_eq_true_eq] at h1;have h2:(0:Int)<=zs[j]:=h1.1;rw [h0,<- zD.inj hu]
   show some (Value.int .u64 zs[j])=some (Value.int .u64 ((zs[j].toNat:Nat):Int))
   rw [Int.toNat_of_nonneg h2]
  .cases hu
section
variable {w:World} {D:Nat->Prop} {ρ:Nat->Option Nat} {h:Hp} {x:PV} {l:List PV} {a:Value} {vs:List Value}
def rdl_0:RdL w D [] ρ h []:=by unfold RdL; rfl
def qjn (h1:Rd w D x ρ h a) (h2:RdL w D l ρ h vs):RdL w D (x :: l) ρ h (a :: vs):=by
 unfold RdL;exact ⟨_,_,rfl,h1,h2⟩
end
set_option maxRecDepth 100000
def undB:Tryz.prog.underlying 69=some (.slice 4):=κ
def undb:Tryz.prog.underlying 4=some .bool:=κ
def cellB:Tryz.prog.cellsOf 4=1:=κ
def bolv (b:Bool):Value:=.bool b
def qkX {H:Type} {enc:TypeId × Value->H} {W:World} {v:Value} {d:DataW H} {p:List MemPlace} {b0:Nat} (hv:Value.okWide Tryz.prog W .any b0 69 v) (h:DataW.Trod enc Tryz.prog W 0 (λ_=>true) true 69 v d p) :
  ∃ A n c l,v=.slice A n c/\n<=9223372036854775807/\In (fSc bolv l) (λ_=>True) (.slice A n c) W:=by
 obtain ⟨A,n,c,rfl⟩:=okWide_slice undB hv;obtain ⟨fuel,hf⟩:=h
 rcases Go.Deep.open_bools undB undb cellB hf with ⟨h1,_⟩ | ⟨a,len,cap,B,h1,_,hl,hm,_,hc⟩
 .injection h1 with h1 _
  injection h1 with h1 h2 h3
  subst h1; subst h2; subst h3;exact ⟨_,_,_,[],rfl,ω,In.sc_nil⟩
 .injection h1 with h1 _
  injection h1 with h1 h2 h3
  subst h1; subst h2; subst h3;refine ⟨_,_,_,(List.range n).map B,rfl,by unfold maxLen at hm; omega,some a,n,c,rfl,hl,σ,λ_=>⟨a,rfl,trivial,λj u hu=>?_⟩⟩;rw [zA,zA] at hu
  rcases Nat.lt_or_ge j n with hj | hj
  .rw [List.getElem?_range hj] at hu;rw [hc j ω,<- zD.inj hu]
   rfl
  .rw [List.getElem?_eq_none (by simpa using hj)] at hu; cases hu
set_option maxRecDepth 100000
def qeD (os:Os) (started:os.Started) (H:Type) (enc:TypeId × Value->H) :
  ReturnsInHanded {} Tryz.checked os 6 .any (λw args=>(Rows.encloseKrawczykSoundSpec.pre enc Tryz.prog Tryz.f6 [] false w args/\laidMetH Tryz.prog qkR w)/\sizedMet enc Tryz.prog Tryz.f6 (OpenSpec.ofChange Rows.encloseKrawczykSoundSpec) false w args)
   (Rows.encloseKrawczykSoundSpec.post enc Tryz.prog Tryz.f6 false true false false):=by
 refine returnsInHanded_of_change_and (C:=Tryz.checked) (X:=λw _=>laidMetH Tryz.prog qkR w) (λ_ _ _ hh h=>h.of_heap hh) own started κ Tryz.func6
  (ChangeSpec.witness_shaped (enc:=enc) (C:=Tryz.checked) (os:=os) (X:=λw _=>laidMetH Tryz.prog qkR w) false (World.doorLaid Tryz.prog 400 os) #[.slice none 0 0,.int .i64 0,.int .i64 0,.slice none 0 0] 8 rfl (World.shaped_of_RefB κ κ) κ κ κ (qlf os _)) ?_
 intro W base args ds gs before hval0 hW _ _ hL _;have hval:∀ (j:Nat) t v,Tryz.f6.params[j]?=some t->args[j]?=some v->Value.okWide Tryz.prog W .any base t v:=hval0;have hW':DataW.Whole enc Tryz.prog Tryz.f6.params.toList Rows.encloseKrawczykSoundSpec.vars false W args.toList ds gs before:=hW;obtain ⟨p,q,hA0,hV,rfl,_,_⟩:=hW;have hA:DataW.TrodAll enc Tryz.prog W 0 (λ_=>true) true [22,3,3,69] args.toList ds p:=hA0;obtain ⟨v0,s0,d0,e0,p0,q0,ha,rfl,rfl,h0,r0⟩:=trodAll_cons hA;obtain ⟨v1,s1,d1,e1,p1,q1,rfl,rfl,rfl,h1,r1⟩:=trodAll_cons r0;obtain ⟨v2,s2,d2,e2,p2,q2,rfl,rfl,rfl,h2,r2⟩:=trodAll_cons r1;obtain ⟨v3,s3,d3,e3,p3,q3,rfl,rfl,rfl,h3,r3⟩:=trodAll_cons r2;obtain ⟨rfl,rfl,rfl⟩:=trodAll_nil r3;obtain rfl:args=#[v0,v1,v2,v3]:=by cases args; simp_all
 obtain ⟨rfl,rfl⟩:=trodVars_none hV;obtain ⟨A0,n0,c0,y0,rfl,hn0,hi0⟩:=qkW (hval 0 22 _ rfl rfl) h0;obtain ⟨y1,rfl,_,_,g1⟩:=open_int und3 (hval 1 3 _ rfl rfl) h1;simp only [Lit.wf,zC,decide_eq_true_eq] at g1;obtain ⟨y2,rfl,_,_,g2⟩:=open_int und3 (hval 2 3 _ rfl rfl) h2;simp only [Lit.wf,zC,decide_eq_true_eq] at g2;obtain ⟨A3,n3,c3,y3,rfl,hn3,hi3⟩:=qkX (hval 3 69 _ rfl rfl) h3;have hc:=q93 (raw:=y0) (picks:=y3) (by rw [hi0.sc_len]; exact hn0) g1.1 g1.2 g2.1 g2.2 (by rw [hi3.sc_len]; exact hn3);refine (hc.2 _ W [_,_,_,_] (qp0 hL) (Fr.triv _) (qjn (rd_pF hi0) (qjn qdf (qjn qdf (qjn (qpy (f:=bolv) (λx=>⟨rfl,rfl⟩) hi3) rdl_0))))).mono λe W' ⟨v,he,hx,hr⟩=>?_;rw [qeZ hr] at he;subst he;exact ⟨_,rfl,qkP rfl hW' κ rfl rfl hx⟩
def qy0:(Rows.encloseKrawczykSoundRow.inPlace == Tryz.pinned.checked.prog.inPlace 6)=true:=κ
def qyZ:(Rows.encloseKrawczykSoundRow.unfollowed == Tryz.pinned.checked.prog.unfollowed 6)=true:=κ
def qyY:(Rows.encloseKrawczykSoundRow.recurses == Tryz.pinned.checked.prog.recurses 6)=true:=κ
def qyX:(Rows.encloseKrawczykSoundRow.named == Tryz.pinned.checked.prog.varsNamed 6)=true:=κ
def qyW:joinedFacts Tryz.pinned.checked.prog 6 Tryz.f6 Rows.encloseKrawczykSoundSpec Rows.encloseKrawczykSoundRow=true:=by
 unfold joinedFacts;rw [qy0,qyZ,qyY,qyX]
 kernel_rfl
def q2I:Rows.EncloseKrawczykSoundSaid :=
 OpenClaim.holds_of_wide 6 Tryz.f6 rfl rfl rfl rfl rfl rfl rfl ⟨rfl,rfl,rfl,rfl,rfl⟩ rfl rfl rfl rfl rfl κ Tryz.func6 qyW
  (of_decide_eq_true κ) (by unfold Func.isWrapper; first | (rw [if_pos (by decide +kernel)]; kernel_rfl) | (rw [if_neg (by decide +kernel)]; exact ⟨rfl,rfl⟩))
  (λos started H enc _=>qeD os started H enc)
set_option maxRecDepth 100000
def qy5:OpenClaim.wfByText (OpenSpec.ofChange Rows.encloseKrawczykSoundSpec) Rows.encloseKrawczykSoundRow=true:=κ
def qy4 : Tryz.pinned.checked.prog.mainIs = some (true, ("60c4ae752ec399ada9ca079687d444fe5a4c87f8de564b43f68dc3af20c35bcc" : String).toList) := by kernel_rfl
def qy3:false=Tryz.pinned.checked.prog.looks []:=κ
def qy2:false=Rows.encloseKrawczykSoundRow.goesBy Tryz.pinned.checked.prog:=κ
def qy1 : Tryz.prog.funcNamed "sparse/sparselaw41.EncloseKrawczykSound" = some 6 := by kernel_rfl
theorem eks_card:Rows.EncloseKrawczykSoundCardSaid :=
 Claim7.holds_tied_plain_at .later [] [.data] true (true, "60c4ae752ec399ada9ca079687d444fe5a4c87f8de564b43f68dc3af20c35bcc") false
  q2I (λ_ h=>by cases h) qy5 (λ_ h=>by cases h) encloseKrawczykSound_row_tie rfl ⟨rfl,rfl⟩ qy4 rfl
  (λf fn hf hfn=>by
   obtain rfl:f=6:=zD.inj (qy1.symm.trans hf) |>.symm;obtain rfl:fn=Tryz.f6:=(zD.inj (Tryz.func6.symm.trans hfn)).symm;exact ⟨qy3,λj t ht=>by
    have hm:t ∈ [22,3,3,69]:=by simpa using Array.mem_of_getElem? ht
    have hall:([22,3,3,69].all λu=>!Tryz.prog.wantsStandIn u)=true:=κ
    exact (show Tryz.prog.wantsStandIn t=false by simpa using List.all_eq_true.1 hall t hm)⟩)
  qy2
#print axioms eks_card
end Go.Proofs.YtpbaikoblfcmdaaGreatDoor
