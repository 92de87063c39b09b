/- RefineHalves, RefineResidual, RefinePairs, RefineDoubled, RefineRefuses. 6/6. -/
import Derived.SevenTiedAt
import Derived.Test.YtfmojhhokfkdaaaGreatDoorCards
import Derived.Test.YtfmojhhokfkdaaaGreatDoorTie
import Derived.Test.YtfmojhhokfkdaaaGreatDoorPi5
set_option linter.unusedSimpArgs false
set_option linter.unusedVariables false
set_option maxRecDepth 20000
set_option maxHeartbeats 2000000
set_option linter.defProp false
namespace Go.Proofs.YtfmojhhokfkdaaaGreatDoor
open Go Go.E Go.Sp Go.ChangeShapes Go.WideShapes Go.ChangeAt Go.WideMaps Go.WideElems Go.RowKit
set_option maxRecDepth 100000
abbrev q3D : List (String × DataW Unit) := [("math/bits.deBruijn32tab", Rows.laid_math_bits_deBruijn32tab)]
def own:ownKnob Tryz.prog.godebug=none:=by kernel_rfl
def q4I (os:Os) (args:Array Value):laidMetH Tryz.prog q3D ((World.doorLaid Tryz.prog 400 os).forCall (fun _ _=>0) ⟨#[],args,[]⟩).memory :=
 laidMetH_of_parts3 (fuel:=8) (laidMet_of_run' 8 (by kernel_rfl) (by kernel_rfl)) (by kernel_rfl) (by kernel_rfl)
def undW:Tryz.prog.underlying 22=some (.slice 42):=by kernel_rfl
def cellU:Tryz.prog.cellsOf 42=1:=by kernel_rfl
def q3w {H:Type} {enc:TypeId × Value→H} {W:World} {v:Value} {d:DataW H} {p:List MemPlace} {b0:Nat} (hv:Value.okWide Tryz.prog W .any b0 22 v) (h:DataW.Trod enc Tryz.prog W 0 (fun _=>true) true 22 v d p) :
  ∃ A n c raw,v=.slice A n c∧n≤9223372036854775807∧In (fSc u64v raw) (fun _=>True) (.slice A n c) W:=by
 obtain ⟨A,n,c,rfl⟩:=okWide_slice undW hv;obtain ⟨fuel,hf⟩:=h
 rcases open_ints undW qgp cellU hf with ⟨h1,_⟩ | ⟨a,len,cap,zs,h1,_,hl,hm,hz,_,hc,hw⟩
 ·injection h1 with h1 _
  injection h1 with h1 h2 h3
  subst h1; subst h2; subst h3;exact ⟨_,_,_,[],rfl,by omega,In.sc_nil⟩
 ·injection h1 with h1 _
  injection h1 with h1 h2 h3
  subst h1; subst h2; subst h3;have hz':zs.length=c:=by simpa using hz
  refine ⟨_,_,_,(zs.take n).map Int.toNat,rfl,by unfold maxLen at hm; omega,some a,n,c,rfl,hl,by simp; omega,fun _=>⟨a,rfl,trivial,fun j u hu=>?_⟩⟩;rw [List.getElem?_map,List.getElem?_map,List.getElem?_take] at hu
  split at hu
  ·rename_i hj;have hjz:j < zs.length:=by omega
   rw [List.getElem?_eq_getElem hjz] at hu;have h0:=hc j hjz;rw [List.getD_eq_getElem?_getD,List.getElem?_eq_getElem hjz] at h0;have h1:=hw zs[j] (List.getElem_mem _);simp only [Lit.wf,Bool.and_eq_true,decide_eq_true_eq] at h1;have h2:(0:Int)≤zs[j]:=h1.1;rw [h0,← Option.some.inj hu]
   show some (Value.int .u64 zs[j])=some (Value.int .u64 ((zs[j].toNat:Nat):Int))
   rw [Int.toNat_of_nonneg h2]
  ·cases hu
section
variable {w:World} {D:Nat→Prop} {ρ:Nat→Option Nat} {h:Hp} {x:PV} {l:List PV} {a:Value} {vs:List Value}
def qeP:RdL w D [] ρ h []:=by unfold RdL; rfl
def q1c (h1:Rd w D x ρ h a) (h2:RdL w D l ρ h vs):RdL w D (x :: l) ρ h (a :: vs):=by
 unfold RdL;exact ⟨_,_,rfl,h1,h2⟩
end
set_option maxRecDepth 100000
def qc0 (os:Os) (started:os.Started) (H:Type) (enc:TypeId × Value→H) :
  ReturnsInHanded {} Tryz.checked os 3 .any (fun w args=>(Rows.refineHalvesSpec.pre enc Tryz.prog Tryz.f3 [] false w args∧laidMetH Tryz.prog q3D w)∧sizedMet enc Tryz.prog Tryz.f3 (OpenSpec.ofChange Rows.refineHalvesSpec) false w args)
   (Rows.refineHalvesSpec.post enc Tryz.prog Tryz.f3 false true false false):=by
 refine returnsInHanded_of_change_and (C:=Tryz.checked) (X:=fun w _=>laidMetH Tryz.prog q3D w) (fun _ _ _ hh h=>h.of_heap hh) own started (by kernel_rfl) Tryz.func3
  (ChangeSpec.witness_shaped (enc:=enc) (C:=Tryz.checked) (os:=os) (X:=fun w _=>laidMetH Tryz.prog q3D w) false (World.doorLaid Tryz.prog 400 os) #[.slice none 0 0,.int .i64 0,.int .i64 0,.bool false] 8 rfl (World.shaped_of_RefB (by kernel_rfl) (by kernel_rfl)) (by kernel_rfl) (by kernel_rfl) (by kernel_rfl) (q4I os _)) ?_
 intro W base args ds gs before hval0 hW _ _ hL _;have hval:∀ (j:Nat) t v,Tryz.f3.params[j]?=some t→args[j]?=some v→Value.okWide Tryz.prog W .any base t v:=hval0;have hW':DataW.Whole enc Tryz.prog Tryz.f3.params.toList Rows.refineHalvesSpec.vars false W args.toList ds gs before:=hW;obtain ⟨p,q,hA0,hV,rfl,_,_⟩:=hW;have hA:DataW.TrodAll enc Tryz.prog W 0 (fun _=>true) true [22,3,3,4] args.toList ds p:=hA0;obtain ⟨v0,s0,d0,e0,p0,q0,ha,rfl,rfl,h0,r0⟩:=trodAll_cons hA;obtain ⟨v1,s1,d1,e1,p1,q1,rfl,rfl,rfl,h1,r1⟩:=trodAll_cons r0;obtain ⟨v2,s2,d2,e2,p2,q2,rfl,rfl,rfl,h2,r2⟩:=trodAll_cons r1;obtain ⟨v3,s3,d3,e3,p3,q3,rfl,rfl,rfl,h3,r3⟩:=trodAll_cons r2;obtain ⟨rfl,rfl,rfl⟩:=trodAll_nil r3;obtain rfl:args=#[v0,v1,v2,v3]:=by cases args; simp_all
 obtain ⟨rfl,rfl⟩:=trodVars_none hV;obtain ⟨A0,n0,c0,y0,rfl,hn0,hi0⟩:=q3w (hval 0 22 _ rfl rfl) h0;obtain ⟨y1,rfl,_,_,g1⟩:=open_int q8O (hval 1 3 _ rfl rfl) h1;simp only [Lit.wf,Bool.and_eq_true,decide_eq_true_eq] at g1;obtain ⟨y2,rfl,_,_,g2⟩:=open_int q8O (hval 2 3 _ rfl rfl) h2;simp only [Lit.wf,Bool.and_eq_true,decide_eq_true_eq] at g2;obtain ⟨y3,rfl,_,_⟩:=open_bool qlf (hval 3 4 _ rfl rfl) h3;have hc:=q5i (raw:=y0) (w:=y3) (by rw [hi0.sc_len]; exact hn0) g1.1 g1.2 g2.1 g2.2;refine (hc.2 _ W [_,_,_,_] (q57 hL) (Fr.triv _) (q1c (qeQ hi0) (q1c q1h (q1c q1h (q1c q1h qeP))))).mono fun e W' ⟨v,he,hx,hr⟩=>?_;rw [q9N hr] at he;subst he;exact ⟨_,rfl,q3v rfl hW' (by kernel_rfl) rfl rfl hx⟩
def qrb:(Rows.refineHalvesRow.inPlace == Tryz.pinned.checked.prog.inPlace 3)=true:=by kernel_rfl
def qra:(Rows.refineHalvesRow.unfollowed == Tryz.pinned.checked.prog.unfollowed 3)=true:=by kernel_rfl
def qr9:(Rows.refineHalvesRow.recurses == Tryz.pinned.checked.prog.recurses 3)=true:=by kernel_rfl
def qr8:(Rows.refineHalvesRow.named == Tryz.pinned.checked.prog.varsNamed 3)=true:=by kernel_rfl
def qr7:joinedFacts Tryz.pinned.checked.prog 3 Tryz.f3 Rows.refineHalvesSpec Rows.refineHalvesRow=true:=by
 unfold joinedFacts;rw [qrb,qra,qr9,qr8]
 kernel_rfl
def q3o:Rows.RefineHalvesSaid :=
 OpenClaim.holds_of_wide 3 Tryz.f3 rfl rfl rfl rfl rfl rfl rfl ⟨rfl,rfl,rfl,rfl,rfl⟩ rfl rfl rfl rfl rfl (by kernel_rfl) Tryz.func3 qr7
  (of_decide_eq_true (by kernel_rfl)) (by unfold Func.isWrapper; first | (rw [if_pos (by decide +kernel)]; kernel_rfl) | (rw [if_neg (by decide +kernel)]; exact ⟨rfl,rfl⟩))
  (fun os started H enc _=>qc0 os started H enc)
set_option maxRecDepth 100000
def qrg:OpenClaim.wfByText (OpenSpec.ofChange Rows.refineHalvesSpec) Rows.refineHalvesRow=true:=by kernel_rfl
def qrf : Tryz.pinned.checked.prog.mainIs = some (true, ("a2740fb67fdf1770b87b446d3cf87e00c3ed12e7a272b0be716aadfd10a83fed" : String).toList) := by kernel_rfl
def qre:false=Tryz.pinned.checked.prog.looks []:=by kernel_rfl
def qrd:false=Rows.refineHalvesRow.goesBy Tryz.pinned.checked.prog:=by kernel_rfl
def qrc : Tryz.prog.funcNamed "sparse/sparselaw35.RefineHalves" = some 3 := by kernel_rfl
theorem rhv_card:Rows.RefineHalvesCardSaid :=
 Claim7.holds_tied_plain_at .later [] [.data] true (true, "a2740fb67fdf1770b87b446d3cf87e00c3ed12e7a272b0be716aadfd10a83fed") false
  q3o (fun _ h=>by cases h) qrg (fun _ h=>by cases h) refineHalves_row_tie rfl ⟨rfl,rfl⟩ qrf rfl
  (fun f fn hf hfn=>by
   obtain rfl:f=3:=Option.some.inj (qrc.symm.trans hf) |>.symm;obtain rfl:fn=Tryz.f3:=(Option.some.inj (Tryz.func3.symm.trans hfn)).symm;exact ⟨qre,fun j t ht=>by
    have hm:t ∈ [22,3,3,4]:=by simpa using Array.mem_of_getElem? ht
    have hall:([22,3,3,4].all fun u=>!Tryz.prog.wantsStandIn u)=true:=by kernel_rfl
    exact (show Tryz.prog.wantsStandIn t=false by simpa using List.all_eq_true.1 hall t hm)⟩)
  qrd
#print axioms rhv_card
def q78 {f:Nat}:q0e (q0x f)=q0e f:=by
 unfold q0e q0x;rw [show f % 9223372036854775808 / 4503599627370496 % 2048=f / 4503599627370496 % 2048 by omega,show f % 9223372036854775808 % 4503599627370496=f % 4503599627370496 by omega]
section
variable {f g:Nat}
def qb8 {l:List Nat} (hl:∀ x ∈ l,x < 18446744073709551616∧q0e x≠3) (hn:l.length≤1000):ACt 170 [pF l] (bv false):=by
 refine ac0 Tryz.func170 Tryz.ntmps170 [.tmp 2] ?_;refine wk ?_;refine q0A (fun i=>i≤l.length) [5,6] [] Lk Lk (fun i:Nat=>[(7,iv i)]) (fun _=>[]) (fun i=>l.length-i) 0 (Nat.zero_le _) ?_ ?_
 ·refine LeM [] rfl rfl ?_;refine Zz ?_
  rfl
 ·intro i hi
  by_cases hlt:i < l.length
  ·obtain ⟨x,hx⟩:∃ x,l[i]?=some x:=⟨_,List.getElem?_eq_getElem hlt⟩;obtain ⟨h1,h2⟩:=hl x (List.mem_of_getElem? hx);have C1:=q2x h1;have q:(((q0e x:Nat):Int) == 3)=false:=by
    simp; omega
   refine wk1 (x2 hx q) ?_;refine ⟨i+1,by omega,by omega,?_⟩;refine LeM [] rfl rfl ?_;refine Zz ?_;omega
  ·exact wk trivial
def qid (hf:f < 18446744073709551616) (h:q0e f≠3):ACt 97 [uv f] (uv (q0x f:Nat)):=by
 have C1:ACt 170 [.sl none [uv f]] (bv false):=qb8 (l:=[f]) (fun x hx=>by simp at hx; subst hx; exact ⟨hf,h⟩) (by simp);have N1:Nz (bv false):=qdN;have h1:=q13 hf;rw [show f % 9223372036854775808=q0x f from rfl] at h1;refine ac0 Tryz.func97 Tryz.ntmps97 [.tmp 2] ?_;exact wk1 h1 trivial
def qic (hf:f < 18446744073709551616) (h:q0e f≠3) (hg:g < 18446744073709551616) (hgf:q0e g≠3):ACt 96 [uv f,uv g] (.tu [iv (qaO (q2u f) (q2u g)),bv true]):=by
 have C1:ACt 170 [.sl none [uv f,uv g]] (bv false):=qb8 (l:=[f,g]) (fun x hx=>by simp at hx; rcases hx with rfl | rfl <;> exact ⟨by assumption,by assumption⟩) (by simp);have N1:Nz (bv false):=qdN;have C2:=q4F hf;have C3:=q4F hg;unfold qaO;generalize q2u f=x at *;generalize q2u g=y at *;refine ac0 Tryz.func96 Tryz.ntmps96 [.tmp 4,.tmp 5] ?_
 by_cases h1:x < y
 ·rw [if_pos h1];exact wk trivial
 ·rw [if_neg h1]
  by_cases h2:y < x
  ·rw [if_pos h2];exact wk trivial
  ·rw [if_neg h2];exact wk trivial
def q7T (hf:f < 18446744073709551616) (h:q0e f≠3):ACt 82 [uv f] (bv false):=by
 have:=qeX hf
 rwa [decide_eq_false h] at this
def qhT (hf:f < 18446744073709551616) (h:q0e f≠3):ACt 24 [uv f] (uv (q0x f:Nat)):=by
 have C1:=q7T hf h;have h1:=q13 hf;rw [show f % 9223372036854775808=q0x f from rfl] at h1;refine ac0 Tryz.func24 Tryz.ntmps24 [.tmp 2] ?_;exact wk1 h1 trivial
def qhS (hf:f < 18446744073709551616) (h:q0e f≠3) (hg:g < 18446744073709551616) (hgf:q0e g≠3):ACt 98 [uv f,uv g] (.tu [iv (qaO (q2u f) (q2u g)),bv true]):=by
 have C1:=q7T hf h;have C4:=q7T hg hgf;have C2:=q7W hf;have C3:=q7W hg;unfold qaO;generalize q2u f=x at *;generalize q2u g=y at *;refine ac0 Tryz.func98 Tryz.ntmps98 [.tmp 4,.tmp 5] ?_
 by_cases h1:x < y
 ·rw [if_pos h1];exact wk trivial
 ·rw [if_neg h1]
  by_cases h2:y < x
  ·rw [if_pos h2];exact wk trivial
  ·rw [if_neg h2];exact wk trivial
end
def qds (l:List Nat):Nat:=if ∀ x ∈ l,q0e x≠3 then q0b l l.length else 9221120237041090560
section
variable {l:List Nat}
def q95:∀ i,i≤l.length→(∀ x ∈ l.take i,q0e x≠3)→q0b l i < 9223372036854775808∧q0e (q0b l i)≠3
 | 0,_,_=>⟨by simp [q0b],by simp [q0b,q0e]⟩
 | i+1,hi,h=>by
  obtain ⟨x,hx⟩:∃ x,l[i]?=some x:=⟨_,List.getElem?_eq_getElem Oq⟩;rw [q1D hx] at h;have ih:=q95 i Oq fun y hy=>h y (List.mem_append.2 (.inl hy));have h2:=h x (by simp);rw [q5c hx];have h1:=q1H (f:=x);rw [← q78] at h2
  rcases Nat.le_total (q0b l i) (q0x x) with h | h
  ·rw [Nat.max_eq_right h]; exact ⟨h1,h2⟩
  ·rw [Nat.max_eq_left h]; exact ih
def q8f (hu:∀ x ∈ l,x < 18446744073709551616) (hn:l.length≤1000000):ACt 33 [pF l] (uv (qds l:Nat)):=by
 obtain ⟨res,hres⟩:∃ res,res=qds l:=⟨_,rfl⟩;rw [← hres];unfold qds at hres;refine ac0 Tryz.func33 Tryz.ntmps33 [.tmp 2] ?_;refine wk ?_;refine q0A (fun i=>i≤l.length∧∀ x ∈ l.take i,q0e x≠3) [8,9] [] Lk Lk (fun i:Nat=>[(10,iv i),(3,uv (q0b l i:Nat))]) (fun _=>[]) (fun i=>l.length-i) 0 ⟨Nat.zero_le _,by simp⟩ ?_ ?_
 ·refine LeM [] rfl rfl ?_;refine Zz ?_;exact ⟨rfl,rfl⟩
 ·rintro i ⟨hi,hk⟩;have h34:=q95 i hi hk;obtain ⟨h3,h4⟩:=h34
  by_cases hlt:i < l.length
  ·obtain ⟨x,hx⟩:∃ x,l[i]?=some x:=⟨_,List.getElem?_eq_getElem hlt⟩;have hm:=List.mem_of_getElem? hx;have h1:=hu x hm;have C1:=q2x h1
   by_cases h2:q0e x=3
   ·rw [if_neg fun h=>h x hm h2] at hres;subst hres;rw [h2] at C1;rw [show ((9221120237041090560:Nat):Int)=9221120237041090560 from rfl];exact wk1 hx trivial
   have q:(((q0e x:Nat):Int) == 3)=false:=by
    simp; omega
   have C2:=qid h1 h2;have C3:=qic (f:=q0x x) (g:=q0b l i) (by have:=q1H (f:=x); omega) (by rw [q78]; exact h2) (by omega) h4;have hm:=q5Z (q1H (f:=x)) h3;have es:=q5c hx;have hk2:∀ y ∈ l.take (i+1),q0e y≠3:=by
    rw [q1D hx];intro y hy
    rcases List.mem_append.1 hy with hy | hy
    ·exact hk y hy
    ·simp at hy; subst hy; exact h2
   generalize qaO (q2u (q0x x)) (q2u (q0b l i))=c at *
   by_cases hc:c > 0
   ·rw [hm.1 hc] at es;refine wk1 (x2 hx q) ?_;refine ⟨i+1,⟨by omega,hk2⟩,by omega,?_⟩;rw [es];refine LeM [] rfl rfl ?_;refine Zz ?_;omega
   ·rw [hm.2 hc] at es;refine wk1 (x2 hx q) ?_;refine ⟨i+1,⟨by omega,hk2⟩,by omega,?_⟩;rw [es];refine LeM [] rfl rfl ?_;refine Zz ?_;omega
  ·obtain rfl:i=l.length:=by omega
   rw [List.take_length] at hk;rw [if_pos hk] at hres;subst hres;exact wk trivial
def q8G (hu:∀ x ∈ l,x < 18446744073709551616) (hn:l.length≤1000000):ACt 34 [pF l] (uv (qds l:Nat)):=by
 obtain ⟨res,hres⟩:∃ res,res=qds l:=⟨_,rfl⟩;rw [← hres];unfold qds at hres;refine ac0 Tryz.func34 Tryz.ntmps34 [.tmp 2] ?_;refine wk ?_;refine q0A (fun i=>i≤l.length∧∀ x ∈ l.take i,q0e x≠3) [0] [] Lk Lk (fun i:Nat=>[(4,iv i),(3,uv (q0b l i:Nat))]) (fun _=>[]) (fun i=>l.length-i) 0 ⟨Nat.zero_le _,by simp⟩ ?_ ?_
 ·refine LeM [] rfl rfl ?_;refine Zz ?_;exact ⟨rfl,rfl⟩
 ·rintro i ⟨hi,hk⟩;have h34:=q95 i hi hk;obtain ⟨h3,h4⟩:=h34
  by_cases hlt:i < l.length
  ·obtain ⟨x,hx⟩:∃ x,l[i]?=some x:=⟨_,List.getElem?_eq_getElem hlt⟩;have hm:=List.mem_of_getElem? hx;have h1:=hu x hm;have C1:=q5P h1
   by_cases h2:q0e x=3
   ·rw [if_neg fun h=>h x hm h2] at hres;subst hres;rw [h2] at C1;rw [show ((9221120237041090560:Nat):Int)=9221120237041090560 from rfl];exact wk1 hx trivial
   have q:(((q0e x:Nat):Int) == 3)=false:=by
    simp; omega
   have C2:=qhT h1 h2;have C3:=qhS (f:=q0x x) (g:=q0b l i) (by have:=q1H (f:=x); omega) (by rw [q78]; exact h2) (by omega) h4;have hm:=q5Z (q1H (f:=x)) h3;have es:=q5c hx;have hk2:∀ y ∈ l.take (i+1),q0e y≠3:=by
    rw [q1D hx];intro y hy
    rcases List.mem_append.1 hy with hy | hy
    ·exact hk y hy
    ·simp at hy; subst hy; exact h2
   generalize qaO (q2u (q0x x)) (q2u (q0b l i))=c at *
   by_cases hc:c > 0
   ·rw [hm.1 hc] at es;refine wk1 (x2 hx q) ?_;refine ⟨i+1,⟨by omega,hk2⟩,by omega,?_⟩;rw [es];refine LeM [] rfl rfl ?_;refine Zz ?_;omega
   ·rw [hm.2 hc] at es;refine wk1 (x2 hx q) ?_;refine ⟨i+1,⟨by omega,hk2⟩,by omega,?_⟩;rw [es];refine LeM [] rfl rfl ?_;refine Zz ?_;omega
  ·obtain rfl:i=l.length:=by omega
   rw [List.take_length] at hk;rw [if_pos hk] at hres;subst hres;exact wk trivial
end
open Classical in
noncomputable def rsE (F:Nat→Nat→Option Nat) (R C:Nat) (x b:List Nat):List Nat × Int :=
 if x.length≠C∨b.length≠R then ([],2) else if ¬ ∀ v ∈ x,q0G v then ([],4) else if ¬ ∀ v ∈ b,q0G v then ([],4) else
 if ∀ v ∈ rdL F (x.map fun v=>(v,0)) b C R,q0G v then (rdL F (x.map fun v=>(v,0)) b C R,0) else ([],233)
section
variable {R C:Nat} {F:Nat→Nat→Option Nat} {x b:List Nat}
def qmS (hR:R≤20):(rsE F R C x b).1.length≤20:=by
 unfold rsE
 repeat' split
 all_goals first | exact Nat.zero_le _ | (dsimp only; rw [q3V]; exact hR)
def qi9 (hm:TOk F R C) (hR:R≤20) (hC:C≤20) (hx:∀ v ∈ x,v < 18446744073709551616) (hxl:x.length≤1000) (hb:∀ v ∈ b,v < 18446744073709551616) (hbl:b.length≤1000):ACt 30 [pT R C F,pF x,pF b] (.tu [pF (rsE F R C x b).1,iv (rsE F R C x b).2]):=by
 have c1:=qah hm;have c2:=q4f hx Oq;have c3:=q4f hb Oq;have key:∀ (hxf:∀ v ∈ x,q0G v) (hbf:∀ v ∈ b,q0G v) (h1:x.length=C) (h2:b.length=R),ACt 91 [pF x] (pVs ((x.map fun v=>(v,0)).map pZ))∧ACt 90 [pT R C F,pVs ((x.map fun v=>(v,0)).map pZ),pF b] (lnR (rdL F (x.map fun v=>(v,0)) b C R)):=fun hxf hbf h1 h2=>by
  have h3:=qf5 (l:=x) (fun v hv=>⟨hx v hv,hxf v hv⟩) hxl;have e:(x.map fun v=>(v,0)).map pZ=x.map fun v=>ofZ v:=by
   rw [List.map_map];exact List.map_congr_left fun v _=>pZ_0
  rw [← e] at h3;exact ⟨h3,q8n hm hR hC (q5k fun v hv=>⟨hx v hv,hxf v hv⟩) (by rw [List.length_map]; exact h1) (fun v hv=>⟨hb v hv,hbf v hv⟩) h2⟩
 unfold rsE;unfold pT q1n at *
 by_cases h1:x.length=C
 rotate_left
 ·rw [if_pos (.inl h1)];have q:((x.length:Int) != (C:Int))=true:=by simp; omega
  refine ac0 Tryz.func30 Tryz.ntmps30 [.tmp 6,.tmp 7] ?_;exact wk1 q trivial
 have q1:((x.length:Int) != (C:Int))=false:=by simp; omega
 by_cases h2:b.length=R
 rotate_left
 ·rw [if_pos (.inr h2)];have q:((b.length:Int) != (R:Int))=true:=by simp; omega
  refine ac0 Tryz.func30 Tryz.ntmps30 [.tmp 6,.tmp 7] ?_;exact wk1 (x2 q1 q) trivial
 have q2:((b.length:Int) != (R:Int))=false:=by simp; omega
 rw [if_neg (by omega)]
 by_cases h3:∀ v ∈ x,q0G v
 rotate_left
 ·rw [if_pos h3];rw [decide_eq_false h3] at c2;refine ac0 Tryz.func30 Tryz.ntmps30 [.tmp 6,.tmp 7] ?_;exact wk1 (x2 q1 q2) trivial
 rw [if_neg (not_not_intro h3)];rw [decide_eq_true h3] at c2
 by_cases h4:∀ v ∈ b,q0G v
 rotate_left
 ·rw [if_pos h4];rw [decide_eq_false h4] at c3;refine ac0 Tryz.func30 Tryz.ntmps30 [.tmp 6,.tmp 7] ?_;exact wk1 (x2 q1 q2) trivial
 rw [if_neg (not_not_intro h4)];rw [decide_eq_true h4] at c3;obtain ⟨c4,c5⟩:=key h3 h4 h1 h2;clear key;unfold lnR at c5;generalize (x.map fun v=>(v,0)).map pZ=X at *;generalize rdL F (x.map fun v=>(v,0)) b C R=D at *
 by_cases h5:∀ v ∈ D,q0G v
 ·rw [if_pos h5];rw [decide_eq_true h5] at c5;refine ac0 Tryz.func30 Tryz.ntmps30 [.tmp 6,.tmp 7] ?_;exact wk1 (x2 q1 q2) trivial
 ·rw [if_neg h5];rw [decide_eq_false h5] at c5;refine ac0 Tryz.func30 Tryz.ntmps30 [.tmp 6,.tmp 7] ?_;exact wk1 (x2 q1 q2) trivial
def qga (hm:TOk F R C) (hR:R≤20) (hC:C≤20) (hx:∀ v ∈ x,v < 18446744073709551616) (hxl:x.length≤1000) (hb:∀ v ∈ b,v < 18446744073709551616) (hbl:b.length≤1000):ACt 31 [pT R C F,pF x,pF b] (.tu [pF (rsE F R C x b).1,iv (rsE F R C x b).2]):=by
 have c1:=qde hm;have c2:=q4Y hx Oq;have c3:=q4Y hb Oq;have c4:=q8H (l:=x) hxl;have key:∀ (hxf:∀ v ∈ x,q0G v) (hbf:∀ v ∈ b,q0G v) (h1:x.length=C) (h2:b.length=R),_:=fun hxf hbf h1 h2=>qj6 (f:=F) (x:=x.map fun v=>(v,0)) (b:=b) hm hR hC (q5k fun v hv=>⟨hx v hv,hxf v hv⟩) (by rw [List.length_map]; exact h1) (fun v hv=>⟨hb v hv,hbf v hv⟩) h2;unfold rsE;unfold pT q1n at *
 by_cases h1:x.length=C
 rotate_left
 ·rw [if_pos (.inl h1)];have q:((x.length:Int) != (C:Int))=true:=by simp; omega
  refine ac0 Tryz.func31 Tryz.ntmps31 [.tmp 6,.tmp 7] ?_;exact wk1 q trivial
 have q1:((x.length:Int) != (C:Int))=false:=by simp; omega
 by_cases h2:b.length=R
 rotate_left
 ·rw [if_pos (.inr h2)];have q:((b.length:Int) != (R:Int))=true:=by simp; omega
  refine ac0 Tryz.func31 Tryz.ntmps31 [.tmp 6,.tmp 7] ?_;exact wk1 (x2 q1 q) trivial
 have q2:((b.length:Int) != (R:Int))=false:=by simp; omega
 rw [if_neg (by omega)]
 by_cases h3:∀ v ∈ x,q0G v
 rotate_left
 ·rw [if_pos h3];rw [decide_eq_false h3] at c2;refine ac0 Tryz.func31 Tryz.ntmps31 [.tmp 6,.tmp 7] ?_;exact wk1 (x2 q1 q2) trivial
 rw [if_neg (not_not_intro h3)];rw [decide_eq_true h3] at c2
 by_cases h4:∀ v ∈ b,q0G v
 rotate_left
 ·rw [if_pos h4];rw [decide_eq_false h4] at c3;refine ac0 Tryz.func31 Tryz.ntmps31 [.tmp 6,.tmp 7] ?_;exact wk1 (x2 q1 q2) trivial
 rw [if_neg (not_not_intro h4)];rw [decide_eq_true h4] at c3;have c5:=key h3 h4 h1 h2;clear key;generalize (x.map fun v=>(v,0))=X at *;generalize rdL F X b C R=D at *
 by_cases h5:∀ v ∈ D,q0G v
 ·rw [if_pos h5];rw [if_pos h5] at c5;refine ac0 Tryz.func31 Tryz.ntmps31 [.tmp 6,.tmp 7] ?_;exact wk1 (x2 q1 q2) trivial
 ·rw [if_neg h5];rw [if_neg h5] at c5;refine ac0 Tryz.func31 Tryz.ntmps31 [.tmp 6,.tmp 7] ?_;exact wk1 (x2 q1 q2) trivial
end
def LeO2 {J:Nat→Prop} {h:Hp} {a n T T':Nat} {xs ys:List PV} (hJ:∀ i,J i→i=5000) (h5:h 5000=some ⟨T',none,ys,false⟩) (hc5:ClL ys) (hb:h a=some ⟨T,none,xs,false⟩) (hc:ClL xs) (ha:a≠5000):Le J (fun _=>.ow a none 0 n) h (fun _=>.ow 5001 none 0 n) (q0P (q0P h0 5000 ⟨T',none,ys,false⟩) 5001 ⟨T,none,xs,false⟩):=by
 refine q4l (fun i=>if i=5001 then some a else if i=5000 then some 5000 else none) (fun i b' hb'=>?_) (fun i j k b c hi hj ti tj=>?_) (fun _=>.ow (if_pos rfl) q0J) fun i hi _ _=>by
  have:=hJ i hi;subst this;rw [if_neg (by omega),if_pos rfl]
 ·by_cases hi:i=5001
  ·subst hi;rw [q0J] at hb'; cases hb';unfold LeB;exact ⟨_,hb,rfl,rfl,⟨rfl,rfl⟩,q0M rfl hc⟩
  ·rw [q0B hi] at hb'
   by_cases h0:i=5000
   ·subst h0;rw [q0J] at hb'; cases hb';unfold LeB;exact ⟨_,h5,rfl,rfl,⟨rfl,rfl⟩,q0M rfl hc5⟩
   ·rw [q0B h0] at hb'; cases hb'
 ·split at ti
  ·split at tj
   ·rename_i e1 e2; rw [e1,e2]
   ·split at tj
    ·cases ti; cases tj; exact (ha rfl).elim
    ·cases tj
  ·split at ti
   ·split at tj
    ·cases ti; cases tj; exact (ha rfl).elim
    ·split at tj
     ·rename_i e1 _ e2; rw [e1,e2]
     ·cases tj
   ·cases ti
def q9X {raw:List Nat} {k st:Int} {n:Nat} {ys:List Nat} (hr:raw.length≤9223372036854775807) (hn:n≤1000000) (h1 : -1000000≤k) (h2:k≤1000000) (h3 : -9223372036854775808≤st) (h4:st≤9223372036854775807) :
  qg6 29 [pF raw,iv k,iv n,iv st] (q0P h0 5000 ⟨43,none,ys.map fun z:Nat=>uv z,false⟩) (.ow 5001 none 0 n) (q0P (q0P h0 5000 ⟨43,none,ys.map fun z:Nat=>uv z,false⟩) 5001 ⟨43,none,(q6R raw k (q04 st 4) n).map fun z:Nat=>uv z,false⟩):=by
 have hJ:∀ i,(q0P h0 5000 ⟨43,none,ys.map fun z:Nat=>uv z,false⟩:Hp) i≠none→i=5000:=fun i h=>Classical.byContradiction fun hi=>h (by rw [q0B hi]; rfl);refine qjR qoE Tryz.func29 rfl Tryz.ntmps29 (by kernel_rfl) ?_ ?_ ?_ ?_
 ·intro i b hb;obtain ⟨q1,rfl⟩:=qjY clU i b hb;have hi:i=5000:=Classical.byContradiction fun hi=>by rw [q0B hi] at hb; cases hb
  subst hi;exact ⟨q1,rfl,q6u clU,_,by rw [q0B (by omega)]; exact q0J,rfl,Nat.le_refl _⟩
 ·intro i b hb
  by_cases hi:i=5001
  ·subst hi; exact ⟨by omega,by omega⟩
  ·rw [q0B hi] at hb
   by_cases hi:i=5000
   ·subst hi; exact ⟨by omega,by omega⟩
   ·rw [q0B hi] at hb; cases hb
 ·exact IdL.of fun x hx=>by
   simp at hx
   rcases hx with rfl | rfl | rfl | rfl <;> unfold IdP <;> trivial
 have hW:WfH (q0P h0 5000 ⟨43,none,ys.map fun z:Nat=>uv z,false⟩):=⟨fun i b hb=>by
  obtain ⟨_,rfl⟩:=qjY clU i b hb;exact ⟨rfl,q6u clU⟩⟩
 refine wk ?_;refine q0U (fun i=>i≤n) [0,1,2,3] [] Lk Lk (fun i:Nat=>[(10,iv i),(9,.ow 11 none 0 i)]) (fun i=>[(11,⟨43,none,(q6R raw k (q04 st 4) i).map fun z:Nat=>uv z,false⟩)]) (fun _=>q0P h0 5000 ⟨43,none,ys.map fun z:Nat=>uv z,false⟩) (fun i=>n-i) 0 (Nat.zero_le _) ?_ ?_
 ·refine LeW [] rfl rfl ?_ ?_ (by simp [q1I,q0t,win]) ?_
  ·exact Ow
  ·exact hW
  ·try refine Zz ?_
   exact ⟨rfl,rfl⟩
 ·intro i hi
  by_cases hlt:i < n
  ·have C1:=@q7A;have C2:=@qe9;have C3:=@q2b;refine wk1 @q1k ?_;refine ⟨i+1,by omega,by omega,?_⟩;refine LeW [(11,some 26)] rfl rfl ?_ ?_ (by simp [q1I,q0t,win]) ?_
   ·exact Ow
   ·exact hW
   ·try refine Zz ?_
    exact ⟨by omega,by rw [qj7]⟩
  ·obtain rfl:i=n:=by omega
   refine wk ?_;refine (rtM (rs:=[.tmp 8]) rfl rfl Lq ?_ (.inl rfl));refine LeO2 hJ ?_ clU ?_ clU Oq
   ·try simp -implicitDefEqProofs (disch:=omega) only [go_sem,Nat.reduceEqDiff,Nat.reduceAdd,↓reduceIte]
   ·try simp -implicitDefEqProofs (disch:=omega) only [go_sem,Nat.reduceEqDiff,Nat.reduceAdd,↓reduceIte]
def qdr:ACt 33 [.vl (.slice none 0 0)] (uv 0):=by
 refine ac0 Tryz.func33 Tryz.ntmps33 [.tmp 2] ?_;refine wk ?_;refine q0A (fun i=>i≤0) [8,9] [] Lk Lk (fun i:Nat=>[(10,iv i),(3,uv 0)]) (fun _=>[]) (fun i=>0-i) 0 (Nat.zero_le _) ?_ ?_
 ·refine LeM [] rfl rfl ?_;refine Zz ?_
  rfl
 ·intro i hi;obtain rfl:i=0:=by omega
  exact wk trivial
section
variable {raw:List Nat} {r c st long:Int} {value:Nat}
def q46 (hr:raw.length≤9223372036854775807) (h1 : -9223372036854775808≤r) (h2:r≤9223372036854775807) (h3 : -9223372036854775808≤c) (h4:c≤9223372036854775807) (h5 : -9223372036854775808≤st) (h6:st≤9223372036854775807) (h7 : -9223372036854775808≤long) (h8:long≤9223372036854775807) (hval:value < 18446744073709551616) :
  ACt 4 [pF raw,iv r,iv c,iv st,iv long,uv value] (bv true):=by
 have cA:=q2m;have cN:=qdr;have cR:=q2i (a:=r) (n:=5) h1 h2 Oq Oq;have cC:=q2i (a:=c) (n:=5) h3 h4 Oq Oq;have hR:q04 r 5 < 5:=by unfold q04; omega
 have hC:q04 c 5 < 5:=by unfold q04; omega
 generalize q04 r 5=R at *;generalize q04 c 5=C at *;have hCR:C*R≤5*5:=Nat.mul_le_mul Oq Oq;have cG:=q32 (raw:=raw) (st:=st) (R:=R) (C:=C) hr Oq Oq h5 h6;have hG:=qhy (raw:=raw) (R:=R) (C:=C) (st:=q04 st 4) Oq Oq Oq;generalize gF raw R (q04 st 4)=g at *;have cX:=q40 (raw:=raw) (k:=20) (st:=st) (n:=C) hr Oq Oq Oq h5 h6;have hx:=q2P (raw:=raw) (k:=20) (st:=q04 st 4) (n:=C);have hxl:=q1k (raw:=raw) (k:=20) (st:=q04 st 4) (n:=C);have cB:=q9X (raw:=raw) (k:=40) (st:=st) (n:=R) (ys:=q6R raw 20 (q04 st 4) C) hr Oq Oq Oq h5 h6;have hb:=q2P (raw:=raw) (k:=40) (st:=q04 st 4) (n:=R);have hbl:=q1k (raw:=raw) (k:=40) (st:=q04 st 4) (n:=R);generalize q6R raw 20 (q04 st 4) C=x at *;generalize q6R raw 40 (q04 st 4) R=b at *;have kR:=fun (X B:List Nat) (h1:∀ v ∈ X,v < 18446744073709551616) (h2:X.length≤100) (h3:∀ v ∈ B,v < 18446744073709551616) (h4:B.length≤100)=>qi9 hG Oq Oq h1 Oq h3 Oq;have kZ:=fun (X B:List Nat) (h1:∀ v ∈ X,v < 18446744073709551616) (h2:X.length≤100) (h3:∀ v ∈ B,v < 18446744073709551616) (h4:B.length≤100)=>qga hG Oq Oq h1 Oq h3 Oq;unfold pT q1n at *;refine ac0 Tryz.func4 Tryz.ntmps4 [.tmp 12] ?_;refine wk ?_;generalize (tM g R C).1=ms at *;generalize (tM g R C).2.1=mi at *;generalize (tM g R C).2.2=mv at *;refine A_jW [(4,iv long),(5,uv (value:Nat)),(13,.pt 13 0 0),(14,.ow 5000 none 0 C),(15,.ow 5001 none 0 R)] [(13,⟨26,some 5,[.ag [iv R,iv C,pI ms,pI mi,pF mv]],false⟩)] (q0P (q0P h0 5000 ⟨43,none,x.map fun z:Nat=>uv z,false⟩) 5001 ⟨43,none,b.map fun z:Nat=>uv z,false⟩) ?_ fun K0 fin=>?_
 rotate_left
 ·refine q6Q q3Y (.one 0 (.one 1 (.one 3 (.one 5 (.one 6 (.one 8 (.alt (.one 2 (.alt (.one 4 (.one 7 (.one 9 (.one 10 (.one 11 .fin))))) (.one 7 (.one 4 (.one 9 (.one 10 (.one 11 .fin))))))) (.one 7 (.one 2 (.one 4 (.one 9 (.one 10 (.one 11 .fin))))))))))))) (by kernel_rfl) fun K9 hK9=>?_;refine Zz ?_
  repeat' (with_reducible apply And.intro)
  all_goals
   refine jmF cX ?_ ?_
   ·exact Ow
   try refine Zz ?_
   refine jmF cB ?_ ?_
   ·exact Ow
   try refine Zz ?_
   refine hK9 _ _ (fin _ _ ?_);refine LeW [] rfl rfl ?_ ?_ (by simp [q1I,q0t,win]) ?_
   ·exact Ow
   ·exact ⟨fun i b hb=>by
     by_cases hi:i=5001
     ·subst hi; rw [q0J] at hb; cases hb; exact ⟨rfl,q6u clU⟩
     ·rw [q0B hi] at hb;obtain ⟨_,rfl⟩:=qjY clU i b hb;exact ⟨rfl,q6u clU⟩⟩
   ·try simp -implicitDefEqProofs (disch:=omega) only [go_sem,Nat.reduceEqDiff,Nat.reduceAdd,↓reduceIte]
 refine q1M (LeT (hw:=h0) (fun i=>if i=1001 then some 5000 else if i=1002 then some 5001 else if i=5000∨i=5001 then none else some i) (fun i hi=>hi.elim) (fun i hi hw=>?_) (fun i b hw hb=>?_) (fun i j k hi hj ti tj=>?_) (xs:=[(4,iv long),(5,uv (value:Nat)),(13,.pt 13 0 0),(14,.ow 1001 none 0 C),(15,.ow 1002 none 0 R)]) (kv:=[]) (bs:=[(13,⟨26,some 5,[.ag [iv R,iv C,pI ms,pI mi,pF mv]],false⟩),(1001,⟨43,none,x.map fun z:Nat=>uv z,false⟩),(1002,⟨43,none,b.map fun z:Nat=>uv z,false⟩)]) (kb:=[]) ?_) ?_
 ·simp at hi;unfold win at hw;omega
 ·cases hb
 ·have a1:∀ i,(win i∧(h0:Hp) i≠none∨i ∈ List.map (·.1) [(13,(⟨26,some 5,[.ag [iv R,iv C,pI ms,pI mi,pF mv]],false⟩:Bk)),(1001,⟨43,none,x.map fun z:Nat=>uv z,false⟩),(1002,⟨43,none,b.map fun z:Nat=>uv z,false⟩)] ++ [])→i=13∨i=1001∨i=1002:=fun i hi=>by
   rcases hi with ⟨_,hi⟩ | hi
   ·exact absurd rfl hi
   ·simpa using hi
  rcases a1 i hi with rfl | rfl | rfl <;> rcases a1 j hj with rfl | rfl | rfl <;> simp at ti tj <;> omega
 ·try simp -implicitDefEqProofs (disch:=omega) only [go_sem,Nat.reduceEqDiff,Nat.reduceAdd,↓reduceIte]
 refine wk ?_;refine qpc fun K hK=>?_;have fin1:∀ (X:List Nat) (s:Nat→PV) (h:Hp),(∀ v ∈ X,v < 18446744073709551616)→X.length≤10→Le (fun _=>False) s h (stM [(4,iv long),(5,uv (value:Nat)),(13,.pt 13 0 0),(14,pF X),(15,.ow 1002 none 0 R)] []) (hpM [(13,⟨26,some 5,[.ag [iv R,iv C,pI ms,pI mi,pF mv]],false⟩),(1002,⟨43,none,b.map fun z:Nat=>uv z,false⟩)] [])→K s h:=by
  clear cX cB cR cC cG hx hxl;intro X s h hX hXl hl;refine hK _ _ (q1M hl ?_); clear hK K hl;refine wk ?_;refine qpc fun K hK=>?_;have q5z:∀ (B:List Nat) (s:Nat→PV) (h:Hp),(∀ v ∈ B,v < 18446744073709551616)→B.length≤10→Le (fun _=>False) s h (stM [(5,uv (value:Nat)),(13,.pt 13 0 0),(14,pF X),(15,pF B)] []) (hpM [(13,⟨26,some 5,[.ag [iv R,iv C,pI ms,pI mi,pF mv]],false⟩)] [])→K s h:=by
   clear hb hbl;intro B s h hB hBl hl;refine hK _ _ (q1M hl ?_); clear hK K hl;have c1:=kR X B hX Oq hB Oq;have c2:=kZ X B hX Oq hB Oq;have hsl:=qmS (F:=g) (R:=R) (C:=C) (x:=X) (b:=B) Oq;generalize (rsE g R C X B).1=A at *;generalize (rsE g R C X B).2=e at *;have c3:=q08 (l:=A) Oq;have hl1:∀ v ∈ value :: B,v < 18446744073709551616:=fun v hv=>by
    rcases List.mem_cons.1 hv with rfl | hv
    ·exact hval
    ·exact hB v hv
   have c4:ACt 33 [.sl none (uv (value:Nat) :: B.map fun z:Nat=>uv z)] (uv (qds (value :: B):Nat)):=q8f hl1 (by simp; omega);have c5:ACt 34 [.sl none (uv (value:Nat) :: B.map fun z:Nat=>uv z)] (uv (qds (value :: B):Nat)):=q8G hl1 (by simp; omega);have c6:=q8f hB Oq;have c7:=q8G hB Oq;have n4:Nz (uv (qds (value :: B):Nat)):=qdN;have r1:(e == e)=true:=by simp
   generalize qds (value :: B)=z1 at *;generalize qds B=z2 at *;clear kR kZ;have r2:(((z1:Nat):Int) == ((z1:Nat):Int))=true:=by simp
   have r3:(((z2:Nat):Int) == ((z2:Nat):Int))=true:=by simp
   have ht:(uv (value:Nat) :: B.map fun z:Nat=>uv z).take (1+B.length)=uv (value:Nat) :: B.map fun z:Nat=>uv z:=List.take_of_length_le (by simp; omega);exact wk1 (x4 r1 r2 r3 ht) trivial
  by_cases q1:(R:Int) > 0
  ·cases q2:(long.tmod 5 == 0)
   ·refine wk1 (x2 q1 q2) ?_;refine q5z b _ _ (fun v hv=>(hb v hv).1) Oq (LeM [] rfl rfl ?_)
    try refine Zz ?_
    exact q1f (T:=43) rfl clU rfl (by rw [List.length_map]; omega)
   ·have cM:=q2i (a:=long) (n:=R) h7 h8 Oq Oq;have hm:q04 long R < R:=q5n Oq;generalize q04 long R=m at *;refine wk1 (x2 q1 q2) ?_;refine q5z (b.set m value) _ _ (fun v hv=>?_) (by rw [List.length_set]; omega) (LeM [] rfl rfl ?_)
    ·rcases List.mem_or_eq_of_mem_set hv with h | rfl
     ·exact (hb v h).1
     ·exact hval
    try refine Zz ?_
    exact q1f (T:=43) (by rw [List.map_set]; rfl) clU rfl (by rw [List.length_map,List.length_set]; omega)
  ·refine wk1 q1 ?_;refine q5z b _ _ (fun v hv=>(hb v hv).1) Oq (LeM [] rfl rfl ?_)
   try refine Zz ?_
   exact q1f (T:=43) rfl clU rfl (by rw [List.length_map]; omega)
 cases q1:(long.tmod 7 == 0)
 ·refine wk1 q1 ?_;refine fin1 x _ _ (fun v hv=>(hx v hv).1) Oq (LeM [] rfl rfl ?_)
  try refine Zz ?_
  exact q1f (T:=43) rfl clU rfl (by rw [List.length_map]; omega)
 ·refine wk1 q1 ?_;refine fin1 (x ++ [4607182418800017408]) _ _ (fun v hv=>?_) (by simp; omega) (LeM [] rfl rfl ?_)
  ·rcases List.mem_append.1 hv with h | h
   ·exact (hx v h).1
   ·simp at h; subst h; omega
  try refine Zz ?_
  unfold pF
  apply q1f (T:=43)
  ·rw [List.map_append]
   rfl
  ·exact clU
  ·rfl
  ·simp
end
set_option maxRecDepth 100000
def qcY (os:Os) (started:os.Started) (H:Type) (enc:TypeId × Value→H) :
  ReturnsInHanded {} Tryz.checked os 4 .any (fun w args=>(Rows.refineResidualSpec.pre enc Tryz.prog Tryz.f4 [] false w args∧laidMetH Tryz.prog q3D w)∧sizedMet enc Tryz.prog Tryz.f4 (OpenSpec.ofChange Rows.refineResidualSpec) false w args)
   (Rows.refineResidualSpec.post enc Tryz.prog Tryz.f4 false true false false):=by
 refine returnsInHanded_of_change_and (C:=Tryz.checked) (X:=fun w _=>laidMetH Tryz.prog q3D w) (fun _ _ _ hh h=>h.of_heap hh) own started (by kernel_rfl) Tryz.func4
  (ChangeSpec.witness_shaped (enc:=enc) (C:=Tryz.checked) (os:=os) (X:=fun w _=>laidMetH Tryz.prog q3D w) false (World.doorLaid Tryz.prog 400 os) #[.slice none 0 0,.int .i64 0,.int .i64 0,.int .i64 0,.int .i64 0,.int .u64 0] 8 rfl (World.shaped_of_RefB (by kernel_rfl) (by kernel_rfl)) (by kernel_rfl) (by kernel_rfl) (by kernel_rfl) (q4I os _)) ?_
 intro W base args ds gs before hval0 hW _ _ hL _;have hval:∀ (j:Nat) t v,Tryz.f4.params[j]?=some t→args[j]?=some v→Value.okWide Tryz.prog W .any base t v:=hval0;have hW':DataW.Whole enc Tryz.prog Tryz.f4.params.toList Rows.refineResidualSpec.vars false W args.toList ds gs before:=hW;obtain ⟨p,q,hA0,hV,rfl,_,_⟩:=hW;have hA:DataW.TrodAll enc Tryz.prog W 0 (fun _=>true) true [22,3,3,3,3,42] args.toList ds p:=hA0;obtain ⟨v0,s0,d0,e0,p0,q0,ha,rfl,rfl,h0,r0⟩:=trodAll_cons hA;obtain ⟨v1,s1,d1,e1,p1,q1,rfl,rfl,rfl,h1,r1⟩:=trodAll_cons r0;obtain ⟨v2,s2,d2,e2,p2,q2,rfl,rfl,rfl,h2,r2⟩:=trodAll_cons r1;obtain ⟨v3,s3,d3,e3,p3,q3,rfl,rfl,rfl,h3,r3⟩:=trodAll_cons r2;obtain ⟨v4,s4,d4,e4,p4,q4,rfl,rfl,rfl,h4,r4⟩:=trodAll_cons r3;obtain ⟨v5,s5,d5,e5,p5,q5,rfl,rfl,rfl,h5,r5⟩:=trodAll_cons r4;obtain ⟨rfl,rfl,rfl⟩:=trodAll_nil r5;obtain rfl:args=#[v0,v1,v2,v3,v4,v5]:=by cases args; simp_all
 obtain ⟨rfl,rfl⟩:=trodVars_none hV;obtain ⟨A0,n0,c0,y0,rfl,hn0,hi0⟩:=q3w (hval 0 22 _ rfl rfl) h0;obtain ⟨y1,rfl,_,_,g1⟩:=open_int q8O (hval 1 3 _ rfl rfl) h1;simp only [Lit.wf,Bool.and_eq_true,decide_eq_true_eq] at g1;obtain ⟨y2,rfl,_,_,g2⟩:=open_int q8O (hval 2 3 _ rfl rfl) h2;simp only [Lit.wf,Bool.and_eq_true,decide_eq_true_eq] at g2;obtain ⟨y3,rfl,_,_,g3⟩:=open_int q8O (hval 3 3 _ rfl rfl) h3;simp only [Lit.wf,Bool.and_eq_true,decide_eq_true_eq] at g3;obtain ⟨y4,rfl,_,_,g4⟩:=open_int q8O (hval 4 3 _ rfl rfl) h4;simp only [Lit.wf,Bool.and_eq_true,decide_eq_true_eq] at g4;obtain ⟨z5,rfl,_,_,g5⟩:=open_int qgp (hval 5 42 _ rfl rfl) h5;simp only [Lit.wf,Bool.and_eq_true,decide_eq_true_eq] at g5;have l5:(0:Int)≤z5:=g5.1;have m5:z5≤(18446744073709551615:Int):=g5.2;obtain ⟨y5,rfl⟩:∃ x:Nat,z5=x:=⟨z5.toNat,by omega⟩;have hc:=q46 (raw:=y0) (value:=y5) (by rw [hi0.sc_len]; exact hn0) g1.1 g1.2 g2.1 g2.2 g3.1 g3.2 g4.1 g4.2 (by omega);refine (hc.2 _ W [_,_,_,_,_,_] (q57 hL) (Fr.triv _) (q1c (qeQ hi0) (q1c q1h (q1c q1h (q1c q1h (q1c q1h (q1c q1h qeP))))))).mono fun e W' ⟨v,he,hx,hr⟩=>?_;rw [q9N hr] at he;subst he;exact ⟨_,rfl,q3v rfl hW' (by kernel_rfl) rfl rfl hx⟩
def qrN:(Rows.refineResidualRow.inPlace == Tryz.pinned.checked.prog.inPlace 4)=true:=by kernel_rfl
def qrM:(Rows.refineResidualRow.unfollowed == Tryz.pinned.checked.prog.unfollowed 4)=true:=by kernel_rfl
def qrL:(Rows.refineResidualRow.recurses == Tryz.pinned.checked.prog.recurses 4)=true:=by kernel_rfl
def qrK:(Rows.refineResidualRow.named == Tryz.pinned.checked.prog.varsNamed 4)=true:=by kernel_rfl
def qrJ:joinedFacts Tryz.pinned.checked.prog 4 Tryz.f4 Rows.refineResidualSpec Rows.refineResidualRow=true:=by
 unfold joinedFacts;rw [qrN,qrM,qrL,qrK]
 kernel_rfl
def q3C:Rows.RefineResidualSaid :=
 OpenClaim.holds_of_wide 4 Tryz.f4 rfl rfl rfl rfl rfl rfl rfl ⟨rfl,rfl,rfl,rfl,rfl⟩ rfl rfl rfl rfl rfl (by kernel_rfl) Tryz.func4 qrJ
  (of_decide_eq_true (by kernel_rfl)) (by unfold Func.isWrapper; first | (rw [if_pos (by decide +kernel)]; kernel_rfl) | (rw [if_neg (by decide +kernel)]; exact ⟨rfl,rfl⟩))
  (fun os started H enc _=>qcY os started H enc)
set_option maxRecDepth 100000
def qrS:OpenClaim.wfByText (OpenSpec.ofChange Rows.refineResidualSpec) Rows.refineResidualRow=true:=by kernel_rfl
def qrR : Tryz.pinned.checked.prog.mainIs = some (true, ("a2740fb67fdf1770b87b446d3cf87e00c3ed12e7a272b0be716aadfd10a83fed" : String).toList) := by kernel_rfl
def qrQ:false=Tryz.pinned.checked.prog.looks []:=by kernel_rfl
def qrP:false=Rows.refineResidualRow.goesBy Tryz.pinned.checked.prog:=by kernel_rfl
def qrO : Tryz.prog.funcNamed "sparse/sparselaw35.RefineResidual" = some 4 := by kernel_rfl
theorem rrs_card:Rows.RefineResidualCardSaid :=
 Claim7.holds_tied_plain_at .later [] [.data] true (true, "a2740fb67fdf1770b87b446d3cf87e00c3ed12e7a272b0be716aadfd10a83fed") false
  q3C (fun _ h=>by cases h) qrS (fun _ h=>by cases h) refineResidual_row_tie rfl ⟨rfl,rfl⟩ qrR rfl
  (fun f fn hf hfn=>by
   obtain rfl:f=4:=Option.some.inj (qrO.symm.trans hf) |>.symm;obtain rfl:fn=Tryz.f4:=(Option.some.inj (Tryz.func4.symm.trans hfn)).symm;exact ⟨qrQ,fun j t ht=>by
    have hm:t ∈ [22,3,3,3,3,42]:=by simpa using Array.mem_of_getElem? ht
    have hall:([22,3,3,3,3,42].all fun u=>!Tryz.prog.wantsStandIn u)=true:=by kernel_rfl
    exact (show Tryz.prog.wantsStandIn t=false by simpa using List.all_eq_true.1 hall t hm)⟩)
  qrP
#print axioms rrs_card
def q4o (a:Nat):Nat:=64461+max (a / 4503599627370496) 1
def q9e {a:Nat} (ha:a < 9223372036854775808) (hf:q0G a):ofZ a=(((if a / 4503599627370496=0 then a else 4503599627370496+a % 4503599627370496):Nat):Int)*(2:Int) ^ q4o a:=by
 refine q0W ?_;unfold q0G at hf;have h2:a / 4503599627370496 % 2048=a / 4503599627370496:=Nat.mod_eq_of_lt Oq;rw [h2] at hf;unfold ofF q4o;rw [h2,if_neg hf,decide_eq_false (by omega)]
 by_cases h0:a / 4503599627370496=0
 ·rw [if_pos h0,if_pos h0,h0,show max 0 1=1 from rfl,show a % 4503599627370496=a by omega]; rfl
 ·rw [if_neg h0,if_neg h0,show max (a / 4503599627370496) 1=a / 4503599627370496 by omega]; rfl
def qbG {a:Nat} (ha:a+1 < 9223372036854775808) (hf:q0G (a+1)) (hf0:q0G a):ofZ (a+1)-ofZ a=(2:Int) ^ q4o a:=by
 rw [q9e ha hf,q9e (by omega) hf0]
 by_cases hm:a % 4503599627370496=4503599627370495
 ·have e1:(a+1) / 4503599627370496=a / 4503599627370496+1:=by omega
  have e2:(a+1) % 4503599627370496=0:=by omega
  rw [if_neg (by omega),e2]
  by_cases h0:a / 4503599627370496=0
  ·have e3:q4o (a+1)=q4o a:=by unfold q4o; omega
   rw [if_pos h0,e3,← Int.sub_mul,show (((4503599627370496+0:Nat):Int)-(a:Int))=1 by omega,Int.one_mul]
  ·have e3:q4o (a+1)=q4o a+1:=by unfold q4o; omega
   rw [if_neg h0,e3,Int.pow_succ,hm];generalize (2:Int) ^ q4o a=A;omega
 ·have e1:(a+1) / 4503599627370496=a / 4503599627370496:=by omega
  have e2:(a+1) % 4503599627370496=a % 4503599627370496+1:=by omega
  have e3:q4o (a+1)=q4o a:=by unfold q4o; rw [e1]
  rw [e3,e1,e2,← Int.sub_mul]
  by_cases h0:a / 4503599627370496=0
  ·rw [if_pos h0,if_pos h0,show (((a+1:Nat):Int)-(a:Int))=1 by omega,Int.one_mul]
  ·rw [if_neg h0,if_neg h0,show (((4503599627370496+(a % 4503599627370496+1):Nat):Int)-((4503599627370496+a % 4503599627370496:Nat):Int))=1 by omega,Int.one_mul]
def q9f {f:Nat} (hf:f < 18446744073709551616) (h:q0G f):((ofZ f).natAbs:Int)=ofZ (q0x f):=by
 have h1:q0x f / 4503599627370496 % 2048=f / 4503599627370496 % 2048:=by unfold q0x; omega
 have h2:q0x f % 4503599627370496=f % 4503599627370496:=by unfold q0x; omega
 have hn:¬ 9223372036854775808≤q0x f:=by have:=q1H (f:=f); omega
 unfold q0G at h;have e:∀ x:Option Int,x.getD 0=x.getD 0:=fun _=>rfl;unfold ofZ ofF;rw [h1,if_neg h,if_neg h,h2,decide_eq_false hn];have key:∀ (b:Bool) (m k:Nat),((sgn b m*(2:Int) ^ k).natAbs:Int)=sgn false m*(2:Int) ^ k:=fun b m k=>by
  rw [q0H]
  push_cast
  congr 1
  cases b <;> simp [sgn]
 split
 ·exact key _ _ _
 ·exact key _ _ _
def q73 {f:Nat} (h:q0G f):∃ z:Int,ofZ f=z*(2:Int) ^ 64462:=by
 obtain ⟨m,k,h1,_,h2,_⟩:=q2s h;refine ⟨m*(2:Int) ^ (k-64462),?_⟩;rw [q0W h1,Int.mul_assoc,← Int.pow_add]
 congr 2
 omega
def qiv {p:Nat × Nat} {d:Nat} (h1:q0G p.1) (h2:q0G p.2) (h3:q0G d):∃ z:Int,chT p d=z*(2:Int) ^ 64462:=by
 obtain ⟨a,ha⟩:=q73 h1;obtain ⟨b,hb⟩:=q73 h2;obtain ⟨c,hc⟩:=q73 h3;exact ⟨a+b+c,by unfold chT; rw [ha,hb,hc,Int.add_mul,Int.add_mul]⟩
def qhs {W z:Int} {K u:Nat} (hK:K=65536) (hu:K≤u+1074) (h:2*W.natAbs≤2 ^ u) (hz:W=z*(2:Int) ^ (K-1074)) (hf:q0G (fR 0 W)):2*(ofZ (fR 0 W)).natAbs≤2 ^ u:=by
 by_cases hW:W=0
 ·subst hW;have e:ofZ (fR 0 0)=0:=by rw [show fR 0 0=0 from if_pos rfl]; exact q0W q16
  rw [e]; simp
 ·obtain ⟨v,r,h1,h2,_,h3,h4,h5,h6⟩:=qaD hK hW hf;have hW2:(ofZ (fR 0 W)).natAbs=r*2 ^ v:=by
   rw [h3,q0H]
   congr 1
   cases decide (W < 0) <;> simp [sgn]
  rw [hW2];have h7:2*(r*2 ^ v)≤2*W.natAbs+2 ^ v:=by
   have:(ofZ (fR 0 W)).natAbs≤W.natAbs+(W-ofZ (fR 0 W)).natAbs:=by omega
   omega
  rcases Nat.lt_or_ge v u with hvu | hvu
  ·obtain ⟨c,rfl⟩:∃ c,u=c+v+1:=⟨u-v-1,by omega⟩;have e:2 ^ (c+v+1)=2*(2 ^ c*2 ^ v):=by rw [Nat.pow_succ,Nat.pow_add,Nat.mul_comm]
   rw [e] at h ⊢;refine Nat.mul_le_mul_left 2 (Nat.mul_le_mul_right _ ?_);have hp:=q0F v;have h8:2*(r*2 ^ v) < (2*2 ^ c+2)*2 ^ v:=by
    rw [Nat.add_mul,Nat.mul_assoc];generalize 2 ^ c*2 ^ v=A at *;generalize r*2 ^ v=B at *;omega
   rw [← Nat.mul_assoc] at h8;have:=Nat.lt_of_mul_lt_mul_right h8;omega
  ·exfalso
   have hmon:2 ^ u≤2 ^ v:=Nat.pow_le_pow_right Oq hvu
   rcases h5 with h5 | h5
   ·have huv:u=v:=by omega
    subst huv;have hz0:z≠0:=fun q=>hW (by rw [hz,q,Int.zero_mul]);have e1:W.natAbs=z.natAbs*2 ^ (K-1074):=by rw [hz,q0H]
    rw [show K-1074=u by omega] at e1;have hp:=q0F u;have:1*2 ^ u≤z.natAbs*2 ^ u:=Nat.mul_le_mul_right _ Oq;omega
   ·have h8:2*(r*2 ^ v)≤2*2 ^ v:=by omega
    have hp:=q0F v;have h9:4503599627370496*2 ^ v≤r*2 ^ v:=Nat.mul_le_mul_right _ h5;generalize 2 ^ v=A at *;generalize r*A=B at *;omega
def qsg {V:Int} {K:Nat} (hK:K=65536) (hm:∃ z:Int,V=z*(2:Int) ^ (K-1074)) (hf:q0G (fR 0 V)) (hg:q0G (q0x (fR 0 V)+1)):2*((ofZ (fR 0 (V-ofZ (fR 0 V)))).natAbs:Int)≤ofZ (q0x (fR 0 V)+1)-((ofZ (fR 0 V)).natAbs:Int):=by
 have hab:=q1H (f:=fR 0 V);have hfa:=q3B hf;have hlt:q0x (fR 0 V)+1 < 9223372036854775808:=by unfold q0G at hfa; omega
 rw [q9f q3E hf,qbG hlt hg hfa];have hpp:=q0S (q4o (q0x (fR 0 V)))
 by_cases hV:V=0
 ·subst hV;have e0:fR 0 0=0:=if_pos rfl;have e1:ofZ 0=0:=q0W q16;rw [e0,e1,Int.sub_zero,e0,e1];rw [e0] at hpp;generalize (2:Int) ^ q4o (q0x 0)=A at *;simp;omega
 ·obtain ⟨u,r,h1,h2,_,h3,h4,h5,h6⟩:=qaD hK hV hf;obtain ⟨z,hz⟩:=hm;have hW:V-ofZ (fR 0 V)=(z-sgn (decide (V < 0)) r*(2:Int) ^ (u-(K-1074)))*(2:Int) ^ (K-1074):=by
   rw [Int.sub_mul,← hz,Int.mul_assoc,← Int.pow_add,show u-(K-1074)+(K-1074)=u by omega,← h3]
  have hh:=qhs hK h1 h6 hW (qek hf);have huE:u≤q4o (q0x (fR 0 V)):=by
   refine Classical.byContradiction fun hn=>?_;have e1:=q9e hab hfa;rw [← q9f q3E hf,h3,q0H] at e1;have e2:(sgn (decide (V < 0)) r).natAbs=r:=by cases decide (V < 0) <;> simp [sgn]
   rw [e2] at e1;obtain ⟨c,hc⟩:∃ c,u=q4o (q0x (fR 0 V))+c+1:=⟨u-q4o (q0x (fR 0 V))-1,by omega⟩;have ht:64462≤q4o (q0x (fR 0 V)):=by unfold q4o; omega
   have hmb:(if q0x (fR 0 V) / 4503599627370496=0 then q0x (fR 0 V) else 4503599627370496+q0x (fR 0 V) % 4503599627370496) < 9007199254740992:=by split <;> omega
   generalize (if q0x (fR 0 V) / 4503599627370496=0 then q0x (fR 0 V) else 4503599627370496+q0x (fR 0 V) % 4503599627370496)=m at *;generalize q4o (q0x (fR 0 V))=t at *;have e3:r*2 ^ u=m*2 ^ t:=by
    have p1:=q0Y t;rw [← p1] at e1
    exact_mod_cast e1
   rw [hc,show t+c+1=(c+1)+t by omega,Nat.pow_add,← Nat.mul_assoc] at e3;have e4:=Nat.eq_of_mul_eq_mul_right (q0F t) e3;have e5:2≤2 ^ (c+1):=by
    rw [Nat.pow_succ];have:=q0F c;omega
   have e6:r*2≤r*2 ^ (c+1):=Nat.mul_le_mul_left r e5;omega
  have hmon:(2:Int) ^ u≤(2:Int) ^ q4o (q0x (fR 0 V)):=by
   have p1:=q0Y u;have p2:=q0Y (q4o (q0x (fR 0 V)));rw [← p1,← p2];exact Int.ofNat_le.2 (Nat.pow_le_pow_right Oq huE)
  have p1:=q0Y u;rw [← p1] at hmon;generalize (2:Int) ^ q4o (q0x (fR 0 V))=A at *;generalize 2 ^ u=B at *;omega
section
variable {a:Nat} {V:Int}
def qhL (ha:a < 9223372036854775808):ACt 99 [uv a] (bv (decide (a=0))):=by
 have c1:=q5P (f:=a) Oq;have q:=qbS ha;refine ac0 Tryz.func99 Tryz.ntmps99 [.tmp 2] ?_;exact wk1 q trivial
def qsH (ha:a < 9223372036854775808) (hf:q0G a):ACt 36 [uv a] (uv (a+1:Nat)):=by
 have c1:=q5O (f:=a) Oq hf;have c2:=qhL ha;have c3:=q85 (f:=a) Oq;rw [decide_eq_false (by omega)] at c3;have q:((a:Int) == 9218868437227405312)=false:=by
  unfold q0G at hf;simp; omega
 by_cases h0:a=0
 ·rw [decide_eq_true h0] at c2;rw [show ((a+1:Nat):Int)=1 by omega];refine ac0 Tryz.func36 Tryz.ntmps36 [.tmp 2] ?_;exact wk1 q trivial
 ·rw [decide_eq_false h0] at c2;have w:IntKind.u64.wrap ((a:Int)+1)=((a+1:Nat):Int):=by rw [q0j]; omega
  refine ac0 Tryz.func36 Tryz.ntmps36 [.tmp 2] ?_;exact wk1 (x2 q w) trivial
def qeW (ha:a < 18446744073709551616) (hf:¬ q0G a):ACt 19 [uv a] qbg:=by
 have c1:=q1F ha;rw [decide_eq_false hf] at c1;have c2:=qaK;unfold qbg at *;refine ac0 Tryz.func19 Tryz.ntmps19 [.cell 2 40] ?_;exact wk trivial
def qaJ:ACt 77 [qbg] qbg:=by
 have c2:=qaK;unfold qbg at *;refine ac0 Tryz.func77 Tryz.ntmps77 [.cell 2 40] ?_;exact wk trivial
def qcu:ACt 38 [qbg,pV V] qbg:=by
 have c1:=q4h (V:=V);have c2:=qaK;have c3:=qaJ;have c4:=qpa qtz fun ho=>q0c (V := -V) ho;have c5:ACt 100 [qbg,pV (-V)] qbg:=by
  unfold qbg at *;unfold dT at *;refine ac0 Tryz.func100 Tryz.ntmps100 [.cell 4 40] ?_;exact wk trivial
 unfold qbg at *;refine ac0 Tryz.func38 Tryz.ntmps38 [.cell 4 40] ?_;exact wk trivial
end
def RefD (C:Nat) (q:List (Nat × Nat) × List Nat × Int):Prop:=q.2.2=0→q.1.length=C∧∀ p ∈ q.1,((p.1 < 18446744073709551616∧q0G p.1)∧p.2 < 18446744073709551616∧q0G p.2)∧(q0G (q0x p.1+1)→2*((ofZ p.2).natAbs:Int)≤ofZ (q0x p.1+1)-((ofZ p.1).natAbs:Int))
section
variable {C:Nat} {F:Nat→Nat→Option Nat} {f:LUt} {b:List Nat}
def gap_0 {v:Nat} (hu:v < 18446744073709551616) (hf:q0G v) (hg:q0G (q0x v+1)):2*((ofZ 0).natAbs:Int)≤ofZ (q0x v+1)-((ofZ v).natAbs:Int):=by
 have hfa:=q3B hf;have hab:=q1H (f:=v);have hlt:q0x v+1 < 9223372036854775808:=by unfold q0G at hfa; omega
 rw [q9f hu hf,qbG hlt hg hfa,show ofZ 0=0 from q0W q16];have:=q0S (q4o (q0x v));generalize (2:Int) ^ q4o (q0x v)=A at *;simp;omega
def qrk:∀ (k:Nat) (x:List (Nat × Nat)) (r l:List Nat),x.length=C→qdQ x→(∀ p ∈ x,q0G (q0x p.1+1)→2*((ofZ p.2).natAbs:Int)≤ofZ (q0x p.1+1)-((ofZ p.1).natAbs:Int))→q1E r→LUb f→RefD C (rfL C F f b true k x r l)
 | 0,x,r,l,h1,h2,h3,_,_=>fun _=>⟨h1,fun p hp=>⟨h2 p hp,h3 p hp⟩⟩
 | k+1,x,r,l,h1,h2,h3,h4,hb=>by
  rw [rfL]
  by_cases c1:q0b r C=0
  ·rw [if_pos c1]; exact fun _=>⟨h1,fun p hp=>⟨h2 p hp,h3 p hp⟩⟩
  rw [if_neg c1]
  by_cases c2:(lgE f r).2≠0
  ·rw [if_pos c2]; exact fun h=>(c2 h).elim
  rw [if_neg c2];obtain ⟨_,_,_,e1,e2⟩:=q4s hb (fun v hv=>(h4 v hv).1) (Classical.not_not.1 c2)
  by_cases c3:¬ ∀ p ∈ chL true x (lgE f r).1 C,q0G p.1
  ·rw [if_pos c3]; exact fun h=>by cases h
  rw [if_neg c3];have c3:=Classical.not_not.1 c3
  by_cases c4:¬ ∀ v ∈ rdL F (chL true x (lgE f r).1 C) b C C,q0G v
  ·rw [if_pos c4]; exact fun h=>by cases h
  rw [if_neg c4]
  by_cases c5:ofZ (q0b r C) < 2*ofZ (q0b (rdL F (chL true x (lgE f r).1 C) b C C) C)
  ·rw [if_pos c5]; exact fun _=>⟨h1,fun p hp=>⟨h2 p hp,h3 p hp⟩⟩
  rw [if_neg c5];refine qrk k _ _ _ q6J (q7k c3) (fun p hp hg=>?_) (fun v hv=>⟨q99 v hv,Classical.not_not.1 c4 v hv⟩) hb;have hpf:=c3 p hp;obtain ⟨j,hj,rfl⟩:=List.mem_map.1 hp;have hj:=List.mem_range.1 hj;obtain ⟨q,hq⟩:∃ q,x[j]?=some q:=⟨_,List.getElem?_eq_getElem Oq⟩;have hgq:x.getD j (0,0)=q:=by rw [List.getD_eq_getElem?_getD,hq]; rfl
  obtain ⟨⟨_,q2⟩,_,q4⟩:=h2 q (List.mem_of_getElem? hq);have q5:=q2j (i:=j) e2;unfold chV at hpf hg ⊢;dsimp only at hpf hg ⊢;rw [hgq] at hpf hg ⊢;rw [if_pos rfl];exact qsg (K:=65536) rfl (qiv q2 q4 q5.2) hpf hg
def rfS_D {R:Nat} {steps:Int} (hb:LUb f) (hu:∀ v ∈ b,v < 18446744073709551616):RefD C (rfS C F f b true R steps):=by
 unfold rfS
 by_cases c1:rfR R C f steps≠0
 ·rw [if_pos c1]; exact fun h=>(c1 h).elim
 rw [if_neg c1];obtain ⟨_,_,hC,_,_⟩:=qeN (Classical.not_not.1 c1)
 by_cases c2:(lgE f b).2≠0
 ·rw [if_pos c2]; exact fun h=>(c2 h).elim
 rw [if_neg c2];obtain ⟨_,_,_,e1,e2⟩:=q4s hb hu (Classical.not_not.1 c2)
 by_cases c3:¬ ∀ v ∈ rdL F ((lgE f b).1.map fun v=>(v,0)) b C C,q0G v
 ·rw [if_pos c3]; exact fun h=>by cases h
 rw [if_neg c3];exact qrk _ _ _ _ (by rw [List.length_map]; omega) (q5k e2) (fun p hp hg=>by
  obtain ⟨v,hv,rfl⟩:=List.mem_map.1 hp;exact gap_0 (e2 v hv).1 (e2 v hv).2 hg) (fun v hv=>⟨q99 v hv,Classical.not_not.1 c3 v hv⟩) hb
end
section
variable {raw:List Nat} {n st:Int} {w:Bool}
def q6U (hr:raw.length≤9223372036854775807) (h1 : -9223372036854775808≤n) (h2:n≤9223372036854775807) (h3 : -9223372036854775808≤st) (h4:st≤9223372036854775807) :
  ACt 5 [pF raw,iv n,iv st,bv w] (bv true):=by
 have cA:=q2m;have cP:=q5Q (w:=w) hr h1 h2 h3 h4;have hN:q04 n 5 < 5:=by unfold q04; omega
 generalize q04 n 5=N at *;have hm:=qbE (raw:=raw) (N:=N) (st:=st) Oq;obtain ⟨hb,hbr⟩:=qhV (raw:=raw) (N:=N) (st:=st) (w:=w) Oq;have hv:=q2P (raw:=raw) (k:=30) (st:=q04 st 4) (n:=N);have hvl:=q1k (raw:=raw) (k:=30) (st:=q04 st 4) (n:=N);generalize pcG raw N st=F at *;generalize pcL raw N st w=f at *;generalize q6R raw 30 (q04 st 4) N=b at *;have hu:=fun v hx=>(hv v hx).1;have C1:=q6C (steps:=5) hm hb Oq hu Oq Oq Oq;have hG:=rfS_D (C:=N) (F:=F) (R:=N) (steps:=5) hb hu;have hl1:=(q45 (R:=N) (C:=N) (F:=F) (steps:=5) (dbl:=true) hb hu hm.c);generalize rfS N F f b true N 5=X at *;obtain ⟨q,l,e⟩:=X;unfold rfV at C1;dsimp only at C1 hl1;unfold pT q1n pLU at *
 by_cases he:e=0
 rotate_left
 ·have q:(e != 0)=true:=by simpa using he
  refine ac0 Tryz.func5 Tryz.ntmps5 [.tmp 8] ?_;exact wk1 q trivial
 subst he;obtain ⟨g1,g2⟩:=hG rfl;dsimp only at g1 g2;refine ac0 Tryz.func5 Tryz.ntmps5 [.tmp 8] ?_;refine wk ?_;refine q0A (fun i=>i≤q.length) [11,12] [] Lk Lk (fun i:Nat=>[(15,iv i)]) (fun _=>[]) (fun i=>q.length-i) 0 (Nat.zero_le _) ?_ ?_
 ·refine LeM [] rfl rfl ?_;refine Zz ?_
  rfl
 ·intro i hi
  by_cases hlt:i < q.length
  ·obtain ⟨p,hp⟩:∃ p,q[i]?=some p:=⟨_,List.getElem?_eq_getElem hlt⟩;obtain ⟨⟨⟨p1,p2⟩,p3,p4⟩,hgap⟩:=g2 p (List.mem_of_getElem? hp);have o1:=q9b p1 p2;have ha:=q1H (f:=p.1);have hfa:=q3B p2;have o2:=qsH ha hfa;have o3:=q1F p1;have o4:=q1F p3;rw [decide_eq_true p2] at o3;rw [decide_eq_true p4] at o4;have o5:=q0h p1 (q0N p2);have o6:=q0h p3 (q0N p4);have o7:=@q7g;have hul:q0x p.1+1 < 18446744073709551616:=by omega
   have o8:=q1F hul;generalize q0x p.1+1=u at *
   by_cases hfu:q0G u
   ·rw [decide_eq_true hfu] at o8;have hgp:=hgap hfu;have o9:=q0h hul (q0N hfu);have b1:=q0u hfu;have b2:=q0u p2;have hsd:q00 (ofZ u-((ofZ p.1).natAbs:Int)):=by
     have:=qbp (a:=ofZ u) (b:=((ofZ p.1).natAbs:Int)) (k:=67600) b1 (by rw [Int.natAbs_natCast]; exact b2);unfold q00; omega
    have s1:=qfi hsd;have b3:=q0u p4;have s2:=q7P (V:=((ofZ p.2).natAbs:Int)) (j:=1) Oq Oq (qmp (by
     have:=bl_2 (V:=((ofZ p.2).natAbs:Int)) (k:=67600) (by rw [Int.natAbs_natCast]; exact b3);unfold q00; omega))
    have s3:=qbY (A:=ofZ u-((ofZ p.1).natAbs:Int)) (B:=2*((ofZ p.2).natAbs:Int));rw [decide_eq_false (by omega)] at s3;generalize ofZ u-((ofZ p.1).natAbs:Int)=G at *;generalize 2*((ofZ p.2).natAbs:Int)=H at *;refine wk1 hp ?_;refine ⟨i+1,by omega,by omega,?_⟩;refine LeM [] rfl rfl ?_;refine Zz ?_;omega
   ·rw [decide_eq_false hfu] at o8;have o9:=qeW hul hfu;have s1:=qcu (V:=((ofZ p.1).natAbs:Int));unfold qbg at *;refine wk1 hp ?_;refine ⟨i+1,by omega,by omega,?_⟩;refine LeM [] rfl rfl ?_;refine Zz ?_;omega
  ·obtain rfl:i=q.length:=by omega
   have r1:((q.length:Int) == (b.length:Int))=true:=by simp; omega
   exact wk1 r1 trivial
end
set_option maxRecDepth 100000
def qcZ (os:Os) (started:os.Started) (H:Type) (enc:TypeId × Value→H) :
  ReturnsInHanded {} Tryz.checked os 5 .any (fun w args=>(Rows.refinePairsSpec.pre enc Tryz.prog Tryz.f5 [] false w args∧laidMetH Tryz.prog q3D w)∧sizedMet enc Tryz.prog Tryz.f5 (OpenSpec.ofChange Rows.refinePairsSpec) false w args)
   (Rows.refinePairsSpec.post enc Tryz.prog Tryz.f5 false true false false):=by
 refine returnsInHanded_of_change_and (C:=Tryz.checked) (X:=fun w _=>laidMetH Tryz.prog q3D w) (fun _ _ _ hh h=>h.of_heap hh) own started (by kernel_rfl) Tryz.func5
  (ChangeSpec.witness_shaped (enc:=enc) (C:=Tryz.checked) (os:=os) (X:=fun w _=>laidMetH Tryz.prog q3D w) false (World.doorLaid Tryz.prog 400 os) #[.slice none 0 0,.int .i64 0,.int .i64 0,.bool false] 8 rfl (World.shaped_of_RefB (by kernel_rfl) (by kernel_rfl)) (by kernel_rfl) (by kernel_rfl) (by kernel_rfl) (q4I os _)) ?_
 intro W base args ds gs before hval0 hW _ _ hL _;have hval:∀ (j:Nat) t v,Tryz.f5.params[j]?=some t→args[j]?=some v→Value.okWide Tryz.prog W .any base t v:=hval0;have hW':DataW.Whole enc Tryz.prog Tryz.f5.params.toList Rows.refinePairsSpec.vars false W args.toList ds gs before:=hW;obtain ⟨p,q,hA0,hV,rfl,_,_⟩:=hW;have hA:DataW.TrodAll enc Tryz.prog W 0 (fun _=>true) true [22,3,3,4] args.toList ds p:=hA0;obtain ⟨v0,s0,d0,e0,p0,q0,ha,rfl,rfl,h0,r0⟩:=trodAll_cons hA;obtain ⟨v1,s1,d1,e1,p1,q1,rfl,rfl,rfl,h1,r1⟩:=trodAll_cons r0;obtain ⟨v2,s2,d2,e2,p2,q2,rfl,rfl,rfl,h2,r2⟩:=trodAll_cons r1;obtain ⟨v3,s3,d3,e3,p3,q3,rfl,rfl,rfl,h3,r3⟩:=trodAll_cons r2;obtain ⟨rfl,rfl,rfl⟩:=trodAll_nil r3;obtain rfl:args=#[v0,v1,v2,v3]:=by cases args; simp_all
 obtain ⟨rfl,rfl⟩:=trodVars_none hV;obtain ⟨A0,n0,c0,y0,rfl,hn0,hi0⟩:=q3w (hval 0 22 _ rfl rfl) h0;obtain ⟨y1,rfl,_,_,g1⟩:=open_int q8O (hval 1 3 _ rfl rfl) h1;simp only [Lit.wf,Bool.and_eq_true,decide_eq_true_eq] at g1;obtain ⟨y2,rfl,_,_,g2⟩:=open_int q8O (hval 2 3 _ rfl rfl) h2;simp only [Lit.wf,Bool.and_eq_true,decide_eq_true_eq] at g2;obtain ⟨y3,rfl,_,_⟩:=open_bool qlf (hval 3 4 _ rfl rfl) h3;have hc:=q6U (raw:=y0) (w:=y3) (by rw [hi0.sc_len]; exact hn0) g1.1 g1.2 g2.1 g2.2;refine (hc.2 _ W [_,_,_,_] (q57 hL) (Fr.triv _) (q1c (qeQ hi0) (q1c q1h (q1c q1h (q1c q1h qeP))))).mono fun e W' ⟨v,he,hx,hr⟩=>?_;rw [q9N hr] at he;subst he;exact ⟨_,rfl,q3v rfl hW' (by kernel_rfl) rfl rfl hx⟩
def qr1:(Rows.refinePairsRow.inPlace == Tryz.pinned.checked.prog.inPlace 5)=true:=by kernel_rfl
def qr0:(Rows.refinePairsRow.unfollowed == Tryz.pinned.checked.prog.unfollowed 5)=true:=by kernel_rfl
def qrZ:(Rows.refinePairsRow.recurses == Tryz.pinned.checked.prog.recurses 5)=true:=by kernel_rfl
def qrY:(Rows.refinePairsRow.named == Tryz.pinned.checked.prog.varsNamed 5)=true:=by kernel_rfl
def qrX:joinedFacts Tryz.pinned.checked.prog 5 Tryz.f5 Rows.refinePairsSpec Rows.refinePairsRow=true:=by
 unfold joinedFacts;rw [qr1,qr0,qrZ,qrY]
 kernel_rfl
def q47:Rows.RefinePairsSaid :=
 OpenClaim.holds_of_wide 5 Tryz.f5 rfl rfl rfl rfl rfl rfl rfl ⟨rfl,rfl,rfl,rfl,rfl⟩ rfl rfl rfl rfl rfl (by kernel_rfl) Tryz.func5 qrX
  (of_decide_eq_true (by kernel_rfl)) (by unfold Func.isWrapper; first | (rw [if_pos (by decide +kernel)]; kernel_rfl) | (rw [if_neg (by decide +kernel)]; exact ⟨rfl,rfl⟩))
  (fun os started H enc _=>qcZ os started H enc)
set_option maxRecDepth 100000
def qr6:OpenClaim.wfByText (OpenSpec.ofChange Rows.refinePairsSpec) Rows.refinePairsRow=true:=by kernel_rfl
def qr5 : Tryz.pinned.checked.prog.mainIs = some (true, ("a2740fb67fdf1770b87b446d3cf87e00c3ed12e7a272b0be716aadfd10a83fed" : String).toList) := by kernel_rfl
def qr4:false=Tryz.pinned.checked.prog.looks []:=by kernel_rfl
def qr3:false=Rows.refinePairsRow.goesBy Tryz.pinned.checked.prog:=by kernel_rfl
def qr2 : Tryz.prog.funcNamed "sparse/sparselaw35.RefinePairs" = some 5 := by kernel_rfl
theorem rpr_card:Rows.RefinePairsCardSaid :=
 Claim7.holds_tied_plain_at .later [] [.data] true (true, "a2740fb67fdf1770b87b446d3cf87e00c3ed12e7a272b0be716aadfd10a83fed") false
  q47 (fun _ h=>by cases h) qr6 (fun _ h=>by cases h) refinePairs_row_tie rfl ⟨rfl,rfl⟩ qr5 rfl
  (fun f fn hf hfn=>by
   obtain rfl:f=5:=Option.some.inj (qr2.symm.trans hf) |>.symm;obtain rfl:fn=Tryz.f5:=(Option.some.inj (Tryz.func5.symm.trans hfn)).symm;exact ⟨qr4,fun j t ht=>by
    have hm:t ∈ [22,3,3,4]:=by simpa using Array.mem_of_getElem? ht
    have hall:([22,3,3,4].all fun u=>!Tryz.prog.wantsStandIn u)=true:=by kernel_rfl
    exact (show Tryz.prog.wantsStandIn t=false by simpa using List.all_eq_true.1 hall t hm)⟩)
  qr3
#print axioms rpr_card
def qig:qaF Tryz.prog 65=true:=by kernel_rfl
def qmj {k m:IntKind} {a b c d:Int}:bnP Tryz.prog .neq 65 (.ag [.vl (.int k a),.vl (.int m b)]) (.ag [.vl (.int k c),.vl (.int m d)])=some (.vl (.bool !(a == c && b == d))):=quL qig
attribute [go_sem] qmj
def q1P {x:List (Nat × Nat)} (hn:x.length≤1000):ACt 41 [pP x,pP x] (bv true):=by
 have q:((x.length:Int) != (x.length:Int))=false:=by simp
 refine ac0 Tryz.func41 Tryz.ntmps41 [.tmp 4] ?_;refine wk1 q ?_;refine q0A (fun i=>i≤x.length) [0,1] [] Lk Lk (fun i:Nat=>[(5,iv i)]) (fun _=>[]) (fun i=>x.length-i) 0 (Nat.zero_le _) ?_ ?_
 ·refine LeM [] rfl rfl ?_;refine Zz ?_
  rfl
 ·intro i hi
  by_cases hlt:i < x.length
  ·obtain ⟨p,hp⟩:∃ p,x[i]?=some p:=⟨_,List.getElem?_eq_getElem hlt⟩;have r1:(!((((p.1:Nat):Int) == ((p.1:Nat):Int)) && (((p.2:Nat):Int) == ((p.2:Nat):Int))))=false:=by simp
   refine wk1 (x2 hp r1) ?_;refine ⟨i+1,by omega,by omega,?_⟩;refine LeM [] rfl rfl ?_;refine Zz ?_;omega
  ·obtain rfl:i=x.length:=by omega
   exact wk trivial
section
variable {raw:List Nat} {n st steps:Int} {w:Bool}
def q4x (hr:raw.length≤9223372036854775807) (h1 : -9223372036854775808≤n) (h2:n≤9223372036854775807) (h3 : -9223372036854775808≤st) (h4:st≤9223372036854775807) (h5 : -9223372036854775808≤steps) (h6:steps≤9223372036854775807) :
  ACt 6 [pF raw,iv n,iv st,bv w,iv steps] (bv true):=by
 have cA:=q2m;have cP:=q5Q (w:=w) hr h1 h2 h3 h4;have hN:q04 n 5 < 5:=by unfold q04; omega
 generalize q04 n 5=N at *;have hm:=qbE (raw:=raw) (N:=N) (st:=st) Oq;obtain ⟨hb,hbr⟩:=qhV (raw:=raw) (N:=N) (st:=st) (w:=w) Oq;have hv:=q2P (raw:=raw) (k:=30) (st:=q04 st 4) (n:=N);have hvl:=q1k (raw:=raw) (k:=30) (st:=q04 st 4) (n:=N);generalize pcG raw N st=F at *;generalize pcL raw N st w=f at *;generalize q6R raw 30 (q04 st 4) N=b at *;have gr:=fun (s:Int) (s1 : -9223372036854775808≤s) (s2:s≤9223372036854775807)=>qfh (steps:=s) hm hb Oq (fun v hx=>(hv v hx).1) Oq s1 s2;unfold pT q1n pLU at *
 by_cases q1:steps > 6
 ·by_cases q2:steps≤64
  ·obtain ⟨x,l,e,⟨hl1,hl2⟩,C1,C2⟩:=gr 6 Oq Oq;have C3:=q1P hl1;have C4:=q08 hl2;have r1:(e == e)=true:=by simp
   clear gr;refine ac0 Tryz.func6 Tryz.ntmps6 [.tmp 10] ?_;exact wk1 (x3 q1 q2 r1) trivial
  ·obtain ⟨x,l,e,⟨hl1,hl2⟩,C1,C2⟩:=gr steps h5 h6;have C3:=q1P hl1;have C4:=q08 hl2;have r1:(e == e)=true:=by simp
   clear gr;refine ac0 Tryz.func6 Tryz.ntmps6 [.tmp 10] ?_;exact wk1 (x3 q1 q2 r1) trivial
 ·obtain ⟨x,l,e,⟨hl1,hl2⟩,C1,C2⟩:=gr steps h5 h6;have C3:=q1P hl1;have C4:=q08 hl2;have r1:(e == e)=true:=by simp
  clear gr;refine ac0 Tryz.func6 Tryz.ntmps6 [.tmp 10] ?_;exact wk1 (x2 q1 r1) trivial
end
set_option maxRecDepth 100000
def qc2 (os:Os) (started:os.Started) (H:Type) (enc:TypeId × Value→H) :
  ReturnsInHanded {} Tryz.checked os 6 .any (fun w args=>(Rows.refineDoubledSpec.pre enc Tryz.prog Tryz.f6 [] false w args∧laidMetH Tryz.prog q3D w)∧sizedMet enc Tryz.prog Tryz.f6 (OpenSpec.ofChange Rows.refineDoubledSpec) false w args)
   (Rows.refineDoubledSpec.post enc Tryz.prog Tryz.f6 false true false false):=by
 refine returnsInHanded_of_change_and (C:=Tryz.checked) (X:=fun w _=>laidMetH Tryz.prog q3D w) (fun _ _ _ hh h=>h.of_heap hh) own started (by kernel_rfl) Tryz.func6
  (ChangeSpec.witness_shaped (enc:=enc) (C:=Tryz.checked) (os:=os) (X:=fun w _=>laidMetH Tryz.prog q3D w) false (World.doorLaid Tryz.prog 400 os) #[.slice none 0 0,.int .i64 0,.int .i64 0,.bool false,.int .i64 0] 8 rfl (World.shaped_of_RefB (by kernel_rfl) (by kernel_rfl)) (by kernel_rfl) (by kernel_rfl) (by kernel_rfl) (q4I os _)) ?_
 intro W base args ds gs before hval0 hW _ _ hL _;have hval:∀ (j:Nat) t v,Tryz.f6.params[j]?=some t→args[j]?=some v→Value.okWide Tryz.prog W .any base t v:=hval0;have hW':DataW.Whole enc Tryz.prog Tryz.f6.params.toList Rows.refineDoubledSpec.vars false W args.toList ds gs before:=hW;obtain ⟨p,q,hA0,hV,rfl,_,_⟩:=hW;have hA:DataW.TrodAll enc Tryz.prog W 0 (fun _=>true) true [22,3,3,4,3] args.toList ds p:=hA0;obtain ⟨v0,s0,d0,e0,p0,q0,ha,rfl,rfl,h0,r0⟩:=trodAll_cons hA;obtain ⟨v1,s1,d1,e1,p1,q1,rfl,rfl,rfl,h1,r1⟩:=trodAll_cons r0;obtain ⟨v2,s2,d2,e2,p2,q2,rfl,rfl,rfl,h2,r2⟩:=trodAll_cons r1;obtain ⟨v3,s3,d3,e3,p3,q3,rfl,rfl,rfl,h3,r3⟩:=trodAll_cons r2;obtain ⟨v4,s4,d4,e4,p4,q4,rfl,rfl,rfl,h4,r4⟩:=trodAll_cons r3;obtain ⟨rfl,rfl,rfl⟩:=trodAll_nil r4;obtain rfl:args=#[v0,v1,v2,v3,v4]:=by cases args; simp_all
 obtain ⟨rfl,rfl⟩:=trodVars_none hV;obtain ⟨A0,n0,c0,y0,rfl,hn0,hi0⟩:=q3w (hval 0 22 _ rfl rfl) h0;obtain ⟨y1,rfl,_,_,g1⟩:=open_int q8O (hval 1 3 _ rfl rfl) h1;simp only [Lit.wf,Bool.and_eq_true,decide_eq_true_eq] at g1;obtain ⟨y2,rfl,_,_,g2⟩:=open_int q8O (hval 2 3 _ rfl rfl) h2;simp only [Lit.wf,Bool.and_eq_true,decide_eq_true_eq] at g2;obtain ⟨y3,rfl,_,_⟩:=open_bool qlf (hval 3 4 _ rfl rfl) h3;obtain ⟨y4,rfl,_,_,g4⟩:=open_int q8O (hval 4 3 _ rfl rfl) h4;simp only [Lit.wf,Bool.and_eq_true,decide_eq_true_eq] at g4;have hc:=q4x (raw:=y0) (w:=y3) (by rw [hi0.sc_len]; exact hn0) g1.1 g1.2 g2.1 g2.2 g4.1 g4.2;refine (hc.2 _ W [_,_,_,_,_] (q57 hL) (Fr.triv _) (q1c (qeQ hi0) (q1c q1h (q1c q1h (q1c q1h (q1c q1h qeP)))))).mono fun e W' ⟨v,he,hx,hr⟩=>?_;rw [q9N hr] at he;subst he;exact ⟨_,rfl,q3v rfl hW' (by kernel_rfl) rfl rfl hx⟩
def qsB:(Rows.refineDoubledRow.inPlace == Tryz.pinned.checked.prog.inPlace 6)=true:=by kernel_rfl
def qsA:(Rows.refineDoubledRow.unfollowed == Tryz.pinned.checked.prog.unfollowed 6)=true:=by kernel_rfl
def qrz:(Rows.refineDoubledRow.recurses == Tryz.pinned.checked.prog.recurses 6)=true:=by kernel_rfl
def qry:(Rows.refineDoubledRow.named == Tryz.pinned.checked.prog.varsNamed 6)=true:=by kernel_rfl
def qrx:joinedFacts Tryz.pinned.checked.prog 6 Tryz.f6 Rows.refineDoubledSpec Rows.refineDoubledRow=true:=by
 unfold joinedFacts;rw [qsB,qsA,qrz,qry]
 kernel_rfl
def q3U:Rows.RefineDoubledSaid :=
 OpenClaim.holds_of_wide 6 Tryz.f6 rfl rfl rfl rfl rfl rfl rfl ⟨rfl,rfl,rfl,rfl,rfl⟩ rfl rfl rfl rfl rfl (by kernel_rfl) Tryz.func6 qrx
  (of_decide_eq_true (by kernel_rfl)) (by unfold Func.isWrapper; first | (rw [if_pos (by decide +kernel)]; kernel_rfl) | (rw [if_neg (by decide +kernel)]; exact ⟨rfl,rfl⟩))
  (fun os started H enc _=>qc2 os started H enc)
set_option maxRecDepth 100000
def qsG:OpenClaim.wfByText (OpenSpec.ofChange Rows.refineDoubledSpec) Rows.refineDoubledRow=true:=by kernel_rfl
def qsF : Tryz.pinned.checked.prog.mainIs = some (true, ("a2740fb67fdf1770b87b446d3cf87e00c3ed12e7a272b0be716aadfd10a83fed" : String).toList) := by kernel_rfl
def qsE:false=Tryz.pinned.checked.prog.looks []:=by kernel_rfl
def qsD:false=Rows.refineDoubledRow.goesBy Tryz.pinned.checked.prog:=by kernel_rfl
def qsC : Tryz.prog.funcNamed "sparse/sparselaw35.RefineDoubled" = some 6 := by kernel_rfl
theorem rdb_card:Rows.RefineDoubledCardSaid :=
 Claim7.holds_tied_plain_at .later [] [.data] true (true, "a2740fb67fdf1770b87b446d3cf87e00c3ed12e7a272b0be716aadfd10a83fed") false
  q3U (fun _ h=>by cases h) qsG (fun _ h=>by cases h) refineDoubled_row_tie rfl ⟨rfl,rfl⟩ qsF rfl
  (fun f fn hf hfn=>by
   obtain rfl:f=6:=Option.some.inj (qsC.symm.trans hf) |>.symm;obtain rfl:fn=Tryz.f6:=(Option.some.inj (Tryz.func6.symm.trans hfn)).symm;exact ⟨qsE,fun j t ht=>by
    have hm:t ∈ [22,3,3,4,3]:=by simpa using Array.mem_of_getElem? ht
    have hall:([22,3,3,4,3].all fun u=>!Tryz.prog.wantsStandIn u)=true:=by kernel_rfl
    exact (show Tryz.prog.wantsStandIn t=false by simpa using List.all_eq_true.1 hall t hm)⟩)
  qsD
#print axioms rdb_card
section
variable {raw:List Nat} {n r c long steps:Int} {value:Nat}
def q4w (hr:raw.length≤9223372036854775807) (h1 : -9223372036854775808≤n) (h2:n≤9223372036854775807) (h3 : -9223372036854775808≤r) (h4:r≤9223372036854775807) (h5 : -9223372036854775808≤c) (h6:c≤9223372036854775807) (h7 : -9223372036854775808≤long) (h8:long≤9223372036854775807) (h9 : -9223372036854775808≤steps) (h10:steps≤9223372036854775807) (hval:value < 18446744073709551616) :
  ACt 7 [pF raw,iv n,iv r,iv c,iv long,iv steps,uv value] (bv true):=by
 have cA:=q2m;have cP:=q5Q (w:=false) (st:=0) hr h1 h2 Oq Oq;have hN:q04 n 5 < 5:=by unfold q04; omega
 generalize q04 n 5=N at *;obtain ⟨hb,hbr⟩:=qhV (raw:=raw) (N:=N) (st:=0) (w:=false) Oq;generalize pcG raw N 0=F0 at *;generalize pcL raw N 0 false=f at *;generalize q6R raw 30 (q04 0 4) N=b0 at *;have cR:=q2i (a:=r) (n:=4) h3 h4 Oq Oq;have cC:=q2i (a:=c) (n:=4) h5 h6 Oq Oq;have cL:=q2i (a:=long) (n:=5) h7 h8 Oq Oq;have hR:q04 r 4 < 4:=by unfold q04; omega
 have hC:q04 c 4 < 4:=by unfold q04; omega
 have hL:q04 long 5 < 5:=by unfold q04; omega
 generalize q04 r 4=R at *;generalize q04 c 4=C at *;generalize q04 long 5=L at *;have hCR:C*R≤5*5:=Nat.mul_le_mul Oq Oq;have cG:=q32 (raw:=raw) (st:=0) (R:=R) (C:=C) hr Oq Oq Oq Oq;have hG:=qhy (raw:=raw) (R:=R) (C:=C) (st:=q04 0 4) Oq Oq Oq;generalize gF raw R (q04 0 4)=g at *;have cV:=q40 (raw:=raw) (k:=3) (st:=0) (n:=L) hr Oq Oq Oq Oq Oq;have hv:=q2P (raw:=raw) (k:=3) (st:=q04 0 4) (n:=L);have hvl:=q1k (raw:=raw) (k:=3) (st:=q04 0 4) (n:=L);generalize q6R raw 3 (q04 0 4) L=b at *;have gr:=fun (B:List Nat) (s:Int) (h1:∀ v ∈ B,v < 18446744073709551616) (h2:B.length≤10) (s1 : -9223372036854775808≤s) (s2:s≤9223372036854775807)=>qmX (steps:=s) hG hb Oq h1 Oq s1 s2;have gd:=fun (B:List Nat) (s:Int) (h1:∀ v ∈ B,v < 18446744073709551616) (h2:B.length≤10) (s1 : -9223372036854775808≤s) (s2:s≤9223372036854775807)=>qfh (steps:=s) hG hb Oq h1 Oq s1 s2;unfold pT q1n pLU at *;generalize (tM g R C).1=ms at *;generalize (tM g R C).2.1=mi at *;generalize (tM g R C).2.2=mv at *;refine ac0 Tryz.func7 Tryz.ntmps7 [.tmp 14] ?_;refine wk ?_;refine qpb fun K hK=>?_;refine Zz ?_;refine jc ?_
 try refine Zz ?_
 refine q0Q cL ?_
 try refine Zz ?_
 refine jmF cV ?_ ?_
 ·exact Ow
 try refine Zz ?_
 refine hK _ _ ?_; clear hK K;refine wk ?_;refine qpc fun K hK=>?_;have fin:∀ (X:List Nat) (s:Nat→PV) (h:Hp),(∀ v ∈ X,v < 18446744073709551616)→X.length≤10→Le (fun _=>False) s h (stM [(5,iv steps),(16,.pt 16 0 0),(18,.pt 18 0 0),(19,pF X)] []) (hpM [(16,⟨28,some 8,[.ag [pI f.rows,pI f.cols,pI f.ls,pI f.li,pF f.lv,pI f.us,pI f.ui,pF f.uv]],false⟩),(18,⟨26,some 5,[.ag [iv R,iv C,pI ms,pI mi,pF mv]],false⟩)] [])→K s h:=by
  clear cL cV hv hvl cR cC cG cP;intro X s h hX hXl hl;refine hK _ _ (q1M hl ?_); clear hK K hl;have key:∀ s:Int,-9223372036854775808≤s→s≤9223372036854775807→∃ (x l:List Nat) (e:Int) (y:List (Nat × Nat)) (m:List Nat) (d:Int),(x.length≤1000000∧l.length≤1000000)∧(y.length≤1000∧m.length≤1000000)∧_∧_:=fun s s1 s2=>by
   obtain ⟨x,l,e,q1,q2⟩:=gr X s hX hXl s1 s2;obtain ⟨y,m,d,q3,q4⟩:=gd X s hX hXl s1 s2;exact ⟨x,l,e,y,m,d,q1,q3,q2,q4⟩
  clear gr gd
  by_cases q1:steps > 4
  ·by_cases q2:steps≤64
   ·obtain ⟨x,l,e,y,m,d,⟨a1,a2⟩,⟨a3,a4⟩,⟨C1,C2⟩,C3,C4⟩:=key 4 Oq Oq;have k1:=q08 a1;have k2:=q08 a2;have k3:=q1P a3;have k4:=q08 a4;have r1:(e == e)=true:=by simp
    have r2:(d == d)=true:=by simp
    clear key;exact wk1 (x4 q1 q2 r1 r2) trivial
   ·obtain ⟨x,l,e,y,m,d,⟨a1,a2⟩,⟨a3,a4⟩,⟨C1,C2⟩,C3,C4⟩:=key steps h9 h10;have k1:=q08 a1;have k2:=q08 a2;have k3:=q1P a3;have k4:=q08 a4;have r1:(e == e)=true:=by simp
    have r2:(d == d)=true:=by simp
    clear key;exact wk1 (x4 q1 q2 r1 r2) trivial
  ·obtain ⟨x,l,e,y,m,d,⟨a1,a2⟩,⟨a3,a4⟩,⟨C1,C2⟩,C3,C4⟩:=key steps h9 h10;have k1:=q08 a1;have k2:=q08 a2;have k3:=q1P a3;have k4:=q08 a4;have r1:(e == e)=true:=by simp
   have r2:(d == d)=true:=by simp
   clear key;exact wk1 (x3 q1 r1 r2) trivial
 by_cases q1:(L:Int) > 0
 ·cases q2:(long.tmod 3 == 0)
  ·refine wk1 (x2 q1 q2) ?_;refine fin b _ _ (fun v hx=>(hv v hx).1) Oq (LeM [] rfl rfl ?_)
   try refine Zz ?_
   exact q1f (T:=43) rfl clU rfl (by rw [List.length_map]; omega)
  ·refine wk1 (x2 q1 q2) ?_;refine fin (b.set 0 value) _ _ (fun v hx=>?_) (by rw [List.length_set]; omega) (LeM [] rfl rfl ?_)
   ·rcases List.mem_or_eq_of_mem_set hx with h | rfl
    ·exact (hv v h).1
    ·exact hval
   try refine Zz ?_
   exact q1f (T:=43) (by rw [List.map_set]; rfl) clU rfl (by rw [List.length_map,List.length_set]; omega)
 ·refine wk1 q1 ?_;refine fin b _ _ (fun v hx=>(hv v hx).1) Oq (LeM [] rfl rfl ?_)
  try refine Zz ?_
  exact q1f (T:=43) rfl clU rfl (by rw [List.length_map]; omega)
end
set_option maxRecDepth 100000
def qcX (os:Os) (started:os.Started) (H:Type) (enc:TypeId × Value→H) :
  ReturnsInHanded {} Tryz.checked os 7 .any (fun w args=>(Rows.refineRefusesSpec.pre enc Tryz.prog Tryz.f7 [] false w args∧laidMetH Tryz.prog q3D w)∧sizedMet enc Tryz.prog Tryz.f7 (OpenSpec.ofChange Rows.refineRefusesSpec) false w args)
   (Rows.refineRefusesSpec.post enc Tryz.prog Tryz.f7 false true false false):=by
 refine returnsInHanded_of_change_and (C:=Tryz.checked) (X:=fun w _=>laidMetH Tryz.prog q3D w) (fun _ _ _ hh h=>h.of_heap hh) own started (by kernel_rfl) Tryz.func7
  (ChangeSpec.witness_shaped (enc:=enc) (C:=Tryz.checked) (os:=os) (X:=fun w _=>laidMetH Tryz.prog q3D w) false (World.doorLaid Tryz.prog 400 os) #[.slice none 0 0,.int .i64 0,.int .i64 0,.int .i64 0,.int .i64 0,.int .i64 0,.int .u64 0] 8 rfl (World.shaped_of_RefB (by kernel_rfl) (by kernel_rfl)) (by kernel_rfl) (by kernel_rfl) (by kernel_rfl) (q4I os _)) ?_
 intro W base args ds gs before hval0 hW _ _ hL _;have hval:∀ (j:Nat) t v,Tryz.f7.params[j]?=some t→args[j]?=some v→Value.okWide Tryz.prog W .any base t v:=hval0;have hW':DataW.Whole enc Tryz.prog Tryz.f7.params.toList Rows.refineRefusesSpec.vars false W args.toList ds gs before:=hW;obtain ⟨p,q,hA0,hV,rfl,_,_⟩:=hW;have hA:DataW.TrodAll enc Tryz.prog W 0 (fun _=>true) true [22,3,3,3,3,3,42] args.toList ds p:=hA0;obtain ⟨v0,s0,d0,e0,p0,q0,ha,rfl,rfl,h0,r0⟩:=trodAll_cons hA;obtain ⟨v1,s1,d1,e1,p1,q1,rfl,rfl,rfl,h1,r1⟩:=trodAll_cons r0;obtain ⟨v2,s2,d2,e2,p2,q2,rfl,rfl,rfl,h2,r2⟩:=trodAll_cons r1;obtain ⟨v3,s3,d3,e3,p3,q3,rfl,rfl,rfl,h3,r3⟩:=trodAll_cons r2;obtain ⟨v4,s4,d4,e4,p4,q4,rfl,rfl,rfl,h4,r4⟩:=trodAll_cons r3;obtain ⟨v5,s5,d5,e5,p5,q5,rfl,rfl,rfl,h5,r5⟩:=trodAll_cons r4;obtain ⟨v6,s6,d6,e6,p6,q6,rfl,rfl,rfl,h6,r6⟩:=trodAll_cons r5;obtain ⟨rfl,rfl,rfl⟩:=trodAll_nil r6;obtain rfl:args=#[v0,v1,v2,v3,v4,v5,v6]:=by cases args; simp_all
 obtain ⟨rfl,rfl⟩:=trodVars_none hV;obtain ⟨A0,n0,c0,y0,rfl,hn0,hi0⟩:=q3w (hval 0 22 _ rfl rfl) h0;obtain ⟨y1,rfl,_,_,g1⟩:=open_int q8O (hval 1 3 _ rfl rfl) h1;simp only [Lit.wf,Bool.and_eq_true,decide_eq_true_eq] at g1;obtain ⟨y2,rfl,_,_,g2⟩:=open_int q8O (hval 2 3 _ rfl rfl) h2;simp only [Lit.wf,Bool.and_eq_true,decide_eq_true_eq] at g2;obtain ⟨y3,rfl,_,_,g3⟩:=open_int q8O (hval 3 3 _ rfl rfl) h3;simp only [Lit.wf,Bool.and_eq_true,decide_eq_true_eq] at g3;obtain ⟨y4,rfl,_,_,g4⟩:=open_int q8O (hval 4 3 _ rfl rfl) h4;simp only [Lit.wf,Bool.and_eq_true,decide_eq_true_eq] at g4;obtain ⟨y5,rfl,_,_,g5⟩:=open_int q8O (hval 5 3 _ rfl rfl) h5;simp only [Lit.wf,Bool.and_eq_true,decide_eq_true_eq] at g5;obtain ⟨z6,rfl,_,_,g6⟩:=open_int qgp (hval 6 42 _ rfl rfl) h6;simp only [Lit.wf,Bool.and_eq_true,decide_eq_true_eq] at g6;have l6:(0:Int)≤z6:=g6.1;have m6:z6≤(18446744073709551615:Int):=g6.2;obtain ⟨y6,rfl⟩:∃ x:Nat,z6=x:=⟨z6.toNat,by omega⟩;have hc:=q4w (raw:=y0) (value:=y6) (by rw [hi0.sc_len]; exact hn0) g1.1 g1.2 g2.1 g2.2 g3.1 g3.2 g4.1 g4.2 g5.1 g5.2 (by omega);refine (hc.2 _ W [_,_,_,_,_,_,_] (q57 hL) (Fr.triv _) (q1c (qeQ hi0) (q1c q1h (q1c q1h (q1c q1h (q1c q1h (q1c q1h (q1c q1h qeP)))))))).mono fun e W' ⟨v,he,hx,hr⟩=>?_;rw [q9N hr] at he;subst he;exact ⟨_,rfl,q3v rfl hW' (by kernel_rfl) rfl rfl hx⟩
def qrD:(Rows.refineRefusesRow.inPlace == Tryz.pinned.checked.prog.inPlace 7)=true:=by kernel_rfl
def qrC:(Rows.refineRefusesRow.unfollowed == Tryz.pinned.checked.prog.unfollowed 7)=true:=by kernel_rfl
def qrB:(Rows.refineRefusesRow.recurses == Tryz.pinned.checked.prog.recurses 7)=true:=by kernel_rfl
def qrA:(Rows.refineRefusesRow.named == Tryz.pinned.checked.prog.varsNamed 7)=true:=by kernel_rfl
def qqz:joinedFacts Tryz.pinned.checked.prog 7 Tryz.f7 Rows.refineRefusesSpec Rows.refineRefusesRow=true:=by
 unfold joinedFacts;rw [qrD,qrC,qrB,qrA]
 kernel_rfl
def q3T:Rows.RefineRefusesSaid :=
 OpenClaim.holds_of_wide 7 Tryz.f7 rfl rfl rfl rfl rfl rfl rfl ⟨rfl,rfl,rfl,rfl,rfl⟩ rfl rfl rfl rfl rfl (by kernel_rfl) Tryz.func7 qqz
  (of_decide_eq_true (by kernel_rfl)) (by unfold Func.isWrapper; first | (rw [if_pos (by decide +kernel)]; kernel_rfl) | (rw [if_neg (by decide +kernel)]; exact ⟨rfl,rfl⟩))
  (fun os started H enc _=>qcX os started H enc)
set_option maxRecDepth 100000
def qrI:OpenClaim.wfByText (OpenSpec.ofChange Rows.refineRefusesSpec) Rows.refineRefusesRow=true:=by kernel_rfl
def qrH : Tryz.pinned.checked.prog.mainIs = some (true, ("a2740fb67fdf1770b87b446d3cf87e00c3ed12e7a272b0be716aadfd10a83fed" : String).toList) := by kernel_rfl
def qrG:false=Tryz.pinned.checked.prog.looks []:=by kernel_rfl
def qrF:false=Rows.refineRefusesRow.goesBy Tryz.pinned.checked.prog:=by kernel_rfl
def qrE : Tryz.prog.funcNamed "sparse/sparselaw35.RefineRefuses" = some 7 := by kernel_rfl
theorem rrx_card:Rows.RefineRefusesCardSaid :=
 Claim7.holds_tied_plain_at .later [] [.data] true (true, "a2740fb67fdf1770b87b446d3cf87e00c3ed12e7a272b0be716aadfd10a83fed") false
  q3T (fun _ h=>by cases h) qrI (fun _ h=>by cases h) refineRefuses_row_tie rfl ⟨rfl,rfl⟩ qrH rfl
  (fun f fn hf hfn=>by
   obtain rfl:f=7:=Option.some.inj (qrE.symm.trans hf) |>.symm;obtain rfl:fn=Tryz.f7:=(Option.some.inj (Tryz.func7.symm.trans hfn)).symm;exact ⟨qrG,fun j t ht=>by
    have hm:t ∈ [22,3,3,3,3,3,42]:=by simpa using Array.mem_of_getElem? ht
    have hall:([22,3,3,3,3,3,42].all fun u=>!Tryz.prog.wantsStandIn u)=true:=by kernel_rfl
    exact (show Tryz.prog.wantsStandIn t=false by simpa using List.all_eq_true.1 hall t hm)⟩)
  qrF
#print axioms rrx_card
end Go.Proofs.YtfmojhhokfkdaaaGreatDoor
