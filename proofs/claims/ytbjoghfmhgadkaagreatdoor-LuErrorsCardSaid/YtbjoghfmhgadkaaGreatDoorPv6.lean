/- LuBounded and LuErrors are proved. 6/6. -/
import Derived.SevenTiedAt
import Derived.Test.YtbjoghfmhgadkaaGreatDoorCards
import Derived.Test.YtbjoghfmhgadkaaGreatDoorTie
import Derived.Test.YtbjoghfmhgadkaaGreatDoorPv5
open Array renaming mem_of_getElem?->zK
open Bool renaming and_eq_true->zB
open Int renaming natAbs_natCast->zA,natAbs_neg->zD,dvd_natAbs->zH,natCast_mul->zJ
open List renaming getElem?_eq_getElem->zC,getElem?_range->zE,getD_eq_getElem?_getD->zG,getElem?_map->zI
open Nat renaming zero_le->zL
open Option renaming some->zF
set_option linter.unusedSimpArgs false
set_option linter.unusedVariables false
set_option maxRecDepth 20000
set_option maxHeartbeats 2000000
set_option linter.defProp false
namespace Go.Proofs.YtbjoghfmhgadkaaGreatDoor
open Go Go.E Go.Sp Go.ChangeShapes Go.WideShapes Go.ChangeAt Go.WideMaps Go.WideElems Go.RowKit
set_option maxRecDepth 100000
abbrev q89 : List (String × DataW Unit) := [("math/bits.deBruijn32tab", Rows.laid_math_bits_deBruijn32tab)]
def own:ownKnob Tryz.prog.godebug=none:=κ
def qaB (os:Os) (args:Array Value):laidMetH Tryz.prog q89 ((World.doorLaid Tryz.prog 400 os).forCall (λ_ _=>0) ⟨#[],args,[]⟩).memory :=
 laidMetH_of_parts3 (fuel:=8) (laidMet_of_run' 8 κ κ) κ κ
def undW:Tryz.prog.underlying 22=some (.slice 31):=κ
def cellU:Tryz.prog.cellsOf 31=1:=κ
def q9j {H:Type} {enc:TypeId × Value->H} {W:World} {v:Value} {d:DataW H} {p:List MemPlace} {b0:Nat} (hv:Value.okWide Tryz.prog W .any b0 22 v) (h:DataW.Trod enc Tryz.prog W 0 (λ_=>true) true 22 v d p) :
  ∃ A n c raw,v=.slice A n c/\n<=9223372036854775807/\In (fSc u64v raw) (λ_=>True) (.slice A n c) W:=by
 obtain ⟨A,n,c,rfl⟩:=okWide_slice undW hv;obtain ⟨fuel,hf⟩:=h
 rcases open_ints undW qpD cellU hf with ⟨h1,_⟩ | ⟨a,len,cap,zs,h1,_,hl,hm,hz,_,hc,hw⟩
 .injection h1 with h1 _
  injection h1 with h1 h2 h3
  subst h1; subst h2; subst h3;exact ⟨_,_,_,[],rfl,ω,In.sc_nil⟩
 .injection h1 with h1 _
  injection h1 with h1 h2 h3
  subst h1; subst h2; subst h3;have hz':zs.length=c:=by simpa using hz
  refine ⟨_,_,_,(zs.take n).map Int.toNat,rfl,by unfold maxLen at hm; omega,some a,n,c,rfl,hl,by simp; omega,λ_=>⟨a,rfl,trivial,λj u hu=>?_⟩⟩;rw [zI,zI,List.getElem?_take] at hu
  split at hu
  .rename_i hj;have hjz:j < zs.length:=ω
   rw [zC hjz] at hu;have h0:=hc j hjz;rw [zG,zC hjz] at h0;have h1:=hw zs[j] (List.getElem_mem _);simp only [Lit.wf,zB,decide_eq_true_eq] at h1;have h2:(0:Int)<=zs[j]:=h1.1;rw [h0,<- zF.inj hu]
   show some (Value.int .u64 zs[j])=some (Value.int .u64 ((zs[j].toNat:Nat):Int))
   rw [Int.toNat_of_nonneg h2]
  .cases hu
section
variable {w:World} {D:Nat->Prop} {ρ:Nat->Option Nat} {h:Hp} {x:PV} {l:List PV} {a:Value} {vs:List Value}
def qqf:RdL w D [] ρ h []:=by unfold RdL; rfl
def q7K (h1:Rd w D x ρ h a) (h2:RdL w D l ρ h vs):RdL w D (x :: l) ρ h (a :: vs):=by
 unfold RdL;exact ⟨_,_,rfl,h1,h2⟩
end
set_option maxRecDepth 100000
def qag (os:Os) (started:os.Started) (H:Type) (enc:TypeId × Value->H) :
  ReturnsInHanded {} Tryz.checked os 9 .any (λw args=>(Rows.luBoundedSpec.pre enc Tryz.prog Tryz.f9 [] false w args/\laidMetH Tryz.prog q89 w)/\sizedMet enc Tryz.prog Tryz.f9 (OpenSpec.ofChange Rows.luBoundedSpec) false w args)
   (Rows.luBoundedSpec.post enc Tryz.prog Tryz.f9 false true false false):=by
 refine returnsInHanded_of_change_and (C:=Tryz.checked) (X:=λw _=>laidMetH Tryz.prog q89 w) (λ_ _ _ hh h=>h.of_heap hh) own started κ Tryz.func9
  (ChangeSpec.witness_shaped (enc:=enc) (C:=Tryz.checked) (os:=os) (X:=λw _=>laidMetH Tryz.prog q89 w) false (World.doorLaid Tryz.prog 400 os) #[.slice none 0 0,.int .i64 0,.int .i64 0] 8 rfl (World.shaped_of_RefB κ κ) κ κ κ (qaB os _)) ?_
 intro W base args ds gs before hval0 hW _ _ hL _;have hval:∀ (j:Nat) t v,Tryz.f9.params[j]?=some t->args[j]?=some v->Value.okWide Tryz.prog W .any base t v:=hval0;have hW':DataW.Whole enc Tryz.prog Tryz.f9.params.toList Rows.luBoundedSpec.vars false W args.toList ds gs before:=hW;obtain ⟨p,q,hA0,hV,rfl,_,_⟩:=hW;have hA:DataW.TrodAll enc Tryz.prog W 0 (λ_=>true) true [22,3,3] args.toList ds p:=hA0;obtain ⟨v0,s0,d0,e0,p0,q0,ha,rfl,rfl,h0,r0⟩:=trodAll_cons hA;obtain ⟨v1,s1,d1,e1,p1,q1,rfl,rfl,rfl,h1,r1⟩:=trodAll_cons r0;obtain ⟨v2,s2,d2,e2,p2,q2,rfl,rfl,rfl,h2,r2⟩:=trodAll_cons r1;obtain ⟨rfl,rfl,rfl⟩:=trodAll_nil r2;obtain rfl:args=#[v0,v1,v2]:=by cases args; simp_all
 obtain ⟨rfl,rfl⟩:=trodVars_none hV;obtain ⟨A0,n0,c0,y0,rfl,hn0,hi0⟩:=q9j (hval 0 22 _ rfl rfl) h0;obtain ⟨y1,rfl,_,_,g1⟩:=open_int qkM (hval 1 3 _ rfl rfl) h1;simp only [Lit.wf,zB,decide_eq_true_eq] at g1;obtain ⟨y2,rfl,_,_,g2⟩:=open_int qkM (hval 2 3 _ rfl rfl) h2;simp only [Lit.wf,zB,decide_eq_true_eq] at g2;have hc:=q7T (raw:=y0) (by rw [hi0.sc_len]; exact hn0) g1.1 g1.2 g2.1 g2.2;refine (hc.2 _ W [_,_,_] (qba hL) (Fr.triv _) (q7K (qqg hi0) (q7K q5R (q7K q5R qqf)))).mono λe W' ⟨v,he,hx,hr⟩=>?_;rw [q9S hr] at he;subst he;exact ⟨_,rfl,q9h rfl hW' κ rfl rfl hx⟩
def qrb:(Rows.luBoundedRow.inPlace == Tryz.pinned.checked.prog.inPlace 9)=true:=κ
def qra:(Rows.luBoundedRow.unfollowed == Tryz.pinned.checked.prog.unfollowed 9)=true:=κ
def qr9:(Rows.luBoundedRow.recurses == Tryz.pinned.checked.prog.recurses 9)=true:=κ
def qr8:(Rows.luBoundedRow.named == Tryz.pinned.checked.prog.varsNamed 9)=true:=κ
def qr7:joinedFacts Tryz.pinned.checked.prog 9 Tryz.f9 Rows.luBoundedSpec Rows.luBoundedRow=true:=by
 unfold joinedFacts;rw [qrb,qra,qr9,qr8]
 kernel_rfl
def q4m:Rows.LuBoundedSaid :=
 OpenClaim.holds_of_wide 9 Tryz.f9 rfl rfl rfl rfl rfl rfl rfl ⟨rfl,rfl,rfl,rfl,rfl⟩ rfl rfl rfl rfl rfl κ Tryz.func9 qr7
  (of_decide_eq_true κ) (by unfold Func.isWrapper; first | (rw [if_pos (by decide +kernel)]; kernel_rfl) | (rw [if_neg (by decide +kernel)]; exact ⟨rfl,rfl⟩))
  (λos started H enc _=>qag os started H enc)
set_option maxRecDepth 100000
def qrg:OpenClaim.wfByText (OpenSpec.ofChange Rows.luBoundedSpec) Rows.luBoundedRow=true:=κ
def qrf : Tryz.pinned.checked.prog.mainIs = some (true, ("4ea1ea1af5882540d6044f003e91dc42835ade560e3fe663dbddcd91269f8aa1" : String).toList) := by kernel_rfl
def qre:false=Tryz.pinned.checked.prog.looks []:=κ
def qrd:false=Rows.luBoundedRow.goesBy Tryz.pinned.checked.prog:=κ
def qrc : Tryz.prog.funcNamed "sparse/sparselaw26.LuBounded" = some 9 := by kernel_rfl
theorem lub_card:Rows.LuBoundedCardSaid :=
 Claim7.holds_tied_plain_at .later [] [.data] true (true, "4ea1ea1af5882540d6044f003e91dc42835ade560e3fe663dbddcd91269f8aa1") false
  q4m (λ_ h=>by cases h) qrg (λ_ h=>by cases h) luBounded_row_tie rfl ⟨rfl,rfl⟩ qrf rfl
  (λf fn hf hfn=>by
   obtain rfl:f=9:=zF.inj (qrc.symm.trans hf) |>.symm;obtain rfl:fn=Tryz.f9:=(zF.inj (Tryz.func9.symm.trans hfn)).symm;exact ⟨qre,λj t ht=>by
    have hm:t ∈ [22,3,3]:=by simpa using zK ht
    have hall:([22,3,3].all λu=>!Tryz.prog.wantsStandIn u)=true:=κ
    exact (show Tryz.prog.wantsStandIn t=false by simpa using List.all_eq_true.1 hall t hm)⟩)
  qrd
#print axioms lub_card
def qfb {d l:Int} {K:Nat} (hK:K=65536) (hl:l≠0) (hf:q0L (fQ 0 d l)):(d*(2:Int) ^ K-l*ofZ (fQ 0 d l)).natAbs<=d.natAbs*2 ^ (K-53)+l.natAbs*2 ^ (K-1075):=by
 rcases Int.lt_or_gt_of_ne hl with h | h
 .have e:fQ 0 d l=fQ 0 (-d) (-l):=by
   unfold fQ
   by_cases hd:d=0
   .rw [if_pos hd,if_pos ω]
   .rw [if_neg hd,if_neg ω,zD,zD,decide_eq_true h,decide_eq_false (by omega:¬ -l < 0)]
    congr 1
    by_cases h0:d < 0
    .rw [decide_eq_true h0,decide_eq_false (by omega:¬ -d < 0)]; rfl
    .rw [decide_eq_false h0,decide_eq_true (by omega : -d < 0)]; rfl
  rw [e] at hf ⊢;have:=qcP hK (show 0 < -l by omega) hf;rw [zD,zD,Int.neg_mul,Int.neg_mul] at this;rw [show d*(2:Int) ^ K-l*ofZ (fQ 0 (-d) (-l)) = -(-(d*(2:Int) ^ K) - -(l*ofZ (fQ 0 (-d) (-l)))) by
   generalize d*(2:Int) ^ K=a;generalize l*ofZ (fQ 0 (-d) (-l))=b;omega,zD]
  exact this
 .exact qcP hK h hf
def q93 {x y:Nat}:q1l x y=q1l y x:=by unfold q1l; rw [Int.mul_comm]
def qcu {d:Int} {u x:Nat} (hd:bl d.natAbs<=70000) (hdv:∀ c,c<=60000->(2:Int) ^ c ∣ d) (hu:q0L u) (hu0:ofZ u≠0) (hx:x=fQ 0 d (ofZ u)) (hf:q0L x) :
  ∃ s1 s2,mkV (od (d.natAbs:Int)) (dyE (d.natAbs:Int)+(-53))=some s1/\mkV (od ((ofZ u).natAbs:Int)) (dyE ((ofZ u).natAbs:Int)+(-1075))=some s2/\q00 (s1+s2)/\q00 (d-q1l x u)/\¬ s1+s2 < ((d-q1l x u).natAbs:Int):=by
 rw [q93];have hdv2:(2:Int) ^ 53 ∣ (d.natAbs:Int):=zH.2 (hdv 53 Oq);obtain ⟨s1,a1,a2,a3⟩:=q4P (V:=(d.natAbs:Int)) hdv2 (by rw [zA]; omega);have hul:=q4C hu;obtain ⟨c,hc⟩:∃ c,c=1075:=⟨_,rfl⟩;obtain ⟨s2,b1,b2,b3⟩:=q4P (V:=((ofZ u).natAbs:Int)) (c:=c) (zH.2 (q8X ω hu)) (by rw [zA]; omega);rw [hc] at b1;rw [zA] at a3 b3;obtain ⟨hP,hPb⟩:=q2d hu hf;refine ⟨s1,s2,a1,b1,q8j (q3u (k:=70000) ω ω) ω,q8j (k:=70001) (by rw [Int.sub_eq_add_neg]; exact q3u (k:=70000) hd (by rw [zD]; omega)) ω,?_⟩;obtain ⟨K,hK⟩:∃ K,K=65536:=⟨_,rfl⟩;obtain ⟨c1,hc1⟩:∃ c1,c1=53:=⟨_,rfl⟩;rw [<- hc1] at a2;have e:=qfb hK hu0 (by rw [<- hx]; exact hf);rw [<- hx,<- (q80 hK hu hf).1,<- Int.sub_mul,q0E] at e;rw [<- hc1,<- hc] at e;intro hlt;have e1:=Int.ofNat_le.2 e;rw [zJ,Int.natCast_add,zJ,zJ,q0V,q0V,q0V,<- a2,<- b2,Int.mul_assoc,Int.mul_assoc,<- Int.pow_add,<- Int.pow_add,show c1+(K-c1)=K by omega,show c+(K-c)=K by omega,<- Int.add_mul] at e1;have e2:=Int.mul_lt_mul_of_pos_right hlt (q0P K);omega
def q6O:ofZ 4607182418800017408=q8B:=by
 have h:=qdQ (z:=1) Oq;rw [qlq] at h;rw [q03 h,qc1,Int.one_mul]
def q9t:q0L 4607182418800017408:=by unfold q0L; omega
def fR_Q {d:Int}:fR 0 d=fQ 0 d q8B:=by
 obtain ⟨K,hK⟩:∃ K,K=65536:=⟨_,rfl⟩;rw [qc1,<- hK];have hp:=q0P K;have e:((2:Int) ^ K).natAbs=2 ^ K:=q3n _;unfold fR fQ;rw [<- hK,e,decide_eq_false (Int.not_lt.2 (Int.le_of_lt hp))]
 split
 .rfl
 .cases decide (d < 0) <;> rfl
def qsE {d:Int} {x u:Nat} (hd:bl d.natAbs<=70000) (hdv:∀ c,c<=60000->(2:Int) ^ c ∣ d) (hx:x=fR 0 d) (hf:q0L x) :
  ∃ s1 s2,mkV (od (d.natAbs:Int)) (dyE (d.natAbs:Int)+(-53))=some s1/\mkV (od q8B) (dyE q8B+(-1075))=some s2/\q00 (s1+s2)/\q00 (d-q1l 4607182418800017408 x)/\¬ s1+s2 < ((d-q1l 4607182418800017408 x).natAbs:Int):=by
 have hp:0 < q8B:=by rw [qc1]; exact q0P _
 obtain ⟨s1,s2,q1,q2,q3,q4,q5⟩:=qcu (u:=4607182418800017408) hd hdv q9t (by rw [q6O]; omega) (by rw [q6O,<- fR_Q]; exact hx) hf;rw [q6O,show ((q8B.natAbs:Nat):Int)=q8B by omega] at q2;rw [q93] at q4 q5;exact ⟨s1,s2,q1,q2,q3,q4,q5⟩
def qkk {u:Nat} (hu:q0L u):∃ s2,mkV (od ((ofZ u).natAbs:Int)) (dyE ((ofZ u).natAbs:Int)+(-1075))=some s2/\bl s2.natAbs<=67600:=by
 have hul:=q4C hu;obtain ⟨c,hc⟩:∃ c,c=1075:=⟨_,rfl⟩;obtain ⟨s2,b1,b2,b3⟩:=q4P (V:=((ofZ u).natAbs:Int)) (c:=c) (zH.2 (q8X ω hu)) (by rw [zA]; omega);rw [hc] at b1;rw [zA] at b3;exact ⟨s2,b1,ω⟩
def qlQ {x y x' y':Nat} (h1:ofZ x=ofZ x') (h2:ofZ y=ofZ y'):q1l x y=q1l x' y':=by unfold q1l; rw [h1,h2]
section
variable {F:Nat->Nat->Option Nat} {mi:List Int} {n k num den:Nat} {S:LuS} {cols:List Int}
def qis {l l' u u':Nat->Nat->Nat} {i j k:Nat}:∀ m,(∀ p,p < m->ofZ (l i p)=ofZ (l' i p)/\ofZ (u p k)=ofZ (u' p k))->luL F l u i j k m=luL F l' u' i j k m
 | 0,_=>rfl
 | m+1,h=>by rw [luL,luL,qis m λp hp=>h p ω,qlQ (h m ω).1 (h m ω).2]
def qir {l u:Nat->Nat->Nat} {i j k:Nat} (hl:q4E l) (hu:q4E u) (hF:q0L ((F j i).getD 0)) {c:Nat} (hc:c<=60000):∀ m,∀ x ∈ luL F l u i j k m,(2:Int) ^ c ∣ x
 | 0,x,hx=>by unfold luL at hx; simp at hx; subst hx; exact q8X hc hF
 | m+1,x,hx=>by
  unfold luL at hx
  rcases List.mem_append.1 hx with hx | hx
  .exact qir hl hu hF hc m x hx
  .simp at hx; subst hx;exact Int.dvd_neg.2 ((q80 rfl (hl i m).1 (hu m k).1).2 c hc)
def lDn (S:LuS) (n:Nat):Nat->Nat->Nat:=dnT (dnD n) (qay (tM (fLt S) n n).1 (tM (fLt S) n n).2.1 (tM (fLt S) n n).2.2) n
def uDn (S:LuS) (n:Nat):Nat->Nat->Nat:=dnT (λ_ _=>0) (qay (tM (fUt S) n n).1 (tM (fUt S) n n).2.1 (tM (fUt S) n n).2.2) n
def qbe {f:Nat->Nat->Option Nat} {k R:Nat}:((tZ f k R).map (·.1)).Nodup:=List.Pairwise.map _ (λ_ _ q=>Nat.ne_of_lt q) (q4A R)
def qcx {i j:Nat} (hi:i < n) (hj:j < i):lDn S n i j=ldT S i j:=by
 unfold lDn;rw [dnL_v (λk hk=>by rw [q3t hk]; exact qbe) ω hj,q3t ω,qtF hi]; rfl
def qiy {i:Nat} (hi:i < n):lDn S n i i=4607182418800017408:=by
 unfold lDn;rw [q62 n i i λk hk=>by rw [q3t hk]; exact qbe,if_pos hi,q3t hi];have:((tZ (fLt S) i n).find? λe=>e.1 == i)=none:=List.find?_eq_none.2 λe he hq=>by
  have h1:=(q12.1 (show (e.1,e.2) ∈ _ from he)).2;rw [beq_iff_eq.1 hq] at h1;unfold fLt at h1;rw [if_neg ω] at h1;cases h1
 rw [this];exact if_pos ⟨rfl,hi⟩
def qpK {i j:Nat} (hi:i < n) (hj:j < n):uDn S n i j=udT S i j:=by
 unfold uDn;rw [dnU_v (λk hk=>by rw [q3t hk]; exact qbe) hj,q3t hj,qtF hi]; rfl
def q4o (hG:LuG n n S) (i t:Nat):q0L (ldT S i t)/\ldT S i t < 18446744073709551616:=by
 unfold ldT fLt
 split
 .exact hG.l _ _
 .exact ⟨by unfold q0L; simp,σ⟩
def q3h (hG:LuG n n S) (i t:Nat):q0L (udT S i t)/\udT S i t < 18446744073709551616:=by
 unfold udT fUt
 split
 .exact hG.u _ _
 .exact ⟨by unfold q0L; simp,σ⟩
def q6s (F:Nat->Nat->Option Nat) (S:LuS) (cols:List Int) (i k m:Nat):List Int:=luL F (λ_ t=>ldT S i t) (udT S) (S.rows.getD i 0) (lfN cols k) k m
def q9z {i k m:Nat}:(q6s F S cols i k m).length=m+1:=q85 m
def qsf {i k m:Nat}:q6s F S cols i k (m+1)=q6s F S cols i k m ++ [-(q1l (ldT S i m) (udT S m k))]:=rfl
def qdk (hG:LuG n n S) {i k m:Nat} (hF:q0L ((F (lfN cols k) (S.rows.getD i 0)).getD 0)):(∀ x ∈ q6s F S cols i k m,bl x.natAbs<=67600)/\∀ c,c<=60000->(2:Int) ^ c ∣ q1Z (q6s F S cols i k m) :=
 ⟨qck (λ_ t=>q4o hG i t) (q3h hG) hF m,λ_ hc=>qk0 (qir (λ_ t=>q4o hG i t) (q3h hG) hF hc m)⟩
def qsg (h:FcI F n cols num den n S) (hI:LuI n S) {i k m:Nat} (hk:k < n) (hmi:m<=i) (hmk:m<=k):q1Z (q6s F S cols i k m)=luZ F S.l S.u (S.rows.getD i 0) (lfN cols k) k m:=by
 unfold q6s luZ;rw [qis (l':=S.l) (u':=S.u) m λp hp=>⟨ldT_z hI ω,by rw [qfH h hk ω]⟩]
def qse (h:FcI F n cols num den n S) (hI:LuI n S) (hG:LuG n n S) (hR:RwOk n S) (hn:n<=100) {i k:Nat} (hi:i < n) (hk:k < n) (hF:q0L ((F (lfN cols k) (S.rows.getD i 0)).getD 0)) {m:Nat} (hm:m=min i k) :
  ∃ s1 s2 s3,mkV (od ((q1Z (q6s F S cols i k m)).natAbs:Int)) (dyE ((q1Z (q6s F S cols i k m)).natAbs:Int)+(-53))=some s1/\mkV (od ((ofZ (udT S m k)).natAbs:Int)) (dyE ((ofZ (udT S m k)).natAbs:Int)+(-1075))=some s2/\q00 (s1+s2)/\q00 (q1Z (q6s F S cols i k m)-q1l (lDn S n i m) (udT S m k))/\(i<=k->mkV (od q8B) (dyE q8B+(-1075))=some s3/\q00 (s1+s3)/\¬ s1+s3 < ((q1Z (q6s F S cols i k m)-q1l (lDn S n i m) (udT S m k)).natAbs:Int))/\(k < i->¬ s1+s2 < ((q1Z (q6s F S cols i k m)-q1l (lDn S n i m) (udT S m k)).natAbs:Int)):=by
 obtain ⟨b1,b2⟩:=qdk (F:=F) (cols:=cols) (k:=k) (m:=m) hG hF;have hZ:=qsg h hI hk (i:=i) (m:=m) Oq Oq;have hsb:=q6F (i:=(q6s F S cols i k m).length) b1 (by rw [q9z]; omega);rw [List.take_length] at hsb
 by_cases hik:i<=k
 .obtain rfl:m=i:=ω
  have hu:udT S m k=fR 0 (q1Z (q6s F S cols m k m)):=by
   rw [hZ,qfH h hk hik]
   by_cases e:m=k
   .subst e; exact (h.d m hk).1
   .exact (h.u k hk m Oq).1
  obtain ⟨s1,s3,q1,q2,q3,q4,q5⟩:=qsE (u:=0) Oq b2 hu (q3h hG _ _).1;obtain ⟨s2,p1,p2⟩:=qkk (q3h hG m k).1;rw [qiy hi];refine ⟨s1,s2,s3,q1,p1,?_,q4,λ_=>⟨q2,q3,q5⟩,λhc=>by omega⟩;obtain ⟨s1',a1,a2,a3⟩:=q4P (V:=((q1Z (q6s F S cols m k m)).natAbs:Int)) (c:=53) (zH.2 (b2 53 ω)) (by rw [zA]; omega);have e:s1'=s1:=zF.inj (a1.symm.trans q1);rw [zA,e] at a3;exact q8j (q3u (k:=70000) Oq Oq) Oq
 .obtain rfl:m=k:=ω
  have hd:=h.d m hk;have hr:=qcE hR hi;obtain ⟨l1,l2,l3⟩:=h.l m hk _ hr (qcD hR hi Oq);have hl:ldT S i m=fQ 0 (q1Z (q6s F S cols i m m)) (ofZ (udT S m m)):=by
   rw [qfH h hk (Nat.le_refl _),hZ];unfold ldT fLt;unfold q3k at l1;rw [if_neg hd.2.1] at l1
   by_cases hz:luZ F S.l S.u (S.rows.getD i 0) (lfN cols m) m m=0
   .rw [if_neg (λq=>by rw [l2,hz] at q; simp at q),hz];unfold fQ;rw [if_pos rfl]; rfl
   .rw [if_pos ⟨ω,by rw [l2]; simpa using hz⟩,Option.getD_some,l1]
  have hu0:ofZ (udT S m m)≠0:=by rw [qfH h hk (Nat.le_refl _)]; exact hd.2.1
  obtain ⟨s1,s2,q1,q2,q3,q4,q5⟩:=qcu Oq b2 (q3h hG m m).1 hu0 hl (q4o hG _ _).1;rw [qcx hi ω];exact ⟨s1,s2,0,q1,q2,q3,q4,λhc=>by omega,λ_=>q5⟩
end
def ql5 {S:LuS} {n i m:Nat} (hG:LuG n n S) (hi:i < n) (hm:m<=i):q0L (lDn S n i m)/\lDn S n i m < 18446744073709551616:=by
 by_cases e:m=i
 .subst e;rw [qiy hi];exact ⟨q9t,ω⟩
 .rw [qcx hi ω];exact q4o hG _ _
set_option maxHeartbeats 1000000 in
def q86 {raw:List Nat} {n st num den:Int} (hr:raw.length<=9223372036854775807) (h1 : -9223372036854775808<=n) (h2:n<=9223372036854775807) (h3 : -9223372036854775808<=st) (h4:st<=9223372036854775807) (h5 : -9223372036854775808<=num) (h6:num<=9223372036854775807) (h7 : -9223372036854775808<=den) (h8:den<=9223372036854775807) :
  ACt 10 [pF raw,iv n,iv st,iv num,iv den] (bv true):=by
 have hN:q09 n 6 < 6:=by unfold q09; omega
 have cP:=q9Y (rg:=true) hr h1 h2 h3 h4;have cT:=q6y h5 h6 h7 h8;have cA:=q7u;have hF:=q9X (raw:=raw) (n:=n) (st:=st) (rg:=true);obtain ⟨t1,t2,t3⟩:=th_ok (num:=num) (den:=den);generalize thN num den=p at *;generalize thD den=q at *;generalize q8V raw n st true=F at *;generalize q09 n 6=N at *;have hpm:=q90 raw N;have hll:=q4f raw N;have hP:q5J (q2t raw N) N:=⟨by rw [hll],λx hx=>by have:=hpm.1 x hx; omega,hpm.2⟩;generalize q2t raw N=o at *;have c1:=q2u (num:=p) (den:=q) hF Oq hP t1 t2 t3;have hE:=facE (F:=F) (mi:=(tM F N N).2.1) (n:=N) (cols:=o) (num:=p) (den:=q) N;have hI:=facI (F:=F) (mi:=(tM F N N).2.1) (n:=N) (cols:=o) (num:=p) (den:=q) N;have hG:=q24 (F:=F) (mi:=(tM F N N).2.1) (n:=N) (cols:=o) (num:=p) (den:=q) N;have hR:=qdd (F:=F) (mi:=(tM F N N).2.1) (n:=N) (cols:=o) (num:=p) (den:=q);unfold qo5 qmN at c1;have cAt:=λ{i j:Nat} (hi:i < N) (hj:j < N)=>qiN (i:=i) (j:=j) hF hi hj;have hFf:=λi j (hi:i < N) (hj:j < N)=>hF.fin (j:=j) (i:=i) hj hi;generalize hC:q0w F (tM F N N).2.1 N o p q N=C at *;obtain ⟨e,m,S⟩:=C;simp only at *
 by_cases he:e=0
 case neg =>
  rw [if_neg he,if_neg he] at c1;have r1:(e != 0)=true:=by simpa using he
  unfold pLU pT q5S at *;refine ac0 Tryz.func10 Tryz.ntmps10 [.tmp 10] ?_;exact wk1 r1 trivial
 subst he;rw [if_pos rfl,if_pos rfl] at c1;have hE:=hE rfl;have hG:=hG rfl;have hR:=hR rfl;have hI:=(hI rfl).1;have hlb:=qiq (cols:=o) hG Oq Oq;have cC:=qcz hlb;have hck:=qjQ hE hG hR Oq hP;rw [hck] at cC;have hok:=qnt hlb hck;have hRl:(S.rows.map λz:Nat=>(z:Int)).length=N:=by rw [List.length_map,hG.len]
 have hRl2:(q84 S o N).rows.length=N:=hRl;rw [hRl2] at hok;have cD:ACt 43 [pLU (q84 S o N)] (.tu [tU N (lDn S N),tU N (uDn S N)]):=qhN hRl2 Oq hok.L hok.U;have hRg:∀ i,i < N->(S.rows.map λz:Nat=>(z:Int))[i]?=some ((S.rows.getD i 0:Nat):Int)/\S.rows.getD i 0 < N:=λi hi=>⟨by
  rw [zI,zG,zC (by rw [hG.len]; exact hi)]; rfl,qcE hR hi⟩
 have hOg:∀ k,k < N->o[k]?=some ((lfN o k:Nat):Int)/\lfN o k < N:=λk hk=>by
  obtain ⟨x,hx⟩:∃ x,o[k]?=some x:=⟨_,zC Oq⟩;obtain ⟨b1,b2⟩:=hP.2.1 x (List.mem_of_getElem? hx);obtain ⟨y,rfl⟩:∃ y:Nat,x=y:=⟨x.toNat,ω⟩;rw [qct hx];exact ⟨hx,ω⟩
 have hEnt:=λi k (hi:i < N) (hk:k < N) hf m hm=>qse (F:=F) hE hI hG hR Oq (i:=i) (k:=k) hi hk hf (m:=m) hm;have hBd:=λi k m hf=>qdk (F:=F) (cols:=o) (i:=i) (k:=k) (m:=m) hG hf;have hE0:∀ i k,q6s F S o i k 0=[ofZ ((F (lfN o k) (S.rows.getD i 0)).getD 0)]:=λi k=>rfl;have hLd:∀ i t,i < N->t < i->lDn S N i t=ldT S i t:=λi t hi ht=>qcx hi ht;have hUd:∀ t k,t < N->k < N->uDn S N t k=udT S t k:=λt k hi ht=>qpK hi ht;have hLf:=λi t=>q4o hG i t;have hUf:=λi t=>q3h hG i t;have hDf:=λi m (hi:i < N) (hm:m<=i)=>ql5 (S:=S) (n:=N) hG hi hm;have hEs:=λi k m=>qsf (F:=F) (S:=S) (cols:=o) (i:=i) (k:=k) (m:=m);have hEl:=λi k m=>q9z (F:=F) (S:=S) (cols:=o) (i:=i) (k:=k) (m:=m);generalize q6s F S o=EL at *;generalize lDn S N=DL at *;generalize uDn S N=DU at *;generalize ldT S=Ld at *;generalize udT S=Ud at *;have e1:((0:Int) != 0)=false:=rfl;have e2:((N:Int) != N)=false:=σ
 have hfr:(q84 S o N).rows=S.rows.map λz:Nat=>(z:Int):=rfl;have hfc:(q84 S o N).cols=o:=rfl;generalize q84 S o N=f at *;unfold pLU pT q5S at *;rw [hfr,hfc] at c1 cC cD;generalize (S.rows.map λz:Nat=>(z:Int))=rws at *;generalize f.ls=ls at *;generalize f.li=li at *;generalize f.lv=lv at *;generalize f.us=us at *;generalize f.ui=ui at *;generalize f.uv=uw at *;refine ac0 Tryz.func10 Tryz.ntmps10 [.tmp 10] ?_;refine wk1 (x3 e1 e2 hRl) ?_;refine q0C (λk=>k<=N) [11,15,18,19] [11,15] Lk Lk (λk:Nat=>[(20,iv k)]) (λ_=>[]) (λk=>N-k) 0 (zL _) ?_ ?_
 .refine LeM [] rfl rfl ?_;refine Zz ?_
  rfl
 .intro k hk
  by_cases hkn:k < N
  .have hkn':(k:Int) < N:=ω
   obtain ⟨o1,o2⟩:=hOg k hkn;have rk:(List.range N)[k]?=some k:=zE hkn;refine wk1 hkn' ?_;refine q0C (λi=>i<=N) [11,15,18,19,20] [11,15] Lk Lk (λi:Nat=>[(21,iv i)]) (λ_=>[]) (λi=>N-i) 0 (zL _) ?_ ?_
   .refine LeM [] rfl rfl ?_;refine Zz ?_
    rfl
   .intro i hi
    by_cases hin:i < N
    .have hin':(i:Int) < N:=ω
     obtain ⟨g1,g2⟩:=hRg i hin;have ri:(List.range N)[i]?=some i:=zE hin;obtain ⟨m,hm⟩:∃ m,m=min i k:=⟨_,rfl⟩;have hm1:m<=i:=ω
     have hm2:m<=k:=ω
     have hm3:min (i:Int) (k:Int)=(m:Int):=ω
     have cAt1:=cAt (i:=S.rows.getD i 0) (j:=lfN o k) g2 o2;obtain ⟨f1,f2⟩:=hFf (S.rows.getD i 0) (lfN o k) g2 o2;have cO:=q4b f2 (q1S f1);have hE0:=hE0 i k;refine wk1 (x4 hin' g1 o1 hm3) ?_;have hBdm:=λt=>hBd i k t f1;have hEnt1:=hEnt i k hin hkn f1 m hm;have hEsk:=λt=>hEs i k t;have hElk:=λt=>hEl i k t;have hLdi:=λt=>hLd i t hin;have hUdk:=λt ht=>hUd t k ht hkn;have hLfi:=λt=>hLf i t;have hUfk:=λt=>hUf t k;have hDm:=hDf i m hin hm1;generalize EL i k=E at *;refine q0C (λt=>t<=m) [11,15,18,19,20,21,22] [11,15] Lk Lk (λt:Nat=>[(24,iv t),(23,.ow 1004 (some 4) 0 (E t).length)]) (λt=>[(1004,⟨46,some 4,(E t).map λV=>pV V,false⟩)]) (λt=>m-t) 0 (zL _) ?_ ?_
     .rw [hE0];refine LeM [(1004,some 97)] rfl rfl ?_;refine Zz ?_
      rfl
     .intro t ht;have hlt:=hElk t
      by_cases htm:t < m
      .have htm':(t:Int) < m:=ω
       obtain ⟨x,hx⟩:∃ x,x=Ld i t:=⟨_,rfl⟩;obtain ⟨y,hy⟩:∃ y,y=Ud t k:=⟨_,rfl⟩;obtain ⟨v1,v2⟩:=hLfi t;obtain ⟨u1,u2⟩:=hUfk t;have es:=hEsk t;have d1:=hLdi t Oq;have d2:=hUdk t Oq;rw [<- hx] at v1 v2 d1;rw [<- hy] at u1 u2 d2;rw [<- hx,<- hy] at es;have rt:(List.range N)[t]?=some t:=zE Oq;have cO1:=q4b v2 (q1S v1);have cO2:=q4b u2 (q1S u1);have cM:=qcK (q2d v1 u1).1;have cNg:=@qdu;have wt:IntKind.i64.wrap ((t:Int)+1)=((t+1:Nat):Int):=by rw [i64_in ω ω]; omega
       refine wk1 (x6 htm' ri rt rk d1 (x2 d2 wt)) ?_;refine ⟨t+1,ω,ω,?_⟩;rw [es];refine LeM [(1004,some 123)] rfl rfl ?_;refine Zz ?_;exact q0J σ clV
      .have htm':¬ (t:Int) < m:=ω
       obtain rfl:t=m:=ω
       obtain ⟨s1,s2,s3,q1,q2,q3,q4,q5,q6⟩:=hEnt1;obtain ⟨b1,_⟩:=hBdm t;have hsd:=q7C b1 Oq;have cS:=qdt (l:=E t) Oq hsd;have nS:=qoR (V:=q1Z (E t));obtain ⟨y,hy⟩:∃ y,y=Ud t k:=⟨_,rfl⟩;obtain ⟨u1,u2⟩:=hUfk t;have d2:=hUdk t Oq;obtain ⟨v1,v2⟩:=hDm;rw [<- hy] at u1 u2 d2 q2 q4 q5 q6;have rt:(List.range N)[t]?=some t:=zE Oq;obtain ⟨x,hx⟩:∃ x,x=DL i t:=⟨_,rfl⟩;have d1:DL i t=x:=hx.symm;rw [<- hx] at v1 v2 q4 q5 q6;have cO1:=q4b v2 (q1S v1);have cO2:=q4b u2 (q1S u1);have cM:=qcK (q2d v1 u1).1;have cB:=qmY q4;have cAb:=@qdv;have c53:=q6H Oq Oq q1;have c75:=q6H Oq Oq q2;have cAd:=q8k q3;have nA:=λV=>qoR (V:=V);have wt:IntKind.i64.wrap ((i:Int)+1)=((i+1:Nat):Int):=by rw [i64_in ω ω]; omega
       generalize hsz:q1Z (E t)=sz at *
       by_cases hik:i<=k
       .have hik':(i:Int)<=k:=ω
        obtain ⟨r1,r2,r3⟩:=q5 hik;have c1':=q4d (z:=1) Oq Oq q4g.1;have c75b:=q6H Oq Oq r1;have cAd2:=q8k r2;have cL:=q9o (A:=s1+s3) (B:=((sz-q1l x y).natAbs:Int));rw [decide_eq_false r3] at cL;clear q5 q6;generalize q8B=o1 at *;clear q1 q2 q3 q4 r1 r2 r3 hsz b1 hsd;refine wk1 (x6 htm' ri rt rk d1 (x3 d2 hik' wt)) ?_;refine ⟨i+1,ω,ω,?_⟩;refine LeM [] rfl rfl ?_;exact Zy
       .have hik':¬ (i:Int)<=k:=ω
        have cL:=q9o (A:=s1+s2) (B:=((sz-q1l x y).natAbs:Int));rw [decide_eq_false (q6 ω)] at cL;clear q5 q6 q1 q2 q3 q4 hsz b1 hsd;refine wk1 (x6 htm' ri rt rk d1 (x3 d2 hik' wt)) ?_;refine ⟨i+1,ω,ω,?_⟩;refine LeM [] rfl rfl ?_;exact Zy
    .have hin':¬ (i:Int) < N:=ω
     refine wk1 hin' ?_;refine ⟨k+1,ω,ω,?_⟩;refine LeM [] rfl rfl ?_;refine Zz ?_
     first | done | rfl | omega
  .have hkn':¬ (k:Int) < N:=ω
   exact wk1 hkn' trivial
set_option maxRecDepth 100000
def qaf (os:Os) (started:os.Started) (H:Type) (enc:TypeId × Value->H) :
  ReturnsInHanded {} Tryz.checked os 10 .any (λw args=>(Rows.luErrorsSpec.pre enc Tryz.prog Tryz.f10 [] false w args/\laidMetH Tryz.prog q89 w)/\sizedMet enc Tryz.prog Tryz.f10 (OpenSpec.ofChange Rows.luErrorsSpec) false w args)
   (Rows.luErrorsSpec.post enc Tryz.prog Tryz.f10 false true false false):=by
 refine returnsInHanded_of_change_and (C:=Tryz.checked) (X:=λw _=>laidMetH Tryz.prog q89 w) (λ_ _ _ hh h=>h.of_heap hh) own started κ Tryz.func10
  (ChangeSpec.witness_shaped (enc:=enc) (C:=Tryz.checked) (os:=os) (X:=λw _=>laidMetH Tryz.prog q89 w) false (World.doorLaid Tryz.prog 400 os) #[.slice none 0 0,.int .i64 0,.int .i64 0,.int .i64 0,.int .i64 0] 8 rfl (World.shaped_of_RefB κ κ) κ κ κ (qaB os _)) ?_
 intro W base args ds gs before hval0 hW _ _ hL _;have hval:∀ (j:Nat) t v,Tryz.f10.params[j]?=some t->args[j]?=some v->Value.okWide Tryz.prog W .any base t v:=hval0;have hW':DataW.Whole enc Tryz.prog Tryz.f10.params.toList Rows.luErrorsSpec.vars false W args.toList ds gs before:=hW;obtain ⟨p,q,hA0,hV,rfl,_,_⟩:=hW;have hA:DataW.TrodAll enc Tryz.prog W 0 (λ_=>true) true [22,3,3,3,3] args.toList ds p:=hA0;obtain ⟨v0,s0,d0,e0,p0,q0,ha,rfl,rfl,h0,r0⟩:=trodAll_cons hA;obtain ⟨v1,s1,d1,e1,p1,q1,rfl,rfl,rfl,h1,r1⟩:=trodAll_cons r0;obtain ⟨v2,s2,d2,e2,p2,q2,rfl,rfl,rfl,h2,r2⟩:=trodAll_cons r1;obtain ⟨v3,s3,d3,e3,p3,q3,rfl,rfl,rfl,h3,r3⟩:=trodAll_cons r2;obtain ⟨v4,s4,d4,e4,p4,q4,rfl,rfl,rfl,h4,r4⟩:=trodAll_cons r3;obtain ⟨rfl,rfl,rfl⟩:=trodAll_nil r4;obtain rfl:args=#[v0,v1,v2,v3,v4]:=by cases args; simp_all
 obtain ⟨rfl,rfl⟩:=trodVars_none hV;obtain ⟨A0,n0,c0,y0,rfl,hn0,hi0⟩:=q9j (hval 0 22 _ rfl rfl) h0;obtain ⟨y1,rfl,_,_,g1⟩:=open_int qkM (hval 1 3 _ rfl rfl) h1;simp only [Lit.wf,zB,decide_eq_true_eq] at g1;obtain ⟨y2,rfl,_,_,g2⟩:=open_int qkM (hval 2 3 _ rfl rfl) h2;simp only [Lit.wf,zB,decide_eq_true_eq] at g2;obtain ⟨y3,rfl,_,_,g3⟩:=open_int qkM (hval 3 3 _ rfl rfl) h3;simp only [Lit.wf,zB,decide_eq_true_eq] at g3;obtain ⟨y4,rfl,_,_,g4⟩:=open_int qkM (hval 4 3 _ rfl rfl) h4;simp only [Lit.wf,zB,decide_eq_true_eq] at g4;have hc:=q86 (raw:=y0) (by rw [hi0.sc_len]; exact hn0) g1.1 g1.2 g2.1 g2.2 g3.1 g3.2 g4.1 g4.2;refine (hc.2 _ W [_,_,_,_,_] (qba hL) (Fr.triv _) (q7K (qqg hi0) (q7K q5R (q7K q5R (q7K q5R (q7K q5R qqf)))))).mono λe W' ⟨v,he,hx,hr⟩=>?_;rw [q9S hr] at he;subst he;exact ⟨_,rfl,q9h rfl hW' κ rfl rfl hx⟩
def qr1:(Rows.luErrorsRow.inPlace == Tryz.pinned.checked.prog.inPlace 10)=true:=κ
def qr0:(Rows.luErrorsRow.unfollowed == Tryz.pinned.checked.prog.unfollowed 10)=true:=κ
def qrZ:(Rows.luErrorsRow.recurses == Tryz.pinned.checked.prog.recurses 10)=true:=κ
def qrY:(Rows.luErrorsRow.named == Tryz.pinned.checked.prog.varsNamed 10)=true:=κ
def qrX:joinedFacts Tryz.pinned.checked.prog 10 Tryz.f10 Rows.luErrorsSpec Rows.luErrorsRow=true:=by
 unfold joinedFacts;rw [qr1,qr0,qrZ,qrY]
 kernel_rfl
def q5T:Rows.LuErrorsSaid :=
 OpenClaim.holds_of_wide 10 Tryz.f10 rfl rfl rfl rfl rfl rfl rfl ⟨rfl,rfl,rfl,rfl,rfl⟩ rfl rfl rfl rfl rfl κ Tryz.func10 qrX
  (of_decide_eq_true κ) (by unfold Func.isWrapper; first | (rw [if_pos (by decide +kernel)]; kernel_rfl) | (rw [if_neg (by decide +kernel)]; exact ⟨rfl,rfl⟩))
  (λos started H enc _=>qaf os started H enc)
set_option maxRecDepth 100000
def qr6:OpenClaim.wfByText (OpenSpec.ofChange Rows.luErrorsSpec) Rows.luErrorsRow=true:=κ
def qr5 : Tryz.pinned.checked.prog.mainIs = some (true, ("4ea1ea1af5882540d6044f003e91dc42835ade560e3fe663dbddcd91269f8aa1" : String).toList) := by kernel_rfl
def qr4:false=Tryz.pinned.checked.prog.looks []:=κ
def qr3:false=Rows.luErrorsRow.goesBy Tryz.pinned.checked.prog:=κ
def qr2 : Tryz.prog.funcNamed "sparse/sparselaw26.LuErrors" = some 10 := by kernel_rfl
theorem lue_card:Rows.LuErrorsCardSaid :=
 Claim7.holds_tied_plain_at .later [] [.data] true (true, "4ea1ea1af5882540d6044f003e91dc42835ade560e3fe663dbddcd91269f8aa1") false
  q5T (λ_ h=>by cases h) qr6 (λ_ h=>by cases h) luErrors_row_tie rfl ⟨rfl,rfl⟩ qr5 rfl
  (λf fn hf hfn=>by
   obtain rfl:f=10:=zF.inj (qr2.symm.trans hf) |>.symm;obtain rfl:fn=Tryz.f10:=(zF.inj (Tryz.func10.symm.trans hfn)).symm;exact ⟨qr4,λj t ht=>by
    have hm:t ∈ [22,3,3,3,3]:=by simpa using zK ht
    have hall:([22,3,3,3,3].all λu=>!Tryz.prog.wantsStandIn u)=true:=κ
    exact (show Tryz.prog.wantsStandIn t=false by simpa using List.all_eq_true.1 hall t hm)⟩)
  qr3
#print axioms lue_card

end Go.Proofs.YtbjoghfmhgadkaaGreatDoor
