/- SolveExact answers true for every input: proved in full, under the card as given (the laid table of math/bits is tied to the text). Part 6 of 6 of the proof: L3, Lw, Ex, ExC. -/
import Derived.Carry
import Derived.LaidMore
import Derived.OpenShut
import Derived.ProofKit
import Derived.SevenTiedAt
import Derived.Stop.Joined
import Derived.Test.YtjamnehcmaloeaaGreatDoorCards
import Derived.Test.YtjamnehcmaloeaaGreatDoorRows
import Derived.Test.YtjamnehcmaloeaaGreatDoorTie
import Derived.Test.YtjamnehcmaloeaaGreatDoorAx5
set_option linter.unusedSimpArgs false
set_option linter.unusedVariables false
section
namespace Go.E
open Go
def ap (A B : Option Addr) : Prop := ∀ a b, A = some a → B = some b → a.block ≠ b.block
def bk (A : Option Addr) : List Nat := match A with | some a => [a.block] | none => []
section
variable {A B A' : Option Addr} {k : Nat}
theorem nb_bk : nb A k ↔ k ∉ bk A := by
  cases A with
  | none => simp [nb, bk]
  | some a =>
    simp only [nb, bk, List.mem_singleton]
    exact ⟨fun h e => h a rfl e.symm, fun h b hb e => by cases hb; exact h e.symm⟩
theorem ap.symm (h : ap A B) : ap B A := fun a b ha hb e => h b a hb ha e.symm
theorem ap.nb (h : ap A B) : ∀ b, B = some b → nb A b.block := fun b hb a ha => h a b ha hb
theorem ap.step {s : Nat} (h : ap A B) (hB : ∀ b, B = some b → b.block < s) (hat : A' = A ∨ ∃ g, s ≤ g ∧ A' = some ⟨g, 0, none⟩) : ap A' B := by
  rcases hat with rfl | ⟨g, hg, rfl⟩
  · exact h
  · intro a b ha hb
    cases ha
    have := hB b hb
    simp only; omega
theorem nb.step {s g : Nat} (h : Go.E.nb A g) (hg : g < s) (hat : A' = A ∨ ∃ g, s ≤ g ∧ A' = some ⟨g, 0, none⟩) : Go.E.nb A' g := by
  rcases hat with rfl | ⟨g', hg', rfl⟩
  · exact h
  · intro a ha
    cases ha
    simp only; omega
theorem Own.lt {w : World} {B E sz n c : Nat} {xs : List Value} (h : Own w B E sz A n c xs) : ∀ a, A = some a → a.block < w.heap.size := fun a ha => by
  rcases h.form with ⟨h0, _⟩ | ⟨g, cur, h0, _, hb, _⟩
  · rw [h0] at ha; cases ha
  · rw [h0] at ha; cases ha; exact hb.lt
end
end Go.E
namespace Go.Proofs.YtjamnehcmaloeaaGreatDoor
open Go Go.E Go.Sp
def cpX (raw : List Nat) (n j : Nat) : List Int := (List.range (j + 1)).map fun k => ((ents raw n k).length : Int)
def riX (es : List (Nat × Int)) : List Int := es.map fun e => (e.1 : Int)
def vsX (es : List (Nat × Int)) : List Nat := es.map fun e => flz e.2
theorem cpX_succ (raw : List Nat) (n j : Nat) : cpX raw n (j + 1) = cpX raw n j ++ [((ents raw n (j + 1)).length : Int)] := by unfold cpX; rw [List.range_succ, List.map_append]; rfl
theorem riX_snoc (es : List (Nat × Int)) (e : Nat × Int) : riX (es ++ [e]) = riX es ++ [(e.1 : Int)] := by simp [riX]
theorem vsX_snoc (es : List (Nat × Int)) (e : Nat × Int) : vsX (es ++ [e]) = vsX es ++ [flz e.2] := by simp [vsX]
structure BL (w : World) (M g : Nat) (cp ri : List Int) (vs : List Nat) (As : Option Addr) (cs : Nat) (Ai : Option Addr) (ci : Nat) (Av : Option Addr) (cv : Nat) : Prop where
  os : Own w M 3 1 As cp.length cs (cp.map i64v)
  oi : Own w M 3 1 Ai ri.length ci (ri.map i64v)
  ov : Own w M 40 1 Av vs.length cv (vs.map u64v)
  ns : nb As g
  ni : nb Ai g
  nv : nb Av g
  si : ap As Ai
  sv : ap As Av
  iv : ap Ai Av
section
variable {w w' : World} {M g : Nat} {cp ri : List Int} {vs : List Nat} {As Ai Av : Option Addr} {cs ci cv : Nat}
theorem BL.ext (h : BL w M g cp ri vs As cs Ai ci Av cv) (k : Ext w w') : BL w' M g cp ri vs As cs Ai ci Av cv := ⟨h.os.ext k, h.oi.ext k, h.ov.ext k, h.ns, h.ni, h.nv, h.si, h.sv, h.iv⟩
theorem BL.kpg (h : BL w M g cp ri vs As cs Ai ci Av cv) (k : Kp (fun k => k ≠ g) w w') : BL w' M g cp ri vs As cs Ai ci Av cv :=
  ⟨h.os.kp k h.ns, h.oi.kp k h.ni, h.ov.kp k h.nv, h.ns, h.ni, h.nv, h.si, h.sv, h.iv⟩
theorem rowOne2 {α : Type} {f : α → Value} {x : α} {E g : Nat} (hb : Blk w g E #[f x]) : Row w (fun k => k = g) 1 (some ⟨g, 0, none⟩) 1 1 ([x].map f) := rowOne hb
theorem oneU {l : List Nat} : ∀ u ∈ l.map u64v, u.oneCell' = true := fun u hu => by
  obtain ⟨z, _, rfl⟩ := List.mem_map.1 hu
  rfl
theorem BL.pushI {K : Value → World → Prop} {ty g2 : Nat} {x : Int} (h : BL w M g cp ri vs As cs Ai ci Av cv) (hb : Blk w g2 3 #[.int .i64 x]) (hg : g < w.heap.size) (hM : M ≤ w.heap.size) (hl : ri.length ≤ 1000000)
    (hK : ∀ Ai' ci' w', BL w' M g cp (ri ++ [x]) vs As cs Ai' ci' Av cv → Kp (nb Ai) w w' → K (.slice Ai' (ri ++ [x]).length ci') w') : appW Tryz.prog #[23, 23] ty [.slice Ai ri.length ci, .slice (some ⟨g2, 0, none⟩) 1 1] w K := by
  refine app_own elm23 rfl (by omega) h.oi (rowOne2 (f := i64v) (x := x) hb) oneI (by omega) hM fun A' c' w' ho hk hat => ?_
  have hat' : A' = Ai ∨ ∃ g, w.heap.size ≤ g ∧ A' = some ⟨g, 0, none⟩ := hat.imp id fun h => ⟨_, Nat.le_refl _, h⟩
  have := hK A' c' w' ⟨h.os.kp hk (h.si.symm.nb), by rw [List.length_append, List.map_append]; exact ho, h.ov.kp hk h.iv.nb, h.ns, h.ni.step hg hat', h.nv, (h.si.symm.step h.os.lt hat').symm, h.sv, h.iv.step h.ov.lt hat'⟩ hk
  rwa [List.length_append] at this
theorem BL.pushS {K : Value → World → Prop} {ty g2 : Nat} {x : Int} (h : BL w M g cp ri vs As cs Ai ci Av cv) (hb : Blk w g2 3 #[.int .i64 x]) (hg : g < w.heap.size) (hM : M ≤ w.heap.size) (hl : cp.length ≤ 1000000)
    (hK : ∀ As' cs' w', BL w' M g (cp ++ [x]) ri vs As' cs' Ai ci Av cv → Kp (nb As) w w' → K (.slice As' (cp ++ [x]).length cs') w') : appW Tryz.prog #[23, 23] ty [.slice As cp.length cs, .slice (some ⟨g2, 0, none⟩) 1 1] w K := by
  refine app_own elm23 rfl (by omega) h.os (rowOne2 (f := i64v) (x := x) hb) oneI (by omega) hM fun A' c' w' ho hk hat => ?_
  have hat' : A' = As ∨ ∃ g, w.heap.size ≤ g ∧ A' = some ⟨g, 0, none⟩ := hat.imp id fun h => ⟨_, Nat.le_refl _, h⟩
  have := hK A' c' w' ⟨by rw [List.length_append, List.map_append]; exact ho, h.oi.kp hk h.si.nb, h.ov.kp hk h.sv.nb, h.ns.step hg hat', h.ni, h.nv, h.si.step h.oi.lt hat', h.sv.step h.ov.lt hat', h.iv⟩ hk
  rwa [List.length_append] at this
theorem BL.pushV {K : Value → World → Prop} {ty g2 : Nat} {x : Nat} (h : BL w M g cp ri vs As cs Ai ci Av cv) (hb : Blk w g2 40 #[.int .u64 (x : Int)]) (hg : g < w.heap.size) (hM : M ≤ w.heap.size) (hl : vs.length ≤ 1000000)
    (hK : ∀ Av' cv' w', BL w' M g cp ri (vs ++ [x]) As cs Ai ci Av' cv' → Kp (nb Av) w w' → K (.slice Av' (vs ++ [x]).length cv') w') : appW Tryz.prog #[24, 24] ty [.slice Av vs.length cv, .slice (some ⟨g2, 0, none⟩) 1 1] w K := by
  refine app_own elm24 rfl (by omega) h.ov (rowOne2 (f := u64v) (x := x) hb) oneU (by omega) hM fun A' c' w' ho hk hat => ?_
  have hat' : A' = Av ∨ ∃ g, w.heap.size ≤ g ∧ A' = some ⟨g, 0, none⟩ := hat.imp id fun h => ⟨_, Nat.le_refl _, h⟩
  have := hK A' c' w' ⟨h.os.kp hk h.sv.symm.nb, h.oi.kp hk h.iv.symm.nb, by rw [List.length_append, List.map_append]; exact ho, h.ns, h.ni, h.nv.step hg hat', h.si, (h.sv.symm.step h.os.lt hat').symm, (h.iv.symm.step h.oi.lt hat').symm⟩ hk
  rwa [List.length_append] at this
theorem BL.pushS1 {K : Value → Value → World → Prop} {ty : Nat} {x : Int} (h : BL w M g cp ri vs As cs Ai ci Av cv) (hg : g < w.heap.size) (hM : M ≤ w.heap.size) (hl : cp.length ≤ 1000000)
    (hK : ∀ v As' cs' w1 w', Ext w w1 → BL w' M g (cp ++ [x]) ri vs As' cs' Ai ci Av cv → Kp (nb As) w1 w' → K v (.slice As' (cp ++ [x]).length cs') w') : pushW Tryz.prog 23 ty (.slice As cp.length cs) (.int .i64 x) w K := by
  refine pushW_of ?_
  rw [bsl23_1]
  refine bsW_of fun w1 hx1 hb1 hs1 => ?_
  exact (h.ext hx1).pushS hb1 (Nat.lt_of_lt_of_le hg hx1.size) (Nat.le_trans hM hx1.size) hl fun As' cs' w' h' hk => hK _ _ _ _ _ hx1 h' hk
end
def Bld (w : World) (M g : Nat) (vo : Value) (cp ri : List Int) (vs : List Nat) : Prop :=
  ∃ As cs Ai ci Av cv, Blk w g 26 #[vo, .slice As cp.length cs, .slice Ai ri.length ci, .slice Av vs.length cv] ∧ BL w M g cp ri vs As cs Ai ci Av cv
def xZ (raw : List Nat) (i : Nat) : Int := small (word raw (7 + (i : Int)))
def bZ (raw : List Nat) (n i : Nat) : Int := sumR (fun j => elZ (facX raw n) (zX raw n) i j * xZ raw j) 0 (i + 1)
def bS (raw : List Nat) (n i : Nat) : List Nat := (List.range i).map fun i => flz (bZ raw n i)
def sL (raw : List Nat) (n i K j : Nat) : List Int := (List.range j).map fun j => elZ (facX raw n) (zX raw n) i j * xZ raw j * (2 : Int) ^ K
theorem xZ_bd (raw : List Nat) (i : Nat) : (xZ raw i).natAbs ≤ 9 := by unfold xZ; have := small_bd (word raw (7 + (i : Int))); omega
theorem elZ_bd (raw : List Nat) (n i j : Nat) : (elZ (facX raw n) (zX raw n) i j).natAbs ≤ 9 := valZ_bd zX_bd _ _
theorem pr_bd (raw : List Nat) (n i j : Nat) : (elZ (facX raw n) (zX raw n) i j * xZ raw j).natAbs ≤ 81 := by rw [Int.natAbs_mul]; exact Nat.mul_le_mul (elZ_bd raw n i j) (xZ_bd raw j)
theorem bZ_bd (raw : List Nat) (n i : Nat) : (bZ raw n i).natAbs ≤ (i + 1) * 81 := sumR_bd _ (pr_bd raw n i) _ _
theorem bS_succ (raw : List Nat) (n i : Nat) : bS raw n (i + 1) = bS raw n i ++ [flz (bZ raw n i)] := by unfold bS; rw [List.range_succ, List.map_append]; rfl
theorem bS_len (raw : List Nat) (n i : Nat) : (bS raw n i).length = i := by simp [bS]
theorem sL_succ (raw : List Nat) (n i K j : Nat) : sL raw n i K (j + 1) = sL raw n i K j ++ [elZ (facX raw n) (zX raw n) i j * xZ raw j * (2 : Int) ^ K] := by unfold sL; rw [List.range_succ, List.map_append]; rfl
theorem sL_len (raw : List Nat) (n i K j : Nat) : (sL raw n i K j).length = j := by simp [sL]
theorem sL_sum (raw : List Nat) (n i K : Nat) : ∀ j, sumZ (sL raw n i K j) = sumR (fun j => elZ (facX raw n) (zX raw n) i j * xZ raw j) 0 j * (2 : Int) ^ K
  | 0 => by simp [sL, sumR, sumZ_nil]
  | j + 1 => by rw [sL_succ, sumZ_snoc, sL_sum raw n i K j, sumR_snoc, Nat.zero_add, Int.add_mul]
theorem sL_dy {raw : List Nat} {n i K j : Nat} (hK : K = 65536) : ∀ x ∈ sL raw n i K j, dyOk x := fun x hx => by
  unfold sL at hx
  obtain ⟨k, _, rfl⟩ := List.mem_map.1 hx
  have h1 := pr_bd raw n i k
  have h2 := bl_le_of (n := (elZ (facX raw n) (zX raw n) i k * xZ raw k).natAbs) (k := 7) (Nat.lt_of_le_of_lt h1 (by omega))
  exact dyOkz hK (by omega)
theorem bZ_dy {raw : List Nat} {n i K : Nat} (hK : K = 65536) (hi : i ≤ 200) : dyOk (bZ raw n i * (2 : Int) ^ K) := by
  have h1 := bZ_bd raw n i
  have h2 := bl_le_of (n := (bZ raw n i).natAbs) (k := 20) (Nat.lt_of_le_of_lt h1 (by omega))
  exact dyOkz hK (by omega)
theorem flz_some {z : Int} (h : z.natAbs < 9007199254740992) : ∃ V, ofF (flz z) = some V := ⟨z * (2 : Int) ^ 65536, flz_of h⟩
theorem vecS_x (raw : List Nat) (n : Nat) : vecS raw 7 n = (List.range n).map fun i => xZ raw i := rfl
theorem exact_fwd (raw : List Nat) {n : Nat} (hn : n ≤ 200) {K : Nat} (hK : K = 65536) : fwdS (facX raw n) (upto n) ((bS raw n n).map fun x => [ofZ x]) (List.replicate n 0) = some ((vecS raw 7 n).map flz) := by
  have hpl : (facX raw n).pm.length = n := ord_len raw n
  have := fwd_exact (f := facX raw n) (z := zX raw n) (xZ raw) (facX_ok hn) (fun p hp => facX_vs hp) zX_bd (xZ_bd raw) hK n 0 ((bS raw n n).map fun x => [ofZ x]) (List.replicate n 0) (by omega) (by simp [bS_len, hpl]) (by simp [hpl]) fun i _ hi => ?_
  · rw [← List.range_eq_range'] at this
    unfold upto
    rw [this, vecS_x, List.map_map, List.take_zero, List.nil_append]
    simp only [Function.comp_def]
  · have hb := bZ_bd raw n i
    refine ⟨[ofZ (flz (bZ raw n i))], ?_, ?_⟩
    · rw [List.getElem?_map]
      unfold bS
      rw [List.getElem?_map, List.getElem?_range (by omega)]; rfl
    · rw [sumZ_one, ofZ_some (flz_of (by omega)), ← hK, Nat.sub_zero]
      unfold bZ
      rfl
theorem exact_ok {D : Nat → Prop} {A : Option Addr} {c nr : Nat} {N : Int} {raw : List Nat} {w : World} (hT : Tabs w) (h : In (fSc u64v raw) D (.slice A nr c) w) (hnr : nr ≤ 9223372036854775807) (h1 : -9223372036854775808 ≤ N) (h2 : N ≤ 9223372036854775807) (hf : Fr D w) :
    Calls Tryz.prog 4 #[.slice A nr c, .int .i64 N] w fun e w' => e = .returned (.bool true) ∧ Ext w w' := by
  obtain ⟨n, hn⟩ : ∃ n, n = modS N 6 := ⟨_, rfl⟩
  have hn6 : n < 6 := by rw [hn]; exact modS_lt (by omega)
  have hmo := fun {w : World} => mod_ok (a := N) (n := 6) (w := w) h1 h2 (by omega) (by omega)
  rw [← hn] at hmo
  have hx : Ext w w := Kp.refl _ _
  have hb0 := h.db (w' := w)
  refine calls_W Tryz.func4 rfl Tryz.ntmps4 (by kernel_rfl) ?_
  refine W_seq_reg fun K hK => ?_
  simp -implicitDefEqProofs (disch := omega) only [go_sem, Nat.reduceEqDiff, Nat.reduceAdd, ↓reduceIte]
  refine hK _ _ ?_; clear hK K
  refine W_seq_reg fun K hK => ?_
  simp -implicitDefEqProofs (disch := omega) only [go_sem, Nat.reduceEqDiff, Nat.reduceAdd, ↓reduceIte]
  refine callW_of cal25 (hmo) ?_
  rintro _ _ ⟨rfl, rfl⟩; refine ⟨_, rfl, ?_⟩
  refine hK _ _ ?_; clear hK
  refine W_seq_reg fun K hK => ?_
  simp -implicitDefEqProofs (disch := omega) only [go_sem, Nat.reduceEqDiff, Nat.reduceAdd, ↓reduceIte]
  refine callW_of cal26 (order_ok (hT.ext hx) h hnr (by omega) hf) ?_
  rintro _ w20 ⟨v20, rfl, hx20, h20⟩; refine ⟨_, rfl, ?_⟩
  replace h := h.ext hx20
  replace hb0 := hb0.ext hx20
  replace hf := hf.kp hx20
  replace hx := hx.trans hx20
  clear hx20
  have hx20' := hx.size
  obtain ⟨Ao, no, co, rfl, _⟩ := id h20
  have lo := h20.sc_len
  rw [ord_len] at lo
  subst lo
  obtain ⟨M, hM⟩ : ∃ M, M = w20.heap.size := ⟨_, rfl⟩
  have hbo := h20.db (w' := w20)
  rw [← hM] at hbo
  refine bsW_of fun w21 hx21 hb21 hs21 => ?_
  rw [← hM] at hb21 hs21
  replace h := h.ext hx21
  replace hb0 := hb0.ext hx21
  replace hbo := hbo.ext hx21
  replace hf := hf.kp hx21
  replace hx := hx.trans hx21
  simp -implicitDefEqProofs (disch := omega) only [go_sem, Nat.reduceEqDiff, Nat.reduceAdd, ↓reduceIte]
  refine alW_of ?_
  intro g w5 hg5 hx5 hb5 hs5
  replace h := h.ext hx5
  replace hb0 := hb0.ext hx5
  replace hbo := hbo.ext hx5
  replace hf := hf.kp hx5
  replace hx := hx.trans hx5
  replace hb21 := hb21.ext hx5
  refine storeW_of hb5 siz26 rfl rfl fun w6 hk6 hb6 => ?_
  rw [← hM] at hb6
  replace hb0 := hb0.kpb hk6 fun k hk => by have := hx20'; omega
  replace hbo := hbo.kpb hk6 fun k hk => by omega
  replace hx := hx.under hk6 fun k hk => by omega
  replace hb21 := hb21.kpne hk6 (by omega)
  refine hK _ _ ?_; clear hK
  have hB : Bld w6 M g (.slice Ao n co) [0] [] [] := by
    refine ⟨some ⟨M, 0, none⟩, 1, none, 0, none, 0, hb6, ?_, Own.nil _ _ _ _, Own.nil _ _ _ _, fun a ha => by cases ha; simp only; omega, fun a ha => (by cases ha), fun a ha => (by cases ha), fun a b ha hb => (by cases hb), fun a b ha hb => (by cases hb), fun a b ha hb => (by cases ha)⟩
    have := Own.made (w := w6) (w' := w20) (B := M) (sz := 1) (n := 1) (c := 1) (E := 3) (cur := #[.int .i64 0]) (by rw [← hM]; exact hb21) (Nat.le_refl _) (by simp [maxLen]) rfl (by omega)
    rw [← hM] at this
    exact this
  clear hb6 hb21
  have hfr : Fr D w6 := hf.kp hk6
  refine W_seq_k fun K0 hK0 => ?_
  refine W_seq_reg fun K hK => ?_
  simp -implicitDefEqProofs (disch := omega) only [go_sem, Nat.reduceEqDiff, Nat.reduceAdd, ↓reduceIte]
  refine hK _ _ ?_; clear hK K
  refine W_block ?_
  refine W_loop (fun e2 w2 => ∃ j : Nat, e2 6 = .int .i64 j ∧ j ≤ n ∧ Ext w w2 ∧ In (fSc u64v raw) (Db D w.heap.size) (.slice A nr c) w2 ∧ In (fSc i64v (ordS raw n)) (Db D M) (.slice Ao n co) w2 ∧ Bld w2 M g (.slice Ao n co) (cpX raw n j) (riX (ents raw n j)) (vsX (ents raw n j))) (fun e2 _ => n - (RowKit.intOf (e2 6)).toNat) ⟨0, rfl, Nat.zero_le _, hx, hb0, hbo, hB⟩ ?_
  clear hx hb0 hbo hB
  rintro e1 w1 ⟨j, k6, hj, hx, hb0, hbo, hB⟩ hkk
  have k0 : e1 0 = .slice A nr c := (hkk 0 (by kernel_rfl)).trans (by (try simp only [upd_ap, Nat.reduceEqDiff, ↓reduceIte]); first | done | assumption | exact rfl)
  have k1 : e1 1 = .int .i64 n := (hkk 1 (by kernel_rfl)).trans (by (try simp only [upd_ap, Nat.reduceEqDiff, ↓reduceIte]); first | done | assumption | exact rfl)
  have k5 : e1 5 = .pointer (some ⟨g, 0, none⟩) := (hkk 5 (by kernel_rfl)).trans (by (try simp only [upd_ap, Nat.reduceEqDiff, ↓reduceIte]); first | done | assumption | exact rfl)
  clear hkk
  by_cases hlt : j < n
  · have hlt' : (j : Int) < n := by omega
    refine W_seq_k fun K1 hK1 => ?_
    refine W_seq_reg fun K hK => ?_
    simp -implicitDefEqProofs (disch := omega) only [go_sem, Nat.reduceEqDiff, Nat.reduceAdd, ↓reduceIte, k6, k1, hlt']
    refine hK _ _ ?_; clear hK K
    refine W_cond rfl (fun hc1 => W_skip (hK1 _ _ ?_)) (fun hc1 => by cases hc1)
    clear hK1
    refine W_seq_blk fun K hK => ?_
    obtain ⟨As, cs, Ai, ci, Av, cv, hb, hL⟩ := hB
    have hMg : M ≤ g := by omega
    obtain ⟨X, hX⟩ : ∃ X, X = bk Ai ++ bk Av := ⟨_, rfl⟩
    have hXi : ∀ k, k ∉ X → nb Ai k := fun k hk => nb_bk.2 fun h => hk (by rw [hX]; exact List.mem_append_left _ h)
    have hXv : ∀ k, k ∉ X → nb Av k := fun k hk => nb_bk.2 fun h => hk (by rw [hX]; exact List.mem_append_right _ h)
    have hgX : g ∉ X := by rw [hX, List.mem_append]; exact fun h => h.elim (fun h => nb_bk.1 hL.ni h) (fun h => nb_bk.1 hL.nv h)
    refine W_seq_k fun K2 hK2 => ?_
    refine W_dC mixed (Kp (fun k => k ∉ X)) (fun _ _ => False) (Kp.pre _) [true, true, true, false, false, true, true, true, true, false, false, false, false, false, false, true, false, false, false] [false, false, false, false, false, false, false, false, false, false, false, false, false, false, false, false, false, false, false] [1, 1, 1, 0, 0, 1, 1, 1, 1, 0, 1, 1, 0, 0, 0, 1, 1, 1, 1] (by kernel_rfl) ?_
    apply Exists.intro
    refine ⟨fun wE hE KE hKE => ?_, fun wE hE KE hKE => hE.elim, fun wE hxE hr => ?_⟩
    · have hbE := hb.kp hE hgX
      simp -implicitDefEqProofs (disch := omega) only [go_sem, Nat.reduceEqDiff, Nat.reduceAdd, ↓reduceIte, k5, k6, k0, hbE.c2, hbE.c3]
      exact hKE
    simp only [selP_t, selP_f, selP_n]
    replace hb := hb.ext hxE
    simp -implicitDefEqProofs (disch := omega) only [go_sem, Nat.reduceEqDiff, Nat.reduceAdd, ↓reduceIte, k5, k6, k0, hb.c2, hb.c3, List.toList_toArray]
    replace hL := hL.ext hxE
    have hlr : (riX (ents raw n j)).length ≤ 1000 := by
      unfold riX
      have := ents_len (raw := raw) (n := n) j
      have : j * n ≤ 5 * 5 := Nat.mul_le_mul (by omega) (by omega)
      rw [List.length_map]; omega
    have hlv : (vsX (ents raw n j)).length ≤ 1000 := by
      unfold vsX
      have := ents_len (raw := raw) (n := n) j
      have : j * n ≤ 5 * 5 := Nat.mul_le_mul (by omega) (by omega)
      rw [List.length_map]; omega
    replace hx := hx.trans hxE
    replace hb0 := hb0.ext hxE
    replace hbo := hbo.ext hxE
    refine bsW_of fun w31 hx31 hb31 hs31 => ⟨hr.trans (Kp.of_ext hx31), ?_⟩
    replace hr := hr.trans (Kp.of_ext hx31)
    replace hb0 := hb0.ext hx31
    replace hbo := hbo.ext hx31
    replace hL := hL.ext hx31
    replace hb := hb.ext hx31
    replace hx := hx.trans hx31
    refine hL.pushI hb31 hb.lt (by have := hb.lt; omega) (by omega) fun Ai' ci' w32 hL' hk32 => ⟨hr.trans (hk32.mono fun k _ hk => hXi k hk), ?_⟩
    replace hr := hr.trans (hk32.mono fun k _ hk => hXi k hk)
    replace hb := hb.kp hk32 hL.ni
    replace hb0 := hb0.kpb hk32 fun k hk => hL.oi.not_lt (by omega)
    replace hbo := hbo.kpb hk32 fun k hk => hL.oi.not_lt (by omega)
    replace hx := hx.under hk32 fun k hk => hL.oi.not_lt (by omega)
    replace hL := hL'
    refine callW_of cal28 (word_ok hb0 hnr (by omega) (by omega)) ?_
    rintro _ _ ⟨rfl, rfl⟩; refine ⟨_, rfl, ⟨hr, ?_⟩⟩
    have hr3 : word raw (j : Int) % 3 < 3 := Nat.mod_lt _ (by omega)
    have q1 : Int.tmod (word raw (j : Int) : Nat) 3 = ((word raw (j : Int) % 3 : Nat) : Int) := by rw [Int.tmod_eq_emod_of_nonneg (by omega)]; omega
    have q2 : IntKind.i64.wrap ((word raw (j : Int) % 3 : Nat) : Int) = ((word raw (j : Int) % 3 : Nat) : Int) := i64_in (by omega) (by omega)
    obtain ⟨d, hd⟩ : ∃ d, d = word raw (j : Int) % 3 := ⟨_, rfl⟩
    rw [← hd] at hr3 q1 q2
    have hsc := fun {w : World} (hT : Tabs w) => rScale1_ok (j := d) (D := fun _ => True) hT (by omega) (Fr.triv _)
    have hdg : dgX raw j = (2 : Int) ^ d := by unfold dgX; rw [← hd]
    rw [← hdg] at hsc
    obtain ⟨fd, hfd⟩ : ∃ fd, fd = flz (dgX raw j) := ⟨_, rfl⟩
    rw [← hfd] at hsc
    have q3 : ((3 : Nat) = 0) = False := by simp
    have q3' : ((3 : Int) = 0) = False := by simp
    simp -implicitDefEqProofs (disch := omega) only [go_sem, Nat.reduceEqDiff, Nat.reduceAdd, ↓reduceIte, q1, q2, q3, q3', ← hd]
    refine callW_of cal27 (hsc (hT.ext hx)) ?_
    rintro _ w33 ⟨rfl, hx33⟩; refine ⟨_, rfl, ⟨hr.trans (Kp.of_ext hx33), ?_⟩⟩
    replace hr := hr.trans (Kp.of_ext hx33)
    replace hb0 := hb0.ext hx33
    replace hbo := hbo.ext hx33
    replace hL := hL.ext hx33
    replace hb := hb.ext hx33
    replace hx := hx.trans hx33
    simp -implicitDefEqProofs (disch := omega) only [go_sem, Nat.reduceEqDiff, Nat.reduceAdd, ↓reduceIte]
    refine bsW_of fun w34 hx34 hb34 hs34 => ⟨hr.trans (Kp.of_ext hx34), ?_⟩
    replace hr := hr.trans (Kp.of_ext hx34)
    replace hb0 := hb0.ext hx34
    replace hbo := hbo.ext hx34
    replace hL := hL.ext hx34
    replace hb := hb.ext hx34
    replace hx := hx.trans hx34
    refine hL.pushV hb34 hb.lt (by have := hb.lt; omega) (by omega) fun Av' cv' w35 hL' hk35 => ⟨hr.trans (hk35.mono fun k _ hk => hXv k hk), ?_⟩
    replace hb := hb.kp hk35 hL.nv
    replace hb0 := hb0.kpb hk35 fun k hk => hL.ov.not_lt (by omega)
    replace hbo := hbo.kpb hk35 fun k hk => hL.ov.not_lt (by omega)
    replace hx := hx.under hk35 fun k hk => hL.ov.not_lt (by omega)
    replace hL := hL'
    clear hr hXi hXv hgX hX X
    refine storeW_fld hb siz23 rfl (by simp) rfl fun w36 hk36 hb36 hs36 => ?_
    replace hb0 := hb0.kpb hk36 fun k hk => by omega
    replace hbo := hbo.kpb hk36 fun k hk => by omega
    replace hx := hx.under hk36 fun k hk => by omega
    replace hL := hL.kpg hk36
    refine storeW_fld hb36 siz24 rfl (by simp) rfl fun w37 hk37 hb37 hs37 => ?_
    replace hb0 := hb0.kpb hk37 fun k hk => by omega
    replace hbo := hbo.kpb hk37 fun k hk => by omega
    replace hx := hx.under hk37 fun k hk => by omega
    replace hL := hL.kpg hk37
    simp only [thenE_n]
    refine hK2 _ _ ?_; clear hK2 K2
    replace hb : Blk w37 g 26 #[.slice Ao n co, .slice As (cpX raw n j).length cs, .slice Ai' (riX (ents raw n j) ++ [(j : Int)]).length ci', .slice Av' (vsX (ents raw n j) ++ [fd]).length cv'] := hb37
    have hri : riX (ents raw n j) ++ [(j : Int)] = riX (ents raw n j ++ (j, dgX raw j) :: entB raw j 0) := (riX_snoc _ (j, dgX raw j)).symm
    have hvs : vsX (ents raw n j) ++ [fd] = vsX (ents raw n j ++ (j, dgX raw j) :: entB raw j 0) := by rw [hfd]; exact (vsX_snoc _ (j, dgX raw j)).symm
    rw [hri, hvs] at hb hL
    have hB : Bld w37 M g (.slice Ao n co) (cpX raw n j) (riX (ents raw n j ++ (j, dgX raw j) :: entB raw j 0)) (vsX (ents raw n j ++ (j, dgX raw j) :: entB raw j 0)) := ⟨As, cs, Ai', ci', Av', cv', hb, hL⟩
    clear hb hL hb36 hb37 hri hvs hsc hfd hdg hd hr3 q1 q2 q3 q3' hL'
    have ej : IntKind.i64.wrap ((j : Int) + 1) = ((j + 1 : Nat) : Int) := by rw [i64_in (by omega) (by omega)]; omega
    refine W_seq_k fun K2 hK2 => ?_
    refine W_seq_reg fun K hK => ?_
    simp -implicitDefEqProofs (disch := omega) only [go_sem, Nat.reduceEqDiff, Nat.reduceAdd, ↓reduceIte, k6, ej]
    refine hK _ _ ?_; clear hK K
    refine W_block ?_
    refine W_loop (fun e2 w2 => ∃ i m : Nat, i = j + 1 + m ∧ e2 7 = .int .i64 i ∧ i ≤ n ∧ Ext w w2 ∧ In (fSc u64v raw) (Db D w.heap.size) (.slice A nr c) w2 ∧ In (fSc i64v (ordS raw n)) (Db D M) (.slice Ao n co) w2 ∧ Bld w2 M g (.slice Ao n co) (cpX raw n j) (riX (ents raw n j ++ (j, dgX raw j) :: entB raw j m)) (vsX (ents raw n j ++ (j, dgX raw j) :: entB raw j m))) (fun e2 _ => n - (RowKit.intOf (e2 7)).toNat) ⟨j + 1, 0, rfl, rfl, by omega, hx, hb0, hbo, hB⟩ ?_
    clear hx hb0 hbo hB
    rintro e2 w2 ⟨i, m, him, k7, hi, hx, hb0, hbo, hB⟩ hkk
    have p0 : e2 0 = .slice A nr c := (hkk 0 (by kernel_rfl)).trans (by (try simp only [upd_ap, Nat.reduceEqDiff, ↓reduceIte]); first | done | assumption | exact rfl)
    have p1 : e2 1 = .int .i64 n := (hkk 1 (by kernel_rfl)).trans (by (try simp only [upd_ap, Nat.reduceEqDiff, ↓reduceIte]); first | done | assumption | exact rfl)
    have p5 : e2 5 = .pointer (some ⟨g, 0, none⟩) := (hkk 5 (by kernel_rfl)).trans (by (try simp only [upd_ap, Nat.reduceEqDiff, ↓reduceIte]); first | done | assumption | exact rfl)
    have p6 : e2 6 = .int .i64 j := (hkk 6 (by kernel_rfl)).trans (by (try simp only [upd_ap, Nat.reduceEqDiff, ↓reduceIte]); first | done | assumption | exact rfl)
    clear hkk
    by_cases hlt2 : i < n
    · have hlt2' : (i : Int) < n := by omega
      refine W_seq_k fun K3 hK3 => ?_
      refine W_seq_reg fun K hK => ?_
      simp -implicitDefEqProofs (disch := omega) only [go_sem, Nat.reduceEqDiff, Nat.reduceAdd, ↓reduceIte, k7, p1, hlt2']
      refine hK _ _ ?_; clear hK K
      refine W_cond rfl (fun hc1 => W_skip (hK3 _ _ ?_)) (fun hc1 => by cases hc1)
      clear hK3
      refine W_seq_blk fun K4 hK4 => ?_
      have a1 : IntKind.i64.wrap (5 * (i : Int)) = ((5 * i : Nat) : Int) := by rw [i64_in (by omega) (by omega)]; omega
      have a2 : IntKind.i64.wrap (50 + ((5 * i : Nat) : Int)) = ((50 + 5 * i : Nat) : Int) := by rw [i64_in (by omega) (by omega)]; omega
      have a3 : IntKind.i64.wrap (((50 + 5 * i : Nat) : Int) + (j : Int)) = ((50 + 5 * i + j : Nat) : Int) := by rw [i64_in (by omega) (by omega)]; omega
      have a4 : IntKind.i64.wrap (90 + ((5 * i : Nat) : Int)) = ((90 + 5 * i : Nat) : Int) := by rw [i64_in (by omega) (by omega)]; omega
      have a5 : IntKind.i64.wrap (((90 + 5 * i : Nat) : Int) + (j : Int)) = ((90 + 5 * i + j : Nat) : Int) := by rw [i64_in (by omega) (by omega)]; omega
      obtain ⟨wd, hwd⟩ : ∃ wd, wd = word raw ((50 + 5 * i + j : Nat) : Int) := ⟨_, rfl⟩
      have hwo := fun {w' : World} (h : In (fSc u64v raw) (Db D w.heap.size) (.slice A nr c) w') => word_ok (k := ((50 + 5 * i + j : Nat) : Int)) h hnr (by omega) (by omega)
      rw [← hwd] at hwo
      have b1 : Int.tmod ((wd : Nat) : Int) 2 = ((wd % 2 : Nat) : Int) := rfl
      have b0 : ((2 : Int) = 0) = False := by simp
      refine W_seq_reg fun K hK => ?_
      simp -implicitDefEqProofs (disch := omega) only [go_sem, Nat.reduceEqDiff, Nat.reduceAdd, ↓reduceIte, p0, k7, p6, a1, a2, a3]
      refine callW_of cal28 (hwo hb0) ?_
      rintro _ _ ⟨rfl, rfl⟩; refine ⟨_, rfl, ?_⟩
      simp -implicitDefEqProofs (disch := omega) only [go_sem, Nat.reduceEqDiff, Nat.reduceAdd, ↓reduceIte, b0, b1]
      refine hK _ _ ?_; clear hK
      have hentB : entB raw j (m + 1) = entB raw j m ++ if wd % 2 = 0 then [(i, small (word raw ((90 + 5 * i + j : Nat) : Int)))] else [] := by rw [entB, ← him, ← hwd]
      by_cases hev : wd % 2 = 0
      · have b2 : (((wd % 2 : Nat) : Int) == 0) = true := by rw [hev]; rfl
        rw [if_pos hev] at hentB
        refine W_cond (t := true) (by simp only [ev, upd_ap, ↓reduceIte, b2]) (fun hc => ?_) (fun hc => by cases hc)
        obtain ⟨As, cs, Ai, ci, Av, cv, hb, hL⟩ := hB
        obtain ⟨es, hes⟩ : ∃ es, es = ents raw n j ++ (j, dgX raw j) :: entB raw j m := ⟨_, rfl⟩
        have hel : es.length ≤ 1000 := by
          have h1 := ents_len (raw := raw) (n := n) j
          have h2 : j * n ≤ 5 * 5 := Nat.mul_le_mul (by omega) (by omega)
          have h3 := entB_len (raw := raw) (j := j) m
          rw [hes, List.length_append, List.length_cons]; omega
        rw [← hes] at hb hL
        have hlr : (riX es).length ≤ 1000 := by unfold riX; rw [List.length_map]; exact hel
        have hlv : (vsX es).length ≤ 1000 := by unfold vsX; rw [List.length_map]; exact hel
        obtain ⟨X, hX⟩ : ∃ X, X = bk Ai ++ bk Av := ⟨_, rfl⟩
        have hXi : ∀ k, k ∉ X → nb Ai k := fun k hk => nb_bk.2 fun h => hk (by rw [hX]; exact List.mem_append_left _ h)
        have hXv : ∀ k, k ∉ X → nb Av k := fun k hk => nb_bk.2 fun h => hk (by rw [hX]; exact List.mem_append_right _ h)
        have hgX : g ∉ X := by rw [hX, List.mem_append]; exact fun h => h.elim (fun h => nb_bk.1 hL.ni h) (fun h => nb_bk.1 hL.nv h)
        obtain ⟨we, hwe⟩ : ∃ we, we = word raw ((90 + 5 * i + j : Nat) : Int) := ⟨_, rfl⟩
        have hwe2 : we < 18446744073709551616 := by rw [hwe]; exact word_lt _ _
        have hwf := fun {w' : World} (h : In (fSc u64v raw) (Db D w.heap.size) (.slice A nr c) w') => word_ok (k := ((90 + 5 * i + j : Nat) : Int)) h hnr (by omega) (by omega)
        rw [← hwe] at hwf hentB
        obtain ⟨fd, hfd⟩ : ∃ fd, fd = flz (small we) := ⟨_, rfl⟩
        have hsm := fun {w' : World} (hT : Tabs w') => small_ok (x := we) (D := fun _ => True) hT hwe2 (Fr.triv _)
        rw [← hfd] at hsm
        refine W_dC mixed (Kp (fun k => k ∉ X)) (fun _ _ => False) (Kp.pre _) [true, true, true, false, false, true, true, true, true, true, true, true, true, false, false, false, false, true, false, false, false] [false, false, false, false, false, false, false, false, false, false, false, false, false, false, false, false, false, false, false, false, false] [1, 1, 1, 0, 0, 1, 1, 1, 1, 1, 1, 1, 1, 0, 0, 0, 0, 1, 1, 1, 1] (by kernel_rfl) ?_
        apply Exists.intro
        refine ⟨fun wE hE KE hKE => ?_, fun wE hE KE hKE => hE.elim, fun wE hxE hr => ?_⟩
        · have hbE := hb.kp hE hgX
          simp -implicitDefEqProofs (disch := omega) only [go_sem, Nat.reduceEqDiff, Nat.reduceAdd, ↓reduceIte, p5, p6, k7, p0, hbE.c2, hbE.c3, a1, a4, a5]
          exact hKE
        simp only [selP_t, selP_f, selP_n]
        replace hb0 := hb0.ext hxE
        replace hbo := hbo.ext hxE
        replace hL := hL.ext hxE
        replace hb := hb.ext hxE
        replace hx := hx.trans hxE
        simp -implicitDefEqProofs (disch := omega) only [go_sem, Nat.reduceEqDiff, Nat.reduceAdd, ↓reduceIte, p5, p6, k7, p0, hb.c2, hb.c3, List.toList_toArray, a1, a4, a5]
        refine bsW_of fun w31 hx31 hb31 hs31 => ⟨hr.trans (Kp.of_ext hx31), ?_⟩
        replace hr := hr.trans (Kp.of_ext hx31)
        replace hb0 := hb0.ext hx31
        replace hbo := hbo.ext hx31
        replace hL := hL.ext hx31
        replace hb := hb.ext hx31
        replace hx := hx.trans hx31
        refine hL.pushI hb31 hb.lt (by have := hb.lt; omega) (by omega) fun Ai' ci' w32 hL' hk32 => ⟨hr.trans (hk32.mono fun k _ hk => hXi k hk), ?_⟩
        replace hr := hr.trans (hk32.mono fun k _ hk => hXi k hk)
        replace hb := hb.kp hk32 hL.ni
        replace hb0 := hb0.kpb hk32 fun k hk => hL.oi.not_lt (by omega)
        replace hbo := hbo.kpb hk32 fun k hk => hL.oi.not_lt (by omega)
        replace hx := hx.under hk32 fun k hk => hL.oi.not_lt (by omega)
        replace hL := hL'
        refine callW_of cal28 (hwf hb0) ?_
        rintro _ _ ⟨rfl, rfl⟩; refine ⟨_, rfl, ⟨hr, ?_⟩⟩
        refine callW_of cal29 (hsm (hT.ext hx)) ?_
        rintro _ w33 ⟨rfl, hx33⟩; refine ⟨_, rfl, ⟨hr.trans (Kp.of_ext hx33), ?_⟩⟩
        replace hr := hr.trans (Kp.of_ext hx33)
        replace hb0 := hb0.ext hx33
        replace hbo := hbo.ext hx33
        replace hL := hL.ext hx33
        replace hb := hb.ext hx33
        replace hx := hx.trans hx33
        simp -implicitDefEqProofs (disch := omega) only [go_sem, Nat.reduceEqDiff, Nat.reduceAdd, ↓reduceIte]
        refine bsW_of fun w34 hx34 hb34 hs34 => ⟨hr.trans (Kp.of_ext hx34), ?_⟩
        replace hr := hr.trans (Kp.of_ext hx34)
        replace hb0 := hb0.ext hx34
        replace hbo := hbo.ext hx34
        replace hL := hL.ext hx34
        replace hb := hb.ext hx34
        replace hx := hx.trans hx34
        refine hL.pushV hb34 hb.lt (by have := hb.lt; omega) (by omega) fun Av' cv' w35 hL' hk35 => ⟨hr.trans (hk35.mono fun k _ hk => hXv k hk), ?_⟩
        replace hb := hb.kp hk35 hL.nv
        replace hb0 := hb0.kpb hk35 fun k hk => hL.ov.not_lt (by omega)
        replace hbo := hbo.kpb hk35 fun k hk => hL.ov.not_lt (by omega)
        replace hx := hx.under hk35 fun k hk => hL.ov.not_lt (by omega)
        replace hL := hL'
        clear hr hXi hXv hgX hX X
        refine storeW_fld hb siz23 rfl (by simp) rfl fun w36 hk36 hb36 hs36 => ?_
        replace hb0 := hb0.kpb hk36 fun k hk => by omega
        replace hbo := hbo.kpb hk36 fun k hk => by omega
        replace hx := hx.under hk36 fun k hk => by omega
        replace hL := hL.kpg hk36
        refine storeW_fld hb36 siz24 rfl (by simp) rfl fun w37 hk37 hb37 hs37 => ?_
        replace hb0 := hb0.kpb hk37 fun k hk => by omega
        replace hbo := hbo.kpb hk37 fun k hk => by omega
        replace hx := hx.under hk37 fun k hk => by omega
        replace hL := hL.kpg hk37
        simp only [thenE_n, inB_n]
        refine hK4 _ _ ?_; clear hK4
        replace hb : Blk w37 g 26 #[.slice Ao n co, .slice As (cpX raw n j).length cs, .slice Ai' (riX es ++ [(i : Int)]).length ci', .slice Av' (vsX es ++ [fd]).length cv'] := hb37
        have hee : ents raw n j ++ (j, dgX raw j) :: entB raw j (m + 1) = es ++ [(i, small we)] := by rw [hentB, hes]; simp
        have hri : riX es ++ [(i : Int)] = riX (es ++ [(i, small we)]) := (riX_snoc _ (i, small we)).symm
        have hvs : vsX es ++ [fd] = vsX (es ++ [(i, small we)]) := by rw [hfd]; exact (vsX_snoc _ (i, small we)).symm
        rw [hri, hvs, ← hee] at hb hL
        have hB : Bld w37 M g (.slice Ao n co) (cpX raw n j) (riX (ents raw n j ++ (j, dgX raw j) :: entB raw j (m + 1))) (vsX (ents raw n j ++ (j, dgX raw j) :: entB raw j (m + 1))) := ⟨As, cs, Ai', ci', Av', cv', hb, hL⟩
        refine W_regK fun K9 hK9 => ?_
        simp -implicitDefEqProofs (disch := omega) only [go_sem, Nat.reduceEqDiff, Nat.reduceAdd, ↓reduceIte, k7, i64_in]
        refine hK9 _ _ ?_; clear hK9 K9
        exact ⟨⟨i + 1, m + 1, by omega, rfl, by omega, hx, hb0, hbo, hB⟩, by simp only [upd_ap, ↓reduceIte, RowKit.intOf, k7]; omega⟩
      · have b2 : (((wd % 2 : Nat) : Int) == 0) = false := by rw [beq_eq_false_iff_ne]; omega
        rw [if_neg hev, List.append_nil] at hentB
        refine W_cond (t := false) (by simp only [ev, upd_ap, ↓reduceIte, b2]) (fun hc => by cases hc) (fun hc => W_skip (hK4 _ _ ?_))
        clear hK4
        refine W_regK fun K9 hK9 => ?_
        simp -implicitDefEqProofs (disch := omega) only [go_sem, Nat.reduceEqDiff, Nat.reduceAdd, ↓reduceIte, k7, i64_in]
        refine hK9 _ _ ?_; clear hK9 K9
        exact ⟨⟨i + 1, m + 1, by omega, rfl, by omega, hx, hb0, hbo, by rw [hentB]; exact hB⟩, by simp only [upd_ap, ↓reduceIte, RowKit.intOf, k7]; omega⟩
    · have hlt2' : ¬ (i : Int) < n := by omega
      refine W_seq_k fun K3 hK3 => ?_
      refine W_seq_reg fun K hK => ?_
      simp -implicitDefEqProofs (disch := omega) only [go_sem, Nat.reduceEqDiff, Nat.reduceAdd, ↓reduceIte, k7, p1, hlt2']
      refine hK _ _ ?_; clear hK K
      refine W_cond rfl (fun hc1 => by cases hc1) (fun hc1 => W_exit (hK2 _ _ ?_))
      clear hK2 hK3
      have hent : ents raw n j ++ (j, dgX raw j) :: entB raw j m = ents raw n (j + 1) := by rw [ents, ent, show n - 1 - j = m by omega]
      rw [hent] at hB
      obtain ⟨As, cs, Ai, ci, Av, cv, hb, hL⟩ := hB
      have hcl : (cpX raw n j).length = j + 1 := by simp [cpX]
      refine W_regK fun K9 hK9 => ?_
      simp -implicitDefEqProofs (disch := omega) only [go_sem, Nat.reduceEqDiff, Nat.reduceAdd, ↓reduceIte, p5, hb.c1, hb.c2]
      have hMg' := hb.lt
      refine hL.pushS1 hb.lt (by omega) (by omega) fun v As' cs' w41 w42 hx41 hL' hk42 => ?_
      replace hb := (hb.ext hx41).kp hk42 hL.ns
      replace hb0 := (hb0.ext hx41).kpb hk42 fun k hk => hL.os.not_lt (by omega)
      replace hbo := (hbo.ext hx41).kpb hk42 fun k hk => hL.os.not_lt (by omega)
      replace hx := (hx.trans hx41).under hk42 fun k hk => hL.os.not_lt (by omega)
      replace hL := hL'
      refine storeW_fld hb siz23 rfl (by simp) rfl fun w43 hk43 hb43 hs43 => ?_
      replace hb0 := hb0.kpb hk43 fun k hk => by omega
      replace hbo := hbo.kpb hk43 fun k hk => by omega
      replace hx := hx.under hk43 fun k hk => by omega
      replace hL := hL.kpg hk43
      have hlen : (riX (ents raw n (j + 1))).length = (ents raw n (j + 1)).length := by simp [riX]
      have hcs : cpX raw n j ++ [((riX (ents raw n (j + 1))).length : Int)] = cpX raw n (j + 1) := by rw [hlen, cpX_succ]
      replace hb : Blk w43 g 26 #[.slice Ao n co, .slice As' (cpX raw n j ++ [((riX (ents raw n (j + 1))).length : Int)]).length cs', .slice Ai (riX (ents raw n (j + 1))).length ci, .slice Av (vsX (ents raw n (j + 1))).length cv] := hb43
      rw [hcs] at hb hL
      refine hK9 _ _ ?_; clear hK9 K9
      refine hK _ _ ?_; clear hK
      refine W_regK fun K9 hK9 => ?_
      simp -implicitDefEqProofs (disch := omega) only [go_sem, Nat.reduceEqDiff, Nat.reduceAdd, ↓reduceIte, p6, i64_in]
      refine hK9 _ _ ?_; clear hK9 K9
      exact ⟨⟨j + 1, rfl, by omega, hx, hb0, hbo, As', cs', Ai, ci, Av, cv, hb, hL⟩, by simp only [upd_ap, ↓reduceIte, RowKit.intOf, k6]; omega⟩
  · have hlt' : ¬ (j : Int) < n := by omega
    refine W_seq_k fun K1 hK1 => ?_
    refine W_seq_reg fun K hK => ?_
    simp -implicitDefEqProofs (disch := omega) only [go_sem, Nat.reduceEqDiff, Nat.reduceAdd, ↓reduceIte, k6, k1, hlt']
    refine hK _ _ ?_; clear hK K
    refine W_cond rfl (fun hc1 => by cases hc1) (fun hc1 => W_exit (hK0 _ _ ?_))
    clear hK0 hK1
    have hjn : n = j := by omega
    subst hjn
    clear hlt hlt' hj
    obtain ⟨As, cs, Ai, ci, Av, cv, hb, hL⟩ := hB
    have hF : In (fFac (facX raw n)) (fun _ => True) (.agg #[.slice Ao n co, .slice As (cpX raw n n).length cs, .slice Ai (riX (ents raw n n)).length ci, .slice Av (vsX (ents raw n n)).length cv]) w1 := ⟨_, _, _, _, rfl, hbo.all, ownSc hL.os fun _ _ => trivial, ownSc hL.oi fun _ _ => trivial, ownSc hL.ov fun _ _ => trivial⟩
    clear hL hbo
    generalize (cpX raw n n).length = n4 at *
    generalize (riX (ents raw n n)).length = n5 at *
    generalize (vsX (ents raw n n)).length = n6 at *
    refine W_seq_reg fun K hK => ?_
    simp -implicitDefEqProofs (disch := omega) only [go_sem, Nat.reduceEqDiff, Nat.reduceAdd, ↓reduceIte, k0, k1]
    refine callW_of cal12 (vector_ok (D := fun _ => True) (hT.ext hx) hb0.all hnr (by omega) (by omega) (by omega) (Fr.triv _)) ?_
    rintro _ w90 ⟨v90, rfl, hx90, h90⟩; refine ⟨_, rfl, ?_⟩
    replace hF := hF.ext hx90
    replace hb := hb.ext hx90
    replace hx := hx.trans hx90
    clear hx90
    refine hK _ _ ?_; clear hK
    obtain ⟨Ax, nx, cx, rfl, _⟩ := id h90
    have lx := h90.sc_len
    rw [List.length_map, vecS_len] at lx
    subst lx
    obtain ⟨M2, hM2⟩ : ∃ M2, M2 = w90.heap.size := ⟨_, rfl⟩
    replace hF := hF.db (w' := w90)
    have hX := h90.db (w' := w90)
    rw [← hM2] at hF hX
    have hgM : g < M2 := by rw [hM2]; exact hb.lt
    have hxM := hx.size
    rw [← hM2] at hxM
    clear h90 hb0
    refine W_seq_reg fun K hK => ?_
    simp -implicitDefEqProofs (disch := omega) only [go_sem, Nat.reduceEqDiff, Nat.reduceAdd, ↓reduceIte]
    refine hK _ _ ?_; clear hK K
    refine W_seq_k fun K0 hK0 => ?_
    refine W_seq_reg fun K hK => ?_
    simp -implicitDefEqProofs (disch := omega) only [go_sem, Nat.reduceEqDiff, Nat.reduceAdd, ↓reduceIte]
    refine hK _ _ ?_; clear hK K
    refine W_block ?_
    refine W_loop (fun e2 w2 => ∃ (i : Nat) (Ab : Option Addr) (cb : Nat), e2 10 = .int .i64 i ∧ i ≤ n ∧ e2 9 = .slice Ab i cb ∧ Ext w w2 ∧ M2 ≤ w2.heap.size ∧ In (fFac (facX raw n)) (Db (fun _ => True) M2) (.agg #[.slice Ao n co, .slice As n4 cs, .slice Ai n5 ci, .slice Av n6 cv]) w2 ∧ In (fSc u64v ((vecS raw 7 n).map flz)) (Db (fun _ => True) M2) (.slice Ax n cx) w2 ∧ Blk w2 g 26 #[.slice Ao n co, .slice As n4 cs, .slice Ai n5 ci, .slice Av n6 cv] ∧ Own w2 M2 40 1 Ab i cb ((bS raw n i).map u64v)) (fun e2 _ => n - (RowKit.intOf (e2 10)).toNat) ⟨0, none, 0, rfl, Nat.zero_le _, (by (try simp only [upd_ap, Nat.reduceEqDiff, ↓reduceIte]); first | done | assumption | exact rfl), hx, by omega, hF, hX, hb, Own.nil _ _ _ _⟩ ?_
    clear hx hF hX hb
    rintro e3 w3 ⟨i, Ab, cb, q10, hi, q9, hx, hM3, hF, hX, hb, hOb⟩ hkk
    have q1 : e3 1 = .int .i64 n := (hkk 1 (by kernel_rfl)).trans (by (try simp only [upd_ap, Nat.reduceEqDiff, ↓reduceIte]); first | done | assumption | exact rfl)
    have q5 : e3 5 = .pointer (some ⟨g, 0, none⟩) := (hkk 5 (by kernel_rfl)).trans (by (try simp only [upd_ap, Nat.reduceEqDiff, ↓reduceIte]); first | done | assumption | exact rfl)
    have q8 : e3 8 = .slice Ax n cx := (hkk 8 (by kernel_rfl)).trans (by (try simp only [upd_ap, Nat.reduceEqDiff, ↓reduceIte]); first | done | assumption | exact rfl)
    clear hkk
    by_cases hlt : i < n
    · have hlt' : (i : Int) < n := by omega
      refine W_seq_k fun K1 hK1 => ?_
      refine W_seq_reg fun K hK => ?_
      simp -implicitDefEqProofs (disch := omega) only [go_sem, Nat.reduceEqDiff, Nat.reduceAdd, ↓reduceIte, q10, q1, hlt']
      refine hK _ _ ?_; clear hK K
      refine W_cond rfl (fun hc1 => W_skip (hK1 _ _ ?_)) (fun hc1 => by cases hc1)
      clear hK1
      refine W_seq_blk fun K hK => ?_
      refine W_seq_reg fun K hK => ?_
      simp -implicitDefEqProofs (disch := omega) only [go_sem, Nat.reduceEqDiff, Nat.reduceAdd, ↓reduceIte]
      refine hK _ _ ?_; clear hK K
      obtain ⟨E, hE⟩ : ∃ E, E = 65536 := ⟨_, rfl⟩
      obtain ⟨M4, hM4⟩ : ∃ M4, M4 = w3.heap.size := ⟨_, rfl⟩
      have hMM : M2 ≤ M4 := by omega
      have hAb : ∀ a, Ab = some a → a.block < M4 := fun a ha => by rw [hM4]; exact hOb.lt a ha
      refine W_seq_k fun K1 hK1 => ?_
      refine W_seq_reg fun K hK => ?_
      simp -implicitDefEqProofs (disch := omega) only [go_sem, Nat.reduceEqDiff, Nat.reduceAdd, ↓reduceIte]
      refine hK _ _ ?_; clear hK K
      refine W_block ?_
      refine W_loop (fun e2 w2 => ∃ (j : Nat) (Ad : Option Addr) (cd : Nat), e2 12 = .int .i64 j ∧ j ≤ i + 1 ∧ e2 11 = .slice Ad j cd ∧ Ext w w2 ∧ M4 ≤ w2.heap.size ∧ In (fFac (facX raw n)) (Db (fun _ => True) M2) (.agg #[.slice Ao n co, .slice As n4 cs, .slice Ai n5 ci, .slice Av n6 cv]) w2 ∧ In (fSc u64v ((vecS raw 7 n).map flz)) (Db (fun _ => True) M2) (.slice Ax n cx) w2 ∧ Blk w2 g 26 #[.slice Ao n co, .slice As n4 cs, .slice Ai n5 ci, .slice Av n6 cv] ∧ Own w2 M2 40 1 Ab i cb ((bS raw n i).map u64v) ∧ OwnL fV 37 4 w2 (fun _ => True) M4 Ad j cd (sL raw n i E j)) (fun e2 _ => i + 1 - (RowKit.intOf (e2 12)).toNat) ⟨0, none, 0, rfl, by omega, (by (try simp only [upd_ap, Nat.reduceEqDiff, ↓reduceIte]); first | done | assumption | exact rfl), hx, by omega, hF, hX, hb, hOb, OwnL.nil⟩ ?_
      clear hx hF hX hb
      rintro e4 w4 ⟨j, Ad, cd, r12, hj, r11, hx, hM4', hF, hX, hb, hO, hOd⟩ hkk
      have hOb2 := hO
      have r10 : e4 10 = .int .i64 i := (hkk 10 (by kernel_rfl)).trans (by (try simp only [upd_ap, Nat.reduceEqDiff, ↓reduceIte]); first | done | assumption | exact rfl)
      have r9 : e4 9 = .slice Ab i cb := (hkk 9 (by kernel_rfl)).trans (by (try simp only [upd_ap, Nat.reduceEqDiff, ↓reduceIte]); first | done | assumption | exact rfl)
      have r1 : e4 1 = .int .i64 n := (hkk 1 (by kernel_rfl)).trans (by (try simp only [upd_ap, Nat.reduceEqDiff, ↓reduceIte]); first | done | assumption | exact rfl)
      have r5 : e4 5 = .pointer (some ⟨g, 0, none⟩) := (hkk 5 (by kernel_rfl)).trans (by (try simp only [upd_ap, Nat.reduceEqDiff, ↓reduceIte]); first | done | assumption | exact rfl)
      have r8 : e4 8 = .slice Ax n cx := (hkk 8 (by kernel_rfl)).trans (by (try simp only [upd_ap, Nat.reduceEqDiff, ↓reduceIte]); first | done | assumption | exact rfl)
      clear hkk
      by_cases hlt2 : j < i + 1
      · have hlt2' : (j : Int) ≤ i := by omega
        refine W_seq_k fun K2 hK2 => ?_
        refine W_seq_reg fun K hK => ?_
        simp -implicitDefEqProofs (disch := omega) only [go_sem, Nat.reduceEqDiff, Nat.reduceAdd, ↓reduceIte, r12, r10, hlt2']
        refine hK _ _ ?_; clear hK K
        refine W_cond rfl (fun hc1 => W_skip (hK2 _ _ ?_)) (fun hc1 => by cases hc1)
        clear hK2
        refine W_seq_blk fun K2 hK2 => ?_
        obtain ⟨a, b, hcol⟩ := (facX_ok (raw := raw) (n := n) (by omega)).col j (by rw [show (facX raw n).pm.length = n from ord_len raw n]; omega)
        have hlt3 := hcol.lt
        have hle3 := hcol.le
        have hfo := facX_ok (raw := raw) (n := n) (by omega)
        have hva : valF (facX raw n) (i : Int) a (b - a) = flz (elZ (facX raw n) (zX raw n) i j) := by
          rw [elZ_eq hcol]
          exact valF_valZ (b - a) a fun p h1 h2 => facX_vs (by omega)
        have hvc := fun {w' : World} (h : In (fFac (facX raw n)) (fun _ => True) (.agg #[.slice Ao n co, .slice As n4 cs, .slice Ai n5 ci, .slice Av n6 cv]) w') => value_ok (x := (i : Int)) h hcol.ha hcol.hb (by omega) hle3 hfo.ril hfo.rib (by omega)
        rw [hva] at hvc
        have hel := elZ_bd raw n i j
        have hxl := xZ_bd raw j
        obtain ⟨ez, hez⟩ : ∃ ez, ez = elZ (facX raw n) (zX raw n) i j := ⟨_, rfl⟩
        obtain ⟨xz, hxz⟩ : ∃ xz, xz = xZ raw j := ⟨_, rfl⟩
        have hsuc := sL_succ raw n i E j
        rw [← hez, ← hxz] at hsuc
        rw [← hez] at hvc hel
        rw [← hxz] at hxl
        have hxs : ((vecS raw 7 n).map flz)[j]? = some (flz xz) := by
          rw [hxz, vecS_x, List.getElem?_map, List.getElem?_map, List.getElem?_range (by omega)]; rfl
        obtain ⟨ad, rfl, ij, xj⟩ := hX.ixU hxs
        have hoe : ofF (flz ez) = some (ez * (2 : Int) ^ E) := by rw [hE]; exact flz_of (by omega)
        have hox : ofF (flz xz) = some (xz * (2 : Int) ^ E) := by rw [hE]; exact flz_of (by omega)
        have hmv : mkV (ez * (2 : Int) ^ E * (xz * (2 : Int) ^ E)) (-131072) = some (ez * xz * (2 : Int) ^ E) := by
          refine mkV_prod hE ?_
          have h9 : (ez * xz).natAbs ≤ 81 := by rw [Int.natAbs_mul]; exact Nat.mul_le_mul hel hxl
          have := bl_le_of (n := (ez * xz).natAbs) (k := 7) (Nat.lt_of_le_of_lt h9 (by omega))
          omega
        have hle1 : flz ez < 18446744073709551616 := flz_lt (by omega)
        have hle2 : flz xz < 18446744073709551616 := flz_lt (by omega)
        generalize flz ez = fe at *
        generalize flz xz = fx at *
        obtain ⟨X, hXn⟩ : ∃ X : List Nat, X = [] := ⟨_, rfl⟩
        have hXe : ∀ {w5 w6 : World}, Kp (fun k => k ∉ X) w5 w6 → Ext w5 w6 := fun h => h.mono fun _ _ _ => by rw [hXn]; simp
        refine W_dC mixed (Kp (fun k => k ∉ X)) (fun _ _ => False) (Kp.pre _) [true, true, true, true, false, false, true, true, true, true, false, false, false, false, false] [false, false, false, false, false, false, false, false, false, false, false, false, false, false, false] [1, 1, 1, 1, 0, 0, 1, 1, 1, 1, 0, 0, 0, 1, 1] (by kernel_rfl) ?_
        apply Exists.intro
        refine ⟨fun wE hE KE hKE => ?_, fun wE hE KE hKE => hE.elim, fun wE hxE hr => ?_⟩
        · have hbE := hb.ext (hXe hE)
          have xjE := (hXe hE).cell (D := fun _ => True) trivial xj
          simp -implicitDefEqProofs (disch := omega) only [go_sem, Nat.reduceEqDiff, Nat.reduceAdd, ↓reduceIte, r11, r5, r10, r12, r8, hbE.c0, hbE.c1, hbE.c2, hbE.c3, ij, xjE]
          exact hKE
        simp only [selP_t, selP_f, selP_n]
        replace hF := hF.ext hxE
        replace hX := hX.ext hxE
        replace hO := hO.ext hxE
        replace hOd := hOd.ext hxE
        replace hb := hb.ext hxE
        replace hx := hx.trans hxE
        replace xj := hxE.cell (D := fun _ => True) trivial xj
        simp -implicitDefEqProofs (disch := omega) only [go_sem, Nat.reduceEqDiff, Nat.reduceAdd, ↓reduceIte, r11, r5, r10, r12, r8, hb.c0, hb.c1, hb.c2, hb.c3, ij, xj, List.toList_toArray]
        have hfn : Fr (fun k => nb Ad k) wE := fun k hk a ha => by have := (hOd.blk_lt a ha).1; omega
        refine callW_of cal18 (hvc hF.all) ?_
        rintro _ w31 ⟨rfl, hx31⟩; refine ⟨_, rfl, ⟨hr.trans (Kp.of_ext hx31), ?_⟩⟩
        replace hr := hr.trans (Kp.of_ext hx31)
        replace hF := hF.ext hx31
        replace hX := hX.ext hx31
        replace hO := hO.ext hx31
        replace hOd := hOd.ext hx31
        replace hb := hb.ext hx31
        replace hfn := hfn.kp hx31
        replace hx := hx.trans hx31
        refine callW_of cal15 (rOf_v (D := fun k => nb Ad k) (hT.ext hx) hle1 hoe hfn) ?_
        rintro _ w32 ⟨v32, rfl, hx32, h32⟩; refine ⟨_, rfl, ⟨hr.trans (Kp.of_ext hx32), ?_⟩⟩
        replace hr := hr.trans (Kp.of_ext hx32)
        replace hF := hF.ext hx32
        replace hX := hX.ext hx32
        replace hO := hO.ext hx32
        replace hOd := hOd.ext hx32
        replace hb := hb.ext hx32
        replace hfn := hfn.kp hx32
        replace hx := hx.trans hx32
        refine callW_of cal15 (rOf_v (D := fun k => nb Ad k) (hT.ext hx) hle2 hox hfn) ?_
        rintro _ w33 ⟨v33, rfl, hx33, h33⟩; refine ⟨_, rfl, ⟨hr.trans (Kp.of_ext hx33), ?_⟩⟩
        replace hr := hr.trans (Kp.of_ext hx33)
        replace hF := hF.ext hx33
        replace hX := hX.ext hx33
        replace hO := hO.ext hx33
        replace hOd := hOd.ext hx33
        replace h32 := h32.ext hx33
        replace hb := hb.ext hx33
        replace hfn := hfn.kp hx33
        replace hx := hx.trans hx33
        refine callW_of cal17 (rMulD_v (hT.ext hx) h32 h33 hmv hfn) ?_
        rintro _ w34 ⟨v34, rfl, hx34, h34⟩; refine ⟨_, rfl, ⟨hr.trans (Kp.of_ext hx34), ?_⟩⟩
        replace hr := hr.trans (Kp.of_ext hx34)
        replace hF := hF.ext hx34
        replace hX := hX.ext hx34
        replace hO := hO.ext hx34
        replace hOd := hOd.ext hx34
        replace h32 := h32.ext hx34
        replace h33 := h33.ext hx34
        replace hb := hb.ext hx34
        replace hfn := hfn.kp hx34
        replace hx := hx.trans hx34
        obtain ⟨s0, A0, n0, c0, rfl, _⟩ := id h34
        rw [bsv41]
        refine bsW_of fun w35 hx35 hb35 hs35 => ⟨hr.trans (Kp.of_ext hx35), ?_⟩
        replace hF := hF.ext hx35
        replace hX := hX.ext hx35
        replace hO := hO.ext hx35
        replace hOd := hOd.ext hx35
        replace h32 := h32.ext hx35
        replace h33 := h33.ext hx35
        replace h34 := h34.ext hx35
        replace hb := hb.ext hx35
        replace hfn := hfn.kp hx35
        replace hx := hx.trans hx35
        have hs35' := hx35.size
        have hsM : M4 ≤ w35.heap.size := by have := hxE.size; have := hx31.size; have := hx32.size; have := hx33.size; have := hx34.size; omega
        refine appV hOd (h34.sub fun k _ h => ⟨trivial, h⟩) hb35 (by omega) hsM fun A' c' w36 hO36 hk36 hat => ?_
        replace hF := hF.kpb hk36 fun k hk => hOd.nb (by omega)
        replace hX := hX.kpb hk36 fun k hk => hOd.nb (by omega)
        replace hb := hb.kp hk36 (hOd.nb (by omega))
        replace hO := hO.kp hk36 fun a ha => hOd.nb (hAb a ha)
        replace hx := hx.under hk36 fun k hk => hOd.nb (by omega)
        rw [← hsuc] at hO36
        simp only [inB_n, thenE_n]
        refine hK2 _ _ ?_; clear hK2
        refine W_regK fun K9 hK9 => ?_
        simp -implicitDefEqProofs (disch := omega) only [go_sem, Nat.reduceEqDiff, Nat.reduceAdd, ↓reduceIte, r12, i64_in]
        refine hK9 _ _ ?_; clear hK9 K9
        have hs36 := hk36.size
        exact ⟨⟨j + 1, A', c', rfl, by omega, (by (try simp only [upd_ap, Nat.reduceEqDiff, ↓reduceIte]); first | done | assumption | exact rfl), hx, by omega, hF, hX, hb, hO, hO36⟩, by simp only [upd_ap, ↓reduceIte, RowKit.intOf, r12]; omega⟩
      · have hlt2' : ¬ (j : Int) ≤ i := by omega
        refine W_seq_k fun K2 hK2 => ?_
        refine W_seq_reg fun K hK => ?_
        simp -implicitDefEqProofs (disch := omega) only [go_sem, Nat.reduceEqDiff, Nat.reduceAdd, ↓reduceIte, r12, r10, hlt2']
        refine hK _ _ ?_; clear hK K
        refine W_cond rfl (fun hc1 => by cases hc1) (fun hc1 => W_exit (hK1 _ _ ?_))
        clear hK1 hK2
        obtain rfl : j = i + 1 := by omega
        have hS := OwnL_in (D := fun _ => True) hOd (fun _ _ => trivial) fun _ _ => trivial
        have hsum := sL_sum raw n i E (i + 1)
        have hsum' : sumZ (sL raw n i E (i + 1)) = bZ raw n i * (2 : Int) ^ E := hsum
        have hbf : fR 0 (sumZ (sL raw n i E (i + 1))) = flz (bZ raw n i) := by rw [hsum', hE, flz]
        have hbl := bZ_bd raw n i
        have hrd := fun {w' : World} {v : Value} (hT : Tabs w') (h : In (fV (sumZ (sL raw n i E (i + 1)))) (fun _ => True) v w') => rRound_v (mode := 0) hT h (Fr.triv _)
        rw [hbf] at hrd
        have hbs := bS_succ raw n i
        have hfl : flz (bZ raw n i) < 18446744073709551616 := flz_lt (by omega)
        generalize flz (bZ raw n i) = fb at *
        have hz9 : w4.heap.size ≤ w4.heap.size := Nat.le_refl _
        refine W_regK fun K9 hK9 => ?_
        simp -implicitDefEqProofs (disch := omega) only [go_sem, Nat.reduceEqDiff, Nat.reduceAdd, ↓reduceIte, r9, r11]
        refine callW_of cal19 (rSumD_v (D := fun _ => True) (hT.ext hx) hS (by omega) (sL_dy hE) (by rw [hsum']; exact bZ_dy hE (by omega)) (Fr.triv _)) ?_
        rintro _ w117 ⟨v117, rfl, hx117, h117⟩; refine ⟨_, rfl, ?_⟩
        replace hF := hF.ext hx117
        replace hX := hX.ext hx117
        replace hO := hO.ext hx117
        replace hS := hS.ext hx117
        replace hb := hb.ext hx117
        replace hx := hx.trans hx117
        replace hz9 := Nat.le_trans hz9 hx117.size
        clear hx117
        refine callW_of cal30 (hrd (hT.ext hx) h117) ?_
        rintro _ w118 ⟨rfl, hx118⟩; refine ⟨_, rfl, ?_⟩
        replace hF := hF.ext hx118
        replace hX := hX.ext hx118
        replace hO := hO.ext hx118
        replace hS := hS.ext hx118
        replace h117 := h117.ext hx118
        replace hb := hb.ext hx118
        replace hx := hx.trans hx118
        replace hz9 := Nat.le_trans hz9 hx118.size
        clear hx118
        have hsM : M4 ≤ w118.heap.size := by omega
        refine pushF hO (by omega) (by omega) ?_
        intro v1 A3 c3 w36 hO6 hk6 hat
        replace hF := hF.kpb hk6 fun k hk => hO.not_lt (by omega)
        replace hX := hX.kpb hk6 fun k hk => hO.not_lt (by omega)
        replace hb := hb.kp hk6 (hO.not_lt (by omega))
        replace hx := hx.under hk6 fun k hk => hO.not_lt (by omega)
        rw [← hbs] at hO6
        have hs6 := hk6.size
        refine hK9 _ _ ?_; clear hK9
        refine hK _ _ ?_; clear hK
        refine W_regK fun K9 hK9 => ?_
        simp -implicitDefEqProofs (disch := omega) only [go_sem, Nat.reduceEqDiff, Nat.reduceAdd, ↓reduceIte, r10, i64_in]
        refine hK9 _ _ ?_; clear hK9 K9
        exact ⟨⟨i + 1, A3, c3, rfl, by omega, (by (try simp only [upd_ap, Nat.reduceEqDiff, ↓reduceIte]); first | done | assumption | exact rfl), hx, by omega, hF, hX, hb, hO6⟩, by simp only [upd_ap, ↓reduceIte, RowKit.intOf, q10]; omega⟩
    · have hlt' : ¬ (i : Int) < n := by omega
      refine W_seq_k fun K1 hK1 => ?_
      refine W_seq_reg fun K hK => ?_
      simp -implicitDefEqProofs (disch := omega) only [go_sem, Nat.reduceEqDiff, Nat.reduceAdd, ↓reduceIte, q10, q1, hlt']
      refine hK _ _ ?_; clear hK K
      refine W_cond rfl (fun hc1 => by cases hc1) (fun hc1 => W_exit (hK0 _ _ ?_))
      clear hK0 hK1
      have hin : n = i := by omega
      subst hin
      have hB := ownSc (D := fun _ => True) hOb fun _ _ => trivial
      have hBf : fins (bS raw n n) := fun x hx => by
        unfold bS at hx
        obtain ⟨k, hk, rfl⟩ := List.mem_map.1 hx
        have h1 := bZ_bd raw n k
        have h2 := List.mem_range.1 hk
        exact ⟨flz_lt (by omega), flz_fin (by omega)⟩
      have hsm : ∀ (j a x : Nat), (facX raw n).cp[j]? = some (a : Int) → (facX raw n).vs[a]? = some x → (od (ofZ x)).natAbs < 4294967296 := fun j a x _ h => by
        have h1 : x ∈ (ents raw n n).map fun e => flz e.2 := List.mem_of_getElem? h
        obtain ⟨e, he, rfl⟩ := List.mem_map.1 h1
        exact od_flz (ents_mem n (Nat.le_refl _) he).2
      have hlow := fun {w' : World} {v5 : Value} {A5 : Option Addr} {c5 : Nat} (hT : Tabs w') (h : In (fFac (facX raw n)) (fun _ => True) v5 w') (hb : In (fSc u64v (bS raw n n)) (fun _ => True) (.slice A5 n c5) w') => lower_ok (D := fun _ => True) hT h (facX_ok (by omega)) hb hBf (ord_len raw n).symm hsm (Fr.triv _)
      rw [exact_fwd raw (by omega) rfl] at hlow
      refine W_seq_reg fun K hK => ?_
      simp -implicitDefEqProofs (disch := omega) only [go_sem, Nat.reduceEqDiff, Nat.reduceAdd, ↓reduceIte, q5, q9, hb.l4]
      refine callW_of cal13 (hlow (hT.ext hx) hF.all hB) ?_
      rintro _ w124 ⟨v124, rfl, hx124, h124⟩; refine ⟨_, rfl, ?_⟩
      replace hF := hF.ext hx124
      replace hX := hX.ext hx124
      replace hB := hB.ext hx124
      replace hb := hb.ext hx124
      replace hx := hx.trans hx124
      obtain ⟨a124, b124, rfl, h125, h126⟩ := h124
      have h126' : b124 = .int .i64 0 := h126
      subst h126'
      obtain ⟨Ay, ny, cy, rfl, h125'⟩ := id h125
      replace h125 : In (fSc u64v ((vecS raw 7 n).map flz)) (fun _ => True) (.slice Ay ny cy) w124 := h125
      have ly := h125.sc_len
      rw [List.length_map, vecS_len] at ly
      subst ly
      simp -implicitDefEqProofs (disch := omega) only [go_sem, Nat.reduceEqDiff, Nat.reduceAdd, ↓reduceIte]
      refine hK _ _ ?_; clear hK
      refine W_seq_k fun K0 hK0 => ?_
      have c1 : ((0 : Int) != 0) = false := rfl
      have c2 : (((n : Nat) : Int) != (n : Nat)) = false := by rw [bneN]; simp
      refine W_seq_reg fun K hK => ?_
      simp -implicitDefEqProofs (disch := omega) only [go_sem, Nat.reduceEqDiff, Nat.reduceAdd, ↓reduceIte, q1, c1, c2]
      refine hK _ _ ?_; clear hK K
      refine W_cond rfl (fun hc => by cases hc) (fun hc => W_skip (hK0 _ _ ?_))
      clear hK0
      refine W_seq_k fun K0 hK0 => ?_
      refine W_seq_reg fun K hK => ?_
      simp -implicitDefEqProofs (disch := omega) only [go_sem, Nat.reduceEqDiff, Nat.reduceAdd, ↓reduceIte]
      refine hK _ _ ?_; clear hK K
      refine W_block ?_
      refine W_loop (fun e2 w2 => ∃ i : Nat, e2 15 = .int .i64 i ∧ i ≤ n ∧ Ext w w2 ∧ In (fSc u64v ((vecS raw 7 n).map flz)) (Db (fun _ => True) M2) (.slice Ax n cx) w2 ∧ In (fSc u64v ((vecS raw 7 n).map flz)) (fun _ => True) (.slice Ay n cy) w2) (fun e2 _ => n - (RowKit.intOf (e2 15)).toNat) ⟨0, rfl, Nat.zero_le _, hx, hX, h125⟩ ?_
      clear hx hX h125 hF hb hB
      rintro e5 w5 ⟨i, s15, hi, hx, hX, hY⟩ hkk
      have s1 : e5 1 = .int .i64 n := (hkk 1 (by kernel_rfl)).trans (by (try simp only [upd_ap, Nat.reduceEqDiff, ↓reduceIte]); first | done | assumption | exact rfl)
      have s8 : e5 8 = .slice Ax n cx := (hkk 8 (by kernel_rfl)).trans (by (try simp only [upd_ap, Nat.reduceEqDiff, ↓reduceIte]); first | done | assumption | exact rfl)
      have s13 : e5 13 = .slice Ay n cy := (hkk 13 (by kernel_rfl)).trans (by (try simp only [upd_ap, Nat.reduceEqDiff, ↓reduceIte]); first | done | assumption | exact rfl)
      clear hkk
      by_cases hlt3 : i < n
      · have hlt3' : (i : Int) < n := by omega
        refine W_seq_k fun K1 hK1 => ?_
        refine W_seq_reg fun K hK => ?_
        simp -implicitDefEqProofs (disch := omega) only [go_sem, Nat.reduceEqDiff, Nat.reduceAdd, ↓reduceIte, s15, s1, hlt3']
        refine hK _ _ ?_; clear hK K
        refine W_cond rfl (fun hc1 => W_skip (hK1 _ _ ?_)) (fun hc1 => by cases hc1)
        clear hK1
        refine W_seq_blk fun K hK => ?_
        have hxl := xZ_bd raw i
        have hxs : ((vecS raw 7 n).map flz)[i]? = some (flz (xZ raw i)) := by
          rw [vecS_x, List.getElem?_map, List.getElem?_map, List.getElem?_range (by omega)]; rfl
        obtain ⟨ax, rfl, ix, xx⟩ := hX.ixU hxs
        obtain ⟨ay, rfl, iy, xy⟩ := hY.ixU hxs
        obtain ⟨xi, hxi⟩ : ∃ xi, xi = xZ raw i := ⟨_, rfl⟩
        rw [← hxi] at hxl xx xy
        clear hxs hxi
        have hxl' : xi.natAbs < 9007199254740992 := Nat.lt_of_le_of_lt hxl (by decide)
        obtain ⟨V, hV⟩ : ∃ V, ofF (flz xi) = some V := flz_some hxl'
        have hfl : flz xi < 18446744073709551616 := flz_lt hxl'
        generalize flz xi = fx at *
        obtain ⟨D, hDq⟩ : ∃ D : Nat → Prop, D = fun _ => True := ⟨_, rfl⟩
        have hDl : ∀ k, Dl D [] k := fun k => ⟨by rw [hDq]; trivial, by simp⟩
        have hD : Fr (Dl D []) w5 := fun k _ => hDl k
        refine W_seq_k fun K1 hK1 => ?_
        refine W_dP true mixed (Kp.pre (fun _ => True)) (fun _ _ _ h => h) [true, true, true, true, false, true, true, true, true, false, false, false] [(144, Fam.S (fV V) (Dl D [])), (149, Fam.S (fV V) (Dl D [])), (150, Fam.S (fc (.bool true)) (Dl D [])), (151, Fam.S (fc (.bool false)) (Dl D []))] (by kernel_rfl) fun KE hKE => ?_
        simp -implicitDefEqProofs (disch := omega) only [go_sem, Nat.reduceEqDiff, Nat.reduceAdd, ↓reduceIte, s8, s13, s15, ix, iy, xx, xy]
        refine hKE _ ⟨?_, fun e' w' hw hs ho => ?_⟩ <;> clear hKE KE
        · refine stepsL_cons (fun e' w' hw hd ho => ?_) ?_
          · skip
            have o143 := ho 143 (by kernel_rfl) (by kernel_rfl)
            simp -implicitDefEqProofs (disch := omega) only [go_sem, Nat.reduceEqDiff, Nat.reduceAdd, ↓reduceIte, o143]
            refine callW_of cal15 (rOf_v ((hT.ext hx).ext hw) hfl hV (hD.kp hw)) ?_
            rintro _ w9 ⟨v9, rfl, hx9, h9⟩; refine ⟨_, rfl, ?_⟩
            exact ⟨hx9, fun d hd => by cases hd; exact h9⟩
          refine stepsL_cons (fun e' w' hw hd ho => ?_) ?_
          · skip
            have o148 := ho 148 (by kernel_rfl) (by kernel_rfl)
            simp -implicitDefEqProofs (disch := omega) only [go_sem, Nat.reduceEqDiff, Nat.reduceAdd, ↓reduceIte, o148]
            refine callW_of cal15 (rOf_v ((hT.ext hx).ext hw) hfl hV (hD.kp hw)) ?_
            rintro _ w9 ⟨v9, rfl, hx9, h9⟩; refine ⟨_, rfl, ?_⟩
            exact ⟨hx9, fun d hd => by cases hd; exact h9⟩
          have hsd := fun {w : World} {v v' : Value} (hT : Tabs w) (h : In (fV V) (Dl D []) v w) (h' : In (fV V) (Dl D []) v' w) (hf : Fr (Dl D []) w) => sameDyad_ok hT h h' hf
          rw [decide_eq_true (rfl : V = V)] at hsd
          refine stepsL_cons (fun e' w' hw hd ho => ?_) ?_
          · skip
            have h144 : In (fV V) (Dl D []) (e' 144) w' := hd 144 (by kernel_rfl) (by kernel_rfl)
            have h149 : In (fV V) (Dl D []) (e' 149) w' := hd 149 (by kernel_rfl) (by kernel_rfl)
            simp -implicitDefEqProofs (disch := omega) only [go_sem, Nat.reduceEqDiff, Nat.reduceAdd, ↓reduceIte]
            refine callW_of cal31 (hsd ((hT.ext hx).ext hw) h144 h149 (hD.kp hw)) ?_
            rintro _ w9 ⟨rfl, hx9⟩; refine ⟨_, rfl, ?_⟩
            exact ⟨hx9, fun d hd => by cases hd; exact rfl⟩
          refine stepsL_cons (fun e' w' hw hd ho => ?_) ?_
          · skip
            have h150 : e' 150 = (.bool true) := hd 150 (by kernel_rfl) (by kernel_rfl)
            simp -implicitDefEqProofs (disch := omega) only [go_sem, Nat.reduceEqDiff, Nat.reduceAdd, ↓reduceIte, h150]
            exact ⟨Kp.refl _ _, fun d hd => by cases hd; exact rfl⟩
          exact stepsL_nil
        · have h151 : e' 151 = (.bool false) := hs 151 (by kernel_rfl)
          have z15 := ho 15 (by kernel_rfl)
          clear hs ho
          simp -implicitDefEqProofs only [upd_ap, Nat.reduceEqDiff, ↓reduceIte, env_z, env_s, List.toList_toArray, s15] at z15
          have o15 := z15
          clear z15
          replace hX := hX.ext hw
          replace hY := hY.ext hw
          replace hD := hD.kp hw
          replace hx := hx.trans hw
          refine hK1 _ _ ?_; clear hK1
          refine W_cond h151 (fun hc => by cases hc) (fun hc => W_skip (hK _ _ ?_))
          clear hK
          refine W_regK fun K9 hK9 => ?_
          simp -implicitDefEqProofs (disch := omega) only [go_sem, Nat.reduceEqDiff, Nat.reduceAdd, ↓reduceIte, o15, i64_in]
          refine hK9 _ _ ?_; clear hK9 K9
          exact ⟨⟨i + 1, rfl, by omega, hx, hX, hY⟩, by simp only [upd_ap, ↓reduceIte, RowKit.intOf, s15]; omega⟩
      · have hlt3' : ¬ (i : Int) < n := by omega
        refine W_seq_k fun K1 hK1 => ?_
        refine W_seq_reg fun K hK => ?_
        simp -implicitDefEqProofs (disch := omega) only [go_sem, Nat.reduceEqDiff, Nat.reduceAdd, ↓reduceIte, s15, s1, hlt3']
        refine hK _ _ ?_; clear hK K
        refine W_cond rfl (fun hc1 => by cases hc1) (fun hc1 => W_exit (hK0 _ _ ?_))
        refine W_seq_reg fun K hK => ?_
        simp -implicitDefEqProofs (disch := omega) only [go_sem, Nat.reduceEqDiff, Nat.reduceAdd, ↓reduceIte]
        refine callW_of cal14 (awake_ok (hT.ext hx)) ?_
        rintro _ w152 ⟨rfl, hx152⟩; refine ⟨_, rfl, ?_⟩
        refine hK _ _ ?_; clear hK
        refine W_ret ?_
        try simp only [thenE_r, inB_r]
        refine ret1 rfl ⟨by simp only [upd_ap, Nat.reduceEqDiff, ↓reduceIte], hx.trans hx152⟩
end Go.Proofs.YtjamnehcmaloeaaGreatDoor
end
section
namespace Go.Proofs.YtjamnehcmaloeaaGreatDoor
open Go Go.E Go.Sp Go.ChangeShapes Go.WideShapes Go.ChangeAt Go.WideMaps Go.WideElems Go.RowKit
section
variable {H : Type} {enc : TypeId × Value → H}
theorem below_trodAll {P : Program} (hl : laidOutB P = true) {W W' : World} (hb : Below W.heap.size W W') :
    ∀ {ts : List TypeId} {vs : List Value} {ds : List (DataW H)} {ps : List MemPlace}, (ts.all fun t => P.readableRec t && decide (t < P.types.size)) = true → DataW.TrodAll enc P W 0 (fun _ => true) true ts vs ds ps → (∀ x ∈ ps, x.block < W.heap.size) → DataW.TrodAll enc P W' 0 (fun b => decide (b < W.heap.size)) true ts vs ds ps
  | [], [], [], _, _, h, _ => h
  | [], _ :: _, _, _, _, h, _ => h.elim
  | [], [], _ :: _, _, _, h, _ => h.elim
  | _ :: _, [], _, _, _, h, _ => h.elim
  | _ :: _, _ :: _, [], _, _, h, _ => h.elim
  | t :: ts, v :: vs, d :: ds, ps, hr, ⟨p, q, h1, h2, e⟩, hlt => by
    subst e
    rw [List.all_cons, Bool.and_eq_true, Bool.and_eq_true, decide_eq_true_eq] at hr
    exact ⟨p, q, Below.trod hl hr.1.1 hr.1.2 h1 hb fun x hx => hlt x (List.mem_append_left _ hx), below_trodAll hl hb hr.2 h2 fun x hx => hlt x (List.mem_append_right _ hx), rfl⟩
theorem laidOut : laidOutB Tryz.prog = true := by kernel_rfl
theorem law_post {fn : Func} {s : ChangeSpec} {W W' : World} {args : Array Value} {ds : List (DataW H)} {before : List MemPlace} (hv : s.vars = []) (hW : DataW.Whole enc Tryz.prog fn.params.toList s.vars false W args.toList ds [] before)
    (hp : (fn.params.toList.all fun t => Tryz.prog.readableRec t && decide (t < Tryz.prog.types.size)) = true) (hr : fn.resultTypes = #[4]) (hs : s.fn H (ds ++ []) = { results := [.lit (.bool true)], args := ds }) (hx : Ext W W') : s.post enc Tryz.prog fn false true false false W args (.bool true) W' := by
  have hlt : ∀ p ∈ before, p.block < W.heap.size := fun p hp => by simpa using hW.lt p hp
  have hW2 := hW
  obtain ⟨p, q, hA, hV, rfl, hz, hn⟩ := hW2
  rw [hv] at hV
  obtain ⟨_, rfl⟩ := trodVars_none hV
  have hb := Kp.below hx
  refine ⟨ds, [], p ++ [], [], p, [], hW, ?_, ?_, ?_, Below.frame hb _, fun h => by cases h⟩
  · rw [hr, hs]
    exact trodAll_mk1 (shut_bool und4 _)
  · rw [hs]
    exact below_trodAll laidOut hb hp hA fun x hx => hlt x (List.mem_append_left _ hx)
  · rw [hs, hv]; rfl
end
theorem gTab : Tryz.prog.globalNamed "math/bits.deBruijn32tab" = some 0 := by kernel_rfl
theorem tTab : (Tryz.prog.globals[0]?).map (·.type) = some 245 := by kernel_rfl
theorem undTab : Tryz.prog.underlying 245 = some (.array 32 5) := by kernel_rfl
theorem cell5 : Tryz.prog.cellsOf 5 = 1 := by kernel_rfl
theorem laidTab : (Rows.laid_math_bits_deBruijn32tab : DataW Unit) = .agg (tab32.map fun n : Nat => .lit (.int .u8 (n : Int))) := rfl
theorem tabs_of {W : World} (h : laidMetH Tryz.prog [("math/bits.deBruijn32tab", Rows.laid_math_bits_deBruijn32tab)] W) : Tabs W := by
  rw [MakeChecks.laidMetH_plain _ _ _ (by kernel_rfl)] at h
  obtain ⟨ps, ⟨g0, t0, cs0, f0, p0, q0, hg0, ht0, hv0, hd0, _⟩, _⟩ := h
  obtain rfl := Option.some.inj (gTab.symm.trans hg0)
  obtain rfl := Option.some.inj (tTab.symm.trans ht0)
  obtain ⟨xs, m, _, hx, hlen, hn, hel⟩ := DataW.trod_array undTab hd0
  rw [laidTab] at hx
  simp only [Prod.mk.injEq, DataW.agg.injEq] at hx
  intro k hk
  have h1 := hel k hk
  rw [cell5, Nat.mul_one] at h1
  have hkx : k < xs.length := by omega
  rw [List.getElem?_eq_getElem hkx] at h1
  obtain ⟨n, e1, e2, _⟩ := DataW.trod_int und5 h1
  have h2 : (tab32.map fun n : Nat => (DataW.lit (.int .u8 (n : Int)) : DataW Unit))[k]? = some (.lit (.int .u8 n)) := by
    rw [hx.1, List.getElem?_map, List.getElem?_eq_getElem hkx, e2]; rfl
  rw [List.getElem?_map] at h2
  obtain ⟨y, hy, hyn⟩ := Option.map_eq_some_iff.1 h2
  have hyn' : (y : Int) = n := by injection hyn with h; injection h with h
  have h3 := World.var?_cell hg0 hv0 k
  have h4 : cs0.toList.drop k ≠ [] := fun h0 => by rw [h0] at e1; cases e1
  have hkc : k < cs0.toList.length := by
    rcases Nat.lt_or_ge k cs0.toList.length with h | h
    · exact h
    · exact absurd (List.drop_of_length_le h) h4
  rw [List.drop_eq_getElem_cons hkc, List.take_succ_cons, List.take_zero] at e1
  injection e1 with e1 _
  rw [h3, List.getD_eq_getElem?_getD, hy]
  have h5 : cs0[k]? = some cs0.toList[k] := by rw [← Array.getElem?_toList, List.getElem?_eq_getElem hkc]
  rw [h5, e1, ← hyn']; rfl
end Go.Proofs.YtjamnehcmaloeaaGreatDoor
end
section
namespace Go.Proofs.YtjamnehcmaloeaaGreatDoor
open Go Go.E Go.Sp Go.ChangeShapes Go.WideShapes Go.ChangeAt Go.WideMaps Go.WideElems Go.RowKit
set_option maxRecDepth 100000
abbrev laid1 : List (String × DataW Unit) := [("math/bits.deBruijn32tab", Rows.laid_math_bits_deBruijn32tab)]
theorem own : ownKnob Tryz.prog.godebug = none := by kernel_rfl
theorem door_met (os : Os) (args : Array Value) : laidMetH Tryz.prog laid1 ((World.doorLaid Tryz.prog 400 os).forCall (fun _ _ => 0) ⟨#[], args, []⟩).memory :=
  laidMetH_of_parts3 (fuel := 8) (laidMet_of_run' 8 (by kernel_rfl) (by kernel_rfl)) (by kernel_rfl) (by kernel_rfl)
theorem undW : Tryz.prog.underlying 22 = some (.slice 39) := by kernel_rfl
theorem cellU : Tryz.prog.cellsOf 39 = 1 := by kernel_rfl
theorem in_words {H : Type} {enc : TypeId × Value → H} {W : World} {v : Value} {d : DataW H} {p : List MemPlace} {b0 : Nat} (hv : Value.okWide Tryz.prog W .any b0 22 v) (h : DataW.Trod enc Tryz.prog W 0 (fun _ => true) true 22 v d p) :
    ∃ A n c raw, v = .slice A n c ∧ n ≤ 9223372036854775807 ∧ In (fSc u64v raw) (fun _ => True) (.slice A n c) W := by
  obtain ⟨A, n, c, rfl⟩ := okWide_slice undW hv
  obtain ⟨fuel, hf⟩ := h
  rcases open_ints undW und39 cellU hf with ⟨h1, _⟩ | ⟨a, len, cap, zs, h1, _, hl, hm, hz, _, hc, hw⟩
  · injection h1 with h1 _
    injection h1 with h1 h2 h3
    subst h1; subst h2; subst h3
    exact ⟨_, _, _, [], rfl, by omega, In.sc_nil⟩
  · injection h1 with h1 _
    injection h1 with h1 h2 h3
    subst h1; subst h2; subst h3
    have hz' : zs.length = c := by simpa using hz
    refine ⟨_, _, _, (zs.take n).map Int.toNat, rfl, by unfold maxLen at hm; omega, some a, n, c, rfl, hl, by simp; omega, fun _ => ⟨a, rfl, trivial, fun j u hu => ?_⟩⟩
    rw [List.getElem?_map, List.getElem?_map, List.getElem?_take] at hu
    split at hu
    · rename_i hj
      have hjz : j < zs.length := by omega
      rw [List.getElem?_eq_getElem hjz] at hu
      have h0 := hc j hjz
      rw [List.getD_eq_getElem?_getD, List.getElem?_eq_getElem hjz] at h0
      have h1 := hw zs[j] (List.getElem_mem _)
      simp only [Lit.wf, Bool.and_eq_true, decide_eq_true_eq] at h1
      have h2 : (0 : Int) ≤ zs[j] := h1.1
      rw [h0, ← Option.some.inj hu]
      show some (Value.int .u64 zs[j]) = some (Value.int .u64 ((zs[j].toNat : Nat) : Int))
      rw [Int.toNat_of_nonneg h2]
    · cases hu
theorem exact_lifted (os : Os) (started : os.Started) (H : Type) (enc : TypeId × Value → H) :
    ReturnsInHanded {} Tryz.checked os 4 .any (fun w args => (Rows.solveExactSpec.pre enc Tryz.prog Tryz.f4 [] false w args ∧ laidMetH Tryz.prog laid1 w) ∧ sizedMet enc Tryz.prog Tryz.f4 (OpenSpec.ofChange Rows.solveExactSpec) false w args)
      (Rows.solveExactSpec.post enc Tryz.prog Tryz.f4 false true false false) := by
  refine returnsInHanded_of_change_and (C := Tryz.checked) (X := fun w _ => laidMetH Tryz.prog laid1 w) (fun _ _ _ hh h => h.of_heap hh) own started (by kernel_rfl) Tryz.func4
    (ChangeSpec.witness_shaped (enc := enc) (C := Tryz.checked) (os := os) (X := fun w _ => laidMetH Tryz.prog laid1 w) false (World.doorLaid Tryz.prog 400 os) #[.slice none 0 0, .int .i64 0] 8 rfl (World.shaped_of_RefB (by kernel_rfl) (by kernel_rfl)) (by kernel_rfl) (by kernel_rfl) (by kernel_rfl) (door_met os _)) ?_
  intro W base args ds gs before hval0 hW _ _ hL _
  have hval : ∀ (j : Nat) t v, Tryz.f4.params[j]? = some t → args[j]? = some v → Value.okWide Tryz.prog W .any base t v := hval0
  have hW' : DataW.Whole enc Tryz.prog Tryz.f4.params.toList Rows.solveExactSpec.vars false W args.toList ds gs before := hW
  obtain ⟨p, q, hA0, hV, rfl, _, _⟩ := hW
  have hA : DataW.TrodAll enc Tryz.prog W 0 (fun _ => true) true [22, 3] args.toList ds p := hA0
  obtain ⟨v0, v1, d0, d1, p0, p1, rfl, rfl, rfl, h0, h1⟩ := trodAll_two hA
  obtain ⟨rfl, rfl⟩ := trodVars_none hV
  obtain ⟨A, n, c, raw, rfl, hn, hin⟩ := in_words (hval 0 22 _ rfl rfl) h0
  obtain ⟨N, rfl, _, _, hN⟩ := open_int und3 (hval 1 3 _ rfl rfl) h1
  simp only [Lit.wf, Bool.and_eq_true, decide_eq_true_eq] at hN
  refine (exact_ok (tabs_of hL) hin hn hN.1 hN.2 (Fr.triv _)).mono fun e W' ⟨he, hx⟩ => ?_
  subst he
  exact ⟨_, rfl, law_post rfl hW' (by kernel_rfl) rfl rfl hx⟩
theorem solveExact_holds : Rows.SolveExactSaid :=
  OpenClaim.holds_of_wide 4 Tryz.f4 rfl rfl rfl rfl rfl rfl rfl ⟨rfl, rfl, rfl, rfl, rfl⟩ rfl rfl rfl rfl rfl (by kernel_rfl) Tryz.func4 (by kernel_rfl)
    (of_decide_eq_true (by kernel_rfl)) (by unfold Func.isWrapper; first | (rw [if_pos (by decide +kernel)]; kernel_rfl) | (rw [if_neg (by decide +kernel)]; exact ⟨rfl, rfl⟩))
    (fun os started H enc _ => exact_lifted os started H enc)
end Go.Proofs.YtjamnehcmaloeaaGreatDoor
end
section
namespace Go.Proofs.YtjamnehcmaloeaaGreatDoor
open Go
set_option maxRecDepth 100000
theorem exact_card : Rows.SolveExactCardSaid :=
  Claim7.holds_tied_plain_at .later [] [.data] true (true, "464a4fd313f0180230b5c370bf121eef3086acb9d2b3de5492cb098bc9e9bc3a") false
    solveExact_holds (fun _ h => by cases h) (by kernel_rfl) (fun _ h => by cases h) solveExact_row_tie rfl ⟨rfl, rfl⟩ (by kernel_rfl) rfl
    (fun f fn hf hfn => by
      obtain rfl : f = 4 := Option.some.inj ((show Tryz.prog.funcNamed "sparse/sparselaw28.SolveExact" = some 4 by kernel_rfl).symm.trans hf) |>.symm
      obtain rfl : fn = Tryz.f4 := (Option.some.inj (Tryz.func4.symm.trans hfn)).symm
      exact ⟨by kernel_rfl, fun j t ht => by
        have hm : t ∈ [22, 3] := by simpa using Array.mem_of_getElem? ht
        have hall : ([22, 3].all fun u => !Tryz.prog.wantsStandIn u) = true := by kernel_rfl
        exact (show Tryz.prog.wantsStandIn t = false by simpa using List.all_eq_true.1 hall t hm)⟩)
    (by kernel_rfl)
#print axioms exact_card
end Go.Proofs.YtjamnehcmaloeaaGreatDoor
end
