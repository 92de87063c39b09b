/- SolveExact answers true for every input: proved in full, under the card as given (the laid table of math/bits is tied to the text). Part 2 of 6 of the proof: B3, B4, Put, B5, B8, B9, B6, B7, Dy, Fl, Fam, Iso, DrawT, DrawC, C1, C2, C3, C4, C5. -/
import Derived.Laws.Strings
import Derived.Test.YtjamnehcmaloeaaGreatDoorAx1
set_option linter.unusedSimpArgs false
set_option linter.unusedVariables false
section
namespace Go.Proofs.YtjamnehcmaloeaaGreatDoor
open Go Go.E Go.Sp
theorem subMag_ok {D : Nat → Prop} {A A' : Option Addr} {n n' c c' : Nat} {l l' : List Nat} {w : World} (h : U32 w D A n c l) (h' : U32 w D A' n' c' l') (hb : n ≤ 1000000000) (hn : n' ≤ n) (hle : val l' ≤ val l) :
    Calls Tryz.prog 134 #[.slice A n c, .slice A' n' c'] w fun e w' => ∃ A2 c2 l2, e = .returned (.slice A2 n c2) ∧ Ext w w' ∧ OwnU w' w.heap.size A2 n c2 l2 ∧ val l2 = val l - val l' := by
  refine calls_W Tryz.func134 rfl Tryz.ntmps134 (by kernel_rfl) ?_
  refine W_seq_reg fun K hK => ?_
  simp -implicitDefEqProofs (disch := omega) only [go_sem, Nat.reduceEqDiff, Nat.reduceAdd, ↓reduceIte]
  refine hK _ _ ?_; clear hK K
  refine W_seq_reg fun K hK => ?_
  simp -implicitDefEqProofs (disch := omega) only [go_sem, Nat.reduceEqDiff, Nat.reduceAdd, ↓reduceIte]
  refine hK _ _ ?_; clear hK K
  refine W_seq_reg fun K hK => ?_
  simp -implicitDefEqProofs (disch := omega) only [go_sem, Nat.reduceEqDiff, Nat.reduceAdd, ↓reduceIte]
  refine hK _ _ ?_; clear hK K
  have hl := h.len
  have hl' := h'.len
  refine W_seq_k fun K0 hK0 => ?_
  refine W_seq_reg fun K hK => ?_
  simp -implicitDefEqProofs (disch := omega) only [go_sem, Nat.reduceEqDiff, Nat.reduceAdd, ↓reduceIte]
  refine hK _ _ ?_; clear hK K
  refine W_block ?_
  refine W_loop (fun e2 w2 => ∃ (k br : Nat) (A2 : Option Addr) (c2 : Nat) (o : List Nat), e2 7 = .int .i64 k ∧ e2 6 = .int .u64 br ∧ e2 5 = .slice A2 k c2 ∧ k ≤ n ∧ br ≤ 1 ∧ Ext w w2 ∧ OwnU w2 w.heap.size A2 k c2 o ∧ val o + val (l'.take k) = val (l.take k) + B ^ k * br) (fun e2 _ => n - (RowKit.intOf (e2 7)).toNat) ⟨0, 0, none, 0, [], rfl, rfl, rfl, Nat.zero_le _, Nat.zero_le _, Kp.refl _ _, ⟨Own.nil _ _ _ _, AllB.nil⟩, by simp [val]⟩ ?_
  rintro e1 w1 ⟨k, br, A2, c2, o, h7, h6, h5, hkm, hbr, hx, hO, hv⟩ hk
  have h0 : e1 0 = .slice A n c := (hk 0 (by kernel_rfl)).trans rfl
  have h1 : e1 1 = .slice A' n' c' := (hk 1 (by kernel_rfl)).trans rfl
  clear hk
  refine W_seq_k fun K1 hK1 => ?_
  have hd1 := h.dg_lt k
  have hd2 := h'.dg_lt k
  by_cases hlt : k < n
  · have hlt' : (k : Int) < n := by omega
    refine W_seq_reg fun K hK => ?_
    simp -implicitDefEqProofs (disch := omega) only [go_sem, Nat.reduceEqDiff, Nat.reduceAdd, ↓reduceIte, h7, h0, hlt']
    refine hK _ _ ?_; clear hK K
    refine W_cond rfl (fun hc1 => W_skip (hK1 _ _ ?_)) (fun hc1 => by cases hc1)
    clear hK1
    refine W_seq_blk fun K hK => ?_
    have e2 : (0 : Int) ≤ k ∧ (k : Int) < n := by omega
    obtain ⟨ad, rfl, hcc⟩ := (h.ext hx).cell hlt
    refine W_seq_reg fun K hK => ?_
    simp -implicitDefEqProofs (disch := omega) only [go_sem, Nat.reduceEqDiff, Nat.reduceAdd, ↓reduceIte, h6, h7, h0, e2, hcc, sub64N]
    refine hK _ _ ?_; clear hK K
    refine W_seq_k fun K1 hK1 => ?_
    have st2 : ∀ (e2 : Env) (t : Nat), e2 7 = .int .i64 k → e2 8 = .int .u64 (t : Nat) → e2 5 = .slice A2 k c2 → t = ((dg l k + (18446744073709551616 - br)) % 18446744073709551616 + (18446744073709551616 - dg l' k)) % 18446744073709551616 → K1 e2 w1 := by
      intro e2 t g7 g8 g5 ht
      refine hK1 _ _ ?_; clear hK1
      refine W_seq_reg fun K9 hK9 => ?_
      simp -implicitDefEqProofs (disch := omega) only [go_sem, Nat.reduceEqDiff, Nat.reduceAdd, ↓reduceIte, g8, g5]
      refine pushU hO (Nat.mod_lt _ (by omega)) (by omega) hx.size ?_
      intro v1 A3 c3 w3 hO3 hk3 hat
      refine hK9 _ _ ?_; clear hK9
      refine W_regK fun K9 hK9 => ?_
      simp -implicitDefEqProofs (disch := omega) only [go_sem, Nat.reduceEqDiff, Nat.reduceAdd, ↓reduceIte, g8]
      refine hK9 _ _ ?_; clear hK9 K9
      refine hK _ _ ?_; clear hK
      refine W_regK fun K9 hK9 => ?_
      simp -implicitDefEqProofs (disch := omega) only [go_sem, Nat.reduceEqDiff, Nat.reduceAdd, ↓reduceIte, g7, i64_in]
      refine hK9 _ _ ?_; clear hK9 K9
      have key := sub_step (by have := hO.1.len; simpa using this) hv hbr hd1 hd2 ht
      refine ⟨⟨k + 1, _, A3, c3, _, rfl, rfl, rfl, by omega, key.2, hO.1.under hx hk3, hO3, ?_⟩, ?_⟩
      · rw [vts, vts]; exact key.1
      · simp only [upd_ap, ↓reduceIte, RowKit.intOf, h7]; omega
    by_cases hb2 : k < n'
    · have hb2' : (k : Int) < n' := by omega
      obtain ⟨ad', rfl, hcc'⟩ := (h'.ext hx).cell hb2
      refine W_seq_reg fun K hK => ?_
      simp -implicitDefEqProofs (disch := omega) only [go_sem, Nat.reduceEqDiff, Nat.reduceAdd, ↓reduceIte, h7, h1, hb2']
      refine hK _ _ ?_; clear hK K
      refine W_cond rfl (fun hc => ?_) (fun hc => by cases hc)
      have e2' : (0 : Int) ≤ k ∧ (k : Int) < n' := by omega
      refine W_regK fun K9 hK9 => ?_
      simp -implicitDefEqProofs (disch := omega) only [go_sem, Nat.reduceEqDiff, Nat.reduceAdd, ↓reduceIte, h7, h1, e2', hcc', sub64N]
      refine hK9 _ _ ?_; clear hK9 K9
      exact st2 _ _ (by (try simp only [upd_ap, Nat.reduceEqDiff, ↓reduceIte]); first | done | assumption | exact rfl) (by (try simp only [upd_ap, Nat.reduceEqDiff, ↓reduceIte]); first | done | assumption | exact rfl) (by (try simp only [upd_ap, Nat.reduceEqDiff, ↓reduceIte]); first | done | assumption | exact rfl) rfl
    · have hb2' : ¬ (k : Int) < n' := by omega
      refine W_seq_reg fun K hK => ?_
      simp -implicitDefEqProofs (disch := omega) only [go_sem, Nat.reduceEqDiff, Nat.reduceAdd, ↓reduceIte, h7, h1, hb2']
      refine hK _ _ ?_; clear hK K
      refine W_cond rfl (fun hc1 => by cases hc1) (fun hc1 => W_skip ?_)
      have hz : dg l' k = 0 := dg_ge (by omega)
      exact st2 _ _ (by (try simp only [upd_ap, Nat.reduceEqDiff, ↓reduceIte]); first | done | assumption | exact rfl) (by (try simp only [upd_ap, Nat.reduceEqDiff, ↓reduceIte]); first | done | assumption | exact rfl) (by (try simp only [upd_ap, Nat.reduceEqDiff, ↓reduceIte]); first | done | assumption | exact rfl) (by rw [hz]; omega)
  · have hlt' : ¬ (k : Int) < n := by omega
    refine W_seq_reg fun K hK => ?_
    simp -implicitDefEqProofs (disch := omega) only [go_sem, Nat.reduceEqDiff, Nat.reduceAdd, ↓reduceIte, h7, h0, hlt']
    refine hK _ _ ?_; clear hK K
    refine W_cond rfl (fun hc1 => by cases hc1) (fun hc1 => W_exit ?_)
    obtain rfl : k = n := by omega
    refine hK0 _ _ ?_; clear hK0 hK1
    refine W_seq_reg fun K hK => ?_
    simp -implicitDefEqProofs (disch := omega) only [go_sem, Nat.reduceEqDiff, Nat.reduceAdd, ↓reduceIte, h5]
    refine hK _ _ ?_; clear hK K
    rw [val_take_ge l _ (by omega), val_take_ge l' _ (by omega)] at hv
    have hol : o.length = k := by have := hO.1.len; simpa using this
    have hlt2 := val_lt hO.2
    rw [hol] at hlt2
    have : br = 0 := by
      rcases Nat.eq_zero_or_pos br with h0 | h0
      · exact h0
      · have : br = 1 := by omega
        rw [this] at hv; omega
    rw [this] at hv
    refine W_ret ?_
    try simp only [thenE_r, inB_r]
    refine ret1 rfl ⟨A2, c2, o, rfl, hx, hO, by omega⟩
theorem cmpMag_ok {D : Nat → Prop} {A A' : Option Addr} {n n' c c' : Nat} {x y : Nat} {w : World} (h : U32 w D A n c (lim x)) (h' : U32 w D A' n' c' (lim y)) (hb : n ≤ 1000000000) (hb' : n' ≤ 1000000000) :
    Calls Tryz.prog 133 #[.slice A n c, .slice A' n' c'] w fun e w' => e = .returned (.int .i64 (cmpI x y)) ∧ Ext w w' := by
  refine calls_W Tryz.func133 rfl Tryz.ntmps133 (by kernel_rfl) ?_
  refine W_seq_reg fun K hK => ?_
  simp -implicitDefEqProofs (disch := omega) only [go_sem, Nat.reduceEqDiff, Nat.reduceAdd, ↓reduceIte]
  refine hK _ _ ?_; clear hK K
  have hl := h.len
  have hl' := h'.len
  refine W_seq_k fun K0 hK0 => ?_
  refine W_seq_reg fun K hK => ?_
  simp -implicitDefEqProofs (disch := omega) only [go_sem, Nat.reduceEqDiff, Nat.reduceAdd, ↓reduceIte]
  refine hK _ _ ?_; clear hK K
  by_cases hne : n = n'
  · subst hne
    have e1 : ((n : Int) != n) = false := by simp
    refine W_cond rfl (fun hc => by rw [e1] at hc; cases hc) (fun hc => W_skip (hK0 _ _ ?_))
    clear hK0
    refine W_seq_k fun K0 hK0 => ?_
    refine W_seq_reg fun K hK => ?_
    simp -implicitDefEqProofs (disch := omega) only [go_sem, Nat.reduceEqDiff, Nat.reduceAdd, ↓reduceIte, i64_in]
    refine hK _ _ ?_; clear hK K
    refine W_block ?_
    refine W_loop (fun e2 w2 => ∃ k : Nat, e2 5 = .int .i64 ((k : Int) - 1) ∧ k ≤ n ∧ Ext w w2 ∧ (lim x).drop k = (lim y).drop k) (fun e2 _ => (RowKit.intOf (e2 5) + 1).toNat) ⟨n, rfl, Nat.le_refl _, Kp.refl _ _, by rw [List.drop_of_length_le (by omega), List.drop_of_length_le (by omega)]⟩ ?_
    rintro e1 w1 ⟨k, h5, hk, hx, hdr⟩ hkk
    have h0 : e1 0 = .slice A n c := (hkk 0 (by kernel_rfl)).trans rfl
    have h1 : e1 1 = .slice A' n c' := (hkk 1 (by kernel_rfl)).trans rfl
    clear hkk
    refine W_seq_k fun K1 hK1 => ?_
    by_cases hpos : 0 < k
    · have hp' : ((k : Int) - 1 ≥ 0) := by omega
      refine W_seq_reg fun K hK => ?_
      simp -implicitDefEqProofs (disch := omega) only [go_sem, Nat.reduceEqDiff, Nat.reduceAdd, ↓reduceIte, h5, hp']
      refine hK _ _ ?_; clear hK K
      refine W_cond rfl (fun hc1 => W_skip (hK1 _ _ ?_)) (fun hc1 => by cases hc1)
      clear hK1
      refine W_seq_blk fun K hK => ?_
      obtain ⟨ad, rfl, hc⟩ := (h.ext hx).cell (j := k - 1) (by omega)
      obtain ⟨ad', rfl, hc'⟩ := (h'.ext hx).cell (j := k - 1) (by omega)
      have e1' : ((k : Int) - 1).toNat = k - 1 := by omega
      have e2' : (0 : Int) ≤ k - 1 ∧ (k : Int) - 1 < n := by omega
      refine W_seq_k fun K1 hK1 => ?_
      refine W_dQ mixed [true, true, true, true, true, true, true, true, true] (by kernel_rfl) fun KE hKE => ?_
      simp -implicitDefEqProofs (maxSteps := 600000) (disch := omega) only [go_sem, Nat.reduceEqDiff, Nat.reduceAdd, ↓reduceIte, h0, h1, h5, e1', e2', hc, hc']
      refine hKE _ fun w2 hx2 => ?_; clear hKE KE
      refine hK1 _ _ ?_; clear hK1
      by_cases hd : dg (lim x) (k - 1) = dg (lim y) (k - 1)
      · have hd' : (((dg (lim x) (k - 1) : Nat) : Int) != ((dg (lim y) (k - 1) : Nat) : Int)) = false := by simp [hd]
        refine W_cond rfl (fun hc => by rw [hd'] at hc; cases hc) (fun hc => W_skip (hK _ _ ?_))
        clear hK
        refine W_regK fun K9 hK9 => ?_
        simp -implicitDefEqProofs (disch := omega) only [go_sem, Nat.reduceEqDiff, Nat.reduceAdd, ↓reduceIte, h5, i64_in]
        refine hK9 _ _ ?_; clear hK9 K9
        refine ⟨⟨k - 1, by simp only [upd_ap, ↓reduceIte]; congr 1; omega, by omega, hx.trans hx2, ?_⟩, ?_⟩
        · rw [List.drop_eq_getElem_cons (l := lim x) (i := k - 1) (by omega), List.drop_eq_getElem_cons (l := lim y) (i := k - 1) (by omega), show k - 1 + 1 = k by omega, hdr]
          have := hd
          unfold dg at this
          rw [getD_get (by omega), getD_get (by omega)] at this
          rw [this]
        · simp only [upd_ap, ↓reduceIte, RowKit.intOf, h5]; omega
      · have hd' : (((dg (lim x) (k - 1) : Nat) : Int) != ((dg (lim y) (k - 1) : Nat) : Int)) = true := by rw [bne_iff_ne]; exact fun e => hd (Int.ofNat.inj e)
        refine W_cond rfl (fun hc => ?_) (fun hc => by rw [hd'] at hc; cases hc)
        clear hK
        replace hc := (h.ext hx).ext hx2
        replace hc' := (h'.ext hx).ext hx2
        obtain ⟨_, hq, hc⟩ := hc.cell (j := k - 1) (by omega)
        obtain ⟨_, hq', hc'⟩ := hc'.cell (j := k - 1) (by omega)
        cases hq; cases hq'
        refine W_seq_k fun K1 hK1 => ?_
        refine W_seq_k fun K2 hK2 => ?_
        refine W_dQ mixed [true, true, true, true, true, true, true, true, true] (by kernel_rfl) fun KE hKE => ?_
        simp -implicitDefEqProofs (maxSteps := 600000) (disch := omega) only [go_sem, Nat.reduceEqDiff, Nat.reduceAdd, ↓reduceIte, h0, h1, h5, e1', e2', hc, hc']
        refine hKE _ fun w3 hx3 => ?_; clear hKE KE
        refine hK2 _ _ ?_; clear hK2
        have tops : ∀ {a b : Nat}, (lim a).length = n → (lim b).length = n → (lim a).drop k = (lim b).drop k → dg (lim a) (k - 1) < dg (lim b) (k - 1) → a < b := by
          intro a b ha hb' hab hlt
          have := val_lt_of_top (i := k - 1) (lim_all a) (ha.trans hb'.symm) (by omega) (by rw [show k - 1 + 1 = k by omega]; exact hab) hlt
          simpa [val_lim] using this
        by_cases hlt : dg (lim x) (k - 1) < dg (lim y) (k - 1)
        · have hlt' : decide (((dg (lim x) (k - 1) : Nat) : Int) < ((dg (lim y) (k - 1) : Nat) : Int)) = true := by simp [hlt]
          refine W_cond rfl (fun hc => ?_) (fun hc => by rw [hlt'] at hc; cases hc)
          refine W_seq_reg fun K hK => ?_
          simp -implicitDefEqProofs (disch := omega) only [go_sem, Nat.reduceEqDiff, Nat.reduceAdd, ↓reduceIte]
          refine hK _ _ ?_; clear hK K
          have := tops hl hl' hdr hlt
          refine W_ret ?_
          try simp only [thenE_r, inB_r]
          refine ret1 rfl ⟨by simp [cmpI, this, upd], (hx.trans hx2).trans hx3⟩
        · have hlt' : decide (((dg (lim x) (k - 1) : Nat) : Int) < ((dg (lim y) (k - 1) : Nat) : Int)) = false := by simpa using hlt
          refine W_cond rfl (fun hc => by rw [hlt'] at hc; cases hc) (fun hc => W_skip (hK1 _ _ ?_))
          refine W_seq_reg fun K hK => ?_
          simp -implicitDefEqProofs (disch := omega) only [go_sem, Nat.reduceEqDiff, Nat.reduceAdd, ↓reduceIte]
          refine hK _ _ ?_; clear hK K
          have := tops hl' hl hdr.symm (by omega)
          refine W_ret ?_
          try simp only [thenE_r, inB_r]
          refine ret1 rfl ⟨by simp [cmpI, upd, show ¬ x < y by omega, show ¬ x = y by omega], (hx.trans hx2).trans hx3⟩
    · obtain rfl : k = 0 := by omega
      have hp' : ¬ (((0 : Nat) : Int) - 1 ≥ 0) := by omega
      refine W_seq_reg fun K hK => ?_
      simp -implicitDefEqProofs (disch := omega) only [go_sem, Nat.reduceEqDiff, Nat.reduceAdd, ↓reduceIte, h5, hp']
      refine hK _ _ ?_; clear hK K
      refine W_cond rfl (fun hc1 => by cases hc1) (fun hc1 => W_exit (hK0 _ _ ?_))
      refine W_seq_reg fun K hK => ?_
      simp -implicitDefEqProofs (disch := omega) only [go_sem, Nat.reduceEqDiff, Nat.reduceAdd, ↓reduceIte]
      refine hK _ _ ?_; clear hK K
      have : x = y := by
        have := congrArg val hdr
        simpa [val_lim] using this
      refine W_ret ?_
      try simp only [thenE_r, inB_r]
      refine ret1 rfl ⟨by simp [cmpI, upd, this], hx⟩
  · have e1 : ((n : Int) != n') = true := by rw [bne_iff_ne]; omega
    refine W_cond rfl (fun hc => ?_) (fun hc => by rw [e1] at hc; cases hc)
    refine W_seq_k fun K1 hK1 => ?_
    by_cases hlt : n < n'
    · have hlt' : (n : Int) < n' := by omega
      refine W_seq_reg fun K hK => ?_
      simp -implicitDefEqProofs (disch := omega) only [go_sem, Nat.reduceEqDiff, Nat.reduceAdd, ↓reduceIte, hlt']
      refine hK _ _ ?_; clear hK K
      refine W_cond rfl (fun hc => ?_) (fun hc => by cases hc)
      refine W_seq_reg fun K hK => ?_
      simp -implicitDefEqProofs (disch := omega) only [go_sem, Nat.reduceEqDiff, Nat.reduceAdd, ↓reduceIte]
      refine hK _ _ ?_; clear hK K
      have := lt_of_len_lt (m := x) (n := y) (by omega)
      refine W_ret ?_
      try simp only [thenE_r, inB_r]
      refine ret1 rfl ⟨by simp [cmpI, upd, this], Kp.refl _ _⟩
    · have hlt' : ¬ (n : Int) < n' := by omega
      refine W_seq_reg fun K hK => ?_
      simp -implicitDefEqProofs (disch := omega) only [go_sem, Nat.reduceEqDiff, Nat.reduceAdd, ↓reduceIte, hlt']
      refine hK _ _ ?_; clear hK K
      refine W_cond rfl (fun hc => by cases hc) (fun hc => W_skip (hK1 _ _ ?_))
      refine W_seq_reg fun K hK => ?_
      simp -implicitDefEqProofs (disch := omega) only [go_sem, Nat.reduceEqDiff, Nat.reduceAdd, ↓reduceIte]
      refine hK _ _ ?_; clear hK K
      have := lt_of_len_lt (m := y) (n := x) (by omega)
      refine W_ret ?_
      try simp only [thenE_r, inB_r]
      refine ret1 rfl ⟨by simp [cmpI, upd, show ¬ x < y by omega, show ¬ x = y by omega], Kp.refl _ _⟩
end Go.Proofs.YtjamnehcmaloeaaGreatDoor
end
section
namespace Go.Proofs.YtjamnehcmaloeaaGreatDoor
open Go Go.E Go.Sp
theorem shl_ok {D : Nat → Prop} {A : Option Addr} {n c m : Nat} {l : List Nat} {w : World} (h : U32 w D A n c l) (hb : n ≤ 1000000000) (hm : m ≤ 1000000000) :
    Calls Tryz.prog 135 #[.slice A n c, .int .i64 m] w fun e w' => ∃ A2 n2 c2 l2, e = .returned (.slice A2 n2 c2) ∧ Ext w w' ∧ OwnU w' w.heap.size A2 n2 c2 l2 ∧ val l2 = 2 ^ m * val l ∧ n2 = m / 32 + n + 1 := by
  refine calls_W Tryz.func135 rfl Tryz.ntmps135 (by kernel_rfl) ?_
  refine W_seq_reg fun K hK => ?_
  simp -implicitDefEqProofs (disch := omega) only [go_sem, Nat.reduceEqDiff, Nat.reduceAdd, ↓reduceIte]
  refine hK _ _ ?_; clear hK K
  refine W_seq_reg fun K hK => ?_
  simp -implicitDefEqProofs (disch := omega) only [go_sem, Nat.reduceEqDiff, Nat.reduceAdd, ↓reduceIte]
  refine mkU (Nat.le_refl _) (by omega) fun w0 hx0 hO0 => ?_
  refine hK _ _ ?_; clear hK
  refine W_seq_reg fun K hK => ?_
  simp -implicitDefEqProofs (disch := omega) only [go_sem, Nat.reduceEqDiff, Nat.reduceAdd, ↓reduceIte]
  refine hK _ _ ?_; clear hK K
  have hl := h.len
  have hk : m % 32 < 32 := Nat.mod_lt _ (by omega)
  have hp : 2 ^ (m % 32) ≤ 2147483648 := Nat.pow_le_pow_right (n := 2) (by omega) (show m % 32 ≤ 31 by omega)
  refine W_seq_k fun K0 hK0 => ?_
  refine W_seq_reg fun K hK => ?_
  simp -implicitDefEqProofs (disch := omega) only [go_sem, Nat.reduceEqDiff, Nat.reduceAdd, ↓reduceIte]
  refine hK _ _ ?_; clear hK K
  refine W_block ?_
  refine W_loop (fun e2 w2 => ∃ (k cr : Nat) (A2 : Option Addr) (c2 : Nat) (o : List Nat), e2 7 = .int .i64 k ∧ e2 6 = .int .u64 cr ∧ e2 5 = .slice A2 (m / 32 + k) c2 ∧ k ≤ n ∧ cr < 2 ^ (m % 32) ∧ Ext w w2 ∧ OwnU w2 w.heap.size A2 (m / 32 + k) c2 (List.replicate (m / 32) 0 ++ o) ∧ val o + B ^ k * cr = 2 ^ (m % 32) * val (l.take k)) (fun e2 _ => n - (RowKit.intOf (e2 7)).toNat) ⟨0, 0, _, _, [], rfl, rfl, rfl, Nat.zero_le _, Nat.pow_pos (by omega), hx0, by simpa using hO0, by simp [val]⟩ ?_
  rintro e1 w1 ⟨k, cr, A2, c2, o, h7, h6, h5, hkm, hcr, hx, hO, hv⟩ hkk
  have h0 : e1 0 = .slice A n c := (hkk 0 (by kernel_rfl)).trans rfl
  have h1 : e1 1 = .int .i64 m := (hkk 1 (by kernel_rfl)).trans rfl
  clear hkk
  have hol : o.length = k := by have := hO.1.len; simp at this; omega
  refine W_seq_k fun K1 hK1 => ?_
  have hd1 := h.dg_lt k
  by_cases hlt : k < n
  · have hlt' : (k : Int) < n := by omega
    refine W_seq_reg fun K hK => ?_
    simp -implicitDefEqProofs (disch := omega) only [go_sem, Nat.reduceEqDiff, Nat.reduceAdd, ↓reduceIte, h7, h0, hlt']
    refine hK _ _ ?_; clear hK K
    refine W_cond rfl (fun hc1 => W_skip (hK1 _ _ ?_)) (fun hc1 => by cases hc1)
    clear hK1
    refine W_seq_blk fun K hK => ?_
    have e2 : (0 : Int) ≤ k ∧ (k : Int) < n := by omega
    obtain ⟨ad, rfl, hcc⟩ := (h.ext hx).cell hlt
    have hpr : dg l k * 2 ^ (m % 32) ≤ 4294967295 * 2147483648 := Nat.mul_le_mul (by omega) hp
    have e3 : dg l k * 2 ^ (m % 32) % 18446744073709551616 = dg l k * 2 ^ (m % 32) := Nat.mod_eq_of_lt (by omega)
    have e4 : cr ||| dg l k * 2 ^ (m % 32) = cr + dg l k * 2 ^ (m % 32) := or_add hcr
    refine W_seq_reg fun K hK => ?_
    simp -implicitDefEqProofs (disch := omega) only [go_sem, Nat.reduceEqDiff, Nat.reduceAdd, ↓reduceIte, h6, h7, h0, h1, e2, hcc, e3, e4]
    refine hK _ _ ?_; clear hK K
    refine W_seq_reg fun K9 hK9 => ?_
    simp -implicitDefEqProofs (disch := omega) only [go_sem, Nat.reduceEqDiff, Nat.reduceAdd, ↓reduceIte, h5]
    refine pushU hO (Nat.mod_lt _ (by omega)) (by omega) hx.size ?_
    intro v1 A3 c3 w3 hO3 hk3 hat
    refine hK9 _ _ ?_; clear hK9
    refine W_regK fun K9 hK9 => ?_
    simp -implicitDefEqProofs (disch := omega) only [go_sem, Nat.reduceEqDiff, Nat.reduceAdd, ↓reduceIte]
    refine hK9 _ _ ?_; clear hK9 K9
    refine hK _ _ ?_; clear hK
    refine W_regK fun K9 hK9 => ?_
    simp -implicitDefEqProofs (disch := omega) only [go_sem, Nat.reduceEqDiff, Nat.reduceAdd, ↓reduceIte, h7, i64_in]
    refine hK9 _ _ ?_; clear hK9 K9
    have key := shl_step (x := dg l k) hol hv
    rw [List.append_assoc] at hO3
    refine ⟨⟨k + 1, _, A3, c3, _, rfl, rfl, rfl, by omega, ?_, hO.1.under hx hk3, hO3, ?_⟩, ?_⟩
    · rw [Nat.div_lt_iff_lt_mul (by omega)]
      have : (dg l k + 1) * 2 ^ (m % 32) ≤ 4294967296 * 2 ^ (m % 32) := Nat.mul_le_mul_right _ (by omega)
      rw [Nat.add_mul, Nat.one_mul] at this
      rw [Nat.mul_comm _ 4294967296]
      omega
    · rw [vts]; exact key
    · simp only [upd_ap, ↓reduceIte, RowKit.intOf, h7]; omega
  · have hlt' : ¬ (k : Int) < n := by omega
    refine W_seq_reg fun K hK => ?_
    simp -implicitDefEqProofs (disch := omega) only [go_sem, Nat.reduceEqDiff, Nat.reduceAdd, ↓reduceIte, h7, h0, hlt']
    refine hK _ _ ?_; clear hK K
    refine W_cond rfl (fun hc1 => by cases hc1) (fun hc1 => W_exit ?_)
    obtain rfl : k = n := by omega
    refine hK0 _ _ ?_; clear hK0 hK1
    refine W_seq_reg fun K9 hK9 => ?_
    simp -implicitDefEqProofs (disch := omega) only [go_sem, Nat.reduceEqDiff, Nat.reduceAdd, ↓reduceIte, h5, h6]
    refine pushU hO (Nat.mod_lt _ (by omega)) (by omega) hx.size ?_
    intro v1 A3 c3 w3 hO3 hk3 hat
    refine hK9 _ _ ?_; clear hK9
    refine W_ret (ret1 rfl ⟨A3, _, c3, _, rfl, hO.1.under hx hk3, hO3, ?_, rfl⟩)
    rw [val_take_ge l _ (by omega)] at hv
    rw [List.append_assoc, val_append, val_snoc, val_zeros, hol, Nat.mod_eq_of_lt (by omega), hv, List.length_replicate, Nat.zero_add, B_eq, ← Nat.pow_mul, ← Nat.mul_assoc, ← Nat.pow_add, Nat.div_add_mod]
theorem shr_ok {D : Nat → Prop} {A : Option Addr} {n c m : Nat} {l : List Nat} {w : World} (h : U32 w D A n c l) (hb : n ≤ 1000000000) (hm : m ≤ 1000000000000) :
    Calls Tryz.prog 136 #[.slice A n c, .int .i64 m] w fun e w' => ∃ A2 n2 c2 l2, e = .returned (.tuple #[.slice A2 n2 c2, .bool (decide (val l % 2 ^ m ≠ 0))]) ∧ Ext w w' ∧ OwnU w' w.heap.size A2 n2 c2 l2 ∧ val l2 = val l / 2 ^ m ∧ n2 ≤ n := by
  refine calls_W Tryz.func136 rfl Tryz.ntmps136 (by kernel_rfl) ?_
  refine W_seq_reg fun K hK => ?_
  simp -implicitDefEqProofs (disch := omega) only [go_sem, Nat.reduceEqDiff, Nat.reduceAdd, ↓reduceIte]
  refine hK _ _ ?_; clear hK K
  refine W_seq_reg fun K hK => ?_
  simp -implicitDefEqProofs (disch := omega) only [go_sem, Nat.reduceEqDiff, Nat.reduceAdd, ↓reduceIte]
  refine hK _ _ ?_; clear hK K
  have hl := h.len
  have hk : m % 32 < 32 := Nat.mod_lt _ (by omega)
  have hmm : 32 * (m / 32) + m % 32 = m := Nat.div_add_mod m 32
  have hp : 2 ^ (m % 32) ≤ 2147483648 := Nat.pow_le_pow_right (n := 2) (by omega) (show m % 32 ≤ 31 by omega)
  have hp0 : 0 < 2 ^ (m % 32) := Nat.pow_pos (by omega)
  refine W_seq_k fun K0 hK0 => ?_
  refine W_seq_reg fun K hK => ?_
  simp -implicitDefEqProofs (disch := omega) only [go_sem, Nat.reduceEqDiff, Nat.reduceAdd, ↓reduceIte]
  refine hK _ _ ?_; clear hK K
  have mid : ∀ e1 : Env, e1 0 = .slice A n c → e1 1 = .int .i64 m → e1 6 = .bool (decide (val (l.take (m / 32)) ≠ 0)) → K0 e1 w := by
    intro e1 h0 h1 h6
    refine hK0 _ _ ?_; clear hK0
    refine W_seq_reg fun K hK => ?_
    simp -implicitDefEqProofs (disch := omega) only [go_sem, Nat.reduceEqDiff, Nat.reduceAdd, ↓reduceIte]
    refine hK _ _ ?_; clear hK K
    refine W_seq_reg fun K hK => ?_
    simp -implicitDefEqProofs (disch := omega) only [go_sem, Nat.reduceEqDiff, Nat.reduceAdd, ↓reduceIte, h1]
    refine hK _ _ ?_; clear hK K
    refine W_seq_k fun K0 hK0 => ?_
    refine W_seq_reg fun K hK => ?_
    simp -implicitDefEqProofs (disch := omega) only [go_sem, Nat.reduceEqDiff, Nat.reduceAdd, ↓reduceIte, h1]
    refine hK _ _ ?_; clear hK K
    refine W_block ?_
    refine W_loop (fun e2 w2 => ∃ (j : Nat) (A2 : Option Addr) (c2 : Nat) (o : List Nat), e2 10 = .int .i64 ((m / 32 + j : Nat) : Int) ∧ e2 8 = .slice A2 j c2 ∧ e2 6 = .bool (if j = 0 then decide (val (l.take (m / 32)) ≠ 0) else decide (val l % 2 ^ m ≠ 0)) ∧ (j = 0 ∨ m / 32 + j ≤ n) ∧ Ext w w2 ∧ OwnU w2 w.heap.size A2 j c2 o ∧ val o + B ^ j * (val (l.drop (m / 32 + j)) / 2 ^ (m % 32)) = val (l.drop (m / 32)) / 2 ^ (m % 32)) (fun e2 _ => n - (RowKit.intOf (e2 10)).toNat) ⟨0, none, 0, [], rfl, rfl, (by (try simp only [upd_ap, Nat.reduceEqDiff, ↓reduceIte]); first | done | assumption | exact rfl), .inl rfl, Kp.refl _ _, ⟨Own.nil _ _ _ _, AllB.nil⟩, by simp [val]⟩ ?_
    rintro e2 w1 ⟨j, A2, c2, o, g10, g8, g6, hj, hx, hO, hv⟩ hkk
    have g0 : e2 0 = .slice A n c := (hkk 0 (by kernel_rfl)).trans (by (try simp only [upd_ap, Nat.reduceEqDiff, ↓reduceIte]); first | done | assumption | exact rfl)
    have g1 : e2 1 = .int .i64 m := (hkk 1 (by kernel_rfl)).trans (by (try simp only [upd_ap, Nat.reduceEqDiff, ↓reduceIte]); first | done | assumption | exact rfl)
    have g9 : e2 9 = .int .i64 ((m % 32 : Nat) : Int) := (hkk 9 (by kernel_rfl)).trans (by (try simp only [upd_ap, Nat.reduceEqDiff, ↓reduceIte]); first | done | assumption | exact rfl)
    clear hkk
    have hol : o.length = j := by have := hO.1.len; simpa using this
    refine W_seq_k fun K1 hK1 => ?_
    by_cases hlt : m / 32 + j < n
    · have hlt' : ((m / 32 + j : Nat) : Int) < n := by omega
      refine W_seq_reg fun K hK => ?_
      simp -implicitDefEqProofs (disch := omega) only [go_sem, Nat.reduceEqDiff, Nat.reduceAdd, ↓reduceIte, g10, g0, hlt']
      refine hK _ _ ?_; clear hK K
      refine W_cond rfl (fun hc1 => W_skip (hK1 _ _ ?_)) (fun hc1 => by cases hc1)
      clear hK1
      refine W_seq_blk fun K hK => ?_
      have e2' : (0 : Int) ≤ (m / 32 + j : Nat) ∧ ((m / 32 + j : Nat) : Int) < n := by omega
      obtain ⟨ad, rfl, hcc⟩ := (h.ext hx).cell hlt
      have hd1 := h.dg_lt (m / 32 + j)
      have hd2 := h.dg_lt (m / 32 + j + 1)
      refine W_seq_reg fun K hK => ?_
      simp -implicitDefEqProofs (disch := omega) only [go_sem, Nat.reduceEqDiff, Nat.reduceAdd, ↓reduceIte, g10, g0, e2', hcc]
      refine hK _ _ ?_; clear hK K
      refine W_seq_k fun K1 hK1 => ?_
      have st1 : ∀ e3 : Env, e3 10 = .int .i64 ((m / 32 + j : Nat) : Int) → e3 8 = .slice A2 j c2 → e3 6 = .bool (if j = 0 then decide (val (l.take (m / 32)) ≠ 0) else decide (val l % 2 ^ m ≠ 0)) → e3 0 = .slice (some ad) n c → e3 1 = .int .i64 m → e3 9 = .int .i64 ((m % 32 : Nat) : Int) →
          e3 11 = .int .u64 ((dg l (m / 32 + j) + dg l (m / 32 + j + 1) * 4294967296 : Nat) : Int) → K1 e3 w1 := by
        intro e3 k10 k8 k6 k0 k1 k9 k11
        refine hK1 _ _ ?_; clear hK1
        refine W_seq_k fun K1 hK1 => ?_
        have st2 : ∀ (e4 : Env) (w2 : World), Ext w1 w2 → e4 10 = .int .i64 ((m / 32 + j : Nat) : Int) → e4 8 = .slice A2 j c2 → e4 6 = .bool (decide (val l % 2 ^ m ≠ 0)) → e4 9 = .int .i64 ((m % 32 : Nat) : Int) →
            e4 11 = .int .u64 ((dg l (m / 32 + j) + dg l (m / 32 + j + 1) * 4294967296 : Nat) : Int) → K1 e4 w2 := by
          intro e4 w2 hx2 q10 q8 q6 q9 q11
          refine hK1 _ _ ?_; clear hK1
          refine W_regK fun K9 hK9 => ?_
          simp -implicitDefEqProofs (disch := omega) only [go_sem, Nat.reduceEqDiff, Nat.reduceAdd, ↓reduceIte, q11, q9, q8]
          refine pushU (hO.1.ext hx2 |> fun a => ⟨a, hO.2⟩) (Nat.mod_lt _ (by omega)) (by omega) (hx.trans hx2).size ?_
          intro v1 A3 c3 w3 hO3 hk3 hat
          refine hK9 _ _ ?_; clear hK9 K9
          refine hK _ _ ?_; clear hK
          refine W_regK fun K9 hK9 => ?_
          simp -implicitDefEqProofs (disch := omega) only [go_sem, Nat.reduceEqDiff, Nat.reduceAdd, ↓reduceIte, q10, i64_in]
          refine hK9 _ _ ?_; clear hK9 K9
          have key := shr_step (Nat.le_of_lt hk) h.2 hol hv
          refine ⟨⟨j + 1, A3, c3, _, ?_, rfl, ?_, .inr (by omega), (hO.1.ext hx2).under (hx.trans hx2) hk3, hO3, key⟩, ?_⟩
          · simp only [upd_ap, ↓reduceIte]; congr 1
          · simp only [upd_ap, Nat.reduceEqDiff, ↓reduceIte, q6, Nat.add_eq_zero_iff, Nat.one_ne_zero, and_false]
          · simp only [upd_ap, ↓reduceIte, RowKit.intOf, g10]; omega
        refine W_seq_k fun K2 hK2 => ?_
        by_cases hj0 : j = 0
        · subst hj0
          have hq : (((m / 32 + 0 : Nat) : Int) == ((m / 32 : Nat) : Int)) = true := by simp
          have hs1 : IntKind.u32.wrap (((2 ^ (m % 32) : Nat) : Int) - 1) = ((2 ^ (m % 32) - 1 : Nat) : Int) := sub32_1 hp0 (by omega)
          have ha1 : bitsV .and .u32 ((dg l (m / 32 + 0) : Nat) : Int) ((2 ^ (m % 32) - 1 : Nat) : Int) = ((dg l (m / 32 + 0) % 2 ^ (m % 32) : Nat) : Int) := by
            rw [and32N hd1 (by omega), Nat.and_two_pow_sub_one_eq_mod]
          refine W_dQ mixed [true, true, true, true, true, true, true, true, true, true, true, true, true, true, true] (by kernel_rfl) fun KE hKE => ?_
          simp -implicitDefEqProofs (maxSteps := 600000) (disch := omega) only [go_sem, Nat.reduceEqDiff, Nat.reduceAdd, ↓reduceIte, k10, k1, k0, k9, e2', hcc, hq, hs1, ha1]
          refine hKE _ fun w2 hx2 => ?_; clear hKE KE
          refine hK2 _ _ ?_; clear hK2
          have hlo := lost_iff h.2 (m / 32) (m % 32) (by omega)
          rw [hmm] at hlo
          by_cases hz : dg l (m / 32) % 2 ^ (m % 32) = 0
          · have hz' : (((dg l (m / 32 + 0) % 2 ^ (m % 32) : Nat) : Int) != 0) = false := by rw [bne0]; simpa using hz
            refine W_cond rfl (fun hc => by rw [hz'] at hc; cases hc) (fun hc => W_skip ?_)
            refine st2 _ _ hx2 (by (try simp only [upd_ap, Nat.reduceEqDiff, ↓reduceIte]); first | done | assumption | exact rfl) (by (try simp only [upd_ap, Nat.reduceEqDiff, ↓reduceIte]); first | done | assumption | exact rfl) ?_ (by (try simp only [upd_ap, Nat.reduceEqDiff, ↓reduceIte]); first | done | assumption | exact rfl) (by (try simp only [upd_ap, Nat.reduceEqDiff, ↓reduceIte]); first | done | assumption | exact rfl)
            simp only [upd_ap, Nat.reduceEqDiff, ↓reduceIte, k6]
            congr 1
            rw [decide_eq_decide]
            have : l.getD (m / 32) 0 % 2 ^ (m % 32) = 0 := hz
            simp only [this, and_true] at hlo
            omega
          · have hz' : (((dg l (m / 32 + 0) % 2 ^ (m % 32) : Nat) : Int) != 0) = true := by rw [bne0]; simpa using hz
            refine W_cond rfl (fun hc => ?_) (fun hc => by rw [hz'] at hc; cases hc)
            refine W_regK fun K9 hK9 => ?_
            simp -implicitDefEqProofs (disch := omega) only [go_sem, Nat.reduceEqDiff, Nat.reduceAdd, ↓reduceIte]
            refine hK9 _ _ ?_; clear hK9 K9
            refine st2 _ _ hx2 (by (try simp only [upd_ap, Nat.reduceEqDiff, ↓reduceIte]); first | done | assumption | exact rfl) (by (try simp only [upd_ap, Nat.reduceEqDiff, ↓reduceIte]); first | done | assumption | exact rfl) ?_ (by (try simp only [upd_ap, Nat.reduceEqDiff, ↓reduceIte]); first | done | assumption | exact rfl) (by (try simp only [upd_ap, Nat.reduceEqDiff, ↓reduceIte]); first | done | assumption | exact rfl)
            simp only [upd_ap, Nat.reduceEqDiff, ↓reduceIte]
            congr 1
            symm
            rw [decide_eq_true_eq]
            intro h0
            exact hz (hlo.1 h0).2
        · have hq : (((m / 32 + j : Nat) : Int) == ((m / 32 : Nat) : Int)) = false := by rw [beqN]; exact decide_eq_false (by omega)
          refine W_dQ mixed [true, true, true, true, true, true, true, true, true, true, true, true, true, true, true] (by kernel_rfl) fun KE hKE => ?_
          simp -implicitDefEqProofs (maxSteps := 600000) (disch := omega) only [go_sem, Nat.reduceEqDiff, Nat.reduceAdd, ↓reduceIte, k10, k1, k0, k9, e2', hcc, hq]
          refine hKE _ fun w2 hx2 => ?_; clear hKE KE
          refine hK2 _ _ ?_; clear hK2
          refine W_cond rfl (fun hc => by cases hc) (fun hc => W_skip ?_)
          refine st2 _ _ hx2 (by (try simp only [upd_ap, Nat.reduceEqDiff, ↓reduceIte]); first | done | assumption | exact rfl) (by (try simp only [upd_ap, Nat.reduceEqDiff, ↓reduceIte]); first | done | assumption | exact rfl) ?_ (by (try simp only [upd_ap, Nat.reduceEqDiff, ↓reduceIte]); first | done | assumption | exact rfl) (by (try simp only [upd_ap, Nat.reduceEqDiff, ↓reduceIte]); first | done | assumption | exact rfl)
          simp only [upd_ap, Nat.reduceEqDiff, ↓reduceIte, k6, hj0]
      by_cases hn : m / 32 + j + 1 < n
      · have hn' : ((m / 32 + j : Nat) : Int) + 1 < n := by omega
        obtain ⟨_, hq, hcc'⟩ := (h.ext hx).cell hn
        cases hq
        refine W_seq_reg fun K hK => ?_
        simp -implicitDefEqProofs (disch := omega) only [go_sem, Nat.reduceEqDiff, Nat.reduceAdd, ↓reduceIte, g10, g0, i64_in, hn']
        refine hK _ _ ?_; clear hK K
        refine W_cond rfl (fun hc => ?_) (fun hc => by cases hc)
        have e3' : (0 : Int) ≤ (m / 32 + j : Nat) + 1 ∧ ((m / 32 + j : Nat) : Int) + 1 < n := by omega
        obtain ⟨q, hqq⟩ : ∃ q, q = m / 32 + j + 1 := ⟨_, rfl⟩
        have e5' : (((m / 32 + j : Nat) : Int) + 1).toNat = q := by omega
        rw [← hqq] at hcc'
        rw [← hqq] at hd2 st1
        have e6 : dg l q * 4294967296 % 18446744073709551616 = dg l q * 4294967296 := Nat.mod_eq_of_lt (by omega)
        have e7 : dg l (m / 32 + j) ||| dg l q * 4294967296 = dg l (m / 32 + j) + dg l q * 4294967296 := or_add (k := 32) hd1
        refine W_regK fun K9 hK9 => ?_
        simp -implicitDefEqProofs (disch := omega) only [go_sem, Nat.reduceEqDiff, Nat.reduceAdd, ↓reduceIte, g10, g0, i64_in, e3', e5', hcc', e6, e7]
        refine hK9 _ _ ?_; clear hK9 K9
        exact st1 _ (by (try simp only [upd_ap, Nat.reduceEqDiff, ↓reduceIte]); first | done | assumption | exact rfl) (by (try simp only [upd_ap, Nat.reduceEqDiff, ↓reduceIte]); first | done | assumption | exact rfl) (by (try simp only [upd_ap, Nat.reduceEqDiff, ↓reduceIte]); first | done | assumption | exact rfl) (by (try simp only [upd_ap, Nat.reduceEqDiff, ↓reduceIte]); first | done | assumption | exact rfl) (by (try simp only [upd_ap, Nat.reduceEqDiff, ↓reduceIte]); first | done | assumption | exact rfl) (by (try simp only [upd_ap, Nat.reduceEqDiff, ↓reduceIte]); first | done | assumption | exact rfl) (by (try simp only [upd_ap, Nat.reduceEqDiff, ↓reduceIte]); first | done | assumption | exact rfl)
      · have hn' : ¬ ((m / 32 + j : Nat) : Int) + 1 < n := by omega
        refine W_seq_reg fun K hK => ?_
        simp -implicitDefEqProofs (disch := omega) only [go_sem, Nat.reduceEqDiff, Nat.reduceAdd, ↓reduceIte, g10, g0, i64_in, hn']
        refine hK _ _ ?_; clear hK K
        refine W_cond rfl (fun hc => by cases hc) (fun hc => W_skip ?_)
        have hz : dg l (m / 32 + j + 1) = 0 := dg_ge (by omega)
        refine st1 _ (by (try simp only [upd_ap, Nat.reduceEqDiff, ↓reduceIte]); first | done | assumption | exact rfl) (by (try simp only [upd_ap, Nat.reduceEqDiff, ↓reduceIte]); first | done | assumption | exact rfl) (by (try simp only [upd_ap, Nat.reduceEqDiff, ↓reduceIte]); first | done | assumption | exact rfl) (by (try simp only [upd_ap, Nat.reduceEqDiff, ↓reduceIte]); first | done | assumption | exact rfl) (by (try simp only [upd_ap, Nat.reduceEqDiff, ↓reduceIte]); first | done | assumption | exact rfl) (by (try simp only [upd_ap, Nat.reduceEqDiff, ↓reduceIte]); first | done | assumption | exact rfl) ?_
        rw [hz]; exact (by (try simp only [upd_ap, Nat.reduceEqDiff, ↓reduceIte]); first | done | assumption | exact rfl)
    · have hlt' : ¬ ((m / 32 + j : Nat) : Int) < n := by omega
      refine W_seq_reg fun K hK => ?_
      simp -implicitDefEqProofs (disch := omega) only [go_sem, Nat.reduceEqDiff, Nat.reduceAdd, ↓reduceIte, g10, g0, hlt']
      refine hK _ _ ?_; clear hK K
      refine W_cond rfl (fun hc1 => by cases hc1) (fun hc1 => W_exit ?_)
      refine hK0 _ _ ?_; clear hK0 hK1
      refine W_seq_reg fun K hK => ?_
      simp -implicitDefEqProofs (disch := omega) only [go_sem, Nat.reduceEqDiff, Nat.reduceAdd, ↓reduceIte, g8, g6]
      refine hK _ _ ?_; clear hK K
      have hd0 : val (l.drop (m / 32 + j)) = 0 := by rw [List.drop_of_length_le (by omega)]; rfl
      rw [hd0, Nat.zero_div, Nat.mul_zero, Nat.add_zero, val_drop h.2, Nat.div_div_eq_div_mul, B_eq, ← Nat.pow_mul, ← Nat.pow_add, hmm] at hv
      have hb2 : (if j = 0 then decide (val (l.take (m / 32)) ≠ 0) else decide (val l % 2 ^ m ≠ 0)) = decide (val l % 2 ^ m ≠ 0) := by
        split
        · rename_i h0
          have := lost_all h.2 (m / 32) (m % 32) (by omega)
          rw [hmm] at this
          rw [this, val_take_ge l _ (by omega)]
        · rfl
      refine W_ret ?_
      try simp only [thenE_r, inB_r]
      refine ret2 rfl ⟨A2, j, c2, o, by simp only [upd_ap, Nat.reduceEqDiff, ↓reduceIte, hb2], hx, hO, hv, by omega⟩
  refine W_block ?_
  refine W_loop (fun e2 w2 => w2 = w ∧ ∃ i : Nat, e2 7 = .int .i64 i ∧ e2 6 = .bool (decide (val (l.take i) ≠ 0)) ∧ i ≤ m / 32 ∧ i ≤ n) (fun e2 _ => n - (RowKit.intOf (e2 7)).toNat) ⟨rfl, 0, rfl, rfl, Nat.zero_le _, Nat.zero_le _⟩ ?_
  rintro e1 w1 ⟨rfl, i, h7, h6, him, hin⟩ hkk
  have h0 : e1 0 = .slice A n c := (hkk 0 (by kernel_rfl)).trans rfl
  have h1 : e1 1 = .int .i64 m := (hkk 1 (by kernel_rfl)).trans rfl
  clear hkk
  refine W_seq_k fun K1 hK1 => ?_
  by_cases h1m : i < m / 32
  · have h1m' : (i : Int) < (m / 32 : Nat) := by omega
    by_cases h1n : i < n
    · have h1n' : (i : Int) < n := by omega
      refine W_seq_reg fun K hK => ?_
      simp -implicitDefEqProofs (disch := omega) only [go_sem, Nat.reduceEqDiff, Nat.reduceAdd, ↓reduceIte, h7, h1, h0, h1m', h1n']
      refine hK _ _ ?_; clear hK K
      refine W_cond rfl (fun hc1 => W_skip (hK1 _ _ ?_)) (fun hc1 => by cases hc1)
      clear hK1
      refine W_seq_blk fun K hK => ?_
      have e2' : (0 : Int) ≤ i ∧ (i : Int) < n := by omega
      obtain ⟨ad, rfl, hcc⟩ := h.cell h1n
      have fin : ∀ e2 : Env, e2 7 = .int .i64 i → e2 6 = .bool (decide (val (l.take (i + 1)) ≠ 0)) → K e2 w1 := by
        intro e2 g7 g6
        refine hK _ _ ?_; clear hK
        refine W_regK fun K9 hK9 => ?_
        simp -implicitDefEqProofs (disch := omega) only [go_sem, Nat.reduceEqDiff, Nat.reduceAdd, ↓reduceIte, g7, i64_in]
        refine hK9 _ _ ?_; clear hK9 K9
        refine ⟨⟨rfl, i + 1, rfl, ?_, by omega, by omega⟩, ?_⟩
        · simp only [upd_ap, Nat.reduceEqDiff, ↓reduceIte, g6]
        · simp only [upd_ap, ↓reduceIte, RowKit.intOf, h7]; omega
      have hpB := B_pow_pos i
      by_cases hz : val (l.take i) = 0
      · have hz' : decide (val (l.take i) ≠ 0) = false := by simp [hz]
        refine W_regK fun K9 hK9 => ?_
        simp -implicitDefEqProofs (disch := omega) only [go_sem, Nat.reduceEqDiff, Nat.reduceAdd, ↓reduceIte, h6, h7, h0, hz', e2', hcc]
        refine hK9 _ _ ?_; clear hK9 K9
        refine fin _ (by (try simp only [upd_ap, Nat.reduceEqDiff, ↓reduceIte]); first | done | assumption | exact rfl) ?_
        simp only [upd_ap, Nat.reduceEqDiff, ↓reduceIte]
        congr 1
        rw [vts, hz, Nat.zero_add, bne]
        rw [Bool.eq_iff_iff]
        simp only [Bool.not_eq_true', beq_eq_false_iff_ne, decide_eq_true_eq, ne_eq, Nat.mul_eq_zero, not_or, dg]
        omega
      · have hz' : decide (val (l.take i) ≠ 0) = true := by simp [hz]
        refine W_regK fun K9 hK9 => ?_
        simp -implicitDefEqProofs (disch := omega) only [go_sem, Nat.reduceEqDiff, Nat.reduceAdd, ↓reduceIte, h6, h7, h0, hz']
        refine hK9 _ _ ?_; clear hK9 K9
        refine fin _ (by (try simp only [upd_ap, Nat.reduceEqDiff, ↓reduceIte]); first | done | assumption | exact rfl) ?_
        simp only [upd_ap, Nat.reduceEqDiff, ↓reduceIte]
        congr 1
        rw [vts]; symm; rw [decide_eq_true_eq]; omega
    · have h1n' : ¬ (i : Int) < n := by omega
      refine W_seq_reg fun K hK => ?_
      simp -implicitDefEqProofs (disch := omega) only [go_sem, Nat.reduceEqDiff, Nat.reduceAdd, ↓reduceIte, h7, h1, h0, h1m', h1n']
      refine hK _ _ ?_; clear hK K
      refine W_cond rfl (fun hc1 => by cases hc1) (fun hc1 => W_exit ?_)
      refine mid _ (by (try simp only [upd_ap, Nat.reduceEqDiff, ↓reduceIte]); first | done | assumption | exact rfl) (by (try simp only [upd_ap, Nat.reduceEqDiff, ↓reduceIte]); first | done | assumption | exact rfl) ?_
      simp only [upd_ap, Nat.reduceEqDiff, ↓reduceIte, h6]
      rw [val_take_ge l i (by omega), val_take_ge l (m / 32) (by omega)]
  · have h1m' : ¬ (i : Int) < (m / 32 : Nat) := by omega
    refine W_seq_reg fun K hK => ?_
    simp -implicitDefEqProofs (disch := omega) only [go_sem, Nat.reduceEqDiff, Nat.reduceAdd, ↓reduceIte, h7, h1, h0, h1m']
    refine hK _ _ ?_; clear hK K
    refine W_cond rfl (fun hc1 => by cases hc1) (fun hc1 => W_exit ?_)
    obtain rfl : i = m / 32 := by omega
    exact mid _ (by (try simp only [upd_ap, Nat.reduceEqDiff, ↓reduceIte]); first | done | assumption | exact rfl) (by (try simp only [upd_ap, Nat.reduceEqDiff, ↓reduceIte]); first | done | assumption | exact rfl) (by (try simp only [upd_ap, Nat.reduceEqDiff, ↓reduceIte]); first | done | assumption | exact rfl)
end Go.Proofs.YtjamnehcmaloeaaGreatDoor
end
section
namespace Go.Proofs.YtjamnehcmaloeaaGreatDoor
open Go Go.E Go.Sp
theorem storeU {w : World} {Bd g n c : Nat} {l : List Nat} (h : OwnU w Bd (some ⟨g, 0, none⟩) n c l) {j d : Nat} (hj : j < n) (hd : d < 4294967296) {K : World → Prop}
    (hK : ∀ w', OwnU w' Bd (some ⟨g, 0, none⟩) n c (l.set j d) → Kp (nb (some ⟨g, 0, none⟩)) w w' → w'.heap.size = w.heap.size → K w') : storeW Tryz.prog 90 w (.pointer (some ⟨g, j, none⟩)) (.int .u32 d) K := by
  have hl : l.length = n := by have := h.1.len; simpa using this
  obtain ⟨g', hg, hb, hc, hfz⟩ := h.1.cell (j := j) (by simp; omega)
  cases hg
  rw [storeW_p]
  refine ⟨siz90, ⟨?_, ?_, rfl, trivial⟩, ?_⟩
  · rw [add_lit, Nat.add_zero, hc]; rfl
  · rw [add_lit, Nat.add_zero]; exact hfz
  · refine hK _ ⟨?_, h.2.set j d hd⟩ ?_ ?_
    · have := h.1.set j (Value.int .u32 d)
      rw [List.map_set]
      simpa [stN, add_lit, u32v, Value.cells] using this
    · have := nb_kp_set (w := w) (g := g) (j := j) (u := Value.int .u32 d)
      simpa [stN, add_lit, Value.cells] using this
    · simp [stN, World.setCell, Value.cells]
end Go.Proofs.YtjamnehcmaloeaaGreatDoor
end
section
namespace Go.Proofs.YtjamnehcmaloeaaGreatDoor
open Go Go.E Go.Sp
theorem rSign_ok {D : Nat → Prop} {A : Option Addr} {n c : Nat} {l : List Nat} {s : Bool} {w : World} (h : U32 w D A n c l) (hb : n ≤ 1000000000) (hf : Fr D w) :
    Calls Tryz.prog 63 #[.agg #[.bool s, .slice A n c]] w fun e w' => e = .returned (.int .i64 (Int.sign (sgn s (val l)))) ∧ Ext w w' := by
  refine calls_W Tryz.func63 rfl Tryz.ntmps63 (by kernel_rfl) ?_
  refine W_seq_reg fun K hK => ?_
  simp -implicitDefEqProofs (disch := omega) only [go_sem, Nat.reduceEqDiff, Nat.reduceAdd, ↓reduceIte]
  refine boxW_of ?_
  intro g1 w1 hg1 hx1 hb1 hs1
  refine hK _ _ ?_; clear hK
  have hr : ldV w1 (some (some 2)) (.pointer (some ⟨g1, 0, none⟩)) = some (.agg #[.bool s, .slice A n c]) := ldV_blk hb1 rfl
  have hD : Fr (Dx D w.heap.size w1.heap.size) w1 := Dx.fr (hf.kp hx1) (Nat.le_refl _)
  refine W_seq_reg fun K hK => ?_
  simp -implicitDefEqProofs (disch := omega) only [go_sem, Nat.reduceEqDiff, Nat.reduceAdd, ↓reduceIte, hr]
  refine callW_of cal125 (rNorm_ok ((h.sub (Dx.keep rfl)).ext hx1) hb hD) ?_
  rintro _ w3 ⟨s3, A3, n3, c3, rfl, hx3, hB⟩; refine ⟨_, rfl, ?_⟩
  replace hb1 := hb1.ext hx3
  refine storeW_of hb1 siz35 rfl rfl fun w9 hk9 hb9 => ?_
  refine hK _ _ ?_; clear hK
  have hx9 : Ext w w9 := (hx1.trans hx3).under hk9 (fun k hk => by omega)
  have hc0 : w9.cell? ⟨g1, 0, none⟩ = some (.bool s3) := hb9.cell 0
  have hc1 : w9.cell? ⟨g1, 1, none⟩ = some (.slice A3 n3 c3) := hb9.cell 1
  obtain ⟨hs3, hU3⟩ := hB
  have hlen := hU3.len
  have hpos := @lim_length_pos (sgn s (val l)).natAbs
  refine W_seq_blk fun K1 hK1 => ?_
  refine W_seq_reg fun K hK => ?_
  simp -implicitDefEqProofs (disch := omega) only [go_sem, Nat.reduceEqDiff, Nat.reduceAdd, ↓reduceIte, hc0, hc1]
  refine hK _ _ ?_; clear hK K
  by_cases hz : n3 = 0
  · have hz' : ((n3 : Int) == 0) = true := by simp [hz]
    refine W_cond rfl (fun hc => ?_) (fun hc => by rw [hz'] at hc; cases hc)
    refine W_seq_reg fun K hK => ?_
    simp -implicitDefEqProofs (disch := omega) only [go_sem, Nat.reduceEqDiff, Nat.reduceAdd, ↓reduceIte]
    refine hK _ _ ?_; clear hK K
    have h0 : sgn s (val l) = 0 := by omega
    refine W_ret ?_
    try simp only [thenE_r, inB_r]
    refine ret1 rfl ⟨by rw [h0]; rfl, hx9⟩
  · have hz' : ((n3 : Int) == 0) = false := by simp [hz]
    refine W_cond rfl (fun hc => by rw [hz'] at hc; cases hc) (fun hc => ?_)
    refine W_seq_reg fun K hK => ?_
    simp -implicitDefEqProofs (disch := omega) only [go_sem, Nat.reduceEqDiff, Nat.reduceAdd, ↓reduceIte, hc0]
    refine hK _ _ ?_; clear hK K
    by_cases hn : sgn s (val l) < 0
    · have hs : s3 = true := by rw [hs3]; simpa using hn
      subst hs
      refine W_cond rfl (fun hc => ?_) (fun hc => by cases hc)
      refine W_seq_reg fun K hK => ?_
      simp -implicitDefEqProofs (disch := omega) only [go_sem, Nat.reduceEqDiff, Nat.reduceAdd, ↓reduceIte]
      refine hK _ _ ?_; clear hK K
      refine W_ret ?_
      try simp only [thenE_r, inB_r]
      refine ret1 rfl ⟨by rw [Int.sign_eq_neg_one_of_neg hn]; rfl, hx9⟩
    · have hs : s3 = false := by rw [hs3]; simpa using hn
      subst hs
      refine W_cond rfl (fun hc => by cases hc) (fun hc => W_skip (hK1 _ _ ?_))
      refine W_seq_reg fun K hK => ?_
      simp -implicitDefEqProofs (disch := omega) only [go_sem, Nat.reduceEqDiff, Nat.reduceAdd, ↓reduceIte]
      refine hK _ _ ?_; clear hK K
      refine W_ret ?_
      try simp only [thenE_r, inB_r]
      refine ret1 rfl ⟨by rw [Int.sign_eq_one_of_pos (by omega)]; rfl, hx9⟩
theorem own2 {w w1 : World} {a b : Nat} (hb : Blk w1 w.heap.size 90 #[.int .u32 a, .int .u32 b]) (ha : a < 4294967296) (hb' : b < 4294967296) : OwnU w1 w.heap.size (some ⟨w.heap.size, 0, none⟩) 2 2 [a, b] := by
  refine ⟨?_, fun d hd => ?_⟩
  · have := Own.made (w := w1) (w' := w) (B := w.heap.size) (sz := 1) (n := 2) (c := 2) hb (Nat.le_refl _) (by simp [maxLen]) rfl (Nat.le_refl _)
    simpa [u32v] using this
  · rcases List.mem_cons.1 hd with rfl | hd
    · exact ha
    · simp at hd; subst hd; exact hb'
theorem rFromInt_ok {z : Int} {D : Nat → Prop} {w : World} (h1 : -9223372036854775808 ≤ z) (h2 : z ≤ 9223372036854775807) (hf : Fr D w) :
    Calls Tryz.prog 138 #[.int .i64 z] w fun e w' => ∃ s' A' n' c', e = .returned (.agg #[.bool s', .slice A' n' c']) ∧ Ext w w' ∧ Big w' D s' A' n' c' z := by
  refine calls_W Tryz.func138 rfl Tryz.ntmps138 (by kernel_rfl) ?_
  refine W_seq_reg fun K hK => ?_
  simp -implicitDefEqProofs (disch := omega) only [go_sem, Nat.reduceEqDiff, Nat.reduceAdd, ↓reduceIte]
  refine alW_of ?_
  intro g1 w1 hg1 hx1 hb1 hs1
  refine hK _ _ ?_; clear hK
  refine W_seq_reg fun K hK => ?_
  simp -implicitDefEqProofs (disch := omega) only [go_sem, Nat.reduceEqDiff, Nat.reduceAdd, ↓reduceIte]
  refine hK _ _ ?_; clear hK K
  refine W_seq_k fun K0 hK0 => ?_
  have fin : ∀ e1 : Env, e1 2 = .pointer (some ⟨g1, 0, none⟩) → e1 0 = .int .i64 z → e1 3 = .int .u64 (z.natAbs : Nat) → K0 e1 w1 := by
    intro e1 k2 k0 k3
    refine hK0 _ _ ?_; clear hK0
    refine W_seq_reg fun K hK => ?_
    simp -implicitDefEqProofs (disch := omega) only [go_sem, Nat.reduceEqDiff, Nat.reduceAdd, ↓reduceIte, k2, k0, k3]
    refine bsW_of fun w2 hx2 hb2 hs2 => ?_
    have hD : Fr (Dx D w.heap.size w1.heap.size) w2 := Dx.fr ((hf.kp hx1).kp hx2) (by omega)
    have hU : U32 w2 (Dx D w.heap.size w1.heap.size) _ 2 2 _ := (own2 hb2 (Nat.mod_lt _ (by omega)) (Nat.mod_lt _ (by omega))).u32 fun k hk => Dx.ge (hf k (by omega)) (by omega)
    have hv : val [z.natAbs % 4294967296, z.natAbs / 4294967296 % 4294967296] = z.natAbs := by simp only [val, B]; omega
    refine callW_of cal129 (make1_ok hU (by omega) hD) ?_
    rintro _ w3 ⟨s3, A3, n3, c3, rfl, hx3, hB⟩; refine ⟨_, rfl, ?_⟩
    replace hb1 := (hb1.ext hx2).ext hx3
    rw [hv, sgn_self] at hB
    refine storeW_of hb1 siz35 rfl rfl fun w9 hk9 hb9 => ?_
    refine hK _ _ ?_; clear hK
    refine W_ret ?_
    try simp only [thenE_r, inB_r]
    exact (retC1 rfl (resV_blk (by first | exact rfl | assumption) agg35 hb9 rfl) ⟨_, _, _, _, rfl, (((hx1.trans hx2).trans hx3)).under hk9 (fun k hk => by omega), (hB.kp (hk9.mono fun k _ h => Dx.ne h (by omega) (by omega))).sub fun k _ h => h.1⟩)
  by_cases hn : z < 0
  · refine W_seq_reg fun K hK => ?_
    simp -implicitDefEqProofs (disch := omega) only [go_sem, Nat.reduceEqDiff, Nat.reduceAdd, ↓reduceIte, hn]
    refine hK _ _ ?_; clear hK K
    refine W_cond rfl (fun hc => ?_) (fun hc => by cases hc)
    have e1 : IntKind.u64.wrap (IntKind.u64.wrap (IntKind.i64.wrap (0 - IntKind.i64.wrap (z + 1))) + 1) = ((z.natAbs : Nat) : Int) := by
      rw [i64_in (n := z + 1) (by omega) (by omega), i64_in (by omega) (by omega), u64_in (n := 0 - (z + 1)) (by omega) (by omega), u64_in (by omega) (by omega)]; omega
    refine W_regK fun K9 hK9 => ?_
    simp -implicitDefEqProofs only [go_sem, Nat.reduceEqDiff, Nat.reduceAdd, ↓reduceIte]
    refine hK9 _ _ ?_
    exact fin _ (by (try simp only [upd_ap, Nat.reduceEqDiff, ↓reduceIte]); first | done | assumption | exact rfl) (by (try simp only [upd_ap, Nat.reduceEqDiff, ↓reduceIte]); first | done | assumption | exact rfl) (by simp only [upd_ap, Nat.reduceEqDiff, ↓reduceIte, e1])
  · have hn' : ¬ z < 0 := hn
    refine W_seq_reg fun K hK => ?_
    simp -implicitDefEqProofs (disch := omega) only [go_sem, Nat.reduceEqDiff, Nat.reduceAdd, ↓reduceIte, hn']
    refine hK _ _ ?_; clear hK K
    refine W_cond rfl (fun hc => by cases hc) (fun hc => W_skip ?_)
    exact fin _ (by (try simp only [upd_ap, Nat.reduceEqDiff, ↓reduceIte]); first | done | assumption | exact rfl) (by (try simp only [upd_ap, Nat.reduceEqDiff, ↓reduceIte]); first | done | assumption | exact rfl) (by simp only [upd_ap, Nat.reduceEqDiff, ↓reduceIte]; rw [u64_in (by omega) (by omega)]; congr 1; omega)
theorem U32.of_own {w : World} {D : Nat → Prop} {B : Nat} {A : Option Addr} {n c : Nat} {l : List Nat} (h : OwnU w B A n c l) (hd : ∀ k, B ≤ k → D k) : U32 w D A n c l := h.u32 hd
theorem len_le_own {w : World} {D : Nat → Prop} {A : Option Addr} {n c : Nat} {l : List Nat} (h : U32 w D A n c l) : (lim (val l)).length ≤ n := len_val h
theorem rAdd_ok {D : Nat → Prop} {A A' : Option Addr} {n c n' c' : Nat} {l l' : List Nat} {s s' : Bool} {w : World} (h : U32 w D A n c l) (h' : U32 w D A' n' c' l') (hb : n ≤ 900000000) (hb' : n' ≤ 900000000) (hf : Fr D w) :
    Calls Tryz.prog 64 #[.agg #[.bool s, .slice A n c], .agg #[.bool s', .slice A' n' c']] w fun e w' => ∃ s9 A9 n9 c9, e = .returned (.agg #[.bool s9, .slice A9 n9 c9]) ∧ Ext w w' ∧ Big w' D s9 A9 n9 c9 (sgn s (val l) + sgn s' (val l')) := by
  refine calls_W Tryz.func64 rfl Tryz.ntmps64 (by kernel_rfl) ?_
  refine W_seq_reg fun K hK => ?_
  simp -implicitDefEqProofs (disch := omega) only [go_sem, Nat.reduceEqDiff, Nat.reduceAdd, ↓reduceIte]
  refine boxW_of ?_
  intro g1 w1 hg1 hx1 hb1 hs1
  refine boxW_of ?_
  intro g2 w2 hg2 hx2 hb2 hs2
  refine alW_of ?_
  intro g3 w3 hg3 hx3 hb3 hs3
  refine hK _ _ ?_; clear hK
  replace hb1 := (hb1.ext hx2).ext hx3
  replace hb2 := hb2.ext hx3
  have hxx := (hx1.trans hx2).trans hx3
  replace h := h.ext hxx
  replace h' := h'.ext hxx
  have hc0 : ∀ w', Ext w3 w' → w'.cell? ⟨g1, 0, none⟩ = some (.bool s) := fun w' hw => (hb1.ext hw).cell 0
  have hc1 : ∀ w', Ext w3 w' → w'.cell? ⟨g1, 1, none⟩ = some (.slice A n c) := fun w' hw => (hb1.ext hw).cell 1
  have hc0' : ∀ w', Ext w3 w' → w'.cell? ⟨g2, 0, none⟩ = some (.bool s') := fun w' hw => (hb2.ext hw).cell 0
  have hc1' : ∀ w', Ext w3 w' → w'.cell? ⟨g2, 1, none⟩ = some (.slice A' n' c') := fun w' hw => (hb2.ext hw).cell 1
  refine W_seq_k fun K1 hK1 => ?_
  refine W_dS true mixed (Kp.pre (fun _ => True)) (fun _ _ _ h => h) [true, true, false, true, true, false, false, false] [(9, isU (Dx D w.heap.size w3.heap.size) (lim (val l))), (12, isU (Dx D w.heap.size w3.heap.size) (lim (val l'))), (5, isU (Dx D w.heap.size w3.heap.size) (lim (val l)))] (by kernel_rfl) fun KE hKE => ?_
  simp -implicitDefEqProofs (disch := omega) only [go_sem, Nat.reduceEqDiff, Nat.reduceAdd, ↓reduceIte, hc1 _ (Kp.refl _ _), hc1' _ (Kp.refl _ _)]
  refine hKE _ ⟨?_, fun e' w' hw hs ho => ?_⟩ <;> clear hKE KE
  · refine stepsL_cons (fun e' w' hw hd ho => ?_) ?_
    · skip
      have o8 := ho 8 (by kernel_rfl) (by kernel_rfl)
      simp -implicitDefEqProofs (disch := omega) only [go_sem, Nat.reduceEqDiff, Nat.reduceAdd, ↓reduceIte, o8]
      refine callW_of cal131 (rtrim_ok (h.ext hw) (by omega)) ?_
      rintro _ w4 ⟨A4, n4, c4, rfl, hx4, hO4⟩; refine ⟨_, rfl, ?_⟩
      exact ⟨hx4, fun d hd => by cases hd; exact ⟨_, _, _, rfl, hO4.u32 fun k hk => Dx.ge (hf k (by have := hw.size; have := hxx.size; omega)) (by have := hw.size; omega)⟩⟩
    refine stepsL_cons (fun e' w' hw hd ho => ?_) ?_
    · skip
      have o11 := ho 11 (by kernel_rfl) (by kernel_rfl)
      simp -implicitDefEqProofs (disch := omega) only [go_sem, Nat.reduceEqDiff, Nat.reduceAdd, ↓reduceIte, o11]
      refine callW_of cal131 (rtrim_ok (h'.ext hw) (by omega)) ?_
      rintro _ w4 ⟨A4, n4, c4, rfl, hx4, hO4⟩; refine ⟨_, rfl, ?_⟩
      exact ⟨hx4, fun d hd => by cases hd; exact ⟨_, _, _, rfl, hO4.u32 fun k hk => Dx.ge (hf k (by have := hw.size; have := hxx.size; omega)) (by have := hw.size; omega)⟩⟩
    refine stepsL_cons (fun e' w' hw hd ho => ?_) ?_
    · skip
      have h9 := hd 9 (by kernel_rfl) (by kernel_rfl)
      obtain ⟨A4, n4, c4, h9, hU4⟩ := h9
      simp -implicitDefEqProofs (disch := omega) only [go_sem, Nat.reduceEqDiff, Nat.reduceAdd, ↓reduceIte, h9]
      exact ⟨Kp.refl _ _, fun d hd => by cases hd; exact ⟨_, _, _, rfl, hU4⟩⟩
    exact stepsL_nil
  · have h12 := hs 12 (by kernel_rfl)
    have h5 := hs 5 (by kernel_rfl)
    obtain ⟨A4, n4, c4, h5, hU⟩ := h5
    obtain ⟨A5, n5, c5, h12, hU'⟩ := h12
    have o2 : e' 2 = .pointer (some ⟨g1, 0, none⟩) := ho 2 (by kernel_rfl)
    have o3 : e' 3 = .pointer (some ⟨g2, 0, none⟩) := ho 3 (by kernel_rfl)
    have o4 : e' 4 = .pointer (some ⟨g3, 0, none⟩) := ho 4 (by kernel_rfl)
    clear hs ho
    simp -implicitDefEqProofs (disch := omega) only [go_sem, Nat.reduceEqDiff, Nat.reduceAdd, ↓reduceIte, h12]
    refine hK1 _ _ ?_; clear hK1
    have hD : Fr (Dx D w.heap.size w3.heap.size) w' := Dx.fr ((hf.kp hxx).kp hw) hw.size
    have hn4 : n4 ≤ 900000000 := by have h1 := hU.len; have h2 := len_val h; omega
    have hn5 : n5 ≤ 900000000 := by have h1 := hU'.len; have h2 := len_val h'; omega
    replace hb3 := hb3.ext hw
    have hxw := hxx.trans hw
    refine W_seq_k fun K1 hK1 => ?_
    have hq : (s == s') = decide (s = s') := by cases s <;> cases s' <;> rfl
    have hcs := hc0 _ hw
    have hcs' := hc0' _ hw
    by_cases hss : s = s'
    · subst hss
      refine W_seq_reg fun K hK => ?_
      simp -implicitDefEqProofs (disch := omega) only [go_sem, Nat.reduceEqDiff, Nat.reduceAdd, ↓reduceIte, o2, o3, hcs, hcs', beq_self_eq_true]
      refine hK _ _ ?_; clear hK K
      refine W_cond rfl (fun hc => ?_) (fun hc => by cases hc)
      refine W_seq_k fun K hK => ?_
      refine W_dS true mixed (Kp.pre (fun _ => True)) (fun _ _ _ h => h) [true, true, true, true, false, false, false] [(22, isV (Dx D w.heap.size w3.heap.size) 900000001 (val l + val l')), (23, isB (Dx D w.heap.size w3.heap.size) (sgn s (val l) + sgn s (val l')))] (by kernel_rfl) fun KE hKE => ?_
      simp -implicitDefEqProofs (disch := omega) only [go_sem, Nat.reduceEqDiff, Nat.reduceAdd, ↓reduceIte, o2, hcs, h5]
      refine hKE _ ⟨?_, fun e' w' hw hs ho => ?_⟩ <;> clear hKE KE
      · refine stepsL_cons (fun e' w' hw hd ho => ?_) ?_
        · skip
          have o20 := ho 20 (by kernel_rfl) (by kernel_rfl)
          have o21 := ho 21 (by kernel_rfl) (by kernel_rfl)
          simp -implicitDefEqProofs (disch := omega) only [go_sem, Nat.reduceEqDiff, Nat.reduceAdd, ↓reduceIte, o20, o21]
          refine callW_of cal132 (addMag_ok (hU.ext hw) (hU'.ext hw) (by omega) (by omega)) ?_
          rintro _ w4 ⟨A6, n6, c6, l6, rfl, hx4, hO6, hv6, hn6⟩; refine ⟨_, rfl, ?_⟩
          exact ⟨hx4, fun d hd => by cases hd; exact ⟨_, _, _, _, rfl, hO6.u32 fun k hk => hD k (by have := hw.size; omega), by rw [hv6, val_lim, val_lim], by omega⟩⟩
        refine stepsL_cons (fun e' w' hw hd ho => ?_) ?_
        · skip
          have o19 := ho 19 (by kernel_rfl) (by kernel_rfl)
          have h22 := hd 22 (by kernel_rfl) (by kernel_rfl)
          obtain ⟨A6, n6, c6, l6, h22, hU6, hv6, hn6⟩ := h22
          simp -implicitDefEqProofs (disch := omega) only [go_sem, Nat.reduceEqDiff, Nat.reduceAdd, ↓reduceIte, h22, o19]
          refine callW_of cal129 (make1_ok hU6 (by omega) (hD.kp hw)) ?_
          rintro _ w4 ⟨s7, A7, n7, c7, rfl, hx4, hB⟩; refine ⟨_, rfl, ?_⟩
          rw [hv6] at hB
          exact ⟨hx4, fun d hd => by cases hd; exact ⟨_, _, _, _, rfl, by rw [show sgn s (val l) + sgn s (val l') = sgn s (val l + val l') by cases s <;> simp [sgn] <;> omega]; exact hB⟩⟩
        exact stepsL_nil
      · have o4 := ho 4 (by kernel_rfl)
        have h23 := hs 23 (by kernel_rfl)
        obtain ⟨s7, A7, n7, c7, h23, hB⟩ := h23
        have o4 : e' 4 = .pointer (some ⟨g3, 0, none⟩) := (ho 4 (by kernel_rfl)).trans (by (try simp only [upd_ap, Nat.reduceEqDiff, ↓reduceIte]); first | done | assumption | exact rfl)
        clear hs ho
        simp -implicitDefEqProofs (disch := omega) only [go_sem, Nat.reduceEqDiff, Nat.reduceAdd, ↓reduceIte, h23, o4]
        replace hb3 := hb3.ext hw
        have hx := hxw.trans hw
        refine storeW_of hb3 siz35 rfl rfl fun w9 hk9 hb9 => ?_
        refine hK _ _ ?_; clear hK
        refine W_ret ?_
        try simp only [thenE_r, inB_r]
        exact (retC1 rfl (resV_blk (by first | exact rfl | assumption) agg35 hb9 rfl) ⟨_, _, _, _, rfl, (hx).under hk9 (fun k hk => by omega), (hB.kp (hk9.mono fun k _ h => Dx.ne h (by omega) (by omega))).sub fun k _ h => h.1⟩)
    · have hss' : (s == s') = false := by rw [hq]; simpa using hss
      refine W_seq_reg fun K hK => ?_
      simp -implicitDefEqProofs (disch := omega) only [go_sem, Nat.reduceEqDiff, Nat.reduceAdd, ↓reduceIte, o2, o3, hcs, hcs', hss']
      refine hK _ _ ?_; clear hK K
      refine W_cond rfl (fun hc => by cases hc) (fun hc => W_skip (hK1 _ _ ?_))
      clear hK1
      refine W_seq_k fun K1 hK1 => ?_
      refine W_seq_reg fun K hK => ?_
      simp -implicitDefEqProofs (disch := omega) only [go_sem, Nat.reduceEqDiff, Nat.reduceAdd, ↓reduceIte, h5]
      refine callW_of cal133 (cmpMag_ok hU hU' (by omega) (by omega)) ?_
      rintro _ w8 ⟨rfl, hx8⟩; refine ⟨_, rfl, ?_⟩
      have hs' : s' = !s := by cases s <;> cases s' <;> simp_all
      replace hb3 := hb3.ext hx8
      replace hxw := hxw.trans hx8
      replace hcs := hc0 _ (hw.trans hx8)
      replace hcs' := hc0' _ (hw.trans hx8)
      replace hU := hU.ext hx8
      replace hU' := hU'.ext hx8
      replace hD := hD.kp hx8
      have hsz := hx8.size
      by_cases hle : val l' ≤ val l
      · have hg : (cmpI (val l) (val l') ≥ 0) := by unfold cmpI; split <;> (try split) <;> omega
        have hnn : n5 ≤ n4 := by
          have h1 := hU.len; have h2 := hU'.len; have h3 := len_mono hle; omega
        simp -implicitDefEqProofs (disch := omega) only [go_sem, Nat.reduceEqDiff, Nat.reduceAdd, ↓reduceIte, hg]
        refine hK _ _ ?_; clear hK
        refine W_cond rfl (fun hc => ?_) (fun hc => by cases hc)
        refine W_seq_k fun K hK => ?_
        refine W_dS true mixed (Kp.pre (fun _ => True)) (fun _ _ _ h => h) [true, true, true, true, false, false, false] [(32, isV (Dx D w.heap.size w3.heap.size) 900000001 (val l - val l')), (33, isB (Dx D w.heap.size w3.heap.size) (sgn s (val l) + sgn s' (val l')))] (by kernel_rfl) fun KE hKE => ?_
        simp -implicitDefEqProofs (disch := omega) only [go_sem, Nat.reduceEqDiff, Nat.reduceAdd, ↓reduceIte, o2, hcs, h5]
        refine hKE _ ⟨?_, fun e' w' hw hs ho => ?_⟩ <;> clear hKE KE
        · refine stepsL_cons (fun e' w' hw hd ho => ?_) ?_
          · skip
            have o30 := ho 30 (by kernel_rfl) (by kernel_rfl)
            have o31 := ho 31 (by kernel_rfl) (by kernel_rfl)
            simp -implicitDefEqProofs (disch := omega) only [go_sem, Nat.reduceEqDiff, Nat.reduceAdd, ↓reduceIte, o30, o31]
            refine callW_of cal134 (subMag_ok (hU.ext hw) (hU'.ext hw) (by omega) hnn (by rw [val_lim, val_lim]; exact hle)) ?_
            rintro _ w4 ⟨A6, c6, l6, rfl, hx4, hO6, hv6⟩; refine ⟨_, rfl, ?_⟩
            exact ⟨hx4, fun d hd => by cases hd; exact ⟨_, _, _, _, rfl, hO6.u32 fun k hk => hD k (by have := hw.size; omega), by rw [hv6, val_lim, val_lim], by omega⟩⟩
          refine stepsL_cons (fun e' w' hw hd ho => ?_) ?_
          · skip
            have o29 := ho 29 (by kernel_rfl) (by kernel_rfl)
            have h32 := hd 32 (by kernel_rfl) (by kernel_rfl)
            obtain ⟨A6, n6, c6, l6, h32, hU6, hv6, hn6⟩ := h32
            simp -implicitDefEqProofs (disch := omega) only [go_sem, Nat.reduceEqDiff, Nat.reduceAdd, ↓reduceIte, h32, o29]
            refine callW_of cal129 (make1_ok hU6 (by omega) (hD.kp hw)) ?_
            rintro _ w4 ⟨s7, A7, n7, c7, rfl, hx4, hB⟩; refine ⟨_, rfl, ?_⟩
            rw [hv6] at hB
            exact ⟨hx4, fun d hd => by cases hd; exact ⟨_, _, _, _, rfl, by rw [show sgn s (val l) + sgn s' (val l') = sgn s (val l - val l') by rw [hs']; cases s <;> simp [sgn] <;> omega]; exact hB⟩⟩
          exact stepsL_nil
        · have o4 := ho 4 (by kernel_rfl)
          have h33 := hs 33 (by kernel_rfl)
          obtain ⟨s7, A7, n7, c7, h33, hB⟩ := h33
          have o4 : e' 4 = .pointer (some ⟨g3, 0, none⟩) := (ho 4 (by kernel_rfl)).trans (by (try simp only [upd_ap, Nat.reduceEqDiff, ↓reduceIte]); first | done | assumption | exact rfl)
          clear hs ho
          simp -implicitDefEqProofs (disch := omega) only [go_sem, Nat.reduceEqDiff, Nat.reduceAdd, ↓reduceIte, h33, o4]
          replace hb3 := hb3.ext hw
          have hx := hxw.trans hw
          refine storeW_of hb3 siz35 rfl rfl fun w9 hk9 hb9 => ?_
          refine hK _ _ ?_; clear hK
          refine W_ret ?_
          try simp only [thenE_r, inB_r]
          exact (retC1 rfl (resV_blk (by first | exact rfl | assumption) agg35 hb9 rfl) ⟨_, _, _, _, rfl, (hx).under hk9 (fun k hk => by omega), (hB.kp (hk9.mono fun k _ h => Dx.ne h (by omega) (by omega))).sub fun k _ h => h.1⟩)
      · have hg : ¬ (cmpI (val l) (val l') ≥ 0) := by unfold cmpI; split <;> (try split) <;> omega
        have hnn : n4 ≤ n5 := by
          have h1 := hU.len; have h2 := hU'.len; have h3 := len_mono (Nat.le_of_not_le hle); omega
        simp -implicitDefEqProofs (disch := omega) only [go_sem, Nat.reduceEqDiff, Nat.reduceAdd, ↓reduceIte, hg]
        refine hK _ _ ?_; clear hK
        refine W_cond rfl (fun hc => by cases hc) (fun hc => W_skip (hK1 _ _ ?_))
        clear hK1
        refine W_seq_k fun K hK => ?_
        refine W_dS true mixed (Kp.pre (fun _ => True)) (fun _ _ _ h => h) [true, true, true, true, false, false, false] [(38, isV (Dx D w.heap.size w3.heap.size) 900000001 (val l' - val l)), (39, isB (Dx D w.heap.size w3.heap.size) (sgn s (val l) + sgn s' (val l')))] (by kernel_rfl) fun KE hKE => ?_
        simp -implicitDefEqProofs (disch := omega) only [go_sem, Nat.reduceEqDiff, Nat.reduceAdd, ↓reduceIte, o3, hcs', h5]
        refine hKE _ ⟨?_, fun e' w' hw hs ho => ?_⟩ <;> clear hKE KE
        · refine stepsL_cons (fun e' w' hw hd ho => ?_) ?_
          · skip
            have o36 := ho 36 (by kernel_rfl) (by kernel_rfl)
            have o37 := ho 37 (by kernel_rfl) (by kernel_rfl)
            simp -implicitDefEqProofs (disch := omega) only [go_sem, Nat.reduceEqDiff, Nat.reduceAdd, ↓reduceIte, o36, o37]
            refine callW_of cal134 (subMag_ok (hU'.ext hw) (hU.ext hw) (by omega) hnn (by rw [val_lim, val_lim]; omega)) ?_
            rintro _ w4 ⟨A6, c6, l6, rfl, hx4, hO6, hv6⟩; refine ⟨_, rfl, ?_⟩
            exact ⟨hx4, fun d hd => by cases hd; exact ⟨_, _, _, _, rfl, hO6.u32 fun k hk => hD k (by have := hw.size; omega), by rw [hv6, val_lim, val_lim], by omega⟩⟩
          refine stepsL_cons (fun e' w' hw hd ho => ?_) ?_
          · skip
            have o35 := ho 35 (by kernel_rfl) (by kernel_rfl)
            have h38 := hd 38 (by kernel_rfl) (by kernel_rfl)
            obtain ⟨A6, n6, c6, l6, h38, hU6, hv6, hn6⟩ := h38
            simp -implicitDefEqProofs (disch := omega) only [go_sem, Nat.reduceEqDiff, Nat.reduceAdd, ↓reduceIte, h38, o35]
            refine callW_of cal129 (make1_ok hU6 (by omega) (hD.kp hw)) ?_
            rintro _ w4 ⟨s7, A7, n7, c7, rfl, hx4, hB⟩; refine ⟨_, rfl, ?_⟩
            rw [hv6] at hB
            exact ⟨hx4, fun d hd => by cases hd; exact ⟨_, _, _, _, rfl, by rw [show sgn s (val l) + sgn s' (val l') = sgn s' (val l' - val l) by rw [hs']; cases s <;> simp [sgn] <;> omega]; exact hB⟩⟩
          exact stepsL_nil
        · have o4 := ho 4 (by kernel_rfl)
          have h39 := hs 39 (by kernel_rfl)
          obtain ⟨s7, A7, n7, c7, h39, hB⟩ := h39
          have o4 : e' 4 = .pointer (some ⟨g3, 0, none⟩) := (ho 4 (by kernel_rfl)).trans (by (try simp only [upd_ap, Nat.reduceEqDiff, ↓reduceIte]); first | done | assumption | exact rfl)
          clear hs ho
          simp -implicitDefEqProofs (disch := omega) only [go_sem, Nat.reduceEqDiff, Nat.reduceAdd, ↓reduceIte, h39, o4]
          replace hb3 := hb3.ext hw
          have hx := hxw.trans hw
          refine storeW_of hb3 siz35 rfl rfl fun w9 hk9 hb9 => ?_
          refine hK _ _ ?_; clear hK
          refine W_ret ?_
          try simp only [thenE_r, inB_r]
          exact (retC1 rfl (resV_blk (by first | exact rfl | assumption) agg35 hb9 rfl) ⟨_, _, _, _, rfl, (hx).under hk9 (fun k hk => by omega), (hB.kp (hk9.mono fun k _ h => Dx.ne h (by omega) (by omega))).sub fun k _ h => h.1⟩)
end Go.Proofs.YtjamnehcmaloeaaGreatDoor
end
section
namespace Go.Proofs.YtjamnehcmaloeaaGreatDoor
open Go Go.E Go.Sp
theorem mulMag_ok {D : Nat → Prop} {A A' : Option Addr} {n n' c c' : Nat} {l l' : List Nat} {w : World} (h : U32 w D A n c l) (h' : U32 w D A' n' c' l') (hb : n ≤ 400000000) (hb' : n' ≤ 400000000) :
    Calls Tryz.prog 130 #[.slice A n c, .slice A' n' c'] w fun e w' => ∃ A2 c2 l2, e = .returned (.slice A2 (n + n') c2) ∧ Ext w w' ∧ OwnU w' w.heap.size A2 (n + n') c2 l2 ∧ val l2 = val l * val l' := by
  refine calls_W Tryz.func130 rfl Tryz.ntmps130 (by kernel_rfl) ?_
  refine W_seq_reg fun K hK => ?_
  simp -implicitDefEqProofs (disch := omega) only [go_sem, Nat.reduceEqDiff, Nat.reduceAdd, ↓reduceIte]
  refine hK _ _ ?_; clear hK K
  have hl := h.len
  have hl' := h'.len
  have hsum : IntKind.i64.wrap ((n : Int) + (n' : Int)) = ((n + n' : Nat) : Int) := by rw [i64_in (by omega) (by omega)]; omega
  refine W_seq_reg fun K hK => ?_
  simp -implicitDefEqProofs (disch := omega) only [go_sem, Nat.reduceEqDiff, Nat.reduceAdd, ↓reduceIte, hsum]
  refine mkU (Nat.le_refl _) (by omega) fun w0 hx0 hO0 => ?_
  refine hK _ _ ?_; clear hK
  generalize hg : w.heap.size = g at hO0
  refine W_seq_k fun K0 hK0 => ?_
  refine W_seq_reg fun K hK => ?_
  simp -implicitDefEqProofs (disch := omega) only [go_sem, Nat.reduceEqDiff, Nat.reduceAdd, ↓reduceIte]
  refine hK _ _ ?_; clear hK K
  refine W_block ?_
  refine W_loop (fun e2 w2 => ∃ (i : Nat) (o : List Nat), e2 6 = .int .i64 i ∧ i ≤ n ∧ Ext w w2 ∧ OwnU w2 g (some ⟨g, 0, none⟩) (n + n') (n + n') o ∧ val o = val (l.take i) * val l' ∧ ∀ q, i + n' ≤ q → o.getD q 0 = 0) (fun e2 _ => n - (RowKit.intOf (e2 6)).toNat) ⟨0, _, rfl, Nat.zero_le _, hx0, hO0, by simp [val, val_zeros], fun q _ => by simp [List.getD_eq_getElem?_getD, List.getElem?_replicate]; split <;> rfl⟩ ?_
  rintro e1 w1 ⟨i, o, h6, hin, hx, hO, hv, hz⟩ hkk
  have h0 : e1 0 = .slice A n c := (hkk 0 (by kernel_rfl)).trans rfl
  have h1 : e1 1 = .slice A' n' c' := (hkk 1 (by kernel_rfl)).trans rfl
  have h5 : e1 5 = .slice (some ⟨g, 0, none⟩) (n + n') (n + n') := (hkk 5 (by kernel_rfl)).trans (by (try simp only [upd_ap, Nat.reduceEqDiff, ↓reduceIte]); first | done | assumption | exact rfl)
  clear hkk
  refine W_seq_k fun K1 hK1 => ?_
  by_cases hlt : i < n
  · have hlt' : (i : Int) < n := by omega
    refine W_seq_reg fun K hK => ?_
    simp -implicitDefEqProofs (disch := omega) only [go_sem, Nat.reduceEqDiff, Nat.reduceAdd, ↓reduceIte, h6, h0, hlt']
    refine hK _ _ ?_; clear hK K
    refine W_cond rfl (fun hc1 => W_skip (hK1 _ _ ?_)) (fun hc1 => by cases hc1)
    clear hK1
    refine W_seq_blk fun K hK => ?_
    refine W_seq_reg fun K hK => ?_
    simp -implicitDefEqProofs (disch := omega) only [go_sem, Nat.reduceEqDiff, Nat.reduceAdd, ↓reduceIte]
    refine hK _ _ ?_; clear hK K
    have hd1 := h.dg_lt i
    obtain ⟨ad, rfl, _⟩ := (h.ext hx).cell hlt
    refine W_seq_k fun K1 hK1 => ?_
    refine W_seq_reg fun K hK => ?_
    simp -implicitDefEqProofs (disch := omega) only [go_sem, Nat.reduceEqDiff, Nat.reduceAdd, ↓reduceIte]
    refine hK _ _ ?_; clear hK K
    refine W_block ?_
    refine W_loop (fun e2 w2 => ∃ (j cr : Nat) (o : List Nat), e2 8 = .int .i64 j ∧ e2 7 = .int .u64 cr ∧ j ≤ n' ∧ cr < 4294967296 ∧ Ext w w2 ∧ OwnU w2 g (some ⟨g, 0, none⟩) (n + n') (n + n') o ∧ val o + B ^ (i + j) * cr = val (l.take i) * val l' + B ^ i * (dg l i * val (l'.take j)) ∧ ∀ q, i + n' ≤ q → o.getD q 0 = 0) (fun e2 _ => n' - (RowKit.intOf (e2 8)).toNat) ⟨0, 0, o, rfl, (by (try simp only [upd_ap, Nat.reduceEqDiff, ↓reduceIte]); first | done | assumption | exact rfl), Nat.zero_le _, by omega, hx, hO, by simp [hv, val], hz⟩ ?_
    clear hv hz hO
    rintro e2 w2 ⟨j, cr, o, g8, g7, hjn, hcr, hx, hO, hv, hz⟩ hkk
    have g0 : e2 0 = .slice (some ad) n c := (hkk 0 (by kernel_rfl)).trans (by (try simp only [upd_ap, Nat.reduceEqDiff, ↓reduceIte]); first | done | assumption | exact rfl)
    have g1 : e2 1 = .slice A' n' c' := (hkk 1 (by kernel_rfl)).trans (by (try simp only [upd_ap, Nat.reduceEqDiff, ↓reduceIte]); first | done | assumption | exact rfl)
    have g5 : e2 5 = .slice (some ⟨g, 0, none⟩) (n + n') (n + n') := (hkk 5 (by kernel_rfl)).trans (by (try simp only [upd_ap, Nat.reduceEqDiff, ↓reduceIte]); first | done | assumption | exact rfl)
    have g6 : e2 6 = .int .i64 i := (hkk 6 (by kernel_rfl)).trans (by (try simp only [upd_ap, Nat.reduceEqDiff, ↓reduceIte]); first | done | assumption | exact rfl)
    clear hkk
    have hol : o.length = n + n' := by have := hO.1.len; simpa using this
    refine W_seq_k fun K2 hK2 => ?_
    by_cases hjt : j < n'
    · have hjt' : (j : Int) < n' := by omega
      refine W_seq_reg fun K hK => ?_
      simp -implicitDefEqProofs (disch := omega) only [go_sem, Nat.reduceEqDiff, Nat.reduceAdd, ↓reduceIte, g8, g1, hjt']
      refine hK _ _ ?_; clear hK K
      refine W_cond rfl (fun hc1 => W_skip (hK2 _ _ ?_)) (fun hc1 => by cases hc1)
      clear hK2
      refine W_seq_blk fun K3 hK3 => ?_
      have hd2 := h'.dg_lt j
      obtain ⟨ad2, rfl, hcc2⟩ := (h'.ext hx).cell hjt
      obtain ⟨ad1, hq, hcc1⟩ := (h.ext hx).cell hlt
      cases hq
      obtain ⟨q, hqe⟩ : ∃ q, q = i + j := ⟨_, rfl⟩
      obtain ⟨_, hq, _, hcc3, _⟩ := hO.1.cell (j := q) (by simp; omega)
      cases hq
      have hcc3' : w2.cell? ⟨g, q, none⟩ = some (.int .u32 ((o.getD q 0 : Nat) : Int)) := by
        rw [hcc3]; simp [u32v, show q < o.length by omega]
      have hd3 := hO.2.get q
      have hbd := mul_bound hcr hd1 hd2 hd3
      have hs : IntKind.i64.wrap ((i : Int) + (j : Int)) = (q : Int) := by rw [i64_in (by omega) (by omega)]; omega
      have r1 : (0 : Int) ≤ i ∧ (i : Int) < n := by omega
      have r2 : (0 : Int) ≤ j ∧ (j : Int) < n' := by omega
      have r3 : (0 : Int) ≤ q ∧ (q : Int) < (n + n' : Nat) := by omega
      have m1 : cr + dg l i * dg l' j < 18446744073709551616 := by unfold dg; unfold dg at hbd; omega
      have m0 : dg l i * dg l' j < 18446744073709551616 := by omega
      have m2 : cr + dg l i * dg l' j + o.getD q 0 < 18446744073709551616 := hbd.1
      refine W_seq_k fun K4 hK4 => ?_
      refine W_dQ mixed [true, true, true, true, true, true, true, true, true, true, true, true, true, true, true, true, true, true, true, true, true, true] (by kernel_rfl) fun KE hKE => ?_
      simp -implicitDefEqProofs (maxSteps := 600000) (disch := omega) only [go_sem, Nat.reduceEqDiff, Nat.reduceAdd, ↓reduceIte, g7, g0, g6, g1, g8, g5, r1, r2, r3, hs, hcc1, hcc2, hcc3', mul64N m0, add64N m1, add64N m2]
      refine hKE _ fun w3 hx3 => ?_; clear hKE KE
      refine hK4 _ _ ?_; clear hK4
      refine W_seq_reg fun K hK => ?_
      simp -implicitDefEqProofs (disch := omega) only [go_sem, Nat.reduceEqDiff, Nat.reduceAdd, ↓reduceIte, g5, g6, g8, r3, hs]
      have hO3 : OwnU w3 g (some ⟨g, 0, none⟩) (n + n') (n + n') o := ⟨hO.1.ext hx3, hO.2⟩
      have hxx := hx.trans hx3
      refine storeU hO3 (by omega) (Nat.mod_lt _ (by omega)) fun w4 hO4 hk4 hs4 => ?_
      refine hK _ _ ?_; clear hK
      refine W_regK fun K9 hK9 => ?_
      simp -implicitDefEqProofs (disch := omega) only [go_sem, Nat.reduceEqDiff, Nat.reduceAdd, ↓reduceIte]
      refine hK9 _ _ ?_; clear hK9 K9
      refine hK3 _ _ ?_; clear hK3
      refine W_regK fun K9 hK9 => ?_
      simp -implicitDefEqProofs (disch := omega) only [go_sem, Nat.reduceEqDiff, Nat.reduceAdd, ↓reduceIte, g8, i64_in]
      refine hK9 _ _ ?_; clear hK9 K9
      have hv' : val o + B ^ q * cr = val (l.take i) * val l' + B ^ i * (dg l i * val (l'.take j)) := by rw [hqe]; exact hv
      have key := mul_step (x := dg l i) (y := dg l' j) (by omega : q < o.length) hv'
      refine ⟨⟨j + 1, _, _, rfl, rfl, by omega, ?_, by subst hg; exact hO3.1.under hxx hk4, hO4, ?_, ?_⟩, ?_⟩
      · omega
      · rw [← Nat.add_assoc, ← hqe, key, vts, hqe, Nat.pow_add, Nat.mul_add, Nat.mul_add]
        unfold dg
        rw [Nat.add_assoc]
        congr 2
        rw [Nat.mul_assoc, Nat.mul_left_comm (B ^ j)]
      · intro q' hq'
        rw [getD_set (by omega)]; exact hz q' hq'
      · simp only [upd_ap, ↓reduceIte, RowKit.intOf, g8]; omega
    · have hjt' : ¬ (j : Int) < n' := by omega
      refine W_seq_reg fun K hK => ?_
      simp -implicitDefEqProofs (disch := omega) only [go_sem, Nat.reduceEqDiff, Nat.reduceAdd, ↓reduceIte, g8, g1, hjt']
      refine hK _ _ ?_; clear hK K
      refine W_cond rfl (fun hc => by cases hc) (fun hc => W_exit (hK1 _ _ ?_))
      clear hK1 hK2
      obtain rfl : j = n' := by omega
      have hs : IntKind.i64.wrap ((i : Int) + (j : Int)) = ((i + j : Nat) : Int) := i64_in (by omega) (by omega)
      have r3 : (0 : Int) ≤ (i + j : Nat) ∧ ((i + j : Nat) : Int) < (n + j : Nat) := by omega
      refine W_regK fun K9 hK9 => ?_
      simp -implicitDefEqProofs (disch := omega) only [go_sem, Nat.reduceEqDiff, Nat.reduceAdd, ↓reduceIte, g5, g6, g1, g7, hs, r3]
      refine storeU hO (by omega) (Nat.mod_lt _ (by omega)) fun w4 hO4 hk4 hs4 => ?_
      refine hK9 _ _ ?_; clear hK9 K9
      refine hK _ _ ?_; clear hK
      refine W_regK fun K9 hK9 => ?_
      simp -implicitDefEqProofs (disch := omega) only [go_sem, Nat.reduceEqDiff, Nat.reduceAdd, ↓reduceIte, g6, i64_in]
      refine hK9 _ _ ?_; clear hK9 K9
      refine ⟨⟨i + 1, _, rfl, by omega, by subst hg; exact hO.1.under hx hk4, hO4, ?_, ?_⟩, ?_⟩
      · have h1 := val_set (o := o) (p := i + j) (cr % 4294967296) (by omega)
        rw [hz (i + j) (by omega), Nat.mul_zero, Nat.add_zero, Nat.mod_eq_of_lt hcr] at h1
        rw [Nat.mod_eq_of_lt hcr, h1, hv, vts, val_take_ge l' _ (by omega), Nat.add_mul, Nat.mul_assoc]
        rfl
      · intro q' hq'
        rw [getD_set (by omega)]; exact hz q' (by omega)
      · simp only [upd_ap, ↓reduceIte, RowKit.intOf, h6]; omega
  · have hlt' : ¬ (i : Int) < n := by omega
    refine W_seq_reg fun K hK => ?_
    simp -implicitDefEqProofs (disch := omega) only [go_sem, Nat.reduceEqDiff, Nat.reduceAdd, ↓reduceIte, h6, h0, hlt']
    refine hK _ _ ?_; clear hK K
    refine W_cond rfl (fun hc1 => by cases hc1) (fun hc1 => W_exit ?_)
    obtain rfl : i = n := by omega
    refine hK0 _ _ ?_; clear hK0 hK1
    refine W_seq_reg fun K hK => ?_
    simp -implicitDefEqProofs (disch := omega) only [go_sem, Nat.reduceEqDiff, Nat.reduceAdd, ↓reduceIte, h5]
    refine hK _ _ ?_; clear hK K
    rw [val_take_ge l _ (by omega)] at hv
    subst hg
    refine W_ret ?_
    try simp only [thenE_r, inB_r]
    refine ret1 rfl ⟨_, _, o, rfl, hx, hO, hv⟩
theorem sgn_mul (s s' : Bool) (a b : Nat) : sgn s a * sgn s' b = sgn (s != s') (a * b) := by
  cases s <;> cases s' <;> simp [sgn, Int.neg_mul, Int.mul_neg]
theorem rMul_ok {D : Nat → Prop} {A A' : Option Addr} {n c n' c' : Nat} {l l' : List Nat} {s s' : Bool} {w : World} (h : U32 w D A n c l) (h' : U32 w D A' n' c' l') (hb : n ≤ 400000000) (hb' : n' ≤ 400000000) (hf : Fr D w) :
    Calls Tryz.prog 62 #[.agg #[.bool s, .slice A n c], .agg #[.bool s', .slice A' n' c']] w fun e w' => ∃ s9 A9 n9 c9, e = .returned (.agg #[.bool s9, .slice A9 n9 c9]) ∧ Ext w w' ∧ Big w' D s9 A9 n9 c9 (sgn s (val l) * sgn s' (val l')) := by
  refine calls_W Tryz.func62 rfl Tryz.ntmps62 (by kernel_rfl) ?_
  refine W_seq_reg fun K hK => ?_
  simp -implicitDefEqProofs (disch := omega) only [go_sem, Nat.reduceEqDiff, Nat.reduceAdd, ↓reduceIte]
  refine boxW_of ?_
  intro g1 w1 hg1 hx1 hb1 hs1
  refine boxW_of ?_
  intro g2 w2 hg2 hx2 hb2 hs2
  refine alW_of ?_
  intro g3 w3 hg3 hx3 hb3 hs3
  refine hK _ _ ?_; clear hK
  replace hb1 := (hb1.ext hx2).ext hx3
  replace hb2 := hb2.ext hx3
  have hxx := (hx1.trans hx2).trans hx3
  replace h := h.ext hxx
  replace h' := h'.ext hxx
  have hc0 : w3.cell? ⟨g1, 0, none⟩ = some (.bool s) := hb1.cell 0
  have hc1 : w3.cell? ⟨g1, 1, none⟩ = some (.slice A n c) := hb1.cell 1
  have hc0' : w3.cell? ⟨g2, 0, none⟩ = some (.bool s') := hb2.cell 0
  have hc1' : w3.cell? ⟨g2, 1, none⟩ = some (.slice A' n' c') := hb2.cell 1
  have hD : Fr (Dx D w.heap.size w3.heap.size) w3 := Dx.fr (hf.kp hxx) (Nat.le_refl _)
  refine W_seq_k fun K hK => ?_
  refine W_dS true mixed (Kp.pre (fun _ => True)) (fun _ _ _ h => h) [true, true, true, true, true, true, true, false, true, true, false, false, false, false] [(12, isV (Dx D w.heap.size w3.heap.size) 400000000 (val l)), (15, isV (Dx D w.heap.size w3.heap.size) 400000000 (val l')), (16, isV (Dx D w.heap.size w3.heap.size) 800000000 (val l * val l')), (17, isB (Dx D w.heap.size w3.heap.size) (sgn s (val l) * sgn s' (val l')))] (by kernel_rfl) fun KE hKE => ?_
  simp -implicitDefEqProofs (disch := omega) only [go_sem, Nat.reduceEqDiff, Nat.reduceAdd, ↓reduceIte, hc0, hc1, hc0', hc1']
  refine hKE _ ⟨?_, fun e' w' hw hs ho => ?_⟩ <;> clear hKE KE
  · refine stepsL_cons (fun e' w' hw hd ho => ?_) ?_
    · skip
      have o11 := ho 11 (by kernel_rfl) (by kernel_rfl)
      simp -implicitDefEqProofs (disch := omega) only [go_sem, Nat.reduceEqDiff, Nat.reduceAdd, ↓reduceIte, o11]
      refine callW_of cal131 (rtrim_ok (h.ext hw) (by omega)) ?_
      rintro _ w4 ⟨A4, n4, c4, rfl, hx4, hO4⟩; refine ⟨_, rfl, ?_⟩
      have h1 := hO4.1.len
      have h2 := len_val h
      exact ⟨hx4, fun d hd => by cases hd; exact ⟨_, _, _, _, rfl, hO4.u32 fun k hk => hD k (by have := hw.size; omega), val_lim _, by simp at h1; omega⟩⟩
    refine stepsL_cons (fun e' w' hw hd ho => ?_) ?_
    · skip
      have o14 := ho 14 (by kernel_rfl) (by kernel_rfl)
      simp -implicitDefEqProofs (disch := omega) only [go_sem, Nat.reduceEqDiff, Nat.reduceAdd, ↓reduceIte, o14]
      refine callW_of cal131 (rtrim_ok (h'.ext hw) (by omega)) ?_
      rintro _ w4 ⟨A4, n4, c4, rfl, hx4, hO4⟩; refine ⟨_, rfl, ?_⟩
      have h1 := hO4.1.len
      have h2 := len_val h'
      exact ⟨hx4, fun d hd => by cases hd; exact ⟨_, _, _, _, rfl, hO4.u32 fun k hk => hD k (by have := hw.size; omega), val_lim _, by simp at h1; omega⟩⟩
    refine stepsL_cons (fun e' w' hw hd ho => ?_) ?_
    · skip
      have h12 := hd 12 (by kernel_rfl) (by kernel_rfl)
      have h15 := hd 15 (by kernel_rfl) (by kernel_rfl)
      obtain ⟨A4, n4, c4, l4, h12, hU4, hv4, hn4⟩ := h12
      obtain ⟨A5, n5, c5, l5, h15, hU5, hv5, hn5⟩ := h15
      simp -implicitDefEqProofs (disch := omega) only [go_sem, Nat.reduceEqDiff, Nat.reduceAdd, ↓reduceIte, h12, h15]
      refine callW_of cal130 (mulMag_ok hU4 hU5 hn4 hn5) ?_
      rintro _ w6 ⟨A6, c6, l6, rfl, hx6, hO6, hv6⟩; refine ⟨_, rfl, ?_⟩
      exact ⟨hx6, fun d hd => by cases hd; exact ⟨_, _, _, _, rfl, hO6.u32 fun k hk => hD k (by have := hw.size; omega), by rw [hv6, hv4, hv5], by omega⟩⟩
    refine stepsL_cons (fun e' w' hw hd ho => ?_) ?_
    · skip
      have o9 := ho 9 (by kernel_rfl) (by kernel_rfl)
      have h16 := hd 16 (by kernel_rfl) (by kernel_rfl)
      obtain ⟨A6, n6, c6, l6, h16, hU6, hv6, hn6⟩ := h16
      simp -implicitDefEqProofs (disch := omega) only [go_sem, Nat.reduceEqDiff, Nat.reduceAdd, ↓reduceIte, h16, o9]
      refine callW_of cal129 (make1_ok hU6 (by omega) (hD.kp hw)) ?_
      rintro _ w7 ⟨s7, A7, n7, c7, rfl, hx7, hB⟩; refine ⟨_, rfl, ?_⟩
      rw [hv6] at hB
      exact ⟨hx7, fun d hd => by cases hd; exact ⟨_, _, _, _, rfl, by rw [sgn_mul]; exact hB⟩⟩
    exact stepsL_nil
  · have o4 := ho 4 (by kernel_rfl)
    have h17 := hs 17 (by kernel_rfl)
    obtain ⟨s7, A7, n7, c7, h17, hB⟩ := h17
    have o4 : e' 4 = .pointer (some ⟨g3, 0, none⟩) := (ho 4 (by kernel_rfl)).trans (by (try simp only [upd_ap, Nat.reduceEqDiff, ↓reduceIte]); first | done | assumption | exact rfl)
    clear hs ho
    simp -implicitDefEqProofs (disch := omega) only [go_sem, Nat.reduceEqDiff, Nat.reduceAdd, ↓reduceIte, h17, o4]
    replace hb3 := hb3.ext hw
    have hx := hxx.trans hw
    refine storeW_of hb3 siz35 rfl rfl fun w9 hk9 hb9 => ?_
    refine hK _ _ ?_; clear hK
    refine W_ret ?_
    try simp only [thenE_r, inB_r]
    exact (retC1 rfl (resV_blk (by first | exact rfl | assumption) agg35 hb9 rfl) ⟨_, _, _, _, rfl, (hx).under hk9 (fun k hk => by omega), (hB.kp (hk9.mono fun k _ h => Dx.ne h (by omega) (by omega))).sub fun k _ h => h.1⟩)
end Go.Proofs.YtjamnehcmaloeaaGreatDoor
end
section
namespace Go.E
open Go
theorem wo_index_s {P : Program} {d : Option Nat} {t ty : TypeId} {x i : Operand} {pos : String} {af : Array Edge} {g : Option (Nat × Bool)} {e : Env} {w : World} {K : Value → World → Prop} {s : ByteArray} {k : IntKind} {n : Nat}
    (ht : P.underlying t = some .string) (hx : ev e x = .string s) (hi : ev e i = .int k n) (hn : n < s.size) (hK : K (.int .u8 s[n].toNat) w) : wo P ⟨d, .index t x i, ty, pos, af, g⟩ e w K := by
  show WO P ⟨d, .index t x i, ty, pos, af, g⟩ e w K
  unfold WO
  have : (execOp (ev e) ⟨d, .index t x i, ty, pos, af, g⟩).run P w = (.ok (.value (.int .u8 s[n].toNat)) w) := by
    simp only [execOp, hx, hi]
    simp [go_sem, run_index_string, ht, hn]
  rw [this]
  exact hK
end Go.E
namespace Go.Proofs.YtjamnehcmaloeaaGreatDoor
open Go Go.E Go.Sp
def len8 : ByteArray := ⟨(((List.range 256).map fun i => UInt8.ofNat (bl i))).toArray⟩
theorem len8_size : len8.size = 256 := by kernel_rfl
theorem len8_all : ((List.range 256).all fun i => Nat.beq ((len8.data.toList.getD i 0).toNat) (bl i)) = true := by kernel_rfl
theorem len8_get {y : Nat} (h : y < len8.size) : len8[y].toNat = bl y := by
  have h1 := len8_all
  rw [List.all_eq_true] at h1
  have h2 := Nat.eq_of_beq_eq_true (h1 y (List.mem_range.2 (by rw [len8_size] at h; exact h)))
  rw [← h2]
  congr 1
  have : y < len8.data.toList.length := by simpa using h
  rw [List.getD_eq_getElem?_getD, List.getElem?_eq_getElem this]
  simp
  rfl
theorem len32_ok {x : Nat} {w : World} (hx : x < 4294967296) :
    Calls Tryz.prog 193 #[.int .u32 x] w fun e w' => e = .returned (.int .i64 (bl x : Nat)) ∧ w = w' := by
  refine calls_W Tryz.func193 rfl Tryz.ntmps193 (by kernel_rfl) ?_
  refine W_seq_reg fun K hK => ?_
  simp -implicitDefEqProofs (disch := omega) only [go_sem, Nat.reduceEqDiff, Nat.reduceAdd, ↓reduceIte]
  refine hK _ _ ?_; clear hK K
  refine W_seq_k fun K1 hK1 => ?_
  have st1 : ∀ (e1 : Env) (a y : Nat), y < 65536 → a + bl y = bl x → a ≤ 16 → e1 0 = .int .u32 y → e1 2 = .int .i64 a → K1 e1 w := by
    intro e1 a y hy hab ha h0 h2
    refine hK1 _ _ ?_; clear hK1
    refine W_seq_k fun K1 hK1 => ?_
    have st2 : ∀ (e1 : Env) (a y : Nat), y < 256 → a + bl y = bl x → a ≤ 24 → e1 0 = .int .u32 y → e1 2 = .int .i64 a → K1 e1 w := by
      intro e1 a y hy hab ha h0 h2
      refine hK1 _ _ ?_; clear hK1
      have hw : IntKind.u8.wrap (y : Int) = (y : Int) := u8_in (by omega) (by omega)
      refine W_seq_reg fun K hK => ?_
      set_option maxRecDepth 4000 in
      simp -implicitDefEqProofs (disch := omega) only [go_sem, Nat.reduceEqDiff, Nat.reduceAdd, ↓reduceIte, h0, h2, hw]
      refine wo_index_s (s := len8) (by kernel_rfl) (by kernel_rfl) rfl (by rw [len8_size]; exact hy) ?_
      rw [len8_get]
      have hby : bl y ≤ 8 := bl_le_of (by omega)
      have hs : IntKind.i64.wrap ((a : Int) + (bl y : Int)) = (bl x : Int) := by rw [i64_in (by omega) (by omega)]; omega
      simp -implicitDefEqProofs (disch := omega) only [go_sem, Nat.reduceEqDiff, Nat.reduceAdd, ↓reduceIte, i64N, hs]
      refine hK _ _ ?_; clear hK
      refine W_ret ?_
      try simp only [thenE_r, inB_r]
      refine ret1 rfl ⟨rfl, rfl⟩
    by_cases hb : 256 ≤ y
    · have hb' : ((y : Int) ≥ 256) := by omega
      refine W_seq_reg fun K hK => ?_
      simp -implicitDefEqProofs (disch := omega) only [go_sem, Nat.reduceEqDiff, Nat.reduceAdd, ↓reduceIte, h0, hb']
      refine hK _ _ ?_; clear hK K
      refine W_cond rfl (fun hc => ?_) (fun hc => by cases hc)
      refine W_seq_reg fun K hK => ?_
      simp -implicitDefEqProofs (disch := omega) only [go_sem, Nat.reduceEqDiff, Nat.reduceAdd, ↓reduceIte, h0]
      refine hK _ _ ?_; clear hK K
      refine W_regK fun K9 hK9 => ?_
      simp -implicitDefEqProofs (disch := omega) only [go_sem, Nat.reduceEqDiff, Nat.reduceAdd, ↓reduceIte, h2, i64_in]
      refine hK9 _ _ ?_; clear hK9 K9
      have h8 : bl y = 8 + bl (y / 256) := bl_div (n := y) (k := 8) hb
      exact st2 _ (a + 8) (y / 256) (by omega) (by omega) (by omega) (by (try simp only [upd_ap, Nat.reduceEqDiff, ↓reduceIte]); first | done | assumption | exact rfl) (by (try simp only [upd_ap, Nat.reduceEqDiff, ↓reduceIte]); first | done | assumption | exact rfl)
    · have hb' : ¬ ((y : Int) ≥ 256) := by omega
      refine W_seq_reg fun K hK => ?_
      simp -implicitDefEqProofs (disch := omega) only [go_sem, Nat.reduceEqDiff, Nat.reduceAdd, ↓reduceIte, h0, hb']
      refine hK _ _ ?_; clear hK K
      refine W_cond rfl (fun hc => by cases hc) (fun hc => W_skip ?_)
      exact st2 _ a y (by omega) hab (by omega) (by (try simp only [upd_ap, Nat.reduceEqDiff, ↓reduceIte]); first | done | assumption | exact rfl) (by (try simp only [upd_ap, Nat.reduceEqDiff, ↓reduceIte]); first | done | assumption | exact rfl)
  by_cases hb : 65536 ≤ x
  · have hb' : ((x : Int) ≥ 65536) := by omega
    refine W_seq_reg fun K hK => ?_
    simp -implicitDefEqProofs (disch := omega) only [go_sem, Nat.reduceEqDiff, Nat.reduceAdd, ↓reduceIte, hb']
    refine hK _ _ ?_; clear hK K
    refine W_cond rfl (fun hc => ?_) (fun hc => by cases hc)
    refine W_seq_reg fun K hK => ?_
    simp -implicitDefEqProofs (disch := omega) only [go_sem, Nat.reduceEqDiff, Nat.reduceAdd, ↓reduceIte]
    refine hK _ _ ?_; clear hK K
    refine W_regK fun K9 hK9 => ?_
    simp -implicitDefEqProofs (disch := omega) only [go_sem, Nat.reduceEqDiff, Nat.reduceAdd, ↓reduceIte]
    refine hK9 _ _ ?_; clear hK9 K9
    have h8 : bl x = 16 + bl (x / 65536) := bl_div (n := x) (k := 16) hb
    exact st1 _ 16 (x / 65536) (by omega) (by omega) (by omega) (by (try simp only [upd_ap, Nat.reduceEqDiff, ↓reduceIte]); first | done | assumption | exact rfl) (by (try simp only [upd_ap, Nat.reduceEqDiff, ↓reduceIte]); first | done | assumption | exact rfl)
  · have hb' : ¬ ((x : Int) ≥ 65536) := by omega
    refine W_seq_reg fun K hK => ?_
    simp -implicitDefEqProofs (disch := omega) only [go_sem, Nat.reduceEqDiff, Nat.reduceAdd, ↓reduceIte, hb']
    refine hK _ _ ?_; clear hK K
    refine W_cond rfl (fun hc => by cases hc) (fun hc => W_skip ?_)
    exact st1 _ 0 x (by omega) (by omega) (by omega) (by (try simp only [upd_ap, Nat.reduceEqDiff, ↓reduceIte]); first | done | assumption | exact rfl) (by (try simp only [upd_ap, Nat.reduceEqDiff, ↓reduceIte]); first | done | assumption | exact rfl)
theorem rBitLen_ok {D : Nat → Prop} {A : Option Addr} {n c : Nat} {l : List Nat} {s : Bool} {w : World} (h : U32 w D A n c l) (hb : n ≤ 900000000) :
    Calls Tryz.prog 128 #[.agg #[.bool s, .slice A n c]] w fun e w' => e = .returned (.int .i64 (bl (val l) : Nat)) ∧ Ext w w' := by
  refine calls_W Tryz.func128 rfl Tryz.ntmps128 (by kernel_rfl) ?_
  refine W_seq_reg fun K hK => ?_
  simp -implicitDefEqProofs (disch := omega) only [go_sem, Nat.reduceEqDiff, Nat.reduceAdd, ↓reduceIte]
  refine boxW_of ?_
  intro g1 w1 hg1 hx1 hb1 hs1
  refine hK _ _ ?_; clear hK
  have hc1 : w1.cell? ⟨g1, 1, none⟩ = some (.slice A n c) := hb1.cell 1
  refine W_seq_reg fun K hK => ?_
  simp -implicitDefEqProofs (disch := omega) only [go_sem, Nat.reduceEqDiff, Nat.reduceAdd, ↓reduceIte, hc1]
  refine callW_of cal131 (rtrim_ok (h.ext hx1) (by omega)) ?_
  rintro _ w2 ⟨A2, n2, c2, rfl, hx2, hO⟩; refine ⟨_, rfl, ?_⟩
  refine hK _ _ ?_; clear hK
  have hx := hx1.trans hx2
  have hU : U32 w2 (fun _ => True) A2 n2 c2 (lim (val l)) := hO.u32 fun _ _ => trivial
  have hlen := hU.len
  have hn2 : n2 ≤ 900000000 := by have h2 := len_val h; omega
  have hpos := @lim_length_pos (val l)
  refine W_seq_k fun K1 hK1 => ?_
  refine W_seq_reg fun K hK => ?_
  simp -implicitDefEqProofs (disch := omega) only [go_sem, Nat.reduceEqDiff, Nat.reduceAdd, ↓reduceIte]
  refine hK _ _ ?_; clear hK K
  by_cases hz : n2 = 0
  · have hz' : ((n2 : Int) == 0) = true := by simp [hz]
    refine W_cond rfl (fun hc => ?_) (fun hc => by rw [hz'] at hc; cases hc)
    refine W_seq_reg fun K hK => ?_
    simp -implicitDefEqProofs (disch := omega) only [go_sem, Nat.reduceEqDiff, Nat.reduceAdd, ↓reduceIte]
    refine hK _ _ ?_; clear hK K
    have h0 : val l = 0 := by omega
    refine W_ret ?_
    try simp only [thenE_r, inB_r]
    refine ret1 rfl ⟨by rw [h0]; rfl, hx⟩
  · have hz' : ((n2 : Int) == 0) = false := by simp [hz]
    refine W_cond rfl (fun hc => by rw [hz'] at hc; cases hc) (fun hc => W_skip (hK1 _ _ ?_))
    have hs1 : IntKind.i64.wrap ((n2 : Int) - 1) = ((n2 - 1 : Nat) : Int) := by rw [i64_in (by omega) (by omega)]; omega
    have hs2 : IntKind.i64.wrap (32 * ((n2 - 1 : Nat) : Int)) = ((32 * (n2 - 1) : Nat) : Int) := by rw [i64_in (by omega) (by omega)]; omega
    obtain ⟨ad, rfl, hcc⟩ := hU.cell (j := n2 - 1) (by omega)
    have r1 : (0 : Int) ≤ (n2 - 1 : Nat) ∧ ((n2 - 1 : Nat) : Int) < n2 := by omega
    refine W_seq_reg fun K hK => ?_
    simp -implicitDefEqProofs (disch := omega) only [go_sem, Nat.reduceEqDiff, Nat.reduceAdd, ↓reduceIte, hs1, hs2, r1, hcc]
    refine callW_of cal193 (len32_ok (hU.dg_lt _)) ?_
    rintro _ w3 ⟨rfl, rfl⟩; refine ⟨_, rfl, ?_⟩
    have hbl := bl_lim (n := val l) (by omega)
    rw [hlen] at hbl
    have hb2 : bl (dg (lim (val l)) (n2 - 1)) ≤ 32 := bl_le_of (hU.dg_lt _)
    have hs3 : IntKind.i64.wrap (((32 * (n2 - 1) : Nat) : Int) + ((bl (dg (lim (val l)) (n2 - 1)) : Nat) : Int)) = ((bl (val l) : Nat) : Int) := by
      unfold dg at *
      rw [i64_in (by omega) (by omega)]; omega
    simp -implicitDefEqProofs (disch := omega) only [go_sem, Nat.reduceEqDiff, Nat.reduceAdd, ↓reduceIte, hs3]
    refine hK _ _ ?_; clear hK
    refine W_ret ?_
    try simp only [thenE_r, inB_r]
    refine ret1 rfl ⟨rfl, hx⟩
end Go.Proofs.YtjamnehcmaloeaaGreatDoor
end
section
namespace Go.Proofs.YtjamnehcmaloeaaGreatDoor
open Go Go.E Go.Sp
theorem rSub_ok {D : Nat → Prop} {A A' : Option Addr} {n c n' c' : Nat} {l l' : List Nat} {s s' : Bool} {w : World} (h : U32 w D A n c l) (h' : U32 w D A' n' c' l') (hb : n ≤ 900000000) (hb' : n' ≤ 900000000) (hf : Fr D w) :
    Calls Tryz.prog 137 #[.agg #[.bool s, .slice A n c], .agg #[.bool s', .slice A' n' c']] w fun e w' => ∃ s9 A9 n9 c9, e = .returned (.agg #[.bool s9, .slice A9 n9 c9]) ∧ Ext w w' ∧ Big w' D s9 A9 n9 c9 (sgn s (val l) - sgn s' (val l')) := by
  refine calls_W Tryz.func137 rfl Tryz.ntmps137 (by kernel_rfl) ?_
  refine W_seq_reg fun K hK => ?_
  simp -implicitDefEqProofs (disch := omega) only [go_sem, Nat.reduceEqDiff, Nat.reduceAdd, ↓reduceIte]
  refine boxW_of ?_
  intro g1 w1 hg1 hx1 hb1 hs1
  refine boxW_of ?_
  intro g2 w2 hg2 hx2 hb2 hs2
  refine alW_of ?_
  intro g3 w3 hg3 hx3 hb3 hs3
  refine hK _ _ ?_; clear hK
  replace hb1 := (hb1.ext hx2).ext hx3
  replace hb2 := hb2.ext hx3
  have hxx := (hx1.trans hx2).trans hx3
  replace h := (h.sub (Dx.keep (a := w.heap.size) (b := w3.heap.size) rfl)).ext hxx
  replace h' := (h'.sub (Dx.keep (a := w.heap.size) (b := w3.heap.size) rfl)).ext hxx
  have hr1 : ldV w3 (some (some 2)) (.pointer (some ⟨g1, 0, none⟩)) = some (.agg #[.bool s, .slice A n c]) := ldV_blk hb1 rfl
  have hr2 : ldV w3 (some (some 2)) (.pointer (some ⟨g2, 0, none⟩)) = some (.agg #[.bool s', .slice A' n' c']) := ldV_blk hb2 rfl
  have hD : Fr (Dx D w.heap.size w3.heap.size) w3 := Dx.fr (hf.kp hxx) (Nat.le_refl _)
  refine W_seq_k fun K hK => ?_
  refine W_dS true mixed (Kp.pre (fun _ => True)) (fun _ _ _ h => h) [true, true, false, false, false] [(7, isB (Dx D w.heap.size w3.heap.size) (- sgn s' (val l'))), (8, isB (Dx D w.heap.size w3.heap.size) (sgn s (val l) - sgn s' (val l')))] (by kernel_rfl) fun KE hKE => ?_
  simp -implicitDefEqProofs (disch := omega) only [go_sem, Nat.reduceEqDiff, Nat.reduceAdd, ↓reduceIte, hr1, hr2]
  refine hKE _ ⟨?_, fun e' w' hw hs ho => ?_⟩ <;> clear hKE KE
  · refine stepsL_cons (fun e' w' hw hd ho => ?_) ?_
    · skip
      have o6 := ho 6 (by kernel_rfl) (by kernel_rfl)
      simp -implicitDefEqProofs (disch := omega) only [go_sem, Nat.reduceEqDiff, Nat.reduceAdd, ↓reduceIte, o6]
      refine callW_of cal61 (rNeg_ok (h'.ext hw) (by omega) (hD.kp hw)) ?_
      rintro _ w4 ⟨s4, A4, n4, c4, rfl, hx4, hB4⟩; refine ⟨_, rfl, ?_⟩
      exact ⟨hx4, fun d hd => by cases hd; exact ⟨_, _, _, _, rfl, by rw [show - sgn s' (val l') = sgn (!s') (val l') by cases s' <;> simp [sgn]]; exact hB4⟩⟩
    refine stepsL_cons (fun e' w' hw hd ho => ?_) ?_
    · skip
      have o5 := ho 5 (by kernel_rfl) (by kernel_rfl)
      have h7 := hd 7 (by kernel_rfl) (by kernel_rfl)
      obtain ⟨s4, A4, n4, c4, h7, hB4⟩ := h7
      have hn4 : n4 ≤ 900000000 := by
        have h1 := hB4.len
        rw [show (- sgn s' (val l')).natAbs = val l' by rw [Int.natAbs_neg, sgn_nat]] at h1
        have h2 := len_val h'; omega
      simp -implicitDefEqProofs (disch := omega) only [go_sem, Nat.reduceEqDiff, Nat.reduceAdd, ↓reduceIte, h7, o5]
      refine callW_of cal64 (rAdd_ok (h.ext hw) hB4.2 (by omega) hn4 (hD.kp hw)) ?_
      rintro _ w4 ⟨s5, A5, n5, c5, rfl, hx5, hB5⟩; refine ⟨_, rfl, ?_⟩
      rw [val_lim, hB4.sgn, ← Int.sub_eq_add_neg] at hB5
      exact ⟨hx5, fun d hd => by cases hd; exact ⟨_, _, _, _, rfl, hB5⟩⟩
    exact stepsL_nil
  · have o4 := ho 4 (by kernel_rfl)
    have h8 := hs 8 (by kernel_rfl)
    obtain ⟨s7, A7, n7, c7, h8, hB⟩ := h8
    have o4 : e' 4 = .pointer (some ⟨g3, 0, none⟩) := (ho 4 (by kernel_rfl)).trans (by (try simp only [upd_ap, Nat.reduceEqDiff, ↓reduceIte]); first | done | assumption | exact rfl)
    clear hs ho
    simp -implicitDefEqProofs (disch := omega) only [go_sem, Nat.reduceEqDiff, Nat.reduceAdd, ↓reduceIte, h8, o4]
    replace hb3 := hb3.ext hw
    have hx := hxx.trans hw
    refine storeW_of hb3 siz35 rfl rfl fun w9 hk9 hb9 => ?_
    refine hK _ _ ?_; clear hK
    refine W_ret ?_
    try simp only [thenE_r, inB_r]
    exact (retC1 rfl (resV_blk (by first | exact rfl | assumption) agg35 hb9 rfl) ⟨_, _, _, _, rfl, (hx).under hk9 (fun k hk => by omega), (hB.kp (hk9.mono fun k _ h => Dx.ne h (by omega) (by omega))).sub fun k _ h => h.1⟩)
theorem rLost_ok {D : Nat → Prop} {A : Option Addr} {n c m : Nat} {l : List Nat} {s : Bool} {w : World} (h : U32 w D A n c l) (hb : n ≤ 900000000) (hm : m ≤ 1000000000000) (hf : Fr D w) :
    Calls Tryz.prog 194 #[.agg #[.bool s, .slice A n c], .int .i64 m] w fun e w' => e = .returned (.bool (decide (val l % 2 ^ m ≠ 0))) ∧ Ext w w' := by
  refine calls_W Tryz.func194 rfl Tryz.ntmps194 (by kernel_rfl) ?_
  refine W_seq_reg fun K hK => ?_
  simp -implicitDefEqProofs (disch := omega) only [go_sem, Nat.reduceEqDiff, Nat.reduceAdd, ↓reduceIte]
  refine boxW_of ?_
  intro g1 w1 hg1 hx1 hb1 hs1
  refine hK _ _ ?_; clear hK
  have hc1 : w1.cell? ⟨g1, 1, none⟩ = some (.slice A n c) := hb1.cell 1
  refine W_seq_reg fun K hK => ?_
  simp -implicitDefEqProofs (disch := omega) only [go_sem, Nat.reduceEqDiff, Nat.reduceAdd, ↓reduceIte, hc1]
  refine callW_of cal131 (rtrim_ok (h.ext hx1) (by omega)) ?_
  rintro _ w2 ⟨A2, n2, c2, rfl, hx2, hO⟩; refine ⟨_, rfl, ?_⟩
  have hU : U32 w2 (fun k => w1.heap.size ≤ k) A2 n2 c2 (lim (val l)) := hO.u32 fun _ h => h
  have hn2 : n2 ≤ 900000000 := by have h1 := hU.len; have h2 := len_val h; omega
  refine callW_of cal136 (shr_ok hU (by omega) hm) ?_
  rintro _ w3 ⟨A3, n3, c3, l3, rfl, hx3, _, _, _⟩; refine ⟨_, rfl, ?_⟩
  simp -implicitDefEqProofs (disch := omega) only [go_sem, Nat.reduceEqDiff, Nat.reduceAdd, ↓reduceIte]
  refine hK _ _ ?_; clear hK
  refine W_seq_reg fun K hK => ?_
  simp -implicitDefEqProofs (disch := omega) only [go_sem, Nat.reduceEqDiff, Nat.reduceAdd, ↓reduceIte]
  refine hK _ _ ?_; clear hK K
  refine W_ret ?_
  try simp only [thenE_r, inB_r]
  refine ret1 rfl ⟨by simp only [val_lim, upd_ap, Nat.reduceEqDiff, ↓reduceIte], (hx1.trans hx2).trans hx3⟩
end Go.Proofs.YtjamnehcmaloeaaGreatDoor
end
section
namespace Go.Proofs.YtjamnehcmaloeaaGreatDoor
open Go Go.E Go.Sp
theorem rShift_ok {D : Nat → Prop} {A : Option Addr} {n c : Nat} {l : List Nat} {s : Bool} {m : Int} {w : World} (h : U32 w D A n c l) (hb : n ≤ 800000000) (h1m : -1000000000 ≤ m) (h2m : m ≤ 1000000000) (hf : Fr D w) :
    Calls Tryz.prog 65 #[.agg #[.bool s, .slice A n c], .int .i64 m] w fun e w' => ∃ s9 A9 n9 c9, e = .returned (.agg #[.bool s9, .slice A9 n9 c9]) ∧ Ext w w' ∧ Big w' D s9 A9 n9 c9 (shI (sgn s (val l)) m) := by
  refine calls_W Tryz.func65 rfl Tryz.ntmps65 (by kernel_rfl) ?_
  refine W_seq_reg fun K hK => ?_
  simp -implicitDefEqProofs (disch := omega) only [go_sem, Nat.reduceEqDiff, Nat.reduceAdd, ↓reduceIte]
  refine boxW_of ?_
  intro g1 w1 hg1 hx1 hb1 hs1
  refine alW_of ?_
  intro g2 w2 hg2 hx2 hb2 hs2
  refine hK _ _ ?_; clear hK
  replace hb1 := hb1.ext hx2
  have hr : ldV w2 (some (some 2)) (.pointer (some ⟨g1, 0, none⟩)) = some (.agg #[.bool s, .slice A n c]) := ldV_blk hb1 rfl
  have hD : Fr (Dx D w.heap.size w2.heap.size) w2 := Dx.fr ((hf.kp hx1).kp hx2) (Nat.le_refl _)
  refine W_seq_reg fun K hK => ?_
  simp -implicitDefEqProofs (disch := omega) only [go_sem, Nat.reduceEqDiff, Nat.reduceAdd, ↓reduceIte, hr]
  refine callW_of cal125 (rNorm_ok (((h.sub (Dx.keep rfl)).ext hx1).ext hx2) (by omega) hD) ?_
  rintro _ w3 ⟨s3, A3, n3, c3, rfl, hx3, hB⟩; refine ⟨_, rfl, ?_⟩
  replace hb1 := hb1.ext hx3
  replace hb2 := hb2.ext hx3
  refine storeW_of hb1 siz35 rfl rfl fun w4 hk4 hb4 => ?_
  refine hK _ _ ?_; clear hK
  have hx4 : Ext w w4 := ((hx1.trans hx2).trans hx3).under hk4 (fun k hk => by omega)
  have hsz2 := hx3.size
  have hsz4 := hk4.size
  have hB : Big w4 (Dx D w.heap.size w2.heap.size) s3 A3 n3 c3 (sgn s (val l)) := (hB.kp (hk4.mono fun k _ h => Dx.ne h (by omega) (by omega)))
  replace hb2 : Blk w4 g2 35 _ := hb2.kpne hk4 (by omega)
  have hc0 : ∀ w', Ext w4 w' → w'.cell? ⟨g1, 0, none⟩ = some (.bool s3) := fun w' hw => (hb4.ext hw).cell 0
  have hc1 : ∀ w', Ext w4 w' → w'.cell? ⟨g1, 1, none⟩ = some (.slice A3 n3 c3) := fun w' hw => (hb4.ext hw).cell 1
  replace hD := (hD.kp hx3).kp hk4
  have hn3 : n3 ≤ 800000000 := by
    have h1 := hB.len
    rw [sgn_nat] at h1
    have h2 := len_val h; omega
  have hvn : val (lim (sgn s (val l)).natAbs) = val l := by rw [val_lim, sgn_nat]
  have hsg : sgn s3 (val l) = sgn s (val l) := by
    have := hB.sgn; rw [sgn_nat] at this; exact this
  refine W_seq_k fun K1 hK1 => ?_
  by_cases hm : m ≥ 0
  · refine W_seq_reg fun K hK => ?_
    simp -implicitDefEqProofs (disch := omega) only [go_sem, Nat.reduceEqDiff, Nat.reduceAdd, ↓reduceIte, hm]
    refine hK _ _ ?_; clear hK K
    refine W_cond rfl (fun hc => ?_) (fun hc => by cases hc)
    obtain ⟨k, rfl⟩ : ∃ k : Nat, m = k := ⟨m.toNat, by omega⟩
    refine W_seq_k fun K hK => ?_
    refine W_dS true mixed (Kp.pre (fun _ => True)) (fun _ _ _ h => h) [true, true, true, true, true, false, false, false] [(17, isV (Dx D w.heap.size w2.heap.size) 900000000 (2 ^ k * val l)), (18, isB (Dx D w.heap.size w2.heap.size) (shI (sgn s (val l)) k))] (by kernel_rfl) fun KE hKE => ?_
    simp -implicitDefEqProofs (disch := omega) only [go_sem, Nat.reduceEqDiff, Nat.reduceAdd, ↓reduceIte, hc0 _ (Kp.refl _ _), hc1 _ (Kp.refl _ _)]
    refine hKE _ ⟨?_, fun e' w' hw hs ho => ?_⟩ <;> clear hKE KE
    · refine stepsL_cons (fun e' w' hw hd ho => ?_) ?_
      · skip
        have o15 := ho 15 (by kernel_rfl) (by kernel_rfl)
        have o16 := ho 16 (by kernel_rfl) (by kernel_rfl)
        simp -implicitDefEqProofs (disch := omega) only [go_sem, Nat.reduceEqDiff, Nat.reduceAdd, ↓reduceIte, o15, o16]
        refine callW_of cal135 (shl_ok (hB.2.ext hw) (by omega) (by omega)) ?_
        rintro _ w5 ⟨A6, n6, c6, l6, rfl, hx5, hO6, hv6, hn6⟩; refine ⟨_, rfl, ?_⟩
        exact ⟨hx5, fun d hd => by cases hd; exact ⟨_, _, _, _, rfl, hO6.u32 fun k hk => hD k (by have := hw.size; omega), by rw [hv6, hvn], by omega⟩⟩
      refine stepsL_cons (fun e' w' hw hd ho => ?_) ?_
      · skip
        have o13 := ho 13 (by kernel_rfl) (by kernel_rfl)
        have h17 := hd 17 (by kernel_rfl) (by kernel_rfl)
        obtain ⟨A6, n6, c6, l6, h17, hU6, hv6, hn6⟩ := h17
        simp -implicitDefEqProofs (disch := omega) only [go_sem, Nat.reduceEqDiff, Nat.reduceAdd, ↓reduceIte, h17, o13]
        refine callW_of cal129 (make1_ok hU6 (by omega) (hD.kp hw)) ?_
        rintro _ w5 ⟨s7, A7, n7, c7, rfl, hx5, hB⟩; refine ⟨_, rfl, ?_⟩
        rw [hv6] at hB
        exact ⟨hx5, fun d hd => by cases hd; exact ⟨_, _, _, _, rfl, by
          rw [show shI (sgn s (val l)) k = sgn s3 (2 ^ k * val l) by
            rw [← hsg]; unfold shI
            rw [if_pos (by omega), Int.toNat_natCast, Nat.mul_comm]
            cases s3 <;> simp [sgn, Int.neg_mul]]
          exact hB⟩⟩
      exact stepsL_nil
    · have o4 := ho 4 (by kernel_rfl)
      have h18 := hs 18 (by kernel_rfl)
      obtain ⟨s7, A7, n7, c7, h18, hB⟩ := h18
      have o4 : e' 4 = .pointer (some ⟨g2, 0, none⟩) := (ho 4 (by kernel_rfl)).trans (by (try simp only [upd_ap, Nat.reduceEqDiff, ↓reduceIte]); first | done | assumption | exact rfl)
      clear hs ho
      simp -implicitDefEqProofs (disch := omega) only [go_sem, Nat.reduceEqDiff, Nat.reduceAdd, ↓reduceIte, h18, o4]
      replace hb2 := hb2.ext hw
      have hx := hx4.trans hw
      have hsw := hw.size
      refine storeW_of hb2 siz35 rfl rfl fun w9 hk9 hb9 => ?_
      refine hK _ _ ?_; clear hK
      refine W_ret ?_
      try simp only [thenE_r, inB_r]
      exact (retC1 rfl (resV_blk (by first | exact rfl | assumption) agg35 hb9 rfl) ⟨_, _, _, _, rfl, (hx).under hk9 (fun k hk => by omega), (hB.kp (hk9.mono fun k _ h => Dx.ne h (by omega) (by omega))).sub fun k _ h => h.1⟩)
  · have hm' : ¬ m ≥ 0 := hm
    refine W_seq_reg fun K hK => ?_
    simp -implicitDefEqProofs (disch := omega) only [go_sem, Nat.reduceEqDiff, Nat.reduceAdd, ↓reduceIte, hm']
    refine hK _ _ ?_; clear hK K
    refine W_cond rfl (fun hc => by cases hc) (fun hc => W_skip (hK1 _ _ ?_))
    clear hK1
    obtain ⟨k, rfl⟩ : ∃ k : Nat, m = -(k : Int) := ⟨(-m).toNat, by omega⟩
    have hneg : IntKind.i64.wrap (0 - -(k : Int)) = k := by rw [i64_in (by omega) (by omega)]; omega
    refine W_seq_reg fun K hK => ?_
    simp -implicitDefEqProofs (disch := omega) only [go_sem, Nat.reduceEqDiff, Nat.reduceAdd, ↓reduceIte, hc1 _ (Kp.refl _ _), hneg]
    refine callW_of cal136 (shr_ok hB.2 (by omega) (by omega)) ?_
    rintro _ w5 ⟨A5, n5, c5, l5, rfl, hx5, hO5, hv5, hn5⟩; refine ⟨_, rfl, ?_⟩
    simp -implicitDefEqProofs (disch := omega) only [go_sem, Nat.reduceEqDiff, Nat.reduceAdd, ↓reduceIte]
    refine hK _ _ ?_; clear hK
    rw [hvn] at hv5
    have hU5 : U32 w5 (Dx D w.heap.size w2.heap.size) A5 n5 c5 l5 := hO5.u32 fun k hk => hD k hk
    refine W_seq_reg fun K hK => ?_
    simp -implicitDefEqProofs (disch := omega) only [go_sem, Nat.reduceEqDiff, Nat.reduceAdd, ↓reduceIte, hc0 _ hx5]
    refine callW_of cal129 (make1_ok hU5 (by omega) (hD.kp hx5)) ?_
    rintro _ w6 ⟨s6, A6, n6, c6, rfl, hx6, hB6⟩; refine ⟨_, rfl, ?_⟩
    refine alW_of ?_
    intro g7 w7 hg7 hx7 hb7 hs7
    refine storeW_of hb7 siz35 rfl rfl fun w8 hk8 hb8 => ?_
    refine hK _ _ ?_; clear hK
    rw [hv5] at hB6
    have hs5 := hx5.size
    have hs6 := hx6.size
    have hxx : Ext w4 w8 := ((hx5.trans hx6).trans hx7).under hk8 (fun k hk => by omega)
    have hB8 : Big w8 (Dx (Dx D w.heap.size w2.heap.size) w6.heap.size w7.heap.size) s6 A6 n6 c6 (sgn s3 (val l / 2 ^ k)) := ((hB6.sub (Dx.keep (a := w6.heap.size) (b := w7.heap.size) rfl)).ext hx7).kp (hk8.mono fun k _ h => Dx.ne h (by omega) (by omega))
    replace hb2 := hb2.ext hxx
    have hx8 := hx4.trans hxx
    replace hD := hD.kp hxx
    have hn6 : n6 ≤ 800000000 := by
      have h1 := hB8.len
      rw [sgn_nat] at h1
      have h2 := len_val h
      have h3 := len_mono (Nat.div_le_self (val l) (2 ^ k)); omega
    have hsz8 := hk8.size
    refine W_seq_k fun K1 hK1 => ?_
    have fin : ∀ (e1 : Env) (w9 : World) (s9 : Bool) (A9 : Option Addr) (n9 c9 : Nat), e1 7 = .pointer (some ⟨g7, 0, none⟩) → e1 4 = .pointer (some ⟨g2, 0, none⟩) → Blk w9 g7 35 #[.bool s9, .slice A9 n9 c9] → Blk w9 g2 35 #[.bool false, .slice none 0 0] → Ext w w9 → w8.heap.size ≤ w9.heap.size → Big w9 (Dx D w.heap.size w2.heap.size) s9 A9 n9 c9 (shI (sgn s (val l)) (-(k : Int))) → K1 e1 w9 := by
      intro e1 w9 s9 A9 n9 c9 q7 q4 hb9 hb2 hx hsz hB9
      refine hK1 _ _ ?_; clear hK1
      have hr9 : ldV w9 (some (some 2)) (.pointer (some ⟨g7, 0, none⟩)) = some (.agg #[.bool s9, .slice A9 n9 c9]) := ldV_blk hb9 rfl
      refine W_seq_reg fun K hK => ?_
      simp -implicitDefEqProofs (disch := omega) only [go_sem, Nat.reduceEqDiff, Nat.reduceAdd, ↓reduceIte, q7, q4, hr9]
      clear hb8 hb7 hb1 hb4 hb9 hr9
      refine storeW_of hb2 siz35 rfl rfl fun w9 hk9 hb9 => ?_
      refine hK _ _ ?_; clear hK
      refine W_ret ?_
      try simp only [thenE_r, inB_r]
      exact (retC1 rfl (resV_blk (by first | exact rfl | assumption) agg35 hb9 rfl) ⟨_, _, _, _, rfl, (hx).under hk9 (fun k hk => by omega), (hB9.kp (hk9.mono fun k _ h => Dx.ne h (by omega) (by omega))).sub fun k _ h => h.1⟩)
    have hval : shI (sgn s (val l)) (-(k : Int)) = sgn s3 (val l / 2 ^ k) - (if s3 = true ∧ val l % 2 ^ k ≠ 0 then 1 else 0) := by
      rw [← hsg]; unfold shI
      by_cases hk0 : (0 : Int) ≤ -(k : Int)
      · have : k = 0 := by omega
        subst this
        simp [Nat.mod_one]
      · rw [if_neg hk0, show (- -(k : Int)).toNat = k by omega]
        cases s3
        · simp [sgn]
        · simp only [sgn, if_true, true_and]
          exact shI_neg _ _
    have hcs := hc0 _ hxx
    by_cases hlost : s3 = true ∧ val l % 2 ^ k ≠ 0
    · obtain ⟨hs3, hlost⟩ := hlost
      subst hs3
      have hd : decide (val (lim (sgn s (val l)).natAbs) % 2 ^ k ≠ 0) = true := by rw [hvn]; simpa using hlost
      refine W_seq_reg fun K hK => ?_
      simp -implicitDefEqProofs (disch := omega) only [go_sem, Nat.reduceEqDiff, Nat.reduceAdd, ↓reduceIte, hcs, hd]
      refine hK _ _ ?_; clear hK K
      refine W_cond rfl (fun hc => ?_) (fun hc => by cases hc)
      have hr8 : ldV w8 (some (some 2)) (.pointer (some ⟨g7, 0, none⟩)) = some (.agg #[.bool s6, .slice A6 n6 c6]) := ldV_blk hb8 rfl
      have hD8 : Fr (Dx (Dx D w.heap.size w2.heap.size) w6.heap.size w7.heap.size) w8 := Dx.fr hD (by omega)
      refine W_dS true mixed (Kp.pre (fun _ => True)) (fun _ _ _ h => h) [true, false, false, false] [(37, isB (Dx (Dx D w.heap.size w2.heap.size) w6.heap.size w7.heap.size) 1), (38, isB (Dx (Dx D w.heap.size w2.heap.size) w6.heap.size w7.heap.size) (sgn true (val l / 2 ^ k) - 1))] (by kernel_rfl) fun KE hKE => ?_
      simp -implicitDefEqProofs (disch := omega) only [go_sem, Nat.reduceEqDiff, Nat.reduceAdd, ↓reduceIte, hr8]
      refine hKE _ ⟨?_, fun e' w' hw hs ho => ?_⟩ <;> clear hKE KE
      · refine stepsL_cons (fun e' w' hw hd ho => ?_) ?_
        · skip
          simp -implicitDefEqProofs (disch := omega) only [go_sem, Nat.reduceEqDiff, Nat.reduceAdd, ↓reduceIte]
          refine callW_of cal138 (rFromInt_ok (by omega) (by omega) (hD8.kp hw)) ?_
          rintro _ w9 ⟨s9, A9, n9, c9, rfl, hx9, hB9⟩; refine ⟨_, rfl, ?_⟩
          exact ⟨hx9, fun d hd => by cases hd; exact ⟨_, _, _, _, rfl, hB9⟩⟩
        refine stepsL_cons (fun e' w' hw hd ho => ?_) ?_
        · skip
          have o36 := ho 36 (by kernel_rfl) (by kernel_rfl)
          have h37 := hd 37 (by kernel_rfl) (by kernel_rfl)
          obtain ⟨s9, A9, n9, c9, h37, hB9⟩ := h37
          have hn9 : n9 ≤ 1 := by have h1 := hB9.len; rw [← h1]; exact len_le_of_lt (k := 1) (by decide)
          simp -implicitDefEqProofs (disch := omega) only [go_sem, Nat.reduceEqDiff, Nat.reduceAdd, ↓reduceIte, h37, o36]
          refine callW_of cal137 (rSub_ok (hB8.2.ext hw) hB9.2 (by omega) (by omega) (hD8.kp hw)) ?_
          rintro _ w10 ⟨s10, A10, n10, c10, rfl, hx10, hB10⟩; refine ⟨_, rfl, ?_⟩
          rw [val_lim, val_lim, hB9.sgn, hB8.sgn] at hB10
          exact ⟨hx10, fun d hd => by cases hd; exact ⟨_, _, _, _, rfl, hB10⟩⟩
        exact stepsL_nil
      · have o7 := ho 7 (by kernel_rfl)
        have h38 := hs 38 (by kernel_rfl)
        obtain ⟨s9, A9, n9, c9, h38, hB9⟩ := h38
        have o7 : e' 7 = .pointer (some ⟨g7, 0, none⟩) := (ho 7 (by kernel_rfl)).trans (by (try simp only [upd_ap, Nat.reduceEqDiff, ↓reduceIte]); first | done | assumption | exact rfl)
        have o4 : e' 4 = .pointer (some ⟨g2, 0, none⟩) := (ho 4 (by kernel_rfl)).trans (by (try simp only [upd_ap, Nat.reduceEqDiff, ↓reduceIte]); first | done | assumption | exact rfl)
        clear hs ho
        simp -implicitDefEqProofs (disch := omega) only [go_sem, Nat.reduceEqDiff, Nat.reduceAdd, ↓reduceIte, h38, o7]
        have hsw := hw.size
        refine storeW_of (hb8.ext hw) siz35 rfl rfl fun w9 hk9 hb9 => ?_
        refine fin _ w9 s9 A9 n9 c9 o7 o4 hb9 ((hb2.ext hw).kpne hk9 (by omega)) ((hx8.trans hw).under hk9 fun k hk => by omega) (Nat.le_trans hsw hk9.size) ?_
        rw [hval, if_pos ⟨rfl, hlost⟩]
        exact (hB9.kp (hk9.mono fun k _ h => Dx.ne h (by omega) (by omega))).sub fun k _ h => h.1
    · rw [if_neg hlost, Int.sub_zero] at hval
      have fin2 : ∀ e1 : Env, e1 7 = .pointer (some ⟨g7, 0, none⟩) → e1 4 = .pointer (some ⟨g2, 0, none⟩) → K1 e1 w8 := fun e1 q7 q4 => fin e1 w8 s6 A6 n6 c6 q7 q4 hb8 hb2 hx8 (Nat.le_refl _) (by rw [hval]; exact hB8.sub fun k _ h => h.1)
      cases hs3 : s3
      · subst hs3
        refine W_seq_reg fun K hK => ?_
        simp -implicitDefEqProofs (disch := omega) only [go_sem, Nat.reduceEqDiff, Nat.reduceAdd, ↓reduceIte, hcs]
        refine hK _ _ ?_; clear hK K
        refine W_cond rfl (fun hc => by cases hc) (fun hc => W_skip ?_)
        exact fin2 _ (by (try simp only [upd_ap, Nat.reduceEqDiff, ↓reduceIte]); first | done | assumption | exact rfl) (by (try simp only [upd_ap, Nat.reduceEqDiff, ↓reduceIte]); first | done | assumption | exact rfl)
      · subst hs3
        have hd : decide (val (lim (sgn s (val l)).natAbs) % 2 ^ k ≠ 0) = false := by rw [hvn]; simpa using hlost
        refine W_seq_reg fun K hK => ?_
        simp -implicitDefEqProofs (disch := omega) only [go_sem, Nat.reduceEqDiff, Nat.reduceAdd, ↓reduceIte, hcs, hd]
        refine hK _ _ ?_; clear hK K
        refine W_cond rfl (fun hc => by cases hc) (fun hc => W_skip ?_)
        exact fin2 _ (by (try simp only [upd_ap, Nat.reduceEqDiff, ↓reduceIte]); first | done | assumption | exact rfl) (by (try simp only [upd_ap, Nat.reduceEqDiff, ↓reduceIte]); first | done | assumption | exact rfl)
end Go.Proofs.YtjamnehcmaloeaaGreatDoor
end
section
namespace Go.Sp
open Go.E
theorem two_pos (k : Nat) : 0 < 2 ^ k := Nat.pow_pos (by omega)
def tzF : Nat → Nat → Nat
  | 0, _ => 0
  | f + 1, n => if n % 2 = 1 then 0 else tzF f (n / 2) + 1
def tz (n : Nat) : Nat := if n = 0 then 0 else tzF n n
theorem tzF_spec : ∀ (f n : Nat), n ≠ 0 → n ≤ f → ∃ q, q % 2 = 1 ∧ n = q * 2 ^ tzF f n
  | 0, n, h, hf => by omega
  | f + 1, n, h, hf => by
    unfold tzF
    by_cases ho : n % 2 = 1
    · rw [if_pos ho]; exact ⟨n, ho, by simp⟩
    · rw [if_neg ho]
      obtain ⟨q, hq, he⟩ := tzF_spec f (n / 2) (by omega) (by omega)
      refine ⟨q, hq, ?_⟩
      rw [Nat.pow_succ, ← Nat.mul_assoc, ← he]; omega
theorem tz_spec {n : Nat} (h : n ≠ 0) : ∃ q, q % 2 = 1 ∧ n = q * 2 ^ tz n := by
  unfold tz; rw [if_neg h]; exact tzF_spec n n h (Nat.le_refl _)
theorem odd_uniq : ∀ {a b q r : Nat}, q % 2 = 1 → r % 2 = 1 → q * 2 ^ a = r * 2 ^ b → a = b
  | 0, 0, _, _, _, _, _ => rfl
  | 0, b + 1, q, r, hq, hr, h => by
    rw [Nat.pow_succ, ← Nat.mul_assoc, Nat.pow_zero, Nat.mul_one] at h
    generalize r * 2 ^ b = x at h; omega
  | a + 1, 0, q, r, hq, hr, h => by
    rw [Nat.pow_succ, ← Nat.mul_assoc, Nat.pow_zero, Nat.mul_one] at h
    generalize q * 2 ^ a = x at h; omega
  | a + 1, b + 1, q, r, hq, hr, h => by
    rw [Nat.pow_succ, Nat.pow_succ, ← Nat.mul_assoc, ← Nat.mul_assoc] at h
    have := odd_uniq hq hr (Nat.eq_of_mul_eq_mul_right (by omega) h)
    omega
theorem tz_uniq {n q k : Nat} (hq : q % 2 = 1) (h : n = q * 2 ^ k) : tz n = k := by
  have h0 : n ≠ 0 := by
    rintro rfl
    have := two_pos k
    rcases Nat.mul_eq_zero.1 h.symm with h | h <;> omega
  obtain ⟨r, hr, he⟩ := tz_spec h0
  exact odd_uniq hr hq (he.symm.trans h)
theorem tz_zero : tz 0 = 0 := rfl
theorem tz_odd {n : Nat} (h : n % 2 = 1) : tz n = 0 := tz_uniq h (by simp)
theorem tz_pow {n : Nat} (h : n ≠ 0) (k : Nat) : tz (n * 2 ^ k) = tz n + k := by
  obtain ⟨q, hq, he⟩ := tz_spec h
  refine tz_uniq hq ?_
  rw [Nat.pow_add, ← Nat.mul_assoc, ← he]
theorem bl_pos {n : Nat} (h : n ≠ 0) : 0 < bl n := by unfold bl; rw [if_neg h]; omega
theorem bl_pow {n : Nat} (h : n ≠ 0) (k : Nat) : bl (n * 2 ^ k) = bl n + k := by
  have a := bl_lt n
  have b := bl_le h
  have c := bl_pos h
  refine bl_uniq ?_ (.inr ?_)
  · rw [Nat.pow_add]; exact Nat.mul_lt_mul_of_pos_right a (two_pos k)
  · rw [show bl n + k - 1 = (bl n - 1) + k by omega, Nat.pow_add]; exact Nat.mul_le_mul_right _ b
theorem bl_mul_le (a b : Nat) : bl (a * b) ≤ bl a + bl b := by
  refine bl_le_of ?_
  rw [Nat.pow_add]
  exact Nat.mul_lt_mul_of_lt_of_le (bl_lt a) (Nat.le_of_lt (bl_lt b)) (two_pos _)
theorem bl_add_le {a b k : Nat} (ha : bl a ≤ k) (hb : bl b ≤ k) : bl (a + b) ≤ k + 1 := by
  refine bl_le_of ?_
  have h1 := bl_lt a
  have h2 := bl_lt b
  have h3 : 2 ^ bl a ≤ 2 ^ k := Nat.pow_le_pow_right (by omega) ha
  have h4 : 2 ^ bl b ≤ 2 ^ k := Nat.pow_le_pow_right (by omega) hb
  rw [Nat.pow_succ]; omega
theorem bl_lt_pow {n k : Nat} (h : bl n ≤ k) : n < 2 ^ k := Nat.lt_of_lt_of_le (bl_lt n) (Nat.pow_le_pow_right (by omega) h)
theorem bl_le_iff {n k : Nat} : bl n ≤ k ↔ n < 2 ^ k := ⟨bl_lt_pow, bl_le_of⟩
theorem tz_le {n : Nat} (h : n ≠ 0) : tz n < bl n := by
  obtain ⟨q, hq, he⟩ := tz_spec h
  have h1 : bl n = bl q + tz n := by
    have := bl_pow (n := q) (by omega) (tz n)
    rwa [← he] at this
  have := bl_pos (n := q) (by omega)
  omega
theorem len_bl (n : Nat) : (lim n).length = (bl n + 31) / 32 := by
  by_cases h : n = 0
  · subst h; rfl
  · have h1 := bl_lim h
    have h2 := lim_last h
    have h3 := (lim_all n).get ((lim n).length - 1)
    have h4 := bl_pos h2
    have h5 : bl ((lim n).getD ((lim n).length - 1) 0) ≤ 32 := bl_le_of h3
    have h6 := lim_length_pos.2 h
    omega
theorem bl_val {l : List Nat} (h : AllB l) : bl (val l) ≤ 32 * l.length := by
  refine bl_le_of ?_
  have := val_lt h
  rwa [B_eq, ← Nat.pow_mul] at this
theorem tz_lt32 {x : Nat} (h : x ≠ 0) (hx : x < 4294967296) : tz x < 32 := by
  have := tz_le h
  have : bl x ≤ 32 := bl_le_of hx
  omega
theorem tz_val {l : List Nat} {i : Nat} (ha : AllB l) (hi : i < l.length) (h0 : val (l.take i) = 0) (hd : l.getD i 0 ≠ 0) : tz (val l) = 32 * i + tz (l.getD i 0) := by
  have h1 := val_split l i (by omega)
  rw [h0, Nat.zero_add, drop_cons] at h1
  obtain ⟨q, hq, he⟩ := tz_spec hd
  have hk := tz_lt32 hd (ha.get i)
  refine tz_uniq (q := q + 2 ^ (32 - tz (l.getD i 0)) * val (l.drop (i + 1))) ?_ ?_
  · rw [show 32 - tz (l.getD i 0) = (31 - tz (l.getD i 0)) + 1 by omega, Nat.pow_succ, Nat.mul_comm (2 ^ _) 2, Nat.mul_assoc]
    omega
  · rw [h1]
    have e1 : B ^ i = 2 ^ (32 * i) := by rw [B_eq, ← Nat.pow_mul]
    have e2 : B = 2 ^ (32 - tz (l.getD i 0)) * 2 ^ tz (l.getD i 0) := by rw [← Nat.pow_add, B_eq]; congr 1; omega
    rw [e1, Nat.pow_add, Nat.add_mul]
    generalize val (l.drop (i + 1)) = X
    generalize hk' : tz (l.getD i 0) = k at *
    rw [he, e2]
    generalize 2 ^ (32 - k) = Y
    generalize 2 ^ k = Z
    generalize 2 ^ (32 * i) = U
    simp only [Nat.mul_add, Nat.mul_left_comm, Nat.mul_comm]
theorem val_zero_iff {l : List Nat} {i : Nat} : (val (l.take (i + 1)) = 0) ↔ (val (l.take i) = 0 ∧ l.getD i 0 = 0) := by
  have hB := B_pow_pos i
  have hv : val (l.take (i + 1)) = val (l.take i) + B ^ i * l.getD i 0 := by
    rcases Nat.lt_or_ge i l.length with h | h
    · exact val_take_succ l i h
    · rw [val_take_ge l (i + 1) (by omega), val_take_ge l i h, dg_ge h]; simp
  rw [hv, Nat.add_eq_zero_iff, Nat.mul_eq_zero]
  constructor
  · rintro ⟨a, b⟩; exact ⟨a, by omega⟩
  · rintro ⟨a, b⟩; exact ⟨a, .inr b⟩

/-! Odd parts. -/
def od (m : Int) : Int := m / (2 : Int) ^ tz m.natAbs
theorem int_pow_pos (k : Nat) : 0 < (2 : Int) ^ k := by rw [← pow_cast]; exact_mod_cast two_pos k
theorem natAbs_pow (k : Nat) : ((2 : Int) ^ k).natAbs = 2 ^ k := by rw [← pow_cast]; rfl
theorem natAbs_mul_pow (m : Int) (k : Nat) : (m * (2 : Int) ^ k).natAbs = m.natAbs * 2 ^ k := by rw [Int.natAbs_mul, natAbs_pow]
theorem od_mul (m : Int) : od m * (2 : Int) ^ tz m.natAbs = m := by
  unfold od
  by_cases h : m = 0
  · subst h; simp
  · obtain ⟨q, hq, he⟩ := tz_spec (n := m.natAbs) (by omega)
    refine Int.ediv_mul_cancel ?_
    rw [← pow_cast]
    exact Int.ofNat_dvd_left.2 ⟨q, by rw [Nat.mul_comm]; exact he⟩
theorem od_zero : od 0 = 0 := by simp [od]
theorem od_ne {m : Int} (h : m ≠ 0) : od m ≠ 0 := fun h0 => h (by rw [← od_mul m, h0]; simp)
theorem od_abs (m : Int) : (od m).natAbs * 2 ^ tz m.natAbs = m.natAbs := by
  rw [← natAbs_mul_pow, od_mul]
theorem od_odd {m : Int} (h : m ≠ 0) : (od m).natAbs % 2 = 1 := by
  obtain ⟨q, hq, he⟩ := tz_spec (n := m.natAbs) (by omega)
  have := Nat.eq_of_mul_eq_mul_right (two_pos _) ((od_abs m).trans he)
  rw [this]; exact hq
theorem tz_od {m : Int} (h : m ≠ 0) : tz (od m).natAbs = 0 := tz_odd (od_odd h)
theorem od_of {m o : Int} {k : Nat} (ho : o.natAbs % 2 = 1) (h : m = o * (2 : Int) ^ k) : od m = o ∧ tz m.natAbs = k := by
  have h1 : tz m.natAbs = k := tz_uniq ho (by rw [h, natAbs_mul_pow])
  refine ⟨?_, h1⟩
  unfold od
  rw [h1, h, Int.mul_ediv_cancel _ (Int.ne_of_gt (int_pow_pos k))]
theorem od_scale {m : Int} (k : Nat) : od (m * (2 : Int) ^ k) = od m := by
  by_cases h : m = 0
  · subst h; simp
  · refine (od_of (k := tz m.natAbs + k) (od_odd h) ?_).1
    rw [Int.pow_add, ← Int.mul_assoc, od_mul]
theorem od_sign (m : Int) : decide (od m < 0) = decide (m < 0) := by
  have h1 := od_mul m
  have h2 := int_pow_pos (tz m.natAbs)
  rw [decide_eq_decide]
  constructor
  · intro h; rw [← h1]; exact Int.mul_neg_of_neg_of_pos h h2
  · intro h
    rcases Int.lt_or_le (od m) 0 with h3 | h3
    · exact h3
    · have := Int.mul_nonneg h3 (Int.le_of_lt h2)
      omega
theorem bl_od {m : Int} (h : m ≠ 0) : bl (od m).natAbs + tz m.natAbs = bl m.natAbs := by
  have := bl_pow (n := (od m).natAbs) (by have := od_ne h; omega) (tz m.natAbs)
  rw [od_abs] at this
  exact this.symm

theorem shI_exact (a : Int) (k : Nat) : shI (a * (2 : Int) ^ k) (-(k : Int)) = a := by
  unfold shI
  split
  · rename_i h0
    have : k = 0 := by omega
    subst this; simp
  · rw [show (- -(k : Int)).toNat = k by omega]
    exact Int.mul_ediv_cancel _ (Int.ne_of_gt (int_pow_pos k))
theorem shI_od (m : Int) : shI (m.natAbs : Int) (-((tz m.natAbs : Nat) : Int)) = ((od m).natAbs : Nat) := by
  have h1 := od_abs m
  generalize tz m.natAbs = k at *
  rw [← h1, Int.natCast_mul, pow_cast, shI_exact]
theorem shI_odz (m : Int) : shI m (-((tz m.natAbs : Nat) : Int)) = od m := by
  have h1 := od_mul m
  generalize tz m.natAbs = k at *
  generalize od m = q at *
  rw [← h1, shI_exact]
/-! A dyad V 2^-65536 by its integer V. -/
def dyE (V : Int) : Int := if V = 0 then 0 else (tz V.natAbs : Int) - 65536
def dyOk (V : Int) : Prop := bl V.natAbs ≤ 131072
def mkV (m e : Int) : Option Int := if m = 0 then some 0 else if -65536 ≤ e + tz m.natAbs ∧ e + bl m.natAbs ≤ 65536 then some (od m * (2 : Int) ^ (e + tz m.natAbs + 65536).toNat) else none
theorem mkV_zero (e : Int) : mkV 0 e = some 0 := by simp [mkV]
theorem mkV_some {m e V : Int} (hm : m ≠ 0) (h : mkV m e = some V) : -65536 ≤ e + tz m.natAbs ∧ e + bl m.natAbs ≤ 65536 ∧ V = od m * (2 : Int) ^ (e + tz m.natAbs + 65536).toNat := by
  unfold mkV at h
  rw [if_neg hm] at h
  split at h
  · rename_i hc; exact ⟨hc.1, hc.2, (Option.some.inj h).symm⟩
  · cases h
theorem mkV_od {m e V : Int} (h : mkV m e = some V) : od V = od m ∧ (m ≠ 0 → V ≠ 0 ∧ dyE V = e + tz m.natAbs) ∧ (m = 0 → V = 0) ∧ dyOk V := by
  by_cases hm : m = 0
  · subst hm
    rw [mkV_zero] at h
    obtain rfl := Option.some.inj h
    exact ⟨rfl, fun h => absurd rfl h, fun _ => rfl, by simp [dyOk, bl_zero]⟩
  · obtain ⟨h1, h2, h3⟩ := mkV_some hm h
    obtain ⟨h4, h5⟩ := od_of (od_odd hm) h3
    have h6 : V ≠ 0 := fun h0 => by
      rw [h0, od_zero] at h4; exact od_ne hm h4.symm
    refine ⟨h4, fun _ => ⟨h6, ?_⟩, fun h => absurd h hm, ?_⟩
    · unfold dyE; rw [if_neg h6, h5]; omega
    · unfold dyOk
      have h7 := bl_od h6
      have h8 := bl_od hm
      rw [h4, h5] at h7
      omega
theorem mkV_scale {m e : Int} (k : Nat) : mkV (m * (2 : Int) ^ k) e = mkV m (e + k) := by
  by_cases hm : m = 0
  · subst hm; simp [mkV]
  · have hm' : m * (2 : Int) ^ k ≠ 0 := Int.mul_ne_zero hm (Int.ne_of_gt (int_pow_pos k))
    unfold mkV
    rw [if_neg hm, if_neg hm', natAbs_mul_pow, tz_pow (by omega), bl_pow (by omega), od_scale]
    have e1 : e + ((tz m.natAbs + k : Nat) : Int) = e + k + tz m.natAbs := by omega
    have e2 : e + ((bl m.natAbs + k : Nat) : Int) = e + k + bl m.natAbs := by omega
    rw [e1, e2]
theorem mkV_self {V : Int} (h : dyOk V) : mkV V (-65536) = some V := by
  by_cases h0 : V = 0
  · subst h0; exact mkV_zero _
  · unfold mkV dyOk at *
    rw [if_neg h0, if_pos (by omega)]
    rw [show (-65536 + (tz V.natAbs : Int) + 65536).toNat = tz V.natAbs by omega, od_mul]
theorem mkV_dy {V : Int} (h : dyOk V) : mkV (od V) (dyE V) = some V := by
  by_cases h0 : V = 0
  · subst h0; rw [od_zero]; exact mkV_zero _
  · have h1 := mkV_scale (m := od V) (e := -65536) (tz V.natAbs)
    rw [od_mul, mkV_self h] at h1
    unfold dyE
    rw [if_neg h0, h1, Int.add_comm]; rfl
theorem od_lift {V E : Int} (hE : -65536 ≤ E) (hv : E ≤ dyE V) : od V * (2 : Int) ^ (dyE V - E).toNat * (2 : Int) ^ (E + 65536).toNat = V := by
  by_cases h0 : V = 0
  · subst h0; rw [od_zero]; simp
  · unfold dyE at *
    rw [if_neg h0] at *
    rw [Int.mul_assoc, ← Int.pow_add, show ((tz V.natAbs : Int) - 65536 - E).toNat + (E + 65536).toNat = tz V.natAbs by omega, od_mul]
theorem mkV_lift {m V E : Int} (hE : -65536 ≤ E) (h : m * (2 : Int) ^ (E + 65536).toNat = V) : mkV m E = mkV V (-65536) := by
  rw [← h, mkV_scale]; congr 1; omega
theorem dyE_ge {V : Int} : -65536 ≤ dyE V := by unfold dyE; split <;> omega
theorem dyE_le {V : Int} (h : dyOk V) : dyE V + bl (od V).natAbs ≤ 65536 := by
  unfold dyE dyOk at *
  split
  · rename_i h0; subst h0; rw [od_zero]; simp [bl_zero]
  · rename_i h0; have := bl_od h0; omega
theorem bl_od_le {V : Int} (h : dyOk V) : bl (od V).natAbs ≤ 131072 := by
  by_cases h0 : V = 0
  · subst h0; rw [od_zero]; simp [bl_zero]
  · have := bl_od h0; unfold dyOk at h; omega
theorem od_neg (V : Int) : od (-V) = -od V := by
  by_cases h0 : V = 0
  · subst h0; simp [od_zero]
  · refine (od_of (k := tz V.natAbs) (by rw [Int.natAbs_neg]; exact od_odd h0) ?_).1
    rw [Int.neg_mul, od_mul]
theorem dyE_neg (V : Int) : dyE (-V) = dyE V := by unfold dyE; simp [Int.neg_eq_zero]
theorem dyOk_neg {V : Int} (h : dyOk V) : dyOk (-V) := by unfold dyOk at *; rwa [Int.natAbs_neg]
theorem mkV_mul (a b : Int) : mkV (od a * od b) (dyE a + dyE b) = mkV (a * b) (-131072) := by
  by_cases ha : a = 0
  · subst ha; rw [od_zero]; simp [mkV]
  · by_cases hb : b = 0
    · subst hb; rw [od_zero]; simp [mkV]
    · have : a * b = od a * od b * (2 : Int) ^ (tz a.natAbs + tz b.natAbs) := by
        rw [Int.pow_add]
        have h1 := od_mul a
        have h2 := od_mul b
        generalize (2 : Int) ^ tz a.natAbs = x at *
        generalize (2 : Int) ^ tz b.natAbs = y at *
        generalize od a = p at *
        generalize od b = q at *
        rw [← h1, ← h2]
        simp only [Int.mul_assoc, Int.mul_left_comm, Int.mul_comm]
      rw [this, mkV_scale]
      unfold dyE
      rw [if_neg ha, if_neg hb]; congr 1; omega
theorem mkV_mul_of {a b V : Int} (h : a * b = V * (2 : Int) ^ 65536) (hv : dyOk V) : mkV (a * b) (-131072) = some V := by
  rw [h, mkV_scale]; exact mkV_self hv
end Go.Sp
end
section
namespace Go.Sp
open Go.E
def rq (mode : Int) (neg : Bool) (N D : Nat) : Nat :=
  if N % D = 0 then N / D
  else if mode = 1 then (if neg then N / D + 1 else N / D)
  else if mode = 2 then (if neg then N / D else N / D + 1)
  else if mode = 3 then N / D
  else if D < 2 * (N % D) ∨ (2 * (N % D) = D ∧ N / D % 2 = 1) then N / D + 1 else N / D
def lgq (N D : Nat) : Int := (bl (N * 2 ^ bl D / D) : Int) - 1 - bl D
def rat (mode : Int) (neg : Bool) (N D : Nat) (q : Int) : Nat := rq mode neg (N * 2 ^ (-q).toNat) (D * 2 ^ q.toNat)
def sb (neg : Bool) (x : Nat) : Nat := if neg then x + 9223372036854775808 else x
def over (mode : Int) (neg : Bool) : Nat := if mode = 3 ∨ (mode = 1 ∧ neg = false) ∨ (mode = 2 ∧ neg = true) then sb neg 9218868437227405311 else sb neg 9218868437227405312
def fin2 (mode : Int) (neg : Bool) (n : Nat) (q : Int) : Nat :=
  if n < 4503599627370496 then sb neg n else if 2047 ≤ q + 1075 then over mode neg else sb neg ((q + 1075).toNat * 4503599627370496 + (n - 4503599627370496))
def fin (mode : Int) (neg : Bool) (n : Nat) (q : Int) : Nat := if n = 9007199254740992 then fin2 mode neg 4503599627370496 (q + 1) else fin2 mode neg n q
def lastQ (N D : Nat) : Int := max (lgq N D - 52) (-1074)
def rF (mode : Int) (neg : Bool) (N D : Nat) : Nat := fin mode neg (rat mode neg N D (lastQ N D)) (lastQ N D)
def ofF (f : Nat) : Option Int :=
  if f / 4503599627370496 % 2048 = 2047 then none
  else if f / 4503599627370496 % 2048 = 0 then some (sgn (decide (9223372036854775808 ≤ f)) (f % 4503599627370496) * (2 : Int) ^ 64462)
  else some (sgn (decide (9223372036854775808 ≤ f)) (4503599627370496 + f % 4503599627370496) * (2 : Int) ^ (64461 + f / 4503599627370496 % 2048))
theorem bl_two {q b : Nat} (hq : q ≠ 0) (hb : b < 2) : bl (2 * q + b) = bl q + 1 := by
  have := bl_div (n := 2 * q + b) (k := 1) (by omega)
  rw [this, show (2 * q + b) / 2 ^ 1 = q by omega]; omega
theorem lg_step {N D : Nat} (hD : 0 < D) (h : D ≤ N) : bl (N * 2 / D) = bl (N / D) + 1 := by
  have h1 := Nat.div_add_mod N D
  have h2 := Nat.mod_lt N hD
  have h3 : N / D ≠ 0 := by have := Nat.div_pos h hD; omega
  have h4 : N * 2 / D = 2 * (N / D) + 2 * (N % D) / D := by
    have e : N * 2 = 2 * (N % D) + D * (2 * (N / D)) := by
      have : D * (2 * (N / D)) = 2 * (D * (N / D)) := by rw [Nat.mul_left_comm]
      omega
    rw [e, Nat.add_mul_div_left _ _ hD]; omega
  rw [h4]
  refine bl_two h3 ?_
  rw [Nat.div_lt_iff_lt_mul hD]; omega
theorem lg_up {N D : Nat} (hD : 0 < D) (h : D ≤ N) : ∀ k, bl (N * 2 ^ k / D) = bl (N / D) + k
  | 0 => by simp
  | k + 1 => by
    have h2 : D ≤ N * 2 ^ k := Nat.le_trans h (Nat.le_mul_of_pos_right _ (two_pos k))
    rw [Nat.pow_succ, ← Nat.mul_assoc, lg_step hD h2, lg_up hD h k]; omega
theorem lgq_eq {N D k : Nat} (hD : 0 < D) (h : D ≤ N * 2 ^ k) : lgq N D = (bl (N * 2 ^ k / D) : Int) - 1 - k := by
  have hN : N ≠ 0 := by rintro rfl; simp at h; omega
  have h1 : D ≤ N * 2 ^ bl D := Nat.le_trans (Nat.le_of_lt (bl_lt D)) (Nat.le_mul_of_pos_left _ (by omega))
  have a := lg_up hD h (bl D)
  have b := lg_up hD h1 k
  rw [Nat.mul_assoc, ← Nat.pow_add] at a b
  rw [Nat.add_comm k] at a
  unfold lgq; omega
theorem lgq_scale {N D c : Nat} (hN : 0 < N) (hD : 0 < D) (hc : 0 < c) : lgq (N * c) (D * c) = lgq N D := by
  have h1 : D ≤ N * 2 ^ bl D := Nat.le_trans (Nat.le_of_lt (bl_lt D)) (Nat.le_mul_of_pos_left _ hN)
  have h2 : D * c ≤ N * c * 2 ^ bl D := by rw [Nat.mul_right_comm]; exact Nat.mul_le_mul_right _ h1
  rw [lgq_eq (Nat.mul_pos hD hc) h2, lgq_eq hD h1, Nat.mul_right_comm, Nat.mul_div_mul_right _ _ hc]
theorem rq_scale {mode : Int} {neg : Bool} {N D c : Nat} (hc : 0 < c) : rq mode neg (N * c) (D * c) = rq mode neg N D := by
  have e1 : (N * c % (D * c) = 0) = (N % D = 0) := by
    rw [Nat.mul_mod_mul_right, Nat.mul_eq_zero]; simp only [eq_iff_iff]; constructor
    · rintro (h | h) <;> omega
    · exact fun h => .inl h
  have e2 : (D * c < 2 * (N * c % (D * c))) = (D < 2 * (N % D)) := by
    rw [Nat.mul_mod_mul_right, ← Nat.mul_assoc]; simp only [eq_iff_iff]
    exact Nat.mul_lt_mul_right hc
  have e3 : (2 * (N * c % (D * c)) = D * c) = (2 * (N % D) = D) := by
    rw [Nat.mul_mod_mul_right, ← Nat.mul_assoc]; simp only [eq_iff_iff]
    exact Nat.mul_left_inj (by omega)
  unfold rq
  simp only [e1, e2, e3, Nat.mul_div_mul_right _ _ hc]
theorem rF_scale {mode : Int} {neg : Bool} {N D c : Nat} (hN : 0 < N) (hD : 0 < D) (hc : 0 < c) : rF mode neg (N * c) (D * c) = rF mode neg N D := by
  unfold rF rat lastQ
  rw [lgq_scale hN hD hc, Nat.mul_right_comm N c, Nat.mul_right_comm D c, rq_scale hc]
theorem rF_cross {mode : Int} {neg : Bool} {N D N' D' : Nat} (hN : 0 < N) (hD : 0 < D) (hN' : 0 < N') (hD' : 0 < D') (h : N * D' = N' * D) : rF mode neg N D = rF mode neg N' D' := by
  rw [← rF_scale (c := D') hN hD hD', h, Nat.mul_comm D D', rF_scale hN' hD' hD]
theorem lg_exp {N D : Nat} (e : Int) (hD : 0 < D) (h : D ≤ N) : lgq (N * 2 ^ e.toNat) (D * 2 ^ (-e).toNat) = e + bl (N / D) - 1 := by
  have h1 : D * 2 ^ (-e).toNat ≤ N * 2 ^ e.toNat * 2 ^ (-e).toNat := Nat.mul_le_mul_right _ (Nat.le_trans h (Nat.le_mul_of_pos_right _ (two_pos _)))
  rw [lgq_eq (Nat.mul_pos hD (two_pos _)) h1, Nat.mul_div_mul_right _ _ (two_pos _), lg_up hD h]
  omega
theorem rat_exp {mode : Int} {neg : Bool} {N D : Nat} (e q : Int) : rat mode neg (N * 2 ^ e.toNat) (D * 2 ^ (-e).toNat) q = rq mode neg (N * 2 ^ (e - q).toNat) (D * 2 ^ (q - e).toNat) := by
  unfold rat
  rw [Nat.mul_assoc, Nat.mul_assoc, ← Nat.pow_add, ← Nat.pow_add]
  rcases Int.le_total q e with h | h
  · have e1 : e.toNat + (-q).toNat = (e - q).toNat + ((-e).toNat + q.toNat) := by omega
    have e2 : (q - e).toNat = 0 := by omega
    rw [e1, e2, Nat.pow_zero, Nat.mul_one, Nat.pow_add 2 (e - q).toNat, ← Nat.mul_assoc]
    exact rq_scale (two_pos _)
  · have e1 : (-e).toNat + q.toNat = (q - e).toNat + (e.toNat + (-q).toNat) := by omega
    have e2 : (e - q).toNat = 0 := by omega
    rw [e1, e2, Nat.pow_zero, Nat.mul_one, Nat.pow_add 2 (q - e).toNat, ← Nat.mul_assoc]
    exact rq_scale (two_pos _)
theorem rq_exact {mode : Int} {neg : Bool} {N D : Nat} (h : N % D = 0) : rq mode neg N D = N / D := by unfold rq; rw [if_pos h]
theorem rq_one {mode : Int} {neg : Bool} {N : Nat} : rq mode neg N 1 = N := by rw [rq_exact (Nat.mod_one N), Nat.div_one]
theorem rq_le {mode : Int} {neg : Bool} {N D : Nat} : rq mode neg N D ≤ N / D + 1 := by unfold rq; (repeat' split) <;> omega
def rE (mode : Int) (neg : Bool) (N D : Nat) (e : Int) : Nat := rF mode neg (N * 2 ^ e.toNat) (D * 2 ^ (-e).toNat)
theorem rE_eq {mode : Int} {neg : Bool} {N D : Nat} {e : Int} (hD : 0 < D) (h : D ≤ N) :
    rE mode neg N D e = fin mode neg (rq mode neg (N * 2 ^ (e - max (e + bl (N / D) - 53) (-1074)).toNat) (D * 2 ^ (max (e + bl (N / D) - 53) (-1074) - e).toNat)) (max (e + bl (N / D) - 53) (-1074)) := by
  unfold rE rF lastQ
  rw [lg_exp e hD h, rat_exp, show e + (bl (N / D) : Int) - 1 - 52 = e + bl (N / D) - 53 by omega]
theorem cut_div (N D k : Nat) : N / (D * 2 ^ k) = N / D / 2 ^ k := (Nat.div_div_eq_div_mul N D (2 ^ k)).symm
theorem cut_mod (N D k : Nat) : N % (D * 2 ^ k) = D * (N / D % 2 ^ k) + N % D := by rw [Nat.mod_mul]; omega
theorem rq_cut {neg : Bool} {N D k : Nat} (hD : 0 < D) (hk : 0 < k) : rq 0 neg N (D * 2 ^ k) =
    if (2 ^ (k - 1) < N / D % 2 ^ k ∨ (N / D % 2 ^ k = 2 ^ (k - 1) ∧ N % D ≠ 0)) ∨ (N / D % 2 ^ k = 2 ^ (k - 1) ∧ N % D = 0 ∧ N / D / 2 ^ k % 2 = 1) then N / D / 2 ^ k + 1 else N / D / 2 ^ k := by
  have h2 := Nat.mod_lt N hD
  have hp : 2 ^ k = 2 * 2 ^ (k - 1) := by rw [← Nat.pow_succ']; congr 1; omega
  have hp0 := two_pos (k - 1)
  unfold rq
  rw [cut_div, cut_mod]
  generalize N % D = r at *
  generalize N / D / 2 ^ k = Q
  generalize N / D % 2 ^ k = s
  rw [hp]
  generalize 2 ^ (k - 1) = h at *
  have e1 : D * (2 * h) = 2 * (D * h) := Nat.mul_left_comm _ _ _
  rw [e1]
  have key : ∀ a b : Nat, a < b → D * a + D ≤ D * b := fun a b hab => by rw [← Nat.mul_succ]; exact Nat.mul_le_mul_left _ hab
  have z1 : ¬ (0 : Int) = 1 := by omega
  have z2 : ¬ (0 : Int) = 2 := by omega
  have z3 : ¬ (0 : Int) = 3 := by omega
  simp only [z1, z2, z3, if_false]
  rcases Nat.lt_trichotomy s h with hs | hs | hs
  · have := key s h hs
    have c1 : ¬ (2 * (D * h) < 2 * (D * s + r)) := by omega
    have c2 : ¬ (2 * (D * s + r) = 2 * (D * h)) := by omega
    simp only [c1, c2, show ¬ h < s by omega, show ¬ s = h by omega, false_and, or_self, if_false]
    split <;> rfl
  · subst hs
    by_cases hr : r = 0
    · subst hr
      have c0 : ¬ (D * s = 0) := fun h0 => by
        have := Nat.mul_pos hD hp0; omega
      simp only [c0, Nat.lt_irrefl, Nat.add_zero, ne_eq, not_true, and_false, false_or, or_self, true_and, if_false]
    · have c0 : ¬ (D * s + r = 0) := by omega
      have c1 : 2 * (D * s) < 2 * (D * s + r) := by omega
      simp only [c0, c1, hr, ne_eq, not_false_eq_true, and_self, true_or, or_true, if_true, if_false]
  · have := key h s hs
    have c0 : ¬ (D * s + r = 0) := by omega
    have c1 : 2 * (D * h) < 2 * (D * s + r) := by omega
    simp only [c0, c1, hs, true_or, if_true, if_false]
def halfS (N D k : Nat) : Int := if 0 < k ∧ N / D / 2 ^ (k - 1) % 2 = 1 then (if N % D ≠ 0 ∨ N / D % 2 ^ (k - 1) ≠ 0 then 1 else 0) else -1
def upS (mode : Int) (neg : Bool) (half : Int) (odd : Bool) : Bool := if mode = 1 then neg else if mode = 2 then !neg else if mode = 3 then false else (decide (0 < half) || (decide (half = 0) && odd))
theorem rq_up {mode : Int} {neg : Bool} {N D k : Nat} (hD : 0 < D) (hk : N % D ≠ 0 → 0 < k) : rq mode neg N (D * 2 ^ k) =
    N / D / 2 ^ k + (if (N / D % 2 ^ k ≠ 0 ∨ N % D ≠ 0) ∧ upS mode neg (halfS N D k) (decide (N / D / 2 ^ k % 2 = 1)) = true then 1 else 0) := by
  have h2 := Nat.mod_lt N hD
  rcases Nat.eq_zero_or_pos k with h0 | h0
  · subst h0
    have hr : N % D = 0 := by
      rcases Nat.eq_zero_or_pos (N % D) with h | h
      · exact h
      · have := hk (by omega); omega
    rw [Nat.pow_zero, Nat.mul_one, rq_exact hr, Nat.mod_one, hr]; simp
  have hp : 2 ^ k = 2 ^ (k - 1) * 2 := by rw [← Nat.pow_succ]; congr 1; omega
  have hp0 := two_pos (k - 1)
  have hs := Nat.mod_mul (x := N / D) (a := 2 ^ (k - 1)) (b := 2)
  rw [← hp] at hs
  have hs' := Nat.mod_lt (N / D) hp0
  have hb2 : N / D / 2 ^ (k - 1) % 2 < 2 := Nat.mod_lt _ (by omega)
  unfold rq halfS
  rw [cut_div, cut_mod]
  generalize N / D / 2 ^ k = Q
  simp only [h0, true_and]
  generalize N / D % 2 ^ k = s at *
  generalize N / D % 2 ^ (k - 1) = s' at *
  generalize N / D / 2 ^ (k - 1) % 2 = b at *
  generalize N % D = r at *
  rw [hp]
  generalize 2 ^ (k - 1) = h at *
  have e0 : (D * s + r = 0) = (s = 0 ∧ r = 0) := by
    rw [eq_iff_iff, Nat.add_eq_zero_iff, Nat.mul_eq_zero]
    constructor
    · rintro ⟨a | a, c⟩
      · omega
      · exact ⟨a, c⟩
    · rintro ⟨a, c⟩; exact ⟨.inr a, c⟩
  have e1 : D * (h * 2) = 2 * (D * h) := by rw [Nat.mul_comm h 2, Nat.mul_left_comm]
  have key : ∀ a b : Nat, a < b → D * a + D ≤ D * b := fun a b hab => by rw [← Nat.mul_succ]; exact Nat.mul_le_mul_left _ hab
  simp only [e0, e1]
  by_cases hz : s = 0 ∧ r = 0
  · obtain ⟨rfl, rfl⟩ := hz
    simp
  · have hz' : s ≠ 0 ∨ r ≠ 0 := by omega
    simp only [hz, hz', if_false, true_and]
    unfold upS
    by_cases m1 : mode = 1
    · simp only [m1, if_true]; cases neg <;> rfl
    by_cases m2 : mode = 2
    · simp only [m1, m2, if_false, if_true]; cases neg <;> rfl
    by_cases m3 : mode = 3
    · simp only [m1, m2, m3, if_false, if_true]; rfl
    simp only [m1, m2, m3, if_false]
    by_cases hb : b = 1
    · subst hb
      have hss : D * s = D * h + D * s' := by rw [hs, Nat.mul_one, Nat.add_comm, Nat.mul_add]
      simp only [if_true]
      by_cases hc : r ≠ 0 ∨ s' ≠ 0
      · have : 0 < D * s' + r := by
          rcases hc with hc | hc
          · omega
          · have := Nat.mul_pos hD (show 0 < s' by omega); omega
        rw [if_pos (.inl (by omega)), if_pos hc]; simp
      · have hr0 : r = 0 := by omega
        have hs0 : s' = 0 := by omega
        subst hr0; subst hs0
        rw [Nat.mul_zero, Nat.add_zero] at hss
        rw [hss]
        by_cases ho : Q % 2 = 1 <;> simp [ho]
    · have hsl : s = s' := by
        have : b = 0 := by omega
        rw [hs, this]; simp
      have := key s h (by omega)
      have c1 : ¬ (2 * (D * h) < 2 * (D * s + r)) := by omega
      have c2 : ¬ (2 * (D * s + r) = 2 * (D * h)) := by omega
      simp [c1, c2, hb]
theorem rE_le {mode : Int} {neg : Bool} {N D : Nat} {e q : Int} (hD : 0 < D) (h : D ≤ N) (hq : e + bl (N / D) - 53 ≤ q) : rq mode neg (N * 2 ^ (e - q).toNat) (D * 2 ^ (q - e).toNat) ≤ 9007199254740992 := by
  have h53 : (2 : Nat) ^ 53 = 9007199254740992 := by decide
  refine Nat.le_trans rq_le ?_
  rw [cut_div]
  have h1 := lg_up hD h (e - q).toNat
  have h2 := bl_lt (N * 2 ^ (e - q).toNat / D)
  rw [h1] at h2
  rcases Int.le_total q e with hqe | hqe
  · rw [show (q - e).toNat = 0 by omega, Nat.pow_zero, Nat.div_one]
    have : 2 ^ (bl (N / D) + (e - q).toNat) ≤ 2 ^ 53 := Nat.pow_le_pow_right (by omega) (by omega)
    omega
  · have : N * 2 ^ (e - q).toNat / D / 2 ^ (q - e).toNat < 2 ^ 53 := by
      rw [Nat.div_lt_iff_lt_mul (two_pos _), ← Nat.pow_add]
      exact Nat.lt_of_lt_of_le h2 (Nat.pow_le_pow_right (by omega) (by omega))
    omega
theorem sb_lt {neg : Bool} {x : Nat} (h : x < 9223372036854775808) : sb neg x < 18446744073709551616 := by unfold sb; split <;> omega
theorem over_lt {mode : Int} {neg : Bool} : over mode neg < 18446744073709551616 := by unfold over; split <;> exact sb_lt (by omega)
theorem fin2_lt {mode : Int} {neg : Bool} {n : Nat} {q : Int} (hn : n < 9007199254740992) : fin2 mode neg n q < 18446744073709551616 := by
  unfold fin2
  split
  · exact sb_lt (by omega)
  · split
    · exact over_lt
    · refine sb_lt ?_
      have : (q + 1075).toNat ≤ 2046 := by omega
      omega
theorem fin_lt {mode : Int} {neg : Bool} {n : Nat} {q : Int} (hn : n ≤ 9007199254740992) : fin mode neg n q < 18446744073709551616 := by
  unfold fin
  split
  · exact fin2_lt (by omega)
  · exact fin2_lt (by omega)
theorem rE_lt {mode : Int} {neg : Bool} {N D : Nat} {e : Int} (hD : 0 < D) (h : D ≤ N) : rE mode neg N D e < 18446744073709551616 := by
  rw [rE_eq hD h]; exact fin_lt (rE_le hD h (by omega))
theorem fin2_ofF {mode : Int} {neg : Bool} {n : Nat} {q : Int} (hn : n < 9007199254740992) (hq : -1074 ≤ q) (hq2 : q + 1075 < 2047) (h : q = -1074 ∨ 4503599627370496 ≤ n) :
    ofF (fin2 mode neg n q) = some (sgn neg n * (2 : Int) ^ (q + 65536).toNat) := by
  unfold fin2
  by_cases h1 : n < 4503599627370496
  · rw [if_pos h1]
    have hq' : q = -1074 := by omega
    subst hq'
    unfold ofF sb
    cases neg
    · rw [if_neg (by simp; omega), if_pos (by simp; omega)]
      simp only [Bool.false_eq_true, if_false]
      rw [decide_eq_false (by omega), Nat.mod_eq_of_lt h1]; rfl
    · rw [if_neg (by simp; omega), if_pos (by simp; omega)]
      simp only [if_true]
      rw [decide_eq_true (by omega), show (n + 9223372036854775808) % 4503599627370496 = n by omega]; rfl
  · rw [if_neg h1, if_neg (by omega)]
    obtain ⟨x, hx⟩ : ∃ x : Nat, x = (q + 1075).toNat := ⟨_, rfl⟩
    rw [← hx]
    have hx1 : 1 ≤ x := by omega
    have hx2 : x ≤ 2046 := by omega
    have hqx : (q + 65536).toNat = 64461 + x := by omega
    rw [hqx]
    unfold ofF sb
    cases neg
    · simp only [Bool.false_eq_true, if_false]
      have e1 : (x * 4503599627370496 + (n - 4503599627370496)) / 4503599627370496 % 2048 = x := by omega
      rw [e1, if_neg (by omega), if_neg (by omega), decide_eq_false (by omega), show 4503599627370496 + (x * 4503599627370496 + (n - 4503599627370496)) % 4503599627370496 = n by omega]
    · simp only [if_true]
      have e1 : (x * 4503599627370496 + (n - 4503599627370496) + 9223372036854775808) / 4503599627370496 % 2048 = x := by omega
      rw [e1, if_neg (by omega), if_neg (by omega), decide_eq_true (by omega), show 4503599627370496 + (x * 4503599627370496 + (n - 4503599627370496) + 9223372036854775808) % 4503599627370496 = n by omega]
theorem rF_exact {mode : Int} {neg : Bool} {N D M : Nat} {f : Int} (hD : 0 < D) (hM : 0 < M) (hb : bl M ≤ 53) (h1 : -1074 ≤ f) (h2 : f + bl M ≤ 1024) (h : N * 2 ^ (-f).toNat = D * M * 2 ^ f.toNat) :
    ofF (rF mode neg N D) = some (sgn neg M * (2 : Int) ^ (f + 65536).toNat) ∧ rF mode neg N D < 18446744073709551616 := by
  have hN : 0 < N := by
    rcases Nat.eq_zero_or_pos N with h0 | h0
    · subst h0
      have a := Nat.mul_pos (Nat.mul_pos hD hM) (two_pos f.toNat)
      omega
    · exact h0
  have e0 : rF mode neg N D = rE mode neg M 1 f := by
    unfold rE
    refine rF_cross hN hD (Nat.mul_pos hM (two_pos _)) (Nat.mul_pos (by omega) (two_pos _)) ?_
    rw [Nat.one_mul, h, Nat.mul_comm D M, Nat.mul_right_comm]
  refine ⟨?_, by rw [e0]; exact rE_lt (by omega) (by omega)⟩
  rw [e0, rE_eq (by omega) (by omega), Nat.div_one]
  obtain ⟨q, hq⟩ : ∃ q : Int, q = max (f + bl M - 53) (-1074) := ⟨_, rfl⟩
  rw [← hq, show (q - f).toNat = 0 by omega, Nat.pow_zero, Nat.mul_one, rq_one]
  have hbn := bl_pow (n := M) (by omega) (f - q).toNat
  obtain ⟨n, hn⟩ : ∃ n, n = M * 2 ^ (f - q).toNat := ⟨_, rfl⟩
  rw [← hn] at hbn ⊢
  have hn53 : n < 2 ^ 53 := bl_lt_pow (by omega)
  have h53 : (2 : Nat) ^ 53 = 9007199254740992 := by decide
  unfold fin
  rw [if_neg (by omega), fin2_ofF (by omega) (by omega) (by omega) ?_]
  · rw [hn]
    congr 1
    have : sgn neg (M * 2 ^ (f - q).toNat) = sgn neg M * (2 : Int) ^ (f - q).toNat := by
      rw [← pow_cast]; cases neg <;> simp [sgn, Int.neg_mul]
    rw [this, Int.mul_assoc, ← Int.pow_add]
    congr 2; omega
  · rcases Int.le_total (f + bl M - 53) (-1074) with hc | hc
    · left; omega
    · right
      have hne : n ≠ 0 := by rw [hn]; exact Nat.ne_of_gt (Nat.mul_pos hM (two_pos _))
      have := bl_le hne
      have h52 : (2 : Nat) ^ 52 = 4503599627370496 := by decide
      rw [show bl n - 1 = 52 by omega] at this
      omega
end Go.Sp
end
section
namespace Go.E
open Go
structure Fam where
  p : (Nat → Prop) → Value → World → Prop
  kp : ∀ {D : Nat → Prop} {w w' : World} {v : Value}, Kp D w w' → p D v w → p D v w'
  sub : ∀ {D D' : Nat → Prop} {w : World} {v : Value}, (∀ k, k < w.heap.size → D k → D' k) → p D v w → p D' v w
def In (G : Fam) (D : Nat → Prop) (v : Value) (w : World) : Prop := G.p D v w
section
variable {G : Fam} {D D' : Nat → Prop} {v : Value} {w w' : World}
theorem In.kp (h : In G D v w) (k : Kp D w w') : In G D v w' := G.kp k h
theorem In.ext (h : In G D v w) (k : Ext w w') : In G D v w' := G.kp (Kp.of_ext k) h
theorem In.sub (h : In G D v w) (k : ∀ k, k < w.heap.size → D k → D' k) : In G D' v w := G.sub k h
theorem In.all (h : In G D v w) : In G (fun _ => True) v w := G.sub (fun _ _ _ => trivial) h
theorem In.dx (h : In G D v w) {a b : Nat} (ha : w.heap.size ≤ a) : In G (Dx D a b) v w := G.sub (fun _ hk hd => Dx.lt hd (by omega)) h
theorem In.st (h : In G (Dx D w.heap.size w'.heap.size) v w) (k : Ext w w') : In G (Dx D w.heap.size w'.heap.size) v w' := h.ext k
def Fam.S (G : Fam) (D : Nat → Prop) : SpecR (Kp fun _ => True) := ⟨In G D, fun _ _ _ k h => h.ext k⟩
def fc (v : Value) : Fam := ⟨fun _ x _ => x = v, fun _ h => h, fun _ h => h⟩
def fT : Fam := ⟨fun _ _ _ => True, fun _ h => h, fun _ h => h⟩
theorem In.eq {u : Value} (h : In (fc u) D v w) : v = u := h
theorem in_c : In (fc v) D v w := rfl
def fEx {α : Type} (G : α → Fam) : Fam := ⟨fun D v w => ∃ a, (G a).p D v w, fun k ⟨a, h⟩ => ⟨a, (G a).kp k h⟩, fun k ⟨a, h⟩ => ⟨a, (G a).sub k h⟩⟩
def fAnd (c : Prop) (G : Fam) : Fam := ⟨fun D v w => c ∧ G.p D v w, fun k ⟨a, h⟩ => ⟨a, G.kp k h⟩, fun k ⟨a, h⟩ => ⟨a, G.sub k h⟩⟩
def fP (G H : Fam) : Fam := ⟨fun D v w => ∃ a b, v = .tuple #[a, b] ∧ G.p D a w ∧ H.p D b w, fun k ⟨a, b, e, h1, h2⟩ => ⟨a, b, e, G.kp k h1, H.kp k h2⟩, fun k ⟨a, b, e, h1, h2⟩ => ⟨a, b, e, G.sub k h1, H.sub k h2⟩⟩
def fP3 (G H I : Fam) : Fam := ⟨fun D v w => ∃ a b c, v = .tuple #[a, b, c] ∧ G.p D a w ∧ H.p D b w ∧ I.p D c w, fun k ⟨a, b, c, e, h1, h2, h3⟩ => ⟨a, b, c, e, G.kp k h1, H.kp k h2, I.kp k h3⟩, fun k ⟨a, b, c, e, h1, h2, h3⟩ => ⟨a, b, c, e, G.sub k h1, H.sub k h2, I.sub k h3⟩⟩
def Rt (G : Fam) (D : Nat → Prop) (w : World) : Ending → World → Prop := fun e w' => ∃ v, e = .returned v ∧ Ext w w' ∧ In G D v w'
theorem In.own {w1 w2 : World} {g a b : Nat} (h : In G (Dx D a b) v w1) (k : Kp (fun k => k ≠ g) w1 w2) (h1 : a ≤ g) (h2 : g < b) : In G (Dx D a b) v w2 := h.kp (k.mono fun _ _ h => Dx.ne h h1 h2)
theorem In.un {a b : Nat} (h : In G (Dx D a b) v w) : In G D v w := h.sub fun _ _ h => h.1
end
def Dl (D : Nat → Prop) (L : List Nat) : Nat → Prop := fun k => D k ∧ k ∉ L
section
variable {G : Fam} {D : Nat → Prop} {L : List Nat} {v : Value} {w w0 w1 w2 : World} {g : Nat}
theorem In.nL (h : In G D v w) (hL : ∀ g ∈ L, w.heap.size ≤ g) : In G (Dl D L) v w := h.sub fun k hk hd => ⟨hd, fun hm => by have := hL k hm; omega⟩
theorem In.nw (h : In G (Dl D L) v w) (hg : w.heap.size ≤ g) : In G (Dl D (g :: L)) v w := h.sub fun k hk hd => ⟨hd.1, fun hm => by
  rcases List.mem_cons.1 hm with e | hm
  · omega
  · exact hd.2 hm⟩
theorem In.ow (h : In G (Dl D L) v w1) (k : Kp (fun k => k ≠ g) w1 w2) (hg : g ∈ L) : In G (Dl D L) v w2 := h.kp (k.mono fun j _ hj e => hj.2 (e ▸ hg))
theorem In.ul (h : In G (Dl D L) v w) : In G D v w := h.sub fun _ _ h => h.1
theorem Fr.nL (h : Fr D w) (hx : Ext w w1) (hL : ∀ g ∈ L, g < w1.heap.size) : Fr (Dl D L) w1 := fun k hk => ⟨h k (Nat.le_trans hx.size hk), fun hm => by have := hL k hm; omega⟩
theorem Fr.nw (h : Fr (Dl D L) w) (hx : Ext w w1) (hg : g < w1.heap.size) : Fr (Dl D (g :: L)) w1 := fun k hk => ⟨(h k (Nat.le_trans hx.size hk)).1, fun hm => by
  rcases List.mem_cons.1 hm with e | hm
  · omega
  · exact (h k (Nat.le_trans hx.size hk)).2 hm⟩
theorem Fr.ow (h : Fr D w1) (k : Kp (fun k => k ≠ g) w1 w2) : Fr D w2 := h.kp k
theorem Kp.all (h : Kp (fun k => k ∉ ([] : List Nat)) w w1) : Ext w w1 := h.mono fun _ _ _ => by simp
theorem In.wk (h : In G (Dl D (g :: L)) v w) : In G (Dl D L) v w := h.sub fun _ _ h => ⟨h.1, fun hm => h.2 (List.mem_cons_of_mem _ hm)⟩
theorem Fr.wk (h : Fr (Dl D (g :: L)) w) : Fr (Dl D L) w := fun k hk => ⟨(h k hk).1, fun hm => (h k hk).2 (List.mem_cons_of_mem _ hm)⟩
theorem In.kpx {X : List Nat} (h : In G (Dl D L) v w1) (k : Kp (fun k => k ∉ X) w1 w2) (hX : ∀ g ∈ X, g ∈ L) : In G (Dl D L) v w2 := h.kp (k.mono fun j _ hj e => hj.2 (hX j e))
theorem Rt.fin (hx : Ext w w0) (h : In G (Dl D L) v w0) (k : Kp (fun k => k ≠ g) w0 w1) (hg : g ∈ L) (hw : w.heap.size ≤ g) : Rt G D w (.returned v) w1 :=
  ⟨v, rfl, hx.under k fun k hk => by omega, (h.ow k hg).ul⟩
theorem Rt.fin1 (hx : Ext w w0) (h : In G D v w0) : Rt G D w (.returned v) w0 := ⟨v, rfl, hx, h⟩
end
theorem storeW_fld {P : Program} {w : World} {T t g i : Nat} {v : Value} {cs : Array Value} {K : World → Prop} (hb : Blk w g t cs) (hs : sizeOf' P T = some 1) (hv : v.cells = #[v]) (hi : i < cs.size) (h1 : v.oneCell' = true)
    (hK : ∀ w', Kp (fun k => k ≠ g) w w' → Blk w' g t (cs.setIfInBounds i v) → w'.heap.size = w.heap.size → K w') : storeW P T w (.pointer (some ⟨g, i, none⟩)) v K := by
  rw [storeW_p, hv]
  refine ⟨hs, ⟨?_, ?_, h1, trivial⟩, hK _ ?_ ?_ ?_⟩
  · rw [add_lit, Nat.add_zero, hb.cell, Array.getElem?_eq_getElem hi]; rfl
  · rw [add_lit, Nat.add_zero]; exact hb.frozen i
  · simp only [stN, add_lit, Nat.add_zero]
    exact Kp.setCell w (fun _ h => h rfl) v
  · simp only [stN, add_lit, Nat.add_zero]
    exact hb.set i v
  · simp [stN, World.setCell]
section
variable {w : World} {g t : Nat} {a b c d e f h i : Value} {l : List Value}
theorem Blk.c0 (hb : Blk w g t ⟨a :: l⟩) : w.cell? ⟨g, 0, none⟩ = some a := hb.cell 0
theorem Blk.c1 (hb : Blk w g t ⟨a :: b :: l⟩) : w.cell? ⟨g, 1, none⟩ = some b := hb.cell 1
theorem Blk.c2 (hb : Blk w g t ⟨a :: b :: c :: l⟩) : w.cell? ⟨g, 2, none⟩ = some c := hb.cell 2
theorem Blk.c3 (hb : Blk w g t ⟨a :: b :: c :: d :: l⟩) : w.cell? ⟨g, 3, none⟩ = some d := hb.cell 3
theorem Blk.c4 (hb : Blk w g t ⟨a :: b :: c :: d :: e :: l⟩) : w.cell? ⟨g, 4, none⟩ = some e := hb.cell 4
theorem Blk.c5 (hb : Blk w g t ⟨a :: b :: c :: d :: e :: f :: l⟩) : w.cell? ⟨g, 5, none⟩ = some f := hb.cell 5
theorem Blk.c6 (hb : Blk w g t ⟨a :: b :: c :: d :: e :: f :: h :: l⟩) : w.cell? ⟨g, 6, none⟩ = some h := hb.cell 6
theorem Blk.c7 (hb : Blk w g t ⟨a :: b :: c :: d :: e :: f :: h :: i :: l⟩) : w.cell? ⟨g, 7, none⟩ = some i := hb.cell 7
theorem Blk.l2 (hb : Blk w g t ⟨[a, b]⟩) : ldV w (some (some 2)) (.pointer (some ⟨g, 0, none⟩)) = some (.agg #[a, b]) := ldV_blk hb rfl
theorem Blk.l3 (hb : Blk w g t ⟨[a, b, c]⟩) : ldV w (some (some 3)) (.pointer (some ⟨g, 0, none⟩)) = some (.agg #[a, b, c]) := ldV_blk hb rfl
theorem Blk.l4 (hb : Blk w g t ⟨[a, b, c, d]⟩) : ldV w (some (some 4)) (.pointer (some ⟨g, 0, none⟩)) = some (.agg #[a, b, c, d]) := ldV_blk hb rfl
theorem Blk.l5 (hb : Blk w g t ⟨[a, b, c, d, e]⟩) : ldV w (some (some 5)) (.pointer (some ⟨g, 0, none⟩)) = some (.agg #[a, b, c, d, e]) := ldV_blk hb rfl
theorem Blk.l6 (hb : Blk w g t ⟨[a, b, c, d, e, f]⟩) : ldV w (some (some 6)) (.pointer (some ⟨g, 0, none⟩)) = some (.agg #[a, b, c, d, e, f]) := ldV_blk hb rfl
theorem Blk.l7 (hb : Blk w g t ⟨[a, b, c, d, e, f, h]⟩) : ldV w (some (some 7)) (.pointer (some ⟨g, 0, none⟩)) = some (.agg #[a, b, c, d, e, f, h]) := ldV_blk hb rfl
theorem Blk.l8 (hb : Blk w g t ⟨[a, b, c, d, e, f, h, i]⟩) : ldV w (some (some 8)) (.pointer (some ⟨g, 0, none⟩)) = some (.agg #[a, b, c, d, e, f, h, i]) := ldV_blk hb rfl
theorem Blk.ld (hb : Blk w g t ⟨l⟩) {k : Nat} (hk : l.length = k) : ldV w (some (some k)) (.pointer (some ⟨g, 0, none⟩)) = some (.agg ⟨l⟩) := ldV_blk hb hk
end
theorem Blk.kpx {w w' : World} {g t : Nat} {cs : Array Value} {X : List Nat} (h : Blk w g t cs) (k : Kp (fun k => k ∉ X) w w') (hX : g ∉ X) : Blk w' g t cs := h.kp k hX
def Shp (k : Nat) (v : Value) : Prop := ∃ cs : Array Value, v = .agg cs ∧ cs.size = k ∧ cs.toList.all (·.oneCell') = true
theorem storeS {P : Program} {w : World} {T t g k : Nat} {v : Value} {cs : Array Value} {K : World → Prop} (hb : Blk w g t cs) (hs : sizeOf' P T = some k) (hc : cs.size = k) (hv : Shp k v)
    (hK : ∀ w', Kp (fun k => k ≠ g) w w' → Blk w' g t v.cells → K w') : storeW P T w (.pointer (some ⟨g, 0, none⟩)) v K := by
  obtain ⟨c2, rfl, h1, h2⟩ := hv
  exact storeW_of hb (by rw [hs, ← h1]; rfl) (by show c2.size = _; omega) h2 hK
theorem resV_S {P : Program} {w : World} {e : Env} {a T t g k : Nat} {v : Value} (he : e a = .pointer (some ⟨g, 0, none⟩)) (hk : aggOf P T = some (some k)) (hb : Blk w g t v.cells) (hv : Shp k v) : resV P w e (.cell a T) = some v := by
  obtain ⟨c2, rfl, h1, h2⟩ := hv
  exact resV_blk he hk hb h1
theorem retS {P : Program} {fn : Func} {R : Ending → World → Prop} {e : Env} {w : World} {a T t g k : Nat} {v : Value} (h : fn.results = #[.cell a T]) (he : e a = .pointer (some ⟨g, 0, none⟩)) (hk : aggOf P T = some (some k)) (hb : Blk w g t v.cells) (hv : Shp k v) (hR : R (.returned v) w) : retP P fn R .ret e w :=
  retC1 h (resV_S he hk hb hv) hR
theorem retS2 {P : Program} {fn : Func} {R : Ending → World → Prop} {e : Env} {w : World} {a T t g k u : Nat} {v : Value} (h : fn.results = #[.cell a T, .tmp u]) (he : e a = .pointer (some ⟨g, 0, none⟩)) (hk : aggOf P T = some (some k)) (hb : Blk w g t v.cells) (hv : Shp k v) (hR : R (.returned (.tuple #[v, e u])) w) : retP P fn R .ret e w :=
  retC2 h (resV_S he hk hb hv) rfl hR
theorem Rt.own {G : Fam} {D : Nat → Prop} {v : Value} {w w0 w1 : World} {g a b : Nat} (hx : Ext w w0) (h : In G (Dx D a b) v w0) (k : Kp (fun k => k ≠ g) w0 w1) (h1 : a ≤ g) (h2 : g < b) (hw : w.heap.size ≤ g) : Rt G D w (.returned v) w1 :=
  ⟨v, rfl, hx.under k fun k hk => by omega, (h.own k h1 h2).un⟩
end Go.E
namespace Go.Proofs.YtjamnehcmaloeaaGreatDoor
open Go Go.E Go.Sp
def fB (z : Int) : Fam := ⟨fun D v w => ∃ s A n c, v = .agg #[.bool s, .slice A n c] ∧ Big w D s A n c z, fun k ⟨s, A, n, c, e, h⟩ => ⟨s, A, n, c, e, h.kp k⟩, fun k ⟨s, A, n, c, e, h⟩ => ⟨s, A, n, c, e, h.sub k⟩⟩
def fU (l : List Nat) : Fam := ⟨fun D v w => ∃ A n c, v = .slice A n c ∧ U32 w D A n c l, fun k ⟨A, n, c, e, h⟩ => ⟨A, n, c, e, h.kp k⟩, fun k ⟨A, n, c, e, h⟩ => ⟨A, n, c, e, h.sub k⟩⟩
def fV (V : Int) : Fam := ⟨fun D v w => ∃ s A n c, v = .agg #[.bool false, .bool s, .slice A n c, .int .i64 (dyE V)] ∧ Big w D s A n c (od V) ∧ dyOk V, fun k ⟨s, A, n, c, e, h, o⟩ => ⟨s, A, n, c, e, h.kp k, o⟩, fun k ⟨s, A, n, c, e, h, o⟩ => ⟨s, A, n, c, e, h.sub k, o⟩⟩
section
variable {D : Nat → Prop} {v : Value} {w w' : World} {z V m e : Int} {l : List Nat} {s : Bool} {A : Option Addr} {n c : Nat}
theorem Big.in (h : Big w D s A n c z) : In (fB z) D (.agg #[.bool s, .slice A n c]) w := ⟨s, A, n, c, rfl, h⟩
theorem U32.in (h : U32 w D A n c l) : In (fU l) D (.slice A n c) w := ⟨A, n, c, rfl, h⟩
theorem Big.own {w1 w2 : World} {g a b : Nat} (h : Big w1 (Dx D a b) s A n c z) (k : Kp (fun k => k ≠ g) w1 w2) (h1 : a ≤ g) (h2 : g < b) : Big w2 (Dx D a b) s A n c z := h.kp (k.mono fun _ _ h => Dx.ne h h1 h2)
theorem Big.un {a b : Nat} (h : Big w (Dx D a b) s A n c z) : Big w D s A n c z := h.sub fun _ _ h => h.1
theorem U32.own {w1 w2 : World} {g a b : Nat} (h : U32 w1 (Dx D a b) A n c l) (k : Kp (fun k => k ≠ g) w1 w2) (h1 : a ≤ g) (h2 : g < b) : U32 w2 (Dx D a b) A n c l := h.kp (k.mono fun _ _ h => Dx.ne h h1 h2)
theorem Big.dx (h : Big w D s A n c z) {a b : Nat} (ha : w.heap.size ≤ a) : Big w (Dx D a b) s A n c z := h.sub fun _ hk hd => Dx.lt hd (by omega)
theorem U32.dx (h : U32 w D A n c l) {a b : Nat} (ha : w.heap.size ≤ a) : U32 w (Dx D a b) A n c l := h.sub fun _ hk hd => Dx.lt hd (by omega)
theorem fB_s (h : In (fB z) D v w) : Shp 2 v := by obtain ⟨s, A, n, c, rfl, _⟩ := h; exact ⟨_, rfl, rfl, rfl⟩
theorem fV_s (h : In (fV V) D v w) : Shp 4 v := by obtain ⟨s, A, n, c, rfl, _⟩ := h; exact ⟨_, rfl, rfl, rfl⟩
end
end Go.Proofs.YtjamnehcmaloeaaGreatDoor
namespace Go.E
open Go.Proofs.YtjamnehcmaloeaaGreatDoor Go.Sp
section
variable {D : Nat → Prop} {v : Value} {w w' : World} {z V m e : Int} {l : List Nat} {s : Bool} {A : Option Addr} {n c : Nat}
theorem _root_.Go.Proofs.YtjamnehcmaloeaaGreatDoor.U32.cx {ad : Addr} (h : U32 w D (some ad) n c l) {j : Nat} (hj : j < n) : w.cell? (ad.add j) = some (.int .u32 ((dg l j : Nat) : Int)) := by
  obtain ⟨_, e, h⟩ := h.cell hj; cases e; exact h
theorem In.big (h : In (fB z) D (.agg #[.bool s, .slice A n c]) w) : Big w D s A n c z := by
  obtain ⟨_, _, _, _, e, h⟩ := h; cases e; exact h
theorem In.u32 (h : In (fU l) D (.slice A n c) w) : U32 w D A n c l := by
  obtain ⟨_, _, _, e, h⟩ := h; cases e; exact h
theorem In.mag (h : In (fB z) D (.agg #[.bool s, .slice A n c]) w) : In (fU (lim z.natAbs)) D (.slice A n c) w := h.big.2.in
theorem In.sg (h : In (fB z) D (.agg #[.bool s, .slice A n c]) w) : s = decide (z < 0) := h.big.1
theorem In.man (h : In (fV V) D (.agg #[.bool false, .bool s, .slice A n c, .int .i64 e]) w) : In (fB (od V)) D (.agg #[.bool s, .slice A n c]) w := by
  obtain ⟨_, _, _, _, e, h, _⟩ := h; cases e; exact h.in
theorem In.ok (h : In (fV V) D v w) : dyOk V := by obtain ⟨_, _, _, _, _, _, h⟩ := h; exact h
end
end Go.E
namespace Go.Proofs.YtjamnehcmaloeaaGreatDoor
open Go Go.E Go.Sp
section
variable {D : Nat → Prop} {v : Value} {w w' : World} {z V m e : Int} {l : List Nat} {s : Bool} {A : Option Addr} {n c : Nat}
theorem in_V (h : In (fB m) D (.agg #[.bool s, .slice A n c]) w) (hm : m = od V) (he : e = dyE V) (ho : dyOk V) : In (fV V) D (.agg #[.bool false, .bool s, .slice A n c, .int .i64 e]) w := by
  subst hm; subst he; exact ⟨s, A, n, c, rfl, h.big, ho⟩
theorem Big.n_le (h : Big w D s A n c z) {k : Nat} (hz : bl z.natAbs ≤ 32 * k) : n ≤ k := by
  have h1 := h.len
  rw [len_bl] at h1; omega
theorem rt_of_big {F : FuncId} {args : Array Value} (h : Calls Tryz.prog F args w fun e w' => ∃ s' A' n' c', e = .returned (.agg #[.bool s', .slice A' n' c']) ∧ Ext w w' ∧ Big w' D s' A' n' c' z) : Calls Tryz.prog F args w (Rt (fB z) D w) :=
  h.mono fun _ _ ⟨_, _, _, _, e, hx, hB⟩ => ⟨_, e, hx, hB.in⟩
end
section
variable {D : Nat → Prop} {v v' : Value} {w : World} {a b : Int}
theorem rNorm_v (h : In (fB a) D v w) (ha : bl a.natAbs ≤ 20000000) (hf : Fr D w) : Calls Tryz.prog 125 #[v] w (Rt (fB a) D w) := by
  obtain ⟨s, A, n, c, rfl, hB⟩ := h
  have := rt_of_big (rNorm_ok (s := s) hB.2 (by have := hB.n_le (k := 1000000) (by omega); omega) hf)
  rwa [val_lim, hB.sgn] at this
theorem rAbs_v (h : In (fB a) D v w) (ha : bl a.natAbs ≤ 20000000) (hf : Fr D w) : Calls Tryz.prog 66 #[v] w (Rt (fB a.natAbs) D w) := by
  obtain ⟨s, A, n, c, rfl, hB⟩ := h
  have := rt_of_big (rAbs_ok (s := s) hB.2 (by have := hB.n_le (k := 1000000) (by omega); omega) hf)
  rwa [val_lim] at this
theorem rNeg_v (h : In (fB a) D v w) (ha : bl a.natAbs ≤ 20000000) (hf : Fr D w) : Calls Tryz.prog 61 #[v] w (Rt (fB (-a)) D w) := by
  obtain ⟨s, A, n, c, rfl, hB⟩ := h
  have := rt_of_big (rNeg_ok (s := s) hB.2 (by have := hB.n_le (k := 1000000) (by omega); omega) hf)
  rwa [val_lim, show sgn (!s) a.natAbs = -a by have := hB.sgn; cases s <;> simp_all [sgn] <;> omega] at this
theorem rSign_v (h : In (fB a) D v w) (ha : bl a.natAbs ≤ 20000000) (hf : Fr D w) : Calls Tryz.prog 63 #[v] w fun e w' => e = .returned (.int .i64 a.sign) ∧ Ext w w' := by
  obtain ⟨s, A, n, c, rfl, hB⟩ := h
  have := rSign_ok (s := s) hB.2 (by have := hB.n_le (k := 1000000) (by omega); omega) hf
  rwa [val_lim, hB.sgn] at this
theorem rBitLen_v (h : In (fB a) D v w) (ha : bl a.natAbs ≤ 20000000) : Calls Tryz.prog 128 #[v] w fun e w' => e = .returned (.int .i64 (bl a.natAbs : Nat)) ∧ Ext w w' := by
  obtain ⟨s, A, n, c, rfl, hB⟩ := h
  have := rBitLen_ok (s := s) hB.2 (by have := hB.n_le (k := 1000000) (by omega); omega)
  rwa [val_lim] at this
theorem rLost_v (h : In (fB a) D v w) (ha : bl a.natAbs ≤ 20000000) {m : Nat} (hm : m ≤ 1000000000000) (hf : Fr D w) : Calls Tryz.prog 194 #[v, .int .i64 m] w fun e w' => e = .returned (.bool (decide (a.natAbs % 2 ^ m ≠ 0))) ∧ Ext w w' := by
  obtain ⟨s, A, n, c, rfl, hB⟩ := h
  have := rLost_ok (s := s) hB.2 (by have := hB.n_le (k := 1000000) (by omega); omega) hm hf
  rwa [val_lim] at this
theorem rAdd_v (h : In (fB a) D v w) (h' : In (fB b) D v' w) (ha : bl a.natAbs ≤ 20000000) (hb : bl b.natAbs ≤ 20000000) (hf : Fr D w) : Calls Tryz.prog 64 #[v, v'] w (Rt (fB (a + b)) D w) := by
  obtain ⟨s, A, n, c, rfl, hB⟩ := h
  obtain ⟨s', A', n', c', rfl, hB'⟩ := h'
  have := rt_of_big (rAdd_ok (s := s) (s' := s') hB.2 hB'.2 (by have := hB.n_le (k := 1000000) (by omega); omega) (by have := hB'.n_le (k := 1000000) (by omega); omega) hf)
  rwa [val_lim, val_lim, hB.sgn, hB'.sgn] at this
theorem rSub_v (h : In (fB a) D v w) (h' : In (fB b) D v' w) (ha : bl a.natAbs ≤ 20000000) (hb : bl b.natAbs ≤ 20000000) (hf : Fr D w) : Calls Tryz.prog 137 #[v, v'] w (Rt (fB (a - b)) D w) := by
  obtain ⟨s, A, n, c, rfl, hB⟩ := h
  obtain ⟨s', A', n', c', rfl, hB'⟩ := h'
  have := rt_of_big (rSub_ok (s := s) (s' := s') hB.2 hB'.2 (by have := hB.n_le (k := 1000000) (by omega); omega) (by have := hB'.n_le (k := 1000000) (by omega); omega) hf)
  rwa [val_lim, val_lim, hB.sgn, hB'.sgn] at this
theorem rMul_v (h : In (fB a) D v w) (h' : In (fB b) D v' w) (ha : bl a.natAbs ≤ 20000000) (hb : bl b.natAbs ≤ 20000000) (hf : Fr D w) : Calls Tryz.prog 62 #[v, v'] w (Rt (fB (a * b)) D w) := by
  obtain ⟨s, A, n, c, rfl, hB⟩ := h
  obtain ⟨s', A', n', c', rfl, hB'⟩ := h'
  have := rt_of_big (rMul_ok (s := s) (s' := s') hB.2 hB'.2 (by have := hB.n_le (k := 1000000) (by omega); omega) (by have := hB'.n_le (k := 1000000) (by omega); omega) hf)
  rwa [val_lim, val_lim, hB.sgn, hB'.sgn] at this
theorem rShift_v (h : In (fB a) D v w) (ha : bl a.natAbs ≤ 20000000) {m : Int} (h1 : -1000000000 ≤ m) (h2 : m ≤ 1000000000) (hf : Fr D w) : Calls Tryz.prog 65 #[v, .int .i64 m] w (Rt (fB (shI a m)) D w) := by
  obtain ⟨s, A, n, c, rfl, hB⟩ := h
  have := rt_of_big (rShift_ok (s := s) hB.2 (by have := hB.n_le (k := 1000000) (by omega); omega) h1 h2 hf)
  rwa [val_lim, hB.sgn] at this
theorem rFromInt_v (h1 : -9223372036854775808 ≤ a) (h2 : a ≤ 9223372036854775807) (hf : Fr D w) : Calls Tryz.prog 138 #[.int .i64 a] w (Rt (fB a) D w) := rt_of_big (rFromInt_ok h1 h2 hf)
end
end Go.Proofs.YtjamnehcmaloeaaGreatDoor
end
section
namespace Go.Sp
theorem and_bits (q r a b : Nat) (ha : a < 2) (hb : b < 2) : (2 * q + a) &&& (2 * r + b) = 2 * (q &&& r) + (a * b) := by
  have hab : a * b < 2 := by
    rcases Nat.lt_or_ge a 1 with h | h
    · rw [show a = 0 by omega]; simp
    · rw [show a = 1 by omega]; omega
  apply Nat.eq_of_testBit_eq
  intro i
  cases i with
  | zero =>
    rw [Nat.testBit_and, Nat.testBit_zero, Nat.testBit_zero, Nat.testBit_zero]
    have e1 : (2 * q + a) % 2 = a := by omega
    have e2 : (2 * r + b) % 2 = b := by omega
    have e3 : (2 * (q &&& r) + a * b) % 2 = a * b := by omega
    rw [e1, e2, e3]
    rcases Nat.lt_or_ge a 1 with h | h
    · rw [show a = 0 by omega]; simp
    · rw [show a = 1 by omega]; simp
  | succ i =>
    rw [Nat.testBit_and, Nat.testBit_succ, Nat.testBit_succ, Nat.testBit_succ]
    have e1 : (2 * q + a) / 2 = q := by omega
    have e2 : (2 * r + b) / 2 = r := by omega
    have e3 : (2 * (q &&& r) + a * b) / 2 = q &&& r := by omega
    rw [e1, e2, e3, Nat.testBit_and]
theorem and_comp {q n : Nat} (h : q < 2 ^ n) : q &&& (2 ^ n - (q + 1)) = 0 := by
  apply Nat.eq_of_testBit_eq
  intro i
  rw [Nat.testBit_and, Nat.testBit_two_pow_sub_succ h, Nat.zero_testBit]
  cases q.testBit i <;> simp
theorem iso : ∀ {n x : Nat}, 0 < x → x < 2 ^ n → x &&& (2 ^ n - x) = 2 ^ tz x
  | 0, x, h1, h2 => by simp at h2; omega
  | n + 1, x, h1, h2 => by
    rw [Nat.pow_succ] at h2
    by_cases ho : x % 2 = 1
    · rw [tz_odd ho]
      have hq : x / 2 < 2 ^ n := by omega
      have e1 : x = 2 * (x / 2) + 1 := by omega
      have e2 : 2 ^ (n + 1) - x = 2 * (2 ^ n - (x / 2 + 1)) + 1 := by rw [Nat.pow_succ]; omega
      rw [e2]
      generalize hy : x / 2 = y at *
      rw [e1, and_bits _ _ 1 1 (by omega) (by omega), and_comp hq]
    · have hq : x / 2 < 2 ^ n := by omega
      have e1 : x = 2 * (x / 2) + 0 := by omega
      have e2 : 2 ^ (n + 1) - x = 2 * (2 ^ n - x / 2) + 0 := by rw [Nat.pow_succ]; omega
      have ht : tz x = tz (x / 2) + 1 := by
        have := tz_pow (n := x / 2) (by omega) 1
        rwa [show x / 2 * 2 ^ 1 = x by omega] at this
      have ih := iso (n := n) (x := x / 2) (by omega) hq
      rw [ht, e2, Nat.pow_succ, ← ih]
      generalize hy : x / 2 = y at *
      rw [e1, and_bits _ _ 0 0 (by omega) (by omega)]; omega
def tab32 : List Nat := [0, 1, 28, 2, 29, 14, 24, 3, 30, 22, 20, 15, 25, 17, 4, 8, 31, 27, 13, 23, 21, 19, 16, 7, 26, 12, 18, 6, 11, 5, 10, 9]
theorem tab_all : ((List.range 32).all fun k => Nat.beq (tab32.getD (2 ^ k * 125613361 % 4294967296 / 134217728) 99) k) = true := by decide
theorem tab_get {k : Nat} (h : k < 32) : tab32.getD (2 ^ k * 125613361 % 4294967296 / 134217728) 99 = k := by
  have := tab_all
  rw [List.all_eq_true] at this
  exact Nat.eq_of_beq_eq_true (this k (List.mem_range.2 h))
end Go.Sp
end
section
namespace Go.E
open Go Go.RowKit
inductive Anc (ops : Array Oper) : Nat → Nat → Prop
  | base {i j : Nat} {o : Oper} (h : ops[i]? = some o) (he : edgeTo o j = true) : Anc ops i j
  | step {i k j : Nat} {o : Oper} (h : ops[i]? = some o) (he : edgeTo o k = true) (ha : Anc ops k j) : Anc ops i j
def maskOf (ms : List Nat) (o : Oper) : Nat := o.after.toList.foldl (fun a e => if Region.binds .any e then a ||| 2 ^ e.on ||| ms.getD e.on 0 else a) 0
def masks : List Oper → List Nat → List Nat
  | [], ms => ms
  | o :: os, ms => masks os (ms ++ [maskOf ms o])
def tailOk (ops : List Oper) (m : Nat) : Bool := (List.range ops.length).all fun i => decide (i < m) || Nat.beq ((masks ops []).getD i 0) (2 ^ i - 1)
theorem fold_bit {ms : List Nat} {j : Nat} : ∀ (es : List Edge) (a : Nat), (es.foldl (fun a e => if Region.binds .any e then a ||| 2 ^ e.on ||| ms.getD e.on 0 else a) a).testBit j = true →
    a.testBit j = true ∨ ∃ e ∈ es, Region.binds .any e = true ∧ (e.on = j ∨ (ms.getD e.on 0).testBit j = true)
  | [], a, h => .inl h
  | e :: es, a, h => by
    rw [List.foldl_cons] at h
    rcases fold_bit es _ h with h | ⟨x, hx, hb, hc⟩
    · split at h
      · rename_i hb
        rw [Nat.testBit_or, Nat.testBit_or, Bool.or_eq_true, Bool.or_eq_true] at h
        rcases h with (h | h) | h
        · exact .inl h
        · rw [Nat.testBit_two_pow] at h
          exact .inr ⟨e, List.mem_cons_self, hb, .inl (by simpa using h)⟩
        · exact .inr ⟨e, List.mem_cons_self, hb, .inr h⟩
      · exact .inl h
    · exact .inr ⟨x, List.mem_cons_of_mem _ hx, hb, hc⟩
theorem masks_anc {ops : List Oper} : ∀ (rest : List Oper) (ms : List Nat) (pre : List Oper), ops = pre ++ rest → ms.length = pre.length → (∀ i j, (ms.getD i 0).testBit j = true → Anc ops.toArray i j) →
    ∀ i j, ((masks rest ms).getD i 0).testBit j = true → Anc ops.toArray i j
  | [], ms, _, _, _, h => h
  | o :: os, ms, pre, he, hl, h => by
    refine masks_anc os (ms ++ [maskOf ms o]) (pre ++ [o]) (by rw [he]; simp) (by simp [hl]) fun i j hb => ?_
    rcases Nat.lt_trichotomy i ms.length with hi | hi | hi
    · rw [List.getD_eq_getElem?_getD, List.getElem?_append_left hi, ← List.getD_eq_getElem?_getD] at hb
      exact h i j hb
    · subst hi
      have ho : ops.toArray[ms.length]? = some o := by rw [List.getElem?_toArray, he, hl]; simp
      rw [List.getD_eq_getElem?_getD, List.getElem?_append_right (Nat.le_refl _)] at hb
      simp only [Nat.sub_self, List.getElem?_cons_zero, Option.getD_some] at hb
      rcases fold_bit _ _ hb with hb | ⟨x, hx, hbd, hc⟩
      · simp at hb
      · have hed : edgeTo o x.on = true := edgeTo_iff.2 ⟨x, Array.mem_toList_iff.1 hx, hbd, rfl⟩
        rcases hc with rfl | hc
        · exact .base ho hed
        · exact .step ho hed (h _ _ hc)
    · rw [List.getD_eq_getElem?_getD, List.getElem?_eq_none (by simp; omega)] at hb
      simp at hb
theorem tail_anc {ops : List Oper} {m : Nat} (h : tailOk ops m = true) {i j : Nat} (hi : i < ops.length) (hm : m ≤ i) (hj : j < i) : Anc ops.toArray i j := by
  unfold tailOk at h
  rw [List.all_eq_true] at h
  have := h i (List.mem_range.2 hi)
  rw [Bool.or_eq_true] at this
  rcases this with this | this
  · simp at this; omega
  · refine masks_anc ops [] [] rfl rfl (fun i j h => by simp at h) i j ?_
    rw [Nat.eq_of_beq_eq_true this, Nat.testBit_two_pow_sub_one]; simpa using hj
section
variable {P : Program} {n : Nat} {R : World → World → Prop}
theorem anc_listed {ops : Array Oper} {listed : Array Bool} (hs : listed.size = ops.size) (hc : ∀ (i : Nat) (o : Oper) (x : Edge), ops[i]? = some o → listed.getD i true = true → x ∈ o.after → Region.binds .any x = true → listed.getD x.on false = true) {i j : Nat} (ha : Anc ops i j) : listed.getD i false = true → listed.getD j false = true := by
  have hft : ∀ k, listed.getD k false = true → listed.getD k true = true := fun k hk => by
    rcases Nat.lt_or_ge k listed.size with h | h
    · simp only [Array.getD_eq_getD_getElem?, Array.getElem?_eq_getElem h, Option.getD_some] at hk ⊢; exact hk
    · simp [Array.getD_eq_getD_getElem?, Array.getElem?_eq_none h] at hk
  induction ha with
  | base h he =>
    intro hi
    obtain ⟨x, hx, hb, rfl⟩ := edgeTo_iff.1 he
    exact hc _ _ x h (hft _ hi) hx hb
  | step h he _ ih =>
    intro hi
    obtain ⟨x, hx, hb, rfl⟩ := edgeTo_iff.1 he
    exact ih (hc _ _ x h (hft _ hi) hx hb)
theorem anc_ready {ops : Array Oper} {listed : Array Bool} (hs : listed.size = ops.size) (hc : ∀ (i : Nat) (o : Oper) (x : Edge), ops[i]? = some o → listed.getD i true = true → x ∈ o.after → Region.binds .any x = true → listed.getD x.on false = true) {i j : Nat} (ha : Anc ops i j)
    (hr : ∀ o, ops[i]? = some o → ∀ x ∈ o.after, Region.binds .any x = true → listed.getD x.on false = true) : listed.getD j false = true := by
  cases ha with
  | base h he =>
    obtain ⟨x, hx, hb, rfl⟩ := edgeTo_iff.1 he
    exact hr _ h x hx hb
  | step h he ha =>
    obtain ⟨x, hx, hb, rfl⟩ := edgeTo_iff.1 he
    exact anc_listed hs hc ha (hr _ h x hx hb)
theorem ready_min {ops : Array Oper} (hok : DOk ops) {listed : Array Bool} (hsize : listed.size = ops.size) (hnil : Region.ready .any ops listed = []) : ∀ i, i < ops.size → listed.getD i true = true := by
  intro i
  induction i using Nat.strongRecOn with
  | _ i ih =>
    intro hi
    cases hb : listed.getD i true with
    | true => rfl
    | false =>
      have : i ∈ Region.ready .any ops listed := by
        unfold Region.ready
        rw [List.mem_filter]
        refine ⟨List.mem_range.2 hi, ?_⟩
        simp only [hb, Bool.not_false, Bool.true_and, Array.getElem?_eq_getElem hi, Option.map_some, Option.getD_some]
        rw [Array.all_eq_true']
        intro x hx
        cases hbx : Region.binds .any x with
        | false => rfl
        | true =>
          have hlt := hok.down i ops[i] x (Array.getElem?_eq_getElem hi) hx hbx
          have := ih x.on hlt (by omega)
          have hlt2 : x.on < listed.size := by omega
          simp only [Array.getD_eq_getD_getElem?, Array.getElem?_eq_getElem hlt2, Option.getD_some] at this ⊢
          simp [this]
      rw [hnil] at this; cases this
theorem ready_iff {ops : Array Oper} {listed : Array Bool} {i : Nat} (hi : i ∈ Region.ready .any ops listed) : ∃ hlt : i < ops.size, listed.getD i true = false ∧ ∀ x ∈ ops[i].after, Region.binds .any x = true → listed.getD x.on false = true := by
  unfold Region.ready at hi
  rw [List.mem_filter] at hi
  obtain ⟨hir, hrd⟩ := hi
  have hlt := List.mem_range.1 hir
  have hio : ops[i]? = some ops[i] := Array.getElem?_eq_getElem hlt
  simp only [hio, Option.map_some, Option.getD_some, Bool.and_eq_true] at hrd
  obtain ⟨hnl, haf⟩ := hrd
  rw [Array.all_eq_true'] at haf
  exact ⟨hlt, by simpa using hnl, fun x hx hb => by have := haf x hx; simpa [hb] using this⟩
theorem ft {listed : Array Bool} {j : Nat} (h : j < listed.size) : listed.getD j false = listed.getD j true := by
  simp [Array.getD_eq_getD_getElem?, Array.getElem?_eq_getElem h]
theorem tail_any {ops : Array Oper} {m : Nat} {Q : Exit → Act → World → Prop} {K : Env → World → Prop} {e0 : Env} (hok : DOk ops) (hd : ops.toList.all (dokO n) = true) (hanc : ∀ i j, i < ops.size → m ≤ i → j < i → Anc ops i j)
    (hQ : ∀ a e' w', Rel n a e' → (∀ t, isDst ops t = false → e' t = e0 t) → K e' w' → Q .normal a w') :
    ∀ (k fuel p : Nat) (listed : Array Bool) (a : Act) (e' : Env) (w' : World), p + k = ops.size → m ≤ p → k ≤ fuel → listed.size = ops.size → (∀ i, i < ops.size → listed.getD i true = decide (i < p)) → Rel n a e' → (∀ t, isDst ops t = false → e' t = e0 t) → WL P ops K (ops.toList.drop p) e' w' →
      wpAny P .any ops Q fuel listed a w'
  | 0, fuel, p, listed, a, e', w', hp, _, _, hs, hl, hr, ho, h => by
    rw [List.drop_of_length_le (by simp; omega)] at h
    have hq := hQ a e' w' hr ho h
    have hnil : Region.ready .any ops listed = [] := by
      unfold Region.ready
      rw [List.filter_eq_nil_iff]
      intro i hi
      have := hl i (List.mem_range.1 hi)
      rw [decide_eq_true (by have := List.mem_range.1 hi; omega)] at this
      simp [this]
    cases fuel with
    | zero => exact ⟨hnil, hq⟩
    | succ f => exact ⟨fun _ => hq, fun i hi => by rw [hnil] at hi; cases hi⟩
  | k + 1, 0, p, listed, a, e', w', hp, _, hf, hs, hl, hr, ho, h => by omega
  | k + 1, fuel + 1, p, listed, a, e', w', hp, hm, hf, hs, hl, hr, ho, h => by
    have hps : p < ops.size := by omega
    refine ⟨fun hnil => ?_, fun i hi => ?_⟩
    · have := ready_min hok hs hnil p hps
      rw [hl p hps] at this; simp at this
    · obtain ⟨hlt, hnl, haf⟩ := ready_iff hi
      have hclosed : ∀ (i : Nat) (o : Oper) (x : Edge), ops[i]? = some o → listed.getD i true = true → x ∈ o.after → Region.binds .any x = true → listed.getD x.on false = true := fun j o x hj hlj hx hb => by
        have hjl := (Array.getElem?_eq_some_iff.1 hj).1
        have h1 := hl j hjl
        rw [hlj] at h1
        have h2 := hok.down j o x hj hx hb
        have h3 : j < p := by simpa using h1.symm
        rw [ft (by omega), hl x.on (by omega)]
        exact decide_eq_true (by omega)
      have hip : i = p := by
        have h1 := hl i hlt
        rw [hnl] at h1
        have h2 : ¬ i < p := by simpa using h1.symm
        rcases Nat.lt_or_ge p i with h3 | h3
        · have := anc_ready hs hclosed (hanc i p hlt (by omega) h3) (fun o ho x hx hb => by
            rw [Array.getElem?_eq_getElem hlt] at ho
            cases ho
            exact haf x hx hb)
          rw [ft (by omega), hl p hps] at this
          simp at this
        · omega
      subst hip
      have hdrop : ops.toList.drop i = ops[i] :: ops.toList.drop (i + 1) := by
        rw [List.drop_eq_getElem_cons (by simpa using hlt)]; simp
      rw [hdrop] at h
      simp only [WL, WG] at h
      have hmem : ops[i] ∈ ops.toList := by simp
      have hdo : dokO n ops[i] = true := by rw [List.all_eq_true] at hd; exact hd _ hmem
      have hli : i < listed.size := by omega
      have hnext : ∀ v w'', WL P ops K (ops.toList.drop (i + 1)) (put e' ops[i].dst v) w'' → wpAny P .any ops Q fuel (listed.setIfInBounds i true) (a.put ops[i].dst v) w'' := fun v w'' hw => by
        refine tail_any hok hd hanc hQ k fuel (i + 1) _ _ (put e' ops[i].dst v) w'' (by omega) (by omega) (by omega) (by simpa using hs) (fun j hj => ?_) (hr.put _ v (by unfold dokO at hdo; cases hx : ops[i].dst <;> simp_all)) (fun t ht => ?_) hw
        · rw [getD_set_true hli]
          split
          · subst_vars; simp
          · rename_i hne
            rw [hl j hj, decide_eq_decide]; omega
        · have h0 := isDst_false ht i ops[i] (Array.getElem?_eq_getElem hlt)
          have : put e' ops[i].dst v t = e' t := by
            cases hx : ops[i].dst with
            | none => rfl
            | some d' =>
              have : t ≠ d' := fun h => h0 (by rw [hx, h])
              simp [put, upd, this]
          rw [this]; exact ho t ht
      unfold wpOp
      simp only [Array.getElem?_eq_getElem hlt]
      rw [want_eq hr hd]
      split
      · rename_i hw
        rw [if_pos hw] at h
        exact .inl (wp_of_WO hr h fun v w'' hk => hnext v w'' hk)
      · rename_i hw
        rw [if_neg hw] at h
        exact hnext _ _ h
theorem draw_anyT {ops : Array Oper} {l : List (Nat × SpecR R)} {e : Env} {w : World} {Q : Exit → Act → World → Prop} (hR : Pre R) (hok : DOk ops) (hd : ops.toList.all (dokO n) = true)
    {m : Nat} (hm : m < ops.size) (hanc : ∀ i j, i < ops.size → m ≤ i → j < i → Anc ops i j)
    (steps : ∀ i o, ops[i]? = some o → i < m → StepOK P ops R l e w o) {K : Env → World → Prop}
    (hL : ∀ e' w', R w w' → (∀ i o t, ops[i]? = some o → i < m → o.dst = some t → (look l t).1 (e' t) w') → (∀ t, (∀ i o, ops[i]? = some o → i < m → o.dst ≠ some t) → e' t = e t) → WL P ops K (ops.toList.drop m) e' w')
    (hQ : ∀ a e' w', Rel n a e' → (∀ t, isDst ops t = false → e' t = e t) → K e' w' → Q .normal a w') :
    ∀ (fuel : Nat) (listed : Array Bool) (a : Act) (e' : Env) (w' : World), (∀ i, m ≤ i → i < ops.size → listed.getD i true = false) → ops.size ≤ fuel + (List.range ops.size).countP (fun i => listed.getD i true) → DInv ops n R l e w listed a e' w' → wpAny P .any ops Q fuel listed a w' := by
  intro fuel
  induction fuel with
  | zero =>
    intro listed a e' w' hml hf I
    have hle : (List.range ops.size).countP (fun i => listed.getD i true) = (List.range ops.size).length := by
      have := List.countP_le_length (p := fun i => listed.getD i true) (l := List.range ops.size)
      simp only [List.length_range] at this ⊢; omega
    rw [List.countP_eq_length] at hle
    have := hle m (List.mem_range.2 hm)
    rw [hml m (Nat.le_refl _) hm] at this; cases this
  | succ fuel ih =>
    intro listed a e' w' hml hf I
    refine ⟨fun hnil => ?_, fun i hi => ?_⟩
    · have := ready_min hok I.size hnil m hm
      rw [hml m (Nat.le_refl _) hm] at this; cases this
    obtain ⟨hlt, hnl', haf'⟩ := ready_iff hi
    have hio : ops[i]? = some ops[i] := Array.getElem?_eq_getElem hlt
    by_cases him : m ≤ i
    · have hall : ∀ j, j < i → listed.getD j true = true := fun j hj => by
        have := anc_ready I.size I.closed (hanc i j hlt him hj) (fun o ho x hx hb => by
          rw [hio] at ho; cases ho; exact haf' x hx hb)
        rwa [ft (by have := I.size; omega)] at this
      have hlist : ∀ j, j < ops.size → listed.getD j true = decide (j < m) := fun j hj => by
        by_cases hjm : j < m
        · rw [hall j (by omega)]; exact (decide_eq_true hjm).symm
        · rw [hml j (by omega) hj]; exact (decide_eq_false hjm).symm
      have hcnt : (List.range ops.size).countP (fun i => listed.getD i true) ≤ m := by
        have : (List.range ops.size).countP (fun i => listed.getD i true) = (List.range ops.size).countP (fun i => decide (i < m)) := by
          refine List.countP_congr fun j hj => ?_
          rw [hlist j (List.mem_range.1 hj)]
        rw [this, show ops.size = m + (ops.size - m) by omega, List.range_add, List.countP_append]
        have h1 : (List.range m).countP (fun i => decide (i < m)) ≤ m := by
          have := List.countP_le_length (p := fun i => decide (i < m)) (l := List.range m)
          simpa using this
        have h2 : (List.map (fun x => m + x) (List.range (ops.size - m))).countP (fun i => decide (i < m)) = 0 := by
          rw [List.countP_eq_zero]
          intro a ha
          obtain ⟨b, _, rfl⟩ := List.mem_map.1 ha
          simp
        omega
      exact (tail_any (e0 := e) hok hd hanc hQ (ops.size - m) (fuel + 1) m listed a e' w' (by omega) (Nat.le_refl _) (by omega) I.size hlist I.rel (fun t ht => I.old t fun j o ho _ => isDst_false ht j o ho)
        (hL e' w' I.world (fun j o t ho hjm hot => I.done j o t ho (by rw [hlist j (Array.getElem?_eq_some_iff.1 ho).1]; exact decide_eq_true hjm) hot) (fun t ht => I.old t fun j o ho hl => by
          rw [hlist j (Array.getElem?_eq_some_iff.1 ho).1] at hl
          exact ht j o ho (by simpa using hl)))).2 i hi
    have him' : i < m := by omega
    have hmem : ops[i] ∈ ops.toList := by simp
    have hdo : dokO n ops[i] = true := by rw [List.all_eq_true] at hd; exact hd _ hmem
    have hstep := steps i _ hio him' e' w' I.world (fun t ht => by
      obtain ⟨j, p, hp, he, hpd⟩ := dep_iff.1 ht
      obtain ⟨x, hx, hb, rfl⟩ := edgeTo_iff.1 he
      have hl := haf' x hx hb
      have hxl : x.on < listed.size := by rw [I.size]; exact (Array.getElem?_eq_some_iff.1 hp).1
      exact I.done x.on p t hp (by rw [← ft hxl]; exact hl) hpd) (fun t ht hnd => by
      refine I.old t fun j p hp hl hpd => ?_
      by_cases hij : i = j
      · subst hij; rw [hnl'] at hl; cases hl
      · rcases hok.seen i j ops[i] p t hio hp hij hpd ht with h | h
        · have : dep ops ops[i] t = true := dep_iff.2 ⟨j, p, hp, h, hpd⟩
          rw [hnd] at this; cases this
        · obtain ⟨x, hx, hb, hxo⟩ := edgeTo_iff.1 h
          have := I.closed j p x hp hl hx hb
          rw [hxo] at this
          have hxl : i < listed.size := by rw [I.size]; exact hlt
          rw [ft hxl, hnl'] at this; cases this)
    have hli : i < listed.size := by rw [I.size]; exact hlt
    have hcount : ops.size ≤ fuel + (List.range ops.size).countP (fun j => (listed.setIfInBounds i true).getD j true) := by
      have : (List.range ops.size).countP (fun j => listed.getD j true) + 1 ≤ (List.range ops.size).countP (fun j => (listed.setIfInBounds i true).getD j true) := by
        have hsplit : List.range ops.size = List.range i ++ i :: (List.range' (i + 1) (ops.size - i - 1)) := by
          rw [List.range_eq_range', List.range_eq_range', show ops.size = i + (1 + (ops.size - i - 1)) by omega, ← List.range'_append_1, Nat.zero_add]
          congr 1
          rw [show i + (1 + (ops.size - i - 1)) - i - 1 = ops.size - i - 1 by omega, Nat.add_comm 1, List.range'_succ]
        rw [hsplit, List.countP_append, List.countP_append, List.countP_cons, List.countP_cons]
        have hmono : ∀ (L : List Nat), L.countP (fun j => listed.getD j true) ≤ L.countP (fun j => (listed.setIfInBounds i true).getD j true) := by
          intro L
          refine List.countP_mono_left (fun j _ hj => ?_)
          rw [getD_set_true hli]
          split
          · rfl
          · exact hj
        have h1 := hmono (List.range i)
        have h2 := hmono (List.range' (i + 1) (ops.size - i - 1))
        simp only [hnl', getD_set_true hli, if_true, if_false, Bool.false_eq_true] at h1 h2 ⊢
        omega
      omega
    have hnext : ∀ v w'', R w' w'' → (∀ d, ops[i].dst = some d → (look l d).1 v w'') → wpAny P .any ops Q fuel (listed.setIfInBounds i true) (a.put ops[i].dst v) w'' := by
      intro v w'' hr hv
      refine ih _ _ (put e' ops[i].dst v) w'' (fun j hj hjs => by rw [getD_set_true hli, if_neg (by omega)]; exact hml j hj hjs) hcount ⟨by simpa using I.size, I.rel.put _ v (by unfold dokO at hdo; cases hx : ops[i].dst <;> simp_all), hR.trans I.world hr, ?_, ?_, ?_⟩
      · intro j p d hp hl hpd
        rw [getD_set_true hli] at hl
        by_cases hij : i = j
        · subst hij
          have : p = ops[i] := Option.some.inj (hp.symm.trans hio)
          subst this
          rw [hpd]
          simp only [put, upd, if_true]
          exact hv d hpd
        · rw [if_neg hij] at hl
          have h0 := I.done j p d hp hl hpd
          have hne : ops[i].dst ≠ some d := fun hx => hok.one i j ops[i] p d hio hp hij hx hpd
          have : put e' ops[i].dst v d = e' d := by
            cases hx : ops[i].dst with
            | none => rfl
            | some d' =>
              have : d ≠ d' := fun h => hne (by rw [hx, h])
              simp [put, upd, this]
          rw [this]
          exact (look l d).2 _ _ _ hr h0
      · intro t ht
        have h0 := ht i ops[i] hio (by rw [getD_set_true hli]; simp)
        have : put e' ops[i].dst v t = e' t := by
          cases hx : ops[i].dst with
          | none => rfl
          | some d' =>
            have : t ≠ d' := fun h => h0 (by rw [hx, h])
            simp [put, upd, this]
        rw [this]
        exact I.old t fun j p hp hl => ht j p hp (by
          rw [getD_set_true hli]; split
          · rfl
          · exact hl)
      · intro j p x hp hl hx hb
        rw [getD_set_true hli] at hl ⊢
        by_cases hij : i = j
        · subst hij
          have : p = ops[i] := Option.some.inj (hp.symm.trans hio)
          subst this
          split
          · rfl
          · exact haf' x hx hb
        · rw [if_neg hij] at hl
          split
          · rfl
          · exact I.closed j p x hp hl hx hb
    unfold wpOp
    simp only [hio]
    rw [want_eq I.rel hd]
    unfold WG at hstep
    split
    · rename_i hw
      rw [if_pos hw] at hstep
      exact .inl (wp_of_WO I.rel hstep fun v w'' ⟨h1, h2⟩ => hnext v w'' h1 h2)
    · rename_i hw
      rw [if_neg hw] at hstep
      exact hnext _ _ hstep.1 hstep.2
theorem W_drawT {id : Nat} {ops : List Oper} {Q : Exit → Env → World → Prop} {e : Env} {w : World} (hm : P.follows .mixedOrders = true) (hR : Pre R) (l : List (Nat × SpecR R)) (m : Nat)
    (hok : (decide (m < ops.length) && drawOk ops.toArray && tailOk ops m) = true)
    (steps : Steps' P ops.toArray R l e w (ops.take m))
    (hL : ∀ e' w', R w w' → (∀ t, (ops.take m).any (wrO t) = true → (look l t).1 (e' t) w') → (∀ t, (ops.take m).any (wrO t) = false → e' t = e t) → WL P ops.toArray (Q .normal) (ops.drop m) e' w') :
    W P n (.region id ops.toArray true) Q e w := by
  intro hd a hr
  have hd' : ops.toArray.toList.all (dokO n) = true := hd
  rw [Bool.and_eq_true, Bool.and_eq_true, decide_eq_true_eq] at hok
  have hsz : ops.toArray.size = ops.length := by simp
  have hin : ∀ i o, ops.toArray[i]? = some o → i < m → o ∈ ops.take m := fun i o ho hi => by
    rw [List.getElem?_toArray] at ho
    have : (ops.take m)[i]? = some o := by rw [List.getElem?_take, if_pos hi]; exact ho
    exact List.mem_of_getElem? this
  have hin2 : ∀ o ∈ ops.take m, ∃ i, ops.toArray[i]? = some o ∧ i < m := fun o ho => by
    obtain ⟨i, hi⟩ := List.getElem?_of_mem ho
    rw [List.getElem?_take] at hi
    split at hi
    · rename_i hlt; exact ⟨i, by rw [List.getElem?_toArray]; exact hi, hlt⟩
    · cases hi
  have hst : ∀ i o, ops.toArray[i]? = some o → i < m → StepOK P ops.toArray R l e { w with drawn := w.drawn + 1 } o := fun i o ho hi e' w' hw h1 h2 => steps.get o (hin i o ho hi) e' w' (hR.trans (hR.drew w _) hw) h1 h2
  refine wp_region_any hm (draw_anyT (n := n) (e := e) (K := Q .normal) hR (DOk.of hok.1.2) hd' (m := m) (by omega) (fun i j hi hmi hj => tail_anc hok.2 (by omega) hmi hj) hst ?_ ?_ ops.toArray.size _ a e _ ?_ (by omega) ⟨by simp, hr, hR.refl _, ?_, fun _ _ => rfl, ?_⟩)
  · intro e' w' h1 h2 h3
    refine hL e' w' (hR.trans (hR.drew w _) h1) (fun t ht => ?_) (fun t ht => h3 t fun i o ho hi hot => ?_)
    · rw [List.any_eq_true] at ht
      obtain ⟨o, ho, hw⟩ := ht
      obtain ⟨i, hi, hne⟩ := hin2 o ho
      exact h2 i o t hi hne (wrO_iff.1 hw)
    · have : (ops.take m).any (wrO t) = true := by rw [List.any_eq_true]; exact ⟨o, hin i o ho hi, wrO_iff.2 hot⟩
      rw [ht] at this; cases this
  · intro a' e' w' r' h2 h3
    exact ⟨e', r', h2, h3⟩
  · intro i _ hi
    simp [Array.getD_eq_getD_getElem?] at hi ⊢
    simp [hi]
  · intro i o d ho hl
    have hlt := (Array.getElem?_eq_some_iff.1 ho).1
    simp at hlt
    simp [Array.getD_eq_getD_getElem?, hlt] at hl
  · intro i o x ho hl
    have hlt := (Array.getElem?_eq_some_iff.1 ho).1
    simp at hlt
    simp [Array.getD_eq_getD_getElem?, hlt] at hl
theorem W_dT {id : Nat} {ops : List Oper} {Q : Exit → Env → World → Prop} {e : Env} {w : World} (lc : Bool) (hm : P.follows .mixedOrders = true) (hR : Pre R) (hld : lc = true → ∀ w w', R w w' → Ext w w') (mask : List Bool) (l : List (Nat × SpecR R)) (m : Nat)
    (hok : ((decide (m < ops.length) && drawOk ops.toArray && tailOk ops m) && (maskOk lc ops mask && (mask.drop m).all fun b => !b)) = true)
    (h : ∀ K : Env → Prop, (∀ es, (StepsL P ops R mask l es w (selL mask (ops.take m)) ∧
      (∀ e' w', R w w' → (∀ t, lateT mask (ops.take m) t = true → (look l t).1 (e' t) w') → (∀ t, lateT mask (ops.take m) t = false → e' t = es t) → WLo P ops.toArray (Q .normal) (ops.drop m) e' w')) → K es) → WLm P ops.toArray K mask ops e w) :
    W P n (.region id ops.toArray true) Q e w := by
  rw [Bool.and_eq_true] at hok
  obtain ⟨hok1, hmk'⟩ := hok
  rw [Bool.and_eq_true] at hmk'
  obtain ⟨hmk, hlast⟩ := hmk'
  have hok2 := hok1
  rw [Bool.and_eq_true, Bool.and_eq_true, decide_eq_true_eq] at hok2
  obtain ⟨es, ⟨hst, hL⟩, h2, hdis, h3⟩ := early_steps (K := fun es => StepsL P ops R mask l es w (selL mask (ops.take m)) ∧
      (∀ e' w', R w w' → (∀ t, lateT mask (ops.take m) t = true → (look l t).1 (e' t) w') → (∀ t, lateT mask (ops.take m) t = false → e' t = es t) → WLo P ops.toArray (Q .normal) (ops.drop m) e' w'))
    hR hld hok2.1.2 hmk (h _ fun _ h => h)
  have hlen : mask.length = ops.length := by
    unfold maskOk at hmk; rw [Bool.and_eq_true] at hmk; exact Nat.eq_of_beq_eq_true hmk.1
  have hdl : ∀ (i : Nat) (o : Oper), (ops.take m)[i]? = some o → ops[i]? = some o ∧ i < m := fun i o hi => by
    rw [List.getElem?_take] at hi
    split at hi
    · exact ⟨hi, ‹_›⟩
    · cases hi
  have hdr : ∀ (i : Nat) (o : Oper), ops[i]? = some o → i < m → (ops.take m)[i]? = some o := fun i o hi hlt => by
    rw [List.getElem?_take, if_pos hlt]; exact hi
  have hmb : ∀ (i : Nat), i < ops.length → mask[i]? = some true ∨ mask[i]? = some false := fun i hi => by
    rw [List.getElem?_eq_getElem (by omega)]
    cases mask[i] <;> simp
  have hmt : ∀ (i : Nat), mask[i]? = some true → i < ops.length → i < m := fun i hi hlt => by
    rcases Nat.lt_or_ge i m with h | h
    · exact h
    · rw [List.all_eq_true] at hlast
      have hmem : true ∈ mask.drop m := by
        refine List.mem_of_getElem? (i := i - m) ?_
        rw [List.getElem?_drop, show m + (i - m) = i by omega]; exact hi
      have := hlast _ hmem
      simp at this
  refine W_drawT hm hR (lookE mask ops es l) m hok1 (Steps'.of fun o ho => ?_) (fun e' w' hw hs ho => ?_)
  · obtain ⟨i, hi⟩ := List.getElem?_of_mem ho
    exact h3 i o (hdl i o hi).1 fun hmi => hst.get o (selL_mem hi hmi)
  · refine WL_of_WLo _ _ _ (hL e' w' hw (fun t ht => ?_) (fun t ht => ?_))
    · obtain ⟨i, o, hi, hmi, hd⟩ := late_iff.1 ht
      have := hs t (any_mem.2 ⟨i, o, hi, hd⟩)
      have hne : t ∉ earlyS mask ops := fun hm => by
        have := hdis t hm
        rw [late_iff.2 ⟨i, o, (hdl i o hi).1, hmi, hd⟩] at this; cases this
      unfold lookE at this
      rw [look_app, if_neg hne] at this
      exact this
    · by_cases hte : t ∈ earlyS mask ops
      · obtain ⟨i, o, hi, hmi, hd⟩ := early_mem.1 hte
        have := hs t (any_mem.2 ⟨i, o, hdr i o hi (hmt i hmi (List.getElem?_eq_some_iff.1 hi).1), hd⟩)
        unfold lookE at this
        rw [look_app, if_pos hte] at this
        exact this
      · rw [h2 t hte]
        refine ho t ?_
        cases ha : (ops.take m).any (wrO t) with
        | false => rfl
        | true =>
          obtain ⟨i, o, hi, hd⟩ := any_mem.1 ha
          obtain ⟨hi', hlt⟩ := hdl i o hi
          rcases hmb i (List.getElem?_eq_some_iff.1 hi').1 with hmi | hmi
          · exact absurd (early_mem.2 ⟨i, o, hi', hmi, hd⟩) hte
          · rw [late_iff.2 ⟨i, o, hi, hmi, hd⟩] at ht; cases ht
end
end Go.E
end
section
namespace Go.E
open Go Go.RowKit
def lookD (ops : List Oper) (o : Oper) (j : Nat) : Bool := match (ops[j]?).bind (·.dst) with | some d => looks ops.toArray o d | none => false
def lateB : List Bool → Nat → Nat → Nat
  | [], _, a => a
  | b :: m, i, a => lateB m (i + 1) (if b then a else a ||| 2 ^ i)
def dcOk (ops : List Oper) (mask : List Bool) : Bool :=
  Nat.beq mask.length ops.length && drawOk ops.toArray && (List.range ops.length).all fun i => match ops[i]? with
    | none => true
    | some o => if mask.getD i false then pureO o && (List.range ops.length).all fun j => mask.getD j true || !lookD ops o j || (match ops[j]? with | some p => edgeTo p i | none => false)
      else ((List.range ops.length).all fun j => !(mask.getD j false) || !lookD ops o j || edgeTo o j) && Nat.beq (((masks ops []).getD i 0) &&& lateB (mask.take i) 0 0) (lateB (mask.take i) 0 0)
theorem lateB_mono {j : Nat} : ∀ (m : List Bool) (i a : Nat), a.testBit j = true → (lateB m i a).testBit j = true
  | [], _, _, h => h
  | b :: m, i, a, h => by
    unfold lateB
    refine lateB_mono m (i + 1) _ ?_
    split
    · exact h
    · rw [Nat.testBit_or, h, Bool.true_or]
theorem lateB_bit {j : Nat} : ∀ (m : List Bool) (i a : Nat), i ≤ j → m[j - i]? = some false → (lateB m i a).testBit j = true
  | [], _, _, _, h => by simp at h
  | b :: m, i, a, hij, h => by
    unfold lateB
    by_cases he : j = i
    · subst he
      simp at h; subst h
      refine lateB_mono m _ _ ?_
      simp [Nat.testBit_or, Nat.testBit_two_pow_self]
    · refine lateB_bit m (i + 1) _ (by omega) ?_
      rw [show j - i = (j - (i + 1)) + 1 by omega] at h
      simpa using h
def diffB (mask mask2 : List Bool) : List Bool := (mask.zip mask2).map fun b => !(b.1 && !b.2)
def waitsB (ops : List Oper) (i : Nat) (m : List Bool) : Bool := Nat.beq (((masks ops []).getD i 0) &&& lateB m 0 0) (lateB m 0 0)
def pmOk (ops : List Oper) (mask mask2 : List Bool) (pm : List Nat) : Bool := Nat.beq pm.length ops.length && Nat.beq mask2.length ops.length && (List.range ops.length).all fun i => match ops[i]? with
  | none => true
  | some o => (match pm.getD i 0 with | 0 => true | 1 => pureO o || waitsB ops i (mask.map fun b => !b) | _ => waitsB ops i (diffB mask mask2)) &&
    (!(mask2.getD i false) || (mask.getD i false && (List.range ops.length).all fun j => mask2.getD j false || !(mask.getD j false) || !lookD ops o j))
theorem waitsB_get {ops : List Oper} {i j : Nat} {m : List Bool} (h : waitsB ops i m = true) (hj : m[j]? = some false) : Anc ops.toArray i j := by
  have h5 := Nat.eq_of_beq_eq_true h
  have h6 : (lateB m 0 0).testBit j = true := lateB_bit _ 0 0 (Nat.zero_le _) (by rw [Nat.sub_zero]; exact hj)
  rw [← h5, Nat.testBit_and, Bool.and_eq_true] at h6
  exact masks_anc ops [] [] rfl rfl (fun i j h => by simp at h) i j h6.1
structure PmOk (ops : List Oper) (mask mask2 : List Bool) (pm : List Nat) : Prop where
  len : pm.length = ops.length
  one : ∀ (i : Nat) (o : Oper), ops[i]? = some o → pm.getD i 0 = 1 → pureO o = true ∨ ∀ j : Nat, mask[j]? = some true → Anc ops.toArray i j
  two : ∀ (i : Nat) (o : Oper) (k : Nat), ops[i]? = some o → pm.getD i 0 = k + 2 → ∀ j : Nat, mask[j]? = some true → mask2[j]? = some false → Anc ops.toArray i j
  sub : ∀ (i : Nat), i < ops.length → mask2[i]? = some true → mask[i]? = some true
  own : ∀ (i j : Nat) (o p : Oper) (d : Nat), ops[i]? = some o → ops[j]? = some p → mask2[i]? = some true → mask[j]? = some true → mask2[j]? = some false → p.dst = some d → looks ops.toArray o d = false
  len2 : mask2.length = ops.length
theorem PmOk.of {ops : List Oper} {mask mask2 : List Bool} {pm : List Nat} (h : pmOk ops mask mask2 pm = true) (hml : mask.length = ops.length) : PmOk ops mask mask2 pm := by
  unfold pmOk at h
  rw [Bool.and_eq_true, Bool.and_eq_true, List.all_eq_true] at h
  obtain ⟨⟨h1, h2⟩, h3⟩ := h
  have hl2 := Nat.eq_of_beq_eq_true h2
  have h4 : ∀ i o, ops[i]? = some o → _ := fun i o ho => h3 i (List.mem_range.2 (List.getElem?_eq_some_iff.1 ho).1)
  have hmk : ∀ i, i < ops.length → mask2[i]? = some true → mask[i]? = some true := fun i hi hm => by
    obtain ⟨o, ho⟩ : ∃ o, ops[i]? = some o := ⟨_, List.getElem?_eq_getElem hi⟩
    have := h4 i o ho
    simp only [ho, Bool.and_eq_true] at this
    have := this.2
    rw [show mask2.getD i false = true by simp [List.getD, hm], Bool.not_true, Bool.false_or, Bool.and_eq_true] at this
    have hl : i < mask.length := by omega
    rw [List.getElem?_eq_getElem hl]
    have h5 := this.1
    rw [List.getD_eq_getElem?_getD, List.getElem?_eq_getElem hl] at h5
    simpa using h5
  refine ⟨Nat.eq_of_beq_eq_true h1, fun i o ho hp => ?_, fun i o k ho hp j hj hj2 => ?_, hmk, fun i j o p d ho hp hm hm1 hm2 hd => ?_, hl2⟩
  · have := h4 i o ho
    simp only [ho, hp, Bool.and_eq_true, Bool.or_eq_true] at this
    rcases this.1 with h | h
    · exact .inl h
    · exact .inr fun j hj => waitsB_get h (by rw [List.getElem?_map, hj]; rfl)
  · have := h4 i o ho
    simp only [ho, hp, Bool.and_eq_true] at this
    refine waitsB_get this.1 ?_
    unfold diffB
    have hz : (mask.zip mask2)[j]? = some (true, false) := List.getElem?_zip_eq_some.2 ⟨hj, hj2⟩
    rw [List.getElem?_map, hz]; rfl
  · have := h4 i o ho
    simp only [ho, Bool.and_eq_true] at this
    have := this.2
    rw [show mask2.getD i false = true by simp [List.getD, hm], Bool.not_true, Bool.false_or, Bool.and_eq_true, List.all_eq_true] at this
    have := this.2 j (List.mem_range.2 (List.getElem?_eq_some_iff.1 hp).1)
    rw [show mask2.getD j false = false by simp [List.getD, hm2], show mask.getD j false = true by simp [List.getD, hm1]] at this
    unfold lookD at this
    simpa [hp, hd] using this
def selP : List Bool → List Nat → List Oper → List (Nat × Oper)
  | false :: m, b :: pm, o :: os => (b, o) :: selP m pm os
  | true :: m, _ :: pm, _ :: os => selP m pm os
  | _, _, _ => []
structure DcOk (ops : List Oper) (mask : List Bool) : Prop where
  len : mask.length = ops.length
  draw : drawOk ops.toArray = true
  pure : ∀ (i : Nat) (o : Oper), ops[i]? = some o → mask[i]? = some true → pureO o = true
  early : ∀ (i j : Nat) (o p : Oper) (d : Nat), ops[i]? = some o → ops[j]? = some p → mask[i]? = some true → mask[j]? = some false → p.dst = some d → looks ops.toArray o d = true → edgeTo p i = true
  late : ∀ (i j : Nat) (o p : Oper) (d : Nat), ops[i]? = some o → ops[j]? = some p → mask[i]? = some false → mask[j]? = some true → p.dst = some d → looks ops.toArray o d = true → edgeTo o j = true
  ord : ∀ (i j : Nat), i < ops.length → mask[i]? = some false → mask[j]? = some false → j < i → Anc ops.toArray i j
theorem DcOk.of {ops : List Oper} {mask : List Bool} (h : dcOk ops mask = true) : DcOk ops mask := by
  unfold dcOk at h
  rw [Bool.and_eq_true, Bool.and_eq_true] at h
  obtain ⟨⟨h1, h2⟩, h3⟩ := h
  have hlen := Nat.eq_of_beq_eq_true h1
  rw [List.all_eq_true] at h3
  have h4 : ∀ i o, ops[i]? = some o → _ := fun i o ho => h3 i (List.mem_range.2 (List.getElem?_eq_some_iff.1 ho).1)
  refine ⟨hlen, h2, fun i o ho hm => ?_, fun i j o p d ho hp hm hm' hd hl => ?_, fun i j o p d ho hp hm hm' hd hl => ?_, fun i j hi hm hm' hji => ?_⟩
  · have := h4 i o ho
    simp only [ho] at this
    rw [if_pos (by simp [List.getD, hm]), Bool.and_eq_true] at this
    exact this.1
  · have := h4 i o ho
    simp only [ho] at this
    rw [if_pos (by simp [List.getD, hm]), Bool.and_eq_true, List.all_eq_true] at this
    have := this.2 j (List.mem_range.2 (List.getElem?_eq_some_iff.1 hp).1)
    rw [show mask.getD j true = false by simp [List.getD, hm'], Bool.false_or] at this
    unfold lookD at this
    simpa [hp, hd, hl] using this
  · have := h4 i o ho
    simp only [ho] at this
    rw [if_neg (by simp [List.getD, hm]), Bool.and_eq_true, List.all_eq_true] at this
    have := this.1 j (List.mem_range.2 (List.getElem?_eq_some_iff.1 hp).1)
    rw [show mask.getD j false = true by simp [List.getD, hm']] at this
    unfold lookD at this
    simpa [hp, hd, hl] using this
  · obtain ⟨o, ho⟩ : ∃ o, ops[i]? = some o := ⟨_, List.getElem?_eq_getElem hi⟩
    have := h4 i o ho
    simp only [ho] at this
    rw [if_neg (by simp [List.getD, hm]), Bool.and_eq_true] at this
    have h5 := Nat.eq_of_beq_eq_true this.2
    have h6 : (lateB (mask.take i) 0 0).testBit j = true := lateB_bit _ 0 0 (Nat.zero_le _) (by rw [Nat.sub_zero, List.getElem?_take, if_pos hji]; exact hm')
    rw [← h5, Nat.testBit_and, Bool.and_eq_true] at h6
    exact masks_anc ops [] [] rfl rfl (fun i j h => by simp at h) i j h6.1
section
variable {P : Program} {n : Nat} {R : World → World → Prop}
def WLc (P : Program) (ops : Array Oper) (R R2 : World → Prop) (K : Env → World → Prop) : List (Nat × Oper) → Env → World → Prop
  | [], e, w => K e w
  | (0, o) :: rest, e, w => wg P ops o e w fun v w' => R w' ∧ WLc P ops R R2 K rest (put e o.dst v) w'
  | (1, o) :: rest, e, w => wg P ops o e w fun v w' => WLc P ops R R2 K rest (put e o.dst v) w'
  | (_ + 2, o) :: rest, e, w => wg P ops o e w fun v w' => R2 w' ∧ WLc P ops R R2 K rest (put e o.dst v) w'
theorem WG_congr {ops : Array Oper} {o : Oper} {e e2 : Env} {w : World} {K : Value → World → Prop} (hs : ∀ cs b, o.op ≠ .select cs b) (h : ∀ t, looks ops o t = true → e2 t = e t) (hw : WG P ops o e w K) : WG P ops o e2 w K := by
  unfold WG at *
  rw [looks_want h]
  split
  · rename_i h1
    rw [if_pos h1] at hw
    unfold WO at *
    rw [execOp_congr (ρ := ev e2) (ρ' := ev e) o hs fun x hx => looks_op h x (Array.mem_toList_iff.2 hx)]
    exact hw
  · rename_i h1
    rwa [if_neg h1] at hw
def lateIx : List Bool → Nat → List Nat
  | [], _ => []
  | b :: m, i => if b then lateIx m (i + 1) else i :: lateIx m (i + 1)
theorem lateIx_mem {j : Nat} : ∀ {m : List Bool} {i : Nat}, j ∈ lateIx m i ↔ i ≤ j ∧ m[j - i]? = some false
  | [], i => by simp [lateIx]
  | b :: m, i => by
    have ih := lateIx_mem (j := j) (m := m) (i := i + 1)
    have key : (i + 1 ≤ j ∧ m[j - (i + 1)]? = some false) ↔ (j ≠ i ∧ i ≤ j ∧ (b :: m)[j - i]? = some false) := by
      constructor
      · rintro ⟨h1, h2⟩
        refine ⟨by omega, by omega, ?_⟩
        rw [show j - i = (j - (i + 1)) + 1 by omega]; simpa using h2
      · rintro ⟨h1, h2, h3⟩
        refine ⟨by omega, ?_⟩
        rw [show j - i = (j - (i + 1)) + 1 by omega] at h3
        simpa using h3
    unfold lateIx
    cases b with
    | true =>
      rw [if_pos rfl, ih, key]
      constructor
      · rintro ⟨_, h2, h3⟩; exact ⟨h2, h3⟩
      · rintro ⟨h2, h3⟩
        refine ⟨fun e => ?_, h2, h3⟩
        subst e; simp at h3
    | false =>
      rw [if_neg (by simp), List.mem_cons, ih, key]
      constructor
      · rintro (rfl | ⟨_, h2, h3⟩)
        · exact ⟨Nat.le_refl _, by simp⟩
        · exact ⟨h2, h3⟩
      · rintro ⟨h2, h3⟩
        by_cases e : j = i
        · exact .inl e
        · exact .inr ⟨e, h2, h3⟩
theorem lateIx_sorted : ∀ (m : List Bool) (i : Nat), (lateIx m i).Pairwise (· < ·)
  | [], _ => by simp [lateIx]
  | b :: m, i => by
    unfold lateIx
    split
    · exact lateIx_sorted m (i + 1)
    · refine List.pairwise_cons.2 ⟨fun j hj => ?_, lateIx_sorted m (i + 1)⟩
      have := (lateIx_mem.1 hj).1; omega
def selI (ops : List Oper) (pm : List Nat) (j : Nat) : Option (Nat × Oper) := (ops[j]?).map fun o => (pm.getD j 0, o)
theorem selP_ix {ops : List Oper} {pm : List Nat} : ∀ (m : List Bool) (p : List Nat) (os : List Oper) (i : Nat), m.length = os.length → p.length = os.length → (∀ k, os[k]? = ops[i + k]?) → (∀ k, p.getD k 0 = pm.getD (i + k) 0) → selP m p os = (lateIx m i).filterMap (selI ops pm)
  | [], [], [], _, _, _, _, _ => rfl
  | [], _, _ :: _, _, h, _, _, _ => by simp at h
  | _ :: _, _, [], _, h, _, _, _ => by simp at h
  | [], _ :: _, [], _, _, h, _, _ => by simp at h
  | _ :: _, [], _ :: _, _, _, h, _, _ => by simp at h
  | b :: m, q :: p, o :: os, i, h, h', hk, hq => by
    have ih := selP_ix m p os (i + 1) (by simpa using h) (by simpa using h') (fun k => by have := hk (k + 1); rw [show i + 1 + k = i + (k + 1) by omega, ← this]; simp)
      (fun k => by have := hq (k + 1); rw [show i + 1 + k = i + (k + 1) by omega, ← this]; simp [List.getD])
    have h0 := hk 0
    simp at h0
    have q0 := hq 0
    rw [Nat.add_zero] at q0
    have q1 : q = pm.getD i 0 := by rw [← q0]; simp [List.getD]
    cases b with
    | true => simp only [selP, lateIx]; exact ih
    | false => simp only [selP, lateIx, Bool.false_eq_true, if_false, List.filterMap_cons, selI, ← h0, Option.map_some, ih, q1]
structure CInv (pm : List Nat) (ops : List Oper) (n : Nat) (S S2 : World → Prop) (mask mask2 : List Bool) (e es : Env) (K : Env → World → Prop) (P : Program) (listed : Array Bool) (a : Act) (e' : Env) (w' : World) (ek : Env) (rest : List Nat) : Prop where
  size : listed.size = ops.length
  rel : Rel n a e'
  world : ((∀ j : Nat, mask[j]? = some true → listed.getD j true = true) ∨ ((∀ j : Nat, mask[j]? = some true → mask2[j]? = some false → listed.getD j true = true) ∧ S2 w') ∨ S w')
  run : WLc P ops.toArray S S2 K (rest.filterMap (selI ops pm)) ek w'
  sort : rest.Pairwise (· < ·)
  late : ∀ (i : Nat), i < ops.length → mask[i]? = some false → (listed.getD i true = false ↔ i ∈ rest)
  restL : ∀ i ∈ rest, i < ops.length ∧ mask[i]? = some false
  vals : ∀ (i : Nat) (o : Oper) (d : Nat), ops[i]? = some o → listed.getD i true = true → o.dst = some d → e' d = ek d
  old : ∀ (t : Nat), (∀ (i : Nat) (o : Oper), ops[i]? = some o → listed.getD i true = true → o.dst ≠ some t) → e' t = e t
  ekE : ∀ (t : Nat), (∀ (i : Nat) (o : Oper), ops[i]? = some o → mask[i]? = some false → listed.getD i true = true → o.dst ≠ some t) → ek t = es t
  closed : ∀ (i : Nat) (o : Oper) (x : Edge), ops.toArray[i]? = some o → listed.getD i true = true → x ∈ o.after → Region.binds .any x = true → listed.getD x.on false = true
theorem draw_anyC {pm : List Nat} {ops : List Oper} {mask mask2 : List Bool} {e es : Env} {S S2 : World → Prop} {K : Env → World → Prop} {Q : Exit → Act → World → Prop} (hc : DcOk ops mask) (hpm : PmOk ops mask mask2 pm) {w0 : World} (hS0 : S w0) (hd : ops.all (dokO n) = true)
    (hes : ∀ w', S w' → WLm P ops.toArray (fun x => x = es) mask ops e w') (hes2 : ∀ w', S2 w' → WLm P ops.toArray (fun x => ∀ t, t ∈ earlyS mask2 ops → x t = es t) mask2 ops e w')
    (hQ : ∀ a e' w', Rel n a e' → (∀ t, isDst ops.toArray t = false → e' t = e t) → K e' w' → Q .normal a w') :
    ∀ (fuel : Nat) (listed : Array Bool) (a : Act) (e' : Env) (w' : World) (ek : Env) (rest : List Nat), ops.length ≤ fuel + (List.range ops.length).countP (fun i => listed.getD i true) → CInv pm ops n S S2 mask mask2 e es K P listed a e' w' ek rest → wpAny P .any ops.toArray Q fuel listed a w' := by
  have hok := DOk.of hc.draw
  have hmb : ∀ (i : Nat), i < ops.length → mask[i]? = some true ∨ mask[i]? = some false := fun i hi => by
    have hl : i < mask.length := by rw [hc.len]; exact hi
    rw [List.getElem?_eq_getElem hl]
    cases mask[i] <;> simp
  have hdd : ∀ (i j : Nat) (o p : Oper) (d : Nat), ops[i]? = some o → ops[j]? = some p → o.dst = some d → p.dst = some d → i = j := fun i j o p d hi hj ho hp => by
    rcases Nat.decEq i j with h | h
    · exact absurd hp (hok.one i j o p d (by simpa using hi) (by simpa using hj) h ho)
    · exact h
  have hesold : ∀ w', S w' → ∀ t, (∀ (i : Nat) (o : Oper), ops[i]? = some o → mask[i]? = some true → o.dst ≠ some t) → es t = e t := fun w' hS t ht => by
    obtain ⟨es', h1, h2, _⟩ := WLm_trace mask ops e hdd (fun i o a b => hc.pure i o a b) (hes w' hS)
    subst h1
    exact h2 t fun hm => by
      obtain ⟨i, o, a, b, c⟩ := early_mem.1 hm
      exact ht i o a b c
  have hfin : ∀ (listed : Array Bool) (a : Act) (e' : Env) (w' : World) (ek : Env) (rest : List Nat), CInv pm ops n S S2 mask mask2 e es K P listed a e' w' ek rest → (∀ i, i < ops.length → listed.getD i true = true) → Q .normal a w' := by
    intro listed a e' w' ek rest I hall
    have hr : rest = [] := by
      cases hr : rest with
      | nil => rfl
      | cons i r =>
        obtain ⟨h1, h2⟩ := I.restL i (by rw [hr]; exact List.mem_cons_self)
        have := (I.late i h1 h2).2 (by rw [hr]; exact List.mem_cons_self)
        rw [hall i h1] at this; cases this
    have hrun := I.run
    rw [hr] at hrun
    have hee : e' = ek := by
      funext t
      by_cases hex : ∃ (i : Nat) (o : Oper), ops[i]? = some o ∧ o.dst = some t
      · obtain ⟨i, o, h1, h2⟩ := hex
        exact I.vals i o t h1 (hall i (List.getElem?_eq_some_iff.1 h1).1) h2
      · have hno : ∀ (i : Nat) (o : Oper), ops[i]? = some o → o.dst ≠ some t := fun i o h1 h2 => hex ⟨i, o, h1, h2⟩
        rw [I.old t fun i o h1 _ => hno i o h1, I.ekE t fun i o h1 _ _ => hno i o h1, hesold w0 hS0 t fun i o h1 _ => hno i o h1]
    refine hQ a e' w' I.rel (fun t ht => I.old t fun i o h1 _ => isDst_false ht i o (by simpa using h1)) ?_
    rw [hee]
    exact hrun
  intro fuel
  induction fuel with
  | zero =>
    intro listed a e' w' ek rest hf I
    have hle : (List.range ops.length).countP (fun i => listed.getD i true) = (List.range ops.length).length := by
      have := List.countP_le_length (p := fun i => listed.getD i true) (l := List.range ops.length)
      simp only [List.length_range] at this ⊢; omega
    rw [List.countP_eq_length] at hle
    have hall : ∀ i, i < ops.length → listed.getD i true = true := fun i hi => hle i (List.mem_range.2 hi)
    refine ⟨?_, hfin _ _ _ _ _ _ I hall⟩
    unfold Region.ready
    rw [List.filter_eq_nil_iff]
    intro i hi
    have := hall i (by simpa using List.mem_range.1 hi)
    simp [this]
  | succ fuel ih =>
    intro listed a e' w' ek rest hf I
    have hsz : listed.size = ops.toArray.size := by rw [I.size]; simp
    refine ⟨fun hnil => hfin _ _ _ _ _ _ I fun i hi => ready_min hok hsz hnil i (by simpa using hi), fun i hi => ?_⟩
    obtain ⟨hlt, hnl', haf'⟩ := ready_iff hi
    have hlt' : i < ops.length := by simpa using hlt
    obtain ⟨o, ho⟩ : ∃ o, o = ops[i] := ⟨_, rfl⟩
    have hio : ops[i]? = some o := by rw [ho]; exact List.getElem?_eq_getElem hlt'
    have hio2 : ops.toArray[i]? = some o := by simpa using hio
    have haf : ∀ x ∈ o.after, Region.binds .any x = true → listed.getD x.on false = true := fun x hx hb => haf' x (by rw [ho] at hx; simpa using hx) hb
    have hmem : o ∈ ops := List.mem_of_getElem? hio
    have hdo : dokO n o = true := by rw [List.all_eq_true] at hd; exact hd _ hmem
    have hli : i < listed.size := by rw [I.size]; exact hlt'
    have hcount : ops.length ≤ fuel + (List.range ops.length).countP (fun j => (listed.setIfInBounds i true).getD j true) := by
      have : (List.range ops.length).countP (fun j => listed.getD j true) + 1 ≤ (List.range ops.length).countP (fun j => (listed.setIfInBounds i true).getD j true) := by
        have hsplit : List.range ops.length = List.range i ++ i :: (List.range' (i + 1) (ops.length - i - 1)) := by
          rw [List.range_eq_range', List.range_eq_range', show ops.length = i + (1 + (ops.length - i - 1)) by omega, ← List.range'_append_1, Nat.zero_add]
          congr 1
          rw [show i + (1 + (ops.length - i - 1)) - i - 1 = ops.length - i - 1 by omega, Nat.add_comm 1, List.range'_succ]
        rw [hsplit, List.countP_append, List.countP_append, List.countP_cons, List.countP_cons]
        have hmono : ∀ (L : List Nat), L.countP (fun j => listed.getD j true) ≤ L.countP (fun j => (listed.setIfInBounds i true).getD j true) := by
          intro L
          refine List.countP_mono_left (fun j _ hj => ?_)
          rw [getD_set_true hli]
          split
          · rfl
          · exact hj
        have h1 := hmono (List.range i)
        have h2 := hmono (List.range' (i + 1) (ops.length - i - 1))
        simp only [hnl', getD_set_true hli, if_true, if_false, Bool.false_eq_true] at h1 h2 ⊢
        omega
      omega
    have hunl : ∀ j, edgeTo o j = true → listed.getD j false = true := fun j he => by
      obtain ⟨x, hx, hb, rfl⟩ := edgeTo_iff.1 he
      exact haf x hx hb
    have hft : ∀ j, j < ops.length → listed.getD j false = true → listed.getD j true = true := fun j hj h => by rwa [← ft (by rw [I.size]; exact hj)]
    have hback : ∀ (j : Nat) (p : Oper), ops[j]? = some p → edgeTo p i = true → listed.getD j true = false := fun j p hp he => by
      cases hb : listed.getD j true with
      | false => rfl
      | true =>
        obtain ⟨x, hx, hbx, hxo⟩ := edgeTo_iff.1 he
        have := I.closed j p x (by simpa using hp) hb hx hbx
        rw [hxo, ft hli, hnl'] at this; cases this
    -- what an operation that is not yet run has in its slot
    have hslot : ∀ (j : Nat) (p : Oper) (d : Nat), ops[j]? = some p → listed.getD j true = false → p.dst = some d → e' d = e d := fun j p d hp hl hpd => I.old d fun j' p' hp' hl' hpd' => by
      have := hdd j j' p p' d hp hp' hpd hpd'
      subst this; rw [hl] at hl'; cases hl'
    have hput : ∀ v, Rel n (a.put o.dst v) (put e' o.dst v) := fun v => I.rel.put _ v (by unfold dokO at hdo; cases hx : o.dst <;> simp_all)
    have hpne : ∀ v (t : Nat), o.dst ≠ some t → put e' o.dst v t = e' t := fun v t h0 => by
      cases hx : o.dst with
      | none => rfl
      | some d' =>
        have : t ≠ d' := fun h => h0 (by rw [hx, h])
        simp [put, upd, this]
    have hpke : ∀ v (t : Nat), o.dst ≠ some t → put ek o.dst v t = ek t := fun v t h0 => by
      cases hx : o.dst with
      | none => rfl
      | some d' =>
        have : t ≠ d' := fun h => h0 (by rw [hx, h])
        simp [put, upd, this]
    have hpeq : ∀ (f : Env) v (t : Nat), o.dst = some t → put f o.dst v t = v := fun f v t h0 => by rw [h0]; simp [put, upd]
    have hclosed' : ∀ (j : Nat) (p : Oper) (x : Edge), ops.toArray[j]? = some p → (listed.setIfInBounds i true).getD j true = true → x ∈ p.after → Region.binds .any x = true → (listed.setIfInBounds i true).getD x.on false = true := by
      intro j p x hp hl hx hb
      rw [getD_set_true hli] at hl ⊢
      by_cases hij : i = j
      · subst hij
        have : p = o := Option.some.inj (hp.symm.trans hio2)
        subst this
        split
        · rfl
        · exact haf x hx hb
      · rw [if_neg hij] at hl
        split
        · rfl
        · exact I.closed j p x hp hl hx hb
    have hold' : ∀ v (t : Nat), (∀ (j : Nat) (p : Oper), ops[j]? = some p → (listed.setIfInBounds i true).getD j true = true → p.dst ≠ some t) → put e' o.dst v t = e t := fun v t ht => by
      rw [hpne v t (ht i o hio (by rw [getD_set_true hli]; simp))]
      exact I.old t fun j p hp hl => ht j p hp (by
        rw [getD_set_true hli]; split
        · rfl
        · exact hl)
    rcases hmb i hlt' with hmi | hmi
    · -- an early one
      have hwg : ∃ v, (∀ d, o.dst = some d → es d = v) ∧ wg P ops.toArray o e' w' fun v' w'' => v' = v ∧ w'' = w' := by
        have hcore : ∀ (mk : List Bool) (ei es1 : Env) (v : Value), mk[i]? = some true → (∀ j : Nat, mk[j]? = some true → mask[j]? = some true) → (∀ (j : Nat) (p : Oper) (d : Nat), ops[j]? = some p → mask[j]? = some true → mk[j]? ≠ some true → p.dst = some d → looks ops.toArray o d = false) →
            (∀ t, t ∈ earlyS mk ops → es1 t = es t) → (∀ t, (∀ (j : Nat) (p : Oper), j < i → ops[j]? = some p → mk[j]? = some true → p.dst ≠ some t) → ei t = e t) →
            (∀ t, (∃ (j : Nat) (p : Oper), j < i ∧ ops[j]? = some p ∧ mk[j]? = some true ∧ p.dst = some t) → ei t = es1 t) →
            (∀ (e2 : Env) (w' : World), (∀ t, looks ops.toArray o t = true → e2 t = ei t) → (isLoad o = true → Ext w' w') → ∀ K' : Value → World → Prop, K' v w' → True) → ∀ t, looks ops.toArray o t = true → e' t = ei t := by
          intro mk ei es1 v hmki hmk hmno hes1 g1 g2 _ t ht
          by_cases hex : ∃ (j : Nat) (p : Oper), ops[j]? = some p ∧ p.dst = some t
          · obtain ⟨j, p, hp, hpd⟩ := hex
            have hjl := (List.getElem?_eq_some_iff.1 hp).1
            by_cases hij : i = j
            · subst hij
              rw [hslot i p t hp hnl' hpd, g1 t fun k q hk hq hmq hqd => by have := hdd k i q p t hq hp hqd hpd; omega]
            · rcases hmb j hjl with hmj | hmj
              · by_cases hmj2 : mk[j]? = some true
                · rcases hok.seen i j o p t hio2 (by simpa using hp) hij hpd ht with he | he
                  · have hji : j < i := by
                      obtain ⟨x, hx, hb, rfl⟩ := edgeTo_iff.1 he
                      exact hok.down i o x hio2 hx hb
                    rw [g2 t ⟨j, p, hji, hp, hmj2, hpd⟩, hes1 t (early_mem.2 ⟨j, p, hp, hmj2, hpd⟩), I.vals j p t hp (hft j hjl (hunl j he)) hpd]
                    exact I.ekE t fun k q hq hmq _ hqd => by
                      have := hdd k j q p t hq hp hqd hpd
                      subst this; rw [hmj] at hmq; cases hmq
                  · have hij' : i < j := by
                      obtain ⟨x, hx, hb, hxo⟩ := edgeTo_iff.1 he
                      have := hok.down j p x (by simpa using hp) hx hb; omega
                    rw [hslot j p t hp (hback j p hp he) hpd, g1 t fun k q hk hq hmq hqd => by have := hdd k j q p t hq hp hqd hpd; omega]
                · have := hmno j p t hp hmj hmj2 hpd
                  rw [ht] at this; cases this
              · have he := hc.early i j o p t hio hp hmi hmj hpd ht
                rw [hslot j p t hp (hback j p hp he) hpd, g1 t fun k q hk hq hmq hqd => by
                  have := hdd k j q p t hq hp hqd hpd
                  subst this
                  have := hmk k hmq
                  rw [hmj] at this; cases this]
          · have hno : ∀ (j : Nat) (p : Oper), ops[j]? = some p → p.dst ≠ some t := fun j p h1 h2 => hex ⟨j, p, h1, h2⟩
            rw [I.old t fun j p hp _ => hno j p hp, g1 t fun k q _ hq _ => hno k q hq]
        rcases I.world with h | ⟨h, hS2⟩ | hS
        · have := h i hmi
          rw [hnl'] at this; cases this
        · have hm2 : mask2[i]? = some true := by
            have hl : i < mask2.length := by rw [hpm.len2]; exact hlt'
            rw [List.getElem?_eq_getElem hl]
            cases hb : mask2[i] with
            | true => rfl
            | false =>
              have := h i hmi (by rw [List.getElem?_eq_getElem hl, hb])
              rw [hnl'] at this; cases this
          obtain ⟨es1, h1, _, h3⟩ := WLm_trace mask2 ops e hdd (fun i o a b => hc.pure i o a (hpm.sub i (List.getElem?_eq_some_iff.1 a).1 b)) (hes2 w' hS2)
          obtain ⟨ei, v, g1, g2, g3, g4⟩ := h3 i o hio hm2
          refine ⟨v, fun d hd => by rw [← h1 d (early_mem.2 ⟨i, o, hio, hm2, hd⟩)]; exact g3 d hd, g4 e' w' (hcore mask2 ei es1 v hm2 (fun j hj => hpm.sub j (by have := (List.getElem?_eq_some_iff.1 hj).1; rw [hpm.len2] at this; exact this) hj) (fun j p d hp hm1 hm2' hd => hpm.own i j o p d hio hp hm2 hm1 (by
              have hl : j < mask2.length := by rw [hpm.len2]; exact (List.getElem?_eq_some_iff.1 hp).1
              rw [List.getElem?_eq_getElem hl] at hm2' ⊢
              cases hb : mask2[j] with
              | true => rw [hb] at hm2'; exact absurd rfl hm2'
              | false => rfl) hd) h1 g1 g2 (fun _ _ _ _ _ _ => trivial)) (fun _ => Kp.refl _ _) _ ⟨rfl, rfl⟩⟩
        · obtain ⟨es1, h1, _, h3⟩ := WLm_trace mask ops e hdd (fun i o a b => hc.pure i o a b) (hes w' hS)
          subst h1
          obtain ⟨ei, v, g1, g2, g3, g4⟩ := h3 i o hio hmi
          exact ⟨v, g3, g4 e' w' (hcore mask ei es1 v hmi (fun _ h => h) (fun j p d hp hm1 hm2' hd => absurd hm1 hm2') (fun _ _ => rfl) g1 g2 (fun _ _ _ _ _ _ => trivial)) (fun _ => Kp.refl _ _) _ ⟨rfl, rfl⟩⟩
      obtain ⟨v, g3, hwg⟩ := hwg
      have hstep := WG_of_wg hwg
      have hnext : wpAny P .any ops.toArray Q fuel (listed.setIfInBounds i true) (a.put o.dst v) w' := by
        refine ih _ _ (put e' o.dst v) w' ek rest hcount ⟨by simpa using I.size, hput v, I.world.imp (fun h k hk => by
          rw [getD_set_true hli]; split
          · rfl
          · exact h k hk) (Or.imp (fun h => ⟨fun k hk hk2 => by
          rw [getD_set_true hli]; split
          · rfl
          · exact h.1 k hk hk2, h.2⟩) id), I.run, I.sort, ?_, I.restL, ?_, hold' v, ?_, hclosed'⟩
        · intro j hj hmj
          rw [getD_set_true hli, if_neg (fun h => by subst h; rw [hmi] at hmj; cases hmj)]
          exact I.late j hj hmj
        · intro j p d hp hl hpd
          rw [getD_set_true hli] at hl
          by_cases hij : i = j
          · subst hij
            have : p = o := Option.some.inj (hp.symm.trans hio)
            subst this
            rw [hpeq e' v d hpd, ← g3 d hpd]
            exact (I.ekE d fun k q hq hmq _ hqd => by
              have := hdd k i q p d hq hio hqd hpd
              subst this; rw [hmi] at hmq; cases hmq).symm
          · rw [if_neg hij] at hl
            rw [hpne v d fun hx => hij (hdd i j o p d hio hp hx hpd)]
            exact I.vals j p d hp hl hpd
        · intro t ht
          exact I.ekE t fun j p hp hmj hl => ht j p hp hmj (by
            rw [getD_set_true hli]; split
            · rfl
            · exact hl)
      unfold wpOp
      simp only [hio2]
      rw [want_eq I.rel (by simpa using hd)]
      unfold WG at hstep
      split
      · rename_i hw
        rw [if_pos hw] at hstep
        exact .inl (wp_of_WO I.rel hstep fun v' w'' ⟨h1, h2⟩ => by subst h1; subst h2; exact hnext)
      · rename_i hw
        rw [if_neg hw] at hstep
        obtain ⟨h1, h2⟩ := hstep
        rw [h1]; exact hnext
    · -- the next of the late ones
      have hir : i ∈ rest := (I.late i hlt' hmi).1 hnl'
      obtain ⟨j, r, hr⟩ : ∃ j r, rest = j :: r := by
        cases hr : rest with
        | nil => rw [hr] at hir; cases hir
        | cons j r => exact ⟨j, r, rfl⟩
      have hji : j = i := by
        rw [hr] at hir
        rcases List.mem_cons.1 hir with h | h
        · exact h.symm
        · have hs := I.sort
          rw [hr] at hs
          have hlt2 := (List.pairwise_cons.1 hs).1 i h
          obtain ⟨hj1, hj2⟩ := I.restL j (by rw [hr]; exact List.mem_cons_self)
          have := anc_ready hsz I.closed (hc.ord i j hlt' hmi hj2 hlt2) (fun p hp x hx hb => by
            rw [hio2] at hp; cases hp; exact haf x hx hb)
          have h2 := (I.late j hj1 hj2).2 (by rw [hr]; exact List.mem_cons_self)
          rw [ft (by rw [I.size]; exact hj1), h2] at this; cases this
      subst hji
      have hrun := I.run
      rw [hr] at hrun
      simp only [List.filterMap_cons, selI, hio, Option.map_some] at hrun
      have hWG : WG P ops.toArray o ek w' fun v w'' => ((∀ j : Nat, mask[j]? = some true → listed.getD j true = true) ∨ ((∀ j : Nat, mask[j]? = some true → mask2[j]? = some false → listed.getD j true = true) ∧ S2 w'') ∨ S w'') ∧ WLc P ops.toArray S S2 K (r.filterMap (selI ops pm)) (put ek o.dst v) w'' := by
        obtain ⟨b, hb⟩ : ∃ b, b = pm.getD j 0 := ⟨_, rfl⟩
        rw [← hb] at hrun
        have hanc : ∀ k : Nat, mask[k]? = some true → Anc ops.toArray j k → listed.getD k true = true := fun k hk ha => by
          have := anc_ready hsz I.closed ha (fun p hp x hx hb => by
            rw [hio2] at hp; cases hp; exact haf x hx hb)
          have hkl : k < ops.length := by have := (List.getElem?_eq_some_iff.1 hk).1; have := hc.len; omega
          exact hft k hkl this
        match b, hb, hrun with
        | 1, hb, hrun =>
          rcases hpm.one j o hio hb.symm with hp | ha
          · obtain ⟨v, hv, hre⟩ := wg_val hp hrun
            exact WG_of_wg (hre ek w' (fun _ _ => rfl) (fun _ => Kp.refl _ _) _ ⟨I.world, hv⟩)
          · exact WG_mono (fun v w'' h => ⟨.inl fun k hk => hanc k hk (ha k hk), h⟩) (WG_of_wg hrun)
        | 0, hb, hrun => exact WG_mono (fun v w'' h => ⟨.inr (.inr h.1), h.2⟩) (WG_of_wg hrun)
        | b + 2, hb, hrun => exact WG_mono (fun v w'' h => ⟨.inr (.inl ⟨fun k hk hk2 => hanc k hk (hpm.two j o b hio hb.symm k hk hk2), h.1⟩), h.2⟩) (WG_of_wg hrun)
      have hsel : ∀ cs b, o.op ≠ .select cs b := fun cs b hsel => by
        have := hc.draw
        unfold drawOk at this
        rw [List.all_eq_true] at this
        have := this j (List.mem_range.2 hlt)
        simp only [hio, Bool.and_eq_true] at this
        have := this.1.2
        rw [hsel] at this; simp at this
      have hstep : WG P ops.toArray o e' w' fun v w'' => ((∀ j : Nat, mask[j]? = some true → listed.getD j true = true) ∨ ((∀ j : Nat, mask[j]? = some true → mask2[j]? = some false → listed.getD j true = true) ∧ S2 w'') ∨ S w'') ∧ WLc P ops.toArray S S2 K (r.filterMap (selI ops pm)) (put ek o.dst v) w'' := by
        refine WG_congr hsel (fun t ht => ?_) hWG
        by_cases hex : ∃ (k : Nat) (p : Oper), ops[k]? = some p ∧ p.dst = some t
        · obtain ⟨k, p, hp, hpd⟩ := hex
          have hkl := (List.getElem?_eq_some_iff.1 hp).1
          have hun : mask[k]? = some false → listed.getD k true = false → e' t = ek t := fun hmk hlk => by
            rw [hslot k p t hp hlk hpd, I.ekE t fun k' q hq hmq hlq hqd => by
              have := hdd k' k q p t hq hp hqd hpd
              subst this; rw [hlk] at hlq; cases hlq]
            exact (hesold w0 hS0 t fun k' q hq hmq hqd => by
              have := hdd k' k q p t hq hp hqd hpd
              subst this; rw [hmk] at hmq; cases hmq).symm
          by_cases hij : j = k
          · subst hij; exact hun hmi hnl'
          · rcases hmb k hkl with hmk | hmk
            · exact I.vals k p t hp (hft k hkl (hunl k (hc.late j k o p t hio hp hmi hmk hpd ht))) hpd
            · rcases hok.seen j k o p t hio2 (by simpa using hp) hij hpd ht with he | he
              · exact I.vals k p t hp (hft k hkl (hunl k he)) hpd
              · exact hun hmk (hback k p hp he)
        · have hno : ∀ (k : Nat) (p : Oper), ops[k]? = some p → p.dst ≠ some t := fun k p h1 h2 => hex ⟨k, p, h1, h2⟩
          rw [I.old t fun k p hp _ => hno k p hp, I.ekE t fun k p hp _ _ => hno k p hp, hesold w0 hS0 t fun k p hp _ => hno k p hp]
      have hsr := I.sort
      rw [hr] at hsr
      have hnext : ∀ v w'', ((∀ j : Nat, mask[j]? = some true → listed.getD j true = true) ∨ ((∀ j : Nat, mask[j]? = some true → mask2[j]? = some false → listed.getD j true = true) ∧ S2 w'') ∨ S w'') ∧ WLc P ops.toArray S S2 K (r.filterMap (selI ops pm)) (put ek o.dst v) w'' → wpAny P .any ops.toArray Q fuel (listed.setIfInBounds j true) (a.put o.dst v) w'' := by
        rintro v w'' ⟨hS, hW⟩
        refine ih _ _ (put e' o.dst v) w'' (put ek o.dst v) r hcount ⟨by simpa using I.size, hput v, hS.imp (fun h k hk => by
          rw [getD_set_true hli]; split
          · rfl
          · exact h k hk) (Or.imp (fun h => ⟨fun k hk hk2 => by
          rw [getD_set_true hli]; split
          · rfl
          · exact h.1 k hk hk2, h.2⟩) id), hW, (List.pairwise_cons.1 hsr).2, ?_, fun k hk => I.restL k (by rw [hr]; exact List.mem_cons_of_mem _ hk), ?_, hold' v, ?_, hclosed'⟩
        · intro k hk hmk
          rw [getD_set_true hli]
          by_cases hjk : j = k
          · subst hjk
            simp only [if_true]
            constructor
            · intro h; cases h
            · intro h; have := (List.pairwise_cons.1 hsr).1 j h; omega
          · rw [if_neg hjk, I.late k hk hmk, hr, List.mem_cons]
            constructor
            · rintro (h | h)
              · exact absurd h.symm hjk
              · exact h
            · exact fun h => .inr h
        · intro k p d hp hl hpd
          rw [getD_set_true hli] at hl
          by_cases hjk : j = k
          · subst hjk
            have : p = o := Option.some.inj (hp.symm.trans hio)
            subst this
            rw [hpeq e' v d hpd, hpeq ek v d hpd]
          · rw [if_neg hjk] at hl
            have hne : o.dst ≠ some d := fun hx => hjk (hdd j k o p d hio hp hx hpd)
            rw [hpne v d hne, hpke v d hne]
            exact I.vals k p d hp hl hpd
        · intro t ht
          have hne : o.dst ≠ some t := ht j o hio hmi (by rw [getD_set_true hli]; simp)
          rw [hpke v t hne]
          exact I.ekE t fun k p hp hmk hl => ht k p hp hmk (by
            rw [getD_set_true hli]; split
            · rfl
            · exact hl)
      unfold wpOp
      simp only [hio2]
      rw [want_eq I.rel (by simpa using hd)]
      unfold WG at hstep
      split
      · rename_i hw
        rw [if_pos hw] at hstep
        exact .inl (wp_of_WO I.rel hstep fun v w'' hk => hnext v w'' hk)
      · rename_i hw
        rw [if_neg hw] at hstep
        exact hnext _ _ hstep
theorem W_dC {id : Nat} {ops : List Oper} {Q : Exit → Env → World → Prop} {e : Env} {w : World} (hm : P.follows .mixedOrders = true) (R R2 : World → World → Prop) (hR : Pre R) (mask mask2 : List Bool) (pm : List Nat) (hok : (dcOk ops mask && pmOk ops mask mask2 pm) = true)
    (h : ∃ es, (∀ w', R w w' → ∀ KE : Env → Prop, KE es → WLm P ops.toArray KE mask ops e w') ∧ (∀ w', R2 w w' → ∀ KE : Env → Prop, (∀ x, (∀ t, t ∈ earlyS mask2 ops → x t = es t) → KE x) → WLm P ops.toArray KE mask2 ops e w') ∧ ∀ w', Ext w w' → R w w' → WLc P ops.toArray (R w) (R2 w) (Q .normal) (selP mask pm ops) es w') : W P n (.region id ops.toArray true) Q e w := by
  obtain ⟨es, h1, h12, h2⟩ := h
  intro hd a hr
  have hd' : ops.all (dokO n) = true := by
    have : ops.toArray.toList.all (dokO n) = true := hd
    simpa using this
  rw [Bool.and_eq_true] at hok
  have hc := DcOk.of hok.1
  have hpm := PmOk.of hok.2 hc.len
  have hw0 : R w { w with drawn := w.drawn + 1 } := hR.drew w _
  have hfalse : ∀ i, i < ops.length → (Array.replicate ops.toArray.size false).getD i true = false := fun i hi => by
    have hi' : i < ops.toArray.size := by simpa using hi
    rw [Array.getD_eq_getD_getElem?, Array.getElem?_replicate, if_pos hi']; rfl
  refine wp_region_any hm (draw_anyC (n := n) (e := e) (es := es) (S := R w) (K := Q .normal) (mask := mask) (mask2 := mask2) (S2 := R2 w) (pm := pm) hc hpm hw0 hd' (fun w' hw' => h1 w' hw' _ rfl) (fun w' hw' => h12 w' hw' _ fun _ h => h) ?_ ops.toArray.size _ a e _ es (lateIx mask 0) (by simp) ⟨by simp, hr, .inr (.inr hw0), ?_, lateIx_sorted _ _, ?_, ?_, ?_, fun _ _ => rfl, fun _ _ => rfl, ?_⟩)
  · intro a' e' w' r' h2 h3
    exact ⟨e', r', h2, h3⟩
  · rw [← selP_ix mask pm ops 0 hc.len hpm.len (fun k => by rw [Nat.zero_add]) (fun k => by rw [Nat.zero_add])]
    exact h2 _ (Kp.drew w _) hw0
  · intro i hi hmi
    rw [hfalse i hi]
    exact ⟨fun _ => lateIx_mem.2 ⟨Nat.zero_le _, by simpa using hmi⟩, fun _ => rfl⟩
  · intro i hi
    have h3 := (lateIx_mem.1 hi).2
    rw [Nat.sub_zero] at h3
    exact ⟨by have := (List.getElem?_eq_some_iff.1 h3).1; have := hc.len; omega, h3⟩
  · intro i o d ho hl
    rw [hfalse i (List.getElem?_eq_some_iff.1 ho).1] at hl; cases hl
  · intro i o x ho hl
    rw [hfalse i (by simpa using (Array.getElem?_eq_some_iff.1 ho).1)] at hl; cases hl
end
section
variable {P : Program} {ops : Array Oper} {R R2 : World → Prop} {K : Env → World → Prop} {e : Env} {w : World} {o : Oper} {os : List Oper} {m : List Bool} {b : Nat} {pm : List Nat} {l : List (Nat × Oper)}
theorem WLc_nil : WLc P ops R R2 K [] e w = K e w := rfl
theorem WLc_0 : WLc P ops R R2 K ((0, o) :: l) e w = wg P ops o e w fun v w' => R w' ∧ WLc P ops R R2 K l (put e o.dst v) w' := rfl
theorem WLc_1 : WLc P ops R R2 K ((1, o) :: l) e w = wg P ops o e w fun v w' => WLc P ops R R2 K l (put e o.dst v) w' := rfl
theorem WLc_2 : WLc P ops R R2 K ((2, o) :: l) e w = wg P ops o e w fun v w' => R2 w' ∧ WLc P ops R R2 K l (put e o.dst v) w' := rfl
theorem selP_t : selP (true :: m) (b :: pm) (o :: os) = selP m pm os := rfl
theorem selP_f : selP (false :: m) (b :: pm) (o :: os) = (b, o) :: selP m pm os := rfl
theorem selP_n : selP [] [] [] = [] := rfl
@[congr] theorem WLc_congr {e' : Env} (h : e = e') : WLc P ops R R2 K l e w = WLc P ops R R2 K l e' w := by rw [h]
attribute [go_sem ↓] WLc_nil WLc_0 WLc_1 WLc_2
attribute [irreducible] WLc
end
end Go.E
end
section
namespace Go.Proofs.YtjamnehcmaloeaaGreatDoor
open Go Go.E Go.Sp
def Tabs (w : World) : Prop := ∀ k, k < 32 → w.cell? ⟨0, k, none⟩ = some (.int .u8 ((tab32.getD k 99 : Nat) : Int))
theorem Tabs.ext {w w' : World} (h : Tabs w) (k : Ext w w') : Tabs w' := fun i hi => k.cell (D := fun _ => True) trivial (h i hi)
theorem arr245 : arrSz Tryz.prog 245 = some (32, 1) := by kernel_rfl
theorem tz32_ok {x : Nat} {w : World} (hT : Tabs w) (hx0 : 0 < x) (hx : x < 4294967296) :
    Calls Tryz.prog 192 #[.int .u32 x] w fun e w' => e = .returned (.int .i64 (tz x : Nat)) ∧ w = w' := by
  refine calls_W Tryz.func192 rfl Tryz.ntmps192 (by kernel_rfl) ?_
  refine W_seq_reg fun K hK => ?_
  simp -implicitDefEqProofs (disch := omega) only [go_sem, Nat.reduceEqDiff, Nat.reduceAdd, ↓reduceIte]
  refine hK _ _ ?_; clear hK K
  refine W_seq_k fun K0 hK0 => ?_
  have h0 : ((x : Int) == 0) = false := by rw [beq0]; exact decide_eq_false (by omega)
  refine W_seq_reg fun K hK => ?_
  simp -implicitDefEqProofs (disch := omega) only [go_sem, Nat.reduceEqDiff, Nat.reduceAdd, ↓reduceIte]
  refine hK _ _ ?_; clear hK K
  refine W_cond rfl (fun hc => by rw [h0] at hc; cases hc) (fun hc => W_skip (hK0 _ _ ?_))
  clear hK0
  have ht := tz_lt32 (by omega) hx
  have hp : 2 ^ tz x < 4294967296 := Nat.pow_lt_pow_right (by omega) ht
  have e1 : IntKind.u32.wrap (0 - (x : Int)) = ((4294967296 - x : Nat) : Int) := by rw [u32_wrap]; omega
  have e2 : bitsV .and .u32 (x : Int) ((4294967296 - x : Nat) : Int) = ((2 ^ tz x : Nat) : Int) := by
    rw [and32N hx (by omega)]
    exact congrArg Nat.cast (iso (n := 32) hx0 hx)
  have e3 : IntKind.u32.wrap (((2 ^ tz x : Nat) : Int) * 125613361) = ((2 ^ tz x * 125613361 % 4294967296 : Nat) : Int) := by rw [u32_wrap]; omega
  have hi : 2 ^ tz x * 125613361 % 4294967296 / 134217728 < 32 := by omega
  have e4 : (0 : Int) ≤ ((2 ^ tz x * 125613361 % 4294967296 / 134217728 : Nat) : Int) ∧ ((2 ^ tz x * 125613361 % 4294967296 / 134217728 : Nat) : Int) < (32 : Nat) := by omega
  have hg := hT _ hi
  rw [tab_get ht] at hg
  have e5 : IntKind.i64.wrap ((tz x : Nat) : Int) = ((tz x : Nat) : Int) := i64_in (by omega) (by omega)
  refine W_seq_reg fun K hK => ?_
  simp -implicitDefEqProofs (disch := omega) only [go_sem, Nat.reduceEqDiff, Nat.reduceAdd, ↓reduceIte, e1, e2, e3, e4, arr245, hg, e5, ev]
  refine hK _ _ ?_; clear hK K
  refine W_ret ?_
  try simp only [thenE_r, inB_r]
  refine ret1 rfl ⟨rfl, rfl⟩
theorem rTZ_ok {D : Nat → Prop} {A : Option Addr} {n c : Nat} {l : List Nat} {s : Bool} {w : World} (hT : Tabs w) (h : U32 w D A n c l) (hb : n ≤ 900000000) :
    Calls Tryz.prog 126 #[.agg #[.bool s, .slice A n c]] w fun e w' => e = .returned (.int .i64 (tz (val l) : Nat)) ∧ Ext w w' := by
  refine calls_W Tryz.func126 rfl Tryz.ntmps126 (by kernel_rfl) ?_
  refine W_seq_reg fun K hK => ?_
  simp -implicitDefEqProofs (disch := omega) only [go_sem, Nat.reduceEqDiff, Nat.reduceAdd, ↓reduceIte]
  refine boxW_of ?_
  intro g1 w1 hg1 hx1 hb1 hs1
  refine hK _ _ ?_; clear hK
  have hc1 : w1.cell? ⟨g1, 1, none⟩ = some (.slice A n c) := hb1.cell 1
  refine W_seq_reg fun K hK => ?_
  simp -implicitDefEqProofs (disch := omega) only [go_sem, Nat.reduceEqDiff, Nat.reduceAdd, ↓reduceIte, hc1]
  refine callW_of cal131 (rtrim_ok (h.ext hx1) (by omega)) ?_
  rintro _ w2 ⟨A2, n2, c2, rfl, hx2, hO⟩; refine ⟨_, rfl, ?_⟩
  refine hK _ _ ?_; clear hK
  have hx := hx1.trans hx2
  have hU : U32 w2 (fun _ => True) A2 n2 c2 (lim (val l)) := hO.u32 fun _ _ => trivial
  have hlen := hU.len
  have hn2 : n2 ≤ 900000000 := by have h2 := len_val h; omega
  replace hT := hT.ext hx
  refine W_seq_k fun K0 hK0 => ?_
  refine W_seq_reg fun K hK => ?_
  simp -implicitDefEqProofs (disch := omega) only [go_sem, Nat.reduceEqDiff, Nat.reduceAdd, ↓reduceIte]
  refine hK _ _ ?_; clear hK K
  refine W_block ?_
  refine W_loop (fun e2 w2' => w2' = w2 ∧ ∃ k : Nat, e2 4 = .int .i64 k ∧ k ≤ n2 ∧ val ((lim (val l)).take k) = 0) (fun e2 _ => n2 - (RowKit.intOf (e2 4)).toNat) ⟨rfl, 0, rfl, Nat.zero_le _, by simp [val]⟩ ?_
  rintro e1 w1 ⟨rfl, k, h4, hkn, hv⟩ hkk
  have h3 : e1 3 = .slice A2 n2 c2 := (hkk 3 (by kernel_rfl)).trans (by (try simp only [upd_ap, Nat.reduceEqDiff, ↓reduceIte]); first | done | assumption | exact rfl)
  clear hkk
  refine W_seq_k fun K1 hK1 => ?_
  by_cases hlt : k < n2
  · have hlt' : (k : Int) < n2 := by omega
    refine W_seq_reg fun K hK => ?_
    simp -implicitDefEqProofs (disch := omega) only [go_sem, Nat.reduceEqDiff, Nat.reduceAdd, ↓reduceIte, h4, h3, hlt']
    refine hK _ _ ?_; clear hK K
    refine W_cond rfl (fun hc1 => W_skip (hK1 _ _ ?_)) (fun hc1 => by cases hc1)
    clear hK1
    refine W_seq_blk fun K hK => ?_
    have e2 : (0 : Int) ≤ k ∧ (k : Int) < n2 := by omega
    obtain ⟨ad, rfl, hcc⟩ := hU.cell hlt
    refine W_seq_reg fun K hK => ?_
    simp -implicitDefEqProofs (disch := omega) only [go_sem, Nat.reduceEqDiff, Nat.reduceAdd, ↓reduceIte, h4, h3, e2, hcc]
    refine hK _ _ ?_; clear hK K
    by_cases hz : dg (lim (val l)) k = 0
    · have hz' : (((dg (lim (val l)) k : Nat) : Int) != 0) = false := by rw [bne0]; simpa using hz
      refine W_cond rfl (fun hc => by rw [hz'] at hc; cases hc) (fun hc => W_skip (hK _ _ ?_))
      clear hK
      refine W_regK fun K9 hK9 => ?_
      simp -implicitDefEqProofs (disch := omega) only [go_sem, Nat.reduceEqDiff, Nat.reduceAdd, ↓reduceIte, h4, i64_in]
      refine hK9 _ _ ?_; clear hK9 K9
      refine ⟨⟨rfl, k + 1, rfl, by omega, val_zero_iff.2 ⟨hv, hz⟩⟩, ?_⟩
      simp only [upd_ap, ↓reduceIte, RowKit.intOf, h4]; omega
    · have hz' : (((dg (lim (val l)) k : Nat) : Int) != 0) = true := by rw [bne0]; simpa using hz
      refine W_cond rfl (fun hc => ?_) (fun hc => by rw [hz'] at hc; cases hc)
      have htv := tz_val (lim_all _) (by omega) hv hz
      rw [val_lim] at htv
      have hlt32 := tz_lt32 hz (hU.dg_lt k)
      have hs1 : IntKind.i64.wrap (32 * (k : Int)) = ((32 * k : Nat) : Int) := by rw [i64_in (by omega) (by omega)]; omega
      have hs2 : IntKind.i64.wrap (((32 * k : Nat) : Int) + ((tz (dg (lim (val l)) k) : Nat) : Int)) = ((tz (val l) : Nat) : Int) := by
        unfold dg at *
        rw [i64_in (by omega) (by omega)]; omega
      refine W_seq_reg fun K hK => ?_
      simp -implicitDefEqProofs (disch := omega) only [go_sem, Nat.reduceEqDiff, Nat.reduceAdd, ↓reduceIte, h4, h3, e2, hcc, hs1]
      refine callW_of cal192 (tz32_ok hT (by omega) (hU.dg_lt _)) ?_
      rintro _ w3 ⟨rfl, rfl⟩; refine ⟨_, rfl, ?_⟩
      simp -implicitDefEqProofs (disch := omega) only [go_sem, Nat.reduceEqDiff, Nat.reduceAdd, ↓reduceIte, hs2]
      refine hK _ _ ?_; clear hK
      refine W_ret ?_
      try simp only [thenE_r, inB_r]
      refine ret1 rfl ⟨rfl, hx⟩
  · have hlt' : ¬ (k : Int) < n2 := by omega
    refine W_seq_reg fun K hK => ?_
    simp -implicitDefEqProofs (disch := omega) only [go_sem, Nat.reduceEqDiff, Nat.reduceAdd, ↓reduceIte, h4, h3, hlt']
    refine hK _ _ ?_; clear hK K
    refine W_cond rfl (fun hc1 => by cases hc1) (fun hc1 => W_exit ?_)
    obtain rfl : k = n2 := by omega
    refine hK0 _ _ ?_; clear hK0 hK1
    refine W_seq_reg fun K hK => ?_
    simp -implicitDefEqProofs (disch := omega) only [go_sem, Nat.reduceEqDiff, Nat.reduceAdd, ↓reduceIte]
    refine hK _ _ ?_; clear hK K
    have h0 : val l = 0 := by
      rw [val_take_ge _ _ (by omega), val_lim] at hv; exact hv
    refine W_ret ?_
    try simp only [thenE_r, inB_r]
    refine ret1 rfl ⟨by rw [h0]; rfl, hx⟩
end Go.Proofs.YtjamnehcmaloeaaGreatDoor
end
section
namespace Go.Proofs.YtjamnehcmaloeaaGreatDoor
open Go Go.E Go.Sp
theorem rTZ_v {D : Nat → Prop} {v : Value} {w : World} {a : Int} (hT : Tabs w) (h : In (fB a) D v w) (ha : bl a.natAbs ≤ 20000000) : Calls Tryz.prog 126 #[v] w fun e w' => e = .returned (.int .i64 (tz a.natAbs : Nat)) ∧ Ext w w' := by
  obtain ⟨s, A, n, c, rfl, hB⟩ := h
  have := rTZ_ok (s := s) hT hB.2 (by have := hB.n_le (k := 1000000) (by omega); omega)
  rwa [val_lim] at this
theorem rInt_v {D : Nat → Prop} {v : Value} {w : World} {a : Int} (h : In (fB a) D v w) (h0 : 0 ≤ a) (ha : a ≤ 9223372036854775807) (hf : Fr D w) : Calls Tryz.prog 142 #[v] w fun e w' => e = .returned (.tuple #[.int .i64 a, .bool true]) ∧ Ext w w' := by
  obtain ⟨s, A, n, c, rfl, hB⟩ := h
  refine calls_W Tryz.func142 rfl Tryz.ntmps142 (by kernel_rfl) ?_
  refine W_seq_reg fun K hK => ?_
  simp -implicitDefEqProofs (disch := omega) only [go_sem, Nat.reduceEqDiff, Nat.reduceAdd, ↓reduceIte]
  refine boxW_of ?_
  intro g1 w1 hg1 hx1 hb1 hs1
  refine hK _ _ ?_; clear hK K
  have hx : Ext w w1 := hx1
  replace hB := (hB.sub (Dx.keep (a := w.heap.size) (b := w1.heap.size) rfl)).ext hx
  have hD : Fr (Dx D w.heap.size w1.heap.size) w1 := Dx.fr (hf.kp hx) (Nat.le_refl _)
  have c1_0 : ∀ w', Ext w1 w' → w'.cell? ⟨g1, 0, none⟩ = some _ := fun w' hw => (Blk.ext hb1 hw).c0
  have c1_1 : ∀ w', Ext w1 w' → w'.cell? ⟨g1, 1, none⟩ = some _ := fun w' hw => (Blk.ext hb1 hw).c1
  have l1 : ∀ w', Ext w1 w' → ldV w' (some (some 2)) (.pointer (some ⟨g1, 0, none⟩)) = some (.agg _) := fun w' hw => (Blk.ext hb1 hw).ld rfl
  clear hx1
  have hbl : bl a.natAbs ≤ 63 := bl_le_of (Nat.lt_of_le_of_lt (show a.natAbs ≤ 9223372036854775807 by omega) (by decide))
  refine W_seq_reg fun K hK => ?_
  simp -implicitDefEqProofs (disch := omega) only [go_sem, Nat.reduceEqDiff, Nat.reduceAdd, ↓reduceIte, (l1 _ (Kp.refl _ _))]
  refine callW_of cal125 (rNorm_v hB.in (by omega) hD) ?_
  rintro _ w2 ⟨v2, rfl, hx2, h2⟩; refine ⟨_, rfl, ?_⟩
  obtain ⟨s2, A2, n2, c2, rfl, hB2⟩ := h2
  refine storeW_of (hb1.ext hx2) siz35 rfl rfl fun w3 hk3 hb3 => ?_
  refine hK _ _ ?_; clear hK
  have hx3 : Ext w w3 := (hx.trans hx2).under hk3 (fun k hk => by omega)
  replace hB2 := hB2.own hk3 (by omega) (by omega)
  have c3_0 : ∀ w', Ext w3 w' → w'.cell? ⟨g1, 0, none⟩ = some _ := fun w' hw => (Blk.ext hb3 hw).c0
  have c3_1 : ∀ w', Ext w3 w' → w'.cell? ⟨g1, 1, none⟩ = some _ := fun w' hw => (Blk.ext hb3 hw).c1
  have l3 : ∀ w', Ext w3 w' → ldV w' (some (some 2)) (.pointer (some ⟨g1, 0, none⟩)) = some (.agg _) := fun w' hw => (Blk.ext hb3 hw).ld rfl
  have hs2 : s2 = false := by rw [hB2.1]; exact decide_eq_false (by omega)
  subst hs2
  have hn2 : n2 ≤ 2 := hB2.n_le (by omega)
  have hn2' : ¬ (n2 : Int) > 2 := by omega
  have hlen := hB2.len
  refine W_seq_k fun K0 hK0 => ?_
  refine W_seq_reg fun K hK => ?_
  simp -implicitDefEqProofs (disch := omega) only [go_sem, Nat.reduceEqDiff, Nat.reduceAdd, ↓reduceIte, (c3_1 _ (Kp.refl _ _)), hn2']
  refine hK _ _ ?_; clear hK K
  refine W_cond rfl (fun hc => by cases hc) (fun hc => W_skip (hK0 _ _ ?_))
  clear hK0
  refine W_seq_reg fun K hK => ?_
  simp -implicitDefEqProofs (disch := omega) only [go_sem, Nat.reduceEqDiff, Nat.reduceAdd, ↓reduceIte]
  refine hK _ _ ?_; clear hK K
  refine W_seq_k fun K0 hK0 => ?_
  refine W_seq_reg fun K hK => ?_
  simp -implicitDefEqProofs (disch := omega) only [go_sem, Nat.reduceEqDiff, Nat.reduceAdd, ↓reduceIte]
  refine hK _ _ ?_; clear hK K
  refine W_block ?_
  refine W_loop (fun e2 w2' => w2' = w3 ∧ ∃ i : Nat, e2 5 = .int .i64 i ∧ e2 4 = .int .u64 (val ((lim a.natAbs).take i) : Nat) ∧ i ≤ n2) (fun e2 _ => n2 - (RowKit.intOf (e2 5)).toNat) ⟨rfl, 0, rfl, rfl, Nat.zero_le _⟩ ?_
  rintro e1 w1 ⟨rfl, i, k5, k4, hi⟩ hkk
  have k1 : e1 1 = .pointer (some ⟨g1, 0, none⟩) := (hkk 1 (by kernel_rfl)).trans (by (try simp only [upd_ap, Nat.reduceEqDiff, ↓reduceIte]); first | done | assumption | exact rfl)
  clear hkk
  refine W_seq_k fun K1 hK1 => ?_
  by_cases hlt : i < n2
  · have hlt' : (i : Int) < n2 := by omega
    refine W_seq_reg fun K hK => ?_
    simp -implicitDefEqProofs (disch := omega) only [go_sem, Nat.reduceEqDiff, Nat.reduceAdd, ↓reduceIte, k5, k1, (c3_1 _ (Kp.refl _ _)), hlt']
    refine hK _ _ ?_; clear hK K
    refine W_cond rfl (fun hc1 => W_skip (hK1 _ _ ?_)) (fun hc1 => by cases hc1)
    clear hK1
    refine W_seq_blk fun K hK => ?_
    have e2 : (0 : Int) ≤ i ∧ (i : Int) < n2 := by omega
    obtain ⟨ad, rfl, hcc⟩ := hB2.2.cell hlt
    have hd := hB2.2.dg_lt i
    have hs : IntKind.i64.wrap (32 * (i : Int)) = ((32 * i : Nat) : Int) := by rw [i64_in (by omega) (by omega)]; omega
    have hp : 2 ^ (32 * i) ≤ 4294967296 := Nat.pow_le_pow_right (n := 2) (by omega) (show 32 * i ≤ 32 by omega)
    have hm : dg (lim a.natAbs) i * 2 ^ (32 * i) ≤ 4294967295 * 4294967296 := Nat.mul_le_mul (by omega) hp
    have e3 : dg (lim a.natAbs) i * 2 ^ (32 * i) % 18446744073709551616 = dg (lim a.natAbs) i * 2 ^ (32 * i) := Nat.mod_eq_of_lt (by omega)
    have hvt := val_lt ((lim_all a.natAbs).take i)
    rw [List.length_take, Nat.min_eq_left (by omega), B_eq, ← Nat.pow_mul] at hvt
    have e4 : val ((lim a.natAbs).take i) ||| dg (lim a.natAbs) i * 2 ^ (32 * i) = val ((lim a.natAbs).take (i + 1)) := by
      rw [or_add hvt, vts, B_eq, ← Nat.pow_mul, Nat.mul_comm (2 ^ (32 * i))]; rfl
    have hvl : val ((lim a.natAbs).take i) < 18446744073709551616 := by omega
    refine W_regK fun K9 hK9 => ?_
    simp -implicitDefEqProofs (disch := omega) only [go_sem, Nat.reduceEqDiff, Nat.reduceAdd, ↓reduceIte, k5, k4, k1, (c3_1 _ (Kp.refl _ _)), e2, hcc, hs, e3, e4]
    refine hK9 _ _ ?_; clear hK9 K9
    refine hK _ _ ?_; clear hK
    refine W_regK fun K9 hK9 => ?_
    simp -implicitDefEqProofs (disch := omega) only [go_sem, Nat.reduceEqDiff, Nat.reduceAdd, ↓reduceIte, k5, i64_in]
    refine hK9 _ _ ?_; clear hK9 K9
    exact ⟨⟨rfl, i + 1, rfl, rfl, by omega⟩, by simp only [upd_ap, ↓reduceIte, RowKit.intOf, k5]; omega⟩
  · have hlt' : ¬ (i : Int) < n2 := by omega
    refine W_seq_reg fun K hK => ?_
    simp -implicitDefEqProofs (disch := omega) only [go_sem, Nat.reduceEqDiff, Nat.reduceAdd, ↓reduceIte, k5, k1, (c3_1 _ (Kp.refl _ _)), hlt']
    refine hK _ _ ?_; clear hK K
    refine W_cond rfl (fun hc1 => by cases hc1) (fun hc1 => W_exit (hK0 _ _ ?_))
    clear hK0 hK1
    rw [val_take_ge _ _ (by omega), val_lim] at k4
    refine W_seq_k fun K0 hK0 => ?_
    refine W_seq_reg fun K hK => ?_
    simp -implicitDefEqProofs (disch := omega) only [go_sem, Nat.reduceEqDiff, Nat.reduceAdd, ↓reduceIte, k1, (c3_0 _ (Kp.refl _ _))]
    refine hK _ _ ?_; clear hK K
    refine W_cond rfl (fun hc => by cases hc) (fun hc => W_skip (hK0 _ _ ?_))
    clear hK0
    have e1 : ¬ (((a.natAbs : Nat) : Int) > 9223372036854775807) := by omega
    refine W_seq_k fun K0 hK0 => ?_
    refine W_seq_reg fun K hK => ?_
    simp -implicitDefEqProofs (disch := omega) only [go_sem, Nat.reduceEqDiff, Nat.reduceAdd, ↓reduceIte, k4, e1]
    refine hK _ _ ?_; clear hK K
    refine W_cond rfl (fun hc => by cases hc) (fun hc => W_skip (hK0 _ _ ?_))
    clear hK0
    have e2 : IntKind.i64.wrap ((a.natAbs : Nat) : Int) = a := by rw [i64_in (by omega) (by omega)]; omega
    refine W_seq_reg fun K hK => ?_
    simp -implicitDefEqProofs (disch := omega) only [go_sem, Nat.reduceEqDiff, Nat.reduceAdd, ↓reduceIte, k4, e2]
    refine hK _ _ ?_; clear hK K
    refine W_ret ?_
    try simp only [thenE_r, inB_r]
    refine ret2 rfl ⟨rfl, hx3⟩
theorem rdown_v {D : Nat → Prop} {v : Value} {w : World} {a : Int} {n : Nat} (h : In (fB a) D v w) (ha : bl a.natAbs ≤ 20000000) (hn : n ≤ 1048576) (hf : Fr D w) : Calls Tryz.prog 127 #[v, .int .i64 n] w (Rt (fB (shI a (-(n : Int)))) D w) := by
  obtain ⟨s, A, m, c, rfl, hB⟩ := h
  refine calls_W Tryz.func127 rfl Tryz.ntmps127 (by kernel_rfl) ?_
  refine W_seq_reg fun K hK => ?_
  simp -implicitDefEqProofs (disch := omega) only [go_sem, Nat.reduceEqDiff, Nat.reduceAdd, ↓reduceIte]
  refine boxW_of ?_
  intro g2 w2 hg2 hx2 hb2 hs2
  refine alW_of ?_
  intro g4 w4 hg4 hx4 hb4 hs4
  refine hK _ _ ?_; clear hK K
  have hx : Ext w w4 := (hx2.trans hx4)
  replace hb2 := (hb2.ext hx4)
  replace hB := (hB.sub (Dx.keep (a := w.heap.size) (b := w4.heap.size) rfl)).ext hx
  have hD : Fr (Dx D w.heap.size w4.heap.size) w4 := Dx.fr (hf.kp hx) (Nat.le_refl _)
  have c2_0 : ∀ w', Ext w4 w' → w'.cell? ⟨g2, 0, none⟩ = some _ := fun w' hw => (Blk.ext hb2 hw).c0
  have c2_1 : ∀ w', Ext w4 w' → w'.cell? ⟨g2, 1, none⟩ = some _ := fun w' hw => (Blk.ext hb2 hw).c1
  have l2 : ∀ w', Ext w4 w' → ldV w' (some (some 2)) (.pointer (some ⟨g2, 0, none⟩)) = some (.agg _) := fun w' hw => (Blk.ext hb2 hw).ld rfl
  clear hx2 hx4
  refine W_seq_blk fun K0 hK0 => ?_
  refine W_loop (fun e2 w2' => w2' = w4 ∧ e2 1 = .int .i64 n) (fun e2 _ => 0) ⟨rfl, (by (try simp only [upd_ap, Nat.reduceEqDiff, ↓reduceIte]); first | done | assumption | exact rfl)⟩ ?_
  rintro e1 w1 ⟨rfl, k1⟩ hkk
  have k2 : e1 2 = .pointer (some ⟨g2, 0, none⟩) := (hkk 2 (by kernel_rfl)).trans (by (try simp only [upd_ap, Nat.reduceEqDiff, ↓reduceIte]); first | done | assumption | exact rfl)
  have k4 : e1 4 = .pointer (some ⟨g4, 0, none⟩) := (hkk 4 (by kernel_rfl)).trans (by (try simp only [upd_ap, Nat.reduceEqDiff, ↓reduceIte]); first | done | assumption | exact rfl)
  clear hkk
  have hn' : ¬ (n : Int) > 1048576 := by omega
  refine W_seq_k fun K1 hK1 => ?_
  refine W_seq_reg fun K hK => ?_
  simp -implicitDefEqProofs (disch := omega) only [go_sem, Nat.reduceEqDiff, Nat.reduceAdd, ↓reduceIte, k1, hn']
  refine hK _ _ ?_; clear hK K
  refine W_cond rfl (fun hc => by cases hc) (fun hc => W_exit (hK0 _ _ ?_))
  clear hK0 hK1
  have e1 : IntKind.i64.wrap (0 - (n : Int)) = -(n : Int) := by rw [i64_in (by omega) (by omega)]; omega
  refine W_seq_reg fun K hK => ?_
  simp -implicitDefEqProofs (disch := omega) only [go_sem, Nat.reduceEqDiff, Nat.reduceAdd, ↓reduceIte, k1, k2, k4, (l2 _ (Kp.refl _ _)), e1]
  refine callW_of cal65 (rShift_v hB.in ha (by omega) (by omega) hD) ?_
  rintro _ w5 ⟨v5, rfl, hx5, h5⟩; refine ⟨_, rfl, ?_⟩
  refine storeS (hb4.ext hx5) siz35 rfl (fB_s h5) fun w90 hk90 hb90 => ?_
  refine hK _ _ ?_; clear hK
  refine W_ret ?_
  try simp only [thenE_r, inB_r]
  exact retS rfl (by first | exact rfl | assumption | exact (by (try simp only [upd_ap, Nat.reduceEqDiff, ↓reduceIte]); first | done | assumption | exact rfl)) agg35 hb90 (fB_s h5) (Rt.own (hx.trans hx5) h5 hk90 (by omega) (by omega) (by omega))
end Go.Proofs.YtjamnehcmaloeaaGreatDoor
end
section
namespace Go.Proofs.YtjamnehcmaloeaaGreatDoor
open Go Go.E Go.Sp
theorem rMake_ok {D : Nat → Prop} {A : Option Addr} {n c : Nat} {l : List Nat} {s : Bool} {e V : Int} {w : World} (hT : Tabs w) (h : In (fU l) D (.slice A n c) w) (hb : bl (val l) ≤ 1000000) (hn : n ≤ 900000000) (he1 : -1000000 ≤ e) (he2 : e ≤ 1000000) (hv : mkV (sgn s (val l)) e = some V) (hf : Fr D w) :
    Calls Tryz.prog 58 #[.agg #[.bool s, .slice A n c], .int .i64 e] w (Rt (fV V) D w) := by
  refine calls_W Tryz.func58 rfl Tryz.ntmps58 (by kernel_rfl) ?_
  refine W_seq_reg fun K hK => ?_
  simp -implicitDefEqProofs (disch := omega) only [go_sem, Nat.reduceEqDiff, Nat.reduceAdd, ↓reduceIte]
  refine boxW_of ?_
  intro g2 w2 hg2 hx2 hb2 hs2
  refine alW_of ?_
  intro g4 w4 hg4 hx4 hb4 hs4
  refine hK _ _ ?_; clear hK K
  have hx : Ext w w4 := (hx2.trans hx4)
  replace hb2 := (hb2.ext hx4)
  replace h := (h.nL (L := [g2, g4]) (by intro g hg; simp at hg; omega)).ext hx
  have hD : Fr (Dl D [g2, g4]) w4 := hf.nL hx (by intro g hg; simp at hg; omega)
  clear hx2 hx4
  obtain ⟨m, hm⟩ : ∃ m, m = sgn s (val l) := ⟨_, rfl⟩
  rw [← hm] at hv
  have hmb : bl m.natAbs ≤ 1000000 := by rw [hm, sgn_nat]; exact hb
  refine W_seq_reg fun K hK => ?_
  simp -implicitDefEqProofs (disch := omega) only [go_sem, Nat.reduceEqDiff, Nat.reduceAdd, ↓reduceIte, hb2.l2]
  refine callW_of cal125 (rt_of_big (rNorm_ok (s := s) h.u32 (by omega) hD)) ?_
  rintro _ w5 ⟨v5, rfl, hx5, h5⟩; refine ⟨_, rfl, ?_⟩
  replace h := h.ext hx5
  replace hb2 := hb2.ext hx5
  replace hb4 := hb4.ext hx5
  replace hD := hD.kp hx5
  replace hx := hx.trans hx5
  clear hx5
  rw [← hm] at h5
  obtain ⟨s5, A5, n5, c5, rfl, _⟩ := id h5
  refine alW_of ?_
  intro g6 w6a hg6 hx6a hb6a hs6
  have hgl6 := hx.size
  have hn6hb2 := hb2.lt
  have hn6hb4 := hb4.lt
  refine storeW_of hb6a siz35 rfl rfl fun w6 hk6 hb6 => ?_
  have hy6 : Ext w5 w6 := hx6a.under hk6 (fun k hk => by omega)
  replace h := ((h.nw (g := g6) (by omega)).ext hx6a).ow hk6 (by simp)
  replace h5 := ((h5.nw (g := g6) (by omega)).ext hx6a).ow hk6 (by simp)
  replace hb2 := hb2.ext hy6
  replace hb4 := hb4.ext hy6
  replace hD := (hD.nw (g := g6) hx6a (by omega)).ow hk6
  replace hx := hx.trans hy6
  have hq6 := hk6.size
  clear hx6a hk6 hb6a hy6
  refine hK _ _ ?_; clear hK
  have hlen := h5.big.len
  have hp := @lim_length_pos m.natAbs
  refine W_seq_k fun K0 hK0 => ?_
  refine W_seq_reg fun K hK => ?_
  simp -implicitDefEqProofs (disch := omega) only [go_sem, Nat.reduceEqDiff, Nat.reduceAdd, ↓reduceIte, hb6.c1]
  refine hK _ _ ?_; clear hK K
  by_cases hz : m = 0
  · have hz' : ((n5 : Int) == 0) = true := by rw [beq0]; exact decide_eq_true (by omega)
    refine W_cond rfl (fun hc => ?_) (fun hc => by rw [hz'] at hc; cases hc)
    have hV : V = 0 := by rw [hz, mkV_zero] at hv; exact (Option.some.inj hv).symm
    have h7 : In (fV V) (Dl D [g6, g2, g4]) (.agg #[.bool false, .bool false, .slice none 0 0, .int .i64 0]) w6 := by
      subst hV; exact ⟨false, none, 0, 0, rfl, ⟨rfl, U32.nil⟩, by simp [dyOk, bl_zero]⟩
    refine W_seq_reg fun K hK => ?_
    simp -implicitDefEqProofs (disch := omega) only [go_sem, Nat.reduceEqDiff, Nat.reduceAdd, ↓reduceIte]
    refine storeS hb4 siz37 rfl (fV_s h7) fun w90 hk90 hb90 => ?_
    refine hK _ _ ?_; clear hK
    refine W_ret ?_
    try simp only [thenE_r, inB_r]
    exact retS rfl (by first | exact rfl | assumption | exact (by (try simp only [upd_ap, Nat.reduceEqDiff, ↓reduceIte]); first | done | assumption | exact rfl)) agg37 hb90 (fV_s h7) (Rt.fin hx h7 hk90 (by simp) (by omega))
  · have hz' : ((n5 : Int) == 0) = false := by rw [beq0]; exact decide_eq_false (by omega)
    refine W_cond rfl (fun hc => by rw [hz'] at hc; cases hc) (fun hc => W_skip (hK0 _ _ ?_))
    clear hK0
    obtain ⟨hv1, hv2, hv3⟩ := mkV_some hz hv
    obtain ⟨hv4, hv5, _, hv6⟩ := mkV_od hv
    have htl := tz_le (n := m.natAbs) (by omega)
    have hbo := bl_od hz
    refine W_seq_k fun K0 hK0 => ?_
    have e1 : ¬ (e > 65536) := by omega
    refine W_seq_reg fun K hK => ?_
    simp -implicitDefEqProofs (disch := omega) only [go_sem, Nat.reduceEqDiff, Nat.reduceAdd, ↓reduceIte, e1]
    refine hK _ _ ?_; clear hK K
    refine W_cond rfl (fun hc => by cases hc) (fun hc => W_skip (hK0 _ _ ?_))
    clear hK0
    refine W_seq_reg fun K hK => ?_
    simp -implicitDefEqProofs (disch := omega) only [go_sem, Nat.reduceEqDiff, Nat.reduceAdd, ↓reduceIte, hb6.l2]
    refine callW_of cal126 (rTZ_v (hT.ext hx) h5 (by omega)) ?_
    rintro _ w7 ⟨rfl, hx7⟩; refine ⟨_, rfl, ?_⟩
    replace h := h.ext hx7
    replace h5 := h5.ext hx7
    replace hb2 := hb2.ext hx7
    replace hb4 := hb4.ext hx7
    replace hb6 := hb6.ext hx7
    replace hD := hD.kp hx7
    replace hx := hx.trans hx7
    clear hx7
    refine hK _ _ ?_; clear hK
    have e2 : IntKind.i64.wrap (e + ((tz m.natAbs : Nat) : Int)) = e + (tz m.natAbs : Nat) := i64_in (by omega) (by omega)
    refine W_seq_reg fun K hK => ?_
    simp -implicitDefEqProofs (disch := omega) only [go_sem, Nat.reduceEqDiff, Nat.reduceAdd, ↓reduceIte, e2]
    refine hK _ _ ?_; clear hK K
    refine W_seq_reg fun K hK => ?_
    simp -implicitDefEqProofs (disch := omega) only [go_sem, Nat.reduceEqDiff, Nat.reduceAdd, ↓reduceIte, hb6.l2]
    refine callW_of cal66 (rAbs_v h5 (by omega) hD) ?_
    rintro _ w8 ⟨v8, rfl, hx8, h8⟩; refine ⟨_, rfl, ?_⟩
    replace h := h.ext hx8
    replace h5 := h5.ext hx8
    replace hb2 := hb2.ext hx8
    replace hb4 := hb4.ext hx8
    replace hb6 := hb6.ext hx8
    replace hD := hD.kp hx8
    replace hx := hx.trans hx8
    clear hx8
    obtain ⟨s8, A8, n8, c8, rfl, _⟩ := id h8
    refine storeW_of hb6 siz35 rfl rfl fun w9 hk9 hz9 => ?_
    replace h := h.ow hk9 (by simp)
    replace h5 := h5.ow hk9 (by simp)
    replace h8 := h8.ow hk9 (by simp)
    replace hb2 := hb2.kpne hk9 (by omega)
    replace hb4 := hb4.kpne hk9 (by omega)
    replace hD := hD.ow hk9
    replace hx := hx.under hk9 (fun k hk => by omega)
    clear hb6 hk9
    have hb6 := hz9; clear hz9
    refine hK _ _ ?_; clear hK
    refine W_seq_reg fun K hK => ?_
    simp -implicitDefEqProofs (disch := omega) only [go_sem, Nat.reduceEqDiff, Nat.reduceAdd, ↓reduceIte, hb6.l2]
    refine callW_of cal127 (rdown_v h8 (by first | omega | (simp only [Int.natAbs_natCast, Int.natAbs_neg]; omega)) (by omega) hD) ?_
    rintro _ w10 ⟨v10, rfl, hx10, h10⟩; refine ⟨_, rfl, ?_⟩
    replace h := h.ext hx10
    replace h5 := h5.ext hx10
    replace h8 := h8.ext hx10
    replace hb2 := hb2.ext hx10
    replace hb4 := hb4.ext hx10
    replace hb6 := hb6.ext hx10
    replace hD := hD.kp hx10
    replace hx := hx.trans hx10
    clear hx10
    rw [shI_od] at h10
    obtain ⟨s10, A10, n10, c10, rfl, _⟩ := id h10
    refine storeW_of hb6 siz35 rfl rfl fun w11 hk11 hz11 => ?_
    replace h := h.ow hk11 (by simp)
    replace h5 := h5.ow hk11 (by simp)
    replace h8 := h8.ow hk11 (by simp)
    replace h10 := h10.ow hk11 (by simp)
    replace hb2 := hb2.kpne hk11 (by omega)
    replace hb4 := hb4.kpne hk11 (by omega)
    replace hD := hD.ow hk11
    replace hx := hx.under hk11 (fun k hk => by omega)
    clear hb6 hk11
    have hb6 := hz11; clear hz11
    refine hK _ _ ?_; clear hK
    refine W_seq_k fun K0 hK0 => ?_
    have e3 : ¬ (e + ((tz m.natAbs : Nat) : Int) < -65536) := by omega
    refine W_seq_reg fun K hK => ?_
    simp -implicitDefEqProofs (disch := omega) only [go_sem, Nat.reduceEqDiff, Nat.reduceAdd, ↓reduceIte, e3, hb6.l2]
    refine callW_of cal128 (rBitLen_v h10 (by first | omega | (simp only [Int.natAbs_natCast, Int.natAbs_neg]; omega))) ?_
    rintro _ w12 ⟨rfl, hx12⟩; refine ⟨_, rfl, ?_⟩
    replace h := h.ext hx12
    replace h5 := h5.ext hx12
    replace h8 := h8.ext hx12
    replace h10 := h10.ext hx12
    replace hb2 := hb2.ext hx12
    replace hb4 := hb4.ext hx12
    replace hb6 := hb6.ext hx12
    replace hD := hD.kp hx12
    replace hx := hx.trans hx12
    clear hx12
    have e4 : IntKind.i64.wrap (e + ((tz m.natAbs : Nat) : Int) + ((bl ((((od m).natAbs : Nat) : Int)).natAbs : Nat) : Int)) = e + (bl m.natAbs : Nat) := by
      rw [Int.natAbs_natCast, i64_in (by omega) (by omega)]; omega
    have e5 : ¬ (e + ((bl m.natAbs : Nat) : Int) > 65536) := by omega
    simp -implicitDefEqProofs (disch := omega) only [go_sem, Nat.reduceEqDiff, Nat.reduceAdd, ↓reduceIte, e4, e5]
    refine hK _ _ ?_; clear hK
    refine W_cond rfl (fun hc => by cases hc) (fun hc => W_skip (hK0 _ _ ?_))
    clear hK0
    refine W_seq_reg fun K hK => ?_
    simp -implicitDefEqProofs (disch := omega) only [go_sem, Nat.reduceEqDiff, Nat.reduceAdd, ↓reduceIte, hb2.c0]
    refine storeW_fld hb6 siz4 rfl (Nat.succ_pos _) rfl fun w13 hk13 hz13 hs13 => ?_
    replace h := h.ow hk13 (by simp)
    replace h5 := h5.ow hk13 (by simp)
    replace h8 := h8.ow hk13 (by simp)
    replace h10 := h10.ow hk13 (by simp)
    replace hb2 := hb2.kpne hk13 (by omega)
    replace hb4 := hb4.kpne hk13 (by omega)
    replace hD := hD.ow hk13
    replace hx := hx.under hk13 (fun k hk => by omega)
    clear hk13
    replace hb6 : Blk w13 g6 _ #[.bool s, .slice A10 n10 c10] := hz13
    clear hz13
    refine hK _ _ ?_; clear hK
    have hs : s = decide (m < 0) := by
      rw [hm, sgn_neg]
      have : 0 < val l := by
        rcases Nat.eq_zero_or_pos (val l) with h0 | h0
        · exfalso; apply hz; rw [hm, h0]; cases s <;> rfl
        · exact h0
      simp [this]
    have h14 : In (fB (od m)) (Dl D [g6, g2, g4]) (.agg #[.bool s, .slice A10 n10 c10]) w13 := Big.in ⟨by rw [od_sign]; exact hs, h10.big.2⟩
    have h15 := in_V h14 hv4.symm (hv5 hz).2.symm hv6
    refine W_seq_reg fun K hK => ?_
    simp -implicitDefEqProofs (disch := omega) only [go_sem, Nat.reduceEqDiff, Nat.reduceAdd, ↓reduceIte, hb6.l2]
    refine storeS hb4 siz37 rfl (fV_s h15) fun w90 hk90 hb90 => ?_
    refine hK _ _ ?_; clear hK
    refine W_ret ?_
    try simp only [thenE_r, inB_r]
    exact retS rfl (by first | exact rfl | assumption | exact (by (try simp only [upd_ap, Nat.reduceEqDiff, ↓reduceIte]); first | done | assumption | exact rfl)) agg37 hb90 (fV_s h15) (Rt.fin hx h15 hk90 (by simp) (by omega))
end Go.Proofs.YtjamnehcmaloeaaGreatDoor
end
section
namespace Go.Proofs.YtjamnehcmaloeaaGreatDoor
open Go Go.E Go.Sp
theorem rMake_v {D : Nat → Prop} {v : Value} {m e V : Int} {w : World} (hT : Tabs w) (h : In (fB m) D v w) (hb : bl m.natAbs ≤ 1000000) (he1 : -1000000 ≤ e) (he2 : e ≤ 1000000) (hv : mkV m e = some V) (hf : Fr D w) :
    Calls Tryz.prog 58 #[v, .int .i64 e] w (Rt (fV V) D w) := by
  obtain ⟨s, A, n, c, rfl, hB⟩ := h
  exact rMake_ok (s := s) hT hB.2.in (by rw [val_lim]; exact hb) (by have := hB.n_le (k := 100000) (by omega); omega) he1 he2 (by rw [val_lim, hB.sgn]; exact hv) hf
theorem dyE_bd {V : Int} (h : dyOk V) : -65536 ≤ dyE V ∧ dyE V ≤ 65536 ∧ bl (od V).natAbs ≤ 131072 := ⟨dyE_ge, by have := dyE_le h; omega, bl_od_le h⟩
theorem rNormD_v {D : Nat → Prop} {v : Value} {V : Int} {w : World} (hT : Tabs w) (h : In (fV V) D v w) (hf : Fr D w) : Calls Tryz.prog 60 #[v] w (Rt (fV V) D w) := by
  obtain ⟨s, A, n, c, rfl, _, _⟩ := id h
  refine calls_W Tryz.func60 rfl Tryz.ntmps60 (by kernel_rfl) ?_
  refine W_seq_reg fun K hK => ?_
  simp -implicitDefEqProofs (disch := omega) only [go_sem, Nat.reduceEqDiff, Nat.reduceAdd, ↓reduceIte]
  refine boxW_of ?_
  intro g1 w1 hg1 hx1 hb1 hs1
  refine alW_of ?_
  intro g2 w2 hg2 hx2 hb2 hs2
  refine hK _ _ ?_; clear hK K
  have hx : Ext w w2 := (hx1.trans hx2)
  replace hb1 := (hb1.ext hx2)
  replace h := (h.nL (L := [g1, g2]) (by intro g hg; simp at hg; omega)).ext hx
  have hD : Fr (Dl D [g1, g2]) w2 := hf.nL hx (by intro g hg; simp at hg; omega)
  clear hx1 hx2
  obtain ⟨hd1, hd2, hd3⟩ := dyE_bd h.ok
  refine W_seq_k fun K0 hK0 => ?_
  refine W_seq_reg fun K hK => ?_
  simp -implicitDefEqProofs (disch := omega) only [go_sem, Nat.reduceEqDiff, Nat.reduceAdd, ↓reduceIte, hb1.c0]
  refine hK _ _ ?_; clear hK K
  refine W_cond rfl (fun hc => by cases hc) (fun hc => W_skip (hK0 _ _ ?_))
  clear hK0
  refine W_seq_reg fun K hK => ?_
  simp -implicitDefEqProofs (disch := omega) only [go_sem, Nat.reduceEqDiff, Nat.reduceAdd, ↓reduceIte, hb1.c1, hb1.c2, hb1.c3]
  refine callW_of cal58 (rMake_v (hT.ext hx) h.man (by omega) (by omega) (by omega) (mkV_dy h.ok) hD) ?_
  rintro _ w5 ⟨v5, rfl, hx5, h5⟩; refine ⟨_, rfl, ?_⟩
  replace h := h.ext hx5
  replace hb1 := hb1.ext hx5
  replace hb2 := hb2.ext hx5
  replace hD := hD.kp hx5
  replace hx := hx.trans hx5
  clear hx5
  refine storeS hb2 siz37 rfl (fV_s h5) fun w90 hk90 hb90 => ?_
  refine hK _ _ ?_; clear hK
  refine W_ret ?_
  try simp only [thenE_r, inB_r]
  exact retS rfl (by first | exact rfl | assumption | exact (by (try simp only [upd_ap, Nat.reduceEqDiff, ↓reduceIte]); first | done | assumption | exact rfl)) agg37 hb90 (fV_s h5) (Rt.fin hx h5 hk90 (by simp) (by omega))
theorem rFromIntD_v {D : Nat → Prop} {z V : Int} {w : World} (hT : Tabs w) (h1 : -9223372036854775808 ≤ z) (h2 : z ≤ 9223372036854775807) (hv : mkV z 0 = some V) (hf : Fr D w) : Calls Tryz.prog 122 #[.int .i64 z] w (Rt (fV V) D w) := by
  refine calls_W Tryz.func122 rfl Tryz.ntmps122 (by kernel_rfl) ?_
  refine W_seq_reg fun K hK => ?_
  simp -implicitDefEqProofs (disch := omega) only [go_sem, Nat.reduceEqDiff, Nat.reduceAdd, ↓reduceIte]
  refine alW_of ?_
  intro g2 w2 hg2 hx2 hb2 hs2
  refine hK _ _ ?_; clear hK K
  have hx : Ext w w2 := hx2
  have hD : Fr (Dl D [g2]) w2 := hf.nL hx (by intro g hg; simp at hg; omega)
  clear hx2
  have hz : bl z.natAbs ≤ 64 := bl_le_of (Nat.lt_of_le_of_lt (show z.natAbs ≤ 9223372036854775808 by omega) (by decide))
  refine W_seq_reg fun K hK => ?_
  simp -implicitDefEqProofs (disch := omega) only [go_sem, Nat.reduceEqDiff, Nat.reduceAdd, ↓reduceIte]
  refine callW_of cal138 (rFromInt_v h1 h2 hD) ?_
  rintro _ w3 ⟨v3, rfl, hx3, h3⟩; refine ⟨_, rfl, ?_⟩
  replace hb2 := hb2.ext hx3
  replace hD := hD.kp hx3
  replace hx := hx.trans hx3
  clear hx3
  refine callW_of cal58 (rMake_v (hT.ext hx) h3 (by omega) (by omega) (by omega) hv hD) ?_
  rintro _ w5 ⟨v5, rfl, hx5, h5⟩; refine ⟨_, rfl, ?_⟩
  replace h3 := h3.ext hx5
  replace hb2 := hb2.ext hx5
  replace hD := hD.kp hx5
  replace hx := hx.trans hx5
  clear hx5
  refine storeS hb2 siz37 rfl (fV_s h5) fun w90 hk90 hb90 => ?_
  refine hK _ _ ?_; clear hK
  refine W_ret ?_
  try simp only [thenE_r, inB_r]
  exact retS rfl (by first | exact rfl | assumption | exact (by (try simp only [upd_ap, Nat.reduceEqDiff, ↓reduceIte]); first | done | assumption | exact rfl)) agg37 hb90 (fV_s h5) (Rt.fin hx h5 hk90 (by simp) (by omega))
theorem rMulD_v {D : Nat → Prop} {v v' : Value} {a b V : Int} {w : World} (hT : Tabs w) (h : In (fV a) D v w) (h' : In (fV b) D v' w) (hv : mkV (a * b) (-131072) = some V) (hf : Fr D w) : Calls Tryz.prog 17 #[v, v'] w (Rt (fV V) D w) := by
  obtain ⟨s, A, n, c, rfl, _, _⟩ := id h
  obtain ⟨s', A', n', c', rfl, _, _⟩ := id h'
  refine calls_W Tryz.func17 rfl Tryz.ntmps17 (by kernel_rfl) ?_
  refine W_seq_reg fun K hK => ?_
  simp -implicitDefEqProofs (disch := omega) only [go_sem, Nat.reduceEqDiff, Nat.reduceAdd, ↓reduceIte]
  refine boxW_of ?_
  intro g2 w2 hg2 hx2 hb2 hs2
  refine boxW_of ?_
  intro g3 w3 hg3 hx3 hb3 hs3
  refine alW_of ?_
  intro g4 w4 hg4 hx4 hb4 hs4
  refine hK _ _ ?_; clear hK K
  have hx : Ext w w4 := ((hx2.trans hx3).trans hx4)
  replace hb2 := ((hb2.ext hx3).ext hx4)
  replace hb3 := (hb3.ext hx4)
  replace h := (h.nL (L := [g2, g3, g4]) (by intro g hg; simp at hg; omega)).ext hx
  replace h' := (h'.nL (L := [g2, g3, g4]) (by intro g hg; simp at hg; omega)).ext hx
  have hD : Fr (Dl D [g2, g3, g4]) w4 := hf.nL hx (by intro g hg; simp at hg; omega)
  clear hx2 hx3 hx4
  refine W_seq_k fun K hK => ?_
  refine W_dT true mixed (Kp.pre (fun _ => True)) (fun _ _ _ h => h) [true, false, true, false, false, false] [(6, Fam.S (fV a) (Dl D [g2, g3, g4])), (8, Fam.S (fV b) (Dl D [g2, g3, g4]))] 4 (by kernel_rfl) fun KE hKE => ?_
  simp -implicitDefEqProofs (disch := omega) only [go_sem, Nat.reduceEqDiff, Nat.reduceAdd, ↓reduceIte, hb2.l4, hb3.l4]
  refine hKE _ ⟨?_, fun e' w' hw hs ho => ?_⟩ <;> clear hKE KE
  · refine stepsL_cons (fun e' w' hw hd ho => ?_) ?_
    · skip
      have o5 := ho 5 (by kernel_rfl) (by kernel_rfl)
      simp -implicitDefEqProofs (disch := omega) only [go_sem, Nat.reduceEqDiff, Nat.reduceAdd, ↓reduceIte, o5]
      refine callW_of cal60 (rNormD_v (hT.ext (hx.trans hw)) (h.ext hw) (hD.kp hw)) ?_
      rintro _ w9 ⟨v9, rfl, hx9, h9⟩; refine ⟨_, rfl, ?_⟩
      exact ⟨hx9, fun d hd => by cases hd; exact h9⟩
    refine stepsL_cons (fun e' w' hw hd ho => ?_) ?_
    · skip
      have o7 := ho 7 (by kernel_rfl) (by kernel_rfl)
      simp -implicitDefEqProofs (disch := omega) only [go_sem, Nat.reduceEqDiff, Nat.reduceAdd, ↓reduceIte, o7]
      refine callW_of cal60 (rNormD_v (hT.ext (hx.trans hw)) (h'.ext hw) (hD.kp hw)) ?_
      rintro _ w9 ⟨v9, rfl, hx9, h9⟩; refine ⟨_, rfl, ?_⟩
      exact ⟨hx9, fun d hd => by cases hd; exact h9⟩
    exact stepsL_nil
  · have z2 := ho 2 (by kernel_rfl)
    have h6 : In (fV a) (Dl D [g2, g3, g4]) (e' 6) w' := hs 6 (by kernel_rfl)
    have z3 := ho 3 (by kernel_rfl)
    have h8 : In (fV b) (Dl D [g2, g3, g4]) (e' 8) w' := hs 8 (by kernel_rfl)
    have z4 := ho 4 (by kernel_rfl)
    clear hs ho
    simp -implicitDefEqProofs only [upd_ap, Nat.reduceEqDiff, ↓reduceIte, env_z, env_s, List.toList_toArray] at z2 z3 z4
    have o2 := z2
    clear z2
    have o3 := z3
    clear z3
    have o4 := z4
    clear z4
    replace h := h.ext hw
    replace h' := h'.ext hw
    replace hb2 := hb2.ext hw
    replace hb3 := hb3.ext hw
    replace hb4 := hb4.ext hw
    replace hD := hD.kp hw
    replace hx := hx.trans hw
    simp -implicitDefEqProofs (disch := omega) only [List.drop_succ_cons, List.drop_zero, go_sem, Nat.reduceEqDiff, Nat.reduceAdd, ↓reduceIte, o2, o3, o4]
    obtain ⟨s6, A6, n6, c6, q6, -⟩ := id h6
    rw [q6] at h6
    obtain ⟨s8, A8, n8, c8, q8, -⟩ := id h8
    rw [q8] at h8
    simp -implicitDefEqProofs (disch := omega) only [go_sem, Nat.reduceEqDiff, Nat.reduceAdd, ↓reduceIte, q6, q8]
    refine storeW_of hb2 siz37 rfl rfl fun w9 hk9 hz9 => ?_
    replace h6 := h6.ow hk9 (by simp)
    replace h8 := h8.ow hk9 (by simp)
    replace hb3 := hb3.kpne hk9 (by omega)
    replace hb4 := hb4.kpne hk9 (by omega)
    replace hD := hD.ow hk9
    replace hx := hx.under hk9 (fun k hk => by omega)
    clear hb2 hk9
    have hb2 := hz9; clear hz9
    refine storeW_of hb3 siz37 rfl rfl fun w10 hk10 hz10 => ?_
    replace h6 := h6.ow hk10 (by simp)
    replace h8 := h8.ow hk10 (by simp)
    replace hb2 := hb2.kpne hk10 (by omega)
    replace hb4 := hb4.kpne hk10 (by omega)
    replace hD := hD.ow hk10
    replace hx := hx.under hk10 (fun k hk => by omega)
    clear hb3 hk10
    have hb3 := hz10; clear hz10
    simp only [thenE_n]
    refine hK _ _ ?_; clear hK K
    refine W_seq_k fun K0 hK0 => ?_
    refine W_seq_reg fun K hK => ?_
    simp -implicitDefEqProofs (disch := omega) only [go_sem, Nat.reduceEqDiff, Nat.reduceAdd, ↓reduceIte, o2, o3, hb2.c0, hb3.c0]
    refine hK _ _ ?_; clear hK K
    refine W_cond rfl (fun hc => by cases hc) (fun hc => W_skip (hK0 _ _ ?_))
    clear hK0
    obtain ⟨ha1, ha2, ha3⟩ := dyE_bd h6.ok
    obtain ⟨hb1, hb22, hb33⟩ := dyE_bd h8.ok
    have hmul := bl_mul_le (od a).natAbs (od b).natAbs
    rw [← Int.natAbs_mul] at hmul
    have e1 : IntKind.i64.wrap (dyE a + dyE b) = dyE a + dyE b := i64_in (by omega) (by omega)
    refine W_seq_k fun K hK => ?_
    refine W_dT true mixed (Kp.pre (fun _ => True)) (fun _ _ _ h => h) [true, true, true, true, false, true, true, true, true, true, false, false] [(20, Fam.S (fB (od a * od b)) (Dl D [g2, g3, g4])), (26, Fam.S (fV V) (Dl D [g2, g3, g4]))] 11 (by kernel_rfl) fun KE hKE => ?_
    simp -implicitDefEqProofs (disch := omega) only [go_sem, Nat.reduceEqDiff, Nat.reduceAdd, ↓reduceIte, o2, o3, hb2.c1, hb2.c2, hb2.c3, hb3.c1, hb3.c2, hb3.c3, e1]
    refine hKE _ ⟨?_, fun e' w' hw hs ho => ?_⟩ <;> clear hKE KE
    · refine stepsL_cons (fun e' w' hw hd ho => ?_) ?_
      · skip
        have o17 := ho 17 (by kernel_rfl) (by kernel_rfl)
        have o19 := ho 19 (by kernel_rfl) (by kernel_rfl)
        simp -implicitDefEqProofs (disch := omega) only [go_sem, Nat.reduceEqDiff, Nat.reduceAdd, ↓reduceIte, o17, o19]
        refine callW_of cal62 (rMul_v (h6.man.ext hw) (h8.man.ext hw) (by omega) (by omega) (hD.kp hw)) ?_
        rintro _ w9 ⟨v9, rfl, hx9, h9⟩; refine ⟨_, rfl, ?_⟩
        exact ⟨hx9, fun d hd => by cases hd; exact h9⟩
      refine stepsL_cons (fun e' w' hw hd ho => ?_) ?_
      · skip
        have h20 : In (fB (od a * od b)) (Dl D [g2, g3, g4]) (e' 20) w' := hd 20 (by kernel_rfl) (by kernel_rfl)
        have o25 := ho 25 (by kernel_rfl) (by kernel_rfl)
        simp -implicitDefEqProofs (disch := omega) only [go_sem, Nat.reduceEqDiff, Nat.reduceAdd, ↓reduceIte, o25]
        refine callW_of cal58 (rMake_v (hT.ext (hx.trans hw)) h20 (by omega) (by omega) (by omega) (by rw [mkV_mul]; exact hv) (hD.kp hw)) ?_
        rintro _ w9 ⟨v9, rfl, hx9, h9⟩; refine ⟨_, rfl, ?_⟩
        exact ⟨hx9, fun d hd => by cases hd; exact h9⟩
      exact stepsL_nil
    · have z4 := ho 4 (by kernel_rfl)
      have h26 : In (fV V) (Dl D [g2, g3, g4]) (e' 26) w' := hs 26 (by kernel_rfl)
      clear hs ho
      simp -implicitDefEqProofs only [upd_ap, Nat.reduceEqDiff, ↓reduceIte, env_z, env_s, List.toList_toArray, o2, o3, o4, o4] at z4
      clear o2 o3 o4
      have o4 := z4
      clear z4
      replace h6 := h6.ext hw
      replace h8 := h8.ext hw
      replace hb2 := hb2.ext hw
      replace hb3 := hb3.ext hw
      replace hb4 := hb4.ext hw
      replace hD := hD.kp hw
      replace hx := hx.trans hw
      simp -implicitDefEqProofs (disch := omega) only [List.drop_succ_cons, List.drop_zero, go_sem, Nat.reduceEqDiff, Nat.reduceAdd, ↓reduceIte, o4, o4]
      refine storeS hb4 siz37 rfl (fV_s h26) fun w90 hk90 hb90 => ?_
      refine hK _ _ ?_; clear hK
      refine W_ret ?_
      try simp only [thenE_r, inB_r]
      exact retS rfl (by first | exact rfl | assumption | exact (by (try simp only [upd_ap, Nat.reduceEqDiff, ↓reduceIte]); first | done | assumption | exact rfl)) agg37 hb90 (fV_s h26) (Rt.fin hx h26 hk90 (by simp) (by omega))
end Go.Proofs.YtjamnehcmaloeaaGreatDoor
end
section
namespace Go.Proofs.YtjamnehcmaloeaaGreatDoor
open Go Go.E Go.Sp
theorem rUp_ok {neg odd : Bool} {half mode : Int} {w : World} : Calls Tryz.prog 195 #[.bool neg, .int .i64 half, .bool odd, .int .i64 mode] w fun e w' => e = .returned (.bool (upS mode neg half odd)) ∧ w = w' := by
  refine calls_W Tryz.func195 rfl Tryz.ntmps195 (by kernel_rfl) ?_
  refine W_seq_reg fun K hK => ?_
  simp -implicitDefEqProofs (disch := omega) only [go_sem, Nat.reduceEqDiff, Nat.reduceAdd, ↓reduceIte]
  refine hK _ _ ?_; clear hK K
  refine W_seq_k fun K0 hK0 => ?_
  refine W_seq_reg fun K hK => ?_
  simp -implicitDefEqProofs (disch := omega) only [go_sem, Nat.reduceEqDiff, Nat.reduceAdd, ↓reduceIte]
  refine hK _ _ ?_; clear hK K
  refine W_block ?_
  refine W_seq_reg fun K hK => ?_
  simp -implicitDefEqProofs (disch := omega) only [go_sem, Nat.reduceEqDiff, Nat.reduceAdd, ↓reduceIte]
  refine hK _ _ ?_; clear hK K
  by_cases m1 : mode = 1
  · have q : (mode == 1) = true := by simpa using m1
    refine W_cond rfl (fun hc => ?_) (fun hc => by rw [q] at hc; cases hc)
    refine W_seq_reg fun K hK => ?_
    simp -implicitDefEqProofs (disch := omega) only [go_sem, Nat.reduceEqDiff, Nat.reduceAdd, ↓reduceIte]
    refine hK _ _ ?_; clear hK K
    refine W_ret ?_
    try simp only [thenE_r, inB_r]
    refine ret1 rfl ⟨by simp [upS, m1, upd], rfl⟩
  have q1 : (mode == 1) = false := by simpa using m1
  refine W_cond rfl (fun hc => by rw [q1] at hc; cases hc) (fun hc => ?_)
  refine W_seq_reg fun K hK => ?_
  simp -implicitDefEqProofs (disch := omega) only [go_sem, Nat.reduceEqDiff, Nat.reduceAdd, ↓reduceIte]
  refine hK _ _ ?_; clear hK K
  by_cases m2 : mode = 2
  · have q : (mode == 2) = true := by simpa using m2
    refine W_cond rfl (fun hc => ?_) (fun hc => by rw [q] at hc; cases hc)
    refine W_seq_reg fun K hK => ?_
    simp -implicitDefEqProofs (disch := omega) only [go_sem, Nat.reduceEqDiff, Nat.reduceAdd, ↓reduceIte]
    refine hK _ _ ?_; clear hK K
    refine W_ret ?_
    try simp only [thenE_r, inB_r]
    refine ret1 rfl ⟨by simp [upS, m2, upd], rfl⟩
  have q2 : (mode == 2) = false := by simpa using m2
  refine W_cond rfl (fun hc => by rw [q2] at hc; cases hc) (fun hc => ?_)
  refine W_seq_reg fun K hK => ?_
  simp -implicitDefEqProofs (disch := omega) only [go_sem, Nat.reduceEqDiff, Nat.reduceAdd, ↓reduceIte]
  refine hK _ _ ?_; clear hK K
  by_cases m3 : mode = 3
  · have q : (mode == 3) = true := by simpa using m3
    refine W_cond rfl (fun hc => ?_) (fun hc => by rw [q] at hc; cases hc)
    refine W_seq_reg fun K hK => ?_
    simp -implicitDefEqProofs (disch := omega) only [go_sem, Nat.reduceEqDiff, Nat.reduceAdd, ↓reduceIte]
    refine hK _ _ ?_; clear hK K
    refine W_ret ?_
    try simp only [thenE_r, inB_r]
    refine ret1 rfl ⟨by simp [upS, m3, upd], rfl⟩
  have q3 : (mode == 3) = false := by simpa using m3
  refine W_cond rfl (fun hc => by rw [q3] at hc; cases hc) (fun hc => W_skip (hK0 _ _ ?_))
  clear hK0
  by_cases h1 : half > 0
  · refine W_seq_reg fun K hK => ?_
    simp -implicitDefEqProofs (disch := omega) only [go_sem, Nat.reduceEqDiff, Nat.reduceAdd, ↓reduceIte, h1]
    refine hK _ _ ?_; clear hK K
    have h1' : 0 < half := h1
    refine W_ret ?_
    try simp only [thenE_r, inB_r]
    refine ret1 rfl ⟨by simp [upS, m1, m2, m3, upd, h1'], rfl⟩
  · by_cases h2 : half = 0
    · have q4 : (half == 0) = true := by simpa using h2
      refine W_seq_reg fun K hK => ?_
      simp -implicitDefEqProofs (disch := omega) only [go_sem, Nat.reduceEqDiff, Nat.reduceAdd, ↓reduceIte, h1, q4]
      refine hK _ _ ?_; clear hK K
      have h1' : ¬ 0 < half := h1
      refine W_ret ?_
      try simp only [thenE_r, inB_r]
      refine ret1 rfl ⟨by simp [upS, m1, m2, m3, upd, h2], rfl⟩
    · have q4 : (half == 0) = false := by simpa using h2
      refine W_seq_reg fun K hK => ?_
      simp -implicitDefEqProofs (disch := omega) only [go_sem, Nat.reduceEqDiff, Nat.reduceAdd, ↓reduceIte, h1, q4]
      refine hK _ _ ?_; clear hK K
      have h1' : ¬ 0 < half := h1
      refine W_ret ?_
      try simp only [thenE_r, inB_r]
      refine ret1 rfl ⟨by simp [upS, m1, m2, m3, upd, h1', h2], rfl⟩
end Go.Proofs.YtjamnehcmaloeaaGreatDoor
end
