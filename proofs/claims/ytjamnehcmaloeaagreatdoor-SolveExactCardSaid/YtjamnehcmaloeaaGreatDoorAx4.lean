/- SolveExact answers true for every input: proved in full, under the card as given (the laid table of math/bits is tied to the text). Part 4 of 6 of the proof: P6, P7, P8, P9, P10, P11, P12, P13, DrawF, P14, P15, P16. -/
import Derived.Test.YtjamnehcmaloeaaGreatDoorAx3
set_option linter.unusedSimpArgs false
set_option linter.unusedVariables false
section
namespace Go.Proofs.YtjamnehcmaloeaaGreatDoor
open Go Go.E Go.Sp
theorem cmpI_ge {x y : Nat} : (cmpI x y ≥ 0) ↔ y ≤ x := by unfold cmpI; split <;> (try split) <;> omega
section
variable {D : Nat → Prop} {v v' : Value} {w : World} {x y : Nat} {a b : Int}
theorem iAdd_ok {A A' : Option Addr} {n n' c c' : Nat} {l l' : List Nat} {s s' : Bool} (h : In (fU l) D (.slice A n c) w) (h' : In (fU l') D (.slice A' n' c') w) (hb : l.length ≤ 600000) (hb' : l'.length ≤ 600000) (hf : Fr D w) :
    Calls Tryz.prog 217 #[.agg #[.bool s, .slice A n c], .agg #[.bool s', .slice A' n' c']] w (Rt (fB (sgn s (val l) + sgn s' (val l'))) D w) := by
  have hx1 : bl (val l) ≤ 19200000 := by have := bl_val h.u32.2; omega
  have hx2 : bl (val l') ≤ 19200000 := by have := bl_val h'.u32.2; omega
  refine calls_W Tryz.func217 rfl Tryz.ntmps217 (by kernel_rfl) ?_
  refine W_seq_reg fun K hK => ?_
  simp -implicitDefEqProofs (disch := omega) only [go_sem, Nat.reduceEqDiff, Nat.reduceAdd, ↓reduceIte]
  refine boxW_of ?_
  intro g2 w2 hg2 hx2 hb2 hs2
  refine boxW_of ?_
  intro g3 w3 hg3 hx3 hb3 hs3
  refine alW_of ?_
  intro g4 w4 hg4 hx4 hb4 hs4
  refine hK _ _ ?_; clear hK K
  have hx : Ext w w4 := ((hx2.trans hx3).trans hx4)
  replace hb2 := ((hb2.ext hx3).ext hx4)
  replace hb3 := (hb3.ext hx4)
  replace h := (h.nL (L := [g2, g3, g4]) (by intro g hg; simp at hg; omega)).ext hx
  replace h' := (h'.nL (L := [g2, g3, g4]) (by intro g hg; simp at hg; omega)).ext hx
  have hD : Fr (Dl D [g2, g3, g4]) w4 := hf.nL hx (by intro g hg; simp at hg; omega)
  clear hx2 hx3 hx4
  obtain ⟨p, hp⟩ : ∃ p, p = val l := ⟨_, rfl⟩
  obtain ⟨r, hre⟩ : ∃ r, r = val l' := ⟨_, rfl⟩
  rw [← hp] at hx1
  rw [← hre] at hx2
  have hbs : bl (p + r) ≤ 19200001 := bl_add_le hx1 hx2
  have hl1 := len_lim (x := p + r) (by omega)
  refine W_seq_k fun K hK => ?_
  refine W_dC mixed (Kp (fun k => k ∉ ([] : List Nat))) (fun _ _ => False) (Kp.pre _) [true, true, false, true, true, false, false, false] [false, false, false, false, false, false, false, false] [1, 1, 0, 1, 1, 1, 1, 1] (by kernel_rfl) ?_
  apply Exists.intro
  refine ⟨fun wE hE KE hKE => ?_, fun wE hE KE hKE => ?_, fun wE hxE hr => ?_⟩
  · skip
    replace hE := Kp.all hE
    replace hb2 := hb2.ext hE
    replace hb3 := hb3.ext hE
    replace hb4 := hb4.ext hE
    replace h := h.ext hE
    replace h' := h'.ext hE
    simp -implicitDefEqProofs (disch := omega) only [go_sem, Nat.reduceEqDiff, Nat.reduceAdd, ↓reduceIte, hb2.c1, hb3.c1]
    exact hKE
  · exact hE.elim
  simp only [selP_t, selP_f, selP_n]
  replace h := h.ext hxE
  replace h' := h'.ext hxE
  replace hb2 := hb2.ext hxE
  replace hb3 := hb3.ext hxE
  replace hb4 := hb4.ext hxE
  replace hD := hD.kp hxE
  replace hx := hx.trans hxE
  simp -implicitDefEqProofs (disch := omega) only [go_sem, Nat.reduceEqDiff, Nat.reduceAdd, ↓reduceIte, List.toList_toArray, hb2.c1, hb3.c1]
  refine callW_of cal245 (trim_v h (by omega)) ?_
  rintro _ w5 ⟨v5, rfl, hx5, h5⟩; refine ⟨_, rfl, ?_⟩
  replace h := h.ext hx5
  replace h' := h'.ext hx5
  replace hb2 := hb2.ext hx5
  replace hb3 := hb3.ext hx5
  replace hb4 := hb4.ext hx5
  replace hD := hD.kp hx5
  replace hx := hx.trans hx5
  replace hr := hr.trans (Kp.of_ext hx5)
  clear hx5
  refine ⟨hr, ?_⟩
  refine callW_of cal245 (trim_v h' (by omega)) ?_
  rintro _ w6 ⟨v6, rfl, hx6, h6⟩; refine ⟨_, rfl, ?_⟩
  replace h := h.ext hx6
  replace h' := h'.ext hx6
  replace h5 := h5.ext hx6
  replace hb2 := hb2.ext hx6
  replace hb3 := hb3.ext hx6
  replace hb4 := hb4.ext hx6
  replace hD := hD.kp hx6
  replace hx := hx.trans hx6
  clear hx6
  rw [← hp] at h5
  rw [← hre] at h6
  simp only [thenE_n]
  refine hK _ _ ?_; clear hK K
  rw [← hp, ← hre]
  refine W_seq_blk fun K0 hK0 => ?_
  by_cases hss : s = s'
  · subst hss
    have q : (s == s) = true := by simp
    refine W_seq_reg fun K hK => ?_
    simp -implicitDefEqProofs (disch := omega) only [go_sem, Nat.reduceEqDiff, Nat.reduceAdd, ↓reduceIte, hb2.c0, hb3.c0, q]
    refine hK _ _ ?_; clear hK K
    refine W_cond rfl (fun hc => ?_) (fun hc => by cases hc)
    refine W_seq_k fun K hK => ?_
    refine W_dC mixed (Kp (fun k => k ∉ ([] : List Nat))) (fun _ _ => False) (Kp.pre _) [true, true, true, true, false, false, false] [false, false, false, false, false, false, false] [1, 1, 1, 1, 0, 1, 1] (by kernel_rfl) ?_
    apply Exists.intro
    refine ⟨fun wE hE KE hKE => ?_, fun wE hE KE hKE => ?_, fun wE hxE hr => ?_⟩
    · skip
      replace hE := Kp.all hE
      replace hb2 := hb2.ext hE
      replace hb3 := hb3.ext hE
      replace hb4 := hb4.ext hE
      replace h := h.ext hE
      replace h' := h'.ext hE
      replace h5 := h5.ext hE
      replace h6 := h6.ext hE
      simp -implicitDefEqProofs (disch := omega) only [go_sem, Nat.reduceEqDiff, Nat.reduceAdd, ↓reduceIte, hb2.c0]
      exact hKE
    · exact hE.elim
    simp only [selP_t, selP_f, selP_n]
    replace h := h.ext hxE
    replace h' := h'.ext hxE
    replace h5 := h5.ext hxE
    replace h6 := h6.ext hxE
    replace hb2 := hb2.ext hxE
    replace hb3 := hb3.ext hxE
    replace hb4 := hb4.ext hxE
    replace hD := hD.kp hxE
    replace hx := hx.trans hxE
    simp -implicitDefEqProofs (disch := omega) only [go_sem, Nat.reduceEqDiff, Nat.reduceAdd, ↓reduceIte, List.toList_toArray, hb2.c0]
    refine callW_of cal249 (plus_v h5 h6 (by omega) (by omega) hD) ?_
    rintro _ w7 ⟨v7, rfl, hx7, h7⟩; refine ⟨_, rfl, ?_⟩
    replace h := h.ext hx7
    replace h' := h'.ext hx7
    replace h5 := h5.ext hx7
    replace h6 := h6.ext hx7
    replace hb2 := hb2.ext hx7
    replace hb3 := hb3.ext hx7
    replace hb4 := hb4.ext hx7
    replace hD := hD.kp hx7
    replace hx := hx.trans hx7
    replace hr := hr.trans (Kp.of_ext hx7)
    clear hx7
    refine ⟨hr, ?_⟩
    refine callW_of cal218 (big_v (s := s) h7 (by omega) hD) ?_
    rintro _ w8 ⟨v8, rfl, hx8, h8⟩; refine ⟨_, rfl, ?_⟩
    replace h := h.ext hx8
    replace h' := h'.ext hx8
    replace h5 := h5.ext hx8
    replace h6 := h6.ext hx8
    replace h7 := h7.ext hx8
    replace hb2 := hb2.ext hx8
    replace hb3 := hb3.ext hx8
    replace hb4 := hb4.ext hx8
    replace hD := hD.kp hx8
    replace hx := hx.trans hx8
    clear hx8
    rw [val_lim] at h8
    rw [show sgn s (p + r) = sgn s p + sgn s r by cases s <;> simp [sgn] <;> omega] at h8
    refine storeS hb4 siz35 rfl (fB_s h8) fun w90 hk90 hb90 => ?_
    refine hK _ _ ?_; clear hK
    refine W_ret ?_
    try simp only [thenE_r, inB_r]
    exact retS rfl (by first | exact rfl | assumption | exact (by (try simp only [upd_ap, Nat.reduceEqDiff, ↓reduceIte]); first | done | assumption | exact rfl)) agg35 hb90 (fB_s h8) (Rt.fin hx h8 hk90 (by simp) (by omega))
  · have q : (s == s') = false := by cases s <;> cases s' <;> simp_all
    have hs' : s' = !s := by cases s <;> cases s' <;> simp_all
    refine W_seq_reg fun K hK => ?_
    simp -implicitDefEqProofs (disch := omega) only [go_sem, Nat.reduceEqDiff, Nat.reduceAdd, ↓reduceIte, hb2.c0, hb3.c0, q]
    refine hK _ _ ?_; clear hK K
    refine W_cond rfl (fun hc => by cases hc) (fun hc => ?_)
    refine W_seq_reg fun K1 hK1 => ?_
    simp -implicitDefEqProofs (disch := omega) only [go_sem, Nat.reduceEqDiff, Nat.reduceAdd, ↓reduceIte]
    refine callW_of cal252 (compare_v h5 h6 (by omega) (by omega)) ?_
    rintro _ w9 ⟨rfl, hx9⟩; refine ⟨_, rfl, ?_⟩
    replace h := h.ext hx9
    replace h' := h'.ext hx9
    replace h5 := h5.ext hx9
    replace h6 := h6.ext hx9
    replace hb2 := hb2.ext hx9
    replace hb3 := hb3.ext hx9
    replace hb4 := hb4.ext hx9
    replace hD := hD.kp hx9
    replace hx := hx.trans hx9
    clear hx9
    by_cases hle : r ≤ p
    · have q2 : cmpI p r ≥ 0 := cmpI_ge.2 hle
      have hl2 := len_lim (x := p - r) (by have := bl_mono (Nat.sub_le p r); omega)
      simp -implicitDefEqProofs (disch := omega) only [go_sem, Nat.reduceEqDiff, Nat.reduceAdd, ↓reduceIte, q2]
      refine hK1 _ _ ?_; clear hK1
      refine W_cond rfl (fun hc => ?_) (fun hc => by cases hc)
      refine W_seq_k fun K hK => ?_
      refine W_dC mixed (Kp (fun k => k ∉ ([] : List Nat))) (fun _ _ => False) (Kp.pre _) [true, true, true, true, false, false, false] [false, false, false, false, false, false, false] [1, 1, 1, 1, 0, 1, 1] (by kernel_rfl) ?_
      apply Exists.intro
      refine ⟨fun wE hE KE hKE => ?_, fun wE hE KE hKE => ?_, fun wE hxE hr => ?_⟩
      · skip
        replace hE := Kp.all hE
        replace hb2 := hb2.ext hE
        replace hb3 := hb3.ext hE
        replace hb4 := hb4.ext hE
        replace h := h.ext hE
        replace h' := h'.ext hE
        replace h5 := h5.ext hE
        replace h6 := h6.ext hE
        simp -implicitDefEqProofs (disch := omega) only [go_sem, Nat.reduceEqDiff, Nat.reduceAdd, ↓reduceIte, hb2.c0]
        exact hKE
      · exact hE.elim
      simp only [selP_t, selP_f, selP_n]
      replace h := h.ext hxE
      replace h' := h'.ext hxE
      replace h5 := h5.ext hxE
      replace h6 := h6.ext hxE
      replace hb2 := hb2.ext hxE
      replace hb3 := hb3.ext hxE
      replace hb4 := hb4.ext hxE
      replace hD := hD.kp hxE
      replace hx := hx.trans hxE
      simp -implicitDefEqProofs (disch := omega) only [go_sem, Nat.reduceEqDiff, Nat.reduceAdd, ↓reduceIte, List.toList_toArray, hb2.c0]
      refine callW_of cal250 (minus_v h5 h6 (by omega) hle hD) ?_
      rintro _ w7 ⟨v7, rfl, hx7, h7⟩; refine ⟨_, rfl, ?_⟩
      replace h := h.ext hx7
      replace h' := h'.ext hx7
      replace h5 := h5.ext hx7
      replace h6 := h6.ext hx7
      replace hb2 := hb2.ext hx7
      replace hb3 := hb3.ext hx7
      replace hb4 := hb4.ext hx7
      replace hD := hD.kp hx7
      replace hx := hx.trans hx7
      replace hr := hr.trans (Kp.of_ext hx7)
      clear hx7
      refine ⟨hr, ?_⟩
      refine callW_of cal218 (big_v (s := s) h7 (by omega) hD) ?_
      rintro _ w8 ⟨v8, rfl, hx8, h8⟩; refine ⟨_, rfl, ?_⟩
      replace h := h.ext hx8
      replace h' := h'.ext hx8
      replace h5 := h5.ext hx8
      replace h6 := h6.ext hx8
      replace h7 := h7.ext hx8
      replace hb2 := hb2.ext hx8
      replace hb3 := hb3.ext hx8
      replace hb4 := hb4.ext hx8
      replace hD := hD.kp hx8
      replace hx := hx.trans hx8
      clear hx8
      rw [val_lim] at h8
      rw [show sgn s (p - r) = sgn s p + sgn s' r by rw [hs']; cases s <;> simp [sgn] <;> omega] at h8
      refine storeS hb4 siz35 rfl (fB_s h8) fun w90 hk90 hb90 => ?_
      refine hK _ _ ?_; clear hK
      refine W_ret ?_
      try simp only [thenE_r, inB_r]
      exact retS rfl (by first | exact rfl | assumption | exact (by (try simp only [upd_ap, Nat.reduceEqDiff, ↓reduceIte]); first | done | assumption | exact rfl)) agg35 hb90 (fB_s h8) (Rt.fin hx h8 hk90 (by simp) (by omega))
    · have q2 : ¬ (cmpI p r ≥ 0) := fun h => hle (cmpI_ge.1 h)
      have hl2 := len_lim (x := r - p) (by have := bl_mono (Nat.sub_le r p); omega)
      simp -implicitDefEqProofs (disch := omega) only [go_sem, Nat.reduceEqDiff, Nat.reduceAdd, ↓reduceIte, q2]
      refine hK1 _ _ ?_; clear hK1
      refine W_cond rfl (fun hc => by cases hc) (fun hc => W_skip (hK0 _ _ ?_))
      clear hK0
      refine W_seq_k fun K hK => ?_
      refine W_dC mixed (Kp (fun k => k ∉ ([] : List Nat))) (fun _ _ => False) (Kp.pre _) [true, true, true, true, false, false, false] [false, false, false, false, false, false, false] [1, 1, 1, 1, 0, 1, 1] (by kernel_rfl) ?_
      apply Exists.intro
      refine ⟨fun wE hE KE hKE => ?_, fun wE hE KE hKE => ?_, fun wE hxE hr => ?_⟩
      · skip
        replace hE := Kp.all hE
        replace hb2 := hb2.ext hE
        replace hb3 := hb3.ext hE
        replace hb4 := hb4.ext hE
        replace h := h.ext hE
        replace h' := h'.ext hE
        replace h5 := h5.ext hE
        replace h6 := h6.ext hE
        simp -implicitDefEqProofs (disch := omega) only [go_sem, Nat.reduceEqDiff, Nat.reduceAdd, ↓reduceIte, hb3.c0]
        exact hKE
      · exact hE.elim
      simp only [selP_t, selP_f, selP_n]
      replace h := h.ext hxE
      replace h' := h'.ext hxE
      replace h5 := h5.ext hxE
      replace h6 := h6.ext hxE
      replace hb2 := hb2.ext hxE
      replace hb3 := hb3.ext hxE
      replace hb4 := hb4.ext hxE
      replace hD := hD.kp hxE
      replace hx := hx.trans hxE
      simp -implicitDefEqProofs (disch := omega) only [go_sem, Nat.reduceEqDiff, Nat.reduceAdd, ↓reduceIte, List.toList_toArray, hb3.c0]
      refine callW_of cal250 (minus_v h6 h5 (by omega) (by omega) hD) ?_
      rintro _ w7 ⟨v7, rfl, hx7, h7⟩; refine ⟨_, rfl, ?_⟩
      replace h := h.ext hx7
      replace h' := h'.ext hx7
      replace h5 := h5.ext hx7
      replace h6 := h6.ext hx7
      replace hb2 := hb2.ext hx7
      replace hb3 := hb3.ext hx7
      replace hb4 := hb4.ext hx7
      replace hD := hD.kp hx7
      replace hx := hx.trans hx7
      replace hr := hr.trans (Kp.of_ext hx7)
      clear hx7
      refine ⟨hr, ?_⟩
      refine callW_of cal218 (big_v (s := s') h7 (by omega) hD) ?_
      rintro _ w8 ⟨v8, rfl, hx8, h8⟩; refine ⟨_, rfl, ?_⟩
      replace h := h.ext hx8
      replace h' := h'.ext hx8
      replace h5 := h5.ext hx8
      replace h6 := h6.ext hx8
      replace h7 := h7.ext hx8
      replace hb2 := hb2.ext hx8
      replace hb3 := hb3.ext hx8
      replace hb4 := hb4.ext hx8
      replace hD := hD.kp hx8
      replace hx := hx.trans hx8
      clear hx8
      rw [val_lim] at h8
      rw [show sgn s' (r - p) = sgn s p + sgn s' r by rw [hs']; cases s <;> simp [sgn] <;> omega] at h8
      refine storeS hb4 siz35 rfl (fB_s h8) fun w90 hk90 hb90 => ?_
      refine hK _ _ ?_; clear hK
      refine W_ret ?_
      try simp only [thenE_r, inB_r]
      exact retS rfl (by first | exact rfl | assumption | exact (by (try simp only [upd_ap, Nat.reduceEqDiff, ↓reduceIte]); first | done | assumption | exact rfl)) agg35 hb90 (fB_s h8) (Rt.fin hx h8 hk90 (by simp) (by omega))
theorem iAdd_v (h : In (fB a) D v w) (h' : In (fB b) D v' w) (ha : bl a.natAbs ≤ 19000000) (hb : bl b.natAbs ≤ 19000000) (hf : Fr D w) : Calls Tryz.prog 217 #[v, v'] w (Rt (fB (a + b)) D w) := by
  obtain ⟨s, A, n, c, rfl, hB⟩ := h
  obtain ⟨s', A', n', c', rfl, hB'⟩ := h'
  have := iAdd_ok (s := s) (s' := s') hB.2.in hB'.2.in (by rw [len_bl]; omega) (by rw [len_bl]; omega) hf
  rwa [val_lim, val_lim, hB.sgn, hB'.sgn] at this
theorem iSub_v (h : In (fB a) D v w) (h' : In (fB b) D v' w) (ha : bl a.natAbs ≤ 19000000) (hb : bl b.natAbs ≤ 19000000) (hf : Fr D w) : Calls Tryz.prog 260 #[v, v'] w (Rt (fB (a - b)) D w) := by
  obtain ⟨s, A, n, c, rfl, hB⟩ := h
  obtain ⟨s', A', n', c', rfl, hB'⟩ := h'
  have h1 := hB.2.in
  have h2 := hB'.2.in
  refine calls_W Tryz.func260 rfl Tryz.ntmps260 (by kernel_rfl) ?_
  refine W_seq_reg fun K hK => ?_
  simp -implicitDefEqProofs (disch := omega) only [go_sem, Nat.reduceEqDiff, Nat.reduceAdd, ↓reduceIte]
  refine boxW_of ?_
  intro g2 w2 hg2 hx2 hb2 hs2
  refine boxW_of ?_
  intro g3 w3 hg3 hx3 hb3 hs3
  refine alW_of ?_
  intro g4 w4 hg4 hx4 hb4 hs4
  refine hK _ _ ?_; clear hK K
  have hx : Ext w w4 := ((hx2.trans hx3).trans hx4)
  replace hb2 := ((hb2.ext hx3).ext hx4)
  replace hb3 := (hb3.ext hx4)
  replace h1 := (h1.nL (L := [g2, g3, g4]) (by intro g hg; simp at hg; omega)).ext hx
  replace h2 := (h2.nL (L := [g2, g3, g4]) (by intro g hg; simp at hg; omega)).ext hx
  have hD : Fr (Dl D [g2, g3, g4]) w4 := hf.nL hx (by intro g hg; simp at hg; omega)
  clear hx2 hx3 hx4
  refine W_seq_reg fun K hK => ?_
  simp -implicitDefEqProofs (disch := omega) only [go_sem, Nat.reduceEqDiff, Nat.reduceAdd, ↓reduceIte, hb3.c0]
  refine storeW_fld hb3 siz4 rfl (Nat.succ_pos _) rfl fun w6 hk6 hz6 hs6 => ?_
  replace h1 := h1.ow hk6 (by simp)
  replace h2 := h2.ow hk6 (by simp)
  replace hb2 := hb2.kpne hk6 (by omega)
  replace hb4 := hb4.kpne hk6 (by omega)
  replace hD := hD.ow hk6
  replace hx := hx.under hk6 (fun k hk => by omega)
  clear hk6
  replace hb3 : Blk w6 g3 _ #[.bool !s', .slice A' n' c'] := hz6
  clear hz6
  refine hK _ _ ?_; clear hK
  refine W_seq_reg fun K hK => ?_
  simp -implicitDefEqProofs (disch := omega) only [go_sem, Nat.reduceEqDiff, Nat.reduceAdd, ↓reduceIte, hb2.l2, hb3.l2]
  refine callW_of cal217 (iAdd_ok (s := s) (s' := !s') h1 h2 (by rw [len_bl]; omega) (by rw [len_bl]; omega) hD) ?_
  rintro _ w7 ⟨v7, rfl, hx7, h7⟩; refine ⟨_, rfl, ?_⟩
  replace h1 := h1.ext hx7
  replace h2 := h2.ext hx7
  replace hb2 := hb2.ext hx7
  replace hb3 := hb3.ext hx7
  replace hb4 := hb4.ext hx7
  replace hD := hD.kp hx7
  replace hx := hx.trans hx7
  clear hx7
  rw [val_lim, val_lim, hB.sgn, show sgn (!s') b.natAbs = -b by have := hB'.sgn; cases s' <;> simp_all [sgn] <;> omega, ← Int.sub_eq_add_neg] at h7
  refine storeS hb4 siz35 rfl (fB_s h7) fun w90 hk90 hb90 => ?_
  refine hK _ _ ?_; clear hK
  refine W_ret ?_
  try simp only [thenE_r, inB_r]
  exact retS rfl (by first | exact rfl | assumption | exact (by (try simp only [upd_ap, Nat.reduceEqDiff, ↓reduceIte]); first | done | assumption | exact rfl)) agg35 hb90 (fB_s h7) (Rt.fin hx h7 hk90 (by simp) (by omega))
theorem iMul_v (h : In (fB a) D v w) (h' : In (fB b) D v' w) (ha : bl a.natAbs ≤ 9000000) (hb : bl b.natAbs ≤ 9000000) (hf : Fr D w) : Calls Tryz.prog 221 #[v, v'] w (Rt (fB (a * b)) D w) := by
  obtain ⟨s, A, n, c, rfl, hB⟩ := h
  obtain ⟨s', A', n', c', rfl, hB'⟩ := h'
  have h1 := hB.2.in
  have h2 := hB'.2.in
  have hml := bl_mul_le a.natAbs b.natAbs
  have hl1 := len_lim (x := a.natAbs * b.natAbs) (by omega)
  refine calls_W Tryz.func221 rfl Tryz.ntmps221 (by kernel_rfl) ?_
  refine W_seq_reg fun K hK => ?_
  simp -implicitDefEqProofs (disch := omega) only [go_sem, Nat.reduceEqDiff, Nat.reduceAdd, ↓reduceIte]
  refine boxW_of ?_
  intro g2 w2 hg2 hx2 hb2 hs2
  refine boxW_of ?_
  intro g3 w3 hg3 hx3 hb3 hs3
  refine alW_of ?_
  intro g4 w4 hg4 hx4 hb4 hs4
  refine hK _ _ ?_; clear hK K
  have hx : Ext w w4 := ((hx2.trans hx3).trans hx4)
  replace hb2 := ((hb2.ext hx3).ext hx4)
  replace hb3 := (hb3.ext hx4)
  replace h1 := (h1.nL (L := [g2, g3, g4]) (by intro g hg; simp at hg; omega)).ext hx
  replace h2 := (h2.nL (L := [g2, g3, g4]) (by intro g hg; simp at hg; omega)).ext hx
  have hD : Fr (Dl D [g2, g3, g4]) w4 := hf.nL hx (by intro g hg; simp at hg; omega)
  clear hx2 hx3 hx4
  refine W_seq_k fun K hK => ?_
  refine W_dC mixed (Kp (fun k => k ∉ ([] : List Nat))) (fun _ _ => False) (Kp.pre _) [true, true, true, true, true, true, true, false, true, true, false, false, false, false] [false, false, false, false, false, false, false, false, false, false, false, false, false, false] [1, 1, 1, 1, 1, 1, 1, 0, 1, 1, 0, 0, 1, 1] (by kernel_rfl) ?_
  apply Exists.intro
  refine ⟨fun wE hE KE hKE => ?_, fun wE hE KE hKE => ?_, fun wE hxE hr => ?_⟩
  · skip
    replace hE := Kp.all hE
    replace hb2 := hb2.ext hE
    replace hb3 := hb3.ext hE
    replace hb4 := hb4.ext hE
    replace h1 := h1.ext hE
    replace h2 := h2.ext hE
    simp -implicitDefEqProofs (disch := omega) only [go_sem, Nat.reduceEqDiff, Nat.reduceAdd, ↓reduceIte, hb2.c0, hb2.c1, hb3.c0, hb3.c1]
    exact hKE
  · exact hE.elim
  simp only [selP_t, selP_f, selP_n]
  replace h1 := h1.ext hxE
  replace h2 := h2.ext hxE
  replace hb2 := hb2.ext hxE
  replace hb3 := hb3.ext hxE
  replace hb4 := hb4.ext hxE
  replace hD := hD.kp hxE
  replace hx := hx.trans hxE
  simp -implicitDefEqProofs (disch := omega) only [go_sem, Nat.reduceEqDiff, Nat.reduceAdd, ↓reduceIte, List.toList_toArray, hb2.c0, hb2.c1, hb3.c0, hb3.c1]
  refine callW_of cal245 (trimL_v h1 (by omega)) ?_
  rintro _ w5 ⟨v5, rfl, hx5, h5⟩; refine ⟨_, rfl, ?_⟩
  replace h1 := h1.ext hx5
  replace h2 := h2.ext hx5
  replace hb2 := hb2.ext hx5
  replace hb3 := hb3.ext hx5
  replace hb4 := hb4.ext hx5
  replace hD := hD.kp hx5
  replace hx := hx.trans hx5
  replace hr := hr.trans (Kp.of_ext hx5)
  clear hx5
  refine ⟨hr, ?_⟩
  refine callW_of cal245 (trimL_v h2 (by omega)) ?_
  rintro _ w6 ⟨v6, rfl, hx6, h6⟩; refine ⟨_, rfl, ?_⟩
  replace h1 := h1.ext hx6
  replace h2 := h2.ext hx6
  replace h5 := h5.ext hx6
  replace hb2 := hb2.ext hx6
  replace hb3 := hb3.ext hx6
  replace hb4 := hb4.ext hx6
  replace hD := hD.kp hx6
  replace hx := hx.trans hx6
  replace hr := hr.trans (Kp.of_ext hx6)
  clear hx6
  refine ⟨hr, ?_⟩
  refine callW_of cal253 (times_v h5 h6 (by omega) (by omega) hD) ?_
  rintro _ w7 ⟨v7, rfl, hx7, h7⟩; refine ⟨_, rfl, ?_⟩
  replace h1 := h1.ext hx7
  replace h2 := h2.ext hx7
  replace h5 := h5.ext hx7
  replace h6 := h6.ext hx7
  replace hb2 := hb2.ext hx7
  replace hb3 := hb3.ext hx7
  replace hb4 := hb4.ext hx7
  replace hD := hD.kp hx7
  replace hx := hx.trans hx7
  replace hr := hr.trans (Kp.of_ext hx7)
  clear hx7
  refine ⟨hr, ?_⟩
  refine callW_of cal218 (big_v (s := s != s') h7 (by omega) hD) ?_
  rintro _ w8 ⟨v8, rfl, hx8, h8⟩; refine ⟨_, rfl, ?_⟩
  replace h1 := h1.ext hx8
  replace h2 := h2.ext hx8
  replace h5 := h5.ext hx8
  replace h6 := h6.ext hx8
  replace h7 := h7.ext hx8
  replace hb2 := hb2.ext hx8
  replace hb3 := hb3.ext hx8
  replace hb4 := hb4.ext hx8
  replace hD := hD.kp hx8
  replace hx := hx.trans hx8
  clear hx8
  rw [val_lim, ← sgn_mul, hB.sgn, hB'.sgn] at h8
  refine storeS hb4 siz35 rfl (fB_s h8) fun w90 hk90 hb90 => ?_
  refine hK _ _ ?_; clear hK
  refine W_ret ?_
  try simp only [thenE_r, inB_r]
  exact retS rfl (by first | exact rfl | assumption | exact (by (try simp only [upd_ap, Nat.reduceEqDiff, ↓reduceIte]); first | done | assumption | exact rfl)) agg35 hb90 (fB_s h8) (Rt.fin hx h8 hk90 (by simp) (by omega))
theorem iCmp_v (h : In (fB a) D v w) (h' : In (fB b) D v' w) (ha : bl a.natAbs ≤ 19000000) (hb : bl b.natAbs ≤ 19000000) : Calls Tryz.prog 261 #[v, v'] w fun e w' => e = .returned (.int .i64 (Int.sign (a - b))) ∧ Ext w w' := by
  obtain ⟨s, A, n, c, rfl, _⟩ := id h
  obtain ⟨s', A', n', c', rfl, _⟩ := id h'
  have h1 := h.mag
  have h2 := h'.mag
  refine calls_W Tryz.func261 rfl Tryz.ntmps261 (by kernel_rfl) ?_
  refine W_seq_reg fun K hK => ?_
  simp -implicitDefEqProofs (disch := omega) only [go_sem, Nat.reduceEqDiff, Nat.reduceAdd, ↓reduceIte]
  refine boxW_of ?_
  intro g2 w2 hg2 hx2 hb2 hs2
  refine boxW_of ?_
  intro g3 w3 hg3 hx3 hb3 hs3
  refine hK _ _ ?_; clear hK K
  have hx : Ext w w3 := (hx2.trans hx3)
  replace hb2 := (hb2.ext hx3)
  replace h := h.ext hx
  replace h' := h'.ext hx
  replace h1 := h1.ext hx
  replace h2 := h2.ext hx
  clear hx2 hx3
  refine W_seq_k fun K hK => ?_
  refine W_dC mixed (Kp (fun k => k ∉ ([] : List Nat))) (fun _ _ => False) (Kp.pre _) [true, false, true, false, false, false] [false, false, false, false, false, false] [1, 0, 1, 1, 1, 1] (by kernel_rfl) ?_
  apply Exists.intro
  refine ⟨fun wE hE KE hKE => ?_, fun wE hE KE hKE => ?_, fun wE hxE hr => ?_⟩
  · skip
    replace hE := Kp.all hE
    replace hb2 := hb2.ext hE
    replace hb3 := hb3.ext hE
    replace h := h.ext hE
    replace h' := h'.ext hE
    replace h1 := h1.ext hE
    replace h2 := h2.ext hE
    simp -implicitDefEqProofs (disch := omega) only [go_sem, Nat.reduceEqDiff, Nat.reduceAdd, ↓reduceIte, hb2.l2, hb3.l2]
    exact hKE
  · exact hE.elim
  simp only [selP_t, selP_f, selP_n]
  replace h := h.ext hxE
  replace h' := h'.ext hxE
  replace h1 := h1.ext hxE
  replace h2 := h2.ext hxE
  replace hb2 := hb2.ext hxE
  replace hb3 := hb3.ext hxE
  replace hx := hx.trans hxE
  simp -implicitDefEqProofs (disch := omega) only [go_sem, Nat.reduceEqDiff, Nat.reduceAdd, ↓reduceIte, List.toList_toArray, hb2.l2, hb3.l2]
  refine callW_of cal199 (iSign_v h (by omega)) ?_
  rintro _ w5 ⟨rfl, hx5⟩; refine ⟨_, rfl, ?_⟩
  replace h := h.ext hx5
  replace h' := h'.ext hx5
  replace h1 := h1.ext hx5
  replace h2 := h2.ext hx5
  replace hb2 := hb2.ext hx5
  replace hb3 := hb3.ext hx5
  replace hx := hx.trans hx5
  replace hr := hr.trans (Kp.of_ext hx5)
  clear hx5
  refine ⟨hr, ?_⟩
  refine callW_of cal199 (iSign_v h' (by omega)) ?_
  rintro _ w6 ⟨rfl, hx6⟩; refine ⟨_, rfl, ?_⟩
  replace h := h.ext hx6
  replace h' := h'.ext hx6
  replace h1 := h1.ext hx6
  replace h2 := h2.ext hx6
  replace hb2 := hb2.ext hx6
  replace hb3 := hb3.ext hx6
  replace hx := hx.trans hx6
  clear hx6
  simp only [thenE_n]
  refine hK _ _ ?_; clear hK K
  refine W_seq_blk fun K0 hK0 => ?_
  have hsa : a.sign = if a < 0 then -1 else if a = 0 then 0 else 1 := by
    rcases Int.lt_trichotomy a 0 with h | h | h
    · rw [if_pos h, Int.sign_eq_neg_one_of_neg h]
    · subst h; rfl
    · rw [if_neg (by omega), if_neg (by omega), Int.sign_eq_one_of_pos h]
  have hsb : b.sign = if b < 0 then -1 else if b = 0 then 0 else 1 := by
    rcases Int.lt_trichotomy b 0 with h | h | h
    · rw [if_pos h, Int.sign_eq_neg_one_of_neg h]
    · subst h; rfl
    · rw [if_neg (by omega), if_neg (by omega), Int.sign_eq_one_of_pos h]
  obtain ⟨p, hp⟩ : ∃ p, p = a.sign := ⟨_, rfl⟩
  obtain ⟨r, hre⟩ : ∃ r, r = b.sign := ⟨_, rfl⟩
  rw [← hp, ← hre]
  rw [← hp] at hsa
  rw [← hre] at hsb
  by_cases hlt : p < r
  · refine W_seq_reg fun K hK => ?_
    simp -implicitDefEqProofs (disch := omega) only [go_sem, Nat.reduceEqDiff, Nat.reduceAdd, ↓reduceIte, hlt]
    refine hK _ _ ?_; clear hK K
    refine W_cond rfl (fun hc => ?_) (fun hc => by cases hc)
    refine W_seq_reg fun K hK => ?_
    simp -implicitDefEqProofs (disch := omega) only [go_sem, Nat.reduceEqDiff, Nat.reduceAdd, ↓reduceIte]
    refine hK _ _ ?_; clear hK K
    have hab : a < b := by split at hsa <;> split at hsb <;> (try split at hsa) <;> (try split at hsb) <;> omega
    refine W_ret ?_
    try simp only [thenE_r, inB_r]
    refine ret1 rfl ⟨by rw [Int.sign_eq_neg_one_of_neg (by omega)]; rfl, hx⟩
  · refine W_seq_reg fun K hK => ?_
    simp -implicitDefEqProofs (disch := omega) only [go_sem, Nat.reduceEqDiff, Nat.reduceAdd, ↓reduceIte, hlt]
    refine hK _ _ ?_; clear hK K
    refine W_cond rfl (fun hc => by cases hc) (fun hc => ?_)
    by_cases hgt : p > r
    · refine W_seq_reg fun K hK => ?_
      simp -implicitDefEqProofs (disch := omega) only [go_sem, Nat.reduceEqDiff, Nat.reduceAdd, ↓reduceIte, hgt]
      refine hK _ _ ?_; clear hK K
      refine W_cond rfl (fun hc => ?_) (fun hc => by cases hc)
      refine W_seq_reg fun K hK => ?_
      simp -implicitDefEqProofs (disch := omega) only [go_sem, Nat.reduceEqDiff, Nat.reduceAdd, ↓reduceIte]
      refine hK _ _ ?_; clear hK K
      have hab : b < a := by split at hsa <;> split at hsb <;> (try split at hsa) <;> (try split at hsb) <;> omega
      refine W_ret ?_
      try simp only [thenE_r, inB_r]
      refine ret1 rfl ⟨by rw [Int.sign_eq_one_of_pos (by omega)]; rfl, hx⟩
    · refine W_seq_reg fun K hK => ?_
      simp -implicitDefEqProofs (disch := omega) only [go_sem, Nat.reduceEqDiff, Nat.reduceAdd, ↓reduceIte, hgt]
      refine hK _ _ ?_; clear hK K
      refine W_cond rfl (fun hc => by cases hc) (fun hc => W_skip (hK0 _ _ ?_))
      clear hK0
      have hpr : p = r := by omega
      refine W_seq_k fun K hK => ?_
      refine W_dC mixed (Kp (fun k => k ∉ ([] : List Nat))) (fun _ _ => False) (Kp.pre _) [true, true, true, false, true, true, false, false, false, false] [false, false, false, false, false, false, false, false, false, false] [1, 1, 1, 0, 1, 1, 0, 0, 1, 1] (by kernel_rfl) ?_
      apply Exists.intro
      refine ⟨fun wE hE KE hKE => ?_, fun wE hE KE hKE => ?_, fun wE hxE hr => ?_⟩
      · skip
        replace hE := Kp.all hE
        replace hb2 := hb2.ext hE
        replace hb3 := hb3.ext hE
        replace h := h.ext hE
        replace h' := h'.ext hE
        replace h1 := h1.ext hE
        replace h2 := h2.ext hE
        simp -implicitDefEqProofs (disch := omega) only [go_sem, Nat.reduceEqDiff, Nat.reduceAdd, ↓reduceIte, hb2.c1, hb3.c1]
        exact hKE
      · exact hE.elim
      simp only [selP_t, selP_f, selP_n]
      replace h := h.ext hxE
      replace h' := h'.ext hxE
      replace h1 := h1.ext hxE
      replace h2 := h2.ext hxE
      replace hb2 := hb2.ext hxE
      replace hb3 := hb3.ext hxE
      replace hx := hx.trans hxE
      simp -implicitDefEqProofs (disch := omega) only [go_sem, Nat.reduceEqDiff, Nat.reduceAdd, ↓reduceIte, List.toList_toArray, hb2.c1, hb3.c1]
      refine callW_of cal245 (trimL_v h1 (by omega)) ?_
      rintro _ w7 ⟨v7, rfl, hx7, h7⟩; refine ⟨_, rfl, ?_⟩
      replace h := h.ext hx7
      replace h' := h'.ext hx7
      replace h1 := h1.ext hx7
      replace h2 := h2.ext hx7
      replace hb2 := hb2.ext hx7
      replace hb3 := hb3.ext hx7
      replace hx := hx.trans hx7
      replace hr := hr.trans (Kp.of_ext hx7)
      clear hx7
      refine ⟨hr, ?_⟩
      refine callW_of cal245 (trimL_v h2 (by omega)) ?_
      rintro _ w8 ⟨v8, rfl, hx8, h8⟩; refine ⟨_, rfl, ?_⟩
      replace h := h.ext hx8
      replace h' := h'.ext hx8
      replace h1 := h1.ext hx8
      replace h2 := h2.ext hx8
      replace h7 := h7.ext hx8
      replace hb2 := hb2.ext hx8
      replace hb3 := hb3.ext hx8
      replace hx := hx.trans hx8
      replace hr := hr.trans (Kp.of_ext hx8)
      clear hx8
      refine ⟨hr, ?_⟩
      refine callW_of cal252 (compare_v h7 h8 (by omega) (by omega)) ?_
      rintro _ w9 ⟨rfl, hx9⟩; refine ⟨_, rfl, ?_⟩
      replace h := h.ext hx9
      replace h' := h'.ext hx9
      replace h1 := h1.ext hx9
      replace h2 := h2.ext hx9
      replace h7 := h7.ext hx9
      replace h8 := h8.ext hx9
      replace hb2 := hb2.ext hx9
      replace hb3 := hb3.ext hx9
      replace hx := hx.trans hx9
      replace hr := hr.trans (Kp.of_ext hx9)
      clear hx9
      refine ⟨hr, ?_⟩
      have hm : IntKind.i64.wrap (p * cmpI a.natAbs b.natAbs) = Int.sign (a - b) := by
        have hval : p * cmpI a.natAbs b.natAbs = Int.sign (a - b) := by
          have hsd : (a - b).sign = if a < b then -1 else if a = b then 0 else 1 := by
            rcases Int.lt_trichotomy a b with h | h | h
            · rw [if_pos h, Int.sign_eq_neg_one_of_neg (by omega)]
            · subst h; simp
            · rw [if_neg (by omega), if_neg (by omega), Int.sign_eq_one_of_pos (by omega)]
          rw [hsd]
          unfold cmpI
          rw [hsa] at hpr ⊢
          rw [hsb] at hpr
          by_cases ha0 : a < 0
          · simp only [ha0, if_true] at hpr ⊢
            have hb0 : b < 0 := by
              by_cases hb0 : b < 0
              · exact hb0
              · rw [if_neg hb0] at hpr; split at hpr <;> omega
            split
            · rw [if_neg (by omega), if_neg (by omega)]; rfl
            · split
              · rw [if_neg (by omega), if_pos (by omega)]; rfl
              · rw [if_pos (by omega)]; rfl
          · by_cases ha1 : a = 0
            · subst ha1
              have hb0 : b = 0 := by
                by_cases hb0 : b < 0
                · simp [hb0] at hpr
                · by_cases hb1 : b = 0
                  · exact hb1
                  · simp [hb0, hb1] at hpr
              subst hb0; simp
            · simp only [ha0, ha1, if_false] at hpr ⊢
              have hb0 : 0 < b := by
                by_cases hb0 : b < 0
                · simp [hb0] at hpr
                · by_cases hb1 : b = 0
                  · simp [hb1] at hpr
                  · omega
              rw [Int.one_mul]
              split
              · rw [if_pos (by omega)]
              · split
                · rw [if_neg (by omega), if_pos (by omega)]
                · rw [if_neg (by omega), if_neg (by omega)]
        rw [hval]
        have : -1 ≤ Int.sign (a - b) ∧ Int.sign (a - b) ≤ 1 := by
          rcases Int.lt_trichotomy (a - b) 0 with h | h | h
          · rw [Int.sign_eq_neg_one_of_neg h]; omega
          · rw [h]; decide
          · rw [Int.sign_eq_one_of_pos h]; omega
        exact i64_in (by omega) (by omega)
      simp only [go_sem, hm, thenE_n]
      refine hK _ _ ?_; clear hK K
      refine W_ret ?_
      try simp only [thenE_r, inB_r]
      refine ret1 rfl ⟨rfl, hx⟩
theorem iInt_v (h : In (fB a) D v w) (h0 : 0 ≤ a) (ha : a ≤ 9223372036854775807) : Calls Tryz.prog 208 #[v] w fun e w' => e = .returned (.tuple #[.int .i64 a, .bool true]) ∧ Ext w w' := by
  obtain ⟨s, A, n, c, rfl, _⟩ := id h
  have hm := h.mag
  have hs : s = false := by rw [h.sg]; exact decide_eq_false (by omega)
  subst hs
  have hbl : bl a.natAbs ≤ 63 := bl_le_of (Nat.lt_of_le_of_lt (show a.natAbs ≤ 9223372036854775807 by omega) (by decide))
  refine calls_W Tryz.func208 rfl Tryz.ntmps208 (by kernel_rfl) ?_
  refine W_seq_reg fun K hK => ?_
  simp -implicitDefEqProofs (disch := omega) only [go_sem, Nat.reduceEqDiff, Nat.reduceAdd, ↓reduceIte]
  refine boxW_of ?_
  intro g1 w1 hg1 hx1 hb1 hs1
  refine hK _ _ ?_; clear hK K
  have hx : Ext w w1 := hx1
  replace hm := hm.ext hx
  clear hx1
  refine W_seq_reg fun K hK => ?_
  simp -implicitDefEqProofs (disch := omega) only [go_sem, Nat.reduceEqDiff, Nat.reduceAdd, ↓reduceIte, hb1.c1]
  refine callW_of cal245 (trimL_v hm (by omega)) ?_
  rintro _ w2 ⟨v2, rfl, hx2, h2⟩; refine ⟨_, rfl, ?_⟩
  replace hm := hm.ext hx2
  replace hb1 := hb1.ext hx2
  replace hx := hx.trans hx2
  clear hx2
  obtain ⟨A2, n2, c2, rfl, _⟩ := id h2
  have hlen := h2.u32.len
  have hn2 : n2 ≤ 2 := by rw [← hlen, len_bl]; omega
  have hn2' : ¬ (n2 : Int) > 2 := by omega
  refine hK _ _ ?_; clear hK
  refine W_seq_k fun K0 hK0 => ?_
  refine W_seq_reg fun K hK => ?_
  simp -implicitDefEqProofs (disch := omega) only [go_sem, Nat.reduceEqDiff, Nat.reduceAdd, ↓reduceIte, hn2']
  refine hK _ _ ?_; clear hK K
  refine W_cond rfl (fun hc => by cases hc) (fun hc => W_skip (hK0 _ _ ?_))
  clear hK0
  refine W_seq_reg fun K hK => ?_
  simp -implicitDefEqProofs (disch := omega) only [go_sem, Nat.reduceEqDiff, Nat.reduceAdd, ↓reduceIte]
  refine hK _ _ ?_; clear hK K
  refine W_seq_k fun K0 hK0 => ?_
  refine W_seq_reg fun K hK => ?_
  simp -implicitDefEqProofs (disch := omega) only [go_sem, Nat.reduceEqDiff, Nat.reduceAdd, ↓reduceIte]
  refine hK _ _ ?_; clear hK K
  refine W_block ?_
  refine W_loop (fun e2 w2' => w2' = w2 ∧ ∃ i : Nat, e2 16 = .int .i64 i ∧ e2 5 = .int .u64 (val ((lim a.natAbs).take i) : Nat) ∧ i ≤ n2) (fun e2 _ => n2 - (RowKit.intOf (e2 16)).toNat) ⟨rfl, 0, rfl, (by (try simp only [upd_ap, Nat.reduceEqDiff, ↓reduceIte]); first | done | assumption | exact rfl), Nat.zero_le _⟩ ?_
  rintro e1 w1 ⟨rfl, i, k16, k5, hi⟩ hkk
  have k1 : e1 1 = .pointer (some ⟨g1, 0, none⟩) := (hkk 1 (by kernel_rfl)).trans (by (try simp only [upd_ap, Nat.reduceEqDiff, ↓reduceIte]); first | done | assumption | exact rfl)
  have k14 : e1 14 = .slice A2 n2 c2 := (hkk 14 (by kernel_rfl)).trans (by (try simp only [upd_ap, Nat.reduceEqDiff, ↓reduceIte]); first | done | assumption | exact rfl)
  have k15 : e1 15 = .int .i64 n2 := (hkk 15 (by kernel_rfl)).trans (by (try simp only [upd_ap, Nat.reduceEqDiff, ↓reduceIte]); first | done | assumption | exact rfl)
  clear hkk
  by_cases hlt : i < n2
  · have hlt' : (i : Int) < n2 := by omega
    refine W_seq_reg fun K hK => ?_
    simp -implicitDefEqProofs (disch := omega) only [go_sem, Nat.reduceEqDiff, Nat.reduceAdd, ↓reduceIte, k16, k15, hlt']
    refine hK _ _ ?_; clear hK K
    refine W_seq_k fun K1 hK1 => ?_
    refine W_cond rfl (fun hc1 => W_skip (hK1 _ _ ?_)) (fun hc1 => by cases hc1)
    clear hK1
    refine W_seq_blk fun K hK => ?_
    have e2 : (0 : Int) ≤ i ∧ (i : Int) < n2 := by omega
    obtain ⟨ad, rfl, -⟩ := h2.u32.cell hlt
    have hd := h2.u32.dg_lt i
    have hs : IntKind.i64.wrap (32 * (i : Int)) = ((32 * i : Nat) : Int) := by rw [i64_in (by omega) (by omega)]; omega
    have hp : 2 ^ (32 * i) ≤ 4294967296 := Nat.pow_le_pow_right (n := 2) (by omega) (show 32 * i ≤ 32 by omega)
    have hmu : dg (lim a.natAbs) i * 2 ^ (32 * i) ≤ 4294967295 * 4294967296 := Nat.mul_le_mul (by omega) hp
    have e3 : dg (lim a.natAbs) i * 2 ^ (32 * i) % 18446744073709551616 = dg (lim a.natAbs) i * 2 ^ (32 * i) := Nat.mod_eq_of_lt (by omega)
    have hvt := val_lt ((lim_all a.natAbs).take i)
    rw [List.length_take, Nat.min_eq_left (by omega), B_eq, ← Nat.pow_mul] at hvt
    have e4 : val ((lim a.natAbs).take i) ||| dg (lim a.natAbs) i * 2 ^ (32 * i) = val ((lim a.natAbs).take (i + 1)) := by
      rw [or_add hvt, vts, B_eq, ← Nat.pow_mul, Nat.mul_comm (2 ^ (32 * i))]; rfl
    have hvl : val ((lim a.natAbs).take i) < 18446744073709551616 := by omega
    refine W_seq_reg fun K hK => ?_
    simp -implicitDefEqProofs (disch := omega) only [go_sem, Nat.reduceEqDiff, Nat.reduceAdd, ↓reduceIte, k14, k16, e2, h2.u32.cx hlt]
    refine hK _ _ ?_; clear hK K
    refine W_regK fun K9 hK9 => ?_
    simp -implicitDefEqProofs (disch := omega) only [go_sem, Nat.reduceEqDiff, Nat.reduceAdd, ↓reduceIte, k5, hs, e3, e4]
    refine hK9 _ _ ?_; clear hK9 K9
    refine hK _ _ ?_; clear hK
    refine W_regK fun K9 hK9 => ?_
    simp -implicitDefEqProofs (disch := omega) only [go_sem, Nat.reduceEqDiff, Nat.reduceAdd, ↓reduceIte, k16, i64_in]
    refine hK9 _ _ ?_; clear hK9 K9
    exact ⟨⟨rfl, i + 1, rfl, (by (try simp only [upd_ap, Nat.reduceEqDiff, ↓reduceIte]); first | done | assumption | exact rfl), by omega⟩, by simp only [upd_ap, ↓reduceIte, RowKit.intOf, k16]; omega⟩
  · have hlt' : ¬ (i : Int) < n2 := by omega
    refine W_seq_reg fun K hK => ?_
    simp -implicitDefEqProofs (disch := omega) only [go_sem, Nat.reduceEqDiff, Nat.reduceAdd, ↓reduceIte, k16, k15, hlt']
    refine hK _ _ ?_; clear hK K
    refine W_seq_k fun K1 hK1 => ?_
    refine W_cond rfl (fun hc1 => by cases hc1) (fun hc1 => W_exit (hK0 _ _ ?_))
    clear hK0 hK1
    rw [val_take_ge _ _ (by omega), val_lim] at k5
    have e1 : ((a.natAbs : Nat) : Int) < 9223372036854775808 := by omega
    have e2 : IntKind.i64.wrap ((a.natAbs : Nat) : Int) = a := by rw [i64_in (by omega) (by omega)]; omega
    refine W_seq_blk fun K hK => ?_
    refine W_seq_reg fun K hK => ?_
    simp -implicitDefEqProofs (disch := omega) only [go_sem, Nat.reduceEqDiff, Nat.reduceAdd, ↓reduceIte, k1, hb1.c0]
    refine hK _ _ ?_; clear hK K
    refine W_cond rfl (fun hc => by cases hc) (fun hc => ?_)
    refine W_seq_reg fun K hK => ?_
    simp -implicitDefEqProofs (disch := omega) only [go_sem, Nat.reduceEqDiff, Nat.reduceAdd, ↓reduceIte, k1, k5, hb1.c0, e1]
    refine hK _ _ ?_; clear hK K
    refine W_cond rfl (fun hc => ?_) (fun hc => by cases hc)
    refine W_seq_reg fun K hK => ?_
    simp -implicitDefEqProofs (disch := omega) only [go_sem, Nat.reduceEqDiff, Nat.reduceAdd, ↓reduceIte, k5, e2]
    refine hK _ _ ?_; clear hK K
    refine W_ret ?_
    try simp only [thenE_r, inB_r]
    refine ret2 rfl ⟨rfl, hx⟩
end
end Go.Proofs.YtjamnehcmaloeaaGreatDoor
end
section
namespace Go.Proofs.YtjamnehcmaloeaaGreatDoor
open Go Go.E Go.Sp
theorem short_step {d r x q v V vo B : Nat} (hq : q = (r * B + x) / d) (hV : V = x + B * v) (hv : v = vo * d + r) : V = (q + B * vo) * d + (r * B + x) % d := by
  have := Nat.div_add_mod (r * B + x) d
  rw [← hq] at this
  rw [hV, hv, Nat.mul_add, Nat.add_mul, Nat.mul_comm q d, Nat.mul_comm B r, Nat.mul_assoc]
  omega
theorem sgn_pow (s : Bool) (x k : Nat) : sgn s (x * 2 ^ k) = sgn s x * (2 : Int) ^ k := by
  cases s <;> simp [sgn, Int.neg_mul]
theorem own1 {w w1 : World} {a : Nat} (hb : Blk w1 w.heap.size 90 #[.int .u32 a]) (ha : a < 4294967296) : OwnU w1 w.heap.size (some ⟨w.heap.size, 0, none⟩) 1 1 [a] := by
  refine ⟨?_, fun d hd => ?_⟩
  · have := Own.made (w := w1) (w' := w) (B := w.heap.size) (sz := 1) (n := 1) (c := 1) hb (Nat.le_refl _) (by simp [maxLen]) rfl (Nat.le_refl _)
    simpa [u32v] using this
  · simp at hd; subst hd; exact ha
theorem bl_one : bl 1 = 1 := rfl
theorem lim_one : lim 1 = [1] := rfl
theorem short_ok {D : Nat → Prop} {A : Option Addr} {n c d : Nat} {x : Nat} {w : World} (h : In (fU (lim x)) D (.slice A n c) w) (hb : n ≤ 400000000) (hd0 : d ≠ 0) (hd : d < 4294967296) (hf : Fr D w) :
    Calls Tryz.prog 262 #[.slice A n c, .int .u32 (d : Nat)] w (Rt (fP (fU (lim (x / d))) (fc (.int .u32 ((x % d : Nat) : Int)))) D w) := by
  have hl := h.u32.len
  refine calls_W Tryz.func262 rfl Tryz.ntmps262 (by kernel_rfl) ?_
  refine W_seq_reg fun K hK => ?_
  simp -implicitDefEqProofs (disch := omega) only [go_sem, Nat.reduceEqDiff, Nat.reduceAdd, ↓reduceIte]
  refine hK _ _ ?_; clear hK K
  refine W_seq_reg fun K hK => ?_
  simp -implicitDefEqProofs (disch := omega) only [go_sem, Nat.reduceEqDiff, Nat.reduceAdd, ↓reduceIte]
  refine mkU (Nat.le_refl _) (by omega) fun w0 hx0 hO0 => ?_
  generalize hg : w.heap.size = g at hO0
  refine hK _ _ ?_; clear hK
  refine W_seq_reg fun K hK => ?_
  simp -implicitDefEqProofs (disch := omega) only [go_sem, Nat.reduceEqDiff, Nat.reduceAdd, ↓reduceIte]
  refine hK _ _ ?_; clear hK K
  refine W_seq_k fun K0 hK0 => ?_
  refine W_seq_reg fun K hK => ?_
  simp -implicitDefEqProofs (disch := omega) only [go_sem, Nat.reduceEqDiff, Nat.reduceAdd, ↓reduceIte]
  refine hK _ _ ?_; clear hK K
  refine W_block ?_
  refine W_loop (fun e2 w2 => ∃ (i r : Nat) (o : List Nat), e2 8 = .int .i64 ((i : Int) - 1) ∧ e2 7 = .int .u64 r ∧ i ≤ n ∧ r < d ∧ Ext w w2 ∧ OwnU w2 g (some ⟨g, 0, none⟩) n n o ∧ val ((lim x).drop i) = val (o.drop i) * d + r) (fun e2 _ => (RowKit.intOf (e2 8) + 1).toNat) ⟨n, 0, _, by simp only [upd_ap, Nat.reduceEqDiff, ↓reduceIte]; rw [i64_in (by omega) (by omega)], (by (try simp only [upd_ap, Nat.reduceEqDiff, ↓reduceIte]); first | done | assumption | exact rfl), Nat.le_refl _, by omega, hx0, hO0, by rw [List.drop_of_length_le (by omega), List.drop_of_length_le (by simp)]; simp [val]⟩ ?_
  rintro e1 w1 ⟨i, r, o, k8, k7, hin, hr0, hx, hO, hv⟩ hkk
  have k0 : e1 0 = .slice A n c := (hkk 0 (by kernel_rfl)).trans (by (try simp only [upd_ap, Nat.reduceEqDiff, ↓reduceIte]); first | done | assumption | exact rfl)
  have k1 : e1 1 = .int .u32 d := (hkk 1 (by kernel_rfl)).trans (by (try simp only [upd_ap, Nat.reduceEqDiff, ↓reduceIte]); first | done | assumption | exact rfl)
  have k6 : e1 6 = .slice (some ⟨g, 0, none⟩) n n := (hkk 6 (by kernel_rfl)).trans (by (try simp only [upd_ap, Nat.reduceEqDiff, ↓reduceIte]); first | done | assumption | exact rfl)
  clear hkk
  have hol := hO.len
  refine W_seq_k fun K1 hK1 => ?_
  rcases i with _ | j
  · have q : ¬ (((0 : Nat) : Int) - 1 ≥ 0) := by omega
    refine W_seq_reg fun K hK => ?_
    simp -implicitDefEqProofs (disch := omega) only [go_sem, Nat.reduceEqDiff, Nat.reduceAdd, ↓reduceIte, k8, q]
    refine hK _ _ ?_; clear hK K
    refine W_cond rfl (fun hc1 => by cases hc1) (fun hc1 => W_exit (hK0 _ _ ?_))
    clear hK0 hK1
    rw [List.drop_zero, List.drop_zero, val_lim] at hv
    have hdv : x / d = val o := by rw [hv, Nat.mul_comm, Nat.mul_add_div (by omega), Nat.div_eq_of_lt hr0]; omega
    have hmv : x % d = r := by rw [hv, Nat.mul_comm, Nat.mul_add_mod, Nat.mod_eq_of_lt hr0]
    rw [hdv, hmv]
    have er : r % 4294967296 = r := Nat.mod_eq_of_lt (by omega)
    refine W_seq_reg fun K9 hK9 => ?_
    simp -implicitDefEqProofs (disch := omega) only [go_sem, Nat.reduceEqDiff, Nat.reduceAdd, ↓reduceIte, k6, k7, er]
    refine callW_of cal245 (trimR (hO.u32 fun k hk => hf k (by omega)) (by omega)) ?_
    rintro _ w4 ⟨v4, rfl, hx4, h4⟩; refine ⟨_, rfl, ?_⟩
    refine hK9 _ _ ?_; clear hK9
    refine W_ret ?_
    try simp only [thenE_r, inB_r]
    refine ret2 rfl ⟨_, rfl, hx.trans hx4, ⟨_, _, rfl, by simp only [upd_ap, Nat.reduceEqDiff, ↓reduceIte]; exact h4, (by (try simp only [upd_ap, Nat.reduceEqDiff, ↓reduceIte]); first | done | assumption | exact rfl)⟩⟩
  · have q : (((j + 1 : Nat) : Int) - 1 ≥ 0) := by omega
    have k8' : e1 8 = .int .i64 j := by rw [k8]; congr 1; omega
    have q' : ((j : Int) ≥ 0) := by omega
    refine W_seq_reg fun K hK => ?_
    simp -implicitDefEqProofs (disch := omega) only [go_sem, Nat.reduceEqDiff, Nat.reduceAdd, ↓reduceIte, k8', q']
    refine hK _ _ ?_; clear hK K
    refine W_cond rfl (fun hc1 => W_skip (hK1 _ _ ?_)) (fun hc1 => by cases hc1)
    clear hK1
    refine W_seq_blk fun K hK => ?_
    have hj : j < n := by omega
    obtain ⟨ad, rfl, -⟩ := h.u32.cell hj
    have e2 : (0 : Int) ≤ j ∧ (j : Int) < n := by omega
    have hdg := h.u32.dg_lt j
    have hrB : r * 4294967296 ≤ 4294967294 * 4294967296 := Nat.mul_le_mul_right _ (by omega)
    have e3 : r * 4294967296 % 18446744073709551616 = r * 4294967296 := Nat.mod_eq_of_lt (by omega)
    have e4 : r * 4294967296 ||| dg (lim x) j = r * 4294967296 + dg (lim x) j := by
      rw [Nat.or_comm, Nat.add_comm]; exact or_add (k := 32) hdg
    refine W_seq_reg fun K hK => ?_
    simp -implicitDefEqProofs (disch := omega) only [go_sem, Nat.reduceEqDiff, Nat.reduceAdd, ↓reduceIte, k7, k0, k8', e2, (h.ext hx).u32.cx hj, e3, e4]
    refine hK _ _ ?_; clear hK K
    obtain ⟨qq, hqq⟩ : ∃ qq, qq = (r * 4294967296 + dg (lim x) j) / d := ⟨_, rfl⟩
    have hql : qq < 4294967296 := by
      rw [hqq, Nat.div_lt_iff_lt_mul (by omega)]
      have : r * 4294967296 + 4294967296 ≤ 4294967296 * d := by rw [← Nat.succ_mul, Nat.mul_comm]; exact Nat.mul_le_mul_left _ hr0
      omega
    have hqe := hqq.symm
    have eq2 : qq % 4294967296 = qq := Nat.mod_eq_of_lt hql
    have hcur : r * 4294967296 + dg (lim x) j < 18446744073709551616 := by omega
    refine W_seq_reg fun K9 hK9 => ?_
    simp -implicitDefEqProofs (disch := omega) only [go_sem, Nat.reduceEqDiff, Nat.reduceAdd, ↓reduceIte, k6, k1, k8', e2, quoN hd0 hcur, hqe, eq2]
    refine storeU hO hj hql fun w3 hO3 hk3 hs3 => ?_
    refine hK9 _ _ ?_; clear hK9 K9
    refine W_regK fun K9 hK9 => ?_
    simp -implicitDefEqProofs (disch := omega) only [go_sem, Nat.reduceEqDiff, Nat.reduceAdd, ↓reduceIte, k1, remN hd0]
    refine hK9 _ _ ?_; clear hK9 K9
    refine hK _ _ ?_; clear hK
    have e5 : IntKind.i64.wrap ((j : Int) - 1) = (j : Int) - 1 := i64_in (by omega) (by omega)
    refine W_regK fun K9 hK9 => ?_
    simp -implicitDefEqProofs (disch := omega) only [go_sem, Nat.reduceEqDiff, Nat.reduceAdd, ↓reduceIte, k8', e5]
    refine hK9 _ _ ?_; clear hK9 K9
    refine ⟨⟨j, _, _, rfl, (by (try simp only [upd_ap, Nat.reduceEqDiff, ↓reduceIte]); first | done | assumption | exact rfl), by omega, Nat.mod_lt _ (by omega), by subst hg; exact hO.1.under hx hk3, hO3, ?_⟩, by simp only [upd_ap, ↓reduceIte, RowKit.intOf, k8']; omega⟩
    have h1 := drop_cons (lim x) j
    have h2 := drop_cons (o.set j qq) j
    rw [List.getD_eq_getElem?_getD, List.getElem?_set_self (by omega), List.drop_set_of_lt (show j < j + 1 by omega)] at h2
    simp only [Option.getD_some] at h2
    rw [h2]
    exact short_step hqq h1 hv
section
variable {D : Nat → Prop} {v v' : Value} {w : World} {x y d : Nat} {a b : Int}
theorem short_v (h : In (fU (lim x)) D v w) (hb : bl x ≤ 20000000) (hd0 : d ≠ 0) (hd : d < 4294967296) (hf : Fr D w) : Calls Tryz.prog 262 #[v, .int .u32 (d : Nat)] w (Rt (fP (fU (lim (x / d))) (fc (.int .u32 ((x % d : Nat) : Int)))) D w) := by
  obtain ⟨A, n, c, rfl, hU⟩ := h
  exact short_ok hU.in (by have := hU.len; have := len_lim hb; omega) hd0 hd hf
theorem iShift_v {m : Int} (h : In (fB a) D v w) (ha : bl a.natAbs ≤ 10000000) (h1 : -1048576 ≤ m) (h2 : m ≤ 1048576) (hf : Fr D w) :
    Calls Tryz.prog 251 #[v, .int .i64 m] w (Rt (fP (fB (shI a m)) (fc (.int .i64 0))) D w) := by
  obtain ⟨s, A, n, c, rfl, hB⟩ := h
  have hm := hB.2.in
  have hsg := hB.sgn
  refine calls_W Tryz.func251 rfl Tryz.ntmps251 (by kernel_rfl) ?_
  refine W_seq_reg fun K hK => ?_
  simp -implicitDefEqProofs (disch := omega) only [go_sem, Nat.reduceEqDiff, Nat.reduceAdd, ↓reduceIte]
  refine boxW_of ?_
  intro g2 w2 hg2 hx2 hb2 hs2
  refine alW_of ?_
  intro g4 w4 hg4 hx4 hb4 hs4
  refine hK _ _ ?_; clear hK K
  have hx : Ext w w4 := (hx2.trans hx4)
  replace hb2 := (hb2.ext hx4)
  replace hm := (hm.nL (L := [g2, g4]) (by intro g hg; simp at hg; omega)).ext hx
  have hD : Fr (Dl D [g2, g4]) w4 := hf.nL hx (by intro g hg; simp at hg; omega)
  clear hx2 hx4
  refine W_seq_k fun K0 hK0 => ?_
  have q1 : ¬ (m < -1048576) := by omega
  have q2 : ¬ (m > 1048576) := by omega
  refine W_seq_reg fun K hK => ?_
  simp -implicitDefEqProofs (disch := omega) only [go_sem, Nat.reduceEqDiff, Nat.reduceAdd, ↓reduceIte, q1, q2]
  refine hK _ _ ?_; clear hK K
  refine W_cond rfl (fun hc => by cases hc) (fun hc => W_skip (hK0 _ _ ?_))
  clear hK0
  refine W_seq_reg fun K hK => ?_
  simp -implicitDefEqProofs (disch := omega) only [go_sem, Nat.reduceEqDiff, Nat.reduceAdd, ↓reduceIte, hb2.c1]
  refine callW_of cal245 (trimL_v hm (by omega)) ?_
  rintro _ w6 ⟨v6, rfl, hx6, h6⟩; refine ⟨_, rfl, ?_⟩
  replace hm := hm.ext hx6
  replace hb2 := hb2.ext hx6
  replace hb4 := hb4.ext hx6
  replace hD := hD.kp hx6
  replace hx := hx.trans hx6
  clear hx6
  refine hK _ _ ?_; clear hK
  refine W_seq_k fun K0 hK0 => ?_
  by_cases hm0 : 0 ≤ m
  · have q : m ≥ 0 := hm0
    obtain ⟨k, rfl⟩ : ∃ k : Nat, m = k := ⟨m.toNat, by omega⟩
    have hml := bl_mul_le a.natAbs (2 ^ k)
    have hpl : bl (2 ^ k) ≤ k + 1 := bl_le_of (Nat.pow_lt_pow_right (by omega) (by omega))
    have hl1 := len_lim (x := a.natAbs * 2 ^ k) (by omega)
    refine W_seq_reg fun K hK => ?_
    simp -implicitDefEqProofs (disch := omega) only [go_sem, Nat.reduceEqDiff, Nat.reduceAdd, ↓reduceIte, q]
    refine hK _ _ ?_; clear hK K
    refine W_cond rfl (fun hc => ?_) (fun hc => by cases hc)
    refine W_seq_k fun K hK => ?_
    refine W_dC mixed (Kp (fun k => k ∉ ([] : List Nat))) (fun _ _ => False) (Kp.pre _) [true, true, true, true, false, false, false, false] [false, false, false, false, false, false, false, false] [1, 1, 1, 1, 0, 1, 1, 1] (by kernel_rfl) ?_
    apply Exists.intro
    refine ⟨fun wE hE KE hKE => ?_, fun wE hE KE hKE => ?_, fun wE hxE hr => ?_⟩
    · skip
      replace hE := Kp.all hE
      replace hb2 := hb2.ext hE
      replace hb4 := hb4.ext hE
      replace hm := hm.ext hE
      replace h6 := h6.ext hE
      simp -implicitDefEqProofs (disch := omega) only [go_sem, Nat.reduceEqDiff, Nat.reduceAdd, ↓reduceIte, hb2.c0]
      exact hKE
    · exact hE.elim
    simp only [selP_t, selP_f, selP_n]
    replace hm := hm.ext hxE
    replace h6 := h6.ext hxE
    replace hb2 := hb2.ext hxE
    replace hb4 := hb4.ext hxE
    replace hD := hD.kp hxE
    replace hx := hx.trans hxE
    simp -implicitDefEqProofs (disch := omega) only [go_sem, Nat.reduceEqDiff, Nat.reduceAdd, ↓reduceIte, List.toList_toArray, hb2.c0]
    refine callW_of cal264 (up_v h6 (by omega) (by omega) hD) ?_
    rintro _ w7 ⟨v7, rfl, hx7, h7⟩; refine ⟨_, rfl, ?_⟩
    replace hm := hm.ext hx7
    replace h6 := h6.ext hx7
    replace hb2 := hb2.ext hx7
    replace hb4 := hb4.ext hx7
    replace hD := hD.kp hx7
    replace hx := hx.trans hx7
    replace hr := hr.trans (Kp.of_ext hx7)
    clear hx7
    refine ⟨hr, ?_⟩
    refine callW_of cal218 (big_v (s := s) h7 (by omega) hD) ?_
    rintro _ w8 ⟨v8, rfl, hx8, h8⟩; refine ⟨_, rfl, ?_⟩
    replace hm := hm.ext hx8
    replace h6 := h6.ext hx8
    replace h7 := h7.ext hx8
    replace hb2 := hb2.ext hx8
    replace hb4 := hb4.ext hx8
    replace hD := hD.kp hx8
    replace hx := hx.trans hx8
    clear hx8
    rw [val_lim] at h8
    have hs : sgn s (a.natAbs * 2 ^ k) = shI a k := by
      unfold shI; rw [if_pos (by omega), Int.toNat_natCast, sgn_pow, hsg]
    rw [hs] at h8
    refine storeS hb4 siz35 rfl (fB_s h8) fun w90 hk90 hb90 => ?_
    try simp -implicitDefEqProofs (disch := omega) only [go_sem, Nat.reduceEqDiff, Nat.reduceAdd, ↓reduceIte]
    refine hK _ _ ?_; clear hK
    refine W_ret ?_
    try simp only [thenE_r, inB_r]
    exact retS2 rfl (by first | exact rfl | assumption | exact (by (try simp only [upd_ap, Nat.reduceEqDiff, ↓reduceIte]); first | done | assumption | exact rfl)) agg35 hb90 (fB_s h8) ⟨_, rfl, hx.under hk90 (fun k hk => by omega), ⟨_, _, rfl, (h8.ow hk90 (by simp)).ul, (by (try simp only [upd_ap, Nat.reduceEqDiff, ↓reduceIte]); first | done | assumption | exact rfl)⟩⟩
  · have q : ¬ m ≥ 0 := hm0
    obtain ⟨k, hk⟩ : ∃ k : Nat, k = (-m).toNat := ⟨_, rfl⟩
    have hmk : m = -(k : Int) := by omega
    subst hmk
    refine W_seq_reg fun K hK => ?_
    simp -implicitDefEqProofs (disch := omega) only [go_sem, Nat.reduceEqDiff, Nat.reduceAdd, ↓reduceIte, q]
    refine hK _ _ ?_; clear hK K
    refine W_cond rfl (fun hc => by cases hc) (fun hc => W_skip (hK0 _ _ ?_))
    clear hK0
    have hkk : IntKind.i64.wrap (0 - -(k : Int)) = (k : Int) := by rw [i64_in (by omega) (by omega)]; omega
    have hkk2 : IntKind.i64.wrap (- -(k : Int)) = (k : Int) := by rw [i64_in (by omega) (by omega)]; omega
    refine W_seq_reg fun K hK => ?_
    simp -implicitDefEqProofs (disch := omega) only [go_sem, Nat.reduceEqDiff, Nat.reduceAdd, ↓reduceIte, hkk, hkk2]
    refine callW_of cal266 (down_v h6 (by omega) (by omega) hD) ?_
    rintro _ w7 ⟨v7, rfl, hx7, h7⟩; refine ⟨_, rfl, ?_⟩
    replace hm := hm.ext hx7
    replace h6 := h6.ext hx7
    replace hb2 := hb2.ext hx7
    replace hb4 := hb4.ext hx7
    replace hD := hD.kp hx7
    replace hx := hx.trans hx7
    clear hx7
    obtain ⟨v8, v9, rfl, h8, rfl⟩ := h7
    replace h8 : In _ _ v8 _ := h8
    simp -implicitDefEqProofs (disch := omega) only [go_sem, Nat.reduceEqDiff, Nat.reduceAdd, ↓reduceIte]
    refine hK _ _ ?_; clear hK
    have hdl := bl_mono (Nat.div_le_self a.natAbs (2 ^ k))
    have hab : a = sgn s a.natAbs := hsg.symm
    refine W_seq_k fun K1 hK1 => ?_
    by_cases hsl : s = true ∧ a.natAbs % 2 ^ k ≠ 0
    · obtain ⟨rfl, hlo⟩ := hsl
      have hlo' : decide (a.natAbs % 2 ^ k ≠ 0) = true := decide_eq_true hlo
      refine W_seq_reg fun K hK => ?_
      simp -implicitDefEqProofs (disch := omega) only [go_sem, Nat.reduceEqDiff, Nat.reduceAdd, ↓reduceIte, hb2.c0, hlo']
      refine hK _ _ ?_; clear hK K
      refine W_cond rfl (fun hc => ?_) (fun hc => by cases hc)
      refine W_regK fun K9 hK9 => ?_
      simp -implicitDefEqProofs (disch := omega) only [go_sem, Nat.reduceEqDiff, Nat.reduceAdd, ↓reduceIte]
      refine bsW_of fun w4 hx4 hb4' hs4 => ?_
      have hU : U32 w4 (Dl D [g2, g4]) _ 1 1 _ := (own1 (a := 1) hb4' (by omega)).u32 fun k hk => hD k hk
      replace hm := hm.ext hx4
      replace h6 := h6.ext hx4
      replace h8 := h8.ext hx4
      replace hb2 := hb2.ext hx4
      replace hb4 := hb4.ext hx4
      replace hD := hD.kp hx4
      replace hx := hx.trans hx4
      have h9 := hU.in
      rw [← lim_one] at h9
      refine callW_of cal249 (plus_v h8 h9 (by omega) (by rw [bl_one]; omega) hD) ?_
      rintro _ w10 ⟨v10, rfl, hx10, h10⟩; refine ⟨_, rfl, ?_⟩
      replace hm := hm.ext hx10
      replace h6 := h6.ext hx10
      replace h8 := h8.ext hx10
      replace hb2 := hb2.ext hx10
      replace hb4 := hb4.ext hx10
      replace hD := hD.kp hx10
      replace hx := hx.trans hx10
      clear hx10
      refine hK9 _ _ ?_; clear hK9 K9
      refine hK1 _ _ ?_; clear hK1
      have hbs := bl_add_le (a := a.natAbs / 2 ^ k) (b := 1) (k := 10000001) (by omega) (by rw [bl_one]; omega)
      have hl1 := len_lim (x := a.natAbs / 2 ^ k + 1) (by omega)
      refine W_seq_reg fun K hK => ?_
      simp -implicitDefEqProofs (disch := omega) only [go_sem, Nat.reduceEqDiff, Nat.reduceAdd, ↓reduceIte, hb2.c0]
      refine callW_of cal218 (big_v (s := true) h10 (by omega) hD) ?_
      rintro _ w11 ⟨v11, rfl, hx11, h11⟩; refine ⟨_, rfl, ?_⟩
      replace hm := hm.ext hx11
      replace h6 := h6.ext hx11
      replace h8 := h8.ext hx11
      replace h10 := h10.ext hx11
      replace hb2 := hb2.ext hx11
      replace hb4 := hb4.ext hx11
      replace hD := hD.kp hx11
      replace hx := hx.trans hx11
      clear hx11
      rw [val_lim] at h11
      have hs : sgn true (a.natAbs / 2 ^ k + 1) = shI a (-(k : Int)) := by
        have hn : a = -(a.natAbs : Int) := hab
        unfold shI
        by_cases hk0 : k = 0
        · subst hk0; simp [Nat.mod_one] at hlo
        · rw [if_neg (by omega), show (- -(k : Int)).toNat = k by omega]
          conv => rhs; rw [hn]
          rw [shI_neg, if_pos hlo]; simp [sgn]; omega
      rw [hs] at h11
      refine storeS hb4 siz35 rfl (fB_s h11) fun w90 hk90 hb90 => ?_
      try simp -implicitDefEqProofs (disch := omega) only [go_sem, Nat.reduceEqDiff, Nat.reduceAdd, ↓reduceIte]
      refine hK _ _ ?_; clear hK
      refine W_ret ?_
      try simp only [thenE_r, inB_r]
      exact retS2 rfl (by first | exact rfl | assumption | exact (by (try simp only [upd_ap, Nat.reduceEqDiff, ↓reduceIte]); first | done | assumption | exact rfl)) agg35 hb90 (fB_s h11) ⟨_, rfl, hx.under hk90 (fun k hk => by omega), ⟨_, _, rfl, (h11.ow hk90 (by simp)).ul, (by (try simp only [upd_ap, Nat.reduceEqDiff, ↓reduceIte]); first | done | assumption | exact rfl)⟩⟩
    · have hq : s = true → a.natAbs % 2 ^ k = 0 := fun h => Decidable.byContradiction fun h2 => hsl ⟨h, h2⟩
      have main : K1 = K1 := rfl
      have hs : sgn s (a.natAbs / 2 ^ k) = shI a (-(k : Int)) := by
        unfold shI
        by_cases hk0 : k = 0
        · subst hk0; simp [hsg]
        · rw [if_neg (by omega), show (- -(k : Int)).toNat = k by omega]
          conv => rhs; rw [hab]
          cases s with
          | false => simp [sgn]
          | true =>
            have hlo : ¬ (a.natAbs % 2 ^ k ≠ 0) := fun h => hsl ⟨rfl, h⟩
            rw [show sgn true a.natAbs = -(a.natAbs : Int) from rfl, shI_neg, if_neg hlo]; simp [sgn]
      have hl1 := len_lim (x := a.natAbs / 2 ^ k) (by omega)
      have st : ∀ e1 : Env, e1 2 = .pointer (some ⟨g2, 0, none⟩) → e1 4 = .pointer (some ⟨g4, 0, none⟩) → e1 7 = v8 → K1 e1 w7 := by
        intro e1 q2 q4 q7
        refine hK1 _ _ ?_; clear hK1
        refine W_seq_reg fun K hK => ?_
        simp -implicitDefEqProofs (disch := omega) only [go_sem, Nat.reduceEqDiff, Nat.reduceAdd, ↓reduceIte, hb2.c0, q2, q4, q7]
        refine callW_of cal218 (big_v (s := s) h8 (by omega) hD) ?_
        rintro _ w11 ⟨v11, rfl, hx11, h11⟩; refine ⟨_, rfl, ?_⟩
        replace hm := hm.ext hx11
        replace h6 := h6.ext hx11
        replace h8 := h8.ext hx11
        replace hb2 := hb2.ext hx11
        replace hb4 := hb4.ext hx11
        replace hD := hD.kp hx11
        replace hx := hx.trans hx11
        clear hx11
        rw [val_lim, hs] at h11
        refine storeS hb4 siz35 rfl (fB_s h11) fun w90 hk90 hb90 => ?_
        try simp -implicitDefEqProofs (disch := omega) only [go_sem, Nat.reduceEqDiff, Nat.reduceAdd, ↓reduceIte]
        refine hK _ _ ?_; clear hK
        refine W_ret ?_
        try simp only [thenE_r, inB_r]
        exact retS2 rfl (by first | exact rfl | assumption | exact (by (try simp only [upd_ap, Nat.reduceEqDiff, ↓reduceIte]); first | done | assumption | exact rfl)) agg35 hb90 (fB_s h11) ⟨_, rfl, hx.under hk90 (fun k hk => by omega), ⟨_, _, rfl, (h11.ow hk90 (by simp)).ul, (by (try simp only [upd_ap, Nat.reduceEqDiff, ↓reduceIte]); first | done | assumption | exact rfl)⟩⟩
      cases s with
      | false =>
        refine W_seq_reg fun K hK => ?_
        simp -implicitDefEqProofs (disch := omega) only [go_sem, Nat.reduceEqDiff, Nat.reduceAdd, ↓reduceIte, hb2.c0]
        refine hK _ _ ?_; clear hK K
        refine W_cond rfl (fun hc => by cases hc) (fun hc => W_skip ?_)
        exact st _ (by (try simp only [upd_ap, Nat.reduceEqDiff, ↓reduceIte]); first | done | assumption | exact rfl) (by (try simp only [upd_ap, Nat.reduceEqDiff, ↓reduceIte]); first | done | assumption | exact rfl) (by (try simp only [upd_ap, Nat.reduceEqDiff, ↓reduceIte]); first | done | assumption | exact rfl)
      | true =>
        have hlo' : decide (a.natAbs % 2 ^ k ≠ 0) = false := decide_eq_false (fun h => h (hq rfl))
        refine W_seq_reg fun K hK => ?_
        simp -implicitDefEqProofs (disch := omega) only [go_sem, Nat.reduceEqDiff, Nat.reduceAdd, ↓reduceIte, hb2.c0, hlo']
        refine hK _ _ ?_; clear hK K
        refine W_cond rfl (fun hc => by cases hc) (fun hc => W_skip ?_)
        exact st _ (by (try simp only [upd_ap, Nat.reduceEqDiff, ↓reduceIte]); first | done | assumption | exact rfl) (by (try simp only [upd_ap, Nat.reduceEqDiff, ↓reduceIte]); first | done | assumption | exact rfl) (by (try simp only [upd_ap, Nat.reduceEqDiff, ↓reduceIte]); first | done | assumption | exact rfl)
end
end Go.Proofs.YtjamnehcmaloeaaGreatDoor
end
section
namespace Go.E
open Go
theorem retS3 {P : Program} {fn : Func} {R : Ending → World → Prop} {e : Env} {w : World} {a T t g k a' T' t' g' k' u : Nat} {v v' : Value} (h : fn.results = #[.cell a T, .cell a' T', .tmp u]) (he : e a = .pointer (some ⟨g, 0, none⟩)) (hk : aggOf P T = some (some k)) (hb : Blk w g t v.cells) (hv : Shp k v) (he' : e a' = .pointer (some ⟨g', 0, none⟩)) (hk' : aggOf P T' = some (some k')) (hb' : Blk w g' t' v'.cells) (hv' : Shp k' v') (hR : R (.returned (.tuple #[v, v', e u])) w) : retP P fn R .ret e w :=
  retC3 h (resV_S he hk hb hv) (resV_S he' hk' hb' hv') rfl hR
end Go.E
namespace Go.Proofs.YtjamnehcmaloeaaGreatDoor
open Go Go.E Go.Sp
theorem lim_1 {y : Nat} (h0 : y ≠ 0) (h : y < 4294967296) : lim y = [y] := by
  rw [lim_pos h0, show y / B = 0 from Nat.div_eq_of_lt h, lim_zero, show y % B = y from Nat.mod_eq_of_lt h]
section
variable {D : Nat → Prop} {v v' : Value} {w : World} {x y d : Nat} {a b : Int}
theorem divide_v (h : In (fU (lim x)) D v w) (h' : In (fU (lim y)) D v' w) (hb : bl x ≤ 20000000) (hd0 : y ≠ 0) (hd : y < 4294967296) (hf : Fr D w) : Calls Tryz.prog 248 #[v, v'] w (Rt (fP (fU (lim (x / y))) (fU (lim (x % y)))) D w) := by
  have hby : bl y ≤ 32 := bl_le_of hd
  have hlx := len_lim hb
  have hx : Ext w w := Kp.refl _ _
  have hD := hf
  refine calls_W Tryz.func248 rfl Tryz.ntmps248 (by kernel_rfl) ?_
  refine W_seq_reg fun K hK => ?_
  simp -implicitDefEqProofs (disch := omega) only [go_sem, Nat.reduceEqDiff, Nat.reduceAdd, ↓reduceIte]
  refine hK _ _ ?_; clear hK K
  refine W_seq_k fun K0 hK0 => ?_
  refine W_seq_reg fun K hK => ?_
  simp -implicitDefEqProofs (disch := omega) only [go_sem, Nat.reduceEqDiff, Nat.reduceAdd, ↓reduceIte]
  refine callW_of cal252 (compare_v h h' hb (by omega)) ?_
  rintro _ w1 ⟨rfl, hx1⟩; refine ⟨_, rfl, ?_⟩
  replace h := h.ext hx1
  replace h' := h'.ext hx1
  replace hD := hD.kp hx1
  replace hx := hx.trans hx1
  clear hx1
  by_cases hlt : x < y
  · have q : cmpI x y < 0 := by unfold cmpI; rw [if_pos hlt]; omega
    simp -implicitDefEqProofs (disch := omega) only [go_sem, Nat.reduceEqDiff, Nat.reduceAdd, ↓reduceIte, q]
    refine hK _ _ ?_; clear hK
    refine W_cond rfl (fun hc => ?_) (fun hc => by cases hc)
    refine W_seq_reg fun K hK => ?_
    simp -implicitDefEqProofs (disch := omega) only [go_sem, Nat.reduceEqDiff, Nat.reduceAdd, ↓reduceIte]
    refine callW_of cal219 (clone_v h (by omega) hD) ?_
    rintro _ w2 ⟨v2, rfl, hx2, h2⟩; refine ⟨_, rfl, ?_⟩
    replace h := h.ext hx2
    replace h' := h'.ext hx2
    replace hD := hD.kp hx2
    replace hx := hx.trans hx2
    clear hx2
    refine hK _ _ ?_; clear hK
    rw [Nat.div_eq_of_lt hlt, Nat.mod_eq_of_lt hlt]
    refine W_ret ?_
    try simp only [thenE_r, inB_r]
    refine ret2 rfl ⟨_, rfl, hx, ⟨_, _, rfl, ?_, ?_⟩⟩
    · simp only [upd_ap, Nat.reduceEqDiff, ↓reduceIte]; rw [lim_zero]; exact ⟨none, 0, 0, rfl, U32.nil⟩
    · simp only [upd_ap, Nat.reduceEqDiff, ↓reduceIte]; exact h2
  · have q : ¬ cmpI x y < 0 := by unfold cmpI; rw [if_neg hlt]; split <;> omega
    simp -implicitDefEqProofs (disch := omega) only [go_sem, Nat.reduceEqDiff, Nat.reduceAdd, ↓reduceIte, q]
    refine hK _ _ ?_; clear hK
    refine W_cond rfl (fun hc => by cases hc) (fun hc => W_skip (hK0 _ _ ?_))
    clear hK0
    obtain ⟨A', n', c', rfl, _⟩ := id h'
    have hlen := h'.u32.len
    have hl1 := lim_1 hd0 hd
    rw [hl1] at hlen
    have hn1 : n' = 1 := by simpa using hlen.symm
    subst hn1
    obtain ⟨ad, rfl, -⟩ := h'.u32.cell (j := 0) (by omega)
    have hcx := h'.u32.cx (j := 0) (by omega)
    rw [hl1] at hcx
    have hcx' : w1.cell? ad = some (.int .u32 (y : Nat)) := hcx
    refine W_seq_k fun K0 hK0 => ?_
    refine W_seq_reg fun K hK => ?_
    simp -implicitDefEqProofs (disch := omega) only [go_sem, Nat.reduceEqDiff, Nat.reduceAdd, ↓reduceIte]
    refine hK _ _ ?_; clear hK K
    refine W_cond rfl (fun hc => ?_) (fun hc => by cases hc)
    have r1 : (0 : Int) ≤ 0 ∧ (0 : Int) < ((1 : Nat) : Int) := by omega
    refine W_seq_reg fun K hK => ?_
    simp -implicitDefEqProofs (disch := omega) only [go_sem, Nat.reduceEqDiff, Nat.reduceAdd, ↓reduceIte, r1, Int.toNat_zero, hcx']
    refine callW_of cal262 (short_v h hb hd0 hd hD) ?_
    rintro _ w2 ⟨v2, rfl, hx2, h2⟩; refine ⟨_, rfl, ?_⟩
    replace h := h.ext hx2
    replace h' := h'.ext hx2
    replace hD := hD.kp hx2
    replace hx := hx.trans hx2
    clear hx2
    obtain ⟨v8, v9, rfl, h8, rfl⟩ := h2
    replace h8 : In _ _ v8 _ := h8
    simp -implicitDefEqProofs (disch := omega) only [go_sem, Nat.reduceEqDiff, Nat.reduceAdd, ↓reduceIte]
    refine hK _ _ ?_; clear hK
    have hml : x % y < 4294967296 := Nat.lt_trans (Nat.mod_lt _ (by omega)) hd
    refine W_seq_reg fun K hK => ?_
    simp -implicitDefEqProofs (disch := omega) only [go_sem, Nat.reduceEqDiff, Nat.reduceAdd, ↓reduceIte]
    refine bsW_of fun w4 hx4 hb4' hs4 => ?_
    have h9 := ((own1 hb4' hml).u32 fun k hk => hD k hk).in
    replace h := h.ext hx4
    replace h' := h'.ext hx4
    replace h8 := h8.ext hx4
    replace hD := hD.kp hx4
    replace hx := hx.trans hx4
    refine callW_of cal245 (trim_v h9 (by simp)) ?_
    rintro _ w5 ⟨v5, rfl, hx5, h5⟩; refine ⟨_, rfl, ?_⟩
    replace h := h.ext hx5
    replace h' := h'.ext hx5
    replace h8 := h8.ext hx5
    replace hD := hD.kp hx5
    replace hx := hx.trans hx5
    clear hx5
    refine hK _ _ ?_; clear hK
    refine W_ret ?_
    try simp only [thenE_r, inB_r]
    refine ret2 rfl ⟨_, rfl, hx, ⟨_, _, rfl, ?_, ?_⟩⟩
    · simp only [upd_ap, Nat.reduceEqDiff, ↓reduceIte]; exact h8
    · simp only [upd_ap, Nat.reduceEqDiff, ↓reduceIte]
      rw [show val [x % y] = x % y by simp [val]] at h5
      exact h5
theorem iDivMod_v (h : In (fB (x : Nat)) D v w) (h' : In (fB (y : Nat)) D v' w) (hb : bl x ≤ 20000000) (hd0 : y ≠ 0) (hd : y < 4294967296) (hf : Fr D w) :
    Calls Tryz.prog 214 #[v, v'] w (Rt (fP3 (fB (x / y : Nat)) (fB (x % y : Nat)) (fc (.int .i64 0))) D w) := by
  have hby : bl y ≤ 32 := bl_le_of hd
  obtain ⟨s, A, n, c, rfl, _⟩ := id h
  obtain ⟨s', A', n', c', rfl, _⟩ := id h'
  have hm := h.mag
  have hm' := h'.mag
  rw [Int.natAbs_natCast] at hm hm'
  have hs : s = false := by rw [h.sg]; exact decide_eq_false (by omega)
  have hs' : s' = false := by rw [h'.sg]; exact decide_eq_false (by omega)
  subst hs; subst hs'
  have hdl := bl_mono (Nat.div_le_self x y)
  have hmo := bl_mono (Nat.mod_le x y)
  have hl1 := len_lim (x := x / y) (by omega)
  have hl2 := len_lim (x := x % y) (by omega)
  refine calls_W Tryz.func214 rfl Tryz.ntmps214 (by kernel_rfl) ?_
  refine W_seq_reg fun K hK => ?_
  simp -implicitDefEqProofs (disch := omega) only [go_sem, Nat.reduceEqDiff, Nat.reduceAdd, ↓reduceIte]
  refine boxW_of ?_
  intro g2 w2 hg2 hx2 hb2 hs2
  refine boxW_of ?_
  intro g3 w3 hg3 hx3 hb3 hs3
  refine alW_of ?_
  intro g4 w4 hg4 hx4 hb4 hs4
  refine alW_of ?_
  intro g5 w5 hg5 hx5 hb5 hs5
  refine hK _ _ ?_; clear hK K
  have hx : Ext w w5 := (((hx2.trans hx3).trans hx4).trans hx5)
  replace hb2 := (((hb2.ext hx3).ext hx4).ext hx5)
  replace hb3 := ((hb3.ext hx4).ext hx5)
  replace hb4 := (hb4.ext hx5)
  replace hm := (hm.nL (L := [g2, g3, g4, g5]) (by intro g hg; simp at hg; omega)).ext hx
  replace hm' := (hm'.nL (L := [g2, g3, g4, g5]) (by intro g hg; simp at hg; omega)).ext hx
  have hD : Fr (Dl D [g2, g3, g4, g5]) w5 := hf.nL hx (by intro g hg; simp at hg; omega)
  clear hx2 hx3 hx4 hx5
  refine W_seq_reg fun K hK => ?_
  simp -implicitDefEqProofs (disch := omega) only [go_sem, Nat.reduceEqDiff, Nat.reduceAdd, ↓reduceIte, hb3.c1]
  refine callW_of cal245 (trimL_v hm' (by omega)) ?_
  rintro _ w6 ⟨v6, rfl, hx6, h6⟩; refine ⟨_, rfl, ?_⟩
  replace hm := hm.ext hx6
  replace hm' := hm'.ext hx6
  replace hb2 := hb2.ext hx6
  replace hb3 := hb3.ext hx6
  replace hb4 := hb4.ext hx6
  replace hb5 := hb5.ext hx6
  replace hD := hD.kp hx6
  replace hx := hx.trans hx6
  clear hx6
  obtain ⟨A6, n6, c6, rfl, _⟩ := id h6
  have hlen := h6.u32.len
  have hlp := (lim_length_pos (n := y)).2 hd0
  have qn : ((n6 : Int) == 0) = false := by rw [beq0]; exact decide_eq_false (by omega)
  refine hK _ _ ?_; clear hK
  refine W_seq_k fun K0 hK0 => ?_
  refine W_seq_reg fun K hK => ?_
  simp -implicitDefEqProofs (disch := omega) only [go_sem, Nat.reduceEqDiff, Nat.reduceAdd, ↓reduceIte, qn]
  refine hK _ _ ?_; clear hK K
  refine W_cond rfl (fun hc => by cases hc) (fun hc => W_skip (hK0 _ _ ?_))
  clear hK0
  refine W_seq_reg fun K hK => ?_
  simp -implicitDefEqProofs (disch := omega) only [go_sem, Nat.reduceEqDiff, Nat.reduceAdd, ↓reduceIte, hb2.c1]
  refine callW_of cal245 (trimL_v hm (by omega)) ?_
  rintro _ w7 ⟨v7, rfl, hx7, h7⟩; refine ⟨_, rfl, ?_⟩
  replace hm := hm.ext hx7
  replace hm' := hm'.ext hx7
  replace h6 := h6.ext hx7
  replace hb2 := hb2.ext hx7
  replace hb3 := hb3.ext hx7
  replace hb4 := hb4.ext hx7
  replace hb5 := hb5.ext hx7
  replace hD := hD.kp hx7
  replace hx := hx.trans hx7
  clear hx7
  refine callW_of cal248 (divide_v h7 h6 (by omega) hd0 hd hD) ?_
  rintro _ w8 ⟨v8, rfl, hx8, h8⟩; refine ⟨_, rfl, ?_⟩
  replace hm := hm.ext hx8
  replace hm' := hm'.ext hx8
  replace h6 := h6.ext hx8
  replace h7 := h7.ext hx8
  replace hb2 := hb2.ext hx8
  replace hb3 := hb3.ext hx8
  replace hb4 := hb4.ext hx8
  replace hb5 := hb5.ext hx8
  replace hD := hD.kp hx8
  replace hx := hx.trans hx8
  clear hx8
  obtain ⟨v9, v10, rfl, h9, h10⟩ := h8
  replace h9 : In _ _ v9 _ := h9
  replace h10 : In _ _ v10 _ := h10
  simp -implicitDefEqProofs (disch := omega) only [go_sem, Nat.reduceEqDiff, Nat.reduceAdd, ↓reduceIte]
  refine hK _ _ ?_; clear hK
  refine W_seq_k fun K0 hK0 => ?_
  refine W_seq_reg fun K hK => ?_
  simp -implicitDefEqProofs (disch := omega) only [go_sem, Nat.reduceEqDiff, Nat.reduceAdd, ↓reduceIte, hb2.c0]
  refine hK _ _ ?_; clear hK K
  refine W_cond rfl (fun hc => by cases hc) (fun hc => W_skip (hK0 _ _ ?_))
  clear hK0
  refine W_seq_reg fun K hK => ?_
  simp -implicitDefEqProofs (disch := omega) only [go_sem, Nat.reduceEqDiff, Nat.reduceAdd, ↓reduceIte, hb2.c0, hb3.c0]
  refine callW_of cal218 (big_v (s := false) h9 (by omega) hD) ?_
  rintro _ w11 ⟨v11, rfl, hx11, h11⟩; refine ⟨_, rfl, ?_⟩
  replace hm := hm.ext hx11
  replace hm' := hm'.ext hx11
  replace h6 := h6.ext hx11
  replace h7 := h7.ext hx11
  replace h9 := h9.ext hx11
  replace h10 := h10.ext hx11
  replace hb2 := hb2.ext hx11
  replace hb3 := hb3.ext hx11
  replace hb4 := hb4.ext hx11
  replace hb5 := hb5.ext hx11
  replace hD := hD.kp hx11
  replace hx := hx.trans hx11
  clear hx11
  refine callW_of cal218 (big_v (s := false) h10 (by omega) hD) ?_
  rintro _ w12 ⟨v12, rfl, hx12, h12⟩; refine ⟨_, rfl, ?_⟩
  replace hm := hm.ext hx12
  replace hm' := hm'.ext hx12
  replace h6 := h6.ext hx12
  replace h7 := h7.ext hx12
  replace h9 := h9.ext hx12
  replace h10 := h10.ext hx12
  replace h11 := h11.ext hx12
  replace hb2 := hb2.ext hx12
  replace hb3 := hb3.ext hx12
  replace hb4 := hb4.ext hx12
  replace hb5 := hb5.ext hx12
  replace hD := hD.kp hx12
  replace hx := hx.trans hx12
  clear hx12
  rw [val_lim] at h11 h12
  have hne : g4 ≠ g5 := by omega
  refine storeS hb4 siz35 rfl (fB_s h11) fun w13 hk13 hb13 => ?_
  replace hb5 := hb5.kpne hk13 (by omega)
  replace h11 := h11.ow hk13 (by simp)
  replace h12 := h12.ow hk13 (by simp)
  replace hx := hx.under hk13 (fun k hk => by omega)
  refine storeS hb5 siz35 rfl (fB_s h12) fun w14 hk14 hb14 => ?_
  replace hb13 := hb13.kpne hk14 (by omega)
  replace h11 := h11.ow hk14 (by simp)
  replace h12 := h12.ow hk14 (by simp)
  replace hx := hx.under hk14 (fun k hk => by omega)
  refine hK _ _ ?_; clear hK
  refine W_ret ?_
  exact retS3 rfl (by (try simp only [upd_ap, Nat.reduceEqDiff, ↓reduceIte]); first | done | assumption | exact rfl) agg35 hb13 (fB_s h11) (by (try simp only [upd_ap, Nat.reduceEqDiff, ↓reduceIte]); first | done | assumption | exact rfl) agg35 hb14 (fB_s h12) ⟨_, rfl, hx, ⟨_, _, _, rfl, h11.ul, h12.ul, (by (try simp only [upd_ap, Nat.reduceEqDiff, ↓reduceIte]); first | done | assumption | exact rfl)⟩⟩
end
end Go.Proofs.YtjamnehcmaloeaaGreatDoor
end
section
namespace Go.Proofs.YtjamnehcmaloeaaGreatDoor
open Go Go.E Go.Sp
section
variable {D : Nat → Prop} {v v' : Value} {w : World} {x y d : Nat} {a b m e V : Int}
theorem iLeft_v (h : In (fB a) D v w) (ha : bl a.natAbs ≤ 10000000) (h1 : -1048576 ≤ m) (h2 : m ≤ 1048576) (hf : Fr D w) :
    Calls Tryz.prog 215 #[v, .int .i64 m] w (Rt (fB (shI a m)) D w) := by
  obtain ⟨s, A, n, c, rfl, _⟩ := id h
  refine calls_W Tryz.func215 rfl Tryz.ntmps215 (by kernel_rfl) ?_
  refine W_seq_reg fun K hK => ?_
  simp -implicitDefEqProofs (disch := omega) only [go_sem, Nat.reduceEqDiff, Nat.reduceAdd, ↓reduceIte]
  refine boxW_of ?_
  intro g2 w2 hg2 hx2 hb2 hs2
  refine alW_of ?_
  intro g4 w4 hg4 hx4 hb4 hs4
  refine hK _ _ ?_; clear hK K
  have hx : Ext w w4 := (hx2.trans hx4)
  replace hb2 := (hb2.ext hx4)
  replace h := (h.nL (L := [g2, g4]) (by intro g hg; simp at hg; omega)).ext hx
  have hD : Fr (Dl D [g2, g4]) w4 := hf.nL hx (by intro g hg; simp at hg; omega)
  clear hx2 hx4
  refine W_seq_reg fun K hK => ?_
  simp -implicitDefEqProofs (disch := omega) only [go_sem, Nat.reduceEqDiff, Nat.reduceAdd, ↓reduceIte, hb2.l2]
  refine callW_of cal251 (iShift_v h ha h1 h2 hD) ?_
  rintro _ w5 ⟨v5, rfl, hx5, h5⟩; refine ⟨_, rfl, ?_⟩
  replace h := h.ext hx5
  replace hb2 := hb2.ext hx5
  replace hb4 := hb4.ext hx5
  replace hD := hD.kp hx5
  replace hx := hx.trans hx5
  clear hx5
  obtain ⟨v8, v9, rfl, h8, rfl⟩ := h5
  replace h8 : In _ _ v8 _ := h8
  obtain ⟨s8, A8, n8, c8, rfl, _⟩ := id h8
  simp -implicitDefEqProofs (disch := omega) only [go_sem, Nat.reduceEqDiff, Nat.reduceAdd, ↓reduceIte]
  refine storeW_of hb2 siz35 rfl rfl fun w9 hk9 hz9 => ?_
  replace h := h.ow hk9 (by simp)
  replace h8 := h8.ow hk9 (by simp)
  replace hb4 := hb4.kpne hk9 (by omega)
  replace hD := hD.ow hk9
  replace hx := hx.under hk9 (fun k hk => by omega)
  clear hb2 hk9
  have hb2 := hz9; clear hz9
  refine hK _ _ ?_; clear hK
  refine W_seq_reg fun K hK => ?_
  simp -implicitDefEqProofs (disch := omega) only [go_sem, Nat.reduceEqDiff, Nat.reduceAdd, ↓reduceIte, hb2.l2]
  refine storeS hb4 siz35 rfl (fB_s h8) fun w90 hk90 hb90 => ?_
  refine hK _ _ ?_; clear hK
  refine W_ret ?_
  try simp only [thenE_r, inB_r]
  exact retS rfl (by first | exact rfl | assumption | exact (by (try simp only [upd_ap, Nat.reduceEqDiff, ↓reduceIte]); first | done | assumption | exact rfl)) agg35 hb90 (fB_s h8) (Rt.fin hx h8 hk90 (by simp) (by omega))
theorem iRight_v {N : Nat} (h : In (fB a) D v w) (ha : bl a.natAbs ≤ 10000000) (hn : N ≤ 1048576) (hf : Fr D w) :
    Calls Tryz.prog 244 #[v, .int .i64 N] w (Rt (fB (shI a (-(N : Int)))) D w) := by
  obtain ⟨s, A, n, c, rfl, _⟩ := id h
  refine calls_W Tryz.func244 rfl Tryz.ntmps244 (by kernel_rfl) ?_
  refine W_seq_reg fun K hK => ?_
  simp -implicitDefEqProofs (disch := omega) only [go_sem, Nat.reduceEqDiff, Nat.reduceAdd, ↓reduceIte]
  refine boxW_of ?_
  intro g2 w2 hg2 hx2 hb2 hs2
  refine alW_of ?_
  intro g4 w4 hg4 hx4 hb4 hs4
  refine hK _ _ ?_; clear hK K
  have hx : Ext w w4 := (hx2.trans hx4)
  replace hb2 := (hb2.ext hx4)
  replace h := (h.nL (L := [g2, g4]) (by intro g hg; simp at hg; omega)).ext hx
  have hD : Fr (Dl D [g2, g4]) w4 := hf.nL hx (by intro g hg; simp at hg; omega)
  clear hx2 hx4
  refine W_seq_blk fun K0 hK0 => ?_
  refine W_loop (fun e2 w2' => w2' = w4 ∧ e2 1 = .int .i64 N) (fun e2 _ => 0) ⟨rfl, (by (try simp only [upd_ap, Nat.reduceEqDiff, ↓reduceIte]); first | done | assumption | exact rfl)⟩ ?_
  rintro e1 w1 ⟨rfl, k1⟩ hkk
  have k2 : e1 2 = .pointer (some ⟨g2, 0, none⟩) := (hkk 2 (by kernel_rfl)).trans (by (try simp only [upd_ap, Nat.reduceEqDiff, ↓reduceIte]); first | done | assumption | exact rfl)
  have k4 : e1 4 = .pointer (some ⟨g4, 0, none⟩) := (hkk 4 (by kernel_rfl)).trans (by (try simp only [upd_ap, Nat.reduceEqDiff, ↓reduceIte]); first | done | assumption | exact rfl)
  clear hkk
  have hn' : ¬ (N : Int) > 1048576 := by omega
  refine W_seq_k fun K1 hK1 => ?_
  refine W_seq_reg fun K hK => ?_
  simp -implicitDefEqProofs (disch := omega) only [go_sem, Nat.reduceEqDiff, Nat.reduceAdd, ↓reduceIte, k1, hn']
  refine hK _ _ ?_; clear hK K
  refine W_cond rfl (fun hc => by cases hc) (fun hc => W_exit (hK0 _ _ ?_))
  clear hK0 hK1
  have e1 : IntKind.i64.wrap (0 - (N : Int)) = -(N : Int) := by rw [i64_in (by omega) (by omega)]; omega
  refine W_seq_reg fun K hK => ?_
  simp -implicitDefEqProofs (disch := omega) only [go_sem, Nat.reduceEqDiff, Nat.reduceAdd, ↓reduceIte, k1, k2, k4, hb2.l2, e1]
  refine callW_of cal251 (iShift_v h ha (by omega) (by omega) hD) ?_
  rintro _ w5 ⟨v5, rfl, hx5, h5⟩; refine ⟨_, rfl, ?_⟩
  replace h := h.ext hx5
  replace hb2 := hb2.ext hx5
  replace hb4 := hb4.ext hx5
  replace hD := hD.kp hx5
  replace hx := hx.trans hx5
  clear hx5
  obtain ⟨v8, v9, rfl, h8, rfl⟩ := h5
  replace h8 : In _ _ v8 _ := h8
  obtain ⟨s8, A8, n8, c8, rfl, _⟩ := id h8
  simp -implicitDefEqProofs (disch := omega) only [go_sem, Nat.reduceEqDiff, Nat.reduceAdd, ↓reduceIte]
  refine storeW_of hb2 siz35 rfl rfl fun w9 hk9 hz9 => ?_
  replace h := h.ow hk9 (by simp)
  replace h8 := h8.ow hk9 (by simp)
  replace hb4 := hb4.kpne hk9 (by omega)
  replace hD := hD.ow hk9
  replace hx := hx.under hk9 (fun k hk => by omega)
  clear hb2 hk9
  have hb2 := hz9; clear hz9
  refine hK _ _ ?_; clear hK
  refine W_seq_reg fun K hK => ?_
  simp -implicitDefEqProofs (disch := omega) only [go_sem, Nat.reduceEqDiff, Nat.reduceAdd, ↓reduceIte, k2, k4, hb2.l2]
  refine storeS hb4 siz35 rfl (fB_s h8) fun w90 hk90 hb90 => ?_
  refine hK _ _ ?_; clear hK
  refine W_ret ?_
  try simp only [thenE_r, inB_r]
  exact retS rfl (by first | exact rfl | assumption | exact (by (try simp only [upd_ap, Nat.reduceEqDiff, ↓reduceIte]); first | done | assumption | exact rfl)) agg35 hb90 (fB_s h8) (Rt.fin hx h8 hk90 (by simp) (by omega))
theorem dn_ok {s : Bool} {A : Option Addr} {n c : Nat} (hT : Tabs w) (h : In (fB m) D (.agg #[.bool s, .slice A n c]) w) (hb : bl m.natAbs ≤ 1000000) (he1 : -1000000 ≤ e) (he2 : e ≤ 1000000) (hv : mkV m e = some V) (hf : Fr D w) :
    Calls Tryz.prog 198 #[.agg #[.bool false, .bool s, .slice A n c, .int .i64 e]] w (Rt (fP (fV V) (fc (.bool true))) D w) := by
  refine calls_W Tryz.func198 rfl Tryz.ntmps198 (by kernel_rfl) ?_
  refine W_seq_reg fun K hK => ?_
  simp -implicitDefEqProofs (disch := omega) only [go_sem, Nat.reduceEqDiff, Nat.reduceAdd, ↓reduceIte]
  refine boxW_of ?_
  intro g1 w1 hg1 hx1 hb1 hs1
  refine alW_of ?_
  intro g2 w2 hg2 hx2 hb2 hs2
  refine hK _ _ ?_; clear hK K
  have hx : Ext w w2 := (hx1.trans hx2)
  replace hb1 := (hb1.ext hx2)
  replace h := (h.nL (L := [g1, g2]) (by intro g hg; simp at hg; omega)).ext hx
  have hD : Fr (Dl D [g1, g2]) w2 := hf.nL hx (by intro g hg; simp at hg; omega)
  clear hx1 hx2
  refine W_seq_k fun K0 hK0 => ?_
  refine W_seq_reg fun K hK => ?_
  simp -implicitDefEqProofs (disch := omega) only [go_sem, Nat.reduceEqDiff, Nat.reduceAdd, ↓reduceIte, hb1.c0]
  refine hK _ _ ?_; clear hK K
  refine W_cond rfl (fun hc => by cases hc) (fun hc => W_skip (hK0 _ _ ?_))
  clear hK0
  refine W_seq_reg fun K hK => ?_
  simp -implicitDefEqProofs (disch := omega) only [go_sem, Nat.reduceEqDiff, Nat.reduceAdd, ↓reduceIte, hb1.c1, hb1.c2]
  refine callW_of cal242 (iNorm_v h (by omega) hD) ?_
  rintro _ w5 ⟨v5, rfl, hx5, h5⟩; refine ⟨_, rfl, ?_⟩
  replace h := h.ext hx5
  replace hb1 := hb1.ext hx5
  replace hb2 := hb2.ext hx5
  replace hD := hD.kp hx5
  replace hx := hx.trans hx5
  clear hx5
  obtain ⟨s5, A5, n5, c5, rfl, _⟩ := id h5
  refine alW_of ?_
  intro g4 w4a hg4 hx4a hb4a hs4
  have hgl4 := hx.size
  have hn4hb1 := hb1.lt
  have hn4hb2 := hb2.lt
  refine storeW_of hb4a siz35 rfl rfl fun w4 hk4 hb4 => ?_
  have hy4 : Ext w5 w4 := hx4a.under hk4 (fun k hk => by omega)
  replace h := ((h.nw (g := g4) (by omega)).ext hx4a).ow hk4 (by simp)
  replace h5 := ((h5.nw (g := g4) (by omega)).ext hx4a).ow hk4 (by simp)
  replace hb1 := hb1.ext hy4
  replace hb2 := hb2.ext hy4
  replace hD := (hD.nw (g := g4) hx4a (by omega)).ow hk4
  replace hx := hx.trans hy4
  have hq4 := hk4.size
  clear hx4a hk4 hb4a hy4
  refine hK _ _ ?_; clear hK
  refine W_seq_k fun K0 hK0 => ?_
  refine W_seq_reg fun K hK => ?_
  simp -implicitDefEqProofs (disch := omega) only [go_sem, Nat.reduceEqDiff, Nat.reduceAdd, ↓reduceIte, hb4.l2]
  refine callW_of cal199 (iSign_v h5 (by omega)) ?_
  rintro _ w6 ⟨rfl, hx6⟩; refine ⟨_, rfl, ?_⟩
  replace h := h.ext hx6
  replace h5 := h5.ext hx6
  replace hb1 := hb1.ext hx6
  replace hb2 := hb2.ext hx6
  replace hb4 := hb4.ext hx6
  replace hD := hD.kp hx6
  replace hx := hx.trans hx6
  clear hx6
  by_cases hz : m = 0
  · have hz' : (m.sign == 0) = true := by rw [hz]; rfl
    simp -implicitDefEqProofs (disch := omega) only [go_sem, Nat.reduceEqDiff, Nat.reduceAdd, ↓reduceIte, hz']
    refine hK _ _ ?_; clear hK
    refine W_cond rfl (fun hc => ?_) (fun hc => by cases hc)
    have hV : V = 0 := by rw [hz, mkV_zero] at hv; exact (Option.some.inj hv).symm
    have h7 : In (fV V) (Dl D [g4, g1, g2]) (.agg #[.bool false, .bool false, .slice none 0 0, .int .i64 0]) w6 := by
      subst hV; exact ⟨false, none, 0, 0, rfl, ⟨rfl, U32.nil⟩, by simp [dyOk, bl_zero]⟩
    refine W_seq_reg fun K hK => ?_
    simp -implicitDefEqProofs (disch := omega) only [go_sem, Nat.reduceEqDiff, Nat.reduceAdd, ↓reduceIte]
    refine storeS hb2 siz37 rfl (fV_s h7) fun w90 hk90 hb90 => ?_
    try simp -implicitDefEqProofs (disch := omega) only [go_sem, Nat.reduceEqDiff, Nat.reduceAdd, ↓reduceIte]
    refine hK _ _ ?_; clear hK
    refine W_ret ?_
    try simp only [thenE_r, inB_r]
    exact retS2 rfl (by first | exact rfl | assumption | exact (by (try simp only [upd_ap, Nat.reduceEqDiff, ↓reduceIte]); first | done | assumption | exact rfl)) agg37 hb90 (fV_s h7) ⟨_, rfl, hx.under hk90 (fun k hk => by omega), ⟨_, _, rfl, (h7.ow hk90 (by simp)).ul, (by (try simp only [upd_ap, Nat.reduceEqDiff, ↓reduceIte]); first | done | assumption | exact rfl)⟩⟩
  · have hz' : (m.sign == 0) = false := by
      rw [beq_eq_false_iff_ne]; intro h0; exact hz (Int.sign_eq_zero_iff_zero.1 h0)
    simp -implicitDefEqProofs (disch := omega) only [go_sem, Nat.reduceEqDiff, Nat.reduceAdd, ↓reduceIte, hz']
    refine hK _ _ ?_; clear hK
    refine W_cond rfl (fun hc => by cases hc) (fun hc => W_skip (hK0 _ _ ?_))
    clear hK0
    obtain ⟨hv1, hv2, hv3⟩ := mkV_some hz hv
    obtain ⟨hv4, hv5, _, hv6⟩ := mkV_od hv
    have htl := tz_le (n := m.natAbs) (by omega)
    have hbo := bl_od hz
    refine W_seq_reg fun K hK => ?_
    simp -implicitDefEqProofs (disch := omega) only [go_sem, Nat.reduceEqDiff, Nat.reduceAdd, ↓reduceIte, hb4.l2]
    refine callW_of cal243 (iTZ_v (hT.ext hx) h5 (by omega)) ?_
    rintro _ w7 ⟨rfl, hx7⟩; refine ⟨_, rfl, ?_⟩
    replace h := h.ext hx7
    replace h5 := h5.ext hx7
    replace hb1 := hb1.ext hx7
    replace hb2 := hb2.ext hx7
    replace hb4 := hb4.ext hx7
    replace hD := hD.kp hx7
    replace hx := hx.trans hx7
    clear hx7
    refine hK _ _ ?_; clear hK
    refine W_seq_k fun K0 hK0 => ?_
    have e1 : IntKind.i64.wrap (65536 - ((bl m.natAbs : Nat) : Int)) = 65536 - (bl m.natAbs : Nat) := i64_in (by omega) (by omega)
    have e2 : ¬ (e > 65536 - ((bl m.natAbs : Nat) : Int)) := by omega
    have e3 : IntKind.i64.wrap (-65536 - ((tz m.natAbs : Nat) : Int)) = -65536 - (tz m.natAbs : Nat) := i64_in (by omega) (by omega)
    have e4 : ¬ (e < -65536 - ((tz m.natAbs : Nat) : Int)) := by omega
    refine W_seq_k fun K hK => ?_
    refine W_dP true mixed (Kp.pre (fun _ => True)) (fun _ _ _ h => h) [true, true, true, false, false, false, false, false, false, false, false, false, false] [(21, Fam.S (fc (.int .i64 (bl m.natAbs : Nat))) (Dl D [g4, g1, g2])), (22, Fam.S (fc (.int .i64 (65536 - (bl m.natAbs : Nat)))) (Dl D [g4, g1, g2])), (23, Fam.S (fc (.bool false)) (Dl D [g4, g1, g2])), (24, Fam.S (fc (.bool false)) (Dl D [g4, g1, g2])), (25, Fam.S (fc (.pointer (some ⟨g1, 3, none⟩))) (Dl D [g4, g1, g2])), (26, Fam.S (fc (.int .i64 e)) (Dl D [g4, g1, g2])), (27, Fam.S (fc (.int .i64 (tz m.natAbs : Nat))) (Dl D [g4, g1, g2])), (28, Fam.S (fc (.int .i64 (-65536 - (tz m.natAbs : Nat)))) (Dl D [g4, g1, g2])), (29, Fam.S (fc (.bool false)) (Dl D [g4, g1, g2])), (30, Fam.S (fc (.bool false)) (Dl D [g4, g1, g2]))] (by kernel_rfl) fun KE hKE => ?_
    simp -implicitDefEqProofs (disch := omega) only [go_sem, Nat.reduceEqDiff, Nat.reduceAdd, ↓reduceIte, hb1.c3, hb4.c0, hb4.c1]
    refine hKE _ ⟨?_, fun e' w' hw hs ho => ?_⟩ <;> clear hKE KE
    · refine stepsL_cons (fun e' w' hw hd ho => ?_) ?_
      · skip
        have o20 := ho 20 (by kernel_rfl) (by kernel_rfl)
        simp -implicitDefEqProofs (disch := omega) only [go_sem, Nat.reduceEqDiff, Nat.reduceAdd, ↓reduceIte, o20]
        refine callW_of cal213 (iBitLen_v (h5.ext hw) (by omega)) ?_
        rintro _ w9 ⟨rfl, hx9⟩; refine ⟨_, rfl, ?_⟩
        exact ⟨hx9, fun d hd => by cases hd; exact rfl⟩
      refine stepsL_cons (fun e' w' hw hd ho => ?_) ?_
      · skip
        have h21 : e' 21 = (.int .i64 (bl m.natAbs : Nat)) := hd 21 (by kernel_rfl) (by kernel_rfl)
        simp -implicitDefEqProofs (disch := omega) only [go_sem, Nat.reduceEqDiff, Nat.reduceAdd, ↓reduceIte, h21, e1]
        exact ⟨Kp.refl _ _, fun d hd => by cases hd; exact rfl⟩
      refine stepsL_cons (fun e' w' hw hd ho => ?_) ?_
      · skip
        have o19 := ho 19 (by kernel_rfl) (by kernel_rfl)
        have h22 : e' 22 = (.int .i64 (65536 - (bl m.natAbs : Nat))) := hd 22 (by kernel_rfl) (by kernel_rfl)
        simp -implicitDefEqProofs (disch := omega) only [go_sem, Nat.reduceEqDiff, Nat.reduceAdd, ↓reduceIte, o19, h22, e2]
        exact ⟨Kp.refl _ _, fun d hd => by cases hd; exact rfl⟩
      refine stepsL_cons (fun e' w' hw hd ho => ?_) ?_
      · skip
        have h23 : e' 23 = (.bool false) := hd 23 (by kernel_rfl) (by kernel_rfl)
        simp -implicitDefEqProofs (disch := omega) only [go_sem, Nat.reduceEqDiff, Nat.reduceAdd, ↓reduceIte, h23]
        exact ⟨Kp.refl _ _, fun d hd => by cases hd; exact rfl⟩
      refine stepsL_cons (fun e' w' hw hd ho => ?_) ?_
      · skip
        have o1 := ho 1 (by kernel_rfl) (by kernel_rfl)
        have h24 : e' 24 = (.bool false) := hd 24 (by kernel_rfl) (by kernel_rfl)
        simp -implicitDefEqProofs (disch := omega) only [go_sem, Nat.reduceEqDiff, Nat.reduceAdd, ↓reduceIte, o1, h24]
        exact ⟨Kp.refl _ _, fun d hd => by cases hd; exact rfl⟩
      refine stepsL_cons (fun e' w' hw hd ho => ?_) ?_
      · skip
        have h25 : e' 25 = (.pointer (some ⟨g1, 3, none⟩)) := hd 25 (by kernel_rfl) (by kernel_rfl)
        have h24 : e' 24 = (.bool false) := hd 24 (by kernel_rfl) (by kernel_rfl)
        simp -implicitDefEqProofs (disch := omega) only [go_sem, Nat.reduceEqDiff, Nat.reduceAdd, ↓reduceIte, h25, h24, (hb1.ext hw).c3]
        exact ⟨Kp.refl _ _, fun d hd => by cases hd; exact rfl⟩
      refine stepsL_cons (fun e' w' hw hd ho => ?_) ?_
      · skip
        have o5 := ho 5 (by kernel_rfl) (by kernel_rfl)
        have h24 : e' 24 = (.bool false) := hd 24 (by kernel_rfl) (by kernel_rfl)
        simp -implicitDefEqProofs (disch := omega) only [go_sem, Nat.reduceEqDiff, Nat.reduceAdd, ↓reduceIte, o5, h24]
        exact ⟨Kp.refl _ _, fun d hd => by cases hd; exact rfl⟩
      refine stepsL_cons (fun e' w' hw hd ho => ?_) ?_
      · skip
        have h27 : e' 27 = (.int .i64 (tz m.natAbs : Nat)) := hd 27 (by kernel_rfl) (by kernel_rfl)
        have h24 : e' 24 = (.bool false) := hd 24 (by kernel_rfl) (by kernel_rfl)
        simp -implicitDefEqProofs (disch := omega) only [go_sem, Nat.reduceEqDiff, Nat.reduceAdd, ↓reduceIte, h27, h24, e3]
        exact ⟨Kp.refl _ _, fun d hd => by cases hd; exact rfl⟩
      refine stepsL_cons (fun e' w' hw hd ho => ?_) ?_
      · skip
        have h26 : e' 26 = (.int .i64 e) := hd 26 (by kernel_rfl) (by kernel_rfl)
        have h28 : e' 28 = (.int .i64 (-65536 - (tz m.natAbs : Nat))) := hd 28 (by kernel_rfl) (by kernel_rfl)
        have h24 : e' 24 = (.bool false) := hd 24 (by kernel_rfl) (by kernel_rfl)
        simp -implicitDefEqProofs (disch := omega) only [go_sem, Nat.reduceEqDiff, Nat.reduceAdd, ↓reduceIte, h26, h28, h24, e4]
        exact ⟨Kp.refl _ _, fun d hd => by cases hd; exact rfl⟩
      refine stepsL_cons (fun e' w' hw hd ho => ?_) ?_
      · skip
        have h24 : e' 24 = (.bool false) := hd 24 (by kernel_rfl) (by kernel_rfl)
        have h29 : e' 29 = (.bool false) := hd 29 (by kernel_rfl) (by kernel_rfl)
        simp -implicitDefEqProofs (disch := omega) only [go_sem, Nat.reduceEqDiff, Nat.reduceAdd, ↓reduceIte, h24, h29]
        exact ⟨Kp.refl _ _, fun d hd => by cases hd; exact rfl⟩
      exact stepsL_nil
    · have h30 : e' 30 = (.bool false) := hs 30 (by kernel_rfl)
      have z1 := ho 1 (by kernel_rfl)
      have z2 := ho 2 (by kernel_rfl)
      have z4 := ho 4 (by kernel_rfl)
      have z5 := ho 5 (by kernel_rfl)
      clear hs ho
      simp -implicitDefEqProofs only [upd_ap, Nat.reduceEqDiff, ↓reduceIte, env_z, env_s, List.toList_toArray] at z1 z2 z4 z5
      have o1 := z1
      clear z1
      have o2 := z2
      clear z2
      have o4 := z4
      clear z4
      have o5 := z5
      clear z5
      replace h := h.ext hw
      replace h5 := h5.ext hw
      replace hb1 := hb1.ext hw
      replace hb2 := hb2.ext hw
      replace hb4 := hb4.ext hw
      replace hD := hD.kp hw
      replace hx := hx.trans hw
      simp only [thenE_n]
      refine hK _ _ ?_; clear hK K
      refine W_cond h30 (fun hc => by cases hc) (fun hc => W_skip (hK0 _ _ ?_))
      clear hK0
      have e5 : IntKind.i64.wrap (e + ((tz m.natAbs : Nat) : Int)) = e + (tz m.natAbs : Nat) := i64_in (by omega) (by omega)
      refine W_seq_k fun K hK => ?_
      refine W_dC mixed (Kp (fun k => k ∉ ([] : List Nat))) (fun _ _ => False) (Kp.pre _) [true, true, false, true, true, true, true, false, false, false] [false, false, false, false, false, false, false, false, false, false] [1, 1, 0, 1, 1, 1, 1, 1, 1, 1] (by kernel_rfl) ?_
      apply Exists.intro
      refine ⟨fun wE hE KE hKE => ?_, fun wE hE KE hKE => ?_, fun wE hxE hr => ?_⟩
      · skip
        replace hE := Kp.all hE
        replace hb1 := hb1.ext hE
        replace hb2 := hb2.ext hE
        replace hb4 := hb4.ext hE
        replace h := h.ext hE
        replace h5 := h5.ext hE
        simp -implicitDefEqProofs (disch := omega) only [go_sem, Nat.reduceEqDiff, Nat.reduceAdd, ↓reduceIte, o1, o2, o4, o5, hb1.c3, hb4.c0, hb4.c1, e5]
        exact hKE
      · exact hE.elim
      simp only [selP_t, selP_f, selP_n]
      replace h := h.ext hxE
      replace h5 := h5.ext hxE
      replace hb1 := hb1.ext hxE
      replace hb2 := hb2.ext hxE
      replace hb4 := hb4.ext hxE
      replace hD := hD.kp hxE
      replace hx := hx.trans hxE
      simp -implicitDefEqProofs (disch := omega) only [go_sem, Nat.reduceEqDiff, Nat.reduceAdd, ↓reduceIte, List.toList_toArray, o1, o2, o4, o5, hb1.c3, hb4.c0, hb4.c1, e5]
      refine callW_of cal244 (iRight_v h5 (by omega) (by omega) hD) ?_
      rintro _ w9 ⟨v9, rfl, hx9, h9⟩; refine ⟨_, rfl, ?_⟩
      replace h := h.ext hx9
      replace h5 := h5.ext hx9
      replace hb1 := hb1.ext hx9
      replace hb2 := hb2.ext hx9
      replace hb4 := hb4.ext hx9
      replace hD := hD.kp hx9
      replace hx := hx.trans hx9
      replace hr := hr.trans (Kp.of_ext hx9)
      clear hx9
      refine ⟨hr, ?_⟩
      rw [shI_odz] at h9
      set_option maxRecDepth 20000 in
      obtain ⟨s9, A9, n9, c9, rfl, _⟩ := id h9
      have h15 := in_V h9 hv4.symm (hv5 hz).2.symm hv6
      simp -implicitDefEqProofs (disch := omega) only [go_sem, Nat.reduceEqDiff, Nat.reduceAdd, ↓reduceIte, e5]
      refine storeS hb2 siz37 rfl (fV_s h15) fun w90 hk90 hb90 => ?_
      try simp -implicitDefEqProofs (disch := omega) only [go_sem, Nat.reduceEqDiff, Nat.reduceAdd, ↓reduceIte]
      refine hK _ _ ?_; clear hK
      refine W_ret ?_
      try simp only [thenE_r, inB_r]
      exact retS2 rfl (by first | exact rfl | assumption | exact (by (try simp only [upd_ap, Nat.reduceEqDiff, ↓reduceIte]); first | done | assumption | exact rfl)) agg37 hb90 (fV_s h15) ⟨_, rfl, hx.under hk90 (fun k hk => by omega), ⟨_, _, rfl, (h15.ow hk90 (by simp)).ul, (by (try simp only [upd_ap, Nat.reduceEqDiff, ↓reduceIte]); first | done | assumption | exact rfl)⟩⟩
end
end Go.Proofs.YtjamnehcmaloeaaGreatDoor
end
section
namespace Go.Sp
theorem od_sgn (V : Int) : (od V).sign = V.sign := by
  by_cases h : V = 0
  · subst h; rw [od_zero]
  · have h1 := od_ne h
    have h2 := od_sign V
    rw [decide_eq_decide] at h2
    rcases Int.lt_or_gt_of_ne h with h3 | h3
    · rw [Int.sign_eq_neg_one_of_neg h3, Int.sign_eq_neg_one_of_neg (h2.2 h3)]
    · have : ¬ od V < 0 := fun h => by have := h2.1 h; omega
      rw [Int.sign_eq_one_of_pos h3, Int.sign_eq_one_of_pos (by omega)]
end Go.Sp
namespace Go.E
open Go
theorem storeW_fld2 {P : Program} {w : World} {T t g i : Nat} {a b : Value} {cs : Array Value} {K : World → Prop} (hb : Blk w g t cs) (hs : sizeOf' P T = some 2) (hi : i + 1 < cs.size) (h1 : a.oneCell' = true) (h2 : b.oneCell' = true)
    (hK : ∀ w', Kp (fun k => k ≠ g) w w' → Blk w' g t ((cs.setIfInBounds i a).setIfInBounds (i + 1) b) → K w') : storeW P T w (.pointer (some ⟨g, i, none⟩)) (.agg #[a, b]) K := by
  rw [storeW_p]
  refine ⟨hs, ⟨?_, ?_, h1, ?_, ?_, h2, trivial⟩, hK _ ?_ ?_⟩
  · rw [add_lit, Nat.add_zero, hb.cell, Array.getElem?_eq_getElem (by omega)]; rfl
  · rw [add_lit, Nat.add_zero]; exact hb.frozen i
  · rw [add_lit, hb.cell, Array.getElem?_eq_getElem (by omega)]; rfl
  · rw [add_lit]; exact hb.frozen (i + 1)
  · exact stN_kp _ _ _ fun _ h => h rfl
  · show Blk ((w.setCell _ a).setCell _ b) g t _
    simp only [add_lit, Nat.add_zero]
    exact (hb.set i a).set (i + 1) b
end Go.E
namespace Go.Proofs.YtjamnehcmaloeaaGreatDoor
open Go Go.E Go.Sp
theorem bsv41 (a b c d : Value) : bsV Tryz.prog 41 1 [(0, .agg #[a, b, c, d])] = some (37, #[a, b, c, d]) := by
  unfold bsV
  simp only [elm41]
  have hr : Array.range 4 = #[0, 1, 2, 3] := rfl
  simp [Instr.fill, Value.cells, hr]
theorem pushV {w : World} {ty B n c : Nat} {A : Option Addr} {D : Nat → Prop} {l : List Int} {V : Int} {v : Value} (hO : OwnL fV 37 4 w D B A n c l) (hv : In (fV V) (fun k => D k ∧ nb A k) v w) (hn : n ≤ 1000000000) (hb : B ≤ w.heap.size) {K : Value → Value → World → Prop}
    (hK : ∀ v1 A' c' w', OwnL fV 37 4 w' D B A' (n + 1) c' (l ++ [V]) → Kp (nb A) w w' → (A' = A ∨ ∃ g, w.heap.size ≤ g ∧ A' = some ⟨g, 0, none⟩) → K v1 (.slice A' (n + 1) c') w') :
    pushW Tryz.prog 41 ty (.slice A n c) v w K := by
  refine pushL elm41 rfl (by omega) ?_ hO hv (fV_s hv).cel (by omega) hb hK
  obtain ⟨s, A, n, c, rfl, _⟩ := id hv
  exact bsv41 _ _ _ _
section
variable {D : Nat → Prop} {v v' : Value} {w : World} {x y d : Nat} {a b m e V : Int}
theorem dn_v (hT : Tabs w) (h : In (fV V) D v w) (hf : Fr D w) : Calls Tryz.prog 198 #[v] w (Rt (fP (fV V) (fc (.bool true))) D w) := by
  obtain ⟨s, A, n, c, rfl, _, _⟩ := id h
  obtain ⟨hd1, hd2, hd3⟩ := dyE_bd h.ok
  exact dn_ok hT h.man (by omega) (by omega) (by omega) (mkV_dy h.ok) hf
theorem dNorm_v (hT : Tabs w) (h : In (fV V) D v w) (hf : Fr D w) : Calls Tryz.prog 158 #[v] w (Rt (fV V) D w) := by
  obtain ⟨s, A, n, c, rfl, _, _⟩ := id h
  refine calls_W Tryz.func158 rfl Tryz.ntmps158 (by kernel_rfl) ?_
  refine W_seq_reg fun K hK => ?_
  simp -implicitDefEqProofs (disch := omega) only [go_sem, Nat.reduceEqDiff, Nat.reduceAdd, ↓reduceIte]
  refine boxW_of ?_
  intro g1 w1 hg1 hx1 hb1 hs1
  refine alW_of ?_
  intro g2 w2 hg2 hx2 hb2 hs2
  refine hK _ _ ?_; clear hK K
  have hx : Ext w w2 := (hx1.trans hx2)
  replace hb1 := (hb1.ext hx2)
  replace h := (h.nL (L := [g1, g2]) (by intro g hg; simp at hg; omega)).ext hx
  have hD : Fr (Dl D [g1, g2]) w2 := hf.nL hx (by intro g hg; simp at hg; omega)
  clear hx1 hx2
  refine W_seq_reg fun K hK => ?_
  simp -implicitDefEqProofs (disch := omega) only [go_sem, Nat.reduceEqDiff, Nat.reduceAdd, ↓reduceIte, hb1.l4]
  refine callW_of cal198 (dn_v (hT.ext hx) h hD) ?_
  rintro _ w5 ⟨v5, rfl, hx5, h5⟩; refine ⟨_, rfl, ?_⟩
  replace h := h.ext hx5
  replace hb1 := hb1.ext hx5
  replace hb2 := hb2.ext hx5
  replace hD := hD.kp hx5
  replace hx := hx.trans hx5
  clear hx5
  obtain ⟨v8, v9, rfl, h8, rfl⟩ := h5
  replace h8 : In _ _ v8 _ := h8
  obtain ⟨s8, A8, n8, c8, rfl, _, _⟩ := id h8
  simp -implicitDefEqProofs (disch := omega) only [go_sem, Nat.reduceEqDiff, Nat.reduceAdd, ↓reduceIte]
  refine storeW_of hb1 siz37 rfl rfl fun w9 hk9 hz9 => ?_
  replace h := h.ow hk9 (by simp)
  replace h8 := h8.ow hk9 (by simp)
  replace hb2 := hb2.kpne hk9 (by omega)
  replace hD := hD.ow hk9
  replace hx := hx.under hk9 (fun k hk => by omega)
  clear hb1 hk9
  have hb1 := hz9; clear hz9
  refine hK _ _ ?_; clear hK
  refine W_seq_reg fun K hK => ?_
  simp -implicitDefEqProofs (disch := omega) only [go_sem, Nat.reduceEqDiff, Nat.reduceAdd, ↓reduceIte, hb1.l4]
  refine storeS hb2 siz37 rfl (fV_s h8) fun w90 hk90 hb90 => ?_
  refine hK _ _ ?_; clear hK
  refine W_ret ?_
  try simp only [thenE_r, inB_r]
  exact retS rfl (by first | exact rfl | assumption | exact (by (try simp only [upd_ap, Nat.reduceEqDiff, ↓reduceIte]); first | done | assumption | exact rfl)) agg37 hb90 (fV_s h8) (Rt.fin hx h8 hk90 (by simp) (by omega))
theorem dSign_v (hT : Tabs w) (h : In (fV V) D v w) (hf : Fr D w) : Calls Tryz.prog 151 #[v] w fun e w' => e = .returned (.int .i64 V.sign) ∧ Ext w w' := by
  obtain ⟨s, A, n, c, rfl, _, _⟩ := id h
  have hb := (dyE_bd h.ok).2.2
  refine calls_W Tryz.func151 rfl Tryz.ntmps151 (by kernel_rfl) ?_
  refine W_seq_reg fun K hK => ?_
  simp -implicitDefEqProofs (disch := omega) only [go_sem, Nat.reduceEqDiff, Nat.reduceAdd, ↓reduceIte]
  refine boxW_of ?_
  intro g1 w1 hg1 hx1 hb1 hs1
  refine hK _ _ ?_; clear hK K
  have hx : Ext w w1 := hx1
  replace h := (h.nL (L := [g1]) (by intro g hg; simp at hg; omega)).ext hx
  have hD : Fr (Dl D [g1]) w1 := hf.nL hx (by intro g hg; simp at hg; omega)
  clear hx1
  refine W_seq_reg fun K hK => ?_
  simp -implicitDefEqProofs (disch := omega) only [go_sem, Nat.reduceEqDiff, Nat.reduceAdd, ↓reduceIte, hb1.l4]
  refine callW_of cal198 (dn_v (hT.ext hx) h hD) ?_
  rintro _ w5 ⟨v5, rfl, hx5, h5⟩; refine ⟨_, rfl, ?_⟩
  replace h := h.ext hx5
  replace hb1 := hb1.ext hx5
  replace hD := hD.kp hx5
  replace hx := hx.trans hx5
  clear hx5
  obtain ⟨v8, v9, rfl, h8, rfl⟩ := h5
  replace h8 : In _ _ v8 _ := h8
  obtain ⟨s8, A8, n8, c8, rfl, _, _⟩ := id h8
  simp -implicitDefEqProofs (disch := omega) only [go_sem, Nat.reduceEqDiff, Nat.reduceAdd, ↓reduceIte]
  refine storeW_of hb1 siz37 rfl rfl fun w9 hk9 hz9 => ?_
  replace h := h.ow hk9 (by simp)
  replace h8 := h8.ow hk9 (by simp)
  replace hD := hD.ow hk9
  replace hx := hx.under hk9 (fun k hk => by omega)
  clear hb1 hk9
  have hb1 := hz9; clear hz9
  refine hK _ _ ?_; clear hK
  have hm := h8.man
  refine W_seq_reg fun K hK => ?_
  simp -implicitDefEqProofs (disch := omega) only [go_sem, Nat.reduceEqDiff, Nat.reduceAdd, ↓reduceIte, hb1.c1, hb1.c2]
  refine callW_of cal199 (iSign_v hm (by omega)) ?_
  rintro _ w10 ⟨rfl, hx10⟩; refine ⟨_, rfl, ?_⟩
  replace h := h.ext hx10
  replace h8 := h8.ext hx10
  replace hb1 := hb1.ext hx10
  replace hD := hD.kp hx10
  replace hx := hx.trans hx10
  clear hx10
  rw [od_sgn]
  refine hK _ _ ?_; clear hK
  refine W_ret ?_
  try simp only [thenE_r, inB_r]
  refine ret1 rfl ⟨by simp only [upd_ap, Nat.reduceEqDiff, ↓reduceIte], hx⟩
theorem dNeg_v (hT : Tabs w) (h : In (fV V) D v w) (hf : Fr D w) : Calls Tryz.prog 167 #[v] w (Rt (fV (-V)) D w) := by
  obtain ⟨s, A, n, c, rfl, _, _⟩ := id h
  have hb := (dyE_bd h.ok).2.2
  refine calls_W Tryz.func167 rfl Tryz.ntmps167 (by kernel_rfl) ?_
  refine W_seq_reg fun K hK => ?_
  simp -implicitDefEqProofs (disch := omega) only [go_sem, Nat.reduceEqDiff, Nat.reduceAdd, ↓reduceIte]
  refine boxW_of ?_
  intro g1 w1 hg1 hx1 hb1 hs1
  refine alW_of ?_
  intro g2 w2 hg2 hx2 hb2 hs2
  refine hK _ _ ?_; clear hK K
  have hx : Ext w w2 := (hx1.trans hx2)
  replace hb1 := (hb1.ext hx2)
  replace h := (h.nL (L := [g1, g2]) (by intro g hg; simp at hg; omega)).ext hx
  have hD : Fr (Dl D [g1, g2]) w2 := hf.nL hx (by intro g hg; simp at hg; omega)
  clear hx1 hx2
  refine W_seq_reg fun K hK => ?_
  simp -implicitDefEqProofs (disch := omega) only [go_sem, Nat.reduceEqDiff, Nat.reduceAdd, ↓reduceIte, hb1.l4]
  refine callW_of cal198 (dn_v (hT.ext hx) h hD) ?_
  rintro _ w5 ⟨v5, rfl, hx5, h5⟩; refine ⟨_, rfl, ?_⟩
  replace h := h.ext hx5
  replace hb1 := hb1.ext hx5
  replace hb2 := hb2.ext hx5
  replace hD := hD.kp hx5
  replace hx := hx.trans hx5
  clear hx5
  obtain ⟨v8, v9, rfl, h8, rfl⟩ := h5
  replace h8 : In _ _ v8 _ := h8
  obtain ⟨s8, A8, n8, c8, rfl, _, _⟩ := id h8
  simp -implicitDefEqProofs (disch := omega) only [go_sem, Nat.reduceEqDiff, Nat.reduceAdd, ↓reduceIte]
  refine storeW_of hb1 siz37 rfl rfl fun w9 hk9 hz9 => ?_
  replace h := h.ow hk9 (by simp)
  replace h8 := h8.ow hk9 (by simp)
  replace hb2 := hb2.kpne hk9 (by omega)
  replace hD := hD.ow hk9
  replace hx := hx.under hk9 (fun k hk => by omega)
  clear hb1 hk9
  have hb1 := hz9; clear hz9
  refine hK _ _ ?_; clear hK
  have hm := h8.man
  refine W_seq_k fun K0 hK0 => ?_
  refine W_seq_reg fun K hK => ?_
  simp -implicitDefEqProofs (disch := omega) only [go_sem, Nat.reduceEqDiff, Nat.reduceAdd, ↓reduceIte]
  refine hK _ _ ?_; clear hK K
  refine W_cond rfl (fun hc => ?_) (fun hc => by cases hc)
  refine W_regK fun K9 hK9 => ?_
  simp -implicitDefEqProofs (disch := omega) only [go_sem, Nat.reduceEqDiff, Nat.reduceAdd, ↓reduceIte, hb1.c1, hb1.c2]
  refine callW_of cal165 (iNeg_v hm (by omega) hD) ?_
  rintro _ w10 ⟨v10, rfl, hx10, h10⟩; refine ⟨_, rfl, ?_⟩
  replace h := h.ext hx10
  replace h8 := h8.ext hx10
  replace hm := hm.ext hx10
  replace hb1 := hb1.ext hx10
  replace hb2 := hb2.ext hx10
  replace hD := hD.kp hx10
  replace hx := hx.trans hx10
  clear hx10
  obtain ⟨s10, A10, n10, c10, rfl, _⟩ := id h10
  refine storeW_fld2 hb1 siz35 (by simp [Value.cells]) rfl rfl fun w11 hk11 hz11 => ?_
  replace h := h.ow hk11 (by simp)
  replace h8 := h8.ow hk11 (by simp)
  replace hm := hm.ow hk11 (by simp)
  replace h10 := h10.ow hk11 (by simp)
  replace hb2 := hb2.kpne hk11 (by omega)
  replace hD := hD.ow hk11
  replace hx := hx.under hk11 (fun k hk => by omega)
  clear hk11
  replace hb1 : Blk w11 g1 _ #[.bool false, .bool s10, .slice A10 n10 c10, .int .i64 (dyE V)] := hz11
  clear hz11
  refine hK9 _ _ ?_; clear hK9 K9
  refine hK0 _ _ ?_; clear hK0 K0
  have h12 : In (fV (-V)) (Dl D [g1, g2]) (.agg #[.bool false, .bool s10, .slice A10 n10 c10, .int .i64 (dyE V)]) w11 := in_V h10 (od_neg V).symm (dyE_neg V).symm (dyOk_neg h8.ok)
  refine W_seq_reg fun K hK => ?_
  simp -implicitDefEqProofs (disch := omega) only [go_sem, Nat.reduceEqDiff, Nat.reduceAdd, ↓reduceIte, hb1.l4]
  refine storeS hb2 siz37 rfl (fV_s h12) fun w90 hk90 hb90 => ?_
  refine hK _ _ ?_; clear hK
  refine W_ret ?_
  try simp only [thenE_r, inB_r]
  exact retS rfl (by first | exact rfl | assumption | exact (by (try simp only [upd_ap, Nat.reduceEqDiff, ↓reduceIte]); first | done | assumption | exact rfl)) agg37 hb90 (fV_s h12) (Rt.fin hx h12 hk90 (by simp) (by omega))
theorem dMake_v (hT : Tabs w) (h : In (fB m) D v w) (hb : bl m.natAbs ≤ 1000000) (he1 : -1000000 ≤ e) (he2 : e ≤ 1000000) (hv : mkV m e = some V) (hf : Fr D w) :
    Calls Tryz.prog 166 #[v, .int .i64 e] w (Rt (fV V) D w) := by
  obtain ⟨s, A, n, c, rfl, _⟩ := id h
  refine calls_W Tryz.func166 rfl Tryz.ntmps166 (by kernel_rfl) ?_
  refine W_seq_reg fun K hK => ?_
  simp -implicitDefEqProofs (disch := omega) only [go_sem, Nat.reduceEqDiff, Nat.reduceAdd, ↓reduceIte]
  refine boxW_of ?_
  intro g2 w2 hg2 hx2 hb2 hs2
  refine alW_of ?_
  intro g4 w4 hg4 hx4 hb4 hs4
  refine hK _ _ ?_; clear hK K
  have hx : Ext w w4 := (hx2.trans hx4)
  replace hb2 := (hb2.ext hx4)
  replace h := (h.nL (L := [g2, g4]) (by intro g hg; simp at hg; omega)).ext hx
  have hD : Fr (Dl D [g2, g4]) w4 := hf.nL hx (by intro g hg; simp at hg; omega)
  clear hx2 hx4
  refine W_seq_reg fun K hK => ?_
  simp -implicitDefEqProofs (disch := omega) only [go_sem, Nat.reduceEqDiff, Nat.reduceAdd, ↓reduceIte, hb2.l2]
  refine callW_of cal198 (dn_ok (hT.ext hx) h hb he1 he2 hv hD) ?_
  rintro _ w5 ⟨v5, rfl, hx5, h5⟩; refine ⟨_, rfl, ?_⟩
  replace h := h.ext hx5
  replace hb2 := hb2.ext hx5
  replace hb4 := hb4.ext hx5
  replace hD := hD.kp hx5
  replace hx := hx.trans hx5
  clear hx5
  obtain ⟨v8, v9, rfl, h8, rfl⟩ := h5
  replace h8 : In _ _ v8 _ := h8
  obtain ⟨s8, A8, n8, c8, rfl, _, _⟩ := id h8
  simp -implicitDefEqProofs (disch := omega) only [go_sem, Nat.reduceEqDiff, Nat.reduceAdd, ↓reduceIte]
  refine alW_of ?_
  intro g9 w9a hg9 hx9a hb9a hs9
  have hgl9 := hx.size
  have hn9hb2 := hb2.lt
  have hn9hb4 := hb4.lt
  refine storeW_of hb9a siz37 rfl rfl fun w9 hk9 hb9 => ?_
  have hy9 : Ext w5 w9 := hx9a.under hk9 (fun k hk => by omega)
  replace h := ((h.nw (g := g9) (by omega)).ext hx9a).ow hk9 (by simp)
  replace h8 := ((h8.nw (g := g9) (by omega)).ext hx9a).ow hk9 (by simp)
  replace hb2 := hb2.ext hy9
  replace hb4 := hb4.ext hy9
  replace hD := (hD.nw (g := g9) hx9a (by omega)).ow hk9
  replace hx := hx.trans hy9
  have hq9 := hk9.size
  clear hx9a hk9 hb9a hy9
  refine hK _ _ ?_; clear hK
  refine W_seq_reg fun K hK => ?_
  simp -implicitDefEqProofs (disch := omega) only [go_sem, Nat.reduceEqDiff, Nat.reduceAdd, ↓reduceIte, hb9.l4]
  refine storeS hb4 siz37 rfl (fV_s h8) fun w90 hk90 hb90 => ?_
  refine hK _ _ ?_; clear hK
  refine W_ret ?_
  try simp only [thenE_r, inB_r]
  exact retS rfl (by first | exact rfl | assumption | exact (by (try simp only [upd_ap, Nat.reduceEqDiff, ↓reduceIte]); first | done | assumption | exact rfl)) agg37 hb90 (fV_s h8) (Rt.fin hx h8 hk90 (by simp) (by omega))
end
end Go.Proofs.YtjamnehcmaloeaaGreatDoor
end
section
namespace Go.E
open Go
theorem setCell_same {w : World} {g t i : Nat} {cs : Array Value} {v : Value} (hb : Blk w g t cs) (hi : cs[i]? = some v) : w.setCell ⟨g, i, none⟩ v = w := by
  have hc : cs.setIfInBounds i v = cs := by
    apply Array.ext_getElem?
    intro j
    rw [Array.getElem?_setIfInBounds]
    split
    · rename_i h; subst h
      obtain ⟨hlt, _⟩ := Array.getElem?_eq_some_iff.1 hi
      rw [if_pos hlt, hi]
    · rfl
  unfold World.setCell
  have : (w.heap.modify g fun
      | .cells c elem frozen => .cells (c.setIfInBounds i v) elem frozen
      | o => o) = w.heap := by
    apply Array.ext_getElem?
    intro j
    rw [Array.getElem?_modify]
    split
    · rename_i h; subst h
      unfold Blk at hb
      rw [hb]
      simp [hc]
    · rfl
  cases w
  simp only [Option.isSome_none, Bool.false_eq_true, if_false]
  simp only at this
  exact congrArg (fun x => World.mk x _ _ _ _) this
theorem stN_same {w : World} {g t : Nat} {cs : Array Value} (hb : Blk w g t cs) : ∀ (vs : List Value) (i : Nat), (∀ j u, vs[j]? = some u → cs[i + j]? = some u) → stN w ⟨g, 0, none⟩ i vs = w
  | [], _, _ => rfl
  | v :: vs, i, h => by
    rw [stN, add_lit, Nat.zero_add, setCell_same (i := i) hb (h 0 v rfl)]
    exact stN_same hb vs (i + 1) fun j u hu => by rw [show i + 1 + j = i + (j + 1) by omega]; exact h (j + 1) u (by simpa using hu)
theorem storeS_same {P : Program} {w : World} {T t g k : Nat} {v : Value} {K : World → Prop} (hb : Blk w g t v.cells) (hs : sizeOf' P T = some k) (hv : Shp k v) (hK : K w) : storeW P T w (.pointer (some ⟨g, 0, none⟩)) v K := by
  obtain ⟨c2, rfl, h1, h2⟩ := hv
  rw [storeW_p]
  refine ⟨by rw [hs, ← h1]; rfl, hb.stOk _ _ (by simp) (fun u hu => (List.all_eq_true.1 h2) u hu), ?_⟩
  rw [stN_same hb _ _ fun j u hu => ?_]
  · exact hK
  · rw [Nat.zero_add]; simpa using hu
end Go.E
namespace Go.Proofs.YtjamnehcmaloeaaGreatDoor
open Go Go.E Go.Sp
section
variable {D : Nat → Prop} {v v' : Value} {w : World} {x y d : Nat} {a b m e V : Int}
theorem dTwo_v (hT : Tabs w) (h : In (fV a) D v w) (h' : In (fV b) D v' w) (hf : Fr D w) : Calls Tryz.prog 220 #[v, v'] w (Rt (fP3 (fV a) (fV b) (fc (.bool true))) D w) := by
  obtain ⟨s, A, n, c, rfl, _, _⟩ := id h
  obtain ⟨s', A', n', c', rfl, _, _⟩ := id h'
  refine calls_W Tryz.func220 rfl Tryz.ntmps220 (by kernel_rfl) ?_
  refine W_seq_reg fun K hK => ?_
  simp -implicitDefEqProofs (disch := omega) only [go_sem, Nat.reduceEqDiff, Nat.reduceAdd, ↓reduceIte]
  refine boxW_of ?_
  intro g2 w2 hg2 hx2 hb2 hs2
  refine boxW_of ?_
  intro g3 w3 hg3 hx3 hb3 hs3
  refine alW_of ?_
  intro g4 w4 hg4 hx4 hb4 hs4
  refine alW_of ?_
  intro g5 w5 hg5 hx5 hb5 hs5
  refine hK _ _ ?_; clear hK K
  have hx : Ext w w5 := (((hx2.trans hx3).trans hx4).trans hx5)
  replace hb2 := (((hb2.ext hx3).ext hx4).ext hx5)
  replace hb3 := ((hb3.ext hx4).ext hx5)
  replace hb4 := (hb4.ext hx5)
  replace h := (h.nL (L := [g2, g3, g4, g5]) (by intro g hg; simp at hg; omega)).ext hx
  replace h' := (h'.nL (L := [g2, g3, g4, g5]) (by intro g hg; simp at hg; omega)).ext hx
  have hD : Fr (Dl D [g2, g3, g4, g5]) w5 := hf.nL hx (by intro g hg; simp at hg; omega)
  clear hx2 hx3 hx4 hx5
  refine W_seq_reg fun K hK => ?_
  simp -implicitDefEqProofs (disch := omega) only [go_sem, Nat.reduceEqDiff, Nat.reduceAdd, ↓reduceIte, hb2.l4]
  refine callW_of cal198 (dn_v (hT.ext hx) h hD) ?_
  rintro _ w7 ⟨v7, rfl, hx7, h7⟩; refine ⟨_, rfl, ?_⟩
  replace h := h.ext hx7
  replace h' := h'.ext hx7
  replace hb2 := hb2.ext hx7
  replace hb3 := hb3.ext hx7
  replace hb4 := hb4.ext hx7
  replace hb5 := hb5.ext hx7
  replace hD := hD.kp hx7
  replace hx := hx.trans hx7
  clear hx7
  obtain ⟨v8, v9, rfl, h8, rfl⟩ := h7
  replace h8 : In _ _ v8 _ := h8
  obtain ⟨s8, A8, n8, c8, rfl, _, _⟩ := id h8
  simp -implicitDefEqProofs (disch := omega) only [go_sem, Nat.reduceEqDiff, Nat.reduceAdd, ↓reduceIte]
  refine storeW_of hb4 siz37 rfl rfl fun w10 hk10 hz10 => ?_
  replace h := h.ow hk10 (by simp)
  replace h' := h'.ow hk10 (by simp)
  replace h8 := h8.ow hk10 (by simp)
  replace hb2 := hb2.kpne hk10 (by omega)
  replace hb3 := hb3.kpne hk10 (by omega)
  replace hb5 := hb5.kpne hk10 (by omega)
  replace hD := hD.ow hk10
  replace hx := hx.under hk10 (fun k hk => by omega)
  clear hb4 hk10
  have hb4 := hz10; clear hz10
  refine hK _ _ ?_; clear hK
  refine W_seq_reg fun K hK => ?_
  simp -implicitDefEqProofs (disch := omega) only [go_sem, Nat.reduceEqDiff, Nat.reduceAdd, ↓reduceIte, hb3.l4]
  refine callW_of cal198 (dn_v (hT.ext hx) h' hD) ?_
  rintro _ w11 ⟨v11, rfl, hx11, h11⟩; refine ⟨_, rfl, ?_⟩
  replace h := h.ext hx11
  replace h' := h'.ext hx11
  replace h8 := h8.ext hx11
  replace hb2 := hb2.ext hx11
  replace hb3 := hb3.ext hx11
  replace hb4 := hb4.ext hx11
  replace hb5 := hb5.ext hx11
  replace hD := hD.kp hx11
  replace hx := hx.trans hx11
  clear hx11
  obtain ⟨v12, v13, rfl, h12, rfl⟩ := h11
  replace h12 : In _ _ v12 _ := h12
  obtain ⟨s12, A12, n12, c12, rfl, _, _⟩ := id h12
  simp -implicitDefEqProofs (disch := omega) only [go_sem, Nat.reduceEqDiff, Nat.reduceAdd, ↓reduceIte]
  refine storeW_of hb5 siz37 rfl rfl fun w14 hk14 hz14 => ?_
  replace h := h.ow hk14 (by simp)
  replace h' := h'.ow hk14 (by simp)
  replace h8 := h8.ow hk14 (by simp)
  replace h12 := h12.ow hk14 (by simp)
  replace hb2 := hb2.kpne hk14 (by omega)
  replace hb3 := hb3.kpne hk14 (by omega)
  replace hb4 := hb4.kpne hk14 (by omega)
  replace hD := hD.ow hk14
  replace hx := hx.under hk14 (fun k hk => by omega)
  clear hb5 hk14
  have hb5 := hz14; clear hz14
  refine hK _ _ ?_; clear hK
  refine W_seq_k fun K hK => ?_
  refine W_dC mixed (Kp (fun k => k ∉ ([] : List Nat))) (fun _ _ => False) (Kp.pre _) [true, true, true, true, true, true, false, false, true] [false, false, false, false, false, false, false, false, false] [1, 1, 1, 1, 1, 1, 0, 0, 1] (by kernel_rfl) ?_
  apply Exists.intro
  refine ⟨fun wE hE KE hKE => ?_, fun wE hE KE hKE => ?_, fun wE hxE hr => ?_⟩
  · skip
    replace hE := Kp.all hE
    replace hb2 := hb2.ext hE
    replace hb3 := hb3.ext hE
    replace hb4 := hb4.ext hE
    replace hb5 := hb5.ext hE
    replace h := h.ext hE
    replace h' := h'.ext hE
    replace h8 := h8.ext hE
    replace h12 := h12.ext hE
    simp -implicitDefEqProofs (disch := omega) only [go_sem, Nat.reduceEqDiff, Nat.reduceAdd, ↓reduceIte, hb4.l4, hb5.l4]
    exact hKE
  · exact hE.elim
  simp only [selP_t, selP_f, selP_n]
  replace h := h.ext hxE
  replace h' := h'.ext hxE
  replace h8 := h8.ext hxE
  replace h12 := h12.ext hxE
  replace hb2 := hb2.ext hxE
  replace hb3 := hb3.ext hxE
  replace hb4 := hb4.ext hxE
  replace hb5 := hb5.ext hxE
  replace hD := hD.kp hxE
  replace hx := hx.trans hxE
  simp -implicitDefEqProofs (disch := omega) only [go_sem, Nat.reduceEqDiff, Nat.reduceAdd, ↓reduceIte, List.toList_toArray, hb4.l4, hb5.l4]
  refine storeS_same hb4 siz37 (fV_s h8) ?_
  refine ⟨hr, ?_⟩
  refine storeS_same hb5 siz37 (fV_s h12) ?_
  refine ⟨hr, ?_⟩
  refine hK _ _ ?_; clear hK
  refine W_ret ?_
  exact retS3 rfl (by (try simp only [upd_ap, Nat.reduceEqDiff, ↓reduceIte]); first | done | assumption | exact rfl) agg37 hb4 (fV_s h8) (by (try simp only [upd_ap, Nat.reduceEqDiff, ↓reduceIte]); first | done | assumption | exact rfl) agg37 hb5 (fV_s h12) ⟨_, rfl, hx, ⟨_, _, _, rfl, h8.ul, h12.ul, (by (try simp only [upd_ap, Nat.reduceEqDiff, ↓reduceIte]); first | done | assumption | exact rfl)⟩⟩
theorem dMul_v (hT : Tabs w) (h : In (fV a) D v w) (h' : In (fV b) D v' w) (hv : mkV (a * b) (-131072) = some V) (hf : Fr D w) : Calls Tryz.prog 168 #[v, v'] w (Rt (fV V) D w) := by
  obtain ⟨s, A, n, c, rfl, _, _⟩ := id h
  obtain ⟨s', A', n', c', rfl, _, _⟩ := id h'
  obtain ⟨ha1, ha2, ha3⟩ := dyE_bd h.ok
  obtain ⟨hb1, hb22, hb33⟩ := dyE_bd h'.ok
  have hmul := bl_mul_le (od a).natAbs (od b).natAbs
  rw [← Int.natAbs_mul] at hmul
  have e1 : IntKind.i64.wrap (dyE a + dyE b) = dyE a + dyE b := i64_in (by omega) (by omega)
  refine calls_W Tryz.func168 rfl Tryz.ntmps168 (by kernel_rfl) ?_
  refine W_seq_reg fun K hK => ?_
  simp -implicitDefEqProofs (disch := omega) only [go_sem, Nat.reduceEqDiff, Nat.reduceAdd, ↓reduceIte]
  refine boxW_of ?_
  intro g2 w2 hg2 hx2 hb2 hs2
  refine boxW_of ?_
  intro g3 w3 hg3 hx3 hb3 hs3
  refine alW_of ?_
  intro g4 w4 hg4 hx4 hb4 hs4
  refine hK _ _ ?_; clear hK K
  have hx : Ext w w4 := ((hx2.trans hx3).trans hx4)
  replace hb2 := ((hb2.ext hx3).ext hx4)
  replace hb3 := (hb3.ext hx4)
  replace h := (h.nL (L := [g2, g3, g4]) (by intro g hg; simp at hg; omega)).ext hx
  replace h' := (h'.nL (L := [g2, g3, g4]) (by intro g hg; simp at hg; omega)).ext hx
  have hD : Fr (Dl D [g2, g3, g4]) w4 := hf.nL hx (by intro g hg; simp at hg; omega)
  clear hx2 hx3 hx4
  refine W_seq_reg fun K hK => ?_
  simp -implicitDefEqProofs (disch := omega) only [go_sem, Nat.reduceEqDiff, Nat.reduceAdd, ↓reduceIte, hb2.l4, hb3.l4]
  refine callW_of cal220 (dTwo_v (hT.ext hx) h h' hD) ?_
  rintro _ w7 ⟨v7, rfl, hx7, h7⟩; refine ⟨_, rfl, ?_⟩
  replace h := h.ext hx7
  replace h' := h'.ext hx7
  replace hb2 := hb2.ext hx7
  replace hb3 := hb3.ext hx7
  replace hb4 := hb4.ext hx7
  replace hD := hD.kp hx7
  replace hx := hx.trans hx7
  clear hx7
  obtain ⟨v8, v9, v10, rfl, h8, h9, rfl⟩ := h7
  replace h8 : In _ _ v8 _ := h8
  replace h9 : In _ _ v9 _ := h9
  obtain ⟨s8, A8, n8, c8, rfl, _, _⟩ := id h8
  obtain ⟨s9, A9, n9, c9, rfl, _, _⟩ := id h9
  simp -implicitDefEqProofs (disch := omega) only [go_sem, Nat.reduceEqDiff, Nat.reduceAdd, ↓reduceIte]
  refine storeW_of hb2 siz37 rfl rfl fun w11 hk11 hz11 => ?_
  replace h := h.ow hk11 (by simp)
  replace h' := h'.ow hk11 (by simp)
  replace h8 := h8.ow hk11 (by simp)
  replace h9 := h9.ow hk11 (by simp)
  replace hb3 := hb3.kpne hk11 (by omega)
  replace hb4 := hb4.kpne hk11 (by omega)
  replace hD := hD.ow hk11
  replace hx := hx.under hk11 (fun k hk => by omega)
  clear hb2 hk11
  have hb2 := hz11; clear hz11
  refine storeW_of hb3 siz37 rfl rfl fun w12 hk12 hz12 => ?_
  replace h := h.ow hk12 (by simp)
  replace h' := h'.ow hk12 (by simp)
  replace h8 := h8.ow hk12 (by simp)
  replace h9 := h9.ow hk12 (by simp)
  replace hb2 := hb2.kpne hk12 (by omega)
  replace hb4 := hb4.kpne hk12 (by omega)
  replace hD := hD.ow hk12
  replace hx := hx.under hk12 (fun k hk => by omega)
  clear hb3 hk12
  have hb3 := hz12; clear hz12
  refine hK _ _ ?_; clear hK
  refine W_seq_k fun K0 hK0 => ?_
  refine W_seq_reg fun K hK => ?_
  simp -implicitDefEqProofs (disch := omega) only [go_sem, Nat.reduceEqDiff, Nat.reduceAdd, ↓reduceIte]
  refine hK _ _ ?_; clear hK K
  refine W_cond rfl (fun hc => by cases hc) (fun hc => W_skip (hK0 _ _ ?_))
  clear hK0
  have hm := h8.man
  have hm' := h9.man
  refine W_seq_k fun K hK => ?_
  refine W_dC mixed (Kp (fun k => k ∉ ([] : List Nat))) (fun _ _ => False) (Kp.pre _) [true, true, true, true, false, true, true, true, true, true, false, false] [false, false, false, false, false, false, false, false, false, false, false, false] [1, 1, 1, 1, 0, 1, 1, 1, 1, 1, 1, 1] (by kernel_rfl) ?_
  apply Exists.intro
  refine ⟨fun wE hE KE hKE => ?_, fun wE hE KE hKE => ?_, fun wE hxE hr => ?_⟩
  · skip
    replace hE := Kp.all hE
    replace hb2 := hb2.ext hE
    replace hb3 := hb3.ext hE
    replace hb4 := hb4.ext hE
    replace h := h.ext hE
    replace h' := h'.ext hE
    replace h8 := h8.ext hE
    replace h9 := h9.ext hE
    replace hm := hm.ext hE
    replace hm' := hm'.ext hE
    simp -implicitDefEqProofs (disch := omega) only [go_sem, Nat.reduceEqDiff, Nat.reduceAdd, ↓reduceIte, hb2.c1, hb2.c2, hb2.c3, hb3.c1, hb3.c2, hb3.c3, e1]
    exact hKE
  · exact hE.elim
  simp only [selP_t, selP_f, selP_n]
  replace h := h.ext hxE
  replace h' := h'.ext hxE
  replace h8 := h8.ext hxE
  replace h9 := h9.ext hxE
  replace hm := hm.ext hxE
  replace hm' := hm'.ext hxE
  replace hb2 := hb2.ext hxE
  replace hb3 := hb3.ext hxE
  replace hb4 := hb4.ext hxE
  replace hD := hD.kp hxE
  replace hx := hx.trans hxE
  simp -implicitDefEqProofs (disch := omega) only [go_sem, Nat.reduceEqDiff, Nat.reduceAdd, ↓reduceIte, List.toList_toArray, hb2.c1, hb2.c2, hb2.c3, hb3.c1, hb3.c2, hb3.c3, e1]
  refine callW_of cal221 (iMul_v hm hm' (by omega) (by omega) hD) ?_
  rintro _ w13 ⟨v13, rfl, hx13, h13⟩; refine ⟨_, rfl, ?_⟩
  replace h := h.ext hx13
  replace h' := h'.ext hx13
  replace h8 := h8.ext hx13
  replace h9 := h9.ext hx13
  replace hm := hm.ext hx13
  replace hm' := hm'.ext hx13
  replace hb2 := hb2.ext hx13
  replace hb3 := hb3.ext hx13
  replace hb4 := hb4.ext hx13
  replace hD := hD.kp hx13
  replace hx := hx.trans hx13
  replace hr := hr.trans (Kp.of_ext hx13)
  clear hx13
  refine ⟨hr, ?_⟩
  refine callW_of cal166 (dMake_v (hT.ext hx) h13 (by omega) (by omega) (by omega) (by rw [mkV_mul]; exact hv) hD) ?_
  rintro _ w14 ⟨v14, rfl, hx14, h14⟩; refine ⟨_, rfl, ?_⟩
  replace h := h.ext hx14
  replace h' := h'.ext hx14
  replace h8 := h8.ext hx14
  replace h9 := h9.ext hx14
  replace hm := hm.ext hx14
  replace hm' := hm'.ext hx14
  replace h13 := h13.ext hx14
  replace hb2 := hb2.ext hx14
  replace hb3 := hb3.ext hx14
  replace hb4 := hb4.ext hx14
  replace hD := hD.kp hx14
  replace hx := hx.trans hx14
  clear hx14
  refine storeS hb4 siz37 rfl (fV_s h14) fun w90 hk90 hb90 => ?_
  refine hK _ _ ?_; clear hK
  refine W_ret ?_
  try simp only [thenE_r, inB_r]
  exact retS rfl (by first | exact rfl | assumption | exact (by (try simp only [upd_ap, Nat.reduceEqDiff, ↓reduceIte]); first | done | assumption | exact rfl)) agg37 hb90 (fV_s h14) (Rt.fin hx h14 hk90 (by simp) (by omega))
end
end Go.Proofs.YtjamnehcmaloeaaGreatDoor
end
section
namespace Go.E
open Go
section
variable {G : Fam} {D : Nat → Prop} {A : Option Addr} {v : Value} {w w' : World} {L : List Nat} {α : Type} {H : α → Fam} {T sz B n c : Nat} {l : List α}
theorem In.nbl (h : In G (fun k => D k ∧ nb A k) v w) : In G D v w := h.sub fun _ _ h => h.1
theorem OwnL.blk_lt (h : OwnL H T sz w D B A n c l) : ∀ a, A = some a → a.block < w.heap.size ∧ B ≤ a.block := by
  obtain ⟨vs, h1, _⟩ := h
  exact h1.blk_lt
theorem OwnL.nb (h : OwnL H T sz w D B A n c l) {k : Nat} (hk : k < B) : nb A k := fun a ha => by have := h.blk_lt a ha; omega
theorem OwnL.under {w0 : World} (h : OwnL H T sz w D B A n c l) (hx : Ext w0 w) (k : Kp (Go.E.nb A) w w') (hB : w0.heap.size ≤ B) : Ext w0 w' := hx.under k fun j hj => h.nb (by omega)
end
end Go.E
namespace Go.Proofs.YtjamnehcmaloeaaGreatDoor
open Go Go.E Go.Sp
theorem dSum_v {D : Nat → Prop} {A : Option Addr} {n c : Nat} {l : List Int} {w : World} (hT : Tabs w) (h : In (fSl 4 fV l) D (.slice A n c) w) (hn : n ≤ 1000) (ho : ∀ x ∈ l, dyOk x) (hv : dyOk (sumZ l)) (hf : Fr D w) :
    Calls Tryz.prog 161 #[.slice A n c] w (Rt (fV (sumZ l)) D w) := by
  have hl := h.sl_len
  refine calls_W Tryz.func161 rfl Tryz.ntmps161 (by kernel_rfl) ?_
  refine W_seq_reg fun K hK => ?_
  simp -implicitDefEqProofs (disch := omega) only [go_sem, Nat.reduceEqDiff, Nat.reduceAdd, ↓reduceIte]
  refine alW_of ?_
  intro g2 w2 hg2 hx2 hb2 hs2
  refine hK _ _ ?_; clear hK K
  have hx : Ext w w2 := hx2
  replace h := (h.nL (L := [g2]) (by intro g hg; simp at hg; omega)).ext hx
  have hD : Fr (Dl D [g2]) w2 := hf.nL hx (by intro g hg; simp at hg; omega)
  clear hx2
  have hD2 := hD
  obtain ⟨E, hE⟩ : ∃ E, E = Dl D [g2] := ⟨_, rfl⟩
  rw [← hE] at h hD
  refine W_seq_reg fun K hK => ?_
  simp -implicitDefEqProofs (disch := omega) only [go_sem, Nat.reduceEqDiff, Nat.reduceAdd, ↓reduceIte]
  refine hK _ _ ?_; clear hK K
  refine W_seq_reg fun K hK => ?_
  simp -implicitDefEqProofs (disch := omega) only [go_sem, Nat.reduceEqDiff, Nat.reduceAdd, ↓reduceIte]
  refine hK _ _ ?_; clear hK K
  refine W_seq_k fun K0 hK0 => ?_
  refine W_seq_reg fun K hK => ?_
  simp -implicitDefEqProofs (disch := omega) only [go_sem, Nat.reduceEqDiff, Nat.reduceAdd, ↓reduceIte]
  refine hK _ _ ?_; clear hK K
  refine W_block ?_
  refine W_loop (fun e2 w' => ∃ (i : Nat) (lo : Int) (A' : Option Addr) (c' : Nat), e2 14 = .int .i64 i ∧ e2 4 = .int .i64 lo ∧ e2 3 = .slice A' i c' ∧ i ≤ n ∧ -65536 ≤ lo ∧ lo ≤ 0 ∧ Ext w w' ∧ w2.heap.size ≤ w'.heap.size ∧ In (fSl 4 fV l) (fun k => E k ∧ nb A' k) (.slice A n c) w' ∧ Blk w' g2 37 #[.bool false, .bool false, .slice none 0 0, .int .i64 0] ∧ OwnL fV 37 4 w' E w2.heap.size A' i c' (l.take i) ∧ Fr E w' ∧ ∀ x ∈ l.take i, lo ≤ dyE x) (fun e2 _ => n - (RowKit.intOf (e2 14)).toNat)
    ⟨0, 0, none, 0, rfl, (by (try simp only [upd_ap, Nat.reduceEqDiff, ↓reduceIte]); first | done | assumption | exact rfl), (by (try simp only [upd_ap, Nat.reduceEqDiff, ↓reduceIte]); first | done | assumption | exact rfl), Nat.zero_le _, by omega, by omega, hx, Nat.le_refl _, h.sub fun k _ hk => ⟨hk, fun a ha => by cases ha⟩, hb2, OwnL.nil, hD, fun x hx => by simp at hx⟩ ?_
  clear h hb2 hD hx
  rintro e1 w1 ⟨i, lo, A', c', k14, k4, k3, hi, hlo1, hlo2, hx, hsz, h, hb2, hO, hD, hmin⟩ hkk
  have k0 : e1 0 = .slice A n c := (hkk 0 (by kernel_rfl)).trans (by (try simp only [upd_ap, Nat.reduceEqDiff, ↓reduceIte]); first | done | assumption | exact rfl)
  have k2 : e1 2 = .pointer (some ⟨g2, 0, none⟩) := (hkk 2 (by kernel_rfl)).trans (by (try simp only [upd_ap, Nat.reduceEqDiff, ↓reduceIte]); first | done | assumption | exact rfl)
  have k12 : e1 12 = .slice A n c := (hkk 12 (by kernel_rfl)).trans (by (try simp only [upd_ap, Nat.reduceEqDiff, ↓reduceIte]); first | done | assumption | exact rfl)
  have k13 : e1 13 = .int .i64 n := (hkk 13 (by kernel_rfl)).trans (by (try simp only [upd_ap, Nat.reduceEqDiff, ↓reduceIte]); first | done | assumption | exact rfl)
  clear hkk
  by_cases hlt : i < n
  · have hlt' : (i : Int) < n := by omega
    refine W_seq_reg fun K hK => ?_
    simp -implicitDefEqProofs (disch := omega) only [go_sem, Nat.reduceEqDiff, Nat.reduceAdd, ↓reduceIte, k14, k13, hlt']
    refine hK _ _ ?_; clear hK K
    refine W_seq_k fun K1 hK1 => ?_
    refine W_cond rfl (fun hc1 => W_skip (hK1 _ _ ?_)) (fun hc1 => by cases hc1)
    clear hK1
    refine W_seq_blk fun K hK => ?_
    obtain ⟨x, hxi⟩ : ∃ x, l[i]? = some x := ⟨_, List.getElem?_eq_getElem (by omega)⟩
    obtain ⟨ad, vx, rfl, hvx, _, hld, _⟩ := h.sl_ld hxi (by omega)
    replace hld := hld (fV_s hvx)
    have hox := ho x (List.mem_of_getElem? hxi)
    obtain ⟨hd1, hd2, hd3⟩ := dyE_bd hox
    have htk : l.take (i + 1) = l.take i ++ [x] := by
      obtain ⟨hlt, he⟩ := List.getElem?_eq_some_iff.1 hxi
      rw [List.take_succ_eq_append_getElem hlt, he]
    have e2 : (0 : Int) ≤ i ∧ (i : Int) < n := by omega
    have hD' : Fr (Dl (fun k => E k ∧ nb A' k) []) w1 := (hD.nb fun a ha => (hO.blk_lt a ha).1).nL (Kp.refl _ _) (by simp)
    replace h := h.nL (L := []) (by simp)
    replace hvx := hvx.nL (L := []) (by simp)
    have hr0 : Ext w1 w1 := Kp.refl _ _
    obtain ⟨sx, Ax, nx, cx, rfl, _, _⟩ := id hvx
    refine W_seq_reg fun K hK => ?_
    simp -implicitDefEqProofs (disch := omega) only [go_sem, Nat.reduceEqDiff, Nat.reduceAdd, ↓reduceIte, k12, k14, e2, hld]
    refine alW_of ?_
    intro g6 w6a hg6 hx6a hb6a hs6
    have hgl6 := hr0.size
    have hn6hb2 := hb2.lt
    refine storeW_of hb6a siz37 rfl rfl fun w6 hk6 hb6 => ?_
    have hy6 : Ext w1 w6 := hx6a.under hk6 (fun k hk => by omega)
    replace h := ((h.nw (g := g6) (by omega)).ext hx6a).ow hk6 (by simp)
    replace hvx := ((hvx.nw (g := g6) (by omega)).ext hx6a).ow hk6 (by simp)
    replace hb2 := hb2.ext hy6
    replace hD' := (hD'.nw (g := g6) hx6a (by omega)).ow hk6
    replace hr0 := hr0.trans hy6
    have hq6 := hk6.size
    clear hx6a hk6 hb6a hy6
    refine hK _ _ ?_; clear hK
    refine W_seq_reg fun K hK => ?_
    simp -implicitDefEqProofs (disch := omega) only [go_sem, Nat.reduceEqDiff, Nat.reduceAdd, ↓reduceIte, hb6.l4]
    refine callW_of cal198 (dn_v ((hT.ext hx).ext hr0) hvx hD') ?_
    rintro _ w17 ⟨v17, rfl, hx17, h17⟩; refine ⟨_, rfl, ?_⟩
    replace h := h.ext hx17
    replace hvx := hvx.ext hx17
    replace hb2 := hb2.ext hx17
    replace hb6 := hb6.ext hx17
    replace hD' := hD'.kp hx17
    replace hr0 := hr0.trans hx17
    clear hx17
    obtain ⟨v8, v9, rfl, h8, rfl⟩ := h17
    replace h8 : In _ _ v8 _ := h8
    obtain ⟨s8, A8, n8, c8, rfl, _, _⟩ := id h8
    simp -implicitDefEqProofs (disch := omega) only [go_sem, Nat.reduceEqDiff, Nat.reduceAdd, ↓reduceIte]
    refine alW_of ?_
    intro g7 w7a hg7 hx7a hb7a hs7
    have hgl7 := hr0.size
    have hn7hb2 := hb2.lt
    have hn7hb6 := hb6.lt
    refine storeW_of hb7a siz37 rfl rfl fun w7 hk7 hb7 => ?_
    have hy7 : Ext w17 w7 := hx7a.under hk7 (fun k hk => by omega)
    replace h := ((h.nw (g := g7) (by omega)).ext hx7a).ow hk7 (by simp)
    replace hvx := ((hvx.nw (g := g7) (by omega)).ext hx7a).ow hk7 (by simp)
    replace h8 := ((h8.nw (g := g7) (by omega)).ext hx7a).ow hk7 (by simp)
    replace hb2 := hb2.ext hy7
    replace hb6 := hb6.ext hy7
    replace hD' := (hD'.nw (g := g7) hx7a (by omega)).ow hk7
    replace hr0 := hr0.trans hy7
    have hq7 := hk7.size
    clear hx7a hk7 hb7a hy7
    refine hK _ _ ?_; clear hK
    refine W_seq_k fun K1 hK1 => ?_
    refine W_seq_reg fun K hK => ?_
    simp -implicitDefEqProofs (disch := omega) only [go_sem, Nat.reduceEqDiff, Nat.reduceAdd, ↓reduceIte]
    refine hK _ _ ?_; clear hK K
    refine W_cond rfl (fun hc => by cases hc) (fun hc => W_skip (hK1 _ _ ?_))
    clear hK1
    refine W_seq_reg fun K hK => ?_
    simp -implicitDefEqProofs (disch := omega) only [go_sem, Nat.reduceEqDiff, Nat.reduceAdd, ↓reduceIte, k4, hb7.c3, mm_min]
    refine hK _ _ ?_; clear hK K
    have hO7 := hO.ext hr0
    refine W_regK fun K9 hK9 => ?_
    simp -implicitDefEqProofs (disch := omega) only [go_sem, Nat.reduceEqDiff, Nat.reduceAdd, ↓reduceIte, k3, hb7.l4]
    refine pushV hO7 h8.ul (by omega) (Nat.le_trans hsz hr0.size) ?_
    intro v1 A3 c3 w9 hO9 hk9 hat
    refine hK9 _ _ ?_; clear hK9 K9
    refine hK _ _ ?_; clear hK
    refine W_regK fun K9 hK9 => ?_
    simp -implicitDefEqProofs (disch := omega) only [go_sem, Nat.reduceEqDiff, Nat.reduceAdd, ↓reduceIte, k14, i64_in]
    refine hK9 _ _ ?_; clear hK9 K9
    rw [← htk] at hO9
    refine ⟨⟨i + 1, min lo (dyE x), A3, c3, rfl, (by (try simp only [upd_ap, Nat.reduceEqDiff, ↓reduceIte]); first | done | assumption | exact rfl), (by (try simp only [upd_ap, Nat.reduceEqDiff, ↓reduceIte]); first | done | assumption | exact rfl), by omega, by omega, by omega, hO7.under (hx.trans hr0) hk9 (by omega), ?_, h.ul.grew hk9 hat, hb2.kp hk9 (hO7.nb (by omega)), hO9, hD.grow (Nat.le_trans hr0.size hk9.size), fun y hy => ?_⟩, by simp only [upd_ap, ↓reduceIte, RowKit.intOf, k14]; omega⟩
    · have := hr0.size; have := hk9.size; omega
    · rw [htk] at hy
      rcases List.mem_append.1 hy with hy | hy
      · have := hmin y hy; omega
      · simp at hy; subst hy; omega
  · have hlt' : ¬ (i : Int) < n := by omega
    refine W_seq_reg fun K hK => ?_
    simp -implicitDefEqProofs (disch := omega) only [go_sem, Nat.reduceEqDiff, Nat.reduceAdd, ↓reduceIte, k14, k13, hlt']
    refine hK _ _ ?_; clear hK K
    refine W_seq_k fun K1 hK1 => ?_
    refine W_cond rfl (fun hc1 => by cases hc1) (fun hc1 => W_exit (hK0 _ _ ?_))
    clear hK0 hK1
    obtain rfl : i = n := by omega
    rw [List.take_of_length_le (by omega)] at hO hmin
    have h3 := hO.in (fun k hk => by rw [hE]; exact hD2 k hk)
    rw [hE] at h3 hD
    clear hO h hE hD2
    have hg2w : w.heap.size ≤ g2 := by omega
    have h0 : In (fB 0) (Dl D [g2]) (.agg #[.bool false, .slice none 0 0]) w1 := Big.in ⟨rfl, U32.nil⟩
    refine W_seq_reg fun K hK => ?_
    simp -implicitDefEqProofs (disch := omega) only [go_sem, Nat.reduceEqDiff, Nat.reduceAdd, ↓reduceIte]
    refine alW_of ?_
    intro g9 w9 hg9 hx9 hb9 hs9
    have hgl9 := hx.size
    have hn9hb2 := hb2.lt
    replace h3 := (h3.nw (g := g9) (by omega)).ext hx9
    replace h0 := (h0.nw (g := g9) (by omega)).ext hx9
    replace hb2 := hb2.ext hx9
    replace hD := hD.nw (g := g9) hx9 (by omega)
    replace hx := hx.trans hx9
    clear hx9
    refine hK _ _ ?_; clear hK
    refine W_seq_k fun K0 hK0 => ?_
    refine W_seq_reg fun K hK => ?_
    simp -implicitDefEqProofs (disch := omega) only [go_sem, Nat.reduceEqDiff, Nat.reduceAdd, ↓reduceIte, k3]
    refine hK _ _ ?_; clear hK K
    obtain ⟨u, hu⟩ : ∃ u, u = w9 := ⟨_, rfl⟩
    have hu9 : g9 < u.heap.size := by rw [hu]; omega
    refine W_block ?_
    refine W_loop (fun e2 w' => ∃ (j : Nat) (tot : Int) (s : Bool) (B : Option Addr) (m c2 : Nat), e2 37 = .int .i64 j ∧ j ≤ i ∧ Ext w w' ∧ u.heap.size ≤ w'.heap.size ∧ In (fSl 4 fV l) (Dl D [g9, g2]) (.slice A' i c') w' ∧ Blk w' g2 37 #[.bool false, .bool false, .slice none 0 0, .int .i64 0] ∧ Blk w' g9 35 #[.bool s, .slice B m c2] ∧ In (fB tot) (Dl D [g9, g2]) (.agg #[.bool s, .slice B m c2]) w' ∧ Fr (Dl D [g9, g2]) w' ∧ tot * (2 : Int) ^ (lo + 65536).toNat = sumZ (l.take j)) (fun e2 _ => i - (RowKit.intOf (e2 37)).toNat)
      ⟨0, 0, false, none, 0, 0, rfl, Nat.zero_le _, hx, by rw [hu]; exact Nat.le_refl _, h3, hb2, hb9, h0, hD, by rw [Int.zero_mul]; rfl⟩ ?_
    clear h3 h0 hb2 hb9 hD hx
    rintro e3 w3 ⟨j, tot, s, B, m, c2, k37, hj, hx, hsz2, h, hb2, hb9, h1, hD, hs⟩ hkk
    have q2 : e3 2 = .pointer (some ⟨g2, 0, none⟩) := (hkk 2 (by kernel_rfl)).trans (by (try simp only [upd_ap, Nat.reduceEqDiff, ↓reduceIte]); first | done | assumption | exact rfl)
    have q9 : e3 9 = .pointer (some ⟨g9, 0, none⟩) := (hkk 9 (by kernel_rfl)).trans (by (try simp only [upd_ap, Nat.reduceEqDiff, ↓reduceIte]); first | done | assumption | exact rfl)
    have q4 : e3 4 = .int .i64 lo := (hkk 4 (by kernel_rfl)).trans (by (try simp only [upd_ap, Nat.reduceEqDiff, ↓reduceIte]); first | done | assumption | exact rfl)
    have q35 : e3 35 = .slice A' i c' := (hkk 35 (by kernel_rfl)).trans (by (try simp only [upd_ap, Nat.reduceEqDiff, ↓reduceIte]); first | done | assumption | exact rfl)
    have q36 : e3 36 = .int .i64 i := (hkk 36 (by kernel_rfl)).trans (by (try simp only [upd_ap, Nat.reduceEqDiff, ↓reduceIte]); first | done | assumption | exact rfl)
    clear hkk
    have hbs := sum_bl (i := j) ho (by omega)
    have hbt := bl_scale hs
    by_cases hlt : j < i
    · have hlt' : (j : Int) < i := by omega
      refine W_seq_reg fun K hK => ?_
      simp -implicitDefEqProofs (disch := omega) only [go_sem, Nat.reduceEqDiff, Nat.reduceAdd, ↓reduceIte, k37, q36, hlt']
      refine hK _ _ ?_; clear hK K
      refine W_seq_k fun K1 hK1 => ?_
      refine W_cond rfl (fun hc1 => W_skip (hK1 _ _ ?_)) (fun hc1 => by cases hc1)
      clear hK1
      refine W_seq_blk fun K hK => ?_
      obtain ⟨x, hxi⟩ : ∃ x, l[j]? = some x := ⟨_, List.getElem?_eq_getElem (by omega)⟩
      obtain ⟨ad, vx, rfl, hvx, _, hld, _⟩ := h.sl_ld hxi (by omega)
      replace hld := hld (fV_s hvx)
      have hox := ho x (List.mem_of_getElem? hxi)
      obtain ⟨hd1, hd2, hd3⟩ := dyE_bd hox
      have hst := sumZ_take l j x hxi
      have hlo := hmin x (List.mem_of_getElem? hxi)
      have e2 : (0 : Int) ≤ j ∧ (j : Int) < i := by omega
      obtain ⟨svx, Avx, nvx, cvx, rfl, _, _⟩ := id hvx
      have hz1 : w3.heap.size ≤ w3.heap.size := Nat.le_refl _
      refine W_seq_reg fun K hK => ?_
      simp -implicitDefEqProofs (disch := omega) only [go_sem, Nat.reduceEqDiff, Nat.reduceAdd, ↓reduceIte, q35, k37, e2, hld]
      refine alW_of ?_
      intro g11 w11a hg11 hx11a hb11a hs11
      have hgl11 := hx.size
      have hn11hb2 := hb2.lt
      have hn11hb9 := hb9.lt
      refine storeW_of hb11a siz37 rfl rfl fun w11 hk11 hb11 => ?_
      have hy11 : Ext w3 w11 := hx11a.under hk11 (fun k hk => by omega)
      replace h := ((h.nw (g := g11) (by omega)).ext hx11a).ow hk11 (by simp)
      replace h1 := ((h1.nw (g := g11) (by omega)).ext hx11a).ow hk11 (by simp)
      replace hvx := ((hvx.nw (g := g11) (by omega)).ext hx11a).ow hk11 (by simp)
      replace hb2 := hb2.ext hy11
      replace hb9 := hb9.ext hy11
      replace hD := (hD.nw (g := g11) hx11a (by omega)).ow hk11
      replace hx := hx.trans hy11
      replace hz1 := Nat.le_trans hz1 hy11.size
      have hq11 := hk11.size
      clear hx11a hk11 hb11a hy11
      refine hK _ _ ?_; clear hK
      have hm := hvx.man
      have e3' : IntKind.i64.wrap (dyE x - lo) = dyE x - lo := i64_in (by omega) (by omega)
      refine W_dC mixed (Kp (fun k => k ∉ ([] : List Nat))) (fun _ _ => False) (Kp.pre _) [true, true, true, true, true, true, true, false, false, false] [false, false, false, false, false, false, false, false, false, false] [1, 1, 1, 1, 1, 1, 1, 0, 1, 1] (by kernel_rfl) ?_
      apply Exists.intro
      refine ⟨fun wE hE KE hKE => ?_, fun wE hE KE hKE => ?_, fun wE hxE hr => ?_⟩
      · skip
        replace hE := Kp.all hE
        replace hb2 := hb2.ext hE
        replace hb9 := hb9.ext hE
        replace hb11 := hb11.ext hE
        replace h := h.ext hE
        replace h1 := h1.ext hE
        replace hvx := hvx.ext hE
        replace hm := hm.ext hE
        simp -implicitDefEqProofs (disch := omega) only [go_sem, Nat.reduceEqDiff, Nat.reduceAdd, ↓reduceIte, q9, q4, hb9.l2, hb11.c1, hb11.c2, hb11.c3, e3']
        exact hKE
      · exact hE.elim
      simp only [selP_t, selP_f, selP_n]
      replace h := h.ext hxE
      replace h1 := h1.ext hxE
      replace hvx := hvx.ext hxE
      replace hm := hm.ext hxE
      replace hb2 := hb2.ext hxE
      replace hb9 := hb9.ext hxE
      replace hb11 := hb11.ext hxE
      replace hD := hD.kp hxE
      replace hx := hx.trans hxE
      replace hz1 := Nat.le_trans hz1 hxE.size
      simp -implicitDefEqProofs (disch := omega) only [go_sem, Nat.reduceEqDiff, Nat.reduceAdd, ↓reduceIte, List.toList_toArray, q9, q4, hb9.l2, hb11.c1, hb11.c2, hb11.c3, e3']
      refine callW_of cal215 (iLeft_v hm (by omega) (by omega) (by omega) hD) ?_
      rintro _ w12 ⟨v12, rfl, hx12, h12⟩; refine ⟨_, rfl, ?_⟩
      replace h := h.ext hx12
      replace h1 := h1.ext hx12
      replace hvx := hvx.ext hx12
      replace hm := hm.ext hx12
      replace hb2 := hb2.ext hx12
      replace hb9 := hb9.ext hx12
      replace hb11 := hb11.ext hx12
      replace hD := hD.kp hx12
      replace hx := hx.trans hx12
      replace hz1 := Nat.le_trans hz1 hx12.size
      replace hr := hr.trans (Kp.of_ext hx12)
      clear hx12
      refine ⟨hr, ?_⟩
      have hsh : shI (od x) (dyE x - lo) = od x * (2 : Int) ^ (dyE x - lo).toNat := by unfold shI; rw [if_pos (by omega)]
      rw [hsh] at h12
      have hlf := od_lift (V := x) (E := lo) (by omega) (by omega)
      have hb12 := bl_scale hlf
      have hbx : bl x.natAbs ≤ 131072 := hox
      refine callW_of cal217 (iAdd_v h1 h12 (by omega) (by omega) hD) ?_
      rintro _ w13 ⟨v13, rfl, hx13, h13⟩; refine ⟨_, rfl, ?_⟩
      replace h := h.ext hx13
      replace h1 := h1.ext hx13
      replace hvx := hvx.ext hx13
      replace hm := hm.ext hx13
      replace h12 := h12.ext hx13
      replace hb2 := hb2.ext hx13
      replace hb9 := hb9.ext hx13
      replace hb11 := hb11.ext hx13
      replace hD := hD.kp hx13
      replace hx := hx.trans hx13
      replace hz1 := Nat.le_trans hz1 hx13.size
      clear hx13
      obtain ⟨s13, A13, n13, c13, rfl, _⟩ := id h13
      refine storeW_of hb9 siz35 rfl rfl fun w14 hk14 hz14 => ?_
      replace h := h.ow hk14 (by simp)
      replace h1 := h1.ow hk14 (by simp)
      replace hvx := hvx.ow hk14 (by simp)
      replace hm := hm.ow hk14 (by simp)
      replace h12 := h12.ow hk14 (by simp)
      replace h13 := h13.ow hk14 (by simp)
      replace hb2 := hb2.kpne hk14 (by omega)
      replace hb11 := hb11.kpne hk14 (by omega)
      replace hD := hD.ow hk14
      replace hx := hx.under hk14 (fun k hk => by omega)
      replace hz1 := Nat.le_trans hz1 hk14.size
      clear hb9 hk14
      have hb9 := hz14; clear hz14
      refine hK _ _ ?_; clear hK
      refine W_regK fun K9 hK9 => ?_
      simp -implicitDefEqProofs (disch := omega) only [go_sem, Nat.reduceEqDiff, Nat.reduceAdd, ↓reduceIte, k37, i64_in]
      refine hK9 _ _ ?_; clear hK9 K9
      refine ⟨⟨j + 1, tot + od x * (2 : Int) ^ (dyE x - lo).toNat, s13, A13, n13, c13, rfl, by omega, hx, by omega, h.wk, hb2, hb9, h13.wk, hD.wk, ?_⟩, by simp only [upd_ap, ↓reduceIte, RowKit.intOf, k37]; omega⟩
      rw [hst, Int.add_mul, hs, hlf]
    · skip
      have hlt' : ¬ (j : Int) < i := by omega
      refine W_seq_reg fun K hK => ?_
      simp -implicitDefEqProofs (disch := omega) only [go_sem, Nat.reduceEqDiff, Nat.reduceAdd, ↓reduceIte, k37, q36, hlt']
      refine hK _ _ ?_; clear hK K
      refine W_seq_k fun K1 hK1 => ?_
      refine W_cond rfl (fun hc1 => by cases hc1) (fun hc1 => W_exit (hK0 _ _ ?_))
      clear hK0 hK1
      obtain rfl : j = i := by omega
      rw [List.take_of_length_le (by omega)] at hs
      have hmk : mkV tot lo = some (sumZ l) := by rw [mkV_lift (by omega) hs]; exact mkV_self hv
      refine W_seq_reg fun K hK => ?_
      simp -implicitDefEqProofs (disch := omega) only [go_sem, Nat.reduceEqDiff, Nat.reduceAdd, ↓reduceIte, q9, q4, q2, hb9.l2]
      refine callW_of cal166 (dMake_v (hT.ext hx) h1 (by omega) (by omega) (by omega) hmk hD) ?_
      rintro _ w15 ⟨v15, rfl, hx15, h15⟩; refine ⟨_, rfl, ?_⟩
      replace h := h.ext hx15
      replace h1 := h1.ext hx15
      replace hb2 := hb2.ext hx15
      replace hb9 := hb9.ext hx15
      replace hD := hD.kp hx15
      replace hx := hx.trans hx15
      clear hx15
      refine storeS hb2 siz37 rfl (fV_s h15) fun w90 hk90 hb90 => ?_
      refine hK _ _ ?_; clear hK
      refine W_ret ?_
      try simp only [thenE_r, inB_r]
      exact retS rfl (by first | exact rfl | assumption | exact (by (try simp only [upd_ap, Nat.reduceEqDiff, ↓reduceIte]); first | done | assumption | exact rfl)) agg37 hb90 (fV_s h15) (Rt.fin hx h15 hk90 (by simp) (by omega))
end Go.Proofs.YtjamnehcmaloeaaGreatDoor
end
section
namespace Go.Proofs.YtjamnehcmaloeaaGreatDoor
open Go Go.E Go.Sp
section
variable {f : Nat} {w : World}
theorem parts_ok (hf : f < 18446744073709551616) : Calls Tryz.prog 162 #[.int .u64 f] w fun e w' => e = .returned (.tuple #[.int .i64 (f / 4503599627370496 % 2048 : Nat), .int .u64 (f % 4503599627370496 : Nat)]) ∧ w = w' := by
  refine calls_W Tryz.func162 rfl Tryz.ntmps162 (by kernel_rfl) ?_
  refine W_seq_reg fun K hK => ?_
  simp -implicitDefEqProofs (disch := omega) only [go_sem, Nat.reduceEqDiff, Nat.reduceAdd, ↓reduceIte]
  refine hK _ _ ?_; clear hK K
  have h1 := and_2047 (a := f / 4503599627370496) (by omega)
  have h2 := and_frac (a := f) hf
  have h3 : IntKind.i64.wrap ((f / 4503599627370496 % 2048 : Nat) : Int) = ((f / 4503599627370496 % 2048 : Nat) : Int) := i64_in (by omega) (by omega)
  refine W_seq_reg fun K hK => ?_
  simp -implicitDefEqProofs (disch := omega) only [go_sem, Nat.reduceEqDiff, Nat.reduceAdd, ↓reduceIte, h1, h2, h3]
  refine hK _ _ ?_; clear hK K
  refine W_ret ?_
  try simp only [thenE_r, inB_r]
  refine ret2 rfl ⟨by simp only [upd_ap, Nat.reduceEqDiff, ↓reduceIte], rfl⟩
theorem negative_ok (hf : f < 18446744073709551616) : Calls Tryz.prog 164 #[.int .u64 f] w fun e w' => e = .returned (.bool (decide (9223372036854775808 ≤ f))) ∧ w = w' := by
  refine calls_W Tryz.func164 rfl Tryz.ntmps164 (by kernel_rfl) ?_
  refine W_seq_reg fun K hK => ?_
  simp -implicitDefEqProofs (disch := omega) only [go_sem, Nat.reduceEqDiff, Nat.reduceAdd, ↓reduceIte]
  refine hK _ _ ?_; clear hK K
  have h2 := neg_bit hf
  refine W_seq_reg fun K hK => ?_
  simp -implicitDefEqProofs (disch := omega) only [go_sem, Nat.reduceEqDiff, Nat.reduceAdd, ↓reduceIte, h2]
  refine hK _ _ ?_; clear hK K
  refine W_ret ?_
  try simp only [thenE_r, inB_r]
  refine ret1 rfl ⟨rfl, rfl⟩
theorem fsigned_ok {neg : Bool} (hf : f < 9223372036854775808) : Calls Tryz.prog 211 #[.int .u64 f, .bool neg] w fun e w' => e = .returned (.int .u64 (sb neg f : Nat)) ∧ w = w' := by
  refine calls_W Tryz.func211 rfl Tryz.ntmps211 (by kernel_rfl) ?_
  refine W_seq_reg fun K hK => ?_
  simp -implicitDefEqProofs (disch := omega) only [go_sem, Nat.reduceEqDiff, Nat.reduceAdd, ↓reduceIte]
  refine hK _ _ ?_; clear hK K
  refine W_seq_k fun K0 hK0 => ?_
  refine W_seq_reg fun K hK => ?_
  simp -implicitDefEqProofs (disch := omega) only [go_sem, Nat.reduceEqDiff, Nat.reduceAdd, ↓reduceIte]
  refine hK _ _ ?_; clear hK K
  cases neg
  · refine W_cond rfl (fun hc => by cases hc) (fun hc => W_skip (hK0 _ _ ?_))
    clear hK0
    refine W_seq_reg fun K hK => ?_
    simp -implicitDefEqProofs (disch := omega) only [go_sem, Nat.reduceEqDiff, Nat.reduceAdd, ↓reduceIte]
    refine hK _ _ ?_; clear hK K
    refine W_ret ?_
    try simp only [thenE_r, inB_r]
    refine ret1 rfl ⟨by simp [sb, upd], rfl⟩
  · refine W_cond rfl (fun hc => ?_) (fun hc => by cases hc)
    have h := or_sign hf
    refine W_seq_reg fun K hK => ?_
    simp -implicitDefEqProofs (disch := omega) only [go_sem, Nat.reduceEqDiff, Nat.reduceAdd, ↓reduceIte, h]
    refine hK _ _ ?_; clear hK K
    refine W_ret ?_
    try simp only [thenE_r, inB_r]
    refine ret1 rfl ⟨by simp [sb, upd], rfl⟩
theorem fIsFinite_ok (hf : f < 18446744073709551616) : Calls Tryz.prog 100 #[.int .u64 f] w fun e w' => e = .returned (.bool (decide (fin? f))) ∧ w = w' := by
  refine calls_W Tryz.func100 rfl Tryz.ntmps100 (by kernel_rfl) ?_
  refine W_seq_reg fun K hK => ?_
  simp -implicitDefEqProofs (disch := omega) only [go_sem, Nat.reduceEqDiff, Nat.reduceAdd, ↓reduceIte]
  refine hK _ _ ?_; clear hK K
  refine W_seq_reg fun K hK => ?_
  simp -implicitDefEqProofs (disch := omega) only [go_sem, Nat.reduceEqDiff, Nat.reduceAdd, ↓reduceIte]
  refine callW_of cal162 (parts_ok hf) ?_
  rintro _ _ ⟨rfl, rfl⟩; refine ⟨_, rfl, ?_⟩
  have h2 : (((f / 4503599627370496 % 2048 : Nat) : Int) != 2047) = decide (fin? f) := bneN (b := 2047)
  simp -implicitDefEqProofs (disch := omega) only [go_sem, Nat.reduceEqDiff, Nat.reduceAdd, ↓reduceIte]
  refine hK _ _ ?_; clear hK
  refine W_seq_reg fun K hK => ?_
  simp -implicitDefEqProofs (disch := omega) only [go_sem, Nat.reduceEqDiff, Nat.reduceAdd, ↓reduceIte, h2]
  refine hK _ _ ?_; clear hK K
  refine W_ret ?_
  try simp only [thenE_r, inB_r]
  refine ret1 rfl ⟨by simp only [upd_ap, Nat.reduceEqDiff, ↓reduceIte], rfl⟩
theorem foverflow_ok {neg : Bool} {mode : Int} : Calls Tryz.prog 212 #[.bool neg, .int .i64 mode] w fun e w' => e = .returned (.int .u64 (over mode neg : Nat)) ∧ w = w' := by
  refine calls_W Tryz.func212 rfl Tryz.ntmps212 (by kernel_rfl) ?_
  refine W_seq_reg fun K hK => ?_
  simp -implicitDefEqProofs (disch := omega) only [go_sem, Nat.reduceEqDiff, Nat.reduceAdd, ↓reduceIte]
  refine hK _ _ ?_; clear hK K
  refine W_seq_k fun K0 hK0 => ?_
  by_cases m3 : mode = 3
  · have q : (mode == 3) = true := by simpa using m3
    refine W_seq_reg fun K hK => ?_
    simp -implicitDefEqProofs (disch := omega) only [go_sem, Nat.reduceEqDiff, Nat.reduceAdd, ↓reduceIte, q]
    refine hK _ _ ?_; clear hK K
    refine W_cond rfl (fun hc => ?_) (fun hc => by cases hc)
    refine W_seq_reg fun K hK => ?_
    simp -implicitDefEqProofs (disch := omega) only [go_sem, Nat.reduceEqDiff, Nat.reduceAdd, ↓reduceIte]
    refine callW_of cal211 (fsigned_ok (f := 9218868437227405311) (by omega)) ?_
    rintro _ _ ⟨rfl, rfl⟩; refine ⟨_, rfl, ?_⟩
    refine hK _ _ ?_; clear hK
    refine W_ret ?_
    try simp only [thenE_r, inB_r]
    refine ret1 rfl ⟨by simp [over, m3, upd], rfl⟩
  have q3 : (mode == 3) = false := by simpa using m3
  by_cases m1 : mode = 1
  · have q1 : (mode == 1) = true := by simpa using m1
    have q2 : (mode == 2) = false := by subst m1; rfl
    cases neg
    · refine W_seq_reg fun K hK => ?_
      simp -implicitDefEqProofs (disch := omega) only [go_sem, Nat.reduceEqDiff, Nat.reduceAdd, ↓reduceIte, q3, q1, q2]
      refine hK _ _ ?_; clear hK K
      refine W_cond rfl (fun hc => ?_) (fun hc => by cases hc)
      refine W_seq_reg fun K hK => ?_
      simp -implicitDefEqProofs (disch := omega) only [go_sem, Nat.reduceEqDiff, Nat.reduceAdd, ↓reduceIte]
      refine callW_of cal211 (fsigned_ok (f := 9218868437227405311) (by omega)) ?_
      rintro _ _ ⟨rfl, rfl⟩; refine ⟨_, rfl, ?_⟩
      refine hK _ _ ?_; clear hK
      refine W_ret ?_
      try simp only [thenE_r, inB_r]
      refine ret1 rfl ⟨by simp [over, m1, upd], rfl⟩
    · refine W_seq_reg fun K hK => ?_
      simp -implicitDefEqProofs (disch := omega) only [go_sem, Nat.reduceEqDiff, Nat.reduceAdd, ↓reduceIte, q3, q1, q2]
      refine hK _ _ ?_; clear hK K
      refine W_cond rfl (fun hc => by cases hc) (fun hc => W_skip (hK0 _ _ ?_))
      clear hK0
      refine W_seq_reg fun K hK => ?_
      simp -implicitDefEqProofs (disch := omega) only [go_sem, Nat.reduceEqDiff, Nat.reduceAdd, ↓reduceIte]
      refine callW_of cal211 (fsigned_ok (f := 9218868437227405312) (by omega)) ?_
      rintro _ _ ⟨rfl, rfl⟩; refine ⟨_, rfl, ?_⟩
      refine hK _ _ ?_; clear hK
      refine W_ret ?_
      try simp only [thenE_r, inB_r]
      refine ret1 rfl ⟨by simp [over, m1, upd], rfl⟩
  have q1 : (mode == 1) = false := by simpa using m1
  by_cases m2 : mode = 2
  · have q2 : (mode == 2) = true := by simpa using m2
    cases neg
    · refine W_seq_reg fun K hK => ?_
      simp -implicitDefEqProofs (disch := omega) only [go_sem, Nat.reduceEqDiff, Nat.reduceAdd, ↓reduceIte, q3, q1, q2]
      refine hK _ _ ?_; clear hK K
      refine W_cond rfl (fun hc => by cases hc) (fun hc => W_skip (hK0 _ _ ?_))
      clear hK0
      refine W_seq_reg fun K hK => ?_
      simp -implicitDefEqProofs (disch := omega) only [go_sem, Nat.reduceEqDiff, Nat.reduceAdd, ↓reduceIte]
      refine callW_of cal211 (fsigned_ok (f := 9218868437227405312) (by omega)) ?_
      rintro _ _ ⟨rfl, rfl⟩; refine ⟨_, rfl, ?_⟩
      refine hK _ _ ?_; clear hK
      refine W_ret ?_
      try simp only [thenE_r, inB_r]
      refine ret1 rfl ⟨by simp [over, m2, upd], rfl⟩
    · refine W_seq_reg fun K hK => ?_
      simp -implicitDefEqProofs (disch := omega) only [go_sem, Nat.reduceEqDiff, Nat.reduceAdd, ↓reduceIte, q3, q1, q2]
      refine hK _ _ ?_; clear hK K
      refine W_cond rfl (fun hc => ?_) (fun hc => by cases hc)
      refine W_seq_reg fun K hK => ?_
      simp -implicitDefEqProofs (disch := omega) only [go_sem, Nat.reduceEqDiff, Nat.reduceAdd, ↓reduceIte]
      refine callW_of cal211 (fsigned_ok (f := 9218868437227405311) (by omega)) ?_
      rintro _ _ ⟨rfl, rfl⟩; refine ⟨_, rfl, ?_⟩
      refine hK _ _ ?_; clear hK
      refine W_ret ?_
      try simp only [thenE_r, inB_r]
      refine ret1 rfl ⟨by simp [over, m2, upd], rfl⟩
  have q2 : (mode == 2) = false := by simpa using m2
  refine W_seq_reg fun K hK => ?_
  simp -implicitDefEqProofs (disch := omega) only [go_sem, Nat.reduceEqDiff, Nat.reduceAdd, ↓reduceIte, q3, q1, q2]
  refine hK _ _ ?_; clear hK K
  refine W_cond rfl (fun hc => by cases hc) (fun hc => W_skip (hK0 _ _ ?_))
  clear hK0
  refine W_seq_reg fun K hK => ?_
  simp -implicitDefEqProofs (disch := omega) only [go_sem, Nat.reduceEqDiff, Nat.reduceAdd, ↓reduceIte]
  refine callW_of cal211 (fsigned_ok (f := 9218868437227405312) (by omega)) ?_
  rintro _ _ ⟨rfl, rfl⟩; refine ⟨_, rfl, ?_⟩
  refine hK _ _ ?_; clear hK
  refine W_ret ?_
  try simp only [thenE_r, inB_r]
  refine ret1 rfl ⟨by simp [over, m1, m2, m3, upd], rfl⟩
end
theorem fOf_v {D : Nat → Prop} {f : Nat} {V : Int} {w : World} (hT : Tabs w) (hf : f < 18446744073709551616) (hv : ofF f = some V) (hfr : Fr D w) : Calls Tryz.prog 99 #[.int .u64 f] w (Rt (fV V) D w) := by
  have hfin : fin? f := fun h => by unfold ofF at hv; rw [if_pos h] at hv; cases hv
  obtain ⟨V', hv', hmk⟩ := ofF_mkV hfin
  rw [hv] at hv'; cases hv'
  have hfb := hf
  have hf := hfr
  refine calls_W Tryz.func99 rfl Tryz.ntmps99 (by kernel_rfl) ?_
  refine W_seq_reg fun K hK => ?_
  simp -implicitDefEqProofs (disch := omega) only [go_sem, Nat.reduceEqDiff, Nat.reduceAdd, ↓reduceIte]
  refine alW_of ?_
  intro g2 w2 hg2 hx2 hb2 hs2
  refine hK _ _ ?_; clear hK K
  have hx : Ext w w2 := hx2
  have hD : Fr (Dl D [g2]) w2 := hf.nL hx (by intro g hg; simp at hg; omega)
  clear hx2
  have hxm := Nat.mod_lt (f / 4503599627370496) (show 0 < 2048 by omega)
  have hm := Nat.mod_lt f (show 0 < 4503599627370496 by omega)
  have hpa := fun {w : World} => parts_ok (w := w) hfb
  unfold fin? at hfin
  obtain ⟨x, hxe⟩ : ∃ x, x = f / 4503599627370496 % 2048 := ⟨_, rfl⟩
  obtain ⟨m, hme⟩ : ∃ m, m = f % 4503599627370496 := ⟨_, rfl⟩
  rw [← hxe] at hxm hmk hfin
  rw [← hme] at hm hmk
  simp only [← hxe, ← hme] at hpa
  obtain ⟨sg, hsg⟩ : ∃ sg, sg = decide (9223372036854775808 ≤ f) := ⟨_, rfl⟩
  rw [← hsg] at hmk
  refine W_seq_reg fun K hK => ?_
  simp -implicitDefEqProofs (disch := omega) only [go_sem, Nat.reduceEqDiff, Nat.reduceAdd, ↓reduceIte]
  refine callW_of cal162 (hpa) ?_
  rintro _ _ ⟨rfl, rfl⟩; refine ⟨_, rfl, ?_⟩
  simp -implicitDefEqProofs (disch := omega) only [go_sem, Nat.reduceEqDiff, Nat.reduceAdd, ↓reduceIte]
  refine hK _ _ ?_; clear hK
  refine W_seq_k fun K0 hK0 => ?_
  refine W_seq_reg fun K hK => ?_
  simp -implicitDefEqProofs (disch := omega) only [go_sem, Nat.reduceEqDiff, Nat.reduceAdd, ↓reduceIte]
  refine hK _ _ ?_; clear hK K
  refine W_block ?_
  have fin : ∀ (e1 : Env) (M : Nat) (E : Int), e1 0 = .int .u64 f → e1 2 = .pointer (some ⟨g2, 0, none⟩) → e1 4 = .int .u64 M → e1 3 = .int .i64 E → M < 9007199254740992 → -1074 ≤ E → E ≤ 2000 → mkV (sgn sg M) E = some V → K0 e1 w2 := by
    intro e1 M E k0 k2 k4 k3 hM hE1 hE2 hmk
    refine hK0 _ _ ?_; clear hK0
    have e1' : IntKind.i64.wrap ((M : Nat) : Int) = M := i64_in (by omega) (by omega)
    have hbl : bl M ≤ 53 := bl_le_of (show M < 2 ^ 53 by omega)
    refine W_seq_reg fun K hK => ?_
    simp -implicitDefEqProofs (disch := omega) only [go_sem, Nat.reduceEqDiff, Nat.reduceAdd, ↓reduceIte, k4, e1']
    refine callW_of cal163 (iFromInt_v (by omega) (by omega) hD) ?_
    rintro _ w15 ⟨v15, rfl, hx15, h15⟩; refine ⟨_, rfl, ?_⟩
    replace hb2 := hb2.ext hx15
    replace hD := hD.kp hx15
    replace hx := hx.trans hx15
    clear hx15
    obtain ⟨s15, A15, n15, c15, rfl, _⟩ := id h15
    refine alW_of ?_
    intro g5 w5a hg5 hx5a hb5a hs5
    have hgl5 := hx.size
    have hn5hb2 := hb2.lt
    refine storeW_of hb5a siz35 rfl rfl fun w5 hk5 hb5 => ?_
    have hy5 : Ext w15 w5 := hx5a.under hk5 (fun k hk => by omega)
    replace h15 := ((h15.nw (g := g5) (by omega)).ext hx5a).ow hk5 (by simp)
    replace hb2 := hb2.ext hy5
    replace hD := (hD.nw (g := g5) hx5a (by omega)).ow hk5
    replace hx := hx.trans hy5
    have hq5 := hk5.size
    clear hx5a hk5 hb5a hy5
    refine hK _ _ ?_; clear hK
    refine W_seq_k fun K0 hK0 => ?_
    refine W_seq_reg fun K hK => ?_
    simp -implicitDefEqProofs (disch := omega) only [go_sem, Nat.reduceEqDiff, Nat.reduceAdd, ↓reduceIte, k0]
    refine callW_of cal164 (negative_ok hfb) ?_
    rintro _ _ ⟨rfl, rfl⟩; refine ⟨_, rfl, ?_⟩
    rw [← hsg]
    refine hK _ _ ?_; clear hK
    cases sg
    · refine W_cond rfl (fun hc => by cases hc) (fun hc => W_skip (hK0 _ _ ?_))
      clear hK0
      refine W_seq_reg fun K hK => ?_
      simp -implicitDefEqProofs (disch := omega) only [go_sem, Nat.reduceEqDiff, Nat.reduceAdd, ↓reduceIte, hb5.l2, k2, k3]
      refine callW_of cal166 (dMake_v (hT.ext hx) h15 (by rw [Int.natAbs_natCast]; omega) (by omega) (by omega) hmk hD) ?_
      rintro _ w6 ⟨v6, rfl, hx6, h6⟩; refine ⟨_, rfl, ?_⟩
      replace h15 := h15.ext hx6
      replace hb2 := hb2.ext hx6
      replace hb5 := hb5.ext hx6
      replace hD := hD.kp hx6
      replace hx := hx.trans hx6
      clear hx6
      refine storeS hb2 siz37 rfl (fV_s h6) fun w90 hk90 hb90 => ?_
      refine hK _ _ ?_; clear hK
      refine W_ret ?_
      try simp only [thenE_r, inB_r]
      exact retS rfl (by first | exact rfl | assumption | exact (by (try simp only [upd_ap, Nat.reduceEqDiff, ↓reduceIte]); first | done | assumption | exact rfl)) agg37 hb90 (fV_s h6) (Rt.fin hx h6 hk90 (by simp) (by omega))
    · refine W_cond rfl (fun hc => ?_) (fun hc => by cases hc)
      refine W_regK fun K9 hK9 => ?_
      simp -implicitDefEqProofs (disch := omega) only [go_sem, Nat.reduceEqDiff, Nat.reduceAdd, ↓reduceIte, hb5.l2]
      refine callW_of cal165 (iNeg_v h15 (by rw [Int.natAbs_natCast]; omega) hD) ?_
      rintro _ w6 ⟨v6, rfl, hx6, h6⟩; refine ⟨_, rfl, ?_⟩
      replace h15 := h15.ext hx6
      replace hb2 := hb2.ext hx6
      replace hb5 := hb5.ext hx6
      replace hD := hD.kp hx6
      replace hx := hx.trans hx6
      clear hx6
      obtain ⟨s6, A6, n6, c6, rfl, _⟩ := id h6
      refine storeW_of hb5 siz35 rfl rfl fun w7 hk7 hz7 => ?_
      replace h15 := h15.ow hk7 (by simp)
      replace h6 := h6.ow hk7 (by simp)
      replace hb2 := hb2.kpne hk7 (by omega)
      replace hD := hD.ow hk7
      replace hx := hx.under hk7 (fun k hk => by omega)
      clear hb5 hk7
      have hb5 := hz7; clear hz7
      refine hK9 _ _ ?_; clear hK9
      refine hK0 _ _ ?_; clear hK0
      refine W_seq_reg fun K hK => ?_
      simp -implicitDefEqProofs (disch := omega) only [go_sem, Nat.reduceEqDiff, Nat.reduceAdd, ↓reduceIte, hb5.l2, k2, k3]
      refine callW_of cal166 (dMake_v (hT.ext hx) h6 (by rw [Int.natAbs_neg, Int.natAbs_natCast]; omega) (by omega) (by omega) hmk hD) ?_
      rintro _ w8 ⟨v8, rfl, hx8, h8⟩; refine ⟨_, rfl, ?_⟩
      replace h15 := h15.ext hx8
      replace h6 := h6.ext hx8
      replace hb2 := hb2.ext hx8
      replace hb5 := hb5.ext hx8
      replace hD := hD.kp hx8
      replace hx := hx.trans hx8
      clear hx8
      refine storeS hb2 siz37 rfl (fV_s h8) fun w90 hk90 hb90 => ?_
      refine hK _ _ ?_; clear hK
      refine W_ret ?_
      try simp only [thenE_r, inB_r]
      exact retS rfl (by first | exact rfl | assumption | exact (by (try simp only [upd_ap, Nat.reduceEqDiff, ↓reduceIte]); first | done | assumption | exact rfl)) agg37 hb90 (fV_s h8) (Rt.fin hx h8 hk90 (by simp) (by omega))
  have q : (((x : Nat) : Int) == 2047) = false := by
    have := beqN (a := x) (b := 2047)
    rw [decide_eq_false hfin] at this; exact this
  refine W_seq_reg fun K hK => ?_
  simp -implicitDefEqProofs (disch := omega) only [go_sem, Nat.reduceEqDiff, Nat.reduceAdd, ↓reduceIte, q]
  refine hK _ _ ?_; clear hK K
  refine W_cond rfl (fun hc => by cases hc) (fun hc => ?_)
  by_cases hx0 : x = 0
  · have q : (((x : Nat) : Int) == 0) = true := by rw [beq0]; exact decide_eq_true hx0
    refine W_seq_reg fun K hK => ?_
    simp -implicitDefEqProofs (disch := omega) only [go_sem, Nat.reduceEqDiff, Nat.reduceAdd, ↓reduceIte, q]
    refine hK _ _ ?_; clear hK K
    refine W_cond rfl (fun hc => ?_) (fun hc => by cases hc)
    refine W_regK fun K9 hK9 => ?_
    simp -implicitDefEqProofs (disch := omega) only [go_sem, Nat.reduceEqDiff, Nat.reduceAdd, ↓reduceIte]
    refine hK9 _ _ ?_; clear hK9 K9
    rw [if_pos hx0, if_pos hx0] at hmk
    exact fin _ m (-1074) (by (try simp only [upd_ap, Nat.reduceEqDiff, ↓reduceIte]); first | done | assumption | exact rfl) (by (try simp only [upd_ap, Nat.reduceEqDiff, ↓reduceIte]); first | done | assumption | exact rfl) (by (try simp only [upd_ap, Nat.reduceEqDiff, ↓reduceIte]); first | done | assumption | exact rfl) (by (try simp only [upd_ap, Nat.reduceEqDiff, ↓reduceIte]); first | done | assumption | exact rfl) (by omega) (by omega) (by omega) hmk
  · have q : (((x : Nat) : Int) == 0) = false := by rw [beq0]; exact decide_eq_false hx0
    refine W_seq_reg fun K hK => ?_
    simp -implicitDefEqProofs (disch := omega) only [go_sem, Nat.reduceEqDiff, Nat.reduceAdd, ↓reduceIte, q]
    refine hK _ _ ?_; clear hK K
    refine W_cond rfl (fun hc => by cases hc) (fun hc => ?_)
    have h4 := or_hid hm
    have h5 : IntKind.i64.wrap ((x : Int) - 1075) = (x : Int) - 1075 := i64_in (by omega) (by omega)
    refine W_seq_reg fun K hK => ?_
    simp -implicitDefEqProofs (disch := omega) only [go_sem, Nat.reduceEqDiff, Nat.reduceAdd, ↓reduceIte, h4]
    refine hK _ _ ?_; clear hK K
    refine W_regK fun K9 hK9 => ?_
    simp -implicitDefEqProofs (disch := omega) only [go_sem, Nat.reduceEqDiff, Nat.reduceAdd, ↓reduceIte, h5]
    refine hK9 _ _ ?_; clear hK9 K9
    rw [if_neg hx0, if_neg hx0] at hmk
    exact fin _ _ _ (by (try simp only [upd_ap, Nat.reduceEqDiff, ↓reduceIte]); first | done | assumption | exact rfl) (by (try simp only [upd_ap, Nat.reduceEqDiff, ↓reduceIte]); first | done | assumption | exact rfl) (by (try simp only [upd_ap, Nat.reduceEqDiff, ↓reduceIte]); first | done | assumption | exact rfl) (by (try simp only [upd_ap, Nat.reduceEqDiff, ↓reduceIte]); first | done | assumption | exact rfl) (by omega) (by omega) (by omega) hmk
end Go.Proofs.YtjamnehcmaloeaaGreatDoor
end
section
namespace Go.E
open Go Go.RowKit
def flOk (ops : List Oper) (m : Nat) (fl : List Bool) : Bool :=
  Nat.beq fl.length ops.length && (List.range ops.length).all fun i => match ops[i]? with
    | none => true
    | some o => (!(fl.getD i false) || (decide (i < m) && pureO o && !isLoad o && (List.range ops.length).all fun j => match ops[j]? with
        | none => true
        | some p => !lookD ops p i || edgeTo p i)) &&
      (decide (i < m) || Nat.beq (((masks ops []).getD i 0) &&& lateB (fl.take i) 0 0) (lateB (fl.take i) 0 0))
structure FlOk (ops : List Oper) (m : Nat) (fl : List Bool) : Prop where
  len : fl.length = ops.length
  ok : ∀ (i : Nat) (o : Oper), ops[i]? = some o → fl[i]? = some true → i < m ∧ pureO o = true ∧ isLoad o = false
  seen : ∀ (i j : Nat) (o p : Oper) (d : Nat), ops[i]? = some o → fl[i]? = some true → ops[j]? = some p → o.dst = some d → looks ops.toArray p d = true → edgeTo p i = true
  anc : ∀ (i j : Nat), i < ops.length → m ≤ i → j < i → fl[j]? = some false → Anc ops.toArray i j
theorem FlOk.of {ops : List Oper} {m : Nat} {fl : List Bool} (h : flOk ops m fl = true) : FlOk ops m fl := by
  unfold flOk at h
  rw [Bool.and_eq_true] at h
  obtain ⟨h1, h3⟩ := h
  have hlen := Nat.eq_of_beq_eq_true h1
  rw [List.all_eq_true] at h3
  have h4 : ∀ i o, ops[i]? = some o → _ := fun i o ho => h3 i (List.mem_range.2 (List.getElem?_eq_some_iff.1 ho).1)
  refine ⟨hlen, fun i o ho hm => ?_, fun i j o p d ho hm hp hd hl => ?_, fun i j hi hmi hji hj => ?_⟩
  · have := h4 i o ho
    simp only [ho, Bool.and_eq_true] at this
    have := this.1
    rw [show fl.getD i false = true by simp [List.getD, hm], Bool.not_true, Bool.false_or, Bool.and_eq_true, Bool.and_eq_true, Bool.and_eq_true, decide_eq_true_eq] at this
    exact ⟨this.1.1.1, this.1.1.2, by simpa using this.1.2⟩
  · have := h4 i o ho
    simp only [ho, Bool.and_eq_true] at this
    have := this.1
    rw [show fl.getD i false = true by simp [List.getD, hm], Bool.not_true, Bool.false_or, Bool.and_eq_true, List.all_eq_true] at this
    have := this.2 j (List.mem_range.2 (List.getElem?_eq_some_iff.1 hp).1)
    unfold lookD at this
    simpa [hp, ho, hd, hl] using this
  · obtain ⟨o, ho⟩ : ∃ o, ops[i]? = some o := ⟨_, List.getElem?_eq_getElem hi⟩
    have := h4 i o ho
    simp only [ho, Bool.and_eq_true] at this
    have := this.2
    rw [decide_eq_false (by omega), Bool.false_or] at this
    have h5 := Nat.eq_of_beq_eq_true this
    have h6 : (lateB (fl.take i) 0 0).testBit j = true := lateB_bit _ 0 0 (Nat.zero_le _) (by rw [Nat.sub_zero, List.getElem?_take, if_pos hji]; exact hj)
    rw [← h5, Nat.testBit_and, Bool.and_eq_true] at h6
    exact masks_anc ops [] [] rfl rfl (fun i j h => by simp at h) i j h6.1
section
variable {P : Program} {n : Nat} {R : World → World → Prop}
theorem put_ne {f : Env} {x : Option Nat} {v : Value} {t : Nat} (h0 : x ≠ some t) : put f x v t = f t := by
  cases hx : x with
  | none => rfl
  | some d' =>
    have : t ≠ d' := fun h => h0 (by rw [hx, h])
    simp [put, upd, this]
theorem put_eq {f : Env} {x : Option Nat} {v : Value} {t : Nat} (h0 : x = some t) : put f x v t = v := by rw [h0]; simp [put, upd]
theorem count_set {ops : List Oper} {listed : Array Bool} {i fuel : Nat} (hs : listed.size = ops.length) (hlt : i < ops.length) (hnl : listed.getD i true = false) (hf : ops.length ≤ fuel + 1 + (List.range ops.length).countP (fun i => listed.getD i true)) : ops.length ≤ fuel + (List.range ops.length).countP (fun j => (listed.setIfInBounds i true).getD j true) := by
  have hli : i < listed.size := by omega
  have : (List.range ops.length).countP (fun j => listed.getD j true) + 1 ≤ (List.range ops.length).countP (fun j => (listed.setIfInBounds i true).getD j true) := by
    have hsplit : List.range ops.length = List.range i ++ i :: (List.range' (i + 1) (ops.length - i - 1)) := by
      rw [List.range_eq_range', List.range_eq_range', show ops.length = i + (1 + (ops.length - i - 1)) by omega, ← List.range'_append_1, Nat.zero_add]
      congr 1
      rw [show i + (1 + (ops.length - i - 1)) - i - 1 = ops.length - i - 1 by omega, Nat.add_comm 1, List.range'_succ]
    rw [hsplit, List.countP_append, List.countP_append, List.countP_cons, List.countP_cons]
    have hmono : ∀ (L : List Nat), L.countP (fun j => listed.getD j true) ≤ L.countP (fun j => (listed.setIfInBounds i true).getD j true) := by
      intro L
      refine List.countP_mono_left (fun j _ hj => ?_)
      rw [getD_set_true hli]
      split
      · rfl
      · exact hj
    have h1 := hmono (List.range i)
    have h2 := hmono (List.range' (i + 1) (ops.length - i - 1))
    simp only [hnl, getD_set_true hli, if_true, if_false, Bool.false_eq_true] at h1 h2 ⊢
    omega
  omega
structure TInv (P : Program) (ops : List Oper) (n : Nat) (fl : List Bool) (e0 : Env) (listed : Array Bool) (a : Act) (e' ek : Env) (p : Nat) : Prop where
  size : listed.size = ops.length
  rel : Rel n a e'
  pos : ∀ (i : Nat), i < ops.length → fl[i]? = some false → listed.getD i true = decide (i < p)
  closed : ∀ (i : Nat) (o : Oper) (x : Edge), ops.toArray[i]? = some o → listed.getD i true = true → x ∈ o.after → Region.binds .any x = true → listed.getD x.on false = true
  old : ∀ t, isDst ops.toArray t = false → e' t = e0 t
  agree : ∀ (t : Nat), (∀ (i : Nat) (o : Oper), ops[i]? = some o → fl[i]? = some true → listed.getD i true = false → o.dst ≠ some t) → e' t = ek t
  pend : ∀ (i : Nat) (o : Oper), ops[i]? = some o → fl[i]? = some true → listed.getD i true = false → ∃ v, (∀ d, o.dst = some d → ek d = v) ∧ ∀ (e2 : Env) (w2 : World), (∀ t, looks ops.toArray o t = true → e2 t = ek t) → ∀ K' : Value → World → Prop, K' v w2 → wg P ops.toArray o e2 w2 K'
theorem closed_set {ops : List Oper} {listed : Array Bool} {i : Nat} {o : Oper} (hli : i < listed.size) (hio : ops.toArray[i]? = some o) (hc : ∀ (i : Nat) (o : Oper) (x : Edge), ops.toArray[i]? = some o → listed.getD i true = true → x ∈ o.after → Region.binds .any x = true → listed.getD x.on false = true)
    (haf : ∀ x ∈ o.after, Region.binds .any x = true → listed.getD x.on false = true) : ∀ (j : Nat) (p : Oper) (x : Edge), ops.toArray[j]? = some p → (listed.setIfInBounds i true).getD j true = true → x ∈ p.after → Region.binds .any x = true → (listed.setIfInBounds i true).getD x.on false = true := by
  intro j p x hp hl hx hb
  rw [getD_set_true hli] at hl ⊢
  by_cases hij : i = j
  · subst hij
    have : p = o := Option.some.inj (hp.symm.trans hio)
    subst this
    split
    · rfl
    · exact haf x hx hb
  · rw [if_neg hij] at hl
    split
    · rfl
    · exact hc j p x hp hl hx hb
theorem tailF_any {ops : List Oper} {m : Nat} {fl : List Bool} {Q : Exit → Act → World → Prop} {K : Env → World → Prop} {e0 : Env} (hf : FlOk ops m fl) (hdr : drawOk ops.toArray = true) (hd : ops.all (dokO n) = true)
    (hQ : ∀ a e' w', Rel n a e' → (∀ t, isDst ops.toArray t = false → e' t = e0 t) → K e' w' → Q .normal a w') :
    ∀ (fuel p : Nat) (listed : Array Bool) (a : Act) (e' : Env) (w' : World) (ek : Env), m ≤ p → p ≤ ops.length → ops.length ≤ fuel + (List.range ops.length).countP (fun i => listed.getD i true) → TInv P ops n fl e0 listed a e' ek p → WL P ops.toArray K (ops.drop p) ek w' →
      wpAny P .any ops.toArray Q fuel listed a w' := by
  have hok := DOk.of hdr
  have hfb : ∀ (i : Nat), i < ops.length → fl[i]? = some true ∨ fl[i]? = some false := fun i hi => by
    have hl : i < fl.length := by rw [hf.len]; exact hi
    rw [List.getElem?_eq_getElem hl]
    cases fl[i] <;> simp
  have hfin : ∀ (p : Nat) (listed : Array Bool) (a : Act) (e' : Env) (w' : World) (ek : Env), m ≤ p → p ≤ ops.length → TInv P ops n fl e0 listed a e' ek p → WL P ops.toArray K (ops.drop p) ek w' → (∀ i, i < ops.length → listed.getD i true = true) → Q .normal a w' := by
    intro p listed a e' w' ek hmp hpl I h hall
    have hp : p = ops.length := by
      rcases Nat.lt_or_ge p ops.length with hp | hp
      · have hfp : fl[p]? = some false := by
          rcases hfb p hp with h | h
          · obtain ⟨o, ho⟩ : ∃ o, ops[p]? = some o := ⟨_, List.getElem?_eq_getElem hp⟩
            have := (hf.ok p o ho h).1; omega
          · exact h
        have h1 := I.pos p hp hfp
        rw [hall p hp] at h1; simp at h1
      · omega
    subst hp
    rw [List.drop_of_length_le (Nat.le_refl _)] at h
    have hee : e' = ek := funext fun t => I.agree t fun i o ho _ hl => by
      have := hall i (List.getElem?_eq_some_iff.1 ho).1
      rw [hl] at this; cases this
    refine hQ a e' w' I.rel I.old ?_
    rw [hee]; exact h
  intro fuel
  induction fuel with
  | zero =>
    intro p listed a e' w' ek hmp hpl hcnt I h
    have hle : (List.range ops.length).countP (fun i => listed.getD i true) = (List.range ops.length).length := by
      have := List.countP_le_length (p := fun i => listed.getD i true) (l := List.range ops.length)
      simp only [List.length_range] at this ⊢; omega
    rw [List.countP_eq_length] at hle
    have hall : ∀ i, i < ops.length → listed.getD i true = true := fun i hi => hle i (List.mem_range.2 hi)
    refine ⟨?_, hfin _ _ _ _ _ _ hmp hpl I h hall⟩
    unfold Region.ready
    rw [List.filter_eq_nil_iff]
    intro i hi
    have := hall i (by simpa using List.mem_range.1 hi)
    simp [this]
  | succ fuel ih =>
    intro p listed a e' w' ek hmp hpl hcnt I h
    have hsz : listed.size = ops.toArray.size := by rw [I.size]; simp
    refine ⟨fun hnil => hfin _ _ _ _ _ _ hmp hpl I h fun i hi => ready_min hok hsz hnil i (by simpa using hi), fun i hi => ?_⟩
    obtain ⟨hlt, hnl, haf'⟩ := ready_iff hi
    have hlt' : i < ops.length := by simpa using hlt
    obtain ⟨o, ho⟩ : ∃ o, o = ops[i] := ⟨_, rfl⟩
    have hio : ops[i]? = some o := by rw [ho]; exact List.getElem?_eq_getElem hlt'
    have hio2 : ops.toArray[i]? = some o := by simpa using hio
    have haf : ∀ x ∈ o.after, Region.binds .any x = true → listed.getD x.on false = true := fun x hx hb => haf' x (by rw [ho] at hx; simpa using hx) hb
    have hmem : o ∈ ops := List.mem_of_getElem? hio
    have hdo : dokO n o = true := by rw [List.all_eq_true] at hd; exact hd _ hmem
    have hli : i < listed.size := by rw [I.size]; exact hlt'
    have hcount := count_set I.size hlt' hnl hcnt
    have hput : ∀ v, Rel n (a.put o.dst v) (put e' o.dst v) := fun v => I.rel.put _ v (by unfold dokO at hdo; cases hx : o.dst <;> simp_all)
    have hclosed' := closed_set hli hio2 I.closed haf
    have hold' : ∀ v t, isDst ops.toArray t = false → put e' o.dst v t = e0 t := fun v t ht => by
      rw [put_ne (isDst_false ht i o hio2)]; exact I.old t ht
    have hlook : ∀ t, looks ops.toArray o t = true → e' t = ek t := fun t ht => I.agree t fun j q hq hfq hlq hqd => by
      have he := hf.seen j i q o t hq hfq hio hqd ht
      obtain ⟨x, hx, hb, rfl⟩ := edgeTo_iff.1 he
      have := haf x hx hb
      rw [ft (by rw [I.size]; exact (List.getElem?_eq_some_iff.1 hq).1), hlq] at this; cases this
    have hsel : ∀ cs b, o.op ≠ .select cs b := fun cs b hsel => by
      have := hdr
      unfold drawOk at this
      rw [List.all_eq_true] at this
      have := this i (List.mem_range.2 hlt)
      simp only [hio, Bool.and_eq_true] at this
      have := this.1.2
      rw [hsel] at this; simp at this
    have hdd : ∀ (i j : Nat) (o p : Oper) (d : Nat), ops[i]? = some o → ops[j]? = some p → o.dst = some d → p.dst = some d → i = j := fun i j o p d hi hj ho hp => by
      rcases Nat.decEq i j with h | h
      · exact absurd hp (hok.one i j o p d (by simpa using hi) (by simpa using hj) h ho)
      · exact h
    rcases hfb i hlt' with hfi | hfi
    · obtain ⟨v, hv, hev⟩ := I.pend i o hio hfi hnl
      have hnext : wpAny P .any ops.toArray Q fuel (listed.setIfInBounds i true) (a.put o.dst v) w' := by
        refine ih p _ _ (put e' o.dst v) w' ek hmp hpl hcount ⟨by simpa using I.size, hput v, fun j hj hfj => ?_, hclosed', hold' v, fun t ht => ?_, fun j q hq hfq hlq => ?_⟩ h
        · rw [getD_set_true hli, if_neg (fun e => by subst e; rw [hfi] at hfj; cases hfj)]
          exact I.pos j hj hfj
        · by_cases hdt : o.dst = some t
          · rw [put_eq hdt, hv t hdt]
          · rw [put_ne hdt]
            refine I.agree t fun j q hq hfq hlq hqd => ?_
            by_cases hij : i = j
            · subst hij
              have : q = o := Option.some.inj (hq.symm.trans hio)
              subst this; exact hdt hqd
            · exact ht j q hq hfq (by rw [getD_set_true hli, if_neg hij]; exact hlq) hqd
        · rw [getD_set_true hli] at hlq
          split at hlq
          · cases hlq
          · exact I.pend j q hq hfq hlq
      have hstep : WG P ops.toArray o e' w' fun v' w'' => v' = v ∧ w'' = w' := WG_of_wg (hev e' w' hlook _ ⟨rfl, rfl⟩)
      unfold wpOp
      simp only [hio2]
      rw [want_eq I.rel (by simpa using hd)]
      unfold WG at hstep
      split
      · rename_i hw
        rw [if_pos hw] at hstep
        exact .inl (wp_of_WO I.rel hstep fun v' w'' ⟨h1, h2⟩ => by subst h1; subst h2; exact hnext)
      · rename_i hw
        rw [if_neg hw] at hstep
        obtain ⟨h1, h2⟩ := hstep
        rw [h1]; exact hnext
    · have hmi : m ≤ i := by
        have h1 := I.pos i hlt' hfi
        rw [hnl] at h1
        have : ¬ i < p := by simpa using h1.symm
        omega
      have hip : i = p := by
        have h1 := I.pos i hlt' hfi
        rw [hnl] at h1
        have h2 : ¬ i < p := by simpa using h1.symm
        rcases Nat.lt_or_ge p i with h3 | h3
        · have hpl' : p < ops.length := by omega
          have hfp : fl[p]? = some false := by
            rcases hfb p hpl' with h | h
            · obtain ⟨o, ho⟩ : ∃ o, ops[p]? = some o := ⟨_, List.getElem?_eq_getElem hpl'⟩
              have := (hf.ok p o ho h).1; omega
            · exact h
          have := anc_ready hsz I.closed (hf.anc i p hlt' hmi h3 hfp) (fun q hq x hx hb => by
            rw [hio2] at hq; cases hq; exact haf x hx hb)
          rw [ft (by rw [I.size]; exact hpl'), I.pos p hpl' hfp] at this
          simp at this
        · omega
      subst hip
      have hdrop : ops.drop i = o :: ops.drop (i + 1) := by
        rw [List.drop_eq_getElem_cons hlt', ho]
      rw [hdrop] at h
      simp only [WL] at h
      have hstep := WG_congr hsel hlook h
      have hnext : ∀ v w'', WL P ops.toArray K (ops.drop (i + 1)) (put ek o.dst v) w'' → wpAny P .any ops.toArray Q fuel (listed.setIfInBounds i true) (a.put o.dst v) w'' := fun v w'' hw => by
        refine ih (i + 1) _ _ (put e' o.dst v) w'' (put ek o.dst v) (by omega) (by omega) hcount ⟨by simpa using I.size, hput v, fun j hj hfj => ?_, hclosed', hold' v, fun t ht => ?_, fun j q hq hfq hlq => ?_⟩ hw
        · rw [getD_set_true hli]
          split
          · subst_vars; simp
          · rename_i hne
            rw [I.pos j hj hfj, decide_eq_decide]; omega
        · by_cases hdt : o.dst = some t
          · rw [put_eq hdt, put_eq hdt]
          · rw [put_ne hdt, put_ne hdt]
            refine I.agree t fun j q hq hfq hlq hqd => ht j q hq hfq ?_ hqd
            rw [getD_set_true hli, if_neg (fun e => by subst e; rw [hfi] at hfq; cases hfq)]; exact hlq
        · have hij : i ≠ j := fun e => by subst e; rw [hfi] at hfq; cases hfq
          rw [getD_set_true hli, if_neg hij] at hlq
          obtain ⟨v', hv', hev'⟩ := I.pend j q hq hfq hlq
          refine ⟨v', fun d hqd => ?_, fun e2 w2 he2 => hev' e2 w2 fun t ht => ?_⟩
          · rw [put_ne fun hx => hij (hdd i j o q d hio hq hx hqd)]; exact hv' d hqd
          · rw [he2 t ht, put_ne fun hx => ?_]
            rcases hok.seen j i q o t (by simpa using hq) hio2 (fun e => hij e.symm) hx ht with h | h
            · obtain ⟨x, hx', hb, hxo⟩ := edgeTo_iff.1 h
              have h1 := hok.down j q x (by simpa using hq) hx' hb
              have := (hf.ok j q hq hfq).1
              omega
            · obtain ⟨x, hx', hb, rfl⟩ := edgeTo_iff.1 h
              have := haf x hx' hb
              rw [ft (by rw [I.size]; exact (List.getElem?_eq_some_iff.1 hq).1), hlq] at this; cases this
      unfold wpOp
      simp only [hio2]
      rw [want_eq I.rel (by simpa using hd)]
      unfold WG at hstep
      split
      · rename_i hw
        rw [if_pos hw] at hstep
        exact .inl (wp_of_WO I.rel hstep fun v w'' hk => hnext v w'' hk)
      · rename_i hw
        rw [if_neg hw] at hstep
        exact hnext _ _ hstep
theorem DInv.step {ops : List Oper} {l : List (Nat × SpecR R)} {e : Env} {w : World} {listed : Array Bool} {a : Act} {e' : Env} {w' w'' : World} {i : Nat} {o : Oper} {v : Value} (hR : Pre R) (hok : DOk ops.toArray) (hd : ops.all (dokO n) = true) (I : DInv ops.toArray n R l e w listed a e' w') (hio : ops[i]? = some o) (haf : ∀ x ∈ o.after, Region.binds .any x = true → listed.getD x.on false = true)
    (hr : R w' w'') (hv : ∀ d, o.dst = some d → (look l d).1 v w'') : DInv ops.toArray n R l e w (listed.setIfInBounds i true) (a.put o.dst v) (put e' o.dst v) w'' := by
  have hlt := (List.getElem?_eq_some_iff.1 hio).1
  have hli : i < listed.size := by rw [I.size]; simpa using hlt
  have hio2 : ops.toArray[i]? = some o := by simpa using hio
  have hdo : dokO n o = true := by rw [List.all_eq_true] at hd; exact hd _ (List.mem_of_getElem? hio)
  refine ⟨by simpa using I.size, I.rel.put _ v (by unfold dokO at hdo; cases hx : o.dst <;> simp_all), hR.trans I.world hr, ?_, ?_, closed_set hli hio2 I.closed haf⟩
  · intro j p d hp hl hpd
    rw [getD_set_true hli] at hl
    by_cases hij : i = j
    · subst hij
      have : p = o := Option.some.inj (hp.symm.trans hio2)
      subst this
      rw [put_eq hpd]
      exact hv d hpd
    · rw [if_neg hij] at hl
      rw [put_ne fun hx => hok.one i j o p d hio2 hp hij hx hpd]
      exact (look l d).2 _ _ _ hr (I.done j p d hp hl hpd)
  · intro t ht
    rw [put_ne (ht i o hio2 (by rw [getD_set_true hli]; simp))]
    exact I.old t fun j p hp hl => ht j p hp (by
      rw [getD_set_true hli]; split
      · rfl
      · exact hl)
theorem step_pre {ops : List Oper} {l : List (Nat × SpecR R)} {e : Env} {w : World} {listed : Array Bool} {a : Act} {e' : Env} {w' : World} {i : Nat} {o : Oper} (hok : DOk ops.toArray) (I : DInv ops.toArray n R l e w listed a e' w') (hio : ops[i]? = some o) (hnl : listed.getD i true = false) (haf : ∀ x ∈ o.after, Region.binds .any x = true → listed.getD x.on false = true) :
    (∀ t, dep ops.toArray o t = true → (look l t).1 (e' t) w') ∧ (∀ t, looks ops.toArray o t = true → dep ops.toArray o t = false → e' t = e t) := by
  have hlt := (List.getElem?_eq_some_iff.1 hio).1
  have hio2 : ops.toArray[i]? = some o := by simpa using hio
  refine ⟨fun t ht => ?_, fun t ht hnd => ?_⟩
  · obtain ⟨j, p, hp, he, hpd⟩ := dep_iff.1 ht
    obtain ⟨x, hx, hb, rfl⟩ := edgeTo_iff.1 he
    have hl := haf x hx hb
    have hxl : x.on < listed.size := by rw [I.size]; exact (Array.getElem?_eq_some_iff.1 hp).1
    exact I.done x.on p t hp (by rw [← ft hxl]; exact hl) hpd
  · refine I.old t fun j p hp hl hpd => ?_
    by_cases hij : i = j
    · subst hij; rw [hnl] at hl; cases hl
    · rcases hok.seen i j o p t hio2 hp hij hpd ht with h | h
      · have : dep ops.toArray o t = true := dep_iff.2 ⟨j, p, hp, h, hpd⟩
        rw [hnd] at this; cases this
      · obtain ⟨x, hx, hb, hxo⟩ := edgeTo_iff.1 h
        have := I.closed j p x hp hl hx hb
        rw [hxo] at this
        have hxl : i < listed.size := by rw [I.size]; simpa using hlt
        rw [ft hxl, hnl] at this; cases this
theorem complete {ops : List Oper} {m : Nat} {fl : List Bool} {l : List (Nat × SpecR R)} {e : Env} {w : World} (hR : Pre R) (hf : FlOk ops m fl) (hdr : drawOk ops.toArray = true) (hd : ops.all (dokO n) = true) (hm : m ≤ ops.length)
    (steps : ∀ i o, ops[i]? = some o → i < m → StepG P ops.toArray R l e w o) :
    ∀ (k q : Nat) (listed : Array Bool) (a : Act) (e' : Env) (w' : World), q + k = m → DInv ops.toArray n R l e w listed a e' w' → (∀ i, i < q → listed.getD i true = true) → (∀ i, i < m → fl[i]? = some false → listed.getD i true = true) → (∀ i, m ≤ i → i < ops.length → listed.getD i true = false) →
      ∃ ek : Env, (∀ i o t, ops[i]? = some o → i < m → o.dst = some t → (look l t).1 (ek t) w') ∧ (∀ t, (∀ i o, ops[i]? = some o → i < m → o.dst ≠ some t) → ek t = e t) ∧
        (∀ (t : Nat), (∀ (i : Nat) (o : Oper), ops[i]? = some o → fl[i]? = some true → listed.getD i true = false → o.dst ≠ some t) → e' t = ek t) ∧
        (∀ (i : Nat) (o : Oper), ops[i]? = some o → fl[i]? = some true → listed.getD i true = false → ∃ v, (∀ d, o.dst = some d → ek d = v) ∧ ∀ (e2 : Env) (w2 : World), (∀ t, looks ops.toArray o t = true → e2 t = ek t) → ∀ K' : Value → World → Prop, K' v w2 → wg P ops.toArray o e2 w2 K')
  | 0, q, listed, a, e', w', hq, I, hall, _, htl => by
    refine ⟨e', fun i o t ho hi ht => I.done i o t (by simpa using ho) (hall i (by omega)) ht, fun t ht => I.old t fun i o ho hl => ?_, fun t _ => rfl, fun i o ho hfi hl => ?_⟩
    · rcases Nat.lt_or_ge i m with h | h
      · exact ht i o (by simpa using ho) h
      · have := htl i h (by simpa using (Array.getElem?_eq_some_iff.1 ho).1)
        rw [hl] at this; cases this
    · have := hall i (by have := (hf.ok i o ho hfi).1; omega)
      rw [hl] at this; cases this
  | k + 1, q, listed, a, e', w', hq, I, hall, hnf, htl => by
    have hok := DOk.of hdr
    have hql : q < ops.length := by omega
    have hqs : q < listed.size := by rw [I.size]; simpa using hql
    cases hlq : listed.getD q true with
    | true =>
      refine complete hR hf hdr hd hm steps k (q + 1) listed a e' w' (by omega) I (fun i hi => ?_) hnf htl
      rcases Nat.lt_or_ge i q with h | h
      · exact hall i h
      · have : i = q := by omega
        subst this; exact hlq
    | false =>
      obtain ⟨o, hio⟩ : ∃ o, ops[q]? = some o := ⟨_, List.getElem?_eq_getElem hql⟩
      have hio2 : ops.toArray[q]? = some o := by simpa using hio
      have hfq : fl[q]? = some true := by
        have hl : q < fl.length := by rw [hf.len]; exact hql
        rw [List.getElem?_eq_getElem hl]
        cases hb : fl[q] with
        | true => rfl
        | false =>
          have := hnf q (by omega) (by rw [List.getElem?_eq_getElem hl, hb])
          rw [hlq] at this; cases this
      obtain ⟨_, hpu, hnld⟩ := hf.ok q o hio hfq
      have haf : ∀ x ∈ o.after, Region.binds .any x = true → listed.getD x.on false = true := fun x hx hb => by
        have h1 := hok.down q o x hio2 hx hb
        rw [ft (by omega)]; exact hall x.on h1
      obtain ⟨hp1, hp2⟩ := step_pre hok I hio hlq haf
      obtain ⟨v, ⟨hr, hv⟩, hre⟩ := wg_val hpu (steps q o hio (by omega) e' w' I.world hp1 hp2)
      have I' := I.step hR hok hd hio haf hr hv
      obtain ⟨ek, g1, g2, g3, g4⟩ := complete hR hf hdr hd hm steps k (q + 1) _ _ _ _ (by omega) I' (fun i hi => by
        rw [getD_set_true hqs]
        split
        · rfl
        · exact hall i (by omega)) (fun i hi hfi => by
        rw [getD_set_true hqs]
        split
        · rfl
        · exact hnf i hi hfi) (fun i hi hil => by
        rw [getD_set_true hqs, if_neg (by omega)]; exact htl i hi hil)
      have g3' : ∀ (t : Nat), (∀ (i : Nat) (o : Oper), ops[i]? = some o → fl[i]? = some true → listed.getD i true = false → o.dst ≠ some t) → e' t = ek t := fun t ht => by
        rw [← g3 t fun i p hp hfp hlp => ?_, put_ne (ht q o hio hfq hlq)]
        rw [getD_set_true hqs] at hlp
        split at hlp
        · cases hlp
        · exact ht i p hp hfp hlp
      refine ⟨ek, g1, g2, g3', fun i p hp hfp hlp => ?_⟩
      by_cases hij : q = i
      · subst hij
        have : p = o := Option.some.inj (hp.symm.trans hio)
        subst this
        refine ⟨v, fun d hpd => ?_, fun e2 w2 he2 K' hk => hre e2 w2 (fun t ht => ?_) (fun hl => by rw [hnld] at hl; cases hl) K' hk⟩
        · rw [← g3 d fun j r hr' hfr hlr hrd => ?_, put_eq hpd]
          by_cases hjq : q = j
          · subst hjq; rw [getD_set_true hqs, if_pos rfl] at hlr; cases hlr
          · exact hok.one q j p r d hio2 (by simpa using hr') hjq hpd hrd
        · rw [he2 t ht]
          refine (g3' t fun j r hr' hfr hlr hrd => ?_).symm
          have he := hf.seen j q r p t hr' hfr hio hrd ht
          obtain ⟨x, hx, hb, rfl⟩ := edgeTo_iff.1 he
          have h1 := hok.down q p x hio2 hx hb
          rw [hall x.on h1] at hlr; cases hlr
      · exact g4 i p hp hfp (by rw [getD_set_true hqs, if_neg hij]; exact hlp)
def zOk (ops : List Oper) (m : Nat) (Z : List Nat) : Bool :=
  ((List.range ops.length).all fun i => match ops[i]? with
    | none => true
    | some o => match o.dst with
      | some d => !(Z.contains d) || (decide (i < m) && (match o.op, o.guard with | .alloc _, none => true | _, _ => false))
      | none => true) && Z.all fun d => ops.any (wrO d)
structure ZOk (ops : List Oper) (m : Nat) (Z : List Nat) : Prop where
  op : ∀ (i : Nat) (o : Oper) (d : Nat), ops[i]? = some o → o.dst = some d → d ∈ Z → i < m ∧ (∃ T, o.op = .alloc T) ∧ o.guard = none
  ex : ∀ d ∈ Z, ∃ (i : Nat) (o : Oper), ops[i]? = some o ∧ o.dst = some d
theorem ZOk.of {ops : List Oper} {m : Nat} {Z : List Nat} (h : zOk ops m Z = true) : ZOk ops m Z := by
  unfold zOk at h
  rw [Bool.and_eq_true, List.all_eq_true, List.all_eq_true] at h
  refine ⟨fun i o d ho hd hz => ?_, fun d hz => ?_⟩
  · have := h.1 i (List.mem_range.2 (List.getElem?_eq_some_iff.1 ho).1)
    simp only [ho, hd] at this
    rw [show Z.contains d = true by simpa using hz, Bool.not_true, Bool.false_or, Bool.and_eq_true, decide_eq_true_eq] at this
    refine ⟨this.1, ?_⟩
    have h2 := this.2
    split at h2
    · rename_i T h3 h4; exact ⟨⟨_, h3⟩, h4⟩
    · cases h2
  · obtain ⟨i, o, a, b⟩ := any_mem.1 (h.2 d hz)
    exact ⟨i, o, a, b⟩
theorem alloc_fresh {ops : Array Oper} {o : Oper} {e : Env} {w : World} {K : Value → World → Prop} (h : ∃ T, o.op = .alloc T) (hg : o.guard = none) (hs : wg P ops o e w K) : wg P ops o e w fun v w'' => K v w'' ∧ v = .pointer (some ⟨w.heap.size, 0, none⟩) ∧ w.heap.size < w''.heap.size := by
  obtain ⟨d, op, ty, pos, af, g⟩ := o
  obtain ⟨T, h⟩ := h
  simp only at h hg
  subst h; subst hg
  unfold wg at *
  have hw : wantE ops e ⟨d, .alloc T, ty, pos, af, none⟩ = true := rfl
  rw [if_pos hw] at *
  simp only [wo] at hs
  obtain ⟨z, h1, h2⟩ := optK_elim hs
  show optK (zeroOf P T) fun z => (K (.pointer (some ⟨w.heap.size, 0, none⟩)) (w.alloc (.cells z T)) ∧ (.pointer (some ⟨w.heap.size, 0, none⟩) : Value) = .pointer (some ⟨w.heap.size, 0, none⟩) ∧ w.heap.size < (w.alloc (.cells z T)).heap.size)
  rw [h1]
  exact ⟨h2, rfl, by simp⟩
structure ZInv (ops : List Oper) (Z : List Nat) (listed : Array Bool) (e' : Env) (w' : World) : Prop where
  ptr : ∀ (i : Nat) (o : Oper) (d : Nat), ops[i]? = some o → listed.getD i true = true → o.dst = some d → d ∈ Z → ∃ g, e' d = .pointer (some ⟨g, 0, none⟩) ∧ g < w'.heap.size
  ne : ∀ (i j : Nat) (o p : Oper) (d d' : Nat), ops[i]? = some o → ops[j]? = some p → listed.getD i true = true → listed.getD j true = true → o.dst = some d → p.dst = some d' → d ∈ Z → d' ∈ Z → d ≠ d' → e' d ≠ e' d'
theorem ZInv.step {ops : List Oper} {Z : List Nat} {listed : Array Bool} {e' : Env} {w' w'' : World} {i : Nat} {o : Oper} {v : Value} (hok : DOk ops.toArray) (I : ZInv ops Z listed e' w') (hio : ops[i]? = some o) (hli : i < listed.size) (hsz : w'.heap.size ≤ w''.heap.size)
    (hfr : ∀ d, o.dst = some d → d ∈ Z → v = .pointer (some ⟨w'.heap.size, 0, none⟩) ∧ w'.heap.size < w''.heap.size) : ZInv ops Z (listed.setIfInBounds i true) (put e' o.dst v) w'' := by
  have hdd : ∀ (i j : Nat) (o p : Oper) (d : Nat), ops[i]? = some o → ops[j]? = some p → o.dst = some d → p.dst = some d → i = j := fun i j o p d hi hj ho hp => by
    rcases Nat.decEq i j with h | h
    · exact absurd hp (hok.one i j o p d (by simpa using hi) (by simpa using hj) h ho)
    · exact h
  have hget : ∀ (j : Nat) (p : Oper) (d : Nat), ops[j]? = some p → (listed.setIfInBounds i true).getD j true = true → p.dst = some d → d ∈ Z → (j = i ∧ put e' o.dst v d = v ∧ v = .pointer (some ⟨w'.heap.size, 0, none⟩) ∧ w'.heap.size < w''.heap.size) ∨ (j ≠ i ∧ listed.getD j true = true ∧ put e' o.dst v d = e' d) := fun j p d hp hl hpd hz => by
    rw [getD_set_true hli] at hl
    by_cases hij : i = j
    · subst hij
      have : p = o := Option.some.inj (hp.symm.trans hio)
      subst this
      exact .inl ⟨rfl, put_eq hpd, hfr d hpd hz⟩
    · rw [if_neg hij] at hl
      exact .inr ⟨fun e => hij e.symm, hl, put_ne fun hx => hij (hdd i j o p d hio hp hx hpd)⟩
  refine ⟨fun j p d hp hl hpd hz => ?_, fun j k p q d d' hp hq hl hl' hpd hqd hz hz' hne => ?_⟩
  · rcases hget j p d hp hl hpd hz with ⟨_, h1, h2, h3⟩ | ⟨_, h1, h2⟩
    · exact ⟨_, h1.trans h2, h3⟩
    · obtain ⟨g, hg, hlt⟩ := I.ptr j p d hp h1 hpd hz
      exact ⟨g, h2.trans hg, by omega⟩
  · rcases hget j p d hp hl hpd hz with ⟨a0, a1, a2, a3⟩ | ⟨a0, a1, a2⟩ <;> rcases hget k q d' hq hl' hqd hz' with ⟨b0, b1, b2, b3⟩ | ⟨b0, b1, b2⟩
    · subst a0; subst b0
      have : p = q := Option.some.inj (hp.symm.trans hq)
      subst this
      exact absurd (Option.some.inj (hpd.symm.trans hqd)) hne
    · obtain ⟨g, hg, hlt⟩ := I.ptr k q d' hq b1 hqd hz'
      rw [a1, b2, a2, hg]
      intro h; injection h with h; injection h with h; injection h with h; omega
    · obtain ⟨g, hg, hlt⟩ := I.ptr j p d hp a1 hpd hz
      rw [b1, a2, b2, hg]
      intro h; injection h with h; injection h with h; injection h with h; omega
    · rw [a2, b2]; exact I.ne j k p q d d' hp hq a1 b1 hpd hqd hz hz' hne
theorem draw_anyF {ops : List Oper} {m : Nat} {fl : List Bool} {l : List (Nat × SpecR R)} {e : Env} {w : World} {Q : Exit → Act → World → Prop} (hR : Pre R) (hf : FlOk ops m fl) (hdr : drawOk ops.toArray = true) (hd : ops.all (dokO n) = true) (hm : m < ops.length)
    (steps : ∀ i o, ops[i]? = some o → i < m → StepG P ops.toArray R l e w o) {Z : List Nat} (hz : ZOk ops m Z) (hsz : ∀ w w', R w w' → w.heap.size ≤ w'.heap.size) {K : Env → World → Prop}
    (hL : ∀ e' w', R w w' → (∀ i o t, ops[i]? = some o → i < m → o.dst = some t → (look l t).1 (e' t) w') → (∀ t, (∀ i o, ops[i]? = some o → i < m → o.dst ≠ some t) → e' t = e t) → (∀ d d', d ∈ Z → d' ∈ Z → d ≠ d' → e' d ≠ e' d') → WL P ops.toArray K (ops.drop m) e' w')
    (hQ : ∀ a e' w', Rel n a e' → (∀ t, isDst ops.toArray t = false → e' t = e t) → K e' w' → Q .normal a w') :
    ∀ (fuel : Nat) (listed : Array Bool) (a : Act) (e' : Env) (w' : World), (∀ i, m ≤ i → i < ops.length → listed.getD i true = false) → ops.length ≤ fuel + (List.range ops.length).countP (fun i => listed.getD i true) → DInv ops.toArray n R l e w listed a e' w' → ZInv ops Z listed e' w' → wpAny P .any ops.toArray Q fuel listed a w' := by
  have hok := DOk.of hdr
  intro fuel
  induction fuel with
  | zero =>
    intro listed a e' w' hml hcnt I IZ
    have hle : (List.range ops.length).countP (fun i => listed.getD i true) = (List.range ops.length).length := by
      have := List.countP_le_length (p := fun i => listed.getD i true) (l := List.range ops.length)
      simp only [List.length_range] at this ⊢; omega
    rw [List.countP_eq_length] at hle
    have := hle m (List.mem_range.2 hm)
    rw [hml m (Nat.le_refl _) hm] at this; cases this
  | succ fuel ih =>
    intro listed a e' w' hml hcnt I IZ
    have hsl : listed.size = ops.length := by rw [I.size]; simp
    refine ⟨fun hnil => ?_, fun i hi => ?_⟩
    · have := ready_min hok I.size hnil m (by simpa using hm)
      rw [hml m (Nat.le_refl _) hm] at this; cases this
    obtain ⟨hlt, hnl, haf'⟩ := ready_iff hi
    have hlt' : i < ops.length := by simpa using hlt
    obtain ⟨o, ho⟩ : ∃ o, o = ops[i] := ⟨_, rfl⟩
    have hio : ops[i]? = some o := by rw [ho]; exact List.getElem?_eq_getElem hlt'
    have hio2 : ops.toArray[i]? = some o := by simpa using hio
    have haf : ∀ x ∈ o.after, Region.binds .any x = true → listed.getD x.on false = true := fun x hx hb => haf' x (by rw [ho] at hx; simpa using hx) hb
    by_cases him : m ≤ i
    · have hall : ∀ j, j < i → fl[j]? = some false → listed.getD j true = true := fun j hj hfj => by
        have := anc_ready I.size I.closed (hf.anc i j hlt' him hj hfj) (fun q hq x hx hb => by
          rw [hio2] at hq; cases hq; exact haf x hx hb)
        rwa [ft (by omega)] at this
      obtain ⟨ek, g1, g2, g3, g4⟩ := complete hR hf hdr hd (Nat.le_of_lt hm) steps m 0 listed a e' w' (by omega) I (fun i hi => by omega) (fun j hj hfj => hall j (by omega) hfj) hml
      refine (tailF_any (e0 := e) hf hdr hd hQ (fuel + 1) m listed a e' w' ek (Nat.le_refl _) (Nat.le_of_lt hm) hcnt ⟨hsl, I.rel, fun j hj hfj => ?_, I.closed, fun t ht => I.old t fun j o ho _ => isDst_false ht j o ho, g3, g4⟩ (hL ek w' I.world g1 g2 fun d d' hd hd' hne => ?_)).2 i hi
      · by_cases hjm : j < m
        · rw [hall j (by omega) hfj]; exact (decide_eq_true hjm).symm
        · rw [hml j (by omega) hj]; exact (decide_eq_false hjm).symm
      · have key : ∀ d ∈ Z, ∃ (j : Nat) (p : Oper), ops[j]? = some p ∧ p.dst = some d ∧ listed.getD j true = true ∧ e' d = ek d := fun d hd => by
          obtain ⟨j, p, hp, hpd⟩ := hz.ex d hd
          obtain ⟨hjm, ⟨T, hT⟩, _⟩ := hz.op j p d hp hpd hd
          have hnf : ∀ (k : Nat) (q : Oper), ops[k]? = some q → fl[k]? = some true → q.dst ≠ some d := fun k q hq hfk hqd => by
            have : k = j := by
              rcases Nat.decEq k j with h | h
              · exact absurd hpd (hok.one k j q p d (by simpa using hq) (by simpa using hp) h hqd)
              · exact h
            subst this
            have : q = p := Option.some.inj (hq.symm.trans hp)
            subst this
            have := (hf.ok k q hq hfk).2.1
            unfold pureO at this
            rw [hT] at this; cases this
          refine ⟨j, p, hp, hpd, hall j (by omega) ?_, g3 d fun k q hq hfk _ => hnf k q hq hfk⟩
          have hl : j < fl.length := by rw [hf.len]; exact (List.getElem?_eq_some_iff.1 hp).1
          rw [List.getElem?_eq_getElem hl]
          cases hb : fl[j] with
          | false => rfl
          | true => exact absurd hpd (hnf j p hp (by rw [List.getElem?_eq_getElem hl, hb]))
        obtain ⟨j, p, hp, hpd, hl, he⟩ := key d hd
        obtain ⟨k, q, hq, hqd, hl', he'⟩ := key d' hd'
        rw [← he, ← he']
        exact IZ.ne j k p q d d' hp hq hl hl' hpd hqd hd hd' hne
    have him' : i < m := by omega
    have hmem : o ∈ ops := List.mem_of_getElem? hio
    obtain ⟨hp1, hp2⟩ := step_pre hok I hio hnl haf
    have hstep : WG P ops.toArray o e' w' fun v w'' => (R w' w'' ∧ ∀ d, o.dst = some d → (look l d).1 v w'') ∧ ∀ d, o.dst = some d → d ∈ Z → v = .pointer (some ⟨w'.heap.size, 0, none⟩) ∧ w'.heap.size < w''.heap.size := by
      have hs := steps i o hio him' e' w' I.world hp1 hp2
      by_cases hZ : ∃ d, o.dst = some d ∧ d ∈ Z
      · obtain ⟨d, hd1, hd2⟩ := hZ
        obtain ⟨_, h1, h2⟩ := hz.op i o d hio hd1 hd2
        exact WG_mono (fun v w'' ⟨a, b⟩ => ⟨a, fun _ _ _ => b⟩) (WG_of_wg (alloc_fresh h1 h2 hs))
      · exact WG_mono (fun v w'' a => ⟨a, fun d h1 h2 => absurd ⟨d, h1, h2⟩ hZ⟩) (WG_of_wg hs)
    have hli : i < listed.size := by omega
    have hcount := count_set hsl hlt' hnl hcnt
    have hnext : ∀ v w'', (R w' w'' ∧ ∀ d, o.dst = some d → (look l d).1 v w'') ∧ (∀ d, o.dst = some d → d ∈ Z → v = .pointer (some ⟨w'.heap.size, 0, none⟩) ∧ w'.heap.size < w''.heap.size) → wpAny P .any ops.toArray Q fuel (listed.setIfInBounds i true) (a.put o.dst v) w'' := fun v w'' ⟨⟨hr, hv⟩, hfr⟩ =>
      ih _ _ (put e' o.dst v) w'' (fun j hj hjs => by rw [getD_set_true hli, if_neg (by omega)]; exact hml j hj hjs) hcount (I.step hR hok hd hio haf hr hv) (IZ.step hok hio hli (hsz _ _ hr) hfr)
    unfold wpOp
    simp only [hio2]
    rw [want_eq I.rel (by simpa using hd)]
    unfold WG at hstep
    split
    · rename_i hw
      rw [if_pos hw] at hstep
      exact .inl (wp_of_WO I.rel hstep fun v w'' h1 => hnext v w'' h1)
    · rename_i hw
      rw [if_neg hw] at hstep
      exact hnext _ _ hstep
theorem W_dF {id : Nat} {ops : List Oper} {Q : Exit → Env → World → Prop} {e : Env} {w : World} (lc : Bool) (hm : P.follows .mixedOrders = true) (hR : Pre R) (hld : lc = true → ∀ w w', R w w' → Ext w w') (mask : List Bool) (l : List (Nat × SpecR R)) (m : Nat) (fl : List Bool) (Z : List Nat) (hsz : ∀ w w', R w w' → w.heap.size ≤ w'.heap.size)
    (hok : ((decide (m < ops.length) && drawOk ops.toArray && flOk ops m fl && zOk ops m Z) && (maskOk lc ops mask && (mask.drop m).all fun b => !b)) = true)
    (h : ∀ K : Env → Prop, (∀ es, (StepsL P ops R mask l es w (selL mask (ops.take m)) ∧
      (∀ e' w', R w w' → (∀ t, lateT mask (ops.take m) t = true → (look l t).1 (e' t) w') → (∀ t, lateT mask (ops.take m) t = false → e' t = es t) → (∀ d d', d ∈ Z → d' ∈ Z → d ≠ d' → e' d ≠ e' d') → WLo P ops.toArray (Q .normal) (ops.drop m) e' w')) → K es) → WLm P ops.toArray K mask ops e w) :
    W P n (.region id ops.toArray true) Q e w := by
  rw [Bool.and_eq_true] at hok
  obtain ⟨hok1, hmk'⟩ := hok
  rw [Bool.and_eq_true] at hmk'
  obtain ⟨hmk, hlast⟩ := hmk'
  rw [Bool.and_eq_true, Bool.and_eq_true, Bool.and_eq_true, decide_eq_true_eq] at hok1
  obtain ⟨⟨⟨hml, hdr⟩, hfl⟩, hzz⟩ := hok1
  have hf := FlOk.of hfl
  obtain ⟨es, ⟨hst, hL⟩, h2, hdis, h3⟩ := early_stepsG (l := l) (K := fun es => StepsL P ops R mask l es w (selL mask (ops.take m)) ∧
      (∀ e' w', R w w' → (∀ t, lateT mask (ops.take m) t = true → (look l t).1 (e' t) w') → (∀ t, lateT mask (ops.take m) t = false → e' t = es t) → (∀ d d', d ∈ Z → d' ∈ Z → d ≠ d' → e' d ≠ e' d') → WLo P ops.toArray (Q .normal) (ops.drop m) e' w'))
    hR hld hdr hmk (h _ fun _ h => h)
  have hlen : mask.length = ops.length := by
    unfold maskOk at hmk; rw [Bool.and_eq_true] at hmk; exact Nat.eq_of_beq_eq_true hmk.1
  have hdl : ∀ (i : Nat) (o : Oper), (ops.take m)[i]? = some o → ops[i]? = some o ∧ i < m := fun i o hi => by
    rw [List.getElem?_take] at hi
    split at hi
    · exact ⟨hi, ‹_›⟩
    · cases hi
  have hdr2 : ∀ (i : Nat) (o : Oper), ops[i]? = some o → i < m → (ops.take m)[i]? = some o := fun i o hi hlt => by
    rw [List.getElem?_take, if_pos hlt]; exact hi
  have hmb : ∀ (i : Nat), i < ops.length → mask[i]? = some true ∨ mask[i]? = some false := fun i hi => by
    rw [List.getElem?_eq_getElem (by omega)]
    cases mask[i] <;> simp
  have hmt : ∀ (i : Nat), mask[i]? = some true → i < ops.length → i < m := fun i hi hlt => by
    rcases Nat.lt_or_ge i m with h | h
    · exact h
    · rw [List.all_eq_true] at hlast
      have hmem : true ∈ mask.drop m := by
        refine List.mem_of_getElem? (i := i - m) ?_
        rw [List.getElem?_drop, show m + (i - m) = i by omega]; exact hi
      have := hlast _ hmem
      simp at this
  intro hd a hr
  have hd' : ops.all (dokO n) = true := hd
  have hst' : ∀ i o, ops[i]? = some o → i < m → StepG P ops.toArray R (lookE mask ops es l) e { w with drawn := w.drawn + 1 } o := fun i o ho hi e' w' hw h1 h2 =>
    h3 i o ho (fun hmi => hst.get o (selL_mem (hdr2 i o ho hi) hmi)) e' w' (hR.trans (hR.drew w _) hw) h1 h2
  refine wp_region_any hm (draw_anyF (n := n) (e := e) (K := Q .normal) hR hf hdr hd' hml hst' (ZOk.of hzz) hsz ?_ ?_ ops.toArray.size _ a e _ ?_ (by simp) ⟨by simp, hr, hR.refl _, ?_, fun _ _ => rfl, ?_⟩ ⟨fun i o d ho hl => ?_, fun i j o p d d' ho hp hl => ?_⟩)
  · intro e' w' hw hs ho hzn
    refine WL_of_WLo _ _ _ (hL e' w' (hR.trans (hR.drew w _) hw) (fun t ht => ?_) (fun t ht => ?_) hzn)
    · obtain ⟨i, o, hi, hmi, hd⟩ := late_iff.1 ht
      have := hs i o t (hdl i o hi).1 (hdl i o hi).2 hd
      have hne : t ∉ earlyS mask ops := fun hm => by
        have := hdis t hm
        rw [late_iff.2 ⟨i, o, (hdl i o hi).1, hmi, hd⟩] at this; cases this
      unfold lookE at this
      rw [look_app, if_neg hne] at this
      exact this
    · by_cases hte : t ∈ earlyS mask ops
      · obtain ⟨i, o, hi, hmi, hd⟩ := early_mem.1 hte
        have := hs i o t hi (hmt i hmi (List.getElem?_eq_some_iff.1 hi).1) hd
        unfold lookE at this
        rw [look_app, if_pos hte] at this
        exact this
      · rw [h2 t hte]
        refine ho t fun i o hi hlt hd => ?_
        rcases hmb i (List.getElem?_eq_some_iff.1 hi).1 with hmi | hmi
        · exact hte (early_mem.2 ⟨i, o, hi, hmi, hd⟩)
        · rw [late_iff.2 ⟨i, o, hdr2 i o hi hlt, hmi, hd⟩] at ht; cases ht
  · intro a' e' w' r' h2 h3
    exact ⟨e', r', h2, h3⟩
  · intro i _ hi
    simp [Array.getD_eq_getD_getElem?] at hi ⊢
    simp [hi]
  · intro i o d ho hl
    have hlt := (Array.getElem?_eq_some_iff.1 ho).1
    simp at hlt
    simp [Array.getD_eq_getD_getElem?, hlt] at hl
  · intro i o x ho hl
    have hlt := (Array.getElem?_eq_some_iff.1 ho).1
    simp at hlt
    simp [Array.getD_eq_getD_getElem?, hlt] at hl
  · have hlt := (List.getElem?_eq_some_iff.1 ho).1
    simp [Array.getD_eq_getD_getElem?, hlt] at hl
  · have hlt := (List.getElem?_eq_some_iff.1 ho).1
    simp [Array.getD_eq_getD_getElem?, hlt] at hl
end
end Go.E
end
section
namespace Go.E
open Go
def fA (T N0 : Nat) (cs : Array Value) : Fam := ⟨fun D v w => ∃ g, v = .pointer (some ⟨g, 0, none⟩) ∧ N0 ≤ g ∧ D g ∧ Blk w g T cs, fun k ⟨g, e, h, hd, hb⟩ => ⟨g, e, h, hd, hb.kp k hd⟩, fun k ⟨g, e, h, hd, hb⟩ => ⟨g, e, h, k g hb.lt hd, hb⟩⟩
end Go.E
namespace Go.Proofs.YtjamnehcmaloeaaGreatDoor
open Go Go.E Go.Sp
theorem U32.nz {w : World} {D : Nat → Prop} {L : List Nat} {A : Option Addr} {n c g t : Nat} {l : List Nat} {cs : Array Value} (h : U32 w (Dl D L) A n c l) (hb : Blk w g t cs) (hc : ∀ u ∈ cs.toList, ∀ d : Int, u ≠ .int .u32 d) : U32 w (Dl D (g :: L)) A n c l := by
  refine ⟨⟨h.1.cap, h.1.len, fun hx => ?_⟩, h.2⟩
  obtain ⟨ad, hA, hd, hcell⟩ := h.1.at_ hx
  refine ⟨ad, hA, ⟨hd.1, fun hm => ?_⟩, hcell⟩
  rcases List.mem_cons.1 hm with e | hm
  · obtain ⟨x, hx0⟩ : ∃ x, (l.map u32v)[0]? = some x := ⟨_, List.getElem?_eq_getElem hx⟩
    have h1 := hcell 0 x hx0
    have h2 : ∃ d : Int, x = .int .u32 d := by
      rw [List.getElem?_map] at hx0
      cases hl : l[0]? with
      | none => rw [hl] at hx0; cases hx0
      | some d => rw [hl] at hx0; exact ⟨_, (Option.some.inj hx0).symm⟩
    obtain ⟨d, rfl⟩ := h2
    have h3 : w.heap[g]? = some (.cells cs t (0, 0)) := hb
    have h4 : (ad.add 0).block = g := e
    unfold World.cell? at h1
    rw [h4, h3] at h1
    simp only at h1
    split at h1
    · cases h1
    · exact hc _ (Array.mem_toList_iff.2 (Array.mem_of_getElem? h1)) d rfl
  · exact hd.2 hm
end Go.Proofs.YtjamnehcmaloeaaGreatDoor
namespace Go.E
open Go Go.Proofs.YtjamnehcmaloeaaGreatDoor Go.Sp
theorem In.nzB {w : World} {D : Nat → Prop} {L : List Nat} {g t : Nat} {z : Int} {v : Value} {cs : Array Value} (h : In (fB z) (Dl D L) v w) (hb : Blk w g t cs) (hc : ∀ u ∈ cs.toList, ∀ d : Int, u ≠ .int .u32 d) : In (fB z) (Dl D (g :: L)) v w := by
  obtain ⟨s, A, n, c, rfl, h1, h2⟩ := h
  exact ⟨s, A, n, c, rfl, h1, h2.nz hb hc⟩
theorem In.nzV {w : World} {D : Nat → Prop} {L : List Nat} {g t : Nat} {z : Int} {v : Value} {cs : Array Value} (h : In (fV z) (Dl D L) v w) (hb : Blk w g t cs) (hc : ∀ u ∈ cs.toList, ∀ d : Int, u ≠ .int .u32 d) : In (fV z) (Dl D (g :: L)) v w := by
  obtain ⟨s, A, n, c, rfl, ⟨h1, h2⟩, h3⟩ := h
  exact ⟨s, A, n, c, rfl, ⟨h1, h2.nz hb hc⟩, h3⟩
end Go.E
namespace Go.E
open Go
theorem retS3b {P : Program} {fn : Func} {R : Ending → World → Prop} {e : Env} {w : World} {a T t g k u u' : Nat} {v : Value} (h : fn.results = #[.cell a T, .tmp u, .tmp u']) (he : e a = .pointer (some ⟨g, 0, none⟩)) (hk : aggOf P T = some (some k)) (hb : Blk w g t v.cells) (hv : Shp k v) (hR : R (.returned (.tuple #[v, e u, e u'])) w) : retP P fn R .ret e w :=
  retC3 h (resV_S he hk hb hv) rfl rfl hR
end Go.E
namespace Go.Sp
open Go.E
def hf (q k : Nat) (inx : Bool) : Int := if (((q % 2 ^ k : Nat) : Int) - 2 ^ (k - 1)).sign = 0 ∧ inx = true then 1 else (((q % 2 ^ k : Nat) : Int) - 2 ^ (k - 1)).sign
end Go.Sp
namespace Go.Proofs.YtjamnehcmaloeaaGreatDoor
open Go Go.E Go.Sp
def fRe (neg : Bool) (q : Nat) (e : Int) (inx : Bool) : Fam := ⟨fun D v w => ∃ A n c, v = .agg #[.bool neg, .bool false, .slice A n c, .int .i64 e, .bool inx] ∧ Big w D false A n c (q : Nat), fun k ⟨A, n, c, e, h⟩ => ⟨A, n, c, e, h.kp k⟩, fun k ⟨A, n, c, e, h⟩ => ⟨A, n, c, e, h.sub k⟩⟩
section
variable {D : Nat → Prop} {v : Value} {w : World} {neg inx : Bool} {q : Nat} {e : Int} {A : Option Addr} {n c : Nat}
theorem fRe_s (h : In (fRe neg q e inx) D v w) : Shp 5 v := by obtain ⟨A, n, c, rfl, _⟩ := h; exact ⟨_, rfl, rfl, rfl⟩
theorem _root_.Go.E.In.reB (h : In (fRe neg q e inx) D (.agg #[.bool neg, .bool false, .slice A n c, .int .i64 e, .bool inx]) w) : In (fB (q : Nat)) D (.agg #[.bool false, .slice A n c]) w := by
  obtain ⟨_, _, _, e, h⟩ := h; cases e; exact h.in
theorem _root_.Go.E.In.re (h : In (fB (q : Nat)) D (.agg #[.bool false, .slice A n c]) w) : In (fRe neg q e inx) D (.agg #[.bool neg, .bool false, .slice A n c, .int .i64 e, .bool inx]) w := ⟨A, n, c, rfl, h.big⟩
theorem log2_v (h : In (fRe neg q e inx) D v w) (hb : bl q ≤ 1000000) (he1 : -1000000 ≤ e) (he2 : e ≤ 1000000) : Calls Tryz.prog 207 #[v] w fun x w' => x = .returned (.int .i64 (e + bl q - 1)) ∧ Ext w w' := by
  obtain ⟨A, n, c, rfl, _⟩ := id h
  have hm := h.reB
  refine calls_W Tryz.func207 rfl Tryz.ntmps207 (by kernel_rfl) ?_
  refine W_seq_reg fun K hK => ?_
  simp -implicitDefEqProofs (disch := omega) only [go_sem, Nat.reduceEqDiff, Nat.reduceAdd, ↓reduceIte]
  refine boxW_of ?_
  intro g1 w1 hg1 hx1 hb1 hs1
  refine hK _ _ ?_; clear hK K
  have hx : Ext w w1 := hx1
  replace h := h.ext hx
  replace hm := hm.ext hx
  clear hx1
  have e1 : IntKind.i64.wrap (e + ((bl q : Nat) : Int)) = e + (bl q : Nat) := i64_in (by omega) (by omega)
  have e2 : IntKind.i64.wrap (e + ((bl q : Nat) : Int) - 1) = e + (bl q : Nat) - 1 := i64_in (by omega) (by omega)
  refine W_seq_k fun K hK => ?_
  refine W_dC mixed (Kp (fun k => k ∉ ([] : List Nat))) (fun _ _ => False) (Kp.pre _) [true, true, true, true, false, false, false, false] [false, false, false, false, false, false, false, false] [1, 1, 1, 1, 0, 1, 1, 1] (by kernel_rfl) ?_
  apply Exists.intro
  refine ⟨fun wE hE KE hKE => ?_, fun wE hE KE hKE => ?_, fun wE hxE hr => ?_⟩
  · skip
    replace hE := Kp.all hE
    replace hb1 := hb1.ext hE
    replace h := h.ext hE
    replace hm := hm.ext hE
    simp -implicitDefEqProofs (disch := omega) only [go_sem, Nat.reduceEqDiff, Nat.reduceAdd, ↓reduceIte, hb1.c1, hb1.c2, hb1.c3, e1, e2]
    exact hKE
  · exact hE.elim
  simp only [selP_t, selP_f, selP_n]
  replace h := h.ext hxE
  replace hm := hm.ext hxE
  replace hb1 := hb1.ext hxE
  replace hx := hx.trans hxE
  simp -implicitDefEqProofs (disch := omega) only [go_sem, Nat.reduceEqDiff, Nat.reduceAdd, ↓reduceIte, List.toList_toArray, hb1.c1, hb1.c2, hb1.c3, e1, e2]
  refine callW_of cal213 (iBitLen_v hm (by rw [Int.natAbs_natCast]; omega)) ?_
  rintro _ w2 ⟨rfl, hx2⟩; refine ⟨_, rfl, ?_⟩
  replace h := h.ext hx2
  replace hm := hm.ext hx2
  replace hb1 := hb1.ext hx2
  replace hx := hx.trans hx2
  replace hr := hr.trans (Kp.of_ext hx2)
  clear hx2
  refine ⟨hr, ?_⟩
  rw [Int.natAbs_natCast]
  simp -implicitDefEqProofs (disch := omega) only [go_sem, Nat.reduceEqDiff, Nat.reduceAdd, ↓reduceIte, e1, e2]
  refine hK _ _ ?_; clear hK
  refine W_ret ?_
  try simp only [thenE_r, inB_r]
  refine ret1 rfl ⟨(by (try simp only [upd_ap, Nat.reduceEqDiff, ↓reduceIte]); first | done | assumption | exact rfl), hx⟩
end
theorem cut_v {D : Nat → Prop} {v : Value} {w : World} {neg inx : Bool} {q k : Nat} {e : Int} (h : In (fRe neg q e inx) D v w) (hq : q ≠ 0) (hb : bl q ≤ 1000000) (hk : 0 < k) (hk2 : k ≤ 5000000) (hf : Fr D w) :
    Calls Tryz.prog 246 #[v, .int .i64 k] w (Rt (fP3 (fB (q / 2 ^ k : Nat)) (fc (.int .i64 (Go.Sp.hf q k inx))) (fc (.bool (decide (q % 2 ^ k = 0) && !inx)))) D w) := by
  obtain ⟨A, n, c, rfl, _⟩ := id h
  have hm := h.reB
  refine calls_W Tryz.func246 rfl Tryz.ntmps246 (by kernel_rfl) ?_
  refine W_seq_reg fun K hK => ?_
  simp -implicitDefEqProofs (disch := omega) only [go_sem, Nat.reduceEqDiff, Nat.reduceAdd, ↓reduceIte]
  refine boxW_of ?_
  intro g2 w2 hg2 hx2 hb2 hs2
  refine alW_of ?_
  intro g4 w4 hg4 hx4 hb4 hs4
  refine hK _ _ ?_; clear hK K
  have hx : Ext w w4 := (hx2.trans hx4)
  replace hb2 := (hb2.ext hx4)
  replace hm := (hm.nL (L := [g2, g4]) (by intro g hg; simp at hg; omega)).ext hx
  have hD : Fr (Dl D [g2, g4]) w4 := hf.nL hx (by intro g hg; simp at hg; omega)
  clear hx2 hx4
  refine W_seq_reg fun K hK => ?_
  simp -implicitDefEqProofs (disch := omega) only [go_sem, Nat.reduceEqDiff, Nat.reduceAdd, ↓reduceIte, hb2.c1, hb2.c2]
  refine callW_of cal213 (iBitLen_v hm (by rw [Int.natAbs_natCast]; omega)) ?_
  rintro _ w7 ⟨rfl, hx7⟩; refine ⟨_, rfl, ?_⟩
  replace hm := hm.ext hx7
  replace hb2 := hb2.ext hx7
  replace hb4 := hb4.ext hx7
  replace hD := hD.kp hx7
  replace hx := hx.trans hx7
  clear hx7
  rw [Int.natAbs_natCast]
  refine hK _ _ ?_; clear hK
  refine W_seq_k fun K0 hK0 => ?_
  by_cases hkb : bl q < k
  · have q1 : ((k : Int) > (bl q : Nat)) := by omega
    refine W_seq_reg fun K hK => ?_
    simp -implicitDefEqProofs (disch := omega) only [go_sem, Nat.reduceEqDiff, Nat.reduceAdd, ↓reduceIte, q1]
    refine hK _ _ ?_; clear hK K
    refine W_cond rfl (fun hc => ?_) (fun hc => by cases hc)
    have hqp := bl_lt q
    have hp1 : 2 ^ bl q ≤ 2 ^ (k - 1) := Nat.pow_le_pow_right (by omega) (by omega)
    have hp2 : 2 ^ (k - 1) ≤ 2 ^ k := Nat.pow_le_pow_right (by omega) (by omega)
    have hmod : q % 2 ^ k = q := Nat.mod_eq_of_lt (by omega)
    have hdiv : q / 2 ^ k = 0 := Nat.div_eq_of_lt (by omega)
    have hhf : Go.Sp.hf q k inx = -1 := by
      unfold Go.Sp.hf
      have : (((q % 2 ^ k : Nat) : Int) - 2 ^ (k - 1)).sign = -1 := by
        refine Int.sign_eq_neg_one_of_neg ?_
        rw [hmod, ← pow_cast]; omega
      rw [this]; simp
    have hex : (decide (q % 2 ^ k = 0) && !inx) = false := by rw [hmod, decide_eq_false hq]; rfl
    rw [hdiv, hhf, hex]
    have h0 : In (fB ((0 : Nat) : Int)) (Dl D [g2, g4]) (.agg #[.bool false, .slice none 0 0]) w7 := Big.in ⟨rfl, U32.nil⟩
    refine W_seq_reg fun K hK => ?_
    simp -implicitDefEqProofs (disch := omega) only [go_sem, Nat.reduceEqDiff, Nat.reduceAdd, ↓reduceIte]
    refine storeW_of hb4 siz35 rfl rfl fun w9 hk9 hz9 => ?_
    replace hm := hm.ow hk9 (by simp)
    replace h0 := h0.ow hk9 (by simp)
    replace hb2 := hb2.kpne hk9 (by omega)
    replace hD := hD.ow hk9
    replace hx := hx.under hk9 (fun k hk => by omega)
    clear hb4 hk9
    have hb4 := hz9; clear hz9
    refine hK _ _ ?_; clear hK
    refine W_ret ?_
    exact retS3b rfl (by (try simp only [upd_ap, Nat.reduceEqDiff, ↓reduceIte]); first | done | assumption | exact rfl) agg35 hb4 (fB_s h0) ⟨_, rfl, hx, ⟨_, _, _, rfl, h0.ul, (by (try simp only [upd_ap, Nat.reduceEqDiff, ↓reduceIte]); first | done | assumption | exact rfl), (by (try simp only [upd_ap, Nat.reduceEqDiff, ↓reduceIte]); first | done | assumption | exact rfl)⟩⟩
  · have q1 : ¬ ((k : Int) > (bl q : Nat)) := by omega
    refine W_seq_reg fun K hK => ?_
    simp -implicitDefEqProofs (disch := omega) only [go_sem, Nat.reduceEqDiff, Nat.reduceAdd, ↓reduceIte, q1]
    refine hK _ _ ?_; clear hK K
    refine W_cond rfl (fun hc => by cases hc) (fun hc => W_skip (hK0 _ _ ?_))
    clear hK0
    refine W_seq_reg fun K hK => ?_
    simp -implicitDefEqProofs (disch := omega) only [go_sem, Nat.reduceEqDiff, Nat.reduceAdd, ↓reduceIte, hb2.c1, hb2.c2]
    refine callW_of cal244 (iRight_v hm (by rw [Int.natAbs_natCast]; omega) (by omega) hD) ?_
    rintro _ w28 ⟨v28, rfl, hx28, h28⟩; refine ⟨_, rfl, ?_⟩
    replace hm := hm.ext hx28
    replace hb2 := hb2.ext hx28
    replace hb4 := hb4.ext hx28
    replace hD := hD.kp hx28
    replace hx := hx.trans hx28
    clear hx28
    have hsh : shI ((q : Nat) : Int) (-(k : Int)) = ((q / 2 ^ k : Nat) : Int) := by
      unfold shI; rw [if_neg (by omega), show (- -(k : Int)).toNat = k by omega, ← pow_cast]; rfl
    rw [hsh] at h28
    obtain ⟨s28, A28, n28, c28, rfl, _⟩ := id h28
    refine storeW_of hb4 siz35 rfl rfl fun w9 hk9 hz9 => ?_
    replace hm := hm.ow hk9 (by simp)
    replace h28 := h28.ow hk9 (by simp)
    replace hb2 := hb2.kpne hk9 (by omega)
    replace hD := hD.ow hk9
    replace hx := hx.under hk9 (fun k hk => by omega)
    clear hb4 hk9
    have hb4 := hz9; clear hz9
    refine hK _ _ ?_; clear hK
    have hlt_hb2 := hb2.lt
    have hlt_hb4 := hb4.lt
    have hql : bl (q / 2 ^ k) ≤ 1000000 := Nat.le_trans (bl_mono (Nat.div_le_self _ _)) hb
    have hsl : shI ((q / 2 ^ k : Nat) : Int) (k : Int) = ((q / 2 ^ k * 2 ^ k : Nat) : Int) := by
      unfold shI; rw [if_pos (by omega), Int.toNat_natCast, ← pow_cast]; simp
    have hbm : bl (q / 2 ^ k * 2 ^ k) ≤ 1000000 := Nat.le_trans (bl_mono (Nat.div_mul_le_self _ _)) hb
    have hrs : ((q : Nat) : Int) - ((q / 2 ^ k * 2 ^ k : Nat) : Int) = ((q % 2 ^ k : Nat) : Int) := by
      have := Nat.div_add_mod q (2 ^ k)
      rw [Nat.mul_comm] at this; omega
    have hbr : bl (q % 2 ^ k) ≤ 1000000 := Nat.le_trans (bl_mono (Nat.mod_le _ _)) hb
    refine W_seq_k fun K hK => ?_
    refine W_dT true mixed (Kp.pre (fun _ => True)) (fun _ _ _ h => h) [true, true, true, true, false, false, false, false] [(24, Fam.S (fB (shI ((q / 2 ^ k : Nat) : Int) (k : Int))) (Dl D [g2, g4])), (25, Fam.S (fB (((q : Nat) : Int) - shI ((q / 2 ^ k : Nat) : Int) (k : Int))) (Dl D [g2, g4])), (8, Fam.S (fA 35 w9.heap.size #[.bool false, .slice none 0 0]) (Dl D [g2, g4]))] 7 (by kernel_rfl) fun KE hKE => ?_
    simp -implicitDefEqProofs (disch := omega) only [go_sem, Nat.reduceEqDiff, Nat.reduceAdd, ↓reduceIte, hb2.c1, hb2.c2, hb4.l2]
    refine hKE _ ⟨?_, fun e' w' hw hs ho => ?_⟩ <;> clear hKE KE
    · refine stepsL_cons (fun e' w' hw hd ho => ?_) ?_
      · skip
        have o22 := ho 22 (by kernel_rfl) (by kernel_rfl)
        have o23 := ho 23 (by kernel_rfl) (by kernel_rfl)
        simp -implicitDefEqProofs (disch := omega) only [go_sem, Nat.reduceEqDiff, Nat.reduceAdd, ↓reduceIte, o22, o23]
        refine callW_of cal215 (iLeft_v (h28.ext hw) (by rw [Int.natAbs_natCast]; omega) (by omega) (by omega) (hD.kp hw)) ?_
        rintro _ w9 ⟨v9, rfl, hx9, h9⟩; refine ⟨_, rfl, ?_⟩
        exact ⟨hx9, fun d hd => by cases hd; exact h9⟩
      refine stepsL_cons (fun e' w' hw hd ho => ?_) ?_
      · skip
        have o21 := ho 21 (by kernel_rfl) (by kernel_rfl)
        have h24 : In (fB (shI ((q / 2 ^ k : Nat) : Int) (k : Int))) (Dl D [g2, g4]) (e' 24) w' := hd 24 (by kernel_rfl) (by kernel_rfl)
        simp -implicitDefEqProofs (disch := omega) only [go_sem, Nat.reduceEqDiff, Nat.reduceAdd, ↓reduceIte, o21]
        refine callW_of cal260 (iSub_v (hm.ext hw) h24 (by rw [Int.natAbs_natCast]; omega) (by rw [hsl, Int.natAbs_natCast]; omega) (hD.kp hw)) ?_
        rintro _ w9 ⟨v9, rfl, hx9, h9⟩; refine ⟨_, rfl, ?_⟩
        exact ⟨hx9, fun d hd => by cases hd; exact h9⟩
      refine stepsL_cons (fun e' w' hw hd ho => ?_) ?_
      · skip
        simp -implicitDefEqProofs (disch := omega) only [go_sem, Nat.reduceEqDiff, Nat.reduceAdd, ↓reduceIte]
        refine alW_of ?_
        intro g9 w9 hg9 hx9 hb9 hs9
        exact ⟨hx9, fun d hd => by cases hd; exact ⟨g9, rfl, by have := hw.size; omega, (hD.kp hw) g9 (by omega), hb9⟩⟩
      exact stepsL_nil
    · have h8 : In (fA 35 w9.heap.size #[.bool false, .slice none 0 0]) (Dl D [g2, g4]) (e' 8) w' := hs 8 (by kernel_rfl)
      have h25 : In (fB (((q : Nat) : Int) - shI ((q / 2 ^ k : Nat) : Int) (k : Int))) (Dl D [g2, g4]) (e' 25) w' := hs 25 (by kernel_rfl)
      have z1 := ho 1 (by kernel_rfl)
      have z2 := ho 2 (by kernel_rfl)
      have z4 := ho 4 (by kernel_rfl)
      clear hs ho
      simp -implicitDefEqProofs only [upd_ap, Nat.reduceEqDiff, ↓reduceIte, env_z, env_s, List.toList_toArray] at z1 z2 z4
      have o1 := z1
      clear z1
      have o2 := z2
      clear z2
      have o4 := z4
      clear z4
      replace hm := hm.ext hw
      replace h28 := h28.ext hw
      replace hb2 := hb2.ext hw
      replace hb4 := hb4.ext hw
      replace hD := hD.kp hw
      replace hx := hx.trans hw
      simp -implicitDefEqProofs (disch := omega) only [List.drop_succ_cons, List.drop_zero, go_sem, Nat.reduceEqDiff, Nat.reduceAdd, ↓reduceIte, o1, o2, o4]
      rw [hsl, hrs] at h25
      obtain ⟨s25, A25, n25, c25, q25, -⟩ := id h25
      rw [q25] at h25
      simp -implicitDefEqProofs (disch := omega) only [go_sem, Nat.reduceEqDiff, Nat.reduceAdd, ↓reduceIte, q25]
      obtain ⟨g8, q8, hgN8, hgD8, hb8⟩ := id h8
      rw [q8] at h8
      first | (replace hm := In.nzB hm hb8 (by simp)) | (replace hm := In.nzV hm hb8 (by simp))
      first | (replace h28 := In.nzB h28 hb8 (by simp)) | (replace h28 := In.nzV h28 hb8 (by simp))
      first | (replace h25 := In.nzB h25 hb8 (by simp)) | (replace h25 := In.nzV h25 hb8 (by simp))
      replace hD := hD.nw (Kp.refl _ _) hb8.lt
      simp -implicitDefEqProofs (disch := omega) only [go_sem, Nat.reduceEqDiff, Nat.reduceAdd, ↓reduceIte, q8]
      refine storeW_of hb8 siz35 rfl rfl fun w10 hk10 hz10 => ?_
      replace hm := hm.ow hk10 (by simp)
      replace h28 := h28.ow hk10 (by simp)
      replace h25 := h25.ow hk10 (by simp)
      replace hb2 := hb2.kpne hk10 (by omega)
      replace hb4 := hb4.kpne hk10 (by omega)
      replace hD := hD.ow hk10
      replace hx := hx.under hk10 (fun k hk => by omega)
      clear hb8 hk10
      have hb8 := hz10; clear hz10
      simp only [thenE_n]
      refine hK _ _ ?_; clear hK K
      have e1 : IntKind.i64.wrap ((k : Int) - 1) = (k : Int) - 1 := i64_in (by omega) (by omega)
      have hs1 : shI 1 ((k : Int) - 1) = (2 : Int) ^ (k - 1) := by
        unfold shI; rw [if_pos (by omega), show ((k : Int) - 1).toNat = k - 1 by omega, Int.one_mul]
      have hb1 : bl ((2 : Int) ^ (k - 1)).natAbs ≤ k := by
        rw [natAbs_pow]; exact bl_le_of (Nat.pow_lt_pow_right (by omega) (by omega))
      refine W_seq_k fun K hK => ?_
      refine W_dC mixed (Kp (fun k => k ∉ ([] : List Nat))) (fun _ _ => False) (Kp.pre _) [true, false, true, true, false, false, false] [false, false, false, false, false, false, false] [1, 0, 1, 1, 0, 1, 1] (by kernel_rfl) ?_
      apply Exists.intro
      refine ⟨fun wE hE KE hKE => ?_, fun wE hE KE hKE => ?_, fun wE hxE hr => ?_⟩
      · skip
        replace hE := Kp.all hE
        replace hb2 := hb2.ext hE
        replace hb4 := hb4.ext hE
        replace hb8 := hb8.ext hE
        replace hm := hm.ext hE
        replace h28 := h28.ext hE
        replace h25 := h25.ext hE
        simp -implicitDefEqProofs (disch := omega) only [go_sem, Nat.reduceEqDiff, Nat.reduceAdd, ↓reduceIte, o1, q8, hb8.l2, e1]
        exact hKE
      · exact hE.elim
      simp only [selP_t, selP_f, selP_n]
      replace hm := hm.ext hxE
      replace h28 := h28.ext hxE
      replace h25 := h25.ext hxE
      replace hb2 := hb2.ext hxE
      replace hb4 := hb4.ext hxE
      replace hb8 := hb8.ext hxE
      replace hD := hD.kp hxE
      replace hx := hx.trans hxE
      simp -implicitDefEqProofs (disch := omega) only [go_sem, Nat.reduceEqDiff, Nat.reduceAdd, ↓reduceIte, List.toList_toArray, o1, q8, hb8.l2, e1]
      refine callW_of cal163 (iFromInt_v (by omega) (by omega) hD) ?_
      rintro _ w11 ⟨v11, rfl, hx11, h11⟩; refine ⟨_, rfl, ?_⟩
      replace hm := hm.ext hx11
      replace h28 := h28.ext hx11
      replace h25 := h25.ext hx11
      replace hb2 := hb2.ext hx11
      replace hb4 := hb4.ext hx11
      replace hb8 := hb8.ext hx11
      replace hD := hD.kp hx11
      replace hx := hx.trans hx11
      replace hr := hr.trans (Kp.of_ext hx11)
      clear hx11
      refine ⟨hr, ?_⟩
      refine callW_of cal215 (iLeft_v h11 (by show bl 1 ≤ _; rw [bl_one]; omega) (by omega) (by omega) hD) ?_
      rintro _ w12 ⟨v12, rfl, hx12, h12⟩; refine ⟨_, rfl, ?_⟩
      replace hm := hm.ext hx12
      replace h28 := h28.ext hx12
      replace h25 := h25.ext hx12
      replace h11 := h11.ext hx12
      replace hb2 := hb2.ext hx12
      replace hb4 := hb4.ext hx12
      replace hb8 := hb8.ext hx12
      replace hD := hD.kp hx12
      replace hx := hx.trans hx12
      replace hr := hr.trans (Kp.of_ext hx12)
      clear hx12
      refine ⟨hr, ?_⟩
      rw [hs1] at h12
      refine callW_of cal261 (iCmp_v h25 h12 (by rw [Int.natAbs_natCast]; omega) (by omega)) ?_
      rintro _ w13 ⟨rfl, hx13⟩; refine ⟨_, rfl, ?_⟩
      replace hm := hm.ext hx13
      replace h28 := h28.ext hx13
      replace h25 := h25.ext hx13
      replace h11 := h11.ext hx13
      replace h12 := h12.ext hx13
      replace hb2 := hb2.ext hx13
      replace hb4 := hb4.ext hx13
      replace hb8 := hb8.ext hx13
      replace hD := hD.kp hx13
      replace hx := hx.trans hx13
      clear hx13
      simp only [thenE_n]
      refine hK _ _ ?_; clear hK K
      obtain ⟨S, hS⟩ : ∃ S, S = (((q % 2 ^ k : Nat) : Int) - 2 ^ (k - 1)).sign := ⟨_, rfl⟩
      rw [← hS]
      have hhf : Go.Sp.hf q k inx = if S = 0 ∧ inx = true then 1 else S := by unfold Go.Sp.hf; rw [← hS]
      refine W_seq_k fun K0 hK0 => ?_
      have main : ∀ e1 : Env, e1 2 = .pointer (some ⟨g2, 0, none⟩) → e1 4 = .pointer (some ⟨g4, 0, none⟩) → e1 8 = .pointer (some ⟨g8, 0, none⟩) → e1 5 = .int .i64 (Go.Sp.hf q k inx) → K0 e1 w13 := by
        intro e1 k2 k4 k8 k5
        refine hK0 _ _ ?_; clear hK0
        have sE : (((q % 2 ^ k : Nat) : Int).sign == 0) = decide (q % 2 ^ k = 0) := by
          by_cases h0 : q % 2 ^ k = 0
          · rw [h0]; rfl
          · rw [decide_eq_false h0, beq_eq_false_iff_ne]
            intro h; exact h0 (by have := Int.sign_eq_zero_iff_zero.1 h; omega)
        by_cases h0 : q % 2 ^ k = 0
        · rw [decide_eq_true h0, Bool.true_and]
          rw [decide_eq_true h0] at sE
          refine W_seq_k fun K hK => ?_
          refine W_dP true mixed (Kp.pre (fun _ => True)) (fun _ _ _ h => h) [true, true, true, false, false, false, false, false, false, false, false, false, false] [(41, Fam.S (fc (.int .i64 (((q % 2 ^ k : Nat) : Int).sign))) (Dl D [g8, g2, g4])), (42, Fam.S (fc (.bool true)) (Dl D [g8, g2, g4])), (43, Fam.S (fc (.bool true)) (Dl D [g8, g2, g4])), (44, Fam.S (fc (.pointer (some ⟨g2, 4, none⟩))) (Dl D [g8, g2, g4])), (45, Fam.S (fc (.bool inx)) (Dl D [g8, g2, g4])), (46, Fam.S (fc (.bool !inx)) (Dl D [g8, g2, g4])), (47, Fam.S (fc (.bool !inx)) (Dl D [g8, g2, g4])), (5, Fam.S (fc (.int .i64 (Go.Sp.hf q k inx))) (Dl D [g8, g2, g4])), (6, Fam.S (fc (.bool !inx)) (Dl D [g8, g2, g4]))] (by kernel_rfl) fun KE hKE => ?_
          simp -implicitDefEqProofs (disch := omega) only [go_sem, Nat.reduceEqDiff, Nat.reduceAdd, ↓reduceIte, k2, k4, k8, k5, hb4.l2, hb8.l2]
          refine hKE _ ⟨?_, fun e' w' hw hs ho => ?_⟩ <;> clear hKE KE
          · refine stepsL_cons (fun e' w' hw hd ho => ?_) ?_
            · skip
              have o40 := ho 40 (by kernel_rfl) (by kernel_rfl)
              simp -implicitDefEqProofs (disch := omega) only [go_sem, Nat.reduceEqDiff, Nat.reduceAdd, ↓reduceIte, o40]
              refine callW_of cal199 (iSign_v (h25.ext hw) (by rw [Int.natAbs_natCast]; omega)) ?_
              rintro _ w9 ⟨rfl, hx9⟩; refine ⟨_, rfl, ?_⟩
              exact ⟨hx9, fun d hd => by cases hd; exact rfl⟩
            refine stepsL_cons (fun e' w' hw hd ho => ?_) ?_
            · skip
              have h41 : e' 41 = (.int .i64 (((q % 2 ^ k : Nat) : Int).sign)) := hd 41 (by kernel_rfl) (by kernel_rfl)
              simp -implicitDefEqProofs (disch := omega) only [go_sem, Nat.reduceEqDiff, Nat.reduceAdd, ↓reduceIte, h41, sE]
              exact ⟨Kp.refl _ _, fun d hd => by cases hd; exact rfl⟩
            refine stepsL_cons (fun e' w' hw hd ho => ?_) ?_
            · skip
              have h42 : e' 42 = (.bool true) := hd 42 (by kernel_rfl) (by kernel_rfl)
              simp -implicitDefEqProofs (disch := omega) only [go_sem, Nat.reduceEqDiff, Nat.reduceAdd, ↓reduceIte, h42]
              exact ⟨Kp.refl _ _, fun d hd => by cases hd; exact rfl⟩
            refine stepsL_cons (fun e' w' hw hd ho => ?_) ?_
            · skip
              have o2 := ho 2 (by kernel_rfl) (by kernel_rfl)
              have h43 : e' 43 = (.bool true) := hd 43 (by kernel_rfl) (by kernel_rfl)
              simp -implicitDefEqProofs (disch := omega) only [go_sem, Nat.reduceEqDiff, Nat.reduceAdd, ↓reduceIte, o2, h43, k2]
              exact ⟨Kp.refl _ _, fun d hd => by cases hd; exact rfl⟩
            refine stepsL_cons (fun e' w' hw hd ho => ?_) ?_
            · skip
              have h44 : e' 44 = (.pointer (some ⟨g2, 4, none⟩)) := hd 44 (by kernel_rfl) (by kernel_rfl)
              have h43 : e' 43 = (.bool true) := hd 43 (by kernel_rfl) (by kernel_rfl)
              simp -implicitDefEqProofs (disch := omega) only [go_sem, Nat.reduceEqDiff, Nat.reduceAdd, ↓reduceIte, h44, h43, (hb2.ext hw).c4]
              exact ⟨Kp.refl _ _, fun d hd => by cases hd; exact rfl⟩
            refine stepsL_cons (fun e' w' hw hd ho => ?_) ?_
            · skip
              have h45 : e' 45 = (.bool inx) := hd 45 (by kernel_rfl) (by kernel_rfl)
              have h43 : e' 43 = (.bool true) := hd 43 (by kernel_rfl) (by kernel_rfl)
              simp -implicitDefEqProofs (disch := omega) only [go_sem, Nat.reduceEqDiff, Nat.reduceAdd, ↓reduceIte, h45, h43]
              exact ⟨Kp.refl _ _, fun d hd => by cases hd; exact rfl⟩
            refine stepsL_cons (fun e' w' hw hd ho => ?_) ?_
            · skip
              have h43 : e' 43 = (.bool true) := hd 43 (by kernel_rfl) (by kernel_rfl)
              have h46 : e' 46 = (.bool !inx) := hd 46 (by kernel_rfl) (by kernel_rfl)
              simp -implicitDefEqProofs (disch := omega) only [go_sem, Nat.reduceEqDiff, Nat.reduceAdd, ↓reduceIte, h43, h46]
              exact ⟨Kp.refl _ _, fun d hd => by cases hd; exact rfl⟩
            refine stepsL_cons (fun e' w' hw hd ho => ?_) ?_
            · skip
              have o4 := ho 4 (by kernel_rfl) (by kernel_rfl)
              have o38 := ho 38 (by kernel_rfl) (by kernel_rfl)
              simp -implicitDefEqProofs (disch := omega) only [go_sem, Nat.reduceEqDiff, Nat.reduceAdd, ↓reduceIte, o4, o38, k4]
              refine storeS_same (hb4.ext hw) siz35 (fB_s h28) ?_
              exact ⟨Kp.refl _ _, fun d hd => by cases hd⟩
            refine stepsL_cons (fun e' w' hw hd ho => ?_) ?_
            · skip
              have o39 := ho 39 (by kernel_rfl) (by kernel_rfl)
              simp -implicitDefEqProofs (disch := omega) only [go_sem, Nat.reduceEqDiff, Nat.reduceAdd, ↓reduceIte, o39]
              exact ⟨Kp.refl _ _, fun d hd => by cases hd; exact rfl⟩
            refine stepsL_cons (fun e' w' hw hd ho => ?_) ?_
            · skip
              have h47 : e' 47 = (.bool !inx) := hd 47 (by kernel_rfl) (by kernel_rfl)
              simp -implicitDefEqProofs (disch := omega) only [go_sem, Nat.reduceEqDiff, Nat.reduceAdd, ↓reduceIte, h47]
              exact ⟨Kp.refl _ _, fun d hd => by cases hd; exact rfl⟩
            exact stepsL_nil
          · have z4 := ho 4 (by kernel_rfl)
            have h5 : e' 5 = (.int .i64 (Go.Sp.hf q k inx)) := hs 5 (by kernel_rfl)
            have h6 : e' 6 = (.bool !inx) := hs 6 (by kernel_rfl)
            clear hs ho
            simp -implicitDefEqProofs only [upd_ap, Nat.reduceEqDiff, ↓reduceIte, env_z, env_s, List.toList_toArray, o1, o2, o4] at z4
            clear o1 o2 o4
            have o4 := z4
            clear z4
            replace hm := hm.ext hw
            replace h28 := h28.ext hw
            replace h25 := h25.ext hw
            replace h11 := h11.ext hw
            replace h12 := h12.ext hw
            replace hb2 := hb2.ext hw
            replace hb4 := hb4.ext hw
            replace hb8 := hb8.ext hw
            replace hD := hD.kp hw
            replace hx := hx.trans hw
            simp only [thenE_n]
            refine hK _ _ ?_; clear hK K
            refine W_ret ?_
            exact retS3b rfl (o4.trans k4) agg35 hb4 (fB_s h28) ⟨_, rfl, hx, ⟨_, _, _, rfl, h28.ul, h5, h6⟩⟩
        · rw [decide_eq_false h0, Bool.false_and]
          rw [decide_eq_false h0] at sE
          refine W_seq_k fun K hK => ?_
          refine W_dP true mixed (Kp.pre (fun _ => True)) (fun _ _ _ h => h) [true, true, true, false, false, false, false, false, false, false, false, false, false] [(41, Fam.S (fc (.int .i64 (((q % 2 ^ k : Nat) : Int).sign))) (Dl D [g8, g2, g4])), (42, Fam.S (fc (.bool false)) (Dl D [g8, g2, g4])), (43, Fam.S (fc (.bool false)) (Dl D [g8, g2, g4])), (44, Fam.S (fc undef) (Dl D [g8, g2, g4])), (45, Fam.S (fc undef) (Dl D [g8, g2, g4])), (46, Fam.S (fc undef) (Dl D [g8, g2, g4])), (47, Fam.S (fc (.bool false)) (Dl D [g8, g2, g4])), (5, Fam.S (fc (.int .i64 (Go.Sp.hf q k inx))) (Dl D [g8, g2, g4])), (6, Fam.S (fc (.bool false)) (Dl D [g8, g2, g4]))] (by kernel_rfl) fun KE hKE => ?_
          simp -implicitDefEqProofs (disch := omega) only [go_sem, Nat.reduceEqDiff, Nat.reduceAdd, ↓reduceIte, k2, k4, k8, k5, hb4.l2, hb8.l2]
          refine hKE _ ⟨?_, fun e' w' hw hs ho => ?_⟩ <;> clear hKE KE
          · refine stepsL_cons (fun e' w' hw hd ho => ?_) ?_
            · skip
              have o40 := ho 40 (by kernel_rfl) (by kernel_rfl)
              simp -implicitDefEqProofs (disch := omega) only [go_sem, Nat.reduceEqDiff, Nat.reduceAdd, ↓reduceIte, o40]
              refine callW_of cal199 (iSign_v (h25.ext hw) (by rw [Int.natAbs_natCast]; omega)) ?_
              rintro _ w9 ⟨rfl, hx9⟩; refine ⟨_, rfl, ?_⟩
              exact ⟨hx9, fun d hd => by cases hd; exact rfl⟩
            refine stepsL_cons (fun e' w' hw hd ho => ?_) ?_
            · skip
              have h41 : e' 41 = (.int .i64 (((q % 2 ^ k : Nat) : Int).sign)) := hd 41 (by kernel_rfl) (by kernel_rfl)
              simp -implicitDefEqProofs (disch := omega) only [go_sem, Nat.reduceEqDiff, Nat.reduceAdd, ↓reduceIte, h41, sE]
              exact ⟨Kp.refl _ _, fun d hd => by cases hd; exact rfl⟩
            refine stepsL_cons (fun e' w' hw hd ho => ?_) ?_
            · skip
              have h42 : e' 42 = (.bool false) := hd 42 (by kernel_rfl) (by kernel_rfl)
              simp -implicitDefEqProofs (disch := omega) only [go_sem, Nat.reduceEqDiff, Nat.reduceAdd, ↓reduceIte, h42]
              exact ⟨Kp.refl _ _, fun d hd => by cases hd; exact rfl⟩
            refine stepsL_cons (fun e' w' hw hd ho => ?_) ?_
            · skip
              have o2 := ho 2 (by kernel_rfl) (by kernel_rfl)
              have h43 : e' 43 = (.bool false) := hd 43 (by kernel_rfl) (by kernel_rfl)
              simp -implicitDefEqProofs (disch := omega) only [go_sem, Nat.reduceEqDiff, Nat.reduceAdd, ↓reduceIte, o2, h43]
              exact ⟨Kp.refl _ _, fun d hd => by cases hd; exact rfl⟩
            refine stepsL_cons (fun e' w' hw hd ho => ?_) ?_
            · skip
              have h44 : e' 44 = undef := hd 44 (by kernel_rfl) (by kernel_rfl)
              have h43 : e' 43 = (.bool false) := hd 43 (by kernel_rfl) (by kernel_rfl)
              simp -implicitDefEqProofs (disch := omega) only [go_sem, Nat.reduceEqDiff, Nat.reduceAdd, ↓reduceIte, h44, h43]
              exact ⟨Kp.refl _ _, fun d hd => by cases hd; exact rfl⟩
            refine stepsL_cons (fun e' w' hw hd ho => ?_) ?_
            · skip
              have h45 : e' 45 = undef := hd 45 (by kernel_rfl) (by kernel_rfl)
              have h43 : e' 43 = (.bool false) := hd 43 (by kernel_rfl) (by kernel_rfl)
              simp -implicitDefEqProofs (disch := omega) only [go_sem, Nat.reduceEqDiff, Nat.reduceAdd, ↓reduceIte, h45, h43]
              exact ⟨Kp.refl _ _, fun d hd => by cases hd; exact rfl⟩
            refine stepsL_cons (fun e' w' hw hd ho => ?_) ?_
            · skip
              have h43 : e' 43 = (.bool false) := hd 43 (by kernel_rfl) (by kernel_rfl)
              have h46 : e' 46 = undef := hd 46 (by kernel_rfl) (by kernel_rfl)
              simp -implicitDefEqProofs (disch := omega) only [go_sem, Nat.reduceEqDiff, Nat.reduceAdd, ↓reduceIte, h43, h46]
              exact ⟨Kp.refl _ _, fun d hd => by cases hd; exact rfl⟩
            refine stepsL_cons (fun e' w' hw hd ho => ?_) ?_
            · skip
              have o4 := ho 4 (by kernel_rfl) (by kernel_rfl)
              have o38 := ho 38 (by kernel_rfl) (by kernel_rfl)
              simp -implicitDefEqProofs (disch := omega) only [go_sem, Nat.reduceEqDiff, Nat.reduceAdd, ↓reduceIte, o4, o38, k4]
              refine storeS_same (hb4.ext hw) siz35 (fB_s h28) ?_
              exact ⟨Kp.refl _ _, fun d hd => by cases hd⟩
            refine stepsL_cons (fun e' w' hw hd ho => ?_) ?_
            · skip
              have o39 := ho 39 (by kernel_rfl) (by kernel_rfl)
              simp -implicitDefEqProofs (disch := omega) only [go_sem, Nat.reduceEqDiff, Nat.reduceAdd, ↓reduceIte, o39]
              exact ⟨Kp.refl _ _, fun d hd => by cases hd; exact rfl⟩
            refine stepsL_cons (fun e' w' hw hd ho => ?_) ?_
            · skip
              have h47 : e' 47 = (.bool false) := hd 47 (by kernel_rfl) (by kernel_rfl)
              simp -implicitDefEqProofs (disch := omega) only [go_sem, Nat.reduceEqDiff, Nat.reduceAdd, ↓reduceIte, h47]
              exact ⟨Kp.refl _ _, fun d hd => by cases hd; exact rfl⟩
            exact stepsL_nil
          · have z4 := ho 4 (by kernel_rfl)
            have h5 : e' 5 = (.int .i64 (Go.Sp.hf q k inx)) := hs 5 (by kernel_rfl)
            have h6 : e' 6 = (.bool false) := hs 6 (by kernel_rfl)
            clear hs ho
            simp -implicitDefEqProofs only [upd_ap, Nat.reduceEqDiff, ↓reduceIte, env_z, env_s, List.toList_toArray, o4] at z4
            clear o4
            have o4 := z4
            clear z4
            replace hm := hm.ext hw
            replace h28 := h28.ext hw
            replace h25 := h25.ext hw
            replace h11 := h11.ext hw
            replace h12 := h12.ext hw
            replace hb2 := hb2.ext hw
            replace hb4 := hb4.ext hw
            replace hb8 := hb8.ext hw
            replace hD := hD.kp hw
            replace hx := hx.trans hw
            simp only [thenE_n]
            refine hK _ _ ?_; clear hK K
            refine W_ret ?_
            exact retS3b rfl (o4.trans k4) agg35 hb4 (fB_s h28) ⟨_, rfl, hx, ⟨_, _, _, rfl, h28.ul, h5, h6⟩⟩
      by_cases hS0 : S = 0
      · have q2 : (S == 0) = true := by rw [hS0]; rfl
        cases inx
        · refine W_seq_reg fun K hK => ?_
          simp -implicitDefEqProofs (disch := omega) only [go_sem, Nat.reduceEqDiff, Nat.reduceAdd, ↓reduceIte, q2, o2, hb2.c4]
          refine hK _ _ ?_; clear hK K
          refine W_cond rfl (fun hc => by cases hc) (fun hc => W_skip ?_)
          exact main _ (by (try simp only [upd_ap, Nat.reduceEqDiff, ↓reduceIte]); first | done | assumption | exact rfl) (by (try simp only [upd_ap, Nat.reduceEqDiff, ↓reduceIte]); first | done | assumption | exact rfl) (by (try simp only [upd_ap, Nat.reduceEqDiff, ↓reduceIte]); first | done | assumption | exact rfl) (by rw [hhf]; simp only [Bool.false_eq_true, and_false, if_false]; exact (by (try simp only [upd_ap, Nat.reduceEqDiff, ↓reduceIte]); first | done | assumption | exact rfl))
        · refine W_seq_reg fun K hK => ?_
          simp -implicitDefEqProofs (disch := omega) only [go_sem, Nat.reduceEqDiff, Nat.reduceAdd, ↓reduceIte, q2, o2, hb2.c4]
          refine hK _ _ ?_; clear hK K
          refine W_cond rfl (fun hc => ?_) (fun hc => by cases hc)
          refine W_regK fun K9 hK9 => ?_
          simp -implicitDefEqProofs (disch := omega) only [go_sem, Nat.reduceEqDiff, Nat.reduceAdd, ↓reduceIte]
          refine hK9 _ _ ?_; clear hK9 K9
          exact main _ (by (try simp only [upd_ap, Nat.reduceEqDiff, ↓reduceIte]); first | done | assumption | exact rfl) (by (try simp only [upd_ap, Nat.reduceEqDiff, ↓reduceIte]); first | done | assumption | exact rfl) (by (try simp only [upd_ap, Nat.reduceEqDiff, ↓reduceIte]); first | done | assumption | exact rfl) (by rw [hhf, if_pos ⟨hS0, rfl⟩]; exact (by (try simp only [upd_ap, Nat.reduceEqDiff, ↓reduceIte]); first | done | assumption | exact rfl))
      · have q2 : (S == 0) = false := by rw [beq_eq_false_iff_ne]; exact hS0
        refine W_seq_reg fun K hK => ?_
        simp -implicitDefEqProofs (disch := omega) only [go_sem, Nat.reduceEqDiff, Nat.reduceAdd, ↓reduceIte, q2, o2]
        refine hK _ _ ?_; clear hK K
        refine W_cond rfl (fun hc => by cases hc) (fun hc => W_skip ?_)
        exact main _ (by (try simp only [upd_ap, Nat.reduceEqDiff, ↓reduceIte]); first | done | assumption | exact rfl) (by (try simp only [upd_ap, Nat.reduceEqDiff, ↓reduceIte]); first | done | assumption | exact rfl) (by (try simp only [upd_ap, Nat.reduceEqDiff, ↓reduceIte]); first | done | assumption | exact rfl) (by rw [hhf, if_neg (fun h => hS0 h.1)]; exact (by (try simp only [upd_ap, Nat.reduceEqDiff, ↓reduceIte]); first | done | assumption | exact rfl))
end Go.Proofs.YtjamnehcmaloeaaGreatDoor
end
section
namespace Go.Sp
open Go.E
def mulS (q : Nat) (e p : Int) (inx : Bool) : Nat :=
  if p ≤ e then q * 2 ^ (e - p).toNat
  else q / 2 ^ (p - e).toNat + (if ¬ (q % 2 ^ (p - e).toNat = 0 ∧ inx = false) ∧ (0 < hf q (p - e).toNat inx ∨ (hf q (p - e).toNat inx = 0 ∧ q / 2 ^ (p - e).toNat % 2 = 1)) then 1 else 0)
theorem ite_iff {a b : Prop} [Decidable a] [Decidable b] (h : a ↔ b) (x y : Nat) : (if a then x else y) = if b then x else y := by
  by_cases ha : a
  · rw [if_pos ha, if_pos (h.1 ha)]
  · rw [if_neg ha, if_neg (fun hb => ha (h.2 hb))]
theorem hf_half {N M k : Nat} (hk : 0 < k) : hf (N / M) k (decide (N % M ≠ 0)) = halfS N M k := by
  have hp : 2 ^ k = 2 ^ (k - 1) * 2 := by rw [← Nat.pow_succ]; congr 1; omega
  have hp0 := two_pos (k - 1)
  have hs := Nat.mod_mul (x := N / M) (a := 2 ^ (k - 1)) (b := 2)
  rw [← hp] at hs
  have hs' := Nat.mod_lt (N / M) hp0
  have hb2 : N / M / 2 ^ (k - 1) % 2 < 2 := Nat.mod_lt _ (by omega)
  unfold hf halfS
  rw [← pow_cast]
  generalize N / M % 2 ^ k = s at *
  generalize N / M % 2 ^ (k - 1) = s' at *
  generalize N / M / 2 ^ (k - 1) % 2 = b at *
  generalize N % M = r at *
  generalize 2 ^ (k - 1) = h at *
  by_cases hb : b = 1
  · subst hb
    have hss : ((s : Nat) : Int) - (h : Nat) = (s' : Nat) := by omega
    rw [hss, if_pos (show 0 < k ∧ 1 = 1 from ⟨hk, rfl⟩)]
    by_cases h0 : s' = 0
    · subst h0
      by_cases hr : r = 0
      · subst hr; simp
      · simp [hr]
    · have h1 : (((s' : Nat) : Int)).sign = 1 := Int.sign_eq_one_of_pos (by omega)
      rw [h1, if_neg (by simp), if_pos (.inr h0)]
  · have : b = 0 := by omega
    subst this
    have h1 : (((s : Nat) : Int) - (h : Nat)).sign = -1 := Int.sign_eq_neg_one_of_neg (by omega)
    rw [h1, if_neg (by omega)]; simp
theorem mulS_rq {neg : Bool} {N M : Nat} {e p : Int} (hM : 0 < M) (hk : N % M ≠ 0 → e < p) : mulS (N / M) e p (decide (N % M ≠ 0)) = rq 0 neg (N * 2 ^ (e - p).toNat) (M * 2 ^ (p - e).toNat) := by
  unfold mulS
  by_cases hpe : p ≤ e
  · rw [if_pos hpe, show (p - e).toNat = 0 by omega, Nat.pow_zero, Nat.mul_one]
    have hr : N % M = 0 := by
      rcases Nat.eq_zero_or_pos (N % M) with h | h
      · exact h
      · have := hk (by omega); omega
    have hd : N = N / M * M := by have := Nat.div_add_mod N M; rw [Nat.mul_comm] at this; omega
    rw [rq_exact (by rw [hd, Nat.mul_right_comm]; exact Nat.mul_mod_left _ _)]
    conv => rhs; rw [hd, Nat.mul_right_comm, Nat.mul_div_cancel _ hM]
  · rw [if_neg hpe, show (e - p).toNat = 0 by omega, Nat.pow_zero, Nat.mul_one]
    have hk0 : 0 < (p - e).toNat := by omega
    rw [rq_up hM (fun _ => hk0), hf_half hk0]
    congr 1
    unfold upS
    have z1 : ¬ (0 : Int) = 1 := by omega
    have z2 : ¬ (0 : Int) = 2 := by omega
    have z3 : ¬ (0 : Int) = 3 := by omega
    simp only [z1, z2, z3, if_false, Bool.or_eq_true, Bool.and_eq_true, decide_eq_true_eq, decide_eq_false_iff_not, Decidable.not_not]
    refine ite_iff (and_congr ?_ Iff.rfl) _ _
    constructor
    · intro h
      by_cases h0 : N / M % 2 ^ (p - e).toNat = 0
      · exact .inr fun h1 => h ⟨h0, h1⟩
      · exact .inl h0
    · rintro (h | h) ⟨h1, h2⟩
      · exact h h1
      · exact h h2
end Go.Sp
namespace Go.Proofs.YtjamnehcmaloeaaGreatDoor
open Go Go.E Go.Sp
theorem mult_v {D : Nat → Prop} {v : Value} {w : World} {neg inx : Bool} {q : Nat} {e p : Int} (hT : Tabs w) (h : In (fRe neg q e inx) D v w) (hq : q ≠ 0) (hb : bl q ≤ 900000) (he1 : -900000 ≤ e) (he2 : e ≤ 900000) (hp1 : -100000 ≤ p) (hp2 : p ≤ 1000000) (hf : Fr D w) :
    Calls Tryz.prog 210 #[v, .int .i64 p, .int .i64 0] w (Rt (fB (sgn neg (mulS q e p inx))) D w) := by
  obtain ⟨A, n, c, rfl, _⟩ := id h
  have hm := h.reB
  refine calls_W Tryz.func210 rfl Tryz.ntmps210 (by kernel_rfl) ?_
  refine W_seq_reg fun K hK => ?_
  simp -implicitDefEqProofs (disch := omega) only [go_sem, Nat.reduceEqDiff, Nat.reduceAdd, ↓reduceIte]
  refine boxW_of ?_
  intro g3 w3 hg3 hx3 hb3 hs3
  refine alW_of ?_
  intro g6 w6 hg6 hx6 hb6 hs6
  refine hK _ _ ?_; clear hK K
  have hx : Ext w w6 := (hx3.trans hx6)
  replace hb3 := (hb3.ext hx6)
  replace h := (h.nL (L := [g3, g6]) (by intro g hg; simp at hg; omega)).ext hx
  replace hm := (hm.nL (L := [g3, g6]) (by intro g hg; simp at hg; omega)).ext hx
  have hD : Fr (Dl D [g3, g6]) w6 := hf.nL hx (by intro g hg; simp at hg; omega)
  clear hx3 hx6
  refine W_seq_reg fun K hK => ?_
  simp -implicitDefEqProofs (disch := omega) only [go_sem, Nat.reduceEqDiff, Nat.reduceAdd, ↓reduceIte, hb3.c1, hb3.c2]
  refine alW_of ?_
  intro g7 w7a hg7 hx7a hb7a hs7
  have hgl7 := hx.size
  have hn7hb3 := hb3.lt
  have hn7hb6 := hb6.lt
  refine storeW_of hb7a siz35 rfl rfl fun w7 hk7 hb7 => ?_
  have hy7 : Ext w6 w7 := hx7a.under hk7 (fun k hk => by omega)
  replace h := ((h.nw (g := g7) (by omega)).ext hx7a).ow hk7 (by simp)
  replace hm := ((hm.nw (g := g7) (by omega)).ext hx7a).ow hk7 (by simp)
  replace hb3 := hb3.ext hy7
  replace hb6 := hb6.ext hy7
  replace hD := (hD.nw (g := g7) hx7a (by omega)).ow hk7
  replace hx := hx.trans hy7
  have hq7 := hk7.size
  clear hx7a hk7 hb7a hy7
  refine hK _ _ ?_; clear hK
  refine W_seq_k fun K0 hK0 => ?_
  have fin : ∀ (e1 : Env) (w9 : World) (s9 : Bool) (A9 : Option Addr) (n9 c9 z : Nat) (half : Int) (exact : Bool), Ext w w9 → In (fB (z : Nat)) (Dl D [g7, g3, g6]) (.agg #[.bool s9, .slice A9 n9 c9]) w9 → Blk w9 g7 35 #[.bool s9, .slice A9 n9 c9] → Blk w9 g3 171 #[.bool neg, .bool false, .slice A n c, .int .i64 e, .bool inx] → Blk w9 g6 35 #[.bool false, .slice none 0 0] → Fr (Dl D [g7, g3, g6]) w9 →
      e1 3 = .pointer (some ⟨g3, 0, none⟩) → e1 6 = .pointer (some ⟨g6, 0, none⟩) → e1 7 = .pointer (some ⟨g7, 0, none⟩) → e1 8 = .int .i64 half → e1 9 = .bool exact → e1 2 = .int .i64 0 → bl z ≤ 2000000 → mulS q e p inx = z + (if exact = false ∧ (0 < half ∨ (half = 0 ∧ z % 2 = 1)) then 1 else 0) → K0 e1 w9 := by
    clear hx h hm hb3 hb6 hb7 hD
    intro e1 w9 s9 A9 n9 c9 z half exact hx h hb7 hb3 hb6 hD k3 k6 k7 k8 k9 k2 hz hres
    refine hK0 _ _ ?_; clear hK0
    refine W_seq_reg fun K hK => ?_
    simp -implicitDefEqProofs (disch := omega) only [go_sem, Nat.reduceEqDiff, Nat.reduceAdd, ↓reduceIte]
    refine hK _ _ ?_; clear hK K
    refine W_seq_blk fun K2 hK2 => ?_
    have fin2 : ∀ (e1 : Env) (w9 : World) (up : Bool), Ext w w9 → In (fB (z : Nat)) (Dl D [g7, g3, g6]) (.agg #[.bool s9, .slice A9 n9 c9]) w9 → Blk w9 g7 35 #[.bool s9, .slice A9 n9 c9] → Blk w9 g3 171 #[.bool neg, .bool false, .slice A n c, .int .i64 e, .bool inx] → Blk w9 g6 35 #[.bool false, .slice none 0 0] → Fr (Dl D [g7, g3, g6]) w9 →
        e1 3 = .pointer (some ⟨g3, 0, none⟩) → e1 6 = .pointer (some ⟨g6, 0, none⟩) → e1 7 = .pointer (some ⟨g7, 0, none⟩) → e1 10 = .bool up → mulS q e p inx = z + (if up then 1 else 0) → K2 e1 w9 := by
      clear hx h hb7 hb3 hb6 hD k3 k6 k7 k8 k9 k2
      intro e1 w9 up hx h hb7 hb3 hb6 hD k3 k6 k7 k10 hres
      refine hK2 _ _ ?_; clear hK2
      refine W_seq_k fun K3 hK3 => ?_
      refine W_seq_reg fun K hK => ?_
      simp -implicitDefEqProofs (disch := omega) only [go_sem, Nat.reduceEqDiff, Nat.reduceAdd, ↓reduceIte, k10]
      refine hK _ _ ?_; clear hK K
      have fin3 : ∀ (e1 : Env) (w9 : World) (s9 : Bool) (A9 : Option Addr) (n9 c9 y : Nat), Ext w w9 → In (fB (y : Nat)) (Dl D [g7, g3, g6]) (.agg #[.bool s9, .slice A9 n9 c9]) w9 → Blk w9 g7 35 #[.bool s9, .slice A9 n9 c9] → Blk w9 g3 171 #[.bool neg, .bool false, .slice A n c, .int .i64 e, .bool inx] → Blk w9 g6 35 #[.bool false, .slice none 0 0] → Fr (Dl D [g7, g3, g6]) w9 →
          e1 3 = .pointer (some ⟨g3, 0, none⟩) → e1 6 = .pointer (some ⟨g6, 0, none⟩) → e1 7 = .pointer (some ⟨g7, 0, none⟩) → bl y ≤ 3000000 → mulS q e p inx = y → K3 e1 w9 := by
        clear hx h hb7 hb3 hb6 hD k3 k6 k7 k10 hres
        intro e1 w9 s9 A9 n9 c9 y hx h hb7 hb3 hb6 hD k3 k6 k7 hy hres
        refine hK3 _ _ ?_; clear hK3
        rw [hres]
        refine W_seq_k fun K4 hK4 => ?_
        refine W_seq_reg fun K hK => ?_
        simp -implicitDefEqProofs (disch := omega) only [go_sem, Nat.reduceEqDiff, Nat.reduceAdd, ↓reduceIte, k3, hb3.c0]
        refine hK _ _ ?_; clear hK K
        cases neg
        · refine W_cond rfl (fun hc => by cases hc) (fun hc => W_skip (hK4 _ _ ?_))
          clear hK4
          refine W_seq_reg fun K hK => ?_
          simp -implicitDefEqProofs (disch := omega) only [go_sem, Nat.reduceEqDiff, Nat.reduceAdd, ↓reduceIte, k7, k6, hb7.l2]
          refine storeS hb6 siz35 rfl (fB_s h) fun w90 hk90 hb90 => ?_
          refine hK _ _ ?_; clear hK
          refine W_ret ?_
          try simp only [thenE_r, inB_r]
          exact retS rfl (by first | exact rfl | assumption | exact (by (try simp only [upd_ap, Nat.reduceEqDiff, ↓reduceIte]); first | done | assumption | exact rfl)) agg35 hb90 (fB_s h) (Rt.fin hx h hk90 (by simp) (by omega))
        · refine W_cond rfl (fun hc => ?_) (fun hc => by cases hc)
          refine W_regK fun K9 hK9 => ?_
          simp -implicitDefEqProofs (disch := omega) only [go_sem, Nat.reduceEqDiff, Nat.reduceAdd, ↓reduceIte, k7, hb7.l2]
          refine callW_of cal165 (iNeg_v h (by rw [Int.natAbs_natCast]; omega) hD) ?_
          rintro _ w20 ⟨v20, rfl, hx20, h20⟩; refine ⟨_, rfl, ?_⟩
          replace h := h.ext hx20
          replace hb3 := hb3.ext hx20
          replace hb6 := hb6.ext hx20
          replace hb7 := hb7.ext hx20
          replace hD := hD.kp hx20
          replace hx := hx.trans hx20
          clear hx20
          obtain ⟨s20, A20, n20, c20, rfl, _⟩ := id h20
          refine storeW_of hb7 siz35 rfl rfl fun w21 hk21 hz21 => ?_
          replace h := h.ow hk21 (by simp)
          replace h20 := h20.ow hk21 (by simp)
          replace hb3 := hb3.kpne hk21 (by omega)
          replace hb6 := hb6.kpne hk21 (by omega)
          replace hD := hD.ow hk21
          replace hx := hx.under hk21 (fun k hk => by omega)
          clear hb7 hk21
          have hb7 := hz21; clear hz21
          refine hK9 _ _ ?_; clear hK9 K9
          refine hK4 _ _ ?_; clear hK4 K4
          refine W_seq_reg fun K hK => ?_
          simp -implicitDefEqProofs (disch := omega) only [go_sem, Nat.reduceEqDiff, Nat.reduceAdd, ↓reduceIte, k7, k6, hb7.l2]
          refine storeS hb6 siz35 rfl (fB_s h20) fun w90 hk90 hb90 => ?_
          refine hK _ _ ?_; clear hK
          refine W_ret ?_
          try simp only [thenE_r, inB_r]
          exact retS rfl (by first | exact rfl | assumption | exact (by (try simp only [upd_ap, Nat.reduceEqDiff, ↓reduceIte]); first | done | assumption | exact rfl)) agg35 hb90 (fB_s h20) (Rt.fin hx h20 hk90 (by simp) (by omega))
      cases up
      · refine W_cond rfl (fun hc => by cases hc) (fun hc => W_skip ?_)
        exact fin3 _ _ s9 A9 n9 c9 z hx h hb7 hb3 hb6 hD (by (try simp only [upd_ap, Nat.reduceEqDiff, ↓reduceIte]); first | done | assumption | exact rfl) (by (try simp only [upd_ap, Nat.reduceEqDiff, ↓reduceIte]); first | done | assumption | exact rfl) (by (try simp only [upd_ap, Nat.reduceEqDiff, ↓reduceIte]); first | done | assumption | exact rfl) (by omega) (by simpa using hres)
      · refine W_cond rfl (fun hc => ?_) (fun hc => by cases hc)
        refine W_dC mixed (Kp (fun k => k ∉ ([] : List Nat))) (fun _ _ => False) (Kp.pre _) [true, false, false, false] [false, false, false, false] [1, 0, 1, 1] (by kernel_rfl) ?_
        apply Exists.intro
        refine ⟨fun wE hE KE hKE => ?_, fun wE hE KE hKE => ?_, fun wE hxE hr => ?_⟩
        · skip
          replace hE := Kp.all hE
          replace hb3 := hb3.ext hE
          replace hb6 := hb6.ext hE
          replace hb7 := hb7.ext hE
          replace h := h.ext hE
          simp -implicitDefEqProofs (disch := omega) only [go_sem, Nat.reduceEqDiff, Nat.reduceAdd, ↓reduceIte, k7, hb7.l2]
          exact hKE
        · exact hE.elim
        simp only [selP_t, selP_f, selP_n]
        replace h := h.ext hxE
        replace hb3 := hb3.ext hxE
        replace hb6 := hb6.ext hxE
        replace hb7 := hb7.ext hxE
        replace hD := hD.kp hxE
        replace hx := hx.trans hxE
        simp -implicitDefEqProofs (disch := omega) only [go_sem, Nat.reduceEqDiff, Nat.reduceAdd, ↓reduceIte, List.toList_toArray, k7, hb7.l2]
        refine callW_of cal163 (iFromInt_v (by omega) (by omega) hD) ?_
        rintro _ w22 ⟨v22, rfl, hx22, h22⟩; refine ⟨_, rfl, ?_⟩
        replace h := h.ext hx22
        replace hb3 := hb3.ext hx22
        replace hb6 := hb6.ext hx22
        replace hb7 := hb7.ext hx22
        replace hD := hD.kp hx22
        replace hx := hx.trans hx22
        replace hr := hr.trans (Kp.of_ext hx22)
        clear hx22
        refine ⟨hr, ?_⟩
        refine callW_of cal217 (iAdd_v h h22 (by rw [Int.natAbs_natCast]; omega) (by show bl 1 ≤ _; rw [bl_one]; omega) hD) ?_
        rintro _ w23 ⟨v23, rfl, hx23, h23⟩; refine ⟨_, rfl, ?_⟩
        replace h := h.ext hx23
        replace h22 := h22.ext hx23
        replace hb3 := hb3.ext hx23
        replace hb6 := hb6.ext hx23
        replace hb7 := hb7.ext hx23
        replace hD := hD.kp hx23
        replace hx := hx.trans hx23
        clear hx23
        have hb1 := bl_add_le (k := 2000001) (a := z) (b := 1) (by omega) (by rw [bl_one]; omega)
        have h24 : In (fB ((z + 1 : Nat) : Int)) (Dl D [g7, g3, g6]) v23 w23 := by simpa using h23
        obtain ⟨s24, A24, n24, c24, rfl, _⟩ := id h24
        refine storeW_of hb7 siz35 rfl rfl fun w25 hk25 hz25 => ?_
        replace h := h.ow hk25 (by simp)
        replace h22 := h22.ow hk25 (by simp)
        replace h24 := h24.ow hk25 (by simp)
        replace hb3 := hb3.kpne hk25 (by omega)
        replace hb6 := hb6.kpne hk25 (by omega)
        replace hD := hD.ow hk25
        replace hx := hx.under hk25 (fun k hk => by omega)
        clear hb7 hk25
        have hb7 := hz25; clear hz25
        exact fin3 _ _ _ _ _ _ (z + 1) hx h24 hb7 hb3 hb6 hD (by (try simp only [upd_ap, Nat.reduceEqDiff, ↓reduceIte]); first | done | assumption | exact rfl) (by (try simp only [upd_ap, Nat.reduceEqDiff, ↓reduceIte]); first | done | assumption | exact rfl) (by (try simp only [upd_ap, Nat.reduceEqDiff, ↓reduceIte]); first | done | assumption | exact rfl) (by omega) (by simpa using hres)
    cases exact
    · refine W_seq_reg fun K hK => ?_
      simp -implicitDefEqProofs (disch := omega) only [go_sem, Nat.reduceEqDiff, Nat.reduceAdd, ↓reduceIte, k9]
      refine hK _ _ ?_; clear hK K
      refine W_cond rfl (fun hc => by cases hc) (fun hc => ?_)
      refine W_seq_reg fun K hK => ?_
      simp -implicitDefEqProofs (disch := omega) only [go_sem, Nat.reduceEqDiff, Nat.reduceAdd, ↓reduceIte, k2]
      refine hK _ _ ?_; clear hK K
      refine W_cond rfl (fun hc => by cases hc) (fun hc => ?_)
      refine W_seq_reg fun K hK => ?_
      simp -implicitDefEqProofs (disch := omega) only [go_sem, Nat.reduceEqDiff, Nat.reduceAdd, ↓reduceIte, k2]
      refine hK _ _ ?_; clear hK K
      refine W_cond rfl (fun hc => by cases hc) (fun hc => ?_)
      refine W_seq_reg fun K hK => ?_
      simp -implicitDefEqProofs (disch := omega) only [go_sem, Nat.reduceEqDiff, Nat.reduceAdd, ↓reduceIte, k2]
      refine hK _ _ ?_; clear hK K
      refine W_cond rfl (fun hc => by cases hc) (fun hc => ?_)
      by_cases hh : half > 0
      · have hh' : half > 0 := hh
        refine W_regK fun K9 hK9 => ?_
        simp -implicitDefEqProofs (disch := omega) only [go_sem, Nat.reduceEqDiff, Nat.reduceAdd, ↓reduceIte, k8, hh']
        refine hK9 _ _ ?_; clear hK9 K9
        refine fin2 _ _ true hx h hb7 hb3 hb6 hD (by (try simp only [upd_ap, Nat.reduceEqDiff, ↓reduceIte]); first | done | assumption | exact rfl) (by (try simp only [upd_ap, Nat.reduceEqDiff, ↓reduceIte]); first | done | assumption | exact rfl) (by (try simp only [upd_ap, Nat.reduceEqDiff, ↓reduceIte]); first | done | assumption | exact rfl) (by (try simp only [upd_ap, Nat.reduceEqDiff, ↓reduceIte]); first | done | assumption | exact rfl) ?_
        rw [hres, if_pos ⟨rfl, .inl hh⟩]; rfl
      · by_cases h0 : half = 0
        · subst h0
          have q5 : ¬ ((0 : Int) > 0) := by omega
          have q6 : ((0 : Int) == 0) = true := rfl
          by_cases hz0 : z = 0
          · have q3 : (((z : Nat) : Int).sign != 0) = false := by rw [hz0]; rfl
            refine W_regK fun K9 hK9 => ?_
            simp -implicitDefEqProofs (disch := omega) only [go_sem, Nat.reduceEqDiff, Nat.reduceAdd, ↓reduceIte, k8, k7, hb7.l2, q5, q6]
            refine callW_of cal199 (iSign_v h (by rw [Int.natAbs_natCast]; omega)) ?_
            rintro _ w26 ⟨rfl, hx26⟩; refine ⟨_, rfl, ?_⟩
            replace h := h.ext hx26
            replace hb3 := hb3.ext hx26
            replace hb6 := hb6.ext hx26
            replace hb7 := hb7.ext hx26
            replace hD := hD.kp hx26
            replace hx := hx.trans hx26
            clear hx26
            simp -implicitDefEqProofs (disch := omega) only [go_sem, Nat.reduceEqDiff, Nat.reduceAdd, ↓reduceIte, q3]
            refine hK9 _ _ ?_; clear hK9
            refine fin2 _ _ false hx h hb7 hb3 hb6 hD (by (try simp only [upd_ap, Nat.reduceEqDiff, ↓reduceIte]); first | done | assumption | exact rfl) (by (try simp only [upd_ap, Nat.reduceEqDiff, ↓reduceIte]); first | done | assumption | exact rfl) (by (try simp only [upd_ap, Nat.reduceEqDiff, ↓reduceIte]); first | done | assumption | exact rfl) (by (try simp only [upd_ap, Nat.reduceEqDiff, ↓reduceIte]); first | done | assumption | exact rfl) ?_
            rw [hres, if_neg (fun hc => by rcases hc.2 with h1 | h1 <;> omega)]; rfl
          · have q3 : (((z : Nat) : Int).sign != 0) = true := by rw [Int.sign_eq_one_of_pos (by omega)]; rfl
            refine W_regK fun K9 hK9 => ?_
            simp -implicitDefEqProofs (disch := omega) only [go_sem, Nat.reduceEqDiff, Nat.reduceAdd, ↓reduceIte, k8, k7, hb7.l2, q5, q6]
            refine callW_of cal199 (iSign_v h (by rw [Int.natAbs_natCast]; omega)) ?_
            rintro _ w26 ⟨rfl, hx26⟩; refine ⟨_, rfl, ?_⟩
            replace h := h.ext hx26
            replace hb3 := hb3.ext hx26
            replace hb6 := hb6.ext hx26
            replace hb7 := hb7.ext hx26
            replace hD := hD.kp hx26
            replace hx := hx.trans hx26
            clear hx26
            simp -implicitDefEqProofs (disch := omega) only [go_sem, Nat.reduceEqDiff, Nat.reduceAdd, ↓reduceIte, q3, k7, hb7.c0, hb7.c1]
            refine callW_of cal243 (iTZ_v (hT.ext hx) h (by rw [Int.natAbs_natCast]; omega)) ?_
            rintro _ w27 ⟨rfl, hx27⟩; refine ⟨_, rfl, ?_⟩
            replace h := h.ext hx27
            replace hb3 := hb3.ext hx27
            replace hb6 := hb6.ext hx27
            replace hb7 := hb7.ext hx27
            replace hD := hD.kp hx27
            replace hx := hx.trans hx27
            clear hx27
            rw [Int.natAbs_natCast]
            by_cases hodd : z % 2 = 1
            · have q4 : (((tz z : Nat) : Int) == 0) = true := by rw [tz_odd hodd]; rfl
              simp -implicitDefEqProofs (disch := omega) only [go_sem, Nat.reduceEqDiff, Nat.reduceAdd, ↓reduceIte, q4]
              refine hK9 _ _ ?_; clear hK9
              refine fin2 _ _ true hx h hb7 hb3 hb6 hD (by (try simp only [upd_ap, Nat.reduceEqDiff, ↓reduceIte]); first | done | assumption | exact rfl) (by (try simp only [upd_ap, Nat.reduceEqDiff, ↓reduceIte]); first | done | assumption | exact rfl) (by (try simp only [upd_ap, Nat.reduceEqDiff, ↓reduceIte]); first | done | assumption | exact rfl) (by (try simp only [upd_ap, Nat.reduceEqDiff, ↓reduceIte]); first | done | assumption | exact rfl) ?_
              rw [hres, if_pos ⟨rfl, .inr ⟨rfl, hodd⟩⟩]; rfl
            · have q4 : (((tz z : Nat) : Int) == 0) = false := by
                rw [beq0]
                refine decide_eq_false fun h0 => hodd ?_
                obtain ⟨r, hr, he⟩ := tz_spec hz0
                rw [h0, Nat.pow_zero, Nat.mul_one] at he
                omega
              simp -implicitDefEqProofs (disch := omega) only [go_sem, Nat.reduceEqDiff, Nat.reduceAdd, ↓reduceIte, q4]
              refine hK9 _ _ ?_; clear hK9
              refine fin2 _ _ false hx h hb7 hb3 hb6 hD (by (try simp only [upd_ap, Nat.reduceEqDiff, ↓reduceIte]); first | done | assumption | exact rfl) (by (try simp only [upd_ap, Nat.reduceEqDiff, ↓reduceIte]); first | done | assumption | exact rfl) (by (try simp only [upd_ap, Nat.reduceEqDiff, ↓reduceIte]); first | done | assumption | exact rfl) (by (try simp only [upd_ap, Nat.reduceEqDiff, ↓reduceIte]); first | done | assumption | exact rfl) ?_
              rw [hres, if_neg (fun hc => by rcases hc.2 with h1 | h1 <;> omega)]; rfl
        · have q2 : (half == 0) = false := by rw [beq_eq_false_iff_ne]; exact h0
          refine W_regK fun K9 hK9 => ?_
          simp -implicitDefEqProofs (disch := omega) only [go_sem, Nat.reduceEqDiff, Nat.reduceAdd, ↓reduceIte, k8, hh, q2]
          refine hK9 _ _ ?_; clear hK9 K9
          refine fin2 _ _ false hx h hb7 hb3 hb6 hD (by (try simp only [upd_ap, Nat.reduceEqDiff, ↓reduceIte]); first | done | assumption | exact rfl) (by (try simp only [upd_ap, Nat.reduceEqDiff, ↓reduceIte]); first | done | assumption | exact rfl) (by (try simp only [upd_ap, Nat.reduceEqDiff, ↓reduceIte]); first | done | assumption | exact rfl) (by (try simp only [upd_ap, Nat.reduceEqDiff, ↓reduceIte]); first | done | assumption | exact rfl) ?_
          rw [hres, if_neg (fun hc => by rcases hc.2 with h1 | h1 <;> omega)]; rfl
    · refine W_seq_reg fun K hK => ?_
      simp -implicitDefEqProofs (disch := omega) only [go_sem, Nat.reduceEqDiff, Nat.reduceAdd, ↓reduceIte, k9]
      refine hK _ _ ?_; clear hK K
      refine W_cond rfl (fun hc => W_skip ?_) (fun hc => by cases hc)
      refine fin2 _ _ false hx h hb7 hb3 hb6 hD (by (try simp only [upd_ap, Nat.reduceEqDiff, ↓reduceIte]); first | done | assumption | exact rfl) (by (try simp only [upd_ap, Nat.reduceEqDiff, ↓reduceIte]); first | done | assumption | exact rfl) (by (try simp only [upd_ap, Nat.reduceEqDiff, ↓reduceIte]); first | done | assumption | exact rfl) (by (try simp only [upd_ap, Nat.reduceEqDiff, ↓reduceIte]); first | done | assumption | exact rfl) ?_
      rw [hres, if_neg (fun hc => by cases hc.1)]; rfl
  by_cases hpe : p ≤ e
  · have e1 : IntKind.i64.wrap (e - p) = e - p := i64_in (by omega) (by omega)
    have hsl : shI ((q : Nat) : Int) (e - p) = ((q * 2 ^ (e - p).toNat : Nat) : Int) := by
      unfold shI; rw [if_pos (by omega), ← pow_cast]; simp
    have hbq : bl (q * 2 ^ (e - p).toNat) ≤ 2000000 := by rw [bl_pow hq]; omega
    refine W_seq_reg fun K hK => ?_
    simp -implicitDefEqProofs (disch := omega) only [go_sem, Nat.reduceEqDiff, Nat.reduceAdd, ↓reduceIte, hb3.c3, hpe]
    refine hK _ _ ?_; clear hK K
    refine W_cond rfl (fun hc => ?_) (fun hc => by cases hc)
    refine W_regK fun K9 hK9 => ?_
    simp -implicitDefEqProofs (disch := omega) only [go_sem, Nat.reduceEqDiff, Nat.reduceAdd, ↓reduceIte, hb7.l2, hb3.c3, e1]
    refine callW_of cal215 (iLeft_v hm (by rw [Int.natAbs_natCast]; omega) (by omega) (by omega) hD) ?_
    rintro _ w10 ⟨v10, rfl, hx10, h10⟩; refine ⟨_, rfl, ?_⟩
    replace h := h.ext hx10
    replace hm := hm.ext hx10
    replace hb3 := hb3.ext hx10
    replace hb6 := hb6.ext hx10
    replace hb7 := hb7.ext hx10
    replace hD := hD.kp hx10
    replace hx := hx.trans hx10
    clear hx10
    rw [hsl] at h10
    obtain ⟨s10, A10, n10, c10, rfl, _⟩ := id h10
    refine storeW_of hb7 siz35 rfl rfl fun w11 hk11 hz11 => ?_
    replace h := h.ow hk11 (by simp)
    replace hm := hm.ow hk11 (by simp)
    replace h10 := h10.ow hk11 (by simp)
    replace hb3 := hb3.kpne hk11 (by omega)
    replace hb6 := hb6.kpne hk11 (by omega)
    replace hD := hD.ow hk11
    replace hx := hx.under hk11 (fun k hk => by omega)
    clear hb7 hk11
    have hb7 := hz11; clear hz11
    refine hK9 _ _ ?_; clear hK9
    exact fin _ _ _ _ _ _ (q * 2 ^ (e - p).toNat) (-1) true hx h10 hb7 hb3 hb6 hD (by (try simp only [upd_ap, Nat.reduceEqDiff, ↓reduceIte]); first | done | assumption | exact rfl) (by (try simp only [upd_ap, Nat.reduceEqDiff, ↓reduceIte]); first | done | assumption | exact rfl) (by (try simp only [upd_ap, Nat.reduceEqDiff, ↓reduceIte]); first | done | assumption | exact rfl) (by (try simp only [upd_ap, Nat.reduceEqDiff, ↓reduceIte]); first | done | assumption | exact rfl) (by (try simp only [upd_ap, Nat.reduceEqDiff, ↓reduceIte]); first | done | assumption | exact rfl) (by (try simp only [upd_ap, Nat.reduceEqDiff, ↓reduceIte]); first | done | assumption | exact rfl) hbq (by unfold mulS; rw [if_pos hpe, if_neg (fun hc => by cases hc.1)]; rfl)
  · obtain ⟨k, hk⟩ : ∃ k, k = (p - e).toNat := ⟨_, rfl⟩
    have e1 : IntKind.i64.wrap (p - e) = (k : Int) := by rw [i64_in (by omega) (by omega)]; omega
    have hbq : bl (q / 2 ^ k) ≤ 2000000 := Nat.le_trans (bl_mono (Nat.div_le_self _ _)) (by omega)
    refine W_seq_reg fun K hK => ?_
    simp -implicitDefEqProofs (disch := omega) only [go_sem, Nat.reduceEqDiff, Nat.reduceAdd, ↓reduceIte, hb3.c3, hpe]
    refine hK _ _ ?_; clear hK K
    refine W_cond rfl (fun hc => by cases hc) (fun hc => ?_)
    refine W_regK fun K9 hK9 => ?_
    simp -implicitDefEqProofs (disch := omega) only [go_sem, Nat.reduceEqDiff, Nat.reduceAdd, ↓reduceIte, hb3.l5, hb3.c3, e1]
    refine callW_of cal246 (cut_v h hq (by omega) (by omega) (by omega) hD) ?_
    rintro _ w10 ⟨v10, rfl, hx10, h10⟩; refine ⟨_, rfl, ?_⟩
    replace h := h.ext hx10
    replace hm := hm.ext hx10
    replace hb3 := hb3.ext hx10
    replace hb6 := hb6.ext hx10
    replace hb7 := hb7.ext hx10
    replace hD := hD.kp hx10
    replace hx := hx.trans hx10
    clear hx10
    obtain ⟨v11, v12, v13, rfl, h11, rfl, rfl⟩ := h10
    replace h11 : In _ _ v11 _ := h11
    obtain ⟨s11, A11, n11, c11, rfl, _⟩ := id h11
    simp -implicitDefEqProofs (disch := omega) only [go_sem, Nat.reduceEqDiff, Nat.reduceAdd, ↓reduceIte]
    refine storeW_of hb7 siz35 rfl rfl fun w14 hk14 hz14 => ?_
    replace h := h.ow hk14 (by simp)
    replace hm := hm.ow hk14 (by simp)
    replace h11 := h11.ow hk14 (by simp)
    replace hb3 := hb3.kpne hk14 (by omega)
    replace hb6 := hb6.kpne hk14 (by omega)
    replace hD := hD.ow hk14
    replace hx := hx.under hk14 (fun k hk => by omega)
    clear hb7 hk14
    have hb7 := hz14; clear hz14
    refine hK9 _ _ ?_; clear hK9
    refine fin _ _ _ _ _ _ (q / 2 ^ k) (Go.Sp.hf q k inx) _ hx h11 hb7 hb3 hb6 hD (by (try simp only [upd_ap, Nat.reduceEqDiff, ↓reduceIte]); first | done | assumption | exact rfl) (by (try simp only [upd_ap, Nat.reduceEqDiff, ↓reduceIte]); first | done | assumption | exact rfl) (by (try simp only [upd_ap, Nat.reduceEqDiff, ↓reduceIte]); first | done | assumption | exact rfl) (by (try simp only [upd_ap, Nat.reduceEqDiff, ↓reduceIte]); first | done | assumption | exact rfl) (by (try simp only [upd_ap, Nat.reduceEqDiff, ↓reduceIte]); first | done | assumption | exact rfl) (by (try simp only [upd_ap, Nat.reduceEqDiff, ↓reduceIte]); first | done | assumption | exact rfl) hbq ?_
    unfold mulS
    rw [if_neg hpe, ← hk]
    congr 1
    refine ite_iff (and_congr ?_ Iff.rfl) _ _
    cases inx <;> by_cases h0 : q % 2 ^ k = 0 <;> simp [h0]
end Go.Proofs.YtjamnehcmaloeaaGreatDoor
end
section
namespace Go.Proofs.YtjamnehcmaloeaaGreatDoor
open Go Go.E Go.Sp
theorem frounded_v {D : Nat → Prop} {v : Value} {N M : Nat} {neg : Bool} {e : Int} {w : World} (hT : Tabs w) (h : In (fRe neg (N / M) e (decide (N % M ≠ 0))) D v w) (hM : 0 < M) (hN : M ≤ N) (hmb : N % M ≠ 0 → 55 ≤ bl (N / M)) (hb : bl (N / M) ≤ 200000) (he1 : -400000 ≤ e) (he2 : e ≤ 400000) (hf : Fr D w) :
    Calls Tryz.prog 159 #[v, .int .i64 0] w fun x w' => x = .returned (.int .u64 (rE 0 neg N M e : Nat)) ∧ Ext w w' := by
  obtain ⟨A, n, c, rfl, _⟩ := id h
  refine calls_W Tryz.func159 rfl Tryz.ntmps159 (by kernel_rfl) ?_
  refine W_seq_reg fun K hK => ?_
  simp -implicitDefEqProofs (disch := omega) only [go_sem, Nat.reduceEqDiff, Nat.reduceAdd, ↓reduceIte]
  refine boxW_of ?_
  intro g2 w2 hg2 hx2 hb2 hs2
  refine hK _ _ ?_; clear hK K
  have hx : Ext w w2 := hx2
  replace h := (h.nL (L := [g2]) (by intro g hg; simp at hg; omega)).ext hx
  have hD : Fr (Dl D [g2]) w2 := hf.nL hx (by intro g hg; simp at hg; omega)
  clear hx2
  have hp := Nat.div_pos hN hM
  have hL1 := bl_pos (n := N / M) (by omega)
  obtain ⟨L, hL⟩ : ∃ L, L = bl (N / M) := ⟨_, rfl⟩
  have hval := rE_eq (mode := 0) (neg := neg) (e := e) hM hN
  have hnle := rE_le (mode := 0) (neg := neg) (e := e) (q := max (e + (bl (N / M) : Int) - 53) (-1074)) hM hN (by omega)
  have hmul := mulS_rq (neg := neg) (e := e) (p := max (e + (bl (N / M) : Int) - 53) (-1074)) hM (fun h => by have := hmb h; omega)
  refine W_seq_reg fun K hK => ?_
  simp -implicitDefEqProofs (disch := omega) only [go_sem, Nat.reduceEqDiff, Nat.reduceAdd, ↓reduceIte, hb2.l5]
  refine callW_of cal207 (log2_v h (by omega) (by omega) (by omega)) ?_
  rintro _ w7 ⟨rfl, hx7⟩; refine ⟨_, rfl, ?_⟩
  replace h := h.ext hx7
  replace hb2 := hb2.ext hx7
  replace hD := hD.kp hx7
  replace hx := hx.trans hx7
  clear hx7
  rw [← hL] at hmb hb hval hnle hmul hL1 ⊢
  have e1 : IntKind.i64.wrap (e + ((L : Nat) : Int) - 1 - 52) = e + L - 53 := by rw [i64_in (by omega) (by omega)]; omega
  obtain ⟨q, hq⟩ : ∃ q, q = max (e + (L : Int) - 53) (-1074) := ⟨_, rfl⟩
  have hq' := hq.symm
  rw [hq'] at hval hnle hmul
  simp -implicitDefEqProofs (disch := omega) only [go_sem, Nat.reduceEqDiff, Nat.reduceAdd, ↓reduceIte, e1, mm_max, hq']
  refine hK _ _ ?_; clear hK
  obtain ⟨r, hr⟩ : ∃ r, r = rq 0 neg (N * 2 ^ (e - q).toNat) (M * 2 ^ (q - e).toNat) := ⟨_, rfl⟩
  rw [← hr] at hval hnle hmul
  have hbr : bl r ≤ 54 := bl_le_of (Nat.lt_of_le_of_lt hnle (by decide))
  refine W_seq_reg fun K hK => ?_
  simp -implicitDefEqProofs (disch := omega) only [go_sem, Nat.reduceEqDiff, Nat.reduceAdd, ↓reduceIte, hb2.l5]
  refine callW_of cal210 (mult_v (hT.ext hx) h (by omega) (by omega) (by omega) (by omega) (by omega) (by omega) hD) ?_
  rintro _ w8 ⟨v8, rfl, hx8, h8⟩; refine ⟨_, rfl, ?_⟩
  replace h := h.ext hx8
  replace hb2 := hb2.ext hx8
  replace hD := hD.kp hx8
  replace hx := hx.trans hx8
  clear hx8
  rw [hmul] at h8
  refine callW_of cal209 (iAbs_v h8 (by rw [sgn_nat]; omega) hD) ?_
  rintro _ w9 ⟨v9, rfl, hx9, h9⟩; refine ⟨_, rfl, ?_⟩
  replace h := h.ext hx9
  replace h8 := h8.ext hx9
  replace hb2 := hb2.ext hx9
  replace hD := hD.kp hx9
  replace hx := hx.trans hx9
  clear hx9
  rw [sgn_nat] at h9
  refine callW_of cal208 (iInt_v h9 (by omega) (by omega)) ?_
  rintro _ w10 ⟨rfl, hx10⟩; refine ⟨_, rfl, ?_⟩
  replace h := h.ext hx10
  replace h8 := h8.ext hx10
  replace h9 := h9.ext hx10
  replace hb2 := hb2.ext hx10
  replace hD := hD.kp hx10
  replace hx := hx.trans hx10
  clear hx10
  simp -implicitDefEqProofs (disch := omega) only [go_sem, Nat.reduceEqDiff, Nat.reduceAdd, ↓reduceIte]
  refine hK _ _ ?_; clear hK
  have e2 : IntKind.u64.wrap ((r : Nat) : Int) = r := u64_in (by omega) (by omega)
  refine W_seq_reg fun K hK => ?_
  simp -implicitDefEqProofs (disch := omega) only [go_sem, Nat.reduceEqDiff, Nat.reduceAdd, ↓reduceIte, e2]
  refine hK _ _ ?_; clear hK K
  refine W_seq_k fun K0 hK0 => ?_
  have fin2 : ∀ (e9 : Env) (n2 : Nat) (q2 : Int), e9 1 = .int .i64 0 → e9 2 = .pointer (some ⟨g2, 0, none⟩) → e9 5 = .int .i64 q2 → e9 8 = .int .u64 n2 → n2 < 9007199254740992 → -1074 ≤ q2 → q2 ≤ 700000 → rE 0 neg N M e = Go.Sp.fin2 0 neg n2 q2 → K0 e9 w10 := by
    intro e9 n2 q2 k1 k2 k5 k8 hn2 hq1 hq2 hres
    refine hK0 _ _ ?_; clear hK0
    unfold Go.Sp.fin2 at hres
    refine W_seq_k fun K1 hK1 => ?_
    by_cases h52 : (n2 : Int) < 4503599627370496
    · rw [if_pos (by omega)] at hres
      refine W_seq_reg fun K hK => ?_
      simp -implicitDefEqProofs (disch := omega) only [go_sem, Nat.reduceEqDiff, Nat.reduceAdd, ↓reduceIte, k8, h52]
      refine hK _ _ ?_; clear hK K
      refine W_cond rfl (fun hc => ?_) (fun hc => by cases hc)
      refine W_seq_reg fun K hK => ?_
      simp -implicitDefEqProofs (disch := omega) only [go_sem, Nat.reduceEqDiff, Nat.reduceAdd, ↓reduceIte, k8, k2, hb2.c0]
      refine callW_of cal211 (fsigned_ok (by omega)) ?_
      rintro _ _ ⟨rfl, rfl⟩; refine ⟨_, rfl, ?_⟩
      refine hK _ _ ?_; clear hK
      refine W_ret ?_
      try simp only [thenE_r, inB_r]
      refine ret1 rfl ⟨by simp only [upd_ap, Nat.reduceEqDiff, ↓reduceIte]; rw [hres], hx⟩
    · rw [if_neg (by omega)] at hres
      refine W_seq_reg fun K hK => ?_
      simp -implicitDefEqProofs (disch := omega) only [go_sem, Nat.reduceEqDiff, Nat.reduceAdd, ↓reduceIte, k8, h52]
      refine hK _ _ ?_; clear hK K
      refine W_cond rfl (fun hc => by cases hc) (fun hc => W_skip (hK1 _ _ ?_))
      clear hK1
      refine W_seq_k fun K1 hK1 => ?_
      have e4 : IntKind.i64.wrap (q2 + 1075) = q2 + 1075 := i64_in (by omega) (by omega)
      by_cases hov : q2 + 1075 ≥ 2047
      · rw [if_pos (by omega)] at hres
        refine W_seq_reg fun K hK => ?_
        simp -implicitDefEqProofs (disch := omega) only [go_sem, Nat.reduceEqDiff, Nat.reduceAdd, ↓reduceIte, k5, e4, hov]
        refine hK _ _ ?_; clear hK K
        refine W_cond rfl (fun hc => ?_) (fun hc => by cases hc)
        refine W_seq_reg fun K hK => ?_
        simp -implicitDefEqProofs (disch := omega) only [go_sem, Nat.reduceEqDiff, Nat.reduceAdd, ↓reduceIte, k2, k1, hb2.c0]
        refine callW_of cal212 (foverflow_ok) ?_
        rintro _ _ ⟨rfl, rfl⟩; refine ⟨_, rfl, ?_⟩
        refine hK _ _ ?_; clear hK
        refine W_ret ?_
        try simp only [thenE_r, inB_r]
        refine ret1 rfl ⟨by simp only [upd_ap, Nat.reduceEqDiff, ↓reduceIte]; rw [hres], hx⟩
      · rw [if_neg (by omega)] at hres
        refine W_seq_reg fun K hK => ?_
        simp -implicitDefEqProofs (disch := omega) only [go_sem, Nat.reduceEqDiff, Nat.reduceAdd, ↓reduceIte, k5, e4, hov]
        refine hK _ _ ?_; clear hK K
        refine W_cond rfl (fun hc => by cases hc) (fun hc => W_skip (hK1 _ _ ?_))
        clear hK1
        have e6 : IntKind.u64.wrap (q2 + 1075) = (((q2 + 1075).toNat : Nat) : Int) := by rw [u64_in (by omega) (by omega)]; omega
        have e8 : IntKind.u64.wrap ((n2 : Int) - 4503599627370496) = ((n2 - 4503599627370496 : Nat) : Int) := by rw [u64_in (by omega) (by omega)]; omega
        have e9 := or_exp (a := (q2 + 1075).toNat) (b := n2 - 4503599627370496) (by omega) (by omega)
        have e10 := shl64_52 (P := Tryz.prog) (t := 40) (k' := .u64) (a := (q2 + 1075).toNat) (by omega)
        refine W_seq_reg fun K hK => ?_
        simp -implicitDefEqProofs (disch := omega) only [go_sem, Nat.reduceEqDiff, Nat.reduceAdd, ↓reduceIte, k2, k5, k8, e4, e6, e8, e10, e9, hb2.c0]
        refine callW_of cal211 (fsigned_ok (by omega)) ?_
        rintro _ _ ⟨rfl, rfl⟩; refine ⟨_, rfl, ?_⟩
        refine hK _ _ ?_; clear hK
        refine W_ret ?_
        try simp only [thenE_r, inB_r]
        refine ret1 rfl ⟨by simp only [upd_ap, Nat.reduceEqDiff, ↓reduceIte]; rw [hres], hx⟩
  unfold Go.Sp.fin at hval
  by_cases h53 : r = 9007199254740992
  · have q1 : ((r : Int) == 9007199254740992) = true := by rw [h53]; rfl
    rw [if_pos h53] at hval
    refine W_seq_reg fun K hK => ?_
    simp -implicitDefEqProofs (disch := omega) only [go_sem, Nat.reduceEqDiff, Nat.reduceAdd, ↓reduceIte, q1]
    refine hK _ _ ?_; clear hK K
    refine W_cond rfl (fun hc => ?_) (fun hc => by cases hc)
    have e4 : IntKind.i64.wrap (q + 1) = q + 1 := i64_in (by omega) (by omega)
    refine W_regK fun K9 hK9 => ?_
    simp -implicitDefEqProofs (disch := omega) only [go_sem, Nat.reduceEqDiff, Nat.reduceAdd, ↓reduceIte, e4]
    refine hK9 _ _ ?_; clear hK9 K9
    exact fin2 _ 4503599627370496 (q + 1) (by (try simp only [upd_ap, Nat.reduceEqDiff, ↓reduceIte]); first | done | assumption | exact rfl) (by (try simp only [upd_ap, Nat.reduceEqDiff, ↓reduceIte]); first | done | assumption | exact rfl) (by (try simp only [upd_ap, Nat.reduceEqDiff, ↓reduceIte]); first | done | assumption | exact rfl) (by (try simp only [upd_ap, Nat.reduceEqDiff, ↓reduceIte]); first | done | assumption | exact rfl) (by omega) (by omega) (by omega) hval
  · have q1 : ((r : Int) == 9007199254740992) = false := by
      have := beqN (a := r) (b := 9007199254740992)
      rw [decide_eq_false h53] at this; exact this
    rw [if_neg h53] at hval
    refine W_seq_reg fun K hK => ?_
    simp -implicitDefEqProofs (disch := omega) only [go_sem, Nat.reduceEqDiff, Nat.reduceAdd, ↓reduceIte, q1]
    refine hK _ _ ?_; clear hK K
    refine W_cond rfl (fun hc => by cases hc) (fun hc => W_skip ?_)
    exact fin2 _ r q (by (try simp only [upd_ap, Nat.reduceEqDiff, ↓reduceIte]); first | done | assumption | exact rfl) (by (try simp only [upd_ap, Nat.reduceEqDiff, ↓reduceIte]); first | done | assumption | exact rfl) (by (try simp only [upd_ap, Nat.reduceEqDiff, ↓reduceIte]); first | done | assumption | exact rfl) (by (try simp only [upd_ap, Nat.reduceEqDiff, ↓reduceIte]); first | done | assumption | exact rfl) (by omega) (by omega) (by omega) hval
end Go.Proofs.YtjamnehcmaloeaaGreatDoor
end
