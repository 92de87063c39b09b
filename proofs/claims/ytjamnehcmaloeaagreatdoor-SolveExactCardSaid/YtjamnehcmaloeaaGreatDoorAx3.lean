/- SolveExact answers true for every input: proved in full, under the card as given (the laid table of math/bits is tied to the text). Part 3 of 6 of the proof: C6, Sl, C7, Bit, C8, C9, C10, C11, P1, P2, P3, P4, I1, P5. -/
import Derived.Test.YtjamnehcmaloeaaGreatDoorAx2
set_option linter.unusedSimpArgs false
set_option linter.unusedVariables false
section
namespace Go.Sp
theorem shI_nat (a k : Nat) : shI (a : Int) (-(k : Int)) = ((a / 2 ^ k : Nat) : Int) := by
  unfold shI
  split
  · rename_i h
    have : k = 0 := by omega
    subst this; simp
  · rw [show (- -(k : Int)).toNat = k by omega, ← pow_cast]; rfl
theorem sign_nat (a : Nat) : Int.sign (a : Int) = if a = 0 then 0 else 1 := by
  by_cases h : a = 0
  · subst h; rfl
  · rw [if_neg h, Int.sign_eq_one_of_pos (by omega)]
theorem tz_zero_iff {a : Nat} : (tz a = 0 ∧ a ≠ 0) ↔ a % 2 = 1 := by
  constructor
  · rintro ⟨h1, h2⟩
    obtain ⟨q, hq, he⟩ := tz_spec h2
    rw [h1] at he; omega
  · intro h; exact ⟨tz_odd h, by omega⟩
end Go.Sp
namespace Go.Proofs.YtjamnehcmaloeaaGreatDoor
open Go Go.E Go.Sp
theorem rCut_v {D : Nat → Prop} {v : Value} {N M k : Nat} {neg more : Bool} {mode : Int} {w : World} (hT : Tabs w) (h : In (fB ((N / M : Nat) : Int)) D v w) (hM : 0 < M) (hm : more = decide (N % M ≠ 0)) (hk : more = true → 0 < k) (hb : bl (N / M) ≤ 1000000) (hkb : k ≤ 1000000) (hf : Fr D w) :
    Calls Tryz.prog 141 #[.bool neg, v, .int .i64 k, .bool more, .int .i64 mode] w (Rt (fB (rq mode neg N (M * 2 ^ k) : Nat)) D w) := by
  obtain ⟨s, A, n, c, rfl, _⟩ := id h
  refine calls_W Tryz.func141 rfl Tryz.ntmps141 (by kernel_rfl) ?_
  refine W_seq_reg fun K hK => ?_
  simp -implicitDefEqProofs (disch := omega) only [go_sem, Nat.reduceEqDiff, Nat.reduceAdd, ↓reduceIte]
  refine boxW_of ?_
  intro g6 w6 hg6 hx6 hb6 hs6
  refine alW_of ?_
  intro g10 w10 hg10 hx10 hb10 hs10
  refine hK _ _ ?_; clear hK K
  have hx : Ext w w10 := (hx6.trans hx10)
  replace hb6 := (hb6.ext hx10)
  replace h := (h.nL (L := [g6, g10]) (by intro g hg; simp at hg; omega)).ext hx
  have hD : Fr (Dl D [g6, g10]) w10 := hf.nL hx (by intro g hg; simp at hg; omega)
  clear hx6 hx10
  have hrq := rq_up (mode := mode) (neg := neg) (k := k) hM (fun h => hk (by rw [hm]; simpa using h))
  obtain ⟨m, hme⟩ : ∃ m, m = N / M := ⟨_, rfl⟩
  rw [← hme] at hrq h hb
  have hbq : bl (m / 2 ^ k) ≤ 1000000 := Nat.le_trans (bl_mono (Nat.div_le_self _ _)) hb
  refine W_seq_reg fun K hK => ?_
  simp -implicitDefEqProofs (disch := omega) only [go_sem, Nat.reduceEqDiff, Nat.reduceAdd, ↓reduceIte, hb6.l2]
  refine callW_of cal127 (rdown_v h (by first | omega | (simp only [Int.natAbs_natCast, Int.natAbs_neg]; omega)) (by omega) hD) ?_
  rintro _ w11 ⟨v11, rfl, hx11, h11⟩; refine ⟨_, rfl, ?_⟩
  replace h := h.ext hx11
  replace hb6 := hb6.ext hx11
  replace hb10 := hb10.ext hx11
  replace hD := hD.kp hx11
  replace hx := hx.trans hx11
  clear hx11
  rw [shI_nat] at h11
  obtain ⟨s11, A11, n11, c11, rfl, _⟩ := id h11
  refine alW_of ?_
  intro g12 w12a hg12 hx12a hb12a hs12
  have hgl12 := hx.size
  have hn12hb6 := hb6.lt
  have hn12hb10 := hb10.lt
  refine storeW_of hb12a siz35 rfl rfl fun w12 hk12 hb12 => ?_
  have hy12 : Ext w11 w12 := hx12a.under hk12 (fun k hk => by omega)
  replace h := ((h.nw (g := g12) (by omega)).ext hx12a).ow hk12 (by simp)
  replace h11 := ((h11.nw (g := g12) (by omega)).ext hx12a).ow hk12 (by simp)
  replace hb6 := hb6.ext hy12
  replace hb10 := hb10.ext hy12
  replace hD := (hD.nw (g := g12) hx12a (by omega)).ow hk12
  replace hx := hx.trans hy12
  have hq12 := hk12.size
  clear hx12a hk12 hb12a hy12
  refine hK _ _ ?_; clear hK
  refine W_seq_reg fun K hK => ?_
  simp -implicitDefEqProofs (disch := omega) only [go_sem, Nat.reduceEqDiff, Nat.reduceAdd, ↓reduceIte, hb6.l2]
  refine callW_of cal194 (rLost_v h (by first | omega | (simp only [Int.natAbs_natCast, Int.natAbs_neg]; omega)) (by omega) hD) ?_
  rintro _ w13 ⟨rfl, hx13⟩; refine ⟨_, rfl, ?_⟩
  replace h := h.ext hx13
  replace h11 := h11.ext hx13
  replace hb6 := hb6.ext hx13
  replace hb10 := hb10.ext hx13
  replace hb12 := hb12.ext hx13
  replace hD := hD.kp hx13
  replace hx := hx.trans hx13
  clear hx13
  refine hK _ _ ?_; clear hK
  rw [Int.natAbs_natCast]
  refine W_seq_k fun K0 hK0 => ?_
  by_cases hex : m % 2 ^ k = 0 ∧ more = false
  · obtain ⟨hex, hmo⟩ := hex
    have q1 : decide (m % 2 ^ k ≠ 0) = false := by simp [hex]
    have hnm : N % M = 0 := by rw [hmo] at hm; simpa using hm.symm
    refine W_seq_reg fun K hK => ?_
    simp -implicitDefEqProofs (disch := omega) only [go_sem, Nat.reduceEqDiff, Nat.reduceAdd, ↓reduceIte, q1, hmo]
    refine hK _ _ ?_; clear hK K
    refine W_cond rfl (fun hc => ?_) (fun hc => by cases hc)
    have hval : ((m / 2 ^ k : Nat) : Int) = (rq mode neg N (M * 2 ^ k) : Nat) := by rw [hrq, hex, hnm]; simp
    rw [hval] at h11
    refine W_seq_reg fun K hK => ?_
    simp -implicitDefEqProofs (disch := omega) only [go_sem, Nat.reduceEqDiff, Nat.reduceAdd, ↓reduceIte, hb12.l2]
    refine storeS hb10 siz35 rfl (fB_s h11) fun w90 hk90 hb90 => ?_
    refine hK _ _ ?_; clear hK
    refine W_ret ?_
    try simp only [thenE_r, inB_r]
    exact retS rfl (by first | exact rfl | assumption | exact (by (try simp only [upd_ap, Nat.reduceEqDiff, ↓reduceIte]); first | done | assumption | exact rfl)) agg35 hb90 (fB_s h11) (Rt.fin hx h11 hk90 (by simp) (by omega))
  · have hnex : m % 2 ^ k ≠ 0 ∨ N % M ≠ 0 := by
      rcases Nat.eq_zero_or_pos (N % M) with h0 | h0
      · left; intro h1; exact hex ⟨h1, by rw [hm, h0]; rfl⟩
      · right; omega
    have next : ∀ e1 : Env, e1 0 = .bool neg → e1 2 = .int .i64 k → e1 3 = .bool more → e1 4 = .int .i64 mode → e1 6 = .pointer (some ⟨g6, 0, none⟩) → e1 10 = .pointer (some ⟨g10, 0, none⟩) → e1 11 = .pointer (some ⟨g12, 0, none⟩) → K0 e1 w13 := by
      intro e1 p0 p2 p3 p4 p6 p10 p11
      refine hK0 _ _ ?_; clear hK0
      refine W_seq_reg fun K hK => ?_
      simp -implicitDefEqProofs (disch := omega) only [go_sem, Nat.reduceEqDiff, Nat.reduceAdd, ↓reduceIte]
      refine hK _ _ ?_; clear hK K
      refine W_seq_k fun K0 hK0 => ?_
      have st1 : ∀ (e2 : Env) (w2 : World), Ext w13 w2 → e2 0 = .bool neg → e2 4 = .int .i64 mode → e2 10 = .pointer (some ⟨g10, 0, none⟩) → e2 11 = .pointer (some ⟨g12, 0, none⟩) → e2 13 = .int .i64 (halfS N M k) → K0 e2 w2 := by
        intro e2 w2 hx2 p0 p4 p10 p11 p13
        refine hK0 _ _ ?_; clear hK0
        replace h := h.ext hx2
        replace h11 := h11.ext hx2
        replace hb6 := hb6.ext hx2
        replace hb10 := hb10.ext hx2
        replace hb12 := hb12.ext hx2
        replace hD := hD.kp hx2
        replace hx := hx.trans hx2
        have hsg := sign_nat (m / 2 ^ k)
        refine W_seq_reg fun K hK => ?_
        simp -implicitDefEqProofs (disch := omega) only [go_sem, Nat.reduceEqDiff, Nat.reduceAdd, ↓reduceIte, p11, hb12.l2]
        refine callW_of cal63 (rSign_v h11 (by first | omega | (simp only [Int.natAbs_natCast, Int.natAbs_neg]; omega)) hD) ?_
        rintro _ w14 ⟨rfl, hx14⟩; refine ⟨_, rfl, ?_⟩
        replace h := h.ext hx14
        replace h11 := h11.ext hx14
        replace hb6 := hb6.ext hx14
        replace hb10 := hb10.ext hx14
        replace hb12 := hb12.ext hx14
        replace hD := hD.kp hx14
        replace hx := hx.trans hx14
        clear hx14
        rw [hsg]
        have st2 : ∀ (e3 : Env) (w3 : World), Ext w14 w3 → e3 0 = .bool neg → e3 4 = .int .i64 mode → e3 10 = .pointer (some ⟨g10, 0, none⟩) → e3 11 = .pointer (some ⟨g12, 0, none⟩) → e3 13 = .int .i64 (halfS N M k) → e3 15 = .bool (decide (m / 2 ^ k % 2 = 1)) → K e3 w3 := by
          intro e3 w3 hx3 p0 p4 p10 p11 p13 p15
          refine hK _ _ ?_; clear hK
          replace h := h.ext hx3
          replace h11 := h11.ext hx3
          replace hb6 := hb6.ext hx3
          replace hb10 := hb10.ext hx3
          replace hb12 := hb12.ext hx3
          replace hD := hD.kp hx3
          replace hx := hx.trans hx3
          refine W_seq_k fun K1 hK1 => ?_
          refine W_seq_reg fun K hK => ?_
          simp -implicitDefEqProofs (disch := omega) only [go_sem, Nat.reduceEqDiff, Nat.reduceAdd, ↓reduceIte, p0, p4, p13, p15]
          refine callW_of cal195 (rUp_ok) ?_
          rintro _ _ ⟨rfl, rfl⟩; refine ⟨_, rfl, ?_⟩
          refine hK _ _ ?_; clear hK
          by_cases hu : upS mode neg (halfS N M k) (decide (m / 2 ^ k % 2 = 1)) = true
          · rw [if_pos ⟨by rw [← hme] at *; exact hnex, hu⟩] at hrq
            refine W_cond rfl (fun hc => ?_) (fun hc => by rw [hu] at hc; cases hc)
            have hv1 : ((m / 2 ^ k : Nat) : Int) + 1 = (rq mode neg N (M * 2 ^ k) : Nat) := by rw [hrq]; rfl
            refine W_dT true mixed (Kp.pre (fun _ => True)) (fun _ _ _ h => h) [true, false, false, false] [(64, Fam.S (fB 1) (Dl D [g12, g6, g10])), (65, Fam.S (fB (((m / 2 ^ k : Nat) : Int) + 1)) (Dl D [g12, g6, g10]))] 3 (by kernel_rfl) fun KE hKE => ?_
            simp -implicitDefEqProofs (disch := omega) only [go_sem, Nat.reduceEqDiff, Nat.reduceAdd, ↓reduceIte, p11, hb12.l2]
            refine hKE _ ⟨?_, fun e' w' hw hs ho => ?_⟩ <;> clear hKE KE
            · refine stepsL_cons (fun e' w' hw hd ho => ?_) ?_
              · skip
                simp -implicitDefEqProofs (disch := omega) only [go_sem, Nat.reduceEqDiff, Nat.reduceAdd, ↓reduceIte]
                refine callW_of cal138 (rFromInt_v (by omega) (by omega) (hD.kp hw)) ?_
                rintro _ w9 ⟨v9, rfl, hx9, h9⟩; refine ⟨_, rfl, ?_⟩
                exact ⟨hx9, fun d hd => by cases hd; exact h9⟩
              refine stepsL_cons (fun e' w' hw hd ho => ?_) ?_
              · skip
                have o63 := ho 63 (by kernel_rfl) (by kernel_rfl)
                have h64 : In (fB 1) (Dl D [g12, g6, g10]) (e' 64) w' := hd 64 (by kernel_rfl) (by kernel_rfl)
                simp -implicitDefEqProofs (disch := omega) only [go_sem, Nat.reduceEqDiff, Nat.reduceAdd, ↓reduceIte, o63]
                refine callW_of cal64 (rAdd_v (h11.ext hw) h64 (by first | omega | (simp only [Int.natAbs_natCast, Int.natAbs_neg]; omega)) (by decide) (hD.kp hw)) ?_
                rintro _ w9 ⟨v9, rfl, hx9, h9⟩; refine ⟨_, rfl, ?_⟩
                exact ⟨hx9, fun d hd => by cases hd; exact h9⟩
              exact stepsL_nil
            · have z11 := ho 11 (by kernel_rfl)
              have h65 : In (fB (((m / 2 ^ k : Nat) : Int) + 1)) (Dl D [g12, g6, g10]) (e' 65) w' := hs 65 (by kernel_rfl)
              have z10 := ho 10 (by kernel_rfl)
              clear hs ho
              simp -implicitDefEqProofs only [upd_ap, Nat.reduceEqDiff, ↓reduceIte, env_z, env_s, List.toList_toArray, p11, p10] at z11 z10
              have o11 := z11
              clear z11
              have o10 := z10
              clear z10
              replace h := h.ext hw
              replace h11 := h11.ext hw
              replace hb6 := hb6.ext hw
              replace hb10 := hb10.ext hw
              replace hb12 := hb12.ext hw
              replace hD := hD.kp hw
              replace hx := hx.trans hw
              simp -implicitDefEqProofs (disch := omega) only [List.drop_succ_cons, List.drop_zero, go_sem, Nat.reduceEqDiff, Nat.reduceAdd, ↓reduceIte, o11, o10, p11, p10]
              obtain ⟨s65, A65, n65, c65, q65, -⟩ := id h65
              rw [q65] at h65
              simp -implicitDefEqProofs (disch := omega) only [go_sem, Nat.reduceEqDiff, Nat.reduceAdd, ↓reduceIte, q65]
              rw [hv1] at h65
              refine storeW_of hb12 siz35 rfl rfl fun w66 hk66 hz66 => ?_
              replace h := h.ow hk66 (by simp)
              replace h11 := h11.ow hk66 (by simp)
              replace h65 := h65.ow hk66 (by simp)
              replace hb6 := hb6.kpne hk66 (by omega)
              replace hb10 := hb10.kpne hk66 (by omega)
              replace hD := hD.ow hk66
              replace hx := hx.under hk66 (fun k hk => by omega)
              clear hb12 hk66
              have hb12 := hz66; clear hz66
              simp only [thenE_n]
              refine hK1 _ _ ?_; clear hK1
              refine W_seq_reg fun K hK => ?_
              simp -implicitDefEqProofs (disch := omega) only [go_sem, Nat.reduceEqDiff, Nat.reduceAdd, ↓reduceIte, o11, o10, hb12.l2]
              refine storeS hb10 siz35 rfl (fB_s h65) fun w90 hk90 hb90 => ?_
              refine hK _ _ ?_; clear hK
              refine W_ret ?_
              try simp only [thenE_r, inB_r]
              exact retS rfl (by first | exact rfl | assumption | exact (by (try simp only [upd_ap, Nat.reduceEqDiff, ↓reduceIte]); first | done | assumption | exact rfl)) agg35 hb90 (fB_s h65) (Rt.fin hx h65 hk90 (by simp) (by omega))
          · rw [if_neg (fun h => hu h.2)] at hrq
            refine W_cond rfl (fun hc => by rw [Bool.not_eq_true] at hu; rw [hu] at hc; cases hc) (fun hc => W_skip (hK1 _ _ ?_))
            clear hK1
            rw [← Nat.add_zero (m / 2 ^ k), ← hrq] at h11
            refine W_seq_reg fun K hK => ?_
            simp -implicitDefEqProofs (disch := omega) only [go_sem, Nat.reduceEqDiff, Nat.reduceAdd, ↓reduceIte, p11, p10, hb12.l2]
            refine storeS hb10 siz35 rfl (fB_s h11) fun w90 hk90 hb90 => ?_
            refine hK _ _ ?_; clear hK
            refine W_ret ?_
            try simp only [thenE_r, inB_r]
            exact retS rfl (by first | exact rfl | assumption | exact (by (try simp only [upd_ap, Nat.reduceEqDiff, ↓reduceIte]); first | done | assumption | exact rfl)) agg35 hb90 (fB_s h11) (Rt.fin hx h11 hk90 (by simp) (by omega))
        by_cases hq0 : m / 2 ^ k = 0
        · rw [if_pos hq0]
          have q1 : ((0 : Int) != 0) = false := rfl
          simp -implicitDefEqProofs (disch := omega) only [go_sem, Nat.reduceEqDiff, Nat.reduceAdd, ↓reduceIte, q1]
          exact st2 _ _ (Kp.refl _ _) (by (try simp only [upd_ap, Nat.reduceEqDiff, ↓reduceIte]); first | done | assumption | exact rfl) (by (try simp only [upd_ap, Nat.reduceEqDiff, ↓reduceIte]); first | done | assumption | exact rfl) (by (try simp only [upd_ap, Nat.reduceEqDiff, ↓reduceIte]); first | done | assumption | exact rfl) (by (try simp only [upd_ap, Nat.reduceEqDiff, ↓reduceIte]); first | done | assumption | exact rfl) (by (try simp only [upd_ap, Nat.reduceEqDiff, ↓reduceIte]); first | done | assumption | exact rfl) (by simp only [upd_ap, Nat.reduceEqDiff, ↓reduceIte]; rw [hq0]; rfl)
        · rw [if_neg hq0]
          have q1 : ((1 : Int) != 0) = true := rfl
          simp -implicitDefEqProofs (disch := omega) only [go_sem, Nat.reduceEqDiff, Nat.reduceAdd, ↓reduceIte, q1, p11, hb12.c0, hb12.c1]
          have ht : Ext w14 w14 := Kp.refl _ _
          refine callW_of cal126 (rTZ_v (hT.ext hx) h11 (by first | omega | (simp only [Int.natAbs_natCast, Int.natAbs_neg]; omega))) ?_
          rintro _ w15 ⟨rfl, hx15⟩; refine ⟨_, rfl, ?_⟩
          replace h := h.ext hx15
          replace h11 := h11.ext hx15
          replace hb6 := hb6.ext hx15
          replace hb10 := hb10.ext hx15
          replace hb12 := hb12.ext hx15
          replace hD := hD.kp hx15
          replace hx := hx.trans hx15
          replace ht := ht.trans hx15
          clear hx15
          rw [Int.natAbs_natCast]
          by_cases ho : m / 2 ^ k % 2 = 1
          · have q2 : (((tz (m / 2 ^ k) : Nat) : Int) == 0) = true := by rw [tz_odd ho]; rfl
            simp -implicitDefEqProofs (disch := omega) only [go_sem, Nat.reduceEqDiff, Nat.reduceAdd, ↓reduceIte, q2]
            exact st2 _ _ ht (by (try simp only [upd_ap, Nat.reduceEqDiff, ↓reduceIte]); first | done | assumption | exact rfl) (by (try simp only [upd_ap, Nat.reduceEqDiff, ↓reduceIte]); first | done | assumption | exact rfl) (by (try simp only [upd_ap, Nat.reduceEqDiff, ↓reduceIte]); first | done | assumption | exact rfl) (by (try simp only [upd_ap, Nat.reduceEqDiff, ↓reduceIte]); first | done | assumption | exact rfl) (by (try simp only [upd_ap, Nat.reduceEqDiff, ↓reduceIte]); first | done | assumption | exact rfl) (by simp only [upd_ap, Nat.reduceEqDiff, ↓reduceIte]; rw [decide_eq_true ho])
          · have q2 : (((tz (m / 2 ^ k) : Nat) : Int) == 0) = false := by
              rw [beq0]; refine decide_eq_false fun h => ho (tz_zero_iff.1 ⟨h, hq0⟩)
            simp -implicitDefEqProofs (disch := omega) only [go_sem, Nat.reduceEqDiff, Nat.reduceAdd, ↓reduceIte, q2]
            exact st2 _ _ ht (by (try simp only [upd_ap, Nat.reduceEqDiff, ↓reduceIte]); first | done | assumption | exact rfl) (by (try simp only [upd_ap, Nat.reduceEqDiff, ↓reduceIte]); first | done | assumption | exact rfl) (by (try simp only [upd_ap, Nat.reduceEqDiff, ↓reduceIte]); first | done | assumption | exact rfl) (by (try simp only [upd_ap, Nat.reduceEqDiff, ↓reduceIte]); first | done | assumption | exact rfl) (by (try simp only [upd_ap, Nat.reduceEqDiff, ↓reduceIte]); first | done | assumption | exact rfl) (by simp only [upd_ap, Nat.reduceEqDiff, ↓reduceIte]; rw [decide_eq_false ho])
      by_cases hk0 : 0 < k
      · have q0 : ((k : Int) > 0) := by omega
        refine W_seq_reg fun K hK => ?_
        simp -implicitDefEqProofs (disch := omega) only [go_sem, Nat.reduceEqDiff, Nat.reduceAdd, ↓reduceIte, p2, q0]
        refine hK _ _ ?_; clear hK K
        refine W_cond rfl (fun hc => ?_) (fun hc => by cases hc)
        have hr : Ext w13 w13 := Kp.refl _ _
        have e1' : IntKind.i64.wrap ((k : Int) - 1) = ((k - 1 : Nat) : Int) := by rw [i64_in (by omega) (by omega)]; omega
        refine W_seq_reg fun K hK => ?_
        simp -implicitDefEqProofs (disch := omega) only [go_sem, Nat.reduceEqDiff, Nat.reduceAdd, ↓reduceIte, p6, p2, hb6.l2, e1']
        refine callW_of cal127 (rdown_v h (by first | omega | (simp only [Int.natAbs_natCast, Int.natAbs_neg]; omega)) (by omega) hD) ?_
        rintro _ w14 ⟨v14, rfl, hx14, h14⟩; refine ⟨_, rfl, ?_⟩
        replace h := h.ext hx14
        replace h11 := h11.ext hx14
        replace hb6 := hb6.ext hx14
        replace hb10 := hb10.ext hx14
        replace hb12 := hb12.ext hx14
        replace hD := hD.kp hx14
        replace hx := hx.trans hx14
        replace hr := hr.trans hx14
        clear hx14
        rw [shI_nat] at h14
        obtain ⟨s14, A14, n14, c14, rfl, _⟩ := id h14
        refine alW_of ?_
        intro g15 w15a hg15 hx15a hb15a hs15
        have hgl15 := hx.size
        have hn15hb6 := hb6.lt
        have hn15hb10 := hb10.lt
        have hn15hb12 := hb12.lt
        refine storeW_of hb15a siz35 rfl rfl fun w15 hk15 hb15 => ?_
        have hy15 : Ext w14 w15 := hx15a.under hk15 (fun k hk => by omega)
        replace h := ((h.nw (g := g15) (by omega)).ext hx15a).ow hk15 (by simp)
        replace h11 := ((h11.nw (g := g15) (by omega)).ext hx15a).ow hk15 (by simp)
        replace h14 := ((h14.nw (g := g15) (by omega)).ext hx15a).ow hk15 (by simp)
        replace hb6 := hb6.ext hy15
        replace hb10 := hb10.ext hy15
        replace hb12 := hb12.ext hy15
        replace hD := (hD.nw (g := g15) hx15a (by omega)).ow hk15
        replace hx := hx.trans hy15
        replace hr := hr.trans hy15
        have hq15 := hk15.size
        clear hx15a hk15 hb15a hy15
        refine hK _ _ ?_; clear hK
        have hbb : bl (m / 2 ^ (k - 1)) ≤ 1000000 := Nat.le_trans (bl_mono (Nat.div_le_self _ _)) hb
        obtain ⟨b, hbe⟩ : ∃ b, b = m / 2 ^ (k - 1) := ⟨_, rfl⟩
        rw [← hbe] at h14 hbb
        refine W_seq_reg fun K hK => ?_
        simp -implicitDefEqProofs (disch := omega) only [go_sem, Nat.reduceEqDiff, Nat.reduceAdd, ↓reduceIte, hb15.l2]
        refine callW_of cal126 (rTZ_v (hT.ext hx) h14 (by first | omega | (simp only [Int.natAbs_natCast, Int.natAbs_neg]; omega))) ?_
        rintro _ w16 ⟨rfl, hx16⟩; refine ⟨_, rfl, ?_⟩
        replace h := h.ext hx16
        replace h11 := h11.ext hx16
        replace h14 := h14.ext hx16
        replace hb6 := hb6.ext hx16
        replace hb10 := hb10.ext hx16
        replace hb12 := hb12.ext hx16
        replace hb15 := hb15.ext hx16
        replace hD := hD.kp hx16
        replace hx := hx.trans hx16
        replace hr := hr.trans hx16
        clear hx16
        rw [Int.natAbs_natCast]
        by_cases ho : b % 2 = 1
        · have q2 : (((tz b : Nat) : Int) == 0) = true := by rw [tz_odd ho]; rfl
          simp -implicitDefEqProofs (disch := omega) only [go_sem, Nat.reduceEqDiff, Nat.reduceAdd, ↓reduceIte, q2, hb15.c0, hb15.c1]
          refine callW_of cal63 (rSign_v h14 (by first | omega | (simp only [Int.natAbs_natCast, Int.natAbs_neg]; omega)) hD) ?_
          rintro _ w17 ⟨rfl, hx17⟩; refine ⟨_, rfl, ?_⟩
          replace h := h.ext hx17
          replace h11 := h11.ext hx17
          replace h14 := h14.ext hx17
          replace hb6 := hb6.ext hx17
          replace hb10 := hb10.ext hx17
          replace hb12 := hb12.ext hx17
          replace hb15 := hb15.ext hx17
          replace hD := hD.kp hx17
          replace hx := hx.trans hx17
          replace hr := hr.trans hx17
          clear hx17
          have hs1 : Int.sign (b : Int) = 1 := by rw [sign_nat, if_neg (by omega)]
          have q3 : (Int.sign (b : Int) != 0) = true := by rw [hs1]; rfl
          simp -implicitDefEqProofs (disch := omega) only [go_sem, Nat.reduceEqDiff, Nat.reduceAdd, ↓reduceIte, q3]
          refine hK _ _ ?_; clear hK
          refine W_cond rfl (fun hc => ?_) (fun hc => by cases hc)
          refine W_seq_reg fun K hK => ?_
          simp -implicitDefEqProofs (disch := omega) only [go_sem, Nat.reduceEqDiff, Nat.reduceAdd, ↓reduceIte]
          refine hK _ _ ?_; clear hK K
          have hh : halfS N M k = if N % M ≠ 0 ∨ m % 2 ^ (k - 1) ≠ 0 then 1 else 0 := by
            unfold halfS; rw [← hme, if_pos ⟨hk0, by rw [← hbe]; exact ho⟩]
          cases more
          · have hnm : N % M = 0 := by simpa using hm.symm
            refine W_seq_reg fun K hK => ?_
            simp -implicitDefEqProofs (disch := omega) only [go_sem, Nat.reduceEqDiff, Nat.reduceAdd, ↓reduceIte, p3, p6, p2, hb6.l2, e1']
            refine callW_of cal194 (rLost_v h (by first | omega | (simp only [Int.natAbs_natCast, Int.natAbs_neg]; omega)) (by omega) hD) ?_
            rintro _ w18 ⟨rfl, hx18⟩; refine ⟨_, rfl, ?_⟩
            replace h := h.ext hx18
            replace h11 := h11.ext hx18
            replace h14 := h14.ext hx18
            replace hb6 := hb6.ext hx18
            replace hb10 := hb10.ext hx18
            replace hb12 := hb12.ext hx18
            replace hb15 := hb15.ext hx18
            replace hD := hD.kp hx18
            replace hx := hx.trans hx18
            replace hr := hr.trans hx18
            clear hx18
            rw [Int.natAbs_natCast]
            by_cases hl : m % 2 ^ (k - 1) = 0
            · have q4 : decide (m % 2 ^ (k - 1) ≠ 0) = false := by simp [hl]
              simp -implicitDefEqProofs (disch := omega) only [go_sem, Nat.reduceEqDiff, Nat.reduceAdd, ↓reduceIte, q4]
              refine hK _ _ ?_; clear hK
              refine W_cond rfl (fun hc => by cases hc) (fun hc => W_skip ?_)
              exact st1 _ _ hr (by (try simp only [upd_ap, Nat.reduceEqDiff, ↓reduceIte]); first | done | assumption | exact rfl) (by (try simp only [upd_ap, Nat.reduceEqDiff, ↓reduceIte]); first | done | assumption | exact rfl) (by (try simp only [upd_ap, Nat.reduceEqDiff, ↓reduceIte]); first | done | assumption | exact rfl) (by (try simp only [upd_ap, Nat.reduceEqDiff, ↓reduceIte]); first | done | assumption | exact rfl) (by simp only [upd_ap, Nat.reduceEqDiff, ↓reduceIte]; rw [hh, if_neg (by omega)])
            · have q4 : decide (m % 2 ^ (k - 1) ≠ 0) = true := by simp [hl]
              simp -implicitDefEqProofs (disch := omega) only [go_sem, Nat.reduceEqDiff, Nat.reduceAdd, ↓reduceIte, q4]
              refine hK _ _ ?_; clear hK
              refine W_cond rfl (fun hc => ?_) (fun hc => by cases hc)
              refine W_regK fun K9 hK9 => ?_
              simp -implicitDefEqProofs (disch := omega) only [go_sem, Nat.reduceEqDiff, Nat.reduceAdd, ↓reduceIte]
              refine hK9 _ _ ?_; clear hK9 K9
              exact st1 _ _ hr (by (try simp only [upd_ap, Nat.reduceEqDiff, ↓reduceIte]); first | done | assumption | exact rfl) (by (try simp only [upd_ap, Nat.reduceEqDiff, ↓reduceIte]); first | done | assumption | exact rfl) (by (try simp only [upd_ap, Nat.reduceEqDiff, ↓reduceIte]); first | done | assumption | exact rfl) (by (try simp only [upd_ap, Nat.reduceEqDiff, ↓reduceIte]); first | done | assumption | exact rfl) (by simp only [upd_ap, Nat.reduceEqDiff, ↓reduceIte]; rw [hh, if_pos (by omega)])
          · have hnm : N % M ≠ 0 := by simpa using hm.symm
            refine W_seq_reg fun K hK => ?_
            simp -implicitDefEqProofs (disch := omega) only [go_sem, Nat.reduceEqDiff, Nat.reduceAdd, ↓reduceIte, p3]
            refine hK _ _ ?_; clear hK K
            refine W_cond rfl (fun hc => ?_) (fun hc => by cases hc)
            refine W_regK fun K9 hK9 => ?_
            simp -implicitDefEqProofs (disch := omega) only [go_sem, Nat.reduceEqDiff, Nat.reduceAdd, ↓reduceIte]
            refine hK9 _ _ ?_; clear hK9 K9
            exact st1 _ _ (by first | exact hr | assumption) (by (try simp only [upd_ap, Nat.reduceEqDiff, ↓reduceIte]); first | done | assumption | exact rfl) (by (try simp only [upd_ap, Nat.reduceEqDiff, ↓reduceIte]); first | done | assumption | exact rfl) (by (try simp only [upd_ap, Nat.reduceEqDiff, ↓reduceIte]); first | done | assumption | exact rfl) (by (try simp only [upd_ap, Nat.reduceEqDiff, ↓reduceIte]); first | done | assumption | exact rfl) (by simp only [upd_ap, Nat.reduceEqDiff, ↓reduceIte]; rw [hh, if_pos (by omega)])
        · have hh : halfS N M k = -1 := by
            unfold halfS; rw [← hme, if_neg (fun h => ho (by rw [hbe]; exact h.2))]
          by_cases hb0 : b = 0
          · subst hb0
            have q2 : (((tz 0 : Nat) : Int) == 0) = true := rfl
            simp -implicitDefEqProofs (disch := omega) only [go_sem, Nat.reduceEqDiff, Nat.reduceAdd, ↓reduceIte, q2, hb15.c0, hb15.c1]
            refine callW_of cal63 (rSign_v h14 (by first | omega | (simp only [Int.natAbs_natCast, Int.natAbs_neg]; omega)) hD) ?_
            rintro _ w17 ⟨rfl, hx17⟩; refine ⟨_, rfl, ?_⟩
            replace h := h.ext hx17
            replace h11 := h11.ext hx17
            replace h14 := h14.ext hx17
            replace hb6 := hb6.ext hx17
            replace hb10 := hb10.ext hx17
            replace hb12 := hb12.ext hx17
            replace hb15 := hb15.ext hx17
            replace hD := hD.kp hx17
            replace hx := hx.trans hx17
            replace hr := hr.trans hx17
            clear hx17
            have q3 : (Int.sign ((0 : Nat) : Int) != 0) = false := rfl
            simp -implicitDefEqProofs (disch := omega) only [go_sem, Nat.reduceEqDiff, Nat.reduceAdd, ↓reduceIte, q3]
            refine hK _ _ ?_; clear hK
            refine W_cond rfl (fun hc => by cases hc) (fun hc => W_skip ?_)
            exact st1 _ _ hr (by (try simp only [upd_ap, Nat.reduceEqDiff, ↓reduceIte]); first | done | assumption | exact rfl) (by (try simp only [upd_ap, Nat.reduceEqDiff, ↓reduceIte]); first | done | assumption | exact rfl) (by (try simp only [upd_ap, Nat.reduceEqDiff, ↓reduceIte]); first | done | assumption | exact rfl) (by (try simp only [upd_ap, Nat.reduceEqDiff, ↓reduceIte]); first | done | assumption | exact rfl) (by simp only [upd_ap, Nat.reduceEqDiff, ↓reduceIte]; rw [hh]; try assumption)
          · have q2 : (((tz b : Nat) : Int) == 0) = false := by
              rw [beq0]; refine decide_eq_false fun h => ho (tz_zero_iff.1 ⟨h, hb0⟩)
            simp -implicitDefEqProofs (disch := omega) only [go_sem, Nat.reduceEqDiff, Nat.reduceAdd, ↓reduceIte, q2]
            refine hK _ _ ?_; clear hK
            refine W_cond rfl (fun hc => by cases hc) (fun hc => W_skip ?_)
            exact st1 _ _ hr (by (try simp only [upd_ap, Nat.reduceEqDiff, ↓reduceIte]); first | done | assumption | exact rfl) (by (try simp only [upd_ap, Nat.reduceEqDiff, ↓reduceIte]); first | done | assumption | exact rfl) (by (try simp only [upd_ap, Nat.reduceEqDiff, ↓reduceIte]); first | done | assumption | exact rfl) (by (try simp only [upd_ap, Nat.reduceEqDiff, ↓reduceIte]); first | done | assumption | exact rfl) (by simp only [upd_ap, Nat.reduceEqDiff, ↓reduceIte]; rw [hh]; try assumption)
      · have q0 : ¬ ((k : Int) > 0) := by omega
        refine W_seq_reg fun K hK => ?_
        simp -implicitDefEqProofs (disch := omega) only [go_sem, Nat.reduceEqDiff, Nat.reduceAdd, ↓reduceIte, p2, q0]
        refine hK _ _ ?_; clear hK K
        refine W_cond rfl (fun hc => by cases hc) (fun hc => W_skip ?_)
        exact st1 _ _ (Kp.refl _ _) (by (try simp only [upd_ap, Nat.reduceEqDiff, ↓reduceIte]); first | done | assumption | exact rfl) (by (try simp only [upd_ap, Nat.reduceEqDiff, ↓reduceIte]); first | done | assumption | exact rfl) (by (try simp only [upd_ap, Nat.reduceEqDiff, ↓reduceIte]); first | done | assumption | exact rfl) (by (try simp only [upd_ap, Nat.reduceEqDiff, ↓reduceIte]); first | done | assumption | exact rfl) (by simp only [upd_ap, Nat.reduceEqDiff, ↓reduceIte]; unfold halfS; rw [if_neg (fun h => hk0 h.1)])
    cases more
    · have q1 : decide (m % 2 ^ k ≠ 0) = true := by
        have : m % 2 ^ k ≠ 0 := fun h => hex ⟨h, rfl⟩
        simpa using this
      refine W_seq_reg fun K hK => ?_
      simp -implicitDefEqProofs (disch := omega) only [go_sem, Nat.reduceEqDiff, Nat.reduceAdd, ↓reduceIte, q1]
      refine hK _ _ ?_; clear hK K
      refine W_cond rfl (fun hc => by cases hc) (fun hc => W_skip ?_)
      exact next _ (by (try simp only [upd_ap, Nat.reduceEqDiff, ↓reduceIte]); first | done | assumption | exact rfl) (by (try simp only [upd_ap, Nat.reduceEqDiff, ↓reduceIte]); first | done | assumption | exact rfl) (by (try simp only [upd_ap, Nat.reduceEqDiff, ↓reduceIte]); first | done | assumption | exact rfl) (by (try simp only [upd_ap, Nat.reduceEqDiff, ↓reduceIte]); first | done | assumption | exact rfl) (by (try simp only [upd_ap, Nat.reduceEqDiff, ↓reduceIte]); first | done | assumption | exact rfl) (by (try simp only [upd_ap, Nat.reduceEqDiff, ↓reduceIte]); first | done | assumption | exact rfl) (by (try simp only [upd_ap, Nat.reduceEqDiff, ↓reduceIte]); first | done | assumption | exact rfl)
    · by_cases hz : m % 2 ^ k = 0
      · have q1 : decide (m % 2 ^ k ≠ 0) = false := by simp [hz]
        refine W_seq_reg fun K hK => ?_
        simp -implicitDefEqProofs (disch := omega) only [go_sem, Nat.reduceEqDiff, Nat.reduceAdd, ↓reduceIte, q1]
        refine hK _ _ ?_; clear hK K
        refine W_cond rfl (fun hc => by cases hc) (fun hc => W_skip ?_)
        exact next _ (by (try simp only [upd_ap, Nat.reduceEqDiff, ↓reduceIte]); first | done | assumption | exact rfl) (by (try simp only [upd_ap, Nat.reduceEqDiff, ↓reduceIte]); first | done | assumption | exact rfl) (by (try simp only [upd_ap, Nat.reduceEqDiff, ↓reduceIte]); first | done | assumption | exact rfl) (by (try simp only [upd_ap, Nat.reduceEqDiff, ↓reduceIte]); first | done | assumption | exact rfl) (by (try simp only [upd_ap, Nat.reduceEqDiff, ↓reduceIte]); first | done | assumption | exact rfl) (by (try simp only [upd_ap, Nat.reduceEqDiff, ↓reduceIte]); first | done | assumption | exact rfl) (by (try simp only [upd_ap, Nat.reduceEqDiff, ↓reduceIte]); first | done | assumption | exact rfl)
      · have q1 : decide (m % 2 ^ k ≠ 0) = true := by simp [hz]
        refine W_seq_reg fun K hK => ?_
        simp -implicitDefEqProofs (disch := omega) only [go_sem, Nat.reduceEqDiff, Nat.reduceAdd, ↓reduceIte, q1]
        refine hK _ _ ?_; clear hK K
        refine W_cond rfl (fun hc => by cases hc) (fun hc => W_skip ?_)
        exact next _ (by (try simp only [upd_ap, Nat.reduceEqDiff, ↓reduceIte]); first | done | assumption | exact rfl) (by (try simp only [upd_ap, Nat.reduceEqDiff, ↓reduceIte]); first | done | assumption | exact rfl) (by (try simp only [upd_ap, Nat.reduceEqDiff, ↓reduceIte]); first | done | assumption | exact rfl) (by (try simp only [upd_ap, Nat.reduceEqDiff, ↓reduceIte]); first | done | assumption | exact rfl) (by (try simp only [upd_ap, Nat.reduceEqDiff, ↓reduceIte]); first | done | assumption | exact rfl) (by (try simp only [upd_ap, Nat.reduceEqDiff, ↓reduceIte]); first | done | assumption | exact rfl) (by (try simp only [upd_ap, Nat.reduceEqDiff, ↓reduceIte]); first | done | assumption | exact rfl)
end Go.Proofs.YtjamnehcmaloeaaGreatDoor
end
section
namespace Go.E
open Go Go.RowKit
def flat (vs : List Value) : List Value := vs.flatMap fun v => v.cells.toList
def Cel (sz : Nat) (v : Value) : Prop := v.cells.size = sz ∧ v.cells.toList.all (·.oneCell') = true
theorem Shp.cel {k : Nat} {v : Value} (h : Shp k v) : Cel k v := by
  obtain ⟨cs, rfl, h1, h2⟩ := h; exact ⟨h1, h2⟩
structure Els {α : Type} (G : α → Fam) (D : Nat → Prop) (sz : Nat) (w : World) (l : List α) (vs : List Value) : Prop where
  len : vs.length = l.length
  get : ∀ (i : Nat) (x : α), l[i]? = some x → ∃ v, vs[i]? = some v ∧ In (G x) D v w ∧ Cel sz v
section
variable {α : Type} {G : α → Fam} {D D' : Nat → Prop} {sz : Nat} {w w' : World} {l : List α} {vs : List Value}
theorem Els.kp (h : Els G D sz w l vs) (k : Kp D w w') : Els G D sz w' l vs := ⟨h.len, fun i x hx => by obtain ⟨v, a, b, c⟩ := h.get i x hx; exact ⟨v, a, b.kp k, c⟩⟩
theorem Els.sub (h : Els G D sz w l vs) (k : ∀ k, k < w.heap.size → D k → D' k) : Els G D' sz w l vs := ⟨h.len, fun i x hx => by obtain ⟨v, a, b, c⟩ := h.get i x hx; exact ⟨v, a, b.sub k, c⟩⟩
theorem Els.nil : Els G D sz w [] [] := ⟨rfl, fun i x hx => by simp at hx⟩
theorem Els.snoc (h : Els G D sz w l vs) {x : α} {v : Value} (hv : In (G x) D v w) (hc : Cel sz v) : Els G D sz w (l ++ [x]) (vs ++ [v]) := by
  refine ⟨by simp [h.len], fun i y hy => ?_⟩
  rcases Nat.lt_or_ge i l.length with hi | hi
  · rw [List.getElem?_append_left hi] at hy
    obtain ⟨u, a, b⟩ := h.get i y hy
    exact ⟨u, by rw [List.getElem?_append_left (by rw [h.len]; exact hi)]; exact a, b⟩
  · rw [List.getElem?_append_right hi] at hy
    have h0 : i - l.length = 0 := by
      rcases Nat.eq_zero_or_pos (i - l.length) with h0 | h0
      · exact h0
      · rw [List.getElem?_eq_none (by simp; omega)] at hy; cases hy
    rw [h0] at hy
    simp only [List.getElem?_cons_zero, Option.some.injEq] at hy
    subst hy
    refine ⟨v, ?_, hv, hc⟩
    rw [List.getElem?_append_right (by rw [h.len]; exact hi), h.len, h0]; rfl
theorem flat_len (h : Els G D sz w l vs) : (flat vs).length = l.length * sz := by
  have hv : ∀ v ∈ vs, v.cells.size = sz := fun v hv => by
    obtain ⟨i, hi⟩ := List.getElem?_of_mem hv
    have hlt : i < l.length := by rw [← h.len]; exact (List.getElem?_eq_some_iff.1 hi).1
    obtain ⟨u, a, _, c, _⟩ := h.get i l[i] (List.getElem?_eq_getElem hlt)
    rw [hi] at a; cases a; exact c
  rw [← h.len]
  clear h
  induction vs with
  | nil => simp [flat]
  | cons v vs ih =>
    have := ih fun u hu => hv u (List.mem_cons_of_mem _ hu)
    have h1 := hv v List.mem_cons_self
    unfold flat at *
    rw [List.flatMap_cons, List.length_append, this, List.length_cons, Nat.succ_mul, Array.length_toList, h1]; omega
theorem flat_get {vs : List Value} {sz : Nat} (hv : ∀ v ∈ vs, v.cells.size = sz) {i j : Nat} {v : Value} (hi : vs[i]? = some v) (hj : j < sz) : (flat vs)[i * sz + j]? = v.cells[j]? := by
  induction vs generalizing i with
  | nil => simp at hi
  | cons u vs ih =>
    have h1 := hv u List.mem_cons_self
    unfold flat at *
    rw [List.flatMap_cons]
    cases i with
    | zero =>
      simp at hi; subst hi
      rw [List.getElem?_append_left (by simp; omega)]; simp
    | succ i =>
      rw [List.getElem?_append_right (by rw [Array.length_toList, h1, Nat.succ_mul]; omega), Array.length_toList, h1]
      have := ih (fun x hx => hv x (List.mem_cons_of_mem _ hx)) (i := i) (by simpa using hi)
      rw [← this]; congr 1; rw [Nat.succ_mul]; omega
theorem flat_snoc (vs : List Value) (v : Value) : flat (vs ++ [v]) = flat vs ++ v.cells.toList := by simp [flat]
end
def fSl {α : Type} (sz : Nat) (G : α → Fam) (l : List α) : Fam :=
  ⟨fun D v w => ∃ A n c vs, v = .slice A n c ∧ Row w D sz A n c (flat vs) ∧ Els G D sz w l vs ∧ l.length = n,
   fun k ⟨A, n, c, vs, e, h1, h2, h3⟩ => ⟨A, n, c, vs, e, h1.kp k, h2.kp k, h3⟩,
   fun k ⟨A, n, c, vs, e, h1, h2, h3⟩ => ⟨A, n, c, vs, e, h1.sub k, h2.sub k, h3⟩⟩
def fSc {α : Type} (f : α → Value) (l : List α) : Fam :=
  ⟨fun D v w => ∃ A n c, v = .slice A n c ∧ Row w D 1 A n c (l.map f), fun k ⟨A, n, c, e, h⟩ => ⟨A, n, c, e, h.kp k⟩, fun k ⟨A, n, c, e, h⟩ => ⟨A, n, c, e, h.sub k⟩⟩
section
variable {α : Type} {G : α → Fam} {f : α → Value} {D D' : Nat → Prop} {sz : Nat} {w w' : World} {l : List α} {vs : List Value} {A : Option Addr} {n c : Nat} {v : Value}
theorem In.sc_row (h : In (fSc f l) D (.slice A n c) w) : Row w D 1 A n c (l.map f) := by
  obtain ⟨_, _, _, e, h⟩ := h; cases e; exact h
theorem In.sc_len (h : In (fSc f l) D (.slice A n c) w) : l.length = n := by have := h.sc_row.len; simpa using this
theorem In.sc_cap (h : In (fSc f l) D (.slice A n c) w) : n ≤ c := h.sc_row.cap
theorem In.sc_get (h : In (fSc f l) D (.slice A n c) w) {i : Nat} (hi : i < l.length) : ∃ ad, A = some ad ∧ w.cell? (ad.add i) = some (f l[i]) := by
  obtain ⟨ad, h1, h2⟩ := h.sc_row.get (j := i) (by simpa using hi)
  exact ⟨ad, h1, by rw [h2]; simp⟩
theorem Row.sc (h : Row w D 1 A n c (l.map f)) : In (fSc f l) D (.slice A n c) w := ⟨A, n, c, rfl, h⟩
theorem In.sc_take (h : In (fSc f l) D (.slice A n c) w) {m : Nat} (hm : m ≤ n) : In (fSc f (l.take m)) D (.slice A m c) w := by
  have := h.sc_row.take hm
  rw [Nat.mul_one, ← List.map_take] at this
  exact this.sc
theorem In.sc_drop (h : In (fSc f l) D (.slice A n c) w) {m : Nat} (hm : m ≤ n) : In (fSc f (l.drop m)) D (.slice (if c = m then A else A.map (·.add m)) (n - m) (c - m)) w := by
  have := h.sc_row.drop hm
  rw [Nat.mul_one, ← List.map_drop] at this
  exact this.sc
theorem In.sc_nil : In (fSc f ([] : List α)) D (.slice none 0 0) w := ⟨none, 0, 0, rfl, Row.nil _ _ _⟩
theorem In.sl_len (h : In (fSl sz G l) D (.slice A n c) w) : l.length = n := by obtain ⟨_, _, _, _, e, _, _, h⟩ := h; cases e; exact h
theorem In.sl_cap (h : In (fSl sz G l) D (.slice A n c) w) : n ≤ c := by obtain ⟨_, _, _, _, e, h, _, _⟩ := h; cases e; exact h.cap
theorem In.sl_nil : In (fSl sz G ([] : List α)) D (.slice none 0 0) w := ⟨none, 0, 0, [], rfl, Row.nil _ _ _, Els.nil, rfl⟩
theorem cells_of {vs : List Value} (h : Els G D sz w l vs) : ∀ v ∈ vs, v.cells.size = sz := fun v hv => by
  obtain ⟨i, hi⟩ := List.getElem?_of_mem hv
  have hlt : i < l.length := by rw [← h.len]; exact (List.getElem?_eq_some_iff.1 hi).1
  obtain ⟨u, a, _, c, _⟩ := h.get i l[i] (List.getElem?_eq_getElem hlt)
  rw [hi] at a; cases a; exact c
theorem rd_all {w : World} {p : Addr} : ∀ (cs : List Value) (i : Nat), (∀ j u, cs[j]? = some u → w.cell? (p.add (i + j)) = some u) → rdCells w p i cs.length = some cs
  | [], _, _ => rfl
  | c :: cs, i, h => by
    rw [List.length_cons, rd_s, show w.cell? (p.add i) = some c from h 0 c rfl, rd_all cs (i + 1) (fun j u hu => by rw [show i + 1 + j = i + (j + 1) by omega]; exact h (j + 1) u (by simpa using hu))]; rfl
theorem In.sl_ld (h : In (fSl sz G l) D (.slice A n c) w) {i : Nat} {x : α} (hi : l[i]? = some x) (hsz : 0 < sz) : ∃ ad v, A = some ad ∧ In (G x) D v w ∧ Cel sz v ∧ (Shp sz v → ldV w (some (some sz)) (.pointer (some (ad.add (i * sz)))) = some v) ∧ (sz = 1 → v.cells = #[v] → w.cell? (ad.add i) = some v) := by
  obtain ⟨_, _, _, vs, e, hr, he, hn⟩ := h
  cases e
  obtain ⟨v, hv, hG, hc⟩ := he.get i x hi
  have hcs := cells_of he
  have hlt := (List.getElem?_eq_some_iff.1 hi).1
  have hfl := flat_len he
  have hpos : 0 < (flat vs).length := by rw [hfl]; exact Nat.mul_pos (by omega) hsz
  obtain ⟨ad, rfl, _, hcell⟩ := hr.at_ hpos
  refine ⟨ad, v, rfl, hG, hc, fun hs => ?_, fun h1 h2 => ?_⟩
  · obtain ⟨cs, rfl, hk, _⟩ := hs
    have : rdCells w (ad.add (i * sz)) 0 cs.toList.length = some cs.toList := rd_all cs.toList 0 fun j u hu => by
      rw [add_add, Nat.zero_add]
      refine hcell _ u ?_
      have hj : j < sz := by
        have := (List.getElem?_eq_some_iff.1 hu).1
        simp at this; omega
      rw [flat_get hcs hv hj]
      show cs[j]? = some u
      simpa using hu
    simp only [ldV]
    rw [Array.length_toList, hk] at this
    rw [this]; simp
  · subst h1
    have := flat_get hcs hv (j := 0) (by omega)
    rw [h2] at this
    refine hcell i v ?_
    rw [Nat.mul_one, Nat.add_zero] at this
    rw [this]; rfl
def OwnL {α : Type} (G : α → Fam) (T sz : Nat) (w : World) (D : Nat → Prop) (B : Nat) (A : Option Addr) (n c : Nat) (l : List α) : Prop :=
  ∃ vs, Own w B T sz A n c (flat vs) ∧ Els G (fun k => D k ∧ nb A k) sz w l vs ∧ l.length = n
variable {T B : Nat}
theorem OwnL.nil : OwnL G T sz w D B none 0 0 [] := ⟨[], Own.nil _ _ _ _, Els.nil, rfl⟩
theorem Own.blk_lt {xs : List Value} (h : Own w B T sz A n c xs) : ∀ a, A = some a → a.block < w.heap.size ∧ B ≤ a.block := by
  intro a ha
  rcases h.form with ⟨h0, _⟩ | ⟨g, _, h0, hb, hg, _⟩
  · rw [h0] at ha; cases ha
  · rw [h0] at ha; obtain rfl := Option.some.inj ha; exact ⟨hg.lt, hb⟩
theorem OwnL.in (h : OwnL G T sz w D B A n c l) (hd : ∀ k, B ≤ k → D k) : In (fSl sz G l) D (.slice A n c) w := by
  obtain ⟨vs, h1, h2, h3⟩ := h
  exact ⟨A, n, c, vs, rfl, h1.row.sub fun k _ hk => hd k hk, h2.sub fun k _ hk => hk.1, h3⟩
theorem OwnL.len (h : OwnL G T sz w D B A n c l) : l.length = n := by obtain ⟨_, _, _, h⟩ := h; exact h
theorem OwnL.ext (h : OwnL G T sz w D B A n c l) (k : Ext w w') : OwnL G T sz w' D B A n c l := by
  obtain ⟨vs, h1, h2, h3⟩ := h
  exact ⟨vs, h1.ext k, h2.kp (Kp.of_ext k), h3⟩
theorem OwnL.kp (h : OwnL G T sz w D B A n c l) {D' : Nat → Prop} (k : Kp D' w w') (hd : ∀ k, D k → D' k) (ha : ∀ a, A = some a → D' a.block) : OwnL G T sz w' D B A n c l := by
  obtain ⟨vs, h1, h2, h3⟩ := h
  exact ⟨vs, h1.kp k ha, h2.kp (k.mono fun j _ hj => hd j hj.1), h3⟩
theorem In.grew {H : Fam} {u : Value} {A' : Option Addr} (h : In H (fun k => D k ∧ nb A k) u w) (k : Kp (nb A) w w') (ha : A' = A ∨ ∃ g, w.heap.size ≤ g ∧ A' = some ⟨g, 0, none⟩) : In H (fun k => D k ∧ nb A' k) u w' := by
  have h1 : In H (fun k => (D k ∧ nb A k) ∧ k < w.heap.size) u w := h.sub fun j hj hd => ⟨hd, hj⟩
  refine (h1.kp (k.mono fun j _ hj => hj.1.2)).sub fun j _ hj => ⟨hj.1.1, ?_⟩
  rcases ha with rfl | ⟨g, hg, rfl⟩
  · exact hj.1.2
  · intro a ha; cases ha; simp only; have := hj.2; omega
theorem Fr.nb (h : Fr D w) (ha : ∀ a, A = some a → a.block < w.heap.size) : Fr (fun k => D k ∧ nb A k) w := fun k hk => ⟨h k hk, fun a h0 => by have := ha a h0; omega⟩
end
section
variable {P : Program} {w : World} {α : Type} {G : α → Fam}
theorem pushL {T ty E sz bytes : Nat} {z : Array Value} {v : Value} {x : α} {D : Nat → Prop} {B n c : Nat} {A : Option Addr} {l : List α} (hel : elemOf' P T = some (E, sz, bytes, z)) (hzs : z.size = sz) (hsz : 0 < sz) (hbs : bsV P T 1 [(0, v)] = some (E, v.cells))
    (hO : OwnL G E sz w D B A n c l) (hv : In (G x) (fun k => D k ∧ nb A k) v w) (hc : Cel sz v) (hlen : (n + 1) * (bytes + 1) ≤ 140737488355328) (hb : B ≤ w.heap.size) {K : Value → Value → World → Prop}
    (hK : ∀ v1 A' c' w', OwnL G E sz w' D B A' (n + 1) c' (l ++ [x]) → Kp (nb A) w w' → (A' = A ∨ ∃ g, w.heap.size ≤ g ∧ A' = some ⟨g, 0, none⟩) → K v1 (.slice A' (n + 1) c') w') :
    pushW P T ty (.slice A n c) v w K := by
  obtain ⟨vs, h1, h2, h3⟩ := hO
  refine push_own hel hzs hsz hbs hc.1 (fun u hu => List.all_eq_true.1 hc.2 u hu) h1 hlen hb fun v1 A' c' w' ho hk hat => hK v1 A' c' w' ⟨vs ++ [v], by rw [flat_snoc]; exact ho, ?_, by simp [h3]⟩ hk hat
  have hs := h2.snoc hv hc
  exact ⟨hs.len, fun i y hy => by
    obtain ⟨u, a, b, c⟩ := hs.get i y hy
    exact ⟨u, a, b.grew hk hat, c⟩⟩
end
end Go.E
end
section
namespace Go.Sp
def sumZ (l : List Int) : Int := l.foldl (· + ·) 0
theorem sumZ_snoc (l : List Int) (x : Int) : sumZ (l ++ [x]) = sumZ l + x := by simp [sumZ, List.foldl_append]
theorem sumZ_nil : sumZ [] = 0 := rfl
theorem sumZ_take (l : List Int) (i : Nat) (x : Int) (h : l[i]? = some x) : sumZ (l.take (i + 1)) = sumZ (l.take i) + x := by
  obtain ⟨hlt, he⟩ := List.getElem?_eq_some_iff.1 h
  rw [List.take_succ_eq_append_getElem hlt, sumZ_snoc, he]
theorem sumZ_bd {K : Nat} : ∀ (i : Nat) (l : List Int), (∀ x ∈ l, bl x.natAbs ≤ K) → (sumZ (l.take i)).natAbs ≤ i * 2 ^ K
  | 0, l, _ => by rw [List.take_zero]; exact Nat.zero_le _
  | i + 1, l, h => by
    have ih := sumZ_bd i l h
    cases hx : l[i]? with
    | none =>
      have : l.take (i + 1) = l.take i := by rw [List.take_of_length_le (by have := List.getElem?_eq_none_iff.1 hx; omega), List.take_of_length_le (List.getElem?_eq_none_iff.1 hx)]
      rw [this, Nat.add_mul, Nat.one_mul]; exact Nat.le_trans ih (Nat.le_add_right _ _)
    | some x =>
      rw [sumZ_take l i x hx, Nat.add_mul, Nat.one_mul]
      have h1 := bl_lt_pow (h x (List.mem_of_getElem? hx))
      refine Nat.le_trans (Int.natAbs_add_le _ _) ?_
      exact Nat.add_le_add ih (Nat.le_of_lt h1)
theorem sum_blK {K i : Nat} {l : List Int} (h : ∀ x ∈ l, bl x.natAbs ≤ K) (hi : i ≤ 1024) : bl (sumZ (l.take i)).natAbs ≤ K + 11 := by
  refine bl_le_of (Nat.lt_of_le_of_lt (sumZ_bd i l h) ?_)
  have h2 : i * 2 ^ K ≤ 1024 * 2 ^ K := Nat.mul_le_mul_right _ hi
  have h3 : 2 ^ (K + 11) = 2 ^ K * 2048 := by rw [Nat.pow_add]
  have := two_pos K
  omega
theorem sum_bl {i : Nat} {l : List Int} (h : ∀ x ∈ l, dyOk x) (hi : i ≤ 1024) : bl (sumZ (l.take i)).natAbs ≤ 131083 := sum_blK h hi
theorem bl_scale {m S : Int} {k : Nat} (h : m * (2 : Int) ^ k = S) : bl m.natAbs ≤ bl S.natAbs := by
  rw [← h, natAbs_mul_pow]
  exact bl_mono (Nat.le_mul_of_pos_right _ (two_pos k))
end Go.Sp
namespace Go.Proofs.YtjamnehcmaloeaaGreatDoor
open Go Go.E Go.Sp
theorem rSumD_v {D : Nat → Prop} {A : Option Addr} {n c : Nat} {l : List Int} {w : World} (hT : Tabs w) (h : In (fSl 4 fV l) D (.slice A n c) w) (hn : n ≤ 1000) (ho : ∀ x ∈ l, dyOk x) (hv : dyOk (sumZ l)) (hf : Fr D w) :
    Calls Tryz.prog 19 #[.slice A n c] w (Rt (fV (sumZ l)) D w) := by
  have hl := h.sl_len
  refine calls_W Tryz.func19 rfl Tryz.ntmps19 (by kernel_rfl) ?_
  refine W_seq_reg fun K hK => ?_
  simp -implicitDefEqProofs (disch := omega) only [go_sem, Nat.reduceEqDiff, Nat.reduceAdd, ↓reduceIte]
  refine alW_of ?_
  intro g2 w2 hg2 hx2 hb2 hs2
  refine hK _ _ ?_; clear hK K
  have hx : Ext w w2 := hx2
  replace h := (h.nL (L := [g2]) (by intro g hg; simp at hg; omega)).ext hx
  have hD : Fr (Dl D [g2]) w2 := hf.nL hx (by intro g hg; simp at hg; omega)
  clear hx2
  have h0 : In (fB 0) (Dl D [g2]) (.agg #[.bool false, .slice none 0 0]) w2 := Big.in ⟨rfl, U32.nil⟩
  refine W_seq_reg fun K hK => ?_
  simp -implicitDefEqProofs (disch := omega) only [go_sem, Nat.reduceEqDiff, Nat.reduceAdd, ↓reduceIte]
  refine alW_of ?_
  intro g3 w3a hg3 hx3a hb3a hs3
  have hgl3 := hx.size
  have hn3hb2 := hb2.lt
  refine storeW_of hb3a siz35 rfl rfl fun w3 hk3 hb3 => ?_
  have hy3 : Ext w2 w3 := hx3a.under hk3 (fun k hk => by omega)
  replace h := ((h.nw (g := g3) (by omega)).ext hx3a).ow hk3 (by simp)
  replace h0 := ((h0.nw (g := g3) (by omega)).ext hx3a).ow hk3 (by simp)
  replace hb2 := hb2.ext hy3
  replace hD := (hD.nw (g := g3) hx3a (by omega)).ow hk3
  replace hx := hx.trans hy3
  have hq3 := hk3.size
  clear hx3a hk3 hb3a hy3
  refine hK _ _ ?_; clear hK
  refine W_seq_k fun K0 hK0 => ?_
  refine W_seq_reg fun K hK => ?_
  simp -implicitDefEqProofs (disch := omega) only [go_sem, Nat.reduceEqDiff, Nat.reduceAdd, ↓reduceIte]
  refine hK _ _ ?_; clear hK K
  refine W_block ?_
  refine W_loop (fun e2 w' => ∃ (i : Nat) (tot e : Int) (s : Bool) (B : Option Addr) (m c2 : Nat), e2 5 = .int .i64 i ∧ e2 4 = .int .i64 e ∧ i ≤ n ∧ -65536 ≤ e ∧ e ≤ 65536 ∧ Ext w w' ∧ w3.heap.size ≤ w'.heap.size ∧ In (fSl 4 fV l) (Dl D [g3, g2]) (.slice A n c) w' ∧ Blk w' g2 37 #[.bool false, .bool false, .slice none 0 0, .int .i64 0] ∧ Blk w' g3 35 #[.bool s, .slice B m c2] ∧ In (fB tot) (Dl D [g3, g2]) (.agg #[.bool s, .slice B m c2]) w' ∧ Fr (Dl D [g3, g2]) w' ∧ tot * (2 : Int) ^ (e + 65536).toNat = sumZ (l.take i)) (fun e2 _ => n - (RowKit.intOf (e2 5)).toNat)
    ⟨0, 0, 0, false, none, 0, 0, rfl, (by (try simp only [upd_ap, Nat.reduceEqDiff, ↓reduceIte]); first | done | assumption | exact rfl), Nat.zero_le _, by omega, by omega, hx, Nat.le_refl _, h, hb2, hb3, h0, hD, by rw [Int.zero_mul]; rfl⟩ ?_
  clear h h0 hb2 hb3 hD hx
  rintro e1 w1 ⟨i, tot, e, s, B, m, c2, k5, k4, hi, he1, he2, hx, hsz, h, hb2, hb3, h1, hD, hs⟩ hkk
  have k0 : e1 0 = .slice A n c := (hkk 0 (by kernel_rfl)).trans (by (try simp only [upd_ap, Nat.reduceEqDiff, ↓reduceIte]); first | done | assumption | exact rfl)
  have k2 : e1 2 = .pointer (some ⟨g2, 0, none⟩) := (hkk 2 (by kernel_rfl)).trans (by (try simp only [upd_ap, Nat.reduceEqDiff, ↓reduceIte]); first | done | assumption | exact rfl)
  have k3 : e1 3 = .pointer (some ⟨g3, 0, none⟩) := (hkk 3 (by kernel_rfl)).trans (by (try simp only [upd_ap, Nat.reduceEqDiff, ↓reduceIte]); first | done | assumption | exact rfl)
  clear hkk
  have hbs := sum_bl (i := i) ho (by omega)
  have hbt := bl_scale hs
  refine W_seq_k fun K1 hK1 => ?_
  by_cases hlt : i < n
  · have hlt' : (i : Int) < n := by omega
    refine W_seq_reg fun K hK => ?_
    simp -implicitDefEqProofs (disch := omega) only [go_sem, Nat.reduceEqDiff, Nat.reduceAdd, ↓reduceIte, k5, k0, hlt']
    refine hK _ _ ?_; clear hK K
    refine W_cond rfl (fun hc1 => W_skip (hK1 _ _ ?_)) (fun hc1 => by cases hc1)
    clear hK1
    refine W_seq_blk fun K hK => ?_
    obtain ⟨x, hxi⟩ : ∃ x, l[i]? = some x := ⟨_, List.getElem?_eq_getElem (by omega)⟩
    obtain ⟨ad, vx, rfl, hvx, _, hld, _⟩ := h.sl_ld hxi (by omega)
    replace hld := hld (fV_s hvx)
    have hox := ho x (List.mem_of_getElem? hxi)
    have hst := sumZ_take l i x hxi
    have fin : ∀ (e9 : Env) (w9 : World) (tot' e' : Int) (s' : Bool) (B' : Option Addr) (m' c' : Nat), e9 5 = .int .i64 i → e9 4 = .int .i64 e' → -65536 ≤ e' → e' ≤ 65536 → Ext w w9 → w3.heap.size ≤ w9.heap.size → In (fSl 4 fV l) (Dl D [g3, g2]) (.slice (some ad) n c) w9 → Blk w9 g2 37 #[.bool false, .bool false, .slice none 0 0, .int .i64 0] → Blk w9 g3 35 #[.bool s', .slice B' m' c'] → In (fB tot') (Dl D [g3, g2]) (.agg #[.bool s', .slice B' m' c']) w9 → Fr (Dl D [g3, g2]) w9 → tot' * (2 : Int) ^ (e' + 65536).toNat = sumZ (l.take (i + 1)) → K e9 w9 := by
      intro e9 w9 tot' e' s' B' m' c' p5 p4 q1 q2 q3 q4 q5 q6 q7 q8 q9 q10
      refine hK _ _ ?_; clear hK
      refine W_regK fun K9 hK9 => ?_
      simp -implicitDefEqProofs (disch := omega) only [go_sem, Nat.reduceEqDiff, Nat.reduceAdd, ↓reduceIte, p5, i64_in]
      refine hK9 _ _ ?_; clear hK9 K9
      exact ⟨⟨i + 1, tot', e', s', B', m', c', rfl, by simp only [upd_ap, Nat.reduceEqDiff, ↓reduceIte]; exact p4, by omega, q1, q2, q3, q4, q5, q6, q7, q8, q9, q10⟩, by simp only [upd_ap, ↓reduceIte, RowKit.intOf, k5]; omega⟩
    clear hK
    have e2 : (0 : Int) ≤ i ∧ (i : Int) < n := by omega
    have hmn : ∀ {w' : World}, w1.heap.size ≤ w'.heap.size → w3.heap.size ≤ w'.heap.size := fun h => Nat.le_trans hsz h
    have hz1 : w1.heap.size ≤ w1.heap.size := Nat.le_refl _
    refine W_seq_reg fun K hK => ?_
    simp -implicitDefEqProofs (disch := omega) only [go_sem, Nat.reduceEqDiff, Nat.reduceAdd, ↓reduceIte, k0, k5, e2, hld]
    refine callW_of cal60 (rNormD_v (hT.ext hx) hvx hD) ?_
    rintro _ w6 ⟨v6, rfl, hx6, h6⟩; refine ⟨_, rfl, ?_⟩
    replace h := h.ext hx6
    replace h1 := h1.ext hx6
    replace hvx := hvx.ext hx6
    replace hb2 := hb2.ext hx6
    replace hb3 := hb3.ext hx6
    replace hD := hD.kp hx6
    replace hx := hx.trans hx6
    replace hz1 := Nat.le_trans hz1 hx6.size
    clear hx6
    obtain ⟨s6, A6, n6, c6, rfl, _, _⟩ := id h6
    refine alW_of ?_
    intro g7 w7a hg7 hx7a hb7a hs7
    have hgl7 := hx.size
    have hn7hb2 := hb2.lt
    have hn7hb3 := hb3.lt
    refine storeW_of hb7a siz37 rfl rfl fun w7 hk7 hb7 => ?_
    have hy7 : Ext w6 w7 := hx7a.under hk7 (fun k hk => by omega)
    replace h := ((h.nw (g := g7) (by omega)).ext hx7a).ow hk7 (by simp)
    replace h1 := ((h1.nw (g := g7) (by omega)).ext hx7a).ow hk7 (by simp)
    replace hvx := ((hvx.nw (g := g7) (by omega)).ext hx7a).ow hk7 (by simp)
    replace h6 := ((h6.nw (g := g7) (by omega)).ext hx7a).ow hk7 (by simp)
    replace hb2 := hb2.ext hy7
    replace hb3 := hb3.ext hy7
    replace hD := (hD.nw (g := g7) hx7a (by omega)).ow hk7
    replace hx := hx.trans hy7
    replace hz1 := Nat.le_trans hz1 hy7.size
    have hq7 := hk7.size
    clear hx7a hk7 hb7a hy7
    refine hK _ _ ?_; clear hK
    refine W_seq_k fun K1 hK1 => ?_
    refine W_seq_reg fun K hK => ?_
    simp -implicitDefEqProofs (disch := omega) only [go_sem, Nat.reduceEqDiff, Nat.reduceAdd, ↓reduceIte, hb7.c0]
    refine hK _ _ ?_; clear hK K
    refine W_cond rfl (fun hc => by cases hc) (fun hc => W_skip (hK1 _ _ ?_))
    clear hK1
    have hm := h6.man
    obtain ⟨hd1, hd2, hd3⟩ := dyE_bd hox
    refine W_seq_k fun K1 hK1 => ?_
    refine W_seq_reg fun K2 hK2 => ?_
    simp -implicitDefEqProofs (disch := omega) only [go_sem, Nat.reduceEqDiff, Nat.reduceAdd, ↓reduceIte, hb7.c1, hb7.c2]
    refine callW_of cal63 (rSign_v hm (by omega) hD) ?_
    rintro _ w8 ⟨rfl, hx8⟩; refine ⟨_, rfl, ?_⟩
    replace h := h.ext hx8
    replace h1 := h1.ext hx8
    replace hvx := hvx.ext hx8
    replace h6 := h6.ext hx8
    replace hm := hm.ext hx8
    replace hb2 := hb2.ext hx8
    replace hb3 := hb3.ext hx8
    replace hb7 := hb7.ext hx8
    replace hD := hD.kp hx8
    replace hx := hx.trans hx8
    replace hz1 := Nat.le_trans hz1 hx8.size
    clear hx8
    have fin2 : ∀ (e9 : Env) (w9 : World), e9 5 = .int .i64 i → e9 4 = .int .i64 e → True := fun _ _ _ _ => trivial
    clear fin2
    by_cases hx0 : x = 0
    · have q1 : (Int.sign (od x) == 0) = true := by rw [hx0]; rfl
      simp -implicitDefEqProofs (disch := omega) only [go_sem, Nat.reduceEqDiff, Nat.reduceAdd, ↓reduceIte, q1]
      refine hK2 _ _ ?_; clear hK2 K2
      refine W_cond rfl (fun hc => W_exit ?_) (fun hc => by cases hc)
      refine fin _ _ tot e s B m c2 (by (try simp only [upd_ap, Nat.reduceEqDiff, ↓reduceIte]); first | done | assumption | exact rfl) (by (try simp only [upd_ap, Nat.reduceEqDiff, ↓reduceIte]); first | done | assumption | exact rfl) he1 he2 hx (hmn hz1) h.wk hb2 hb3 h1.wk hD.wk ?_
      rw [hst, hx0, Int.add_zero]; exact hs
    · have hod := od_ne hx0
      have q1 : (Int.sign (od x) == 0) = false := by
        rcases Int.lt_or_gt_of_ne hod with h | h
        · rw [Int.sign_eq_neg_one_of_neg h]; rfl
        · rw [Int.sign_eq_one_of_pos h]; rfl
      have hdx : dyE x = (tz x.natAbs : Int) - 65536 := by unfold dyE; rw [if_neg hx0]
      have hodx : od x * (2 : Int) ^ (dyE x + 65536).toNat = x := by
        rw [hdx, show ((tz x.natAbs : Int) - 65536 + 65536).toNat = tz x.natAbs by omega, od_mul]
      simp -implicitDefEqProofs (disch := omega) only [go_sem, Nat.reduceEqDiff, Nat.reduceAdd, ↓reduceIte, q1]
      refine hK2 _ _ ?_; clear hK2 K2
      refine W_cond rfl (fun hc => by cases hc) (fun hc => W_skip (hK1 _ _ ?_))
      clear hK1
      refine W_block ?_
      refine W_seq_reg fun K2 hK2 => ?_
      simp -implicitDefEqProofs (disch := omega) only [go_sem, Nat.reduceEqDiff, Nat.reduceAdd, ↓reduceIte, k3, hb3.l2]
      refine callW_of cal63 (rSign_v h1 (by omega) hD) ?_
      rintro _ w9 ⟨rfl, hx9⟩; refine ⟨_, rfl, ?_⟩
      replace h := h.ext hx9
      replace h1 := h1.ext hx9
      replace hvx := hvx.ext hx9
      replace h6 := h6.ext hx9
      replace hm := hm.ext hx9
      replace hb2 := hb2.ext hx9
      replace hb3 := hb3.ext hx9
      replace hb7 := hb7.ext hx9
      replace hD := hD.kp hx9
      replace hx := hx.trans hx9
      replace hz1 := Nat.le_trans hz1 hx9.size
      clear hx9
      by_cases ht0 : tot = 0
      · have q2 : (Int.sign tot == 0) = true := by rw [ht0]; rfl
        simp -implicitDefEqProofs (disch := omega) only [go_sem, Nat.reduceEqDiff, Nat.reduceAdd, ↓reduceIte, q2]
        refine hK2 _ _ ?_; clear hK2 K2
        refine W_cond rfl (fun hc => ?_) (fun hc => by cases hc)
        refine W_dC mixed (Kp (fun k => k ∉ ([g3] : List Nat))) (fun _ _ => False) (Kp.pre _) [true, true, true, true, false, false] [false, false, false, false, false, false] [1, 1, 1, 1, 0, 1] (by kernel_rfl) ?_
        apply Exists.intro
        refine ⟨fun wE hE KE hKE => ?_, fun wE hE KE hKE => ?_, fun wE hxE hr => ?_⟩
        · skip
          replace hb2 := hb2.kpx hE (by simp; try omega)
          replace hb7 := hb7.kpx hE (by simp; try omega)
          replace h := h.kpx hE (by simp)
          replace h1 := h1.kpx hE (by simp)
          replace hvx := hvx.kpx hE (by simp)
          replace h6 := h6.kpx hE (by simp)
          replace hm := hm.kpx hE (by simp)
          simp -implicitDefEqProofs (disch := omega) only [go_sem, Nat.reduceEqDiff, Nat.reduceAdd, ↓reduceIte, hb7.c1, hb7.c2, hb7.c3, k3]
          exact hKE
        · exact hE.elim
        simp only [selP_t, selP_f, selP_n]
        replace h := h.ext hxE
        replace h1 := h1.ext hxE
        replace hvx := hvx.ext hxE
        replace h6 := h6.ext hxE
        replace hm := hm.ext hxE
        replace hb2 := hb2.ext hxE
        replace hb3 := hb3.ext hxE
        replace hb7 := hb7.ext hxE
        replace hD := hD.kp hxE
        replace hx := hx.trans hxE
        replace hz1 := Nat.le_trans hz1 hxE.size
        simp -implicitDefEqProofs (disch := omega) only [go_sem, Nat.reduceEqDiff, Nat.reduceAdd, ↓reduceIte, List.toList_toArray, hb7.c1, hb7.c2, hb7.c3, k3]
        refine storeW_of hb3 siz35 rfl rfl fun w10 hk10 hz10 => ?_
        replace h := h.ow hk10 (by simp)
        replace h1 := h1.ow hk10 (by simp)
        replace hvx := hvx.ow hk10 (by simp)
        replace h6 := h6.ow hk10 (by simp)
        replace hm := hm.ow hk10 (by simp)
        replace hb2 := hb2.kpne hk10 (by omega)
        replace hb7 := hb7.kpne hk10 (by omega)
        replace hD := hD.ow hk10
        replace hx := hx.under hk10 (fun k hk => by omega)
        replace hz1 := Nat.le_trans hz1 hk10.size
        replace hr := hr.trans (hk10.mono fun k _ h he => h (by simp [he]))
        clear hb3 hk10
        have hb3 := hz10; clear hz10
        refine ⟨hr, ?_⟩
        refine fin _ _ (od x) (dyE x) s6 A6 n6 c6 (by (try simp only [upd_ap, Nat.reduceEqDiff, ↓reduceIte]); first | done | assumption | exact rfl) (by (try simp only [upd_ap, Nat.reduceEqDiff, ↓reduceIte]); first | done | assumption | exact rfl) hd1 hd2 hx (hmn hz1) h.wk hb2 hb3 hm.wk hD.wk ?_
        rw [hst, hodx, ← hs, ht0]; simp
      · have q2 : (Int.sign tot == 0) = false := by
          rcases Int.lt_or_gt_of_ne ht0 with h | h
          · rw [Int.sign_eq_neg_one_of_neg h]; rfl
          · rw [Int.sign_eq_one_of_pos h]; rfl
        simp -implicitDefEqProofs (disch := omega) only [go_sem, Nat.reduceEqDiff, Nat.reduceAdd, ↓reduceIte, q2]
        refine hK2 _ _ ?_; clear hK2 K2
        refine W_cond rfl (fun hc => by cases hc) (fun hc => ?_)
        by_cases hge : dyE x ≥ e
        · refine W_seq_reg fun K hK => ?_
          simp -implicitDefEqProofs (disch := omega) only [go_sem, Nat.reduceEqDiff, Nat.reduceAdd, ↓reduceIte, k4, hb7.c3, hge]
          refine hK _ _ ?_; clear hK K
          refine W_cond rfl (fun hc => ?_) (fun hc => by cases hc)
          have e3 : IntKind.i64.wrap (dyE x - e) = dyE x - e := i64_in (by omega) (by omega)
          refine W_dC mixed (Kp (fun k => k ∉ ([] : List Nat))) (fun _ _ => False) (Kp.pre _) [true, true, true, true, true, true, true, false, false, false] [false, false, false, false, false, false, false, false, false, false] [1, 1, 1, 1, 1, 1, 1, 0, 1, 1] (by kernel_rfl) ?_
          apply Exists.intro
          refine ⟨fun wE hE KE hKE => ?_, fun wE hE KE hKE => ?_, fun wE hxE hr => ?_⟩
          · skip
            replace hE := Kp.all hE
            replace hb2 := hb2.ext hE
            replace hb3 := hb3.ext hE
            replace hb7 := hb7.ext hE
            replace h := h.ext hE
            replace h1 := h1.ext hE
            replace hvx := hvx.ext hE
            replace h6 := h6.ext hE
            replace hm := hm.ext hE
            simp -implicitDefEqProofs (disch := omega) only [go_sem, Nat.reduceEqDiff, Nat.reduceAdd, ↓reduceIte, hb7.c1, hb7.c2, hb7.c3, hb3.l2, k3, k4, e3]
            exact hKE
          · exact hE.elim
          simp only [selP_t, selP_f, selP_n]
          replace h := h.ext hxE
          replace h1 := h1.ext hxE
          replace hvx := hvx.ext hxE
          replace h6 := h6.ext hxE
          replace hm := hm.ext hxE
          replace hb2 := hb2.ext hxE
          replace hb3 := hb3.ext hxE
          replace hb7 := hb7.ext hxE
          replace hD := hD.kp hxE
          replace hx := hx.trans hxE
          replace hz1 := Nat.le_trans hz1 hxE.size
          simp -implicitDefEqProofs (disch := omega) only [go_sem, Nat.reduceEqDiff, Nat.reduceAdd, ↓reduceIte, List.toList_toArray, hb7.c1, hb7.c2, hb7.c3, hb3.l2, k3, k4, e3]
          refine callW_of cal65 (rShift_v hm (by omega) (by omega) (by omega) hD) ?_
          rintro _ w11 ⟨v11, rfl, hx11, h11⟩; refine ⟨_, rfl, ?_⟩
          replace h := h.ext hx11
          replace h1 := h1.ext hx11
          replace hvx := hvx.ext hx11
          replace h6 := h6.ext hx11
          replace hm := hm.ext hx11
          replace hb2 := hb2.ext hx11
          replace hb3 := hb3.ext hx11
          replace hb7 := hb7.ext hx11
          replace hD := hD.kp hx11
          replace hx := hx.trans hx11
          replace hz1 := Nat.le_trans hz1 hx11.size
          replace hr := hr.trans (Kp.of_ext hx11)
          clear hx11
          refine ⟨hr, ?_⟩
          have hsh : shI (od x) (dyE x - e) = od x * (2 : Int) ^ (dyE x - e).toNat := by unfold shI; rw [if_pos (by omega)]
          rw [hsh] at h11
          have hlf : od x * (2 : Int) ^ (dyE x - e).toNat * (2 : Int) ^ (e + 65536).toNat = x := by
            rw [Int.mul_assoc, ← Int.pow_add, show (dyE x - e).toNat + (e + 65536).toNat = (dyE x + 65536).toNat by omega, hodx]
          have hb11 := bl_scale hlf
          have hbx : bl x.natAbs ≤ 131072 := hox
          refine callW_of cal64 (rAdd_v h1 h11 (by omega) (by omega) hD) ?_
          rintro _ w12 ⟨v12, rfl, hx12, h12⟩; refine ⟨_, rfl, ?_⟩
          replace h := h.ext hx12
          replace h1 := h1.ext hx12
          replace hvx := hvx.ext hx12
          replace h6 := h6.ext hx12
          replace hm := hm.ext hx12
          replace h11 := h11.ext hx12
          replace hb2 := hb2.ext hx12
          replace hb3 := hb3.ext hx12
          replace hb7 := hb7.ext hx12
          replace hD := hD.kp hx12
          replace hx := hx.trans hx12
          replace hz1 := Nat.le_trans hz1 hx12.size
          clear hx12
          obtain ⟨s12, A12, n12, c12, rfl, _⟩ := id h12
          refine storeW_of hb3 siz35 rfl rfl fun w13 hk13 hz13 => ?_
          replace h := h.ow hk13 (by simp)
          replace h1 := h1.ow hk13 (by simp)
          replace hvx := hvx.ow hk13 (by simp)
          replace h6 := h6.ow hk13 (by simp)
          replace hm := hm.ow hk13 (by simp)
          replace h11 := h11.ow hk13 (by simp)
          replace h12 := h12.ow hk13 (by simp)
          replace hb2 := hb2.kpne hk13 (by omega)
          replace hb7 := hb7.kpne hk13 (by omega)
          replace hD := hD.ow hk13
          replace hx := hx.under hk13 (fun k hk => by omega)
          replace hz1 := Nat.le_trans hz1 hk13.size
          clear hb3 hk13
          have hb3 := hz13; clear hz13
          refine fin _ _ _ e s12 A12 n12 c12 (by (try simp only [upd_ap, Nat.reduceEqDiff, ↓reduceIte]); first | done | assumption | exact rfl) (by (try simp only [upd_ap, Nat.reduceEqDiff, ↓reduceIte]); first | done | assumption | exact rfl) he1 he2 hx (hmn hz1) h.wk hb2 hb3 h12.wk hD.wk ?_
          rw [hst, Int.add_mul, hs, hlf]
        · refine W_seq_reg fun K hK => ?_
          simp -implicitDefEqProofs (disch := omega) only [go_sem, Nat.reduceEqDiff, Nat.reduceAdd, ↓reduceIte, k4, hb7.c3, hge]
          refine hK _ _ ?_; clear hK K
          refine W_cond rfl (fun hc => by cases hc) (fun hc => ?_)
          have e3 : IntKind.i64.wrap (e - dyE x) = e - dyE x := i64_in (by omega) (by omega)
          refine W_dC mixed (Kp (fun k => k ∉ ([] : List Nat))) (Kp (fun k => k ∉ ([g3] : List Nat))) (Kp.pre _) [true, true, true, true, true, false, true, true, false, true, true, false, true] [false, false, false, false, false, false, false, false, false, true, true, false, true] [1, 1, 1, 1, 1, 0, 1, 1, 0, 1, 1, 2, 1] (by kernel_rfl) ?_
          apply Exists.intro
          refine ⟨fun wE hE KE hKE => ?_, fun wE hE KE hKE => ?_, fun wE hxE hr => ?_⟩
          · skip
            replace hE := Kp.all hE
            replace hb2 := hb2.ext hE
            replace hb3 := hb3.ext hE
            replace hb7 := hb7.ext hE
            replace h := h.ext hE
            replace h1 := h1.ext hE
            replace hvx := hvx.ext hE
            replace h6 := h6.ext hE
            replace hm := hm.ext hE
            simp -implicitDefEqProofs (disch := omega) only [go_sem, Nat.reduceEqDiff, Nat.reduceAdd, ↓reduceIte, hb7.c1, hb7.c2, hb7.c3, hb3.l2, k3, k4, e3]
            exact hKE
          · skip
            replace hb2 := hb2.kpx hE (by simp; try omega)
            replace hb7 := hb7.kpx hE (by simp; try omega)
            replace h := h.kpx hE (by simp)
            replace h1 := h1.kpx hE (by simp)
            replace hvx := hvx.kpx hE (by simp)
            replace h6 := h6.kpx hE (by simp)
            replace hm := hm.kpx hE (by simp)
            simp -implicitDefEqProofs (disch := omega) only [go_sem, Nat.reduceEqDiff, Nat.reduceAdd, ↓reduceIte, hb7.c1, hb7.c2, hb7.c3, hb3.l2, k3, k4, e3]
            refine hKE _ ?_
            intro t ht
            simp [earlyS] at ht
            rcases ht with rfl | rfl | rfl <;> simp only [upd_ap, Nat.reduceEqDiff, ↓reduceIte]
          simp only [selP_t, selP_f, selP_n]
          replace h := h.ext hxE
          replace h1 := h1.ext hxE
          replace hvx := hvx.ext hxE
          replace h6 := h6.ext hxE
          replace hm := hm.ext hxE
          replace hb2 := hb2.ext hxE
          replace hb3 := hb3.ext hxE
          replace hb7 := hb7.ext hxE
          replace hD := hD.kp hxE
          replace hx := hx.trans hxE
          replace hz1 := Nat.le_trans hz1 hxE.size
          have hr2 : Kp (fun k => k ∉ ([g3] : List Nat)) _ wE := Kp.of_ext hxE
          simp -implicitDefEqProofs (disch := omega) only [go_sem, Nat.reduceEqDiff, Nat.reduceAdd, ↓reduceIte, List.toList_toArray, hb7.c1, hb7.c2, hb7.c3, hb3.l2, k3, k4, e3]
          refine callW_of cal65 (rShift_v h1 (by omega) (by omega) (by omega) hD) ?_
          rintro _ w11 ⟨v11, rfl, hx11, h11⟩; refine ⟨_, rfl, ?_⟩
          replace h := h.ext hx11
          replace h1 := h1.ext hx11
          replace hvx := hvx.ext hx11
          replace h6 := h6.ext hx11
          replace hm := hm.ext hx11
          replace hb2 := hb2.ext hx11
          replace hb3 := hb3.ext hx11
          replace hb7 := hb7.ext hx11
          replace hD := hD.kp hx11
          replace hx := hx.trans hx11
          replace hz1 := Nat.le_trans hz1 hx11.size
          replace hr := hr.trans (Kp.of_ext hx11)
          replace hr2 := hr2.trans (Kp.of_ext hx11)
          clear hx11
          refine ⟨hr, ?_⟩
          have hsh : shI tot (e - dyE x) = tot * (2 : Int) ^ (e - dyE x).toNat := by unfold shI; rw [if_pos (by omega)]
          rw [hsh] at h11
          have hlf : tot * (2 : Int) ^ (e - dyE x).toNat * (2 : Int) ^ (dyE x + 65536).toNat = sumZ (l.take i) := by
            rw [Int.mul_assoc, ← Int.pow_add, show (e - dyE x).toNat + (dyE x + 65536).toNat = (e + 65536).toNat by omega, hs]
          have hb11 := bl_scale hlf
          refine callW_of cal64 (rAdd_v h11 hm (by omega) (by omega) hD) ?_
          rintro _ w12 ⟨v12, rfl, hx12, h12⟩; refine ⟨_, rfl, ?_⟩
          replace h := h.ext hx12
          replace h1 := h1.ext hx12
          replace hvx := hvx.ext hx12
          replace h6 := h6.ext hx12
          replace hm := hm.ext hx12
          replace h11 := h11.ext hx12
          replace hb2 := hb2.ext hx12
          replace hb3 := hb3.ext hx12
          replace hb7 := hb7.ext hx12
          replace hD := hD.kp hx12
          replace hx := hx.trans hx12
          replace hz1 := Nat.le_trans hz1 hx12.size
          replace hr := hr.trans (Kp.of_ext hx12)
          replace hr2 := hr2.trans (Kp.of_ext hx12)
          clear hx12
          refine ⟨hr, ?_⟩
          obtain ⟨s12, A12, n12, c12, rfl, _⟩ := id h12
          refine storeW_of hb3 siz35 rfl rfl fun w13 hk13 hz13 => ?_
          replace h := h.ow hk13 (by simp)
          replace h1 := h1.ow hk13 (by simp)
          replace hvx := hvx.ow hk13 (by simp)
          replace h6 := h6.ow hk13 (by simp)
          replace hm := hm.ow hk13 (by simp)
          replace h11 := h11.ow hk13 (by simp)
          replace h12 := h12.ow hk13 (by simp)
          replace hb2 := hb2.kpne hk13 (by omega)
          replace hb7 := hb7.kpne hk13 (by omega)
          replace hD := hD.ow hk13
          replace hx := hx.under hk13 (fun k hk => by omega)
          replace hz1 := Nat.le_trans hz1 hk13.size
          replace hr2 := hr2.trans (hk13.mono fun k _ h he => h (by simp [he]))
          clear hb3 hk13
          have hb3 := hz13; clear hz13
          refine ⟨hr2, ?_⟩
          refine fin _ _ _ (dyE x) s12 A12 n12 c12 (by (try simp only [upd_ap, Nat.reduceEqDiff, ↓reduceIte]); first | done | assumption | exact rfl) (by (try simp only [upd_ap, Nat.reduceEqDiff, ↓reduceIte]); first | done | assumption | exact rfl) hd1 hd2 hx (hmn hz1) h.wk hb2 hb3 h12.wk hD.wk ?_
          rw [hst, Int.add_mul, hlf, hodx]
  · skip
    have hlt' : ¬ (i : Int) < n := by omega
    refine W_seq_reg fun K hK => ?_
    simp -implicitDefEqProofs (disch := omega) only [go_sem, Nat.reduceEqDiff, Nat.reduceAdd, ↓reduceIte, k5, k0, hlt']
    refine hK _ _ ?_; clear hK K
    refine W_cond rfl (fun hc1 => by cases hc1) (fun hc1 => W_exit (hK0 _ _ ?_))
    clear hK0 hK1
    obtain rfl : i = n := by omega
    rw [List.take_of_length_le (by omega)] at hs
    refine W_seq_reg fun K hK => ?_
    simp -implicitDefEqProofs (disch := omega) only [go_sem, Nat.reduceEqDiff, Nat.reduceAdd, ↓reduceIte, k3, k4, k2, hb3.l2]
    have hmk : mkV tot e = some (sumZ l) := by rw [mkV_lift (by omega) hs]; exact mkV_self hv
    have hwg : w.heap.size ≤ g2 := by omega
    refine callW_of cal58 (rMake_v (hT.ext hx) h1 (by omega) (by omega) (by omega) hmk hD) ?_
    rintro _ w9 ⟨v9, rfl, hx9, h9⟩; refine ⟨_, rfl, ?_⟩
    replace h := h.ext hx9
    replace h1 := h1.ext hx9
    replace hb2 := hb2.ext hx9
    replace hb3 := hb3.ext hx9
    replace hD := hD.kp hx9
    replace hx := hx.trans hx9
    clear hx9
    refine storeS hb2 siz37 rfl (fV_s h9) fun w90 hk90 hb90 => ?_
    refine hK _ _ ?_; clear hK
    refine W_ret ?_
    try simp only [thenE_r, inB_r]
    exact retS rfl (by first | exact rfl | assumption | exact (by (try simp only [upd_ap, Nat.reduceEqDiff, ↓reduceIte]); first | done | assumption | exact rfl)) agg37 hb90 (fV_s h9) (Rt.fin hx h9 hk90 (by simp) (by omega))
end Go.Proofs.YtjamnehcmaloeaaGreatDoor
end
section
namespace Go.E
open Go Go.Sp
section
variable {P : Program} {t : TypeId} {k' : IntKind} {a b : Nat}
theorem shr64_52 : binV P .shr t (.int .u64 (a : Int)) (.int k' 52) = some (.int .u64 ((a / 4503599627370496 : Nat) : Int)) := by
  rw [bin_shr, if_neg (by omega)]
  exact congrArg (fun x => some (Value.int .u64 x)) (fdivN a 4503599627370496)
theorem shr64_1 : binV P .shr t (.int .u64 (a : Int)) (.int k' 1) = some (.int .u64 ((a / 2 : Nat) : Int)) := by
  rw [bin_shr, if_neg (by omega)]
  exact congrArg (fun x => some (Value.int .u64 x)) (fdivN a 2)
theorem and_2047 (ha : a < 18446744073709551616) : bitsV .and .u64 (a : Int) 2047 = ((a % 2048 : Nat) : Int) := by
  have := and64N ha (show 2047 < 18446744073709551616 by omega)
  rw [Nat.and_two_pow_sub_one_eq_mod a 11] at this
  exact this
theorem and_frac (ha : a < 18446744073709551616) : bitsV .and .u64 (a : Int) 4503599627370495 = ((a % 4503599627370496 : Nat) : Int) := by
  have := and64N ha (show 4503599627370495 < 18446744073709551616 by omega)
  rw [Nat.and_two_pow_sub_one_eq_mod a 52] at this
  exact this
theorem and_low (ha : a < 18446744073709551616) : bitsV .and .u64 (a : Int) 4294967295 = ((a % 4294967296 : Nat) : Int) := by
  have := and64N ha (show 4294967295 < 18446744073709551616 by omega)
  rw [Nat.and_two_pow_sub_one_eq_mod a 32] at this
  exact this
theorem and_one (ha : a < 18446744073709551616) : bitsV .and .u64 (a : Int) 1 = ((a % 2 : Nat) : Int) := by
  have := and64N ha (show 1 < 18446744073709551616 by omega)
  rw [Nat.and_two_pow_sub_one_eq_mod a 1] at this
  exact this
theorem and_pow (a k : Nat) : a &&& 2 ^ k = if a.testBit k = true then 2 ^ k else 0 := by
  apply Nat.eq_of_testBit_eq; intro i
  rw [Nat.testBit_and, Nat.testBit_two_pow]
  by_cases h : k = i
  · subst h; cases ht : a.testBit k <;> simp [Nat.testBit_two_pow]
  · simp only [h, decide_false, Bool.and_false]
    split <;> simp [Nat.testBit_two_pow, h]
theorem and_sign (ha : a < 18446744073709551616) : bitsV .and .u64 (a : Int) 9223372036854775808 = if 9223372036854775808 ≤ a then 9223372036854775808 else 0 := by
  have := and64N ha (show 9223372036854775808 < 18446744073709551616 by omega)
  have h2 : a &&& 9223372036854775808 = if 9223372036854775808 ≤ a then 9223372036854775808 else 0 := by
    have key := and_pow a 63
    rw [Nat.testBit_eq_decide_div_mod_eq] at key
    rw [show (9223372036854775808 : Nat) = 2 ^ 63 by rfl, key]
    by_cases h : 9223372036854775808 ≤ a
    · rw [if_pos (decide_eq_true (by omega)), if_pos (by omega)]
    · rw [if_neg (by rw [decide_eq_true_eq]; omega), if_neg (by omega)]
  rw [h2] at this
  rw [show (9223372036854775808 : Int) = ((9223372036854775808 : Nat) : Int) by rfl, this]
  split <;> rfl
theorem neg_bit (ha : a < 18446744073709551616) : (bitsV .and .u64 (a : Int) 9223372036854775808 != 0) = decide (9223372036854775808 ≤ a) := by
  rw [and_sign ha]
  split
  · rename_i h; rw [decide_eq_true h]; rfl
  · rename_i h; rw [decide_eq_false h]; rfl
theorem or_hid (ha : a < 4503599627370496) : bitsV .or .u64 (a : Int) 4503599627370496 = ((4503599627370496 + a : Nat) : Int) := by
  have := or64N (a := a) (b := 4503599627370496) (by omega) (by omega)
  have h2 := or_add (c := a) (m := 1) (k := 52) (by omega)
  rw [Nat.one_mul] at h2
  rw [show a ||| 4503599627370496 = a + 4503599627370496 from h2] at this
  rw [show (4503599627370496 : Int) = ((4503599627370496 : Nat) : Int) by rfl, this, Nat.add_comm]
theorem or_sign (ha : a < 9223372036854775808) : bitsV .or .u64 (a : Int) 9223372036854775808 = ((a + 9223372036854775808 : Nat) : Int) := by
  have := or64N (a := a) (b := 9223372036854775808) (by omega) (by omega)
  have h2 := or_add (c := a) (m := 1) (k := 63) (by omega)
  rw [Nat.one_mul] at h2
  rw [show a ||| 9223372036854775808 = a + 9223372036854775808 from h2] at this
  rw [show (9223372036854775808 : Int) = ((9223372036854775808 : Nat) : Int) by rfl, this]
theorem shl64_52 (h : a < 4096) : binV P .shl t (.int .u64 (a : Int)) (.int k' 52) = some (.int .u64 ((a * 4503599627370496 : Nat) : Int)) := by
  have := shl64N (P := P) (t := t) (k' := k') (a := a) (b := 52) (by omega)
  rw [show a * 2 ^ 52 % 18446744073709551616 = a * 4503599627370496 by omega] at this
  exact this
theorem or_exp (ha : a < 2048) (hb : b < 4503599627370496) : bitsV .or .u64 ((a * 4503599627370496 : Nat) : Int) (b : Int) = ((a * 4503599627370496 + b : Nat) : Int) := by
  have := or64N (a := a * 4503599627370496) (b := b) (by omega) (by omega)
  have h2 := or_add (c := b) (m := a) (k := 52) (by omega)
  rw [this, Nat.or_comm, show b ||| a * 4503599627370496 = b + a * 4503599627370496 from h2, Nat.add_comm]
end
attribute [go_sem high] shr64_52 shr64_1
end Go.E
namespace Go.Sp
open Go.E
def fin? (f : Nat) : Prop := f / 4503599627370496 % 2048 ≠ 2047
instance (f : Nat) : Decidable (fin? f) := by unfold fin?; infer_instance
theorem mkV_at {m E : Int} (hE : -65536 ≤ E) (hb : bl m.natAbs + (E + 65536).toNat ≤ 131072) : mkV m E = some (m * (2 : Int) ^ (E + 65536).toNat) := by
  rw [mkV_lift hE rfl]
  refine mkV_self ?_
  unfold dyOk
  by_cases h : m = 0
  · subst h; rw [Int.zero_mul]; exact Nat.zero_le _
  · rw [natAbs_mul_pow, bl_pow (by omega)]; exact hb
theorem ofF_mkV {f : Nat} (hf : fin? f) : ∃ V, ofF f = some V ∧ mkV (sgn (decide (9223372036854775808 ≤ f)) (if f / 4503599627370496 % 2048 = 0 then f % 4503599627370496 else 4503599627370496 + f % 4503599627370496)) (if f / 4503599627370496 % 2048 = 0 then -1074 else (f / 4503599627370496 % 2048 : Nat) - 1075) = some V := by
  unfold fin? at hf
  have hx := Nat.mod_lt (f / 4503599627370496) (show 0 < 2048 by omega)
  have hm := Nat.mod_lt f (show 0 < 4503599627370496 by omega)
  unfold ofF
  rw [if_neg hf]
  generalize f / 4503599627370496 % 2048 = x at *
  generalize f % 4503599627370496 = m at *
  split
  · refine ⟨_, rfl, ?_⟩
    have hb : bl m ≤ 52 := bl_le_of hm
    rw [mkV_at (by omega) (by rw [sgn_nat]; omega)]; rfl
  · refine ⟨_, rfl, ?_⟩
    have hb : bl (4503599627370496 + m) ≤ 53 := bl_le_of (Nat.lt_of_lt_of_le (show 4503599627370496 + m < 9007199254740992 by omega) (Nat.le_refl _))
    rw [mkV_at (by omega) (by rw [sgn_nat]; omega)]
    rw [show ((x : Int) - 1075 + 65536).toNat = 64461 + x by omega]
def fR (mode V : Int) : Nat := if V = 0 then 0 else rF mode (decide (V < 0)) V.natAbs (2 ^ 65536)
def fQ (mode a b : Int) : Nat := if a = 0 then 0 else rF mode (decide (a < 0) != decide (b < 0)) a.natAbs b.natAbs
theorem rE_VK {mode V : Int} {neg : Bool} {K : Nat} (hK : K = 65536) (h : V ≠ 0) : rE mode neg (od V).natAbs 1 (dyE V) = rF mode neg V.natAbs (2 ^ K) := by
  have h1 := od_abs V
  have h2 := od_ne h
  have ho : 0 < (od V).natAbs := by omega
  have hd : dyE V = (tz V.natAbs : Int) - 65536 := by unfold dyE; rw [if_neg h]
  have hV : 0 < V.natAbs := by omega
  unfold rE
  refine rF_cross (Nat.mul_pos ho (two_pos _)) (Nat.mul_pos Nat.one_pos (two_pos _)) hV (two_pos _) ?_
  generalize dyE V = e at *
  generalize tz V.natAbs = k at *
  rw [← h1, Nat.one_mul, Nat.mul_assoc, Nat.mul_assoc, ← Nat.pow_add, ← Nat.pow_add]
  congr 2; omega
theorem rE_V {mode V : Int} {neg : Bool} (h : V ≠ 0) : rE mode neg (od V).natAbs 1 (dyE V) = rF mode neg V.natAbs (2 ^ 65536) := rE_VK (K := 65536) rfl h
theorem rq_ge {mode : Int} {neg : Bool} {N D : Nat} : N / D ≤ rq mode neg N D := by unfold rq; (repeat' split) <;> omega
theorem n_ge {mode : Int} {neg : Bool} {N D : Nat} {e q : Int} (hD : 0 < D) (h : D ≤ N) (hq : q = e + bl (N / D) - 53) : 4503599627370496 ≤ rq mode neg (N * 2 ^ (e - q).toNat) (D * 2 ^ (q - e).toNat) := by
  refine Nat.le_trans ?_ rq_ge
  rw [cut_div]
  have h1 := lg_up hD h (e - q).toNat
  have hp := Nat.div_pos h hD
  have hb := bl_pos (n := N / D) (by omega)
  have h52 : (2 : Nat) ^ 52 = 4503599627370496 := by decide
  rw [← h52, Nat.le_div_iff_mul_le (two_pos _), ← Nat.pow_add]
  have hne : N * 2 ^ (e - q).toNat / D ≠ 0 := fun h0 => by
    rw [h0, bl_zero] at h1; omega
  have h2 := bl_le hne
  rw [h1] at h2
  rw [show 52 + (q - e).toNat = bl (N / D) + (e - q).toNat - 1 by omega]
  exact h2
theorem rE_over {mode : Int} {neg : Bool} {N D : Nat} {e : Int} (hD : 0 < D) (h : D ≤ N) (ht : 1024 ≤ e + bl (N / D) - 1) : rE mode neg N D e = over mode neg := by
  rw [rE_eq hD h]
  have hq : max (e + (bl (N / D) : Int) - 53) (-1074) = e + bl (N / D) - 53 := by omega
  rw [hq]
  have hn := n_ge (mode := mode) (neg := neg) hD h (q := e + bl (N / D) - 53) rfl
  unfold fin fin2
  split
  · rw [if_neg (by omega), if_pos (by omega)]
  · rw [if_neg (by omega), if_pos (by omega)]
end Go.Sp
end
section
namespace Go.Proofs.YtjamnehcmaloeaaGreatDoor
open Go Go.E Go.Sp
theorem u64ne {a b : Nat} : (((a : Nat) : Int) != ((b : Nat) : Int)) = decide (a ≠ b) := bneN
theorem rIsFinite_ok {f : Nat} {w : World} (hf : f < 18446744073709551616) : Calls Tryz.prog 56 #[.int .u64 f] w fun e w' => e = .returned (.bool (decide (fin? f))) ∧ w = w' := by
  refine calls_W Tryz.func56 rfl Tryz.ntmps56 (by kernel_rfl) ?_
  refine W_seq_reg fun K hK => ?_
  simp -implicitDefEqProofs (disch := omega) only [go_sem, Nat.reduceEqDiff, Nat.reduceAdd, ↓reduceIte]
  refine hK _ _ ?_; clear hK K
  have h1 := and_2047 (a := f / 4503599627370496) (by omega)
  have h2 : (((f / 4503599627370496 % 2048 : Nat) : Int) != 2047) = decide (fin? f) := bneN (b := 2047)
  refine W_seq_reg fun K hK => ?_
  simp -implicitDefEqProofs (disch := omega) only [go_sem, Nat.reduceEqDiff, Nat.reduceAdd, ↓reduceIte, h1, h2]
  refine hK _ _ ?_; clear hK K
  refine W_ret ?_
  try simp only [thenE_r, inB_r]
  refine ret1 rfl ⟨rfl, rfl⟩
theorem rMinus_ok {f : Nat} {w : World} (hf : f < 18446744073709551616) : Calls Tryz.prog 59 #[.int .u64 f] w fun e w' => e = .returned (.bool (decide (9223372036854775808 ≤ f))) ∧ w = w' := by
  refine calls_W Tryz.func59 rfl Tryz.ntmps59 (by kernel_rfl) ?_
  refine W_seq_reg fun K hK => ?_
  simp -implicitDefEqProofs (disch := omega) only [go_sem, Nat.reduceEqDiff, Nat.reduceAdd, ↓reduceIte]
  refine hK _ _ ?_; clear hK K
  have h2 := neg_bit hf
  refine W_seq_reg fun K hK => ?_
  simp -implicitDefEqProofs (disch := omega) only [go_sem, Nat.reduceEqDiff, Nat.reduceAdd, ↓reduceIte, h2]
  refine hK _ _ ?_; clear hK K
  refine W_ret ?_
  try simp only [thenE_r, inB_r]
  refine ret1 rfl ⟨rfl, rfl⟩
theorem rsigned_ok {f : Nat} {neg : Bool} {w : World} (hf : f < 9223372036854775808) : Calls Tryz.prog 143 #[.bool neg, .int .u64 f] w fun e w' => e = .returned (.int .u64 (sb neg f : Nat)) ∧ w = w' := by
  refine calls_W Tryz.func143 rfl Tryz.ntmps143 (by kernel_rfl) ?_
  refine W_seq_reg fun K hK => ?_
  simp -implicitDefEqProofs (disch := omega) only [go_sem, Nat.reduceEqDiff, Nat.reduceAdd, ↓reduceIte]
  refine hK _ _ ?_; clear hK K
  refine W_seq_k fun K0 hK0 => ?_
  refine W_seq_reg fun K hK => ?_
  simp -implicitDefEqProofs (disch := omega) only [go_sem, Nat.reduceEqDiff, Nat.reduceAdd, ↓reduceIte]
  refine hK _ _ ?_; clear hK K
  cases neg
  · refine W_cond rfl (fun hc => by cases hc) (fun hc => W_skip (hK0 _ _ ?_))
    clear hK0
    refine W_seq_reg fun K hK => ?_
    simp -implicitDefEqProofs (disch := omega) only [go_sem, Nat.reduceEqDiff, Nat.reduceAdd, ↓reduceIte]
    refine hK _ _ ?_; clear hK K
    refine W_ret ?_
    try simp only [thenE_r, inB_r]
    refine ret1 rfl ⟨by simp [sb, upd], rfl⟩
  · refine W_cond rfl (fun hc => ?_) (fun hc => by cases hc)
    have h := or_sign hf
    refine W_seq_reg fun K hK => ?_
    simp -implicitDefEqProofs (disch := omega) only [go_sem, Nat.reduceEqDiff, Nat.reduceAdd, ↓reduceIte, h]
    refine hK _ _ ?_; clear hK K
    refine W_ret ?_
    try simp only [thenE_r, inB_r]
    refine ret1 rfl ⟨by simp [sb, upd], rfl⟩
theorem rover_ok {neg : Bool} {mode : Int} {w : World} : Calls Tryz.prog 140 #[.bool neg, .int .i64 mode] w fun e w' => e = .returned (.int .u64 (over mode neg : Nat)) ∧ w = w' := by
  refine calls_W Tryz.func140 rfl Tryz.ntmps140 (by kernel_rfl) ?_
  refine W_seq_reg fun K hK => ?_
  simp -implicitDefEqProofs (disch := omega) only [go_sem, Nat.reduceEqDiff, Nat.reduceAdd, ↓reduceIte]
  refine hK _ _ ?_; clear hK K
  refine W_seq_k fun K0 hK0 => ?_
  by_cases m3 : mode = 3
  · have q : (mode == 3) = true := by simpa using m3
    refine W_seq_reg fun K hK => ?_
    simp -implicitDefEqProofs (disch := omega) only [go_sem, Nat.reduceEqDiff, Nat.reduceAdd, ↓reduceIte, q]
    refine hK _ _ ?_; clear hK K
    refine W_cond rfl (fun hc => ?_) (fun hc => by cases hc)
    refine W_seq_reg fun K hK => ?_
    simp -implicitDefEqProofs (disch := omega) only [go_sem, Nat.reduceEqDiff, Nat.reduceAdd, ↓reduceIte]
    refine callW_of cal143 (rsigned_ok (f := 9218868437227405311) (by omega)) ?_
    rintro _ _ ⟨rfl, rfl⟩; refine ⟨_, rfl, ?_⟩
    refine hK _ _ ?_; clear hK
    refine W_ret ?_
    try simp only [thenE_r, inB_r]
    refine ret1 rfl ⟨by simp [over, m3, upd], rfl⟩
  have q3 : (mode == 3) = false := by simpa using m3
  by_cases m1 : mode = 1
  · have q1 : (mode == 1) = true := by simpa using m1
    have q2 : (mode == 2) = false := by subst m1; rfl
    cases neg
    · refine W_seq_reg fun K hK => ?_
      simp -implicitDefEqProofs (disch := omega) only [go_sem, Nat.reduceEqDiff, Nat.reduceAdd, ↓reduceIte, q3, q1, q2]
      refine hK _ _ ?_; clear hK K
      refine W_cond rfl (fun hc => ?_) (fun hc => by cases hc)
      refine W_seq_reg fun K hK => ?_
      simp -implicitDefEqProofs (disch := omega) only [go_sem, Nat.reduceEqDiff, Nat.reduceAdd, ↓reduceIte]
      refine callW_of cal143 (rsigned_ok (f := 9218868437227405311) (by omega)) ?_
      rintro _ _ ⟨rfl, rfl⟩; refine ⟨_, rfl, ?_⟩
      refine hK _ _ ?_; clear hK
      refine W_ret ?_
      try simp only [thenE_r, inB_r]
      refine ret1 rfl ⟨by simp [over, m1, upd], rfl⟩
    · refine W_seq_reg fun K hK => ?_
      simp -implicitDefEqProofs (disch := omega) only [go_sem, Nat.reduceEqDiff, Nat.reduceAdd, ↓reduceIte, q3, q1, q2]
      refine hK _ _ ?_; clear hK K
      refine W_cond rfl (fun hc => by cases hc) (fun hc => W_skip (hK0 _ _ ?_))
      clear hK0
      refine W_seq_reg fun K hK => ?_
      simp -implicitDefEqProofs (disch := omega) only [go_sem, Nat.reduceEqDiff, Nat.reduceAdd, ↓reduceIte]
      refine callW_of cal143 (rsigned_ok (f := 9218868437227405312) (by omega)) ?_
      rintro _ _ ⟨rfl, rfl⟩; refine ⟨_, rfl, ?_⟩
      refine hK _ _ ?_; clear hK
      refine W_ret ?_
      try simp only [thenE_r, inB_r]
      refine ret1 rfl ⟨by simp [over, m1, upd], rfl⟩
  have q1 : (mode == 1) = false := by simpa using m1
  by_cases m2 : mode = 2
  · have q2 : (mode == 2) = true := by simpa using m2
    cases neg
    · refine W_seq_reg fun K hK => ?_
      simp -implicitDefEqProofs (disch := omega) only [go_sem, Nat.reduceEqDiff, Nat.reduceAdd, ↓reduceIte, q3, q1, q2]
      refine hK _ _ ?_; clear hK K
      refine W_cond rfl (fun hc => by cases hc) (fun hc => W_skip (hK0 _ _ ?_))
      clear hK0
      refine W_seq_reg fun K hK => ?_
      simp -implicitDefEqProofs (disch := omega) only [go_sem, Nat.reduceEqDiff, Nat.reduceAdd, ↓reduceIte]
      refine callW_of cal143 (rsigned_ok (f := 9218868437227405312) (by omega)) ?_
      rintro _ _ ⟨rfl, rfl⟩; refine ⟨_, rfl, ?_⟩
      refine hK _ _ ?_; clear hK
      refine W_ret ?_
      try simp only [thenE_r, inB_r]
      refine ret1 rfl ⟨by simp [over, m2, upd], rfl⟩
    · refine W_seq_reg fun K hK => ?_
      simp -implicitDefEqProofs (disch := omega) only [go_sem, Nat.reduceEqDiff, Nat.reduceAdd, ↓reduceIte, q3, q1, q2]
      refine hK _ _ ?_; clear hK K
      refine W_cond rfl (fun hc => ?_) (fun hc => by cases hc)
      refine W_seq_reg fun K hK => ?_
      simp -implicitDefEqProofs (disch := omega) only [go_sem, Nat.reduceEqDiff, Nat.reduceAdd, ↓reduceIte]
      refine callW_of cal143 (rsigned_ok (f := 9218868437227405311) (by omega)) ?_
      rintro _ _ ⟨rfl, rfl⟩; refine ⟨_, rfl, ?_⟩
      refine hK _ _ ?_; clear hK
      refine W_ret ?_
      try simp only [thenE_r, inB_r]
      refine ret1 rfl ⟨by simp [over, m2, upd], rfl⟩
  have q2 : (mode == 2) = false := by simpa using m2
  refine W_seq_reg fun K hK => ?_
  simp -implicitDefEqProofs (disch := omega) only [go_sem, Nat.reduceEqDiff, Nat.reduceAdd, ↓reduceIte, q3, q1, q2]
  refine hK _ _ ?_; clear hK K
  refine W_cond rfl (fun hc => by cases hc) (fun hc => W_skip (hK0 _ _ ?_))
  clear hK0
  refine W_seq_reg fun K hK => ?_
  simp -implicitDefEqProofs (disch := omega) only [go_sem, Nat.reduceEqDiff, Nat.reduceAdd, ↓reduceIte]
  refine callW_of cal143 (rsigned_ok (f := 9218868437227405312) (by omega)) ?_
  rintro _ _ ⟨rfl, rfl⟩; refine ⟨_, rfl, ?_⟩
  refine hK _ _ ?_; clear hK
  refine W_ret ?_
  try simp only [thenE_r, inB_r]
  refine ret1 rfl ⟨by simp [over, m1, m2, m3, upd], rfl⟩
theorem rOf_v {D : Nat → Prop} {f : Nat} {V : Int} {w : World} (hT : Tabs w) (hf : f < 18446744073709551616) (hv : ofF f = some V) (hfr : Fr D w) : Calls Tryz.prog 15 #[.int .u64 f] w (Rt (fV V) D w) := by
  have hf0 : Fr D w := hfr
  have hfin : fin? f := fun h => by unfold ofF at hv; rw [if_pos h] at hv; cases hv
  obtain ⟨V', hv', hmk⟩ := ofF_mkV hfin
  rw [hv] at hv'; cases hv'
  have hf := hfr
  refine calls_W Tryz.func15 rfl Tryz.ntmps15 (by kernel_rfl) ?_
  refine W_seq_reg fun K hK => ?_
  simp -implicitDefEqProofs (disch := omega) only [go_sem, Nat.reduceEqDiff, Nat.reduceAdd, ↓reduceIte]
  refine alW_of ?_
  intro g2 w2 hg2 hx2 hb2 hs2
  refine hK _ _ ?_; clear hK K
  have hx : Ext w w2 := hx2
  have hD : Fr (Dl D [g2]) w2 := hf.nL hx (by intro g hg; simp at hg; omega)
  clear hx2
  refine W_seq_k fun K0 hK0 => ?_
  refine W_seq_reg fun K hK => ?_
  simp -implicitDefEqProofs (disch := omega) only [go_sem, Nat.reduceEqDiff, Nat.reduceAdd, ↓reduceIte]
  refine callW_of cal56 (rIsFinite_ok (by assumption)) ?_
  rintro _ _ ⟨rfl, rfl⟩; refine ⟨_, rfl, ?_⟩
  rw [decide_eq_true hfin]
  simp -implicitDefEqProofs (disch := omega) only [go_sem, Nat.reduceEqDiff, Nat.reduceAdd, ↓reduceIte]
  refine hK _ _ ?_; clear hK
  refine W_cond rfl (fun hc => by cases hc) (fun hc => W_skip (hK0 _ _ ?_))
  clear hK0
  have h1 := and_2047 (a := f / 4503599627370496) (by omega)
  have h2 := and_frac (a := f) (by assumption)
  have hxm := Nat.mod_lt (f / 4503599627370496) (show 0 < 2048 by omega)
  have hm := Nat.mod_lt f (show 0 < 4503599627370496 by omega)
  obtain ⟨x, hxe⟩ : ∃ x, x = f / 4503599627370496 % 2048 := ⟨_, rfl⟩
  obtain ⟨m, hme⟩ : ∃ m, m = f % 4503599627370496 := ⟨_, rfl⟩
  rw [← hxe] at hxm h1 hmk
  rw [← hme] at hm h2 hmk
  obtain ⟨sg, hsg⟩ : ∃ sg, sg = decide (9223372036854775808 ≤ f) := ⟨_, rfl⟩
  rw [← hsg] at hmk
  have h3 : IntKind.i64.wrap ((x : Nat) : Int) = x := i64_in (by omega) (by omega)
  refine W_seq_reg fun K hK => ?_
  simp -implicitDefEqProofs (disch := omega) only [go_sem, Nat.reduceEqDiff, Nat.reduceAdd, ↓reduceIte, h1, h2, h3]
  refine hK _ _ ?_; clear hK K
  refine W_seq_reg fun K hK => ?_
  simp -implicitDefEqProofs (disch := omega) only [go_sem, Nat.reduceEqDiff, Nat.reduceAdd, ↓reduceIte]
  refine hK _ _ ?_; clear hK K
  refine W_seq_k fun K0 hK0 => ?_
  have fin : ∀ (e1 : Env) (M : Nat) (E : Int), e1 0 = .int .u64 f → e1 2 = .pointer (some ⟨g2, 0, none⟩) → e1 4 = .int .u64 M → e1 5 = .int .i64 E → M < 9007199254740992 → -1074 ≤ E → E ≤ 2000 → mkV (sgn sg M) E = some V → K0 e1 w2 := by
    intro e1 M E k0 k2 k4 k5 hM hE1 hE2 hmk
    refine hK0 _ _ ?_; clear hK0
    refine W_seq_reg fun K hK => ?_
    simp -implicitDefEqProofs (disch := omega) only [go_sem, Nat.reduceEqDiff, Nat.reduceAdd, ↓reduceIte, k0]
    refine callW_of cal59 (rMinus_ok (by assumption)) ?_
    rintro _ _ ⟨rfl, rfl⟩; refine ⟨_, rfl, ?_⟩
    rw [← hsg]
    simp -implicitDefEqProofs (disch := omega) only [go_sem, Nat.reduceEqDiff, Nat.reduceAdd, ↓reduceIte, k4, k5]
    refine bsW_of fun w4 hx4 hb4 hs4 => ?_
    have hU : U32 w4 (Dl D [g2]) _ 2 2 _ := (own2 hb4 (Nat.mod_lt _ (by omega)) (Nat.mod_lt _ (by omega))).u32 fun k hk => hD k hk
    replace hb2 := hb2.ext hx4
    replace hD := hD.kp hx4
    replace hx := hx.trans hx4
    simp -implicitDefEqProofs (disch := omega) only [go_sem, Nat.reduceEqDiff, Nat.reduceAdd, ↓reduceIte, k2]
    have hval : val [M % 4294967296, M / 4294967296 % 4294967296] = M := by simp only [val, B]; omega
    have hbl : bl M ≤ 53 := bl_le_of (show M < 2 ^ 53 by omega)
    refine callW_of cal58 (rMake_ok (hT.ext hx) hU.in (by rw [hval]; omega) (by omega) (by omega) (by omega) (by rw [hval]; exact hmk) hD) ?_
    rintro _ w5 ⟨v5, rfl, hx5, h5⟩; refine ⟨_, rfl, ?_⟩
    replace hb2 := hb2.ext hx5
    replace hD := hD.kp hx5
    replace hx := hx.trans hx5
    clear hx5
    refine storeS hb2 siz37 rfl (fV_s h5) fun w90 hk90 hb90 => ?_
    refine hK _ _ ?_; clear hK
    refine W_ret ?_
    try simp only [thenE_r, inB_r]
    exact retS rfl (by first | exact rfl | assumption | exact (by (try simp only [upd_ap, Nat.reduceEqDiff, ↓reduceIte]); first | done | assumption | exact rfl)) agg37 hb90 (fV_s h5) (Rt.fin hx h5 hk90 (by simp) (by omega))
  by_cases hx0 : x = 0
  · have q : ¬ ((x : Int) > 0) := by omega
    refine W_seq_reg fun K hK => ?_
    simp -implicitDefEqProofs (disch := omega) only [go_sem, Nat.reduceEqDiff, Nat.reduceAdd, ↓reduceIte, q]
    refine hK _ _ ?_; clear hK K
    refine W_cond rfl (fun hc => by cases hc) (fun hc => W_skip ?_)
    rw [if_pos hx0, if_pos hx0] at hmk
    exact fin _ m (-1074) (by (try simp only [upd_ap, Nat.reduceEqDiff, ↓reduceIte]); first | done | assumption | exact rfl) (by (try simp only [upd_ap, Nat.reduceEqDiff, ↓reduceIte]); first | done | assumption | exact rfl) (by (try simp only [upd_ap, Nat.reduceEqDiff, ↓reduceIte]); first | done | assumption | exact rfl) (by (try simp only [upd_ap, Nat.reduceEqDiff, ↓reduceIte]); first | done | assumption | exact rfl) (by omega) (by omega) (by omega) hmk
  · have q : ((x : Int) > 0) := by omega
    refine W_seq_reg fun K hK => ?_
    simp -implicitDefEqProofs (disch := omega) only [go_sem, Nat.reduceEqDiff, Nat.reduceAdd, ↓reduceIte, q]
    refine hK _ _ ?_; clear hK K
    refine W_cond rfl (fun hc => ?_) (fun hc => by cases hc)
    have h4 := or_hid hm
    have h5 : IntKind.i64.wrap ((x : Int) - 1075) = (x : Int) - 1075 := i64_in (by omega) (by omega)
    refine W_seq_reg fun K hK => ?_
    simp -implicitDefEqProofs (disch := omega) only [go_sem, Nat.reduceEqDiff, Nat.reduceAdd, ↓reduceIte, h4]
    refine hK _ _ ?_; clear hK K
    refine W_regK fun K9 hK9 => ?_
    simp -implicitDefEqProofs (disch := omega) only [go_sem, Nat.reduceEqDiff, Nat.reduceAdd, ↓reduceIte, h5]
    refine hK9 _ _ ?_; clear hK9 K9
    rw [if_neg hx0, if_neg hx0] at hmk
    exact fin _ _ _ (by (try simp only [upd_ap, Nat.reduceEqDiff, ↓reduceIte]); first | done | assumption | exact rfl) (by (try simp only [upd_ap, Nat.reduceEqDiff, ↓reduceIte]); first | done | assumption | exact rfl) (by (try simp only [upd_ap, Nat.reduceEqDiff, ↓reduceIte]); first | done | assumption | exact rfl) (by (try simp only [upd_ap, Nat.reduceEqDiff, ↓reduceIte]); first | done | assumption | exact rfl) (by omega) (by omega) (by omega) hmk
end Go.Proofs.YtjamnehcmaloeaaGreatDoor
end
section
namespace Go.Proofs.YtjamnehcmaloeaaGreatDoor
open Go Go.E Go.Sp
theorem rrounded_v {D : Nat → Prop} {v : Value} {N M : Nat} {neg more : Bool} {mode e : Int} {w : World} (hT : Tabs w) (h : In (fB ((N / M : Nat) : Int)) D v w) (hM : 0 < M) (hN : M ≤ N) (hm : more = decide (N % M ≠ 0)) (hmb : more = true → 55 ≤ bl (N / M)) (hb : bl (N / M) ≤ 200000) (he1 : -200000 ≤ e) (he2 : e ≤ 200000) (hf : Fr D w) :
    Calls Tryz.prog 71 #[.bool neg, v, .int .i64 e, .bool more, .int .i64 mode] w fun x w' => x = .returned (.int .u64 (rE mode neg N M e : Nat)) ∧ Ext w w' := by
  obtain ⟨s, A, n, c, rfl, _⟩ := id h
  refine calls_W Tryz.func71 rfl Tryz.ntmps71 (by kernel_rfl) ?_
  refine W_seq_reg fun K hK => ?_
  simp -implicitDefEqProofs (disch := omega) only [go_sem, Nat.reduceEqDiff, Nat.reduceAdd, ↓reduceIte]
  refine boxW_of ?_
  intro g6 w6 hg6 hx6 hb6 hs6
  refine hK _ _ ?_; clear hK K
  have hx : Ext w w6 := hx6
  replace h := (h.nL (L := [g6]) (by intro g hg; simp at hg; omega)).ext hx
  have hD : Fr (Dl D [g6]) w6 := hf.nL hx (by intro g hg; simp at hg; omega)
  clear hx6
  have hp := Nat.div_pos hN hM
  have hL1 := bl_pos (n := N / M) (by omega)
  obtain ⟨L, hL⟩ : ∃ L, L = bl (N / M) := ⟨_, rfl⟩
  rw [← hL] at hmb hb hL1
  refine W_seq_reg fun K hK => ?_
  simp -implicitDefEqProofs (disch := omega) only [go_sem, Nat.reduceEqDiff, Nat.reduceAdd, ↓reduceIte, hb6.l2]
  refine callW_of cal128 (rBitLen_v h (by first | omega | (simp only [Int.natAbs_natCast, Int.natAbs_neg]; omega))) ?_
  rintro _ w7 ⟨rfl, hx7⟩; refine ⟨_, rfl, ?_⟩
  replace h := h.ext hx7
  replace hb6 := hb6.ext hx7
  replace hD := hD.kp hx7
  replace hx := hx.trans hx7
  clear hx7
  rw [Int.natAbs_natCast, ← hL]
  have e1 : IntKind.i64.wrap (e + ((L : Nat) : Int)) = e + L := i64_in (by omega) (by omega)
  have e2 : IntKind.i64.wrap (e + (L : Int) - 1) = e + L - 1 := i64_in (by omega) (by omega)
  simp -implicitDefEqProofs (disch := omega) only [go_sem, Nat.reduceEqDiff, Nat.reduceAdd, ↓reduceIte, e1, e2]
  refine hK _ _ ?_; clear hK
  refine W_seq_k fun K0 hK0 => ?_
  by_cases ht : e + (L : Int) - 1 ≥ 1024
  · refine W_seq_reg fun K hK => ?_
    simp -implicitDefEqProofs (disch := omega) only [go_sem, Nat.reduceEqDiff, Nat.reduceAdd, ↓reduceIte, ht]
    refine hK _ _ ?_; clear hK K
    refine W_cond rfl (fun hc => ?_) (fun hc => by cases hc)
    refine W_seq_reg fun K hK => ?_
    simp -implicitDefEqProofs (disch := omega) only [go_sem, Nat.reduceEqDiff, Nat.reduceAdd, ↓reduceIte]
    refine callW_of cal140 (rover_ok) ?_
    rintro _ _ ⟨rfl, rfl⟩; refine ⟨_, rfl, ?_⟩
    refine hK _ _ ?_; clear hK
    have := rE_over (mode := mode) (neg := neg) hM hN (e := e) (by omega)
    refine W_ret ?_
    try simp only [thenE_r, inB_r]
    refine ret1 rfl ⟨by simp only [upd_ap, Nat.reduceEqDiff, ↓reduceIte]; rw [this], hx⟩
  · refine W_seq_reg fun K hK => ?_
    simp -implicitDefEqProofs (disch := omega) only [go_sem, Nat.reduceEqDiff, Nat.reduceAdd, ↓reduceIte, ht]
    refine hK _ _ ?_; clear hK K
    refine W_cond rfl (fun hc => by cases hc) (fun hc => W_skip (hK0 _ _ ?_))
    clear hK0
    have hval := rE_eq (mode := mode) (neg := neg) (e := e) hM hN
    have hnle := rE_le (mode := mode) (neg := neg) (e := e) (q := max (e + (bl (N / M) : Int) - 53) (-1074)) hM hN (by omega)
    rw [← hL] at hval hnle
    have e3 : IntKind.i64.wrap (e + (L : Int) - 1 - 52) = e + L - 53 := by rw [i64_in (by omega) (by omega)]; omega
    obtain ⟨q, hq⟩ : ∃ q, q = max (e + (L : Int) - 53) (-1074) := ⟨_, rfl⟩
    have hq' := hq.symm
    rw [hq'] at hval hnle
    refine W_seq_reg fun K hK => ?_
    simp -implicitDefEqProofs (disch := omega) only [go_sem, Nat.reduceEqDiff, Nat.reduceAdd, ↓reduceIte, e3, hq']
    refine hK _ _ ?_; clear hK K
    refine W_seq_reg fun K hK => ?_
    simp -implicitDefEqProofs (disch := omega) only [go_sem, Nat.reduceEqDiff, Nat.reduceAdd, ↓reduceIte]
    refine alW_of ?_
    intro g13 w13 hg13 hx13 hb13 hs13
    have hgl13 := hx.size
    have hn13hb6 := hb6.lt
    replace h := (h.nw (g := g13) (by omega)).ext hx13
    replace hb6 := hb6.ext hx13
    replace hD := hD.nw (g := g13) hx13 (by omega)
    replace hx := hx.trans hx13
    clear hx13
    refine hK _ _ ?_; clear hK
    obtain ⟨r, hr⟩ : ∃ r, r = rq mode neg (N * 2 ^ (e - q).toNat) (M * 2 ^ (q - e).toNat) := ⟨_, rfl⟩
    rw [← hr] at hval hnle
    have hbr : bl r ≤ 54 := bl_le_of (Nat.lt_of_le_of_lt hnle (by decide))
    refine W_seq_k fun K0 hK0 => ?_
    have fin : ∀ (e9 : Env) (w9 : World) (s9 : Bool) (A9 : Option Addr) (n9 c9 : Nat), Ext w w9 → In (fB (r : Int)) (Dl D [g13, g6]) (.agg #[.bool s9, .slice A9 n9 c9]) w9 → Blk w9 g13 35 #[.bool s9, .slice A9 n9 c9] → Fr (Dl D [g13, g6]) w9 → e9 0 = .bool neg → e9 4 = .int .i64 mode → e9 12 = .int .i64 q → e9 13 = .pointer (some ⟨g13, 0, none⟩) → K0 e9 w9 := by
      intro e9 w9 s9 A9 n9 c9 hx h hb9 hD k0 k4 k12 k13
      refine hK0 _ _ ?_; clear hK0
      refine W_seq_reg fun K hK => ?_
      simp -implicitDefEqProofs (disch := omega) only [go_sem, Nat.reduceEqDiff, Nat.reduceAdd, ↓reduceIte, k13, hb9.l2]
      refine callW_of cal142 (rInt_v h (by omega) (by omega) hD) ?_
      rintro _ w10 ⟨rfl, hx10⟩; refine ⟨_, rfl, ?_⟩
      replace h := h.ext hx10
      replace hb9 := hb9.ext hx10
      replace hD := hD.kp hx10
      replace hx := hx.trans hx10
      clear hx10
      simp -implicitDefEqProofs (disch := omega) only [go_sem, Nat.reduceEqDiff, Nat.reduceAdd, ↓reduceIte]
      refine hK _ _ ?_; clear hK
      refine W_seq_k fun K0 hK0 => ?_
      have fin2 : ∀ (e9 : Env) (n2 : Nat) (q2 : Int), e9 0 = .bool neg → e9 4 = .int .i64 mode → e9 12 = .int .i64 q2 → e9 14 = .int .i64 n2 → n2 < 9007199254740992 → -1074 ≤ q2 → q2 ≤ 600000 → rE mode neg N M e = fin2 mode neg n2 q2 → K0 e9 w10 := by
        intro e9 n2 q2 k0 k4 k12 k14 hn2 hq1 hq2 hres
        refine hK0 _ _ ?_; clear hK0
        refine W_seq_blk fun K hK => ?_
        unfold Go.Sp.fin2 at hres
        have e4 : IntKind.i64.wrap (q2 + 53) = q2 + 53 := i64_in (by omega) (by omega)
        by_cases h52 : (n2 : Int) ≥ 4503599627370496
        · rw [if_neg (by omega)] at hres
          by_cases hov : q2 + 53 > 1024
          · rw [if_pos (by omega)] at hres
            refine W_seq_reg fun K hK => ?_
            simp -implicitDefEqProofs (disch := omega) only [go_sem, Nat.reduceEqDiff, Nat.reduceAdd, ↓reduceIte, k14, k12, h52, e4, hov]
            refine hK _ _ ?_; clear hK K
            refine W_cond rfl (fun hc => ?_) (fun hc => by cases hc)
            refine W_seq_reg fun K hK => ?_
            simp -implicitDefEqProofs (disch := omega) only [go_sem, Nat.reduceEqDiff, Nat.reduceAdd, ↓reduceIte, k0, k4]
            refine callW_of cal140 (rover_ok) ?_
            rintro _ _ ⟨rfl, rfl⟩; refine ⟨_, rfl, ?_⟩
            refine hK _ _ ?_; clear hK
            refine W_ret ?_
            try simp only [thenE_r, inB_r]
            refine ret1 rfl ⟨by simp only [upd_ap, Nat.reduceEqDiff, ↓reduceIte]; rw [hres], hx⟩
          · rw [if_neg (by omega)] at hres
            refine W_seq_reg fun K hK => ?_
            simp -implicitDefEqProofs (disch := omega) only [go_sem, Nat.reduceEqDiff, Nat.reduceAdd, ↓reduceIte, k14, k12, h52, e4, hov]
            refine hK _ _ ?_; clear hK K
            refine W_cond rfl (fun hc => by cases hc) (fun hc => ?_)
            refine W_seq_reg fun K hK => ?_
            simp -implicitDefEqProofs (disch := omega) only [go_sem, Nat.reduceEqDiff, Nat.reduceAdd, ↓reduceIte, k14, h52]
            refine hK _ _ ?_; clear hK K
            refine W_cond rfl (fun hc => ?_) (fun hc => by cases hc)
            have e5 : IntKind.i64.wrap (q2 + 1075) = q2 + 1075 := i64_in (by omega) (by omega)
            have e6 : IntKind.u64.wrap (q2 + 1075) = (((q2 + 1075).toNat : Nat) : Int) := by rw [u64_in (by omega) (by omega)]; omega
            have e7 : IntKind.i64.wrap ((n2 : Int) - 4503599627370496) = (n2 : Int) - 4503599627370496 := i64_in (by omega) (by omega)
            have e8 : IntKind.u64.wrap ((n2 : Int) - 4503599627370496) = ((n2 - 4503599627370496 : Nat) : Int) := by rw [u64_in (by omega) (by omega)]; omega
            have e9 := or_exp (a := (q2 + 1075).toNat) (b := n2 - 4503599627370496) (by omega) (by omega)
            have e10 := shl64_52 (P := Tryz.prog) (t := 40) (k' := .u64) (a := (q2 + 1075).toNat) (by omega)
            refine W_seq_reg fun K hK => ?_
            simp -implicitDefEqProofs (disch := omega) only [go_sem, Nat.reduceEqDiff, Nat.reduceAdd, ↓reduceIte, k0, k12, k14, e5, e6, e7, e8, e10, e9]
            refine callW_of cal143 (rsigned_ok (by omega)) ?_
            rintro _ _ ⟨rfl, rfl⟩; refine ⟨_, rfl, ?_⟩
            refine hK _ _ ?_; clear hK
            refine W_ret ?_
            try simp only [thenE_r, inB_r]
            refine ret1 rfl ⟨by simp only [upd_ap, Nat.reduceEqDiff, ↓reduceIte]; rw [hres], hx⟩
        · rw [if_pos (by omega)] at hres
          refine W_seq_reg fun K hK => ?_
          simp -implicitDefEqProofs (disch := omega) only [go_sem, Nat.reduceEqDiff, Nat.reduceAdd, ↓reduceIte, k14, h52]
          refine hK _ _ ?_; clear hK K
          refine W_cond rfl (fun hc => by cases hc) (fun hc => ?_)
          refine W_seq_reg fun K hK => ?_
          simp -implicitDefEqProofs (disch := omega) only [go_sem, Nat.reduceEqDiff, Nat.reduceAdd, ↓reduceIte, k14, h52]
          refine hK _ _ ?_; clear hK K
          refine W_cond rfl (fun hc => by cases hc) (fun hc => W_skip (hK _ _ ?_))
          have e8 : IntKind.u64.wrap (n2 : Int) = (n2 : Int) := u64_in (by omega) (by omega)
          refine W_seq_reg fun K hK => ?_
          simp -implicitDefEqProofs (disch := omega) only [go_sem, Nat.reduceEqDiff, Nat.reduceAdd, ↓reduceIte, k0, k14, e8]
          refine callW_of cal143 (rsigned_ok (by omega)) ?_
          rintro _ _ ⟨rfl, rfl⟩; refine ⟨_, rfl, ?_⟩
          refine hK _ _ ?_; clear hK
          refine W_ret ?_
          try simp only [thenE_r, inB_r]
          refine ret1 rfl ⟨by simp only [upd_ap, Nat.reduceEqDiff, ↓reduceIte]; rw [hres], hx⟩
      unfold Go.Sp.fin at hval
      by_cases h53 : r = 9007199254740992
      · have q1 : ((r : Int) == 9007199254740992) = true := by rw [h53]; rfl
        rw [if_pos h53] at hval
        refine W_seq_reg fun K hK => ?_
        simp -implicitDefEqProofs (disch := omega) only [go_sem, Nat.reduceEqDiff, Nat.reduceAdd, ↓reduceIte, q1]
        refine hK _ _ ?_; clear hK K
        refine W_cond rfl (fun hc => ?_) (fun hc => by cases hc)
        have e4 : IntKind.i64.wrap (q + 1) = q + 1 := i64_in (by omega) (by omega)
        refine W_seq_reg fun K hK => ?_
        simp -implicitDefEqProofs (disch := omega) only [go_sem, Nat.reduceEqDiff, Nat.reduceAdd, ↓reduceIte]
        refine hK _ _ ?_; clear hK K
        refine W_regK fun K9 hK9 => ?_
        simp -implicitDefEqProofs (disch := omega) only [go_sem, Nat.reduceEqDiff, Nat.reduceAdd, ↓reduceIte, k12, e4]
        refine hK9 _ _ ?_; clear hK9 K9
        exact fin2 _ 4503599627370496 (q + 1) (by (try simp only [upd_ap, Nat.reduceEqDiff, ↓reduceIte]); first | done | assumption | exact rfl) (by (try simp only [upd_ap, Nat.reduceEqDiff, ↓reduceIte]); first | done | assumption | exact rfl) (by (try simp only [upd_ap, Nat.reduceEqDiff, ↓reduceIte]); first | done | assumption | exact rfl) (by (try simp only [upd_ap, Nat.reduceEqDiff, ↓reduceIte]); first | done | assumption | exact rfl) (by omega) (by omega) (by omega) hval
      · have q1 : ((r : Int) == 9007199254740992) = false := by
          have := beqN (a := r) (b := 9007199254740992)
          rw [decide_eq_false h53] at this; exact this
        rw [if_neg h53] at hval
        refine W_seq_reg fun K hK => ?_
        simp -implicitDefEqProofs (disch := omega) only [go_sem, Nat.reduceEqDiff, Nat.reduceAdd, ↓reduceIte, q1]
        refine hK _ _ ?_; clear hK K
        refine W_cond rfl (fun hc => by cases hc) (fun hc => W_skip ?_)
        exact fin2 _ r q (by (try simp only [upd_ap, Nat.reduceEqDiff, ↓reduceIte]); first | done | assumption | exact rfl) (by (try simp only [upd_ap, Nat.reduceEqDiff, ↓reduceIte]); first | done | assumption | exact rfl) (by (try simp only [upd_ap, Nat.reduceEqDiff, ↓reduceIte]); first | done | assumption | exact rfl) (by (try simp only [upd_ap, Nat.reduceEqDiff, ↓reduceIte]); first | done | assumption | exact rfl) (by omega) (by omega) (by omega) hval
    by_cases hqe : q ≥ e
    · refine W_seq_reg fun K hK => ?_
      simp -implicitDefEqProofs (disch := omega) only [go_sem, Nat.reduceEqDiff, Nat.reduceAdd, ↓reduceIte, hqe]
      refine hK _ _ ?_; clear hK K
      refine W_cond rfl (fun hc => ?_) (fun hc => by cases hc)
      have e4 : IntKind.i64.wrap (q - e) = (((q - e).toNat : Nat) : Int) := by rw [i64_in (by omega) (by omega)]; omega
      have hr2 : r = rq mode neg N (M * 2 ^ (q - e).toNat) := by rw [hr, show (e - q).toNat = 0 by omega, Nat.pow_zero, Nat.mul_one]
      refine W_regK fun K9 hK9 => ?_
      simp -implicitDefEqProofs (disch := omega) only [go_sem, Nat.reduceEqDiff, Nat.reduceAdd, ↓reduceIte, hb6.l2, e4]
      refine callW_of cal141 (rCut_v (hT.ext hx) h hM hm (fun h => by have := hmb h; omega) (by omega) (by omega) hD) ?_
      rintro _ w14 ⟨v14, rfl, hx14, h14⟩; refine ⟨_, rfl, ?_⟩
      replace h := h.ext hx14
      replace hb6 := hb6.ext hx14
      replace hb13 := hb13.ext hx14
      replace hD := hD.kp hx14
      replace hx := hx.trans hx14
      clear hx14
      rw [← hr2] at h14
      obtain ⟨s14, A14, n14, c14, rfl, _⟩ := id h14
      refine storeW_of hb13 siz35 rfl rfl fun w15 hk15 hz15 => ?_
      replace h := h.ow hk15 (by simp)
      replace h14 := h14.ow hk15 (by simp)
      replace hb6 := hb6.kpne hk15 (by omega)
      replace hD := hD.ow hk15
      replace hx := hx.under hk15 (fun k hk => by omega)
      clear hb13 hk15
      have hb13 := hz15; clear hz15
      refine hK9 _ _ ?_; clear hK9
      exact fin _ _ _ _ _ _ hx h14 hb13 hD (by (try simp only [upd_ap, Nat.reduceEqDiff, ↓reduceIte]); first | done | assumption | exact rfl) (by (try simp only [upd_ap, Nat.reduceEqDiff, ↓reduceIte]); first | done | assumption | exact rfl) (by (try simp only [upd_ap, Nat.reduceEqDiff, ↓reduceIte]); first | done | assumption | exact rfl) (by (try simp only [upd_ap, Nat.reduceEqDiff, ↓reduceIte]); first | done | assumption | exact rfl)
    · skip
      refine W_seq_reg fun K hK => ?_
      simp -implicitDefEqProofs (disch := omega) only [go_sem, Nat.reduceEqDiff, Nat.reduceAdd, ↓reduceIte, hqe]
      refine hK _ _ ?_; clear hK K
      refine W_cond rfl (fun hc => by cases hc) (fun hc => ?_)
      have e4 : IntKind.i64.wrap (e - q) = e - q := i64_in (by omega) (by omega)
      have hmo : N % M = 0 := by
        cases more
        · simpa using hm.symm
        · have := hmb rfl; omega
      have hr2 : ((r : Nat) : Int) = shI ((N / M : Nat) : Int) (e - q) := by
        rw [hr, show (q - e).toNat = 0 by omega, Nat.pow_zero, Nat.mul_one]
        have hd : M * (N / M) = N := by have := Nat.div_add_mod N M; omega
        rw [rq_exact (by rw [← hd, Nat.mul_assoc]; exact Nat.mul_mod_right _ _)]
        unfold shI
        rw [if_pos (by omega), ← pow_cast, ← Int.natCast_mul]
        congr 1
        rw [← hd, Nat.mul_assoc, Nat.mul_div_cancel_left _ hM, Nat.mul_div_cancel_left _ hM]
      refine W_regK fun K9 hK9 => ?_
      simp -implicitDefEqProofs (disch := omega) only [go_sem, Nat.reduceEqDiff, Nat.reduceAdd, ↓reduceIte, hb6.l2, e4]
      refine callW_of cal65 (rShift_v h (by first | omega | (simp only [Int.natAbs_natCast, Int.natAbs_neg]; omega)) (by omega) (by omega) hD) ?_
      rintro _ w14 ⟨v14, rfl, hx14, h14⟩; refine ⟨_, rfl, ?_⟩
      replace h := h.ext hx14
      replace hb6 := hb6.ext hx14
      replace hb13 := hb13.ext hx14
      replace hD := hD.kp hx14
      replace hx := hx.trans hx14
      clear hx14
      rw [← hr2] at h14
      obtain ⟨s14, A14, n14, c14, rfl, _⟩ := id h14
      refine storeW_of hb13 siz35 rfl rfl fun w15 hk15 hz15 => ?_
      replace h := h.ow hk15 (by simp)
      replace h14 := h14.ow hk15 (by simp)
      replace hb6 := hb6.kpne hk15 (by omega)
      replace hD := hD.ow hk15
      replace hx := hx.under hk15 (fun k hk => by omega)
      clear hb13 hk15
      have hb13 := hz15; clear hz15
      refine hK9 _ _ ?_; clear hK9
      exact fin _ _ _ _ _ _ hx h14 hb13 hD (by (try simp only [upd_ap, Nat.reduceEqDiff, ↓reduceIte]); first | done | assumption | exact rfl) (by (try simp only [upd_ap, Nat.reduceEqDiff, ↓reduceIte]); first | done | assumption | exact rfl) (by (try simp only [upd_ap, Nat.reduceEqDiff, ↓reduceIte]); first | done | assumption | exact rfl) (by (try simp only [upd_ap, Nat.reduceEqDiff, ↓reduceIte]); first | done | assumption | exact rfl)
end Go.Proofs.YtjamnehcmaloeaaGreatDoor
end
section
namespace Go.Sp
open Go.E
def kindS (f : Nat) : Nat := if f / 4503599627370496 % 2048 = 2047 ∧ f % 4503599627370496 ≠ 0 then 3 else if f / 4503599627370496 % 2048 = 2047 then 2 else if f / 4503599627370496 % 2048 = 0 ∧ f % 4503599627370496 = 0 then 0 else 1
theorem sb_div {neg : Bool} {x : Nat} : sb neg x / 4503599627370496 % 2048 = x / 4503599627370496 % 2048 := by unfold sb; split <;> omega
end Go.Sp
namespace Go.Proofs.YtjamnehcmaloeaaGreatDoor
open Go Go.E Go.Sp
theorem rRound_v {D : Nat → Prop} {v : Value} {V mode : Int} {w : World} (hT : Tabs w) (h : In (fV V) D v w) (hf : Fr D w) : Calls Tryz.prog 30 #[v, .int .i64 mode] w fun x w' => x = .returned (.int .u64 (fR mode V : Nat)) ∧ Ext w w' := by
  obtain ⟨s, A, n, c, rfl, _, _⟩ := id h
  refine calls_W Tryz.func30 rfl Tryz.ntmps30 (by kernel_rfl) ?_
  refine W_seq_reg fun K hK => ?_
  simp -implicitDefEqProofs (disch := omega) only [go_sem, Nat.reduceEqDiff, Nat.reduceAdd, ↓reduceIte]
  refine boxW_of ?_
  intro g2 w2 hg2 hx2 hb2 hs2
  refine hK _ _ ?_; clear hK K
  have hx : Ext w w2 := hx2
  replace h := (h.nL (L := [g2]) (by intro g hg; simp at hg; omega)).ext hx
  have hD : Fr (Dl D [g2]) w2 := hf.nL hx (by intro g hg; simp at hg; omega)
  clear hx2
  obtain ⟨hd1, hd2, hd3⟩ := dyE_bd h.ok
  refine W_seq_reg fun K hK => ?_
  simp -implicitDefEqProofs (disch := omega) only [go_sem, Nat.reduceEqDiff, Nat.reduceAdd, ↓reduceIte, hb2.l4]
  refine callW_of cal60 (rNormD_v (hT.ext hx) h hD) ?_
  rintro _ w5 ⟨v5, rfl, hx5, h5⟩; refine ⟨_, rfl, ?_⟩
  replace h := h.ext hx5
  replace hb2 := hb2.ext hx5
  replace hD := hD.kp hx5
  replace hx := hx.trans hx5
  clear hx5
  obtain ⟨s5, A5, n5, c5, rfl, _, _⟩ := id h5
  refine storeW_of hb2 siz37 rfl rfl fun w6 hk6 hz6 => ?_
  replace h := h.ow hk6 (by simp)
  replace h5 := h5.ow hk6 (by simp)
  replace hD := hD.ow hk6
  replace hx := hx.under hk6 (fun k hk => by omega)
  clear hb2 hk6
  have hb2 := hz6; clear hz6
  refine hK _ _ ?_; clear hK
  refine W_seq_k fun K0 hK0 => ?_
  refine W_seq_reg fun K hK => ?_
  simp -implicitDefEqProofs (disch := omega) only [go_sem, Nat.reduceEqDiff, Nat.reduceAdd, ↓reduceIte, hb2.c0]
  refine hK _ _ ?_; clear hK K
  refine W_cond rfl (fun hc => by cases hc) (fun hc => W_skip (hK0 _ _ ?_))
  clear hK0
  refine W_seq_k fun K0 hK0 => ?_
  refine W_seq_reg fun K hK => ?_
  simp -implicitDefEqProofs (disch := omega) only [go_sem, Nat.reduceEqDiff, Nat.reduceAdd, ↓reduceIte, hb2.c1, hb2.c2]
  refine callW_of cal63 (rSign_v h5.man (by omega) hD) ?_
  rintro _ w7 ⟨rfl, hx7⟩; refine ⟨_, rfl, ?_⟩
  replace h := h.ext hx7
  replace h5 := h5.ext hx7
  replace hb2 := hb2.ext hx7
  replace hD := hD.kp hx7
  replace hx := hx.trans hx7
  clear hx7
  by_cases hz : V = 0
  · have q1 : (Int.sign (od V) == 0) = true := by rw [hz]; rfl
    simp -implicitDefEqProofs (disch := omega) only [go_sem, Nat.reduceEqDiff, Nat.reduceAdd, ↓reduceIte, q1]
    refine hK _ _ ?_; clear hK
    refine W_cond rfl (fun hc => ?_) (fun hc => by cases hc)
    refine W_seq_reg fun K hK => ?_
    simp -implicitDefEqProofs (disch := omega) only [go_sem, Nat.reduceEqDiff, Nat.reduceAdd, ↓reduceIte]
    refine hK _ _ ?_; clear hK K
    refine W_ret ?_
    try simp only [thenE_r, inB_r]
    refine ret1 rfl ⟨by simp [fR, hz, upd], hx⟩
  · have hod := od_ne hz
    have q1 : (Int.sign (od V) == 0) = false := by
      rcases Int.lt_or_gt_of_ne hod with h | h
      · rw [Int.sign_eq_neg_one_of_neg h]; rfl
      · rw [Int.sign_eq_one_of_pos h]; rfl
    simp -implicitDefEqProofs (disch := omega) only [go_sem, Nat.reduceEqDiff, Nat.reduceAdd, ↓reduceIte, q1]
    refine hK _ _ ?_; clear hK
    refine W_cond rfl (fun hc => by cases hc) (fun hc => W_skip (hK0 _ _ ?_))
    clear hK0
    have hsg : s5 = decide (V < 0) := by rw [h5.man.sg, od_sign]
    have hm := h5.man
    refine W_seq_k fun K hK => ?_
    refine W_dC mixed (Kp (fun k => k ∉ ([] : List Nat))) (fun _ _ => False) (Kp.pre _) [true, true, true, true, true, false, true, true, true, false, false] [false, false, false, false, false, false, false, false, false, false, false] [1, 1, 1, 1, 1, 0, 1, 1, 1, 1, 1] (by kernel_rfl) ?_
    apply Exists.intro
    refine ⟨fun wE hE KE hKE => ?_, fun wE hE KE hKE => ?_, fun wE hxE hr => ?_⟩
    · skip
      replace hE := Kp.all hE
      replace hb2 := hb2.ext hE
      replace h := h.ext hE
      replace h5 := h5.ext hE
      replace hm := hm.ext hE
      simp -implicitDefEqProofs (disch := omega) only [go_sem, Nat.reduceEqDiff, Nat.reduceAdd, ↓reduceIte, hb2.c1, hb2.c2, hb2.c3]
      exact hKE
    · exact hE.elim
    simp only [selP_t, selP_f, selP_n]
    replace h := h.ext hxE
    replace h5 := h5.ext hxE
    replace hm := hm.ext hxE
    replace hb2 := hb2.ext hxE
    replace hD := hD.kp hxE
    replace hx := hx.trans hxE
    simp -implicitDefEqProofs (disch := omega) only [go_sem, Nat.reduceEqDiff, Nat.reduceAdd, ↓reduceIte, List.toList_toArray, hb2.c1, hb2.c2, hb2.c3]
    refine callW_of cal66 (rAbs_v hm (by omega) hD) ?_
    rintro _ w8 ⟨v8, rfl, hx8, h8⟩; refine ⟨_, rfl, ?_⟩
    replace h := h.ext hx8
    replace h5 := h5.ext hx8
    replace hm := hm.ext hx8
    replace hb2 := hb2.ext hx8
    replace hD := hD.kp hx8
    replace hx := hx.trans hx8
    replace hr := hr.trans (Kp.of_ext hx8)
    clear hx8
    refine ⟨hr, ?_⟩
    have h8' : In (fB (((od V).natAbs / 1 : Nat) : Int)) (Dl D [g2]) v8 w8 := by rw [Nat.div_one]; exact h8
    have hp : 0 < (od V).natAbs := by omega
    refine callW_of cal71 (rrounded_v (N := (od V).natAbs) (M := 1) (hT.ext hx) h8' Nat.one_pos hp (by rw [Nat.mod_one]; rfl) (fun h => by cases h) (by rw [Nat.div_one]; omega) (by omega) (by omega) hD) ?_
    rintro _ w9 ⟨rfl, hx9⟩; refine ⟨_, rfl, ?_⟩
    replace h := h.ext hx9
    replace h5 := h5.ext hx9
    replace hm := hm.ext hx9
    replace h8 := h8.ext hx9
    replace hb2 := hb2.ext hx9
    replace hD := hD.kp hx9
    replace hx := hx.trans hx9
    clear hx9
    simp only [thenE_n]
    refine hK _ _ ?_; clear hK
    refine W_ret ?_
    try simp only [thenE_r, inB_r]
    refine ret1 rfl ⟨by simp only [upd_ap, Nat.reduceEqDiff, ↓reduceIte]; rw [rE_V hz, hsg]; unfold fR; rw [if_neg hz], hx⟩
theorem rFromIntF_v {D : Nat → Prop} {z V mode : Int} {w : World} (hT : Tabs w) (h1 : -9223372036854775808 ≤ z) (h2 : z ≤ 9223372036854775807) (hv : mkV z 0 = some V) (hf : Fr D w) : Calls Tryz.prog 55 #[.int .i64 z, .int .i64 mode] w fun x w' => x = .returned (.int .u64 (fR mode V : Nat)) ∧ Ext w w' := by
  refine calls_W Tryz.func55 rfl Tryz.ntmps55 (by kernel_rfl) ?_
  have hx : Ext w w := Kp.refl _ _
  have hD := hf
  refine W_seq_reg fun K hK => ?_
  simp -implicitDefEqProofs (disch := omega) only [go_sem, Nat.reduceEqDiff, Nat.reduceAdd, ↓reduceIte]
  refine hK _ _ ?_; clear hK K
  refine W_seq_reg fun K hK => ?_
  simp -implicitDefEqProofs (disch := omega) only [go_sem, Nat.reduceEqDiff, Nat.reduceAdd, ↓reduceIte]
  refine callW_of cal122 (rFromIntD_v (hT.ext hx) h1 h2 hv hD) ?_
  rintro _ w5 ⟨v5, rfl, hx5, h5⟩; refine ⟨_, rfl, ?_⟩
  replace hD := hD.kp hx5
  replace hx := hx.trans hx5
  clear hx5
  refine callW_of cal30 (rRound_v (hT.ext hx) h5 hD) ?_
  rintro _ w6 ⟨rfl, hx6⟩; refine ⟨_, rfl, ?_⟩
  replace h5 := h5.ext hx6
  replace hD := hD.kp hx6
  replace hx := hx.trans hx6
  clear hx6
  refine hK _ _ ?_; clear hK
  refine W_ret ?_
  try simp only [thenE_r, inB_r]
  refine ret1 rfl ⟨rfl, hx⟩
theorem rKind_ok {f : Nat} {w : World} (hf : f < 18446744073709551616) : Calls Tryz.prog 70 #[.int .u64 f] w fun e w' => e = .returned (.int .i64 (kindS f : Nat)) ∧ w = w' := by
  refine calls_W Tryz.func70 rfl Tryz.ntmps70 (by kernel_rfl) ?_
  refine W_seq_reg fun K hK => ?_
  simp -implicitDefEqProofs (disch := omega) only [go_sem, Nat.reduceEqDiff, Nat.reduceAdd, ↓reduceIte]
  refine hK _ _ ?_; clear hK K
  have h1 := and_2047 (a := f / 4503599627370496) (by omega)
  have h2 := and_frac (a := f) hf
  obtain ⟨x, hxe⟩ : ∃ x, x = f / 4503599627370496 % 2048 := ⟨_, rfl⟩
  obtain ⟨m, hme⟩ : ∃ m, m = f % 4503599627370496 := ⟨_, rfl⟩
  rw [← hxe] at h1
  rw [← hme] at h2
  have hk : kindS f = if x = 2047 ∧ m ≠ 0 then 3 else if x = 2047 then 2 else if x = 0 ∧ m = 0 then 0 else 1 := by unfold kindS; rw [← hxe, ← hme]
  refine W_seq_reg fun K hK => ?_
  simp -implicitDefEqProofs (disch := omega) only [go_sem, Nat.reduceEqDiff, Nat.reduceAdd, ↓reduceIte, h1, h2]
  refine hK _ _ ?_; clear hK K
  refine W_seq_blk fun K hK => ?_
  by_cases hx2 : x = 2047
  · have q1 : (((x : Nat) : Int) == 2047) = true := by rw [hx2]; rfl
    by_cases hm0 : m = 0
    · have q2 : (((m : Nat) : Int) != 0) = false := by rw [hm0]; rfl
      refine W_seq_reg fun K hK => ?_
      simp -implicitDefEqProofs (disch := omega) only [go_sem, Nat.reduceEqDiff, Nat.reduceAdd, ↓reduceIte, q1, q2]
      refine hK _ _ ?_; clear hK K
      refine W_cond rfl (fun hc => by cases hc) (fun hc => ?_)
      refine W_seq_reg fun K hK => ?_
      simp -implicitDefEqProofs (disch := omega) only [go_sem, Nat.reduceEqDiff, Nat.reduceAdd, ↓reduceIte, q1]
      refine hK _ _ ?_; clear hK K
      refine W_cond rfl (fun hc => ?_) (fun hc => by cases hc)
      refine W_seq_reg fun K hK => ?_
      simp -implicitDefEqProofs (disch := omega) only [go_sem, Nat.reduceEqDiff, Nat.reduceAdd, ↓reduceIte]
      refine hK _ _ ?_; clear hK K
      refine W_ret ?_
      try simp only [thenE_r, inB_r]
      refine ret1 rfl ⟨by simp [hk, hx2, hm0, upd], rfl⟩
    · have q2 : (((m : Nat) : Int) != 0) = true := by rw [bne0]; exact decide_eq_true hm0
      refine W_seq_reg fun K hK => ?_
      simp -implicitDefEqProofs (disch := omega) only [go_sem, Nat.reduceEqDiff, Nat.reduceAdd, ↓reduceIte, q1, q2]
      refine hK _ _ ?_; clear hK K
      refine W_cond rfl (fun hc => ?_) (fun hc => by cases hc)
      refine W_seq_reg fun K hK => ?_
      simp -implicitDefEqProofs (disch := omega) only [go_sem, Nat.reduceEqDiff, Nat.reduceAdd, ↓reduceIte]
      refine hK _ _ ?_; clear hK K
      refine W_ret ?_
      try simp only [thenE_r, inB_r]
      refine ret1 rfl ⟨by simp [hk, hx2, hm0, upd], rfl⟩
  · have q1 : (((x : Nat) : Int) == 2047) = false := by
      have := beqN (a := x) (b := 2047)
      rw [decide_eq_false hx2] at this; exact this
    refine W_seq_reg fun K hK => ?_
    simp -implicitDefEqProofs (disch := omega) only [go_sem, Nat.reduceEqDiff, Nat.reduceAdd, ↓reduceIte, q1]
    refine hK _ _ ?_; clear hK K
    refine W_cond rfl (fun hc => by cases hc) (fun hc => ?_)
    refine W_seq_reg fun K hK => ?_
    simp -implicitDefEqProofs (disch := omega) only [go_sem, Nat.reduceEqDiff, Nat.reduceAdd, ↓reduceIte, q1]
    refine hK _ _ ?_; clear hK K
    refine W_cond rfl (fun hc => by cases hc) (fun hc => ?_)
    by_cases hx0 : x = 0
    · have q3 : (((x : Nat) : Int) == 0) = true := by rw [hx0]; rfl
      by_cases hm0 : m = 0
      · have q2 : (((m : Nat) : Int) == 0) = true := by rw [hm0]; rfl
        refine W_seq_reg fun K hK => ?_
        simp -implicitDefEqProofs (disch := omega) only [go_sem, Nat.reduceEqDiff, Nat.reduceAdd, ↓reduceIte, q3, q2]
        refine hK _ _ ?_; clear hK K
        refine W_cond rfl (fun hc => ?_) (fun hc => by cases hc)
        refine W_seq_reg fun K hK => ?_
        simp -implicitDefEqProofs (disch := omega) only [go_sem, Nat.reduceEqDiff, Nat.reduceAdd, ↓reduceIte]
        refine hK _ _ ?_; clear hK K
        refine W_ret ?_
        try simp only [thenE_r, inB_r]
        refine ret1 rfl ⟨by simp [hk, hx0, hm0, upd], rfl⟩
      · have q2 : (((m : Nat) : Int) == 0) = false := by rw [beq0]; exact decide_eq_false hm0
        refine W_seq_reg fun K hK => ?_
        simp -implicitDefEqProofs (disch := omega) only [go_sem, Nat.reduceEqDiff, Nat.reduceAdd, ↓reduceIte, q3, q2]
        refine hK _ _ ?_; clear hK K
        refine W_cond rfl (fun hc => by cases hc) (fun hc => W_skip (hK _ _ ?_))
        refine W_seq_reg fun K hK => ?_
        simp -implicitDefEqProofs (disch := omega) only [go_sem, Nat.reduceEqDiff, Nat.reduceAdd, ↓reduceIte]
        refine hK _ _ ?_; clear hK K
        refine W_ret ?_
        try simp only [thenE_r, inB_r]
        refine ret1 rfl ⟨by simp [hk, hx0, hm0, upd], rfl⟩
    · have q3 : (((x : Nat) : Int) == 0) = false := by rw [beq0]; exact decide_eq_false hx0
      refine W_seq_reg fun K hK => ?_
      simp -implicitDefEqProofs (disch := omega) only [go_sem, Nat.reduceEqDiff, Nat.reduceAdd, ↓reduceIte, q3]
      refine hK _ _ ?_; clear hK K
      refine W_cond rfl (fun hc => by cases hc) (fun hc => W_skip (hK _ _ ?_))
      refine W_seq_reg fun K hK => ?_
      simp -implicitDefEqProofs (disch := omega) only [go_sem, Nat.reduceEqDiff, Nat.reduceAdd, ↓reduceIte]
      refine hK _ _ ?_; clear hK K
      refine W_ret ?_
      try simp only [thenE_r, inB_r]
      refine ret1 rfl ⟨by simp [hk, hx0, hx2, upd], rfl⟩
theorem rnan_ok {f : Nat} {w : World} (hf : f < 18446744073709551616) : Calls Tryz.prog 69 #[.int .u64 f] w fun e w' => e = .returned (.bool (decide (kindS f = 3))) ∧ w = w' := by
  refine calls_W Tryz.func69 rfl Tryz.ntmps69 (by kernel_rfl) ?_
  refine W_seq_reg fun K hK => ?_
  simp -implicitDefEqProofs (disch := omega) only [go_sem, Nat.reduceEqDiff, Nat.reduceAdd, ↓reduceIte]
  refine hK _ _ ?_; clear hK K
  refine W_seq_reg fun K hK => ?_
  simp -implicitDefEqProofs (disch := omega) only [go_sem, Nat.reduceEqDiff, Nat.reduceAdd, ↓reduceIte]
  refine callW_of cal70 (rKind_ok hf) ?_
  rintro _ _ ⟨rfl, rfl⟩; refine ⟨_, rfl, ?_⟩
  have q : (((kindS f : Nat) : Int) == 3) = decide (kindS f = 3) := beqN (b := 3)
  simp -implicitDefEqProofs (disch := omega) only [go_sem, Nat.reduceEqDiff, Nat.reduceAdd, ↓reduceIte, q]
  refine hK _ _ ?_; clear hK
  refine W_ret ?_
  try simp only [thenE_r, inB_r]
  refine ret1 rfl ⟨rfl, rfl⟩
theorem rScaleD_v {D : Nat → Prop} {v : Value} {V V' j : Int} {w : World} (hT : Tabs w) (h : In (fV V) D v w) (h1 : -200000 ≤ j) (h2 : j ≤ 200000) (hv : mkV (od V) (dyE V + j) = some V') (hf : Fr D w) : Calls Tryz.prog 24 #[v, .int .i64 j] w (Rt (fV V') D w) := by
  obtain ⟨s, A, n, c, rfl, _, _⟩ := id h
  refine calls_W Tryz.func24 rfl Tryz.ntmps24 (by kernel_rfl) ?_
  refine W_seq_reg fun K hK => ?_
  simp -implicitDefEqProofs (disch := omega) only [go_sem, Nat.reduceEqDiff, Nat.reduceAdd, ↓reduceIte]
  refine boxW_of ?_
  intro g2 w2 hg2 hx2 hb2 hs2
  refine alW_of ?_
  intro g4 w4 hg4 hx4 hb4 hs4
  refine hK _ _ ?_; clear hK K
  have hx : Ext w w4 := (hx2.trans hx4)
  replace hb2 := (hb2.ext hx4)
  replace h := (h.nL (L := [g2, g4]) (by intro g hg; simp at hg; omega)).ext hx
  have hD : Fr (Dl D [g2, g4]) w4 := hf.nL hx (by intro g hg; simp at hg; omega)
  clear hx2 hx4
  obtain ⟨hd1, hd2, hd3⟩ := dyE_bd h.ok
  refine W_seq_reg fun K hK => ?_
  simp -implicitDefEqProofs (disch := omega) only [go_sem, Nat.reduceEqDiff, Nat.reduceAdd, ↓reduceIte, hb2.l4]
  refine callW_of cal60 (rNormD_v (hT.ext hx) h hD) ?_
  rintro _ w5 ⟨v5, rfl, hx5, h5⟩; refine ⟨_, rfl, ?_⟩
  replace h := h.ext hx5
  replace hb2 := hb2.ext hx5
  replace hb4 := hb4.ext hx5
  replace hD := hD.kp hx5
  replace hx := hx.trans hx5
  clear hx5
  obtain ⟨s5, A5, n5, c5, rfl, _, _⟩ := id h5
  refine storeW_of hb2 siz37 rfl rfl fun w6 hk6 hz6 => ?_
  replace h := h.ow hk6 (by simp)
  replace h5 := h5.ow hk6 (by simp)
  replace hb4 := hb4.kpne hk6 (by omega)
  replace hD := hD.ow hk6
  replace hx := hx.under hk6 (fun k hk => by omega)
  clear hb2 hk6
  have hb2 := hz6; clear hz6
  refine hK _ _ ?_; clear hK
  refine W_seq_k fun K0 hK0 => ?_
  refine W_seq_reg fun K hK => ?_
  simp -implicitDefEqProofs (disch := omega) only [go_sem, Nat.reduceEqDiff, Nat.reduceAdd, ↓reduceIte, hb2.c0, hb2.c1, hb2.c2]
  refine callW_of cal63 (rSign_v h5.man (by omega) hD) ?_
  rintro _ w7 ⟨rfl, hx7⟩; refine ⟨_, rfl, ?_⟩
  replace h := h.ext hx7
  replace h5 := h5.ext hx7
  replace hb2 := hb2.ext hx7
  replace hb4 := hb4.ext hx7
  replace hD := hD.kp hx7
  replace hx := hx.trans hx7
  clear hx7
  by_cases hz : V = 0
  · have q1 : (Int.sign (od V) == 0) = true := by rw [hz]; rfl
    simp -implicitDefEqProofs (disch := omega) only [go_sem, Nat.reduceEqDiff, Nat.reduceAdd, ↓reduceIte, q1]
    refine hK _ _ ?_; clear hK
    refine W_cond rfl (fun hc => ?_) (fun hc => by cases hc)
    rw [hz, od_zero, mkV_zero] at hv
    have hV' : V = V' := by rw [hz]; exact Option.some.inj hv
    rw [hV'] at h5 hb2
    refine W_seq_reg fun K hK => ?_
    simp -implicitDefEqProofs (disch := omega) only [go_sem, Nat.reduceEqDiff, Nat.reduceAdd, ↓reduceIte, hb2.l4]
    refine storeS hb4 siz37 rfl (fV_s h5) fun w90 hk90 hb90 => ?_
    refine hK _ _ ?_; clear hK
    refine W_ret ?_
    try simp only [thenE_r, inB_r]
    exact retS rfl (by first | exact rfl | assumption | exact (by (try simp only [upd_ap, Nat.reduceEqDiff, ↓reduceIte]); first | done | assumption | exact rfl)) agg37 hb90 (fV_s h5) (Rt.fin hx h5 hk90 (by simp) (by omega))
  · have hod := od_ne hz
    have q1 : (Int.sign (od V) == 0) = false := by
      rcases Int.lt_or_gt_of_ne hod with h | h
      · rw [Int.sign_eq_neg_one_of_neg h]; rfl
      · rw [Int.sign_eq_one_of_pos h]; rfl
    simp -implicitDefEqProofs (disch := omega) only [go_sem, Nat.reduceEqDiff, Nat.reduceAdd, ↓reduceIte, q1]
    refine hK _ _ ?_; clear hK
    refine W_cond rfl (fun hc => by cases hc) (fun hc => W_skip (hK0 _ _ ?_))
    clear hK0
    refine W_seq_k fun K0 hK0 => ?_
    have q2 : ¬ (j > 262144) := by omega
    have q3 : ¬ (j < -262144) := by omega
    refine W_seq_reg fun K hK => ?_
    simp -implicitDefEqProofs (disch := omega) only [go_sem, Nat.reduceEqDiff, Nat.reduceAdd, ↓reduceIte, q2, q3]
    refine hK _ _ ?_; clear hK K
    refine W_cond rfl (fun hc => by cases hc) (fun hc => W_skip (hK0 _ _ ?_))
    clear hK0
    have e1 : IntKind.i64.wrap (dyE V + j) = dyE V + j := i64_in (by omega) (by omega)
    refine W_seq_reg fun K hK => ?_
    simp -implicitDefEqProofs (disch := omega) only [go_sem, Nat.reduceEqDiff, Nat.reduceAdd, ↓reduceIte, hb2.c1, hb2.c2, hb2.c3, e1]
    refine callW_of cal58 (rMake_v (hT.ext hx) h5.man (by omega) (by omega) (by omega) hv hD) ?_
    rintro _ w8 ⟨v8, rfl, hx8, h8⟩; refine ⟨_, rfl, ?_⟩
    replace h := h.ext hx8
    replace h5 := h5.ext hx8
    replace hb2 := hb2.ext hx8
    replace hb4 := hb4.ext hx8
    replace hD := hD.kp hx8
    replace hx := hx.trans hx8
    clear hx8
    refine storeS hb4 siz37 rfl (fV_s h8) fun w90 hk90 hb90 => ?_
    refine hK _ _ ?_; clear hK
    refine W_ret ?_
    try simp only [thenE_r, inB_r]
    exact retS rfl (by first | exact rfl | assumption | exact (by (try simp only [upd_ap, Nat.reduceEqDiff, ↓reduceIte]); first | done | assumption | exact rfl)) agg37 hb90 (fV_s h8) (Rt.fin hx h8 hk90 (by simp) (by omega))
end Go.Proofs.YtjamnehcmaloeaaGreatDoor
end
section
namespace Go.Sp
open Go Go.E
def u64v (x : Nat) : Value := .int .u64 (x : Int)
def i64v (z : Int) : Value := .int .i64 z
def modS (a : Int) (n : Nat) : Nat := (a % 18446744073709551616).toNat % n
theorem modS_lt {a : Int} {n : Nat} (h : 0 < n) : modS a n < n := Nat.mod_lt _ h
def wordX (raw : List Nat) (k : Int) : Int :=
  if raw.length = 0 then IntKind.u64.wrap (IntKind.u64.wrap (IntKind.i64.wrap (k + 1)) * 11400714819323198485)
  else bitsV .xor .u64 (IntKind.u64.wrap (IntKind.u64.wrap (IntKind.i64.wrap (k + 1)) * 11400714819323198485)) ((raw.getD (modS k raw.length) 0 : Nat) : Int)
def wordY (x : Int) : Int := IntKind.u64.wrap (bitsV .xor .u64 x (x.fdiv (2 ^ 31)) * 13787848793156543929)
def wordI (raw : List Nat) (k : Int) : Int := bitsV .xor .u64 (wordY (wordX raw k)) ((wordY (wordX raw k)).fdiv (2 ^ 29))
def word (raw : List Nat) (k : Int) : Nat := (wordI raw k).toNat
theorem word_cast (raw : List Nat) (k : Int) : ((word raw k : Nat) : Int) = wordI raw k := by
  have : 0 ≤ wordI raw k := by
    unfold wordI
    show 0 ≤ IntKind.u64.wrap _
    rw [u64_wrap]; omega
  unfold word; omega
theorem word_lt (raw : List Nat) (k : Int) : word raw k < 18446744073709551616 := by
  have h := word_cast raw k
  have : wordI raw k < 18446744073709551616 := by
    unfold wordI
    show IntKind.u64.wrap _ < _
    rw [u64_wrap]; omega
  omega
def flz (z : Int) : Nat := fR 0 (z * (2 : Int) ^ 65536)
def small (x : Nat) : Int := (x % 19 : Nat) - 9
theorem small_bd (x : Nat) : -9 ≤ small x ∧ small x ≤ 9 := by unfold small; omega
theorem mkV_int {z : Int} (h : bl z.natAbs ≤ 65536) : mkV z 0 = some (z * (2 : Int) ^ 65536) := mkV_at (by omega) (by omega)
end Go.Sp
namespace Go.Proofs.YtjamnehcmaloeaaGreatDoor
open Go Go.E Go.Sp
theorem mod_ok {a : Int} {n : Nat} {w : World} (h1 : -9223372036854775808 ≤ a) (h2 : a ≤ 9223372036854775807) (hn : 0 < n) (hn2 : n ≤ 9223372036854775807) :
    Calls Tryz.prog 25 #[.int .i64 a, .int .i64 n] w fun e w' => e = .returned (.int .i64 (modS a n : Nat)) ∧ w = w' := by
  refine calls_W Tryz.func25 rfl Tryz.ntmps25 (by kernel_rfl) ?_
  refine W_seq_reg fun K hK => ?_
  simp -implicitDefEqProofs (disch := omega) only [go_sem, Nat.reduceEqDiff, Nat.reduceAdd, ↓reduceIte]
  refine hK _ _ ?_; clear hK K
  have e1 : IntKind.u64.wrap a = a % 18446744073709551616 := u64_wrap a
  have e2 : IntKind.u64.wrap (n : Int) = n := u64_in (by omega) (by omega)
  have e3 : ¬ ((n : Int) = 0) := by omega
  have hlt := modS_lt (a := a) hn
  have e4 : (a % 18446744073709551616).tmod (n : Int) = ((modS a n : Nat) : Int) := by
    unfold modS
    rw [Int.tmod_eq_emod_of_nonneg (by omega), Int.natCast_emod]
    congr 1; omega
  have e5 : IntKind.i64.wrap ((modS a n : Nat) : Int) = modS a n := i64_in (by omega) (by omega)
  refine W_seq_reg fun K hK => ?_
  simp -implicitDefEqProofs (disch := omega) only [go_sem, Nat.reduceEqDiff, Nat.reduceAdd, ↓reduceIte, e1, e2, e3, e4, e5]
  refine hK _ _ ?_; clear hK K
  refine W_ret ?_
  try simp only [thenE_r, inB_r]
  refine ret1 rfl ⟨rfl, rfl⟩
theorem word_ok {D : Nat → Prop} {A : Option Addr} {n c : Nat} {raw : List Nat} {k : Int} {w : World} (h : In (fSc u64v raw) D (.slice A n c) w) (hn : n ≤ 9223372036854775807) (h1 : -9223372036854775808 ≤ k) (h2 : k ≤ 9223372036854775807) :
    Calls Tryz.prog 28 #[.slice A n c, .int .i64 k] w fun e w' => e = .returned (.int .u64 (word raw k : Nat)) ∧ w = w' := by
  have hl := h.sc_len
  have key := word_cast raw k
  refine calls_W Tryz.func28 rfl Tryz.ntmps28 (by kernel_rfl) ?_
  refine W_seq_reg fun K hK => ?_
  simp -implicitDefEqProofs (disch := omega) only [go_sem, Nat.reduceEqDiff, Nat.reduceAdd, ↓reduceIte]
  refine hK _ _ ?_; clear hK K
  refine W_seq_reg fun K hK => ?_
  simp -implicitDefEqProofs (disch := omega) only [go_sem, Nat.reduceEqDiff, Nat.reduceAdd, ↓reduceIte]
  refine hK _ _ ?_; clear hK K
  refine W_seq_k fun K0 hK0 => ?_
  have fin : ∀ e1 : Env, e1 5 = .int .u64 (wordX raw k) → K0 e1 w := by
    intro e1 k5
    refine hK0 _ _ ?_; clear hK0
    have q1 : ∀ x : Int, binV Tryz.prog .shr 39 (.int .u64 x) (.int .u64 31) = some (.int .u64 (x.fdiv (2 ^ 31))) := fun x => by rw [bin_shr, if_neg (by omega)]; rfl
    have q2 : ∀ x : Int, binV Tryz.prog .shr 39 (.int .u64 x) (.int .u64 29) = some (.int .u64 (x.fdiv (2 ^ 29))) := fun x => by rw [bin_shr, if_neg (by omega)]; rfl
    refine W_seq_reg fun K hK => ?_
    simp -implicitDefEqProofs (disch := omega) only [go_sem, Nat.reduceEqDiff, Nat.reduceAdd, ↓reduceIte, k5, q1]
    refine hK _ _ ?_; clear hK K
    refine W_seq_reg fun K hK => ?_
    simp -implicitDefEqProofs (disch := omega) only [go_sem, Nat.reduceEqDiff, Nat.reduceAdd, ↓reduceIte, q2]
    refine hK _ _ ?_; clear hK K
    refine W_ret ?_
    try simp only [thenE_r, inB_r]
    refine ret1 rfl ⟨by rw [key]; rfl, rfl⟩
  by_cases h0 : n = 0
  · have q : ¬ ((n : Int) > 0) := by omega
    refine W_seq_reg fun K hK => ?_
    simp -implicitDefEqProofs (disch := omega) only [go_sem, Nat.reduceEqDiff, Nat.reduceAdd, ↓reduceIte, q]
    refine hK _ _ ?_; clear hK K
    refine W_cond rfl (fun hc => by cases hc) (fun hc => W_skip ?_)
    refine fin _ ?_
    simp only [upd_ap, Nat.reduceEqDiff, ↓reduceIte]
    unfold wordX; rw [hl, if_pos h0]
  · have q : ((n : Int) > 0) := by omega
    refine W_seq_reg fun K hK => ?_
    simp -implicitDefEqProofs (disch := omega) only [go_sem, Nat.reduceEqDiff, Nat.reduceAdd, ↓reduceIte, q]
    refine hK _ _ ?_; clear hK K
    refine W_cond rfl (fun hc => ?_) (fun hc => by cases hc)
    have hlt := modS_lt (a := k) (n := n) (by omega)
    obtain ⟨ad, rfl, hc⟩ := h.sc_get (i := modS k n) (by omega)
    have e2 : (0 : Int) ≤ (modS k n : Nat) ∧ ((modS k n : Nat) : Int) < n := by omega
    have hcell : w.cell? (ad.add (modS k n)) = some (.int .u64 ((raw.getD (modS k n) 0 : Nat) : Int)) := by
      rw [hc, List.getD_eq_getElem?_getD, List.getElem?_eq_getElem (by omega)]; rfl
    refine W_regK fun K9 hK9 => ?_
    simp -implicitDefEqProofs (disch := omega) only [go_sem, Nat.reduceEqDiff, Nat.reduceAdd, ↓reduceIte]
    refine callW_of cal25 (mod_ok h1 h2 (by omega) hn) ?_
    rintro _ _ ⟨rfl, rfl⟩; refine ⟨_, rfl, ?_⟩
    simp -implicitDefEqProofs (disch := omega) only [go_sem, Nat.reduceEqDiff, Nat.reduceAdd, ↓reduceIte, e2, hcell]
    refine hK9 _ _ ?_; clear hK9
    refine fin _ ?_
    simp only [upd_ap, Nat.reduceEqDiff, ↓reduceIte]
    unfold wordX; rw [hl, if_neg h0]
theorem small_ok {D : Nat → Prop} {x : Nat} {w : World} (hT : Tabs w) (hx : x < 18446744073709551616) (hf : Fr D w) : Calls Tryz.prog 29 #[.int .u64 x] w fun e w' => e = .returned (.int .u64 (flz (small x) : Nat)) ∧ Ext w w' := by
  refine calls_W Tryz.func29 rfl Tryz.ntmps29 (by kernel_rfl) ?_
  have hx1 : Ext w w := Kp.refl _ _
  have hD := hf
  refine W_seq_reg fun K hK => ?_
  simp -implicitDefEqProofs (disch := omega) only [go_sem, Nat.reduceEqDiff, Nat.reduceAdd, ↓reduceIte]
  refine hK _ _ ?_; clear hK K
  have hs := small_bd x
  have e1 : ((x : Nat) : Int).tmod 19 = ((x % 19 : Nat) : Int) := rfl
  have e2 : IntKind.i64.wrap ((x % 19 : Nat) : Int) = (x % 19 : Nat) := i64_in (by omega) (by omega)
  have e3 : IntKind.i64.wrap (((x % 19 : Nat) : Int) - 9) = small x := by rw [i64_in (by omega) (by omega)]; rfl
  have e0 : ¬ ((19 : Int) = 0) := by omega
  have hb : bl (small x).natAbs ≤ 4 := bl_le_of (show (small x).natAbs < 2 ^ 4 by omega)
  refine W_seq_reg fun K hK => ?_
  simp -implicitDefEqProofs (disch := omega) only [go_sem, Nat.reduceEqDiff, Nat.reduceAdd, ↓reduceIte, e0, e1, e2, e3]
  refine callW_of cal55 (rFromIntF_v (hT.ext hx1) (by omega) (by omega) (mkV_int (by omega)) hD) ?_
  rintro _ w6 ⟨rfl, hx6⟩; refine ⟨_, rfl, ?_⟩
  replace hD := hD.kp hx6
  replace hx1 := hx1.trans hx6
  clear hx6
  refine hK _ _ ?_; clear hK
  refine W_ret ?_
  try simp only [thenE_r, inB_r]
  refine ret1 rfl ⟨rfl, hx1⟩
theorem limbs_ok {D D' : Nat → Prop} {A A' : Option Addr} {n n' c c' : Nat} {l l' : List Nat} {w : World} (h : In (fU l) D (.slice A n c) w) (h' : In (fU l') D' (.slice A' n' c') w) (hn : n ≤ 900000000) : Calls Tryz.prog 196 #[.slice A n c, .slice A' n' c'] w fun e w' => e = .returned (.bool (decide (l = l'))) ∧ Ext w w' := by
  have hl := h.u32.len
  have hl' := h'.u32.len
  refine calls_W Tryz.func196 rfl Tryz.ntmps196 (by kernel_rfl) ?_
  refine W_seq_reg fun K hK => ?_
  simp -implicitDefEqProofs (disch := omega) only [go_sem, Nat.reduceEqDiff, Nat.reduceAdd, ↓reduceIte]
  refine hK _ _ ?_; clear hK K
  refine W_seq_k fun K0 hK0 => ?_
  by_cases hne : n = n'
  · subst hne
    have q : (((n : Nat) : Int) != (n : Nat)) = false := by rw [bneN]; simp
    refine W_seq_reg fun K hK => ?_
    simp -implicitDefEqProofs (disch := omega) only [go_sem, Nat.reduceEqDiff, Nat.reduceAdd, ↓reduceIte, q]
    refine hK _ _ ?_; clear hK K
    refine W_cond rfl (fun hc => by cases hc) (fun hc => W_skip (hK0 _ _ ?_))
    clear hK0
    refine W_seq_k fun K0 hK0 => ?_
    refine W_seq_reg fun K hK => ?_
    simp -implicitDefEqProofs (disch := omega) only [go_sem, Nat.reduceEqDiff, Nat.reduceAdd, ↓reduceIte]
    refine hK _ _ ?_; clear hK K
    refine W_block ?_
    refine W_loop (fun e2 w2 => ∃ i : Nat, e2 5 = .int .i64 i ∧ i ≤ n ∧ Ext w w2 ∧ l.take i = l'.take i) (fun e2 _ => n - (RowKit.intOf (e2 5)).toNat) ⟨0, rfl, Nat.zero_le _, Kp.refl _ _, by simp⟩ ?_
    rintro e1 w1 ⟨i, k5, hi, hx, ht⟩ hkk
    have k0 : e1 0 = .slice A n c := (hkk 0 (by kernel_rfl)).trans (by (try simp only [upd_ap, Nat.reduceEqDiff, ↓reduceIte]); first | done | assumption | exact rfl)
    have k1 : e1 1 = .slice A' n c' := (hkk 1 (by kernel_rfl)).trans (by (try simp only [upd_ap, Nat.reduceEqDiff, ↓reduceIte]); first | done | assumption | exact rfl)
    clear hkk
    refine W_seq_k fun K1 hK1 => ?_
    by_cases hlt : i < n
    · have hlt' : (i : Int) < n := by omega
      refine W_seq_reg fun K hK => ?_
      simp -implicitDefEqProofs (disch := omega) only [go_sem, Nat.reduceEqDiff, Nat.reduceAdd, ↓reduceIte, k5, k0, hlt']
      refine hK _ _ ?_; clear hK K
      refine W_cond rfl (fun hc1 => W_skip (hK1 _ _ ?_)) (fun hc1 => by cases hc1)
      clear hK1
      refine W_seq_blk fun K hK => ?_
      have e2 : (0 : Int) ≤ i ∧ (i : Int) < n := by omega
      obtain ⟨ad, rfl, hcc⟩ := (h.ext hx).u32.cell hlt
      obtain ⟨ad', rfl, hcc'⟩ := (h'.ext hx).u32.cell hlt
      refine W_seq_k fun K1 hK1 => ?_
      refine W_dQ mixed [true, true, true, true, true, true, true, true, true] (by kernel_rfl) fun KE hKE => ?_
      simp -implicitDefEqProofs (maxSteps := 600000) (disch := omega) only [go_sem, Nat.reduceEqDiff, Nat.reduceAdd, ↓reduceIte, k0, k1, k5, e2, hcc, hcc']
      refine hKE _ fun w2 hx2 => ?_; clear hKE KE
      refine hK1 _ _ ?_; clear hK1
      by_cases hd : dg l i = dg l' i
      · have q : (((dg l i : Nat) : Int) != ((dg l' i : Nat) : Int)) = false := by rw [bneN]; simp [hd]
        refine W_cond rfl (fun hc => by rw [q] at hc; cases hc) (fun hc => W_skip (hK _ _ ?_))
        clear hK
        refine W_regK fun K9 hK9 => ?_
        simp -implicitDefEqProofs (disch := omega) only [go_sem, Nat.reduceEqDiff, Nat.reduceAdd, ↓reduceIte, k5, i64_in]
        refine hK9 _ _ ?_; clear hK9 K9
        refine ⟨⟨i + 1, rfl, by omega, hx.trans hx2, ?_⟩, by simp only [upd_ap, ↓reduceIte, RowKit.intOf, k5]; omega⟩
        rw [take_snocD _ _ (by omega), take_snocD _ _ (by omega), ht]
        unfold dg at hd; rw [hd]
      · have q : (((dg l i : Nat) : Int) != ((dg l' i : Nat) : Int)) = true := by rw [bneN]; simp [hd]
        refine W_cond rfl (fun hc => ?_) (fun hc => by rw [q] at hc; cases hc)
        refine W_seq_reg fun K hK => ?_
        simp -implicitDefEqProofs (disch := omega) only [go_sem, Nat.reduceEqDiff, Nat.reduceAdd, ↓reduceIte]
        refine hK _ _ ?_; clear hK K
        refine W_ret ?_
        try simp only [thenE_r, inB_r]
        refine ret1 rfl ⟨by simp only [upd_ap, Nat.reduceEqDiff, ↓reduceIte]; rw [decide_eq_false (fun he => hd (by rw [he]))], hx.trans hx2⟩
    · have hlt' : ¬ (i : Int) < n := by omega
      refine W_seq_reg fun K hK => ?_
      simp -implicitDefEqProofs (disch := omega) only [go_sem, Nat.reduceEqDiff, Nat.reduceAdd, ↓reduceIte, k5, k0, hlt']
      refine hK _ _ ?_; clear hK K
      refine W_cond rfl (fun hc1 => by cases hc1) (fun hc1 => W_exit (hK0 _ _ ?_))
      rw [List.take_of_length_le (by omega), List.take_of_length_le (by omega)] at ht
      refine W_seq_reg fun K hK => ?_
      simp -implicitDefEqProofs (disch := omega) only [go_sem, Nat.reduceEqDiff, Nat.reduceAdd, ↓reduceIte]
      refine hK _ _ ?_; clear hK K
      refine W_ret ?_
      try simp only [thenE_r, inB_r]
      refine ret1 rfl ⟨by simp only [upd_ap, Nat.reduceEqDiff, ↓reduceIte]; rw [decide_eq_true ht], hx⟩
  · have q : (((n : Nat) : Int) != (n' : Nat)) = true := by rw [bneN]; simpa using hne
    refine W_seq_reg fun K hK => ?_
    simp -implicitDefEqProofs (disch := omega) only [go_sem, Nat.reduceEqDiff, Nat.reduceAdd, ↓reduceIte, q]
    refine hK _ _ ?_; clear hK K
    refine W_cond rfl (fun hc => ?_) (fun hc => by cases hc)
    refine W_seq_reg fun K hK => ?_
    simp -implicitDefEqProofs (disch := omega) only [go_sem, Nat.reduceEqDiff, Nat.reduceAdd, ↓reduceIte]
    refine hK _ _ ?_; clear hK K
    refine W_ret ?_
    try simp only [thenE_r, inB_r]
    refine ret1 rfl ⟨by simp only [upd_ap, Nat.reduceEqDiff, ↓reduceIte]; rw [decide_eq_false (fun he => hne (by rw [← hl, ← hl', he]))], Kp.refl _ _⟩
theorem lim_inj {a b : Nat} : lim a = lim b ↔ a = b := ⟨fun h => by rw [← val_lim a, h, val_lim], fun h => by rw [h]⟩
theorem kBig_ok {D D' : Nat → Prop} {v v' : Value} {a b : Int} {w : World} (h : In (fB a) D v w) (h' : In (fB b) D' v' w) (ha : bl a.natAbs ≤ 20000000) : Calls Tryz.prog 144 #[v, v'] w fun e w' => e = .returned (.bool (decide (a = b))) ∧ Ext w w' := by
  obtain ⟨s, A, n, c, rfl, _⟩ := id h
  obtain ⟨s', A', n', c', rfl, _⟩ := id h'
  have hn : n ≤ 900000000 := by have := h.big.n_le (k := 1000000) (by omega); omega
  have hs := h.sg
  have hs' := h'.sg
  have h1 := h.mag
  have h2 := h'.mag
  refine calls_W Tryz.func144 rfl Tryz.ntmps144 (by kernel_rfl) ?_
  refine W_seq_reg fun K hK => ?_
  simp -implicitDefEqProofs (disch := omega) only [go_sem, Nat.reduceEqDiff, Nat.reduceAdd, ↓reduceIte]
  refine boxW_of ?_
  intro g2 w2 hg2 hx2 hb2 hs2
  refine boxW_of ?_
  intro g3 w3 hg3 hx3 hb3 hs3
  refine hK _ _ ?_; clear hK K
  have hx : Ext w w3 := (hx2.trans hx3)
  replace hb2 := (hb2.ext hx3)
  replace h1 := h1.ext hx
  replace h2 := h2.ext hx
  clear hx2 hx3
  refine W_seq_reg fun K hK => ?_
  by_cases hss : s = s'
  · subst hss
    have q : (s == s) = true := by simp
    simp -implicitDefEqProofs (disch := omega) only [go_sem, Nat.reduceEqDiff, Nat.reduceAdd, ↓reduceIte, hb2.c0, hb2.c1, hb3.c0, hb3.c1, q]
    refine callW_of cal196 (limbs_ok h1 h2 hn) ?_
    rintro _ w4 ⟨rfl, hx4⟩; refine ⟨_, rfl, ?_⟩
    replace h1 := h1.ext hx4
    replace h2 := h2.ext hx4
    replace hb2 := hb2.ext hx4
    replace hb3 := hb3.ext hx4
    replace hx := hx.trans hx4
    clear hx4
    refine hK _ _ ?_; clear hK
    refine W_ret ?_
    try simp only [thenE_r, inB_r]
    refine ret1 rfl ⟨?_, hx⟩
    simp only [upd_ap, Nat.reduceEqDiff, ↓reduceIte]
    congr 3
    rw [lim_inj, eq_iff_iff]
    have hd : decide (a < 0) = decide (b < 0) := by rw [← hs, hs']
    rw [decide_eq_decide] at hd
    omega
  · have q : (s == s') = false := by cases s <;> cases s' <;> simp_all
    simp -implicitDefEqProofs (disch := omega) only [go_sem, Nat.reduceEqDiff, Nat.reduceAdd, ↓reduceIte, hb2.c0, hb2.c1, hb3.c0, hb3.c1, q]
    refine hK _ _ ?_; clear hK
    refine W_ret ?_
    try simp only [thenE_r, inB_r]
    refine ret1 rfl ⟨?_, hx⟩
    simp only [upd_ap, Nat.reduceEqDiff, ↓reduceIte]
    rw [decide_eq_false]
    rintro rfl; exact hss (by rw [hs, hs'])
theorem kDyad_ok {D D' : Nat → Prop} {v v' : Value} {a b : Int} {w : World} (h : In (fV a) D v w) (h' : In (fV b) D' v' w) : Calls Tryz.prog 72 #[v, v'] w fun e w' => e = .returned (.bool (decide (a = b))) ∧ Ext w w' := by
  obtain ⟨s, A, n, c, rfl, _, _⟩ := id h
  obtain ⟨s', A', n', c', rfl, _, _⟩ := id h'
  obtain ⟨ha1, ha2, ha3⟩ := dyE_bd h.ok
  have hoa := h.ok
  have hob := h'.ok
  have h1 := h.man
  have h2 := h'.man
  refine calls_W Tryz.func72 rfl Tryz.ntmps72 (by kernel_rfl) ?_
  refine W_seq_reg fun K hK => ?_
  simp -implicitDefEqProofs (disch := omega) only [go_sem, Nat.reduceEqDiff, Nat.reduceAdd, ↓reduceIte]
  refine boxW_of ?_
  intro g2 w2 hg2 hx2 hb2 hs2
  refine boxW_of ?_
  intro g3 w3 hg3 hx3 hb3 hs3
  refine hK _ _ ?_; clear hK K
  have hx : Ext w w3 := (hx2.trans hx3)
  replace hb2 := (hb2.ext hx3)
  replace h1 := h1.ext hx
  replace h2 := h2.ext hx
  clear hx2 hx3
  have key : (a = b) = (dyE a = dyE b ∧ od a = od b) := by
    rw [eq_iff_iff]
    constructor
    · rintro rfl; exact ⟨rfl, rfl⟩
    · rintro ⟨e1, e2⟩
      have := mkV_dy hoa
      rw [e1, e2, mkV_dy hob] at this
      exact (Option.some.inj this).symm
  have q0 : (false == false) = true := rfl
  refine W_seq_reg fun K hK => ?_
  by_cases he : dyE a = dyE b
  · have q : (dyE a == dyE b) = true := by simpa using he
    simp -implicitDefEqProofs (disch := omega) only [go_sem, Nat.reduceEqDiff, Nat.reduceAdd, ↓reduceIte, hb2.c0, hb2.c1, hb2.c2, hb2.c3, hb3.c0, hb3.c1, hb3.c2, hb3.c3, q, q0]
    refine callW_of cal144 (kBig_ok h1 h2 (by omega)) ?_
    rintro _ w4 ⟨rfl, hx4⟩; refine ⟨_, rfl, ?_⟩
    replace h1 := h1.ext hx4
    replace h2 := h2.ext hx4
    replace hb2 := hb2.ext hx4
    replace hb3 := hb3.ext hx4
    replace hx := hx.trans hx4
    clear hx4
    refine hK _ _ ?_; clear hK
    refine W_ret ?_
    try simp only [thenE_r, inB_r]
    refine ret1 rfl ⟨?_, hx⟩
    simp only [upd_ap, Nat.reduceEqDiff, ↓reduceIte, key, he, true_and]
  · have q : (dyE a == dyE b) = false := by simpa using he
    simp -implicitDefEqProofs (disch := omega) only [go_sem, Nat.reduceEqDiff, Nat.reduceAdd, ↓reduceIte, hb2.c0, hb2.c1, hb2.c2, hb2.c3, hb3.c0, hb3.c1, hb3.c2, hb3.c3, q, q0]
    refine hK _ _ ?_; clear hK
    refine W_ret ?_
    try simp only [thenE_r, inB_r]
    refine ret1 rfl ⟨?_, hx⟩
    simp only [upd_ap, Nat.reduceEqDiff, ↓reduceIte, key, he, false_and, decide_false]
theorem sameDyad_ok {D : Nat → Prop} {v v' : Value} {a b : Int} {w : World} (hT : Tabs w) (h : In (fV a) D v w) (h' : In (fV b) D v' w) (hf : Fr D w) : Calls Tryz.prog 31 #[v, v'] w fun e w' => e = .returned (.bool (decide (a = b))) ∧ Ext w w' := by
  obtain ⟨s, A, n, c, rfl, _, _⟩ := id h
  obtain ⟨s', A', n', c', rfl, _, _⟩ := id h'
  refine calls_W Tryz.func31 rfl Tryz.ntmps31 (by kernel_rfl) ?_
  refine W_seq_reg fun K hK => ?_
  simp -implicitDefEqProofs (disch := omega) only [go_sem, Nat.reduceEqDiff, Nat.reduceAdd, ↓reduceIte]
  refine boxW_of ?_
  intro g2 w2 hg2 hx2 hb2 hs2
  refine boxW_of ?_
  intro g3 w3 hg3 hx3 hb3 hs3
  refine hK _ _ ?_; clear hK K
  have hx : Ext w w3 := (hx2.trans hx3)
  replace hb2 := (hb2.ext hx3)
  replace h := (h.nL (L := [g2, g3]) (by intro g hg; simp at hg; omega)).ext hx
  replace h' := (h'.nL (L := [g2, g3]) (by intro g hg; simp at hg; omega)).ext hx
  have hD : Fr (Dl D [g2, g3]) w3 := hf.nL hx (by intro g hg; simp at hg; omega)
  clear hx2 hx3
  refine W_seq_k fun K hK => ?_
  refine W_dC mixed (Kp (fun k => k ∉ ([] : List Nat))) (fun _ _ => False) (Kp.pre _) [true, false, true, false, false, false] [false, false, false, false, false, false] [1, 0, 1, 1, 1, 1] (by kernel_rfl) ?_
  apply Exists.intro
  refine ⟨fun wE hE KE hKE => ?_, fun wE hE KE hKE => ?_, fun wE hxE hr => ?_⟩
  · skip
    replace hE := Kp.all hE
    replace hb2 := hb2.ext hE
    replace hb3 := hb3.ext hE
    replace h := h.ext hE
    replace h' := h'.ext hE
    simp -implicitDefEqProofs (disch := omega) only [go_sem, Nat.reduceEqDiff, Nat.reduceAdd, ↓reduceIte, hb2.l4, hb3.l4]
    exact hKE
  · exact hE.elim
  simp only [selP_t, selP_f, selP_n]
  replace h := h.ext hxE
  replace h' := h'.ext hxE
  replace hb2 := hb2.ext hxE
  replace hb3 := hb3.ext hxE
  replace hD := hD.kp hxE
  replace hx := hx.trans hxE
  simp -implicitDefEqProofs (disch := omega) only [go_sem, Nat.reduceEqDiff, Nat.reduceAdd, ↓reduceIte, List.toList_toArray, hb2.l4, hb3.l4]
  refine callW_of cal60 (rNormD_v (hT.ext hx) h hD) ?_
  rintro _ w5 ⟨v5, rfl, hx5, h5⟩; refine ⟨_, rfl, ?_⟩
  replace h := h.ext hx5
  replace h' := h'.ext hx5
  replace hb2 := hb2.ext hx5
  replace hb3 := hb3.ext hx5
  replace hD := hD.kp hx5
  replace hx := hx.trans hx5
  replace hr := hr.trans (Kp.of_ext hx5)
  clear hx5
  refine ⟨hr, ?_⟩
  refine callW_of cal60 (rNormD_v (hT.ext hx) h' hD) ?_
  rintro _ w6 ⟨v6, rfl, hx6, h6⟩; refine ⟨_, rfl, ?_⟩
  replace h := h.ext hx6
  replace h' := h'.ext hx6
  replace h5 := h5.ext hx6
  replace hb2 := hb2.ext hx6
  replace hb3 := hb3.ext hx6
  replace hD := hD.kp hx6
  replace hx := hx.trans hx6
  clear hx6
  refine callW_of cal72 (kDyad_ok h5 h6) ?_
  rintro _ w7 ⟨rfl, hx7⟩; refine ⟨_, rfl, ?_⟩
  replace h := h.ext hx7
  replace h' := h'.ext hx7
  replace h5 := h5.ext hx7
  replace h6 := h6.ext hx7
  replace hb2 := hb2.ext hx7
  replace hb3 := hb3.ext hx7
  replace hD := hD.kp hx7
  replace hx := hx.trans hx7
  clear hx7
  simp only [thenE_n]
  refine hK _ _ ?_; clear hK
  refine W_ret ?_
  try simp only [thenE_r, inB_r]
  refine ret1 rfl ⟨rfl, hx⟩
end Go.Proofs.YtjamnehcmaloeaaGreatDoor
end
section
namespace Go.Proofs.YtjamnehcmaloeaaGreatDoor
open Go Go.E Go.Sp
theorem nanInt_ok {z : Int} {w : World} : Calls Tryz.prog 272 #[.int .i64 z] w fun e w' => e = .returned (.bool false) ∧ w = w' := by
  refine calls_W Tryz.func272 rfl Tryz.ntmps272 (by kernel_rfl) ?_
  refine W_seq_reg fun K hK => ?_
  simp -implicitDefEqProofs (disch := omega) only [go_sem, Nat.reduceEqDiff, Nat.reduceAdd, ↓reduceIte]
  refine hK _ _ ?_; clear hK K
  have q : (z != z) = false := by simp
  refine W_seq_reg fun K hK => ?_
  simp -implicitDefEqProofs (disch := omega) only [go_sem, Nat.reduceEqDiff, Nat.reduceAdd, ↓reduceIte, q]
  refine hK _ _ ?_; clear hK K
  refine W_ret ?_
  try simp only [thenE_r, inB_r]
  refine ret1 rfl ⟨rfl, rfl⟩
theorem nanU_ok {z : Int} {w : World} : Calls Tryz.prog 273 #[.int .u32 z] w fun e w' => e = .returned (.bool false) ∧ w = w' := by
  refine calls_W Tryz.func273 rfl Tryz.ntmps273 (by kernel_rfl) ?_
  refine W_seq_reg fun K hK => ?_
  simp -implicitDefEqProofs (disch := omega) only [go_sem, Nat.reduceEqDiff, Nat.reduceAdd, ↓reduceIte]
  refine hK _ _ ?_; clear hK K
  have q : (z != z) = false := by simp
  refine W_seq_reg fun K hK => ?_
  simp -implicitDefEqProofs (disch := omega) only [go_sem, Nat.reduceEqDiff, Nat.reduceAdd, ↓reduceIte, q]
  refine hK _ _ ?_; clear hK K
  refine W_ret ?_
  try simp only [thenE_r, inB_r]
  refine ret1 rfl ⟨rfl, rfl⟩
theorem cmpInt_ok {a b : Nat} {w : World} : Calls Tryz.prog 267 #[.int .i64 (a : Int), .int .i64 (b : Int)] w fun e w' => e = .returned (.int .i64 (cmpI a b)) ∧ w = w' := by
  refine calls_W Tryz.func267 rfl Tryz.ntmps267 (by kernel_rfl) ?_
  refine W_seq_reg fun K hK => ?_
  simp -implicitDefEqProofs (disch := omega) only [go_sem, Nat.reduceEqDiff, Nat.reduceAdd, ↓reduceIte]
  refine hK _ _ ?_; clear hK K
  refine W_seq_reg fun K hK => ?_
  simp -implicitDefEqProofs (disch := omega) only [go_sem, Nat.reduceEqDiff, Nat.reduceAdd, ↓reduceIte]
  refine callW_of cal272 (nanInt_ok) ?_
  rintro _ _ ⟨rfl, rfl⟩; refine ⟨_, rfl, ?_⟩
  refine hK _ _ ?_; clear hK
  refine W_seq_reg fun K hK => ?_
  simp -implicitDefEqProofs (disch := omega) only [go_sem, Nat.reduceEqDiff, Nat.reduceAdd, ↓reduceIte]
  refine callW_of cal272 (nanInt_ok) ?_
  rintro _ _ ⟨rfl, rfl⟩; refine ⟨_, rfl, ?_⟩
  refine hK _ _ ?_; clear hK
  refine W_seq_k fun K0 hK0 => ?_
  refine W_seq_reg fun K hK => ?_
  simp -implicitDefEqProofs (disch := omega) only [go_sem, Nat.reduceEqDiff, Nat.reduceAdd, ↓reduceIte]
  refine hK _ _ ?_; clear hK K
  refine W_cond rfl (fun hc => by cases hc) (fun hc => W_skip (hK0 _ _ ?_))
  clear hK0
  refine W_seq_k fun K0 hK0 => ?_
  refine W_seq_reg fun K hK => ?_
  simp -implicitDefEqProofs (disch := omega) only [go_sem, Nat.reduceEqDiff, Nat.reduceAdd, ↓reduceIte]
  refine hK _ _ ?_; clear hK K
  refine W_cond rfl (fun hc => by cases hc) (fun hc => W_skip (hK0 _ _ ?_))
  clear hK0
  refine W_seq_k fun K0 hK0 => ?_
  by_cases h1 : a < b
  · have q : (a : Int) < b := by omega
    refine W_seq_reg fun K hK => ?_
    simp -implicitDefEqProofs (disch := omega) only [go_sem, Nat.reduceEqDiff, Nat.reduceAdd, ↓reduceIte, q]
    refine hK _ _ ?_; clear hK K
    refine W_cond rfl (fun hc => ?_) (fun hc => by cases hc)
    refine W_seq_reg fun K hK => ?_
    simp -implicitDefEqProofs (disch := omega) only [go_sem, Nat.reduceEqDiff, Nat.reduceAdd, ↓reduceIte]
    refine hK _ _ ?_; clear hK K
    refine W_ret ?_
    try simp only [thenE_r, inB_r]
    refine ret1 rfl ⟨by simp [cmpI, h1, upd], rfl⟩
  · have q : ¬ (a : Int) < b := by omega
    refine W_seq_reg fun K hK => ?_
    simp -implicitDefEqProofs (disch := omega) only [go_sem, Nat.reduceEqDiff, Nat.reduceAdd, ↓reduceIte, q]
    refine hK _ _ ?_; clear hK K
    refine W_cond rfl (fun hc => by cases hc) (fun hc => W_skip (hK0 _ _ ?_))
    clear hK0
    refine W_seq_k fun K0 hK0 => ?_
    by_cases h2 : b < a
    · have q2 : (a : Int) > b := by omega
      refine W_seq_reg fun K hK => ?_
      simp -implicitDefEqProofs (disch := omega) only [go_sem, Nat.reduceEqDiff, Nat.reduceAdd, ↓reduceIte, q2]
      refine hK _ _ ?_; clear hK K
      refine W_cond rfl (fun hc => ?_) (fun hc => by cases hc)
      refine W_seq_reg fun K hK => ?_
      simp -implicitDefEqProofs (disch := omega) only [go_sem, Nat.reduceEqDiff, Nat.reduceAdd, ↓reduceIte]
      refine hK _ _ ?_; clear hK K
      refine W_ret ?_
      try simp only [thenE_r, inB_r]
      refine ret1 rfl ⟨by simp [cmpI, h1, show ¬ a = b by omega, upd], rfl⟩
    · have q2 : ¬ (a : Int) > b := by omega
      refine W_seq_reg fun K hK => ?_
      simp -implicitDefEqProofs (disch := omega) only [go_sem, Nat.reduceEqDiff, Nat.reduceAdd, ↓reduceIte, q2]
      refine hK _ _ ?_; clear hK K
      refine W_cond rfl (fun hc => by cases hc) (fun hc => W_skip (hK0 _ _ ?_))
      clear hK0
      refine W_seq_reg fun K hK => ?_
      simp -implicitDefEqProofs (disch := omega) only [go_sem, Nat.reduceEqDiff, Nat.reduceAdd, ↓reduceIte]
      refine hK _ _ ?_; clear hK K
      refine W_ret ?_
      try simp only [thenE_r, inB_r]
      refine ret1 rfl ⟨by simp [cmpI, h1, show a = b by omega, upd], rfl⟩
theorem cmpU_ok {a b : Nat} {w : World} : Calls Tryz.prog 268 #[.int .u32 (a : Int), .int .u32 (b : Int)] w fun e w' => e = .returned (.int .i64 (cmpI a b)) ∧ w = w' := by
  refine calls_W Tryz.func268 rfl Tryz.ntmps268 (by kernel_rfl) ?_
  refine W_seq_reg fun K hK => ?_
  simp -implicitDefEqProofs (disch := omega) only [go_sem, Nat.reduceEqDiff, Nat.reduceAdd, ↓reduceIte]
  refine hK _ _ ?_; clear hK K
  refine W_seq_reg fun K hK => ?_
  simp -implicitDefEqProofs (disch := omega) only [go_sem, Nat.reduceEqDiff, Nat.reduceAdd, ↓reduceIte]
  refine callW_of cal273 (nanU_ok) ?_
  rintro _ _ ⟨rfl, rfl⟩; refine ⟨_, rfl, ?_⟩
  refine hK _ _ ?_; clear hK
  refine W_seq_reg fun K hK => ?_
  simp -implicitDefEqProofs (disch := omega) only [go_sem, Nat.reduceEqDiff, Nat.reduceAdd, ↓reduceIte]
  refine callW_of cal273 (nanU_ok) ?_
  rintro _ _ ⟨rfl, rfl⟩; refine ⟨_, rfl, ?_⟩
  refine hK _ _ ?_; clear hK
  refine W_seq_k fun K0 hK0 => ?_
  refine W_seq_reg fun K hK => ?_
  simp -implicitDefEqProofs (disch := omega) only [go_sem, Nat.reduceEqDiff, Nat.reduceAdd, ↓reduceIte]
  refine hK _ _ ?_; clear hK K
  refine W_cond rfl (fun hc => by cases hc) (fun hc => W_skip (hK0 _ _ ?_))
  clear hK0
  refine W_seq_k fun K0 hK0 => ?_
  refine W_seq_reg fun K hK => ?_
  simp -implicitDefEqProofs (disch := omega) only [go_sem, Nat.reduceEqDiff, Nat.reduceAdd, ↓reduceIte]
  refine hK _ _ ?_; clear hK K
  refine W_cond rfl (fun hc => by cases hc) (fun hc => W_skip (hK0 _ _ ?_))
  clear hK0
  refine W_seq_k fun K0 hK0 => ?_
  by_cases h1 : a < b
  · have q : (a : Int) < b := by omega
    refine W_seq_reg fun K hK => ?_
    simp -implicitDefEqProofs (disch := omega) only [go_sem, Nat.reduceEqDiff, Nat.reduceAdd, ↓reduceIte, q]
    refine hK _ _ ?_; clear hK K
    refine W_cond rfl (fun hc => ?_) (fun hc => by cases hc)
    refine W_seq_reg fun K hK => ?_
    simp -implicitDefEqProofs (disch := omega) only [go_sem, Nat.reduceEqDiff, Nat.reduceAdd, ↓reduceIte]
    refine hK _ _ ?_; clear hK K
    refine W_ret ?_
    try simp only [thenE_r, inB_r]
    refine ret1 rfl ⟨by simp [cmpI, h1, upd], rfl⟩
  · have q : ¬ (a : Int) < b := by omega
    refine W_seq_reg fun K hK => ?_
    simp -implicitDefEqProofs (disch := omega) only [go_sem, Nat.reduceEqDiff, Nat.reduceAdd, ↓reduceIte, q]
    refine hK _ _ ?_; clear hK K
    refine W_cond rfl (fun hc => by cases hc) (fun hc => W_skip (hK0 _ _ ?_))
    clear hK0
    refine W_seq_k fun K0 hK0 => ?_
    by_cases h2 : b < a
    · have q2 : (a : Int) > b := by omega
      refine W_seq_reg fun K hK => ?_
      simp -implicitDefEqProofs (disch := omega) only [go_sem, Nat.reduceEqDiff, Nat.reduceAdd, ↓reduceIte, q2]
      refine hK _ _ ?_; clear hK K
      refine W_cond rfl (fun hc => ?_) (fun hc => by cases hc)
      refine W_seq_reg fun K hK => ?_
      simp -implicitDefEqProofs (disch := omega) only [go_sem, Nat.reduceEqDiff, Nat.reduceAdd, ↓reduceIte]
      refine hK _ _ ?_; clear hK K
      refine W_ret ?_
      try simp only [thenE_r, inB_r]
      refine ret1 rfl ⟨by simp [cmpI, h1, show ¬ a = b by omega, upd], rfl⟩
    · have q2 : ¬ (a : Int) > b := by omega
      refine W_seq_reg fun K hK => ?_
      simp -implicitDefEqProofs (disch := omega) only [go_sem, Nat.reduceEqDiff, Nat.reduceAdd, ↓reduceIte, q2]
      refine hK _ _ ?_; clear hK K
      refine W_cond rfl (fun hc => by cases hc) (fun hc => W_skip (hK0 _ _ ?_))
      clear hK0
      refine W_seq_reg fun K hK => ?_
      simp -implicitDefEqProofs (disch := omega) only [go_sem, Nat.reduceEqDiff, Nat.reduceAdd, ↓reduceIte]
      refine hK _ _ ?_; clear hK K
      refine W_ret ?_
      try simp only [thenE_r, inB_r]
      refine ret1 rfl ⟨by simp [cmpI, h1, show a = b by omega, upd], rfl⟩
theorem compare_ok {D D' : Nat → Prop} {A A' : Option Addr} {n n' c c' : Nat} {x y : Nat} {w : World} (h : In (fU (lim x)) D (.slice A n c) w) (h' : In (fU (lim y)) D' (.slice A' n' c') w) (hb : n ≤ 1000000000) (hb' : n' ≤ 1000000000) :
    Calls Tryz.prog 252 #[.slice A n c, .slice A' n' c'] w fun e w' => e = .returned (.int .i64 (cmpI x y)) ∧ Ext w w' := by
  have hl := h.u32.len
  have hl' := h'.u32.len
  have hx : Ext w w := Kp.refl _ _
  refine calls_W Tryz.func252 rfl Tryz.ntmps252 (by kernel_rfl) ?_
  refine W_seq_reg fun K hK => ?_
  simp -implicitDefEqProofs (disch := omega) only [go_sem, Nat.reduceEqDiff, Nat.reduceAdd, ↓reduceIte]
  refine hK _ _ ?_; clear hK K
  refine W_seq_k fun K0 hK0 => ?_
  by_cases hne : n = n'
  · subst hne
    have e1 : ((n : Int) != n) = false := by simp
    refine W_seq_reg fun K hK => ?_
    simp -implicitDefEqProofs (disch := omega) only [go_sem, Nat.reduceEqDiff, Nat.reduceAdd, ↓reduceIte, e1]
    refine hK _ _ ?_; clear hK K
    refine W_cond rfl (fun hc => by cases hc) (fun hc => W_skip (hK0 _ _ ?_))
    clear hK0
    refine W_seq_k fun K0 hK0 => ?_
    refine W_seq_reg fun K hK => ?_
    simp -implicitDefEqProofs (disch := omega) only [go_sem, Nat.reduceEqDiff, Nat.reduceAdd, ↓reduceIte, i64_in]
    refine hK _ _ ?_; clear hK K
    refine W_block ?_
    refine W_loop (fun e2 w2 => ∃ k : Nat, e2 5 = .int .i64 ((k : Int) - 1) ∧ k ≤ n ∧ Ext w w2 ∧ (lim x).drop k = (lim y).drop k) (fun e2 _ => (RowKit.intOf (e2 5) + 1).toNat) ⟨n, rfl, Nat.le_refl _, Kp.refl _ _, by rw [List.drop_of_length_le (by omega), List.drop_of_length_le (by omega)]⟩ ?_
    clear hx
    rintro e1 w1 ⟨k, h5, hk, hx, hdr⟩ hkk
    have h0 : e1 0 = .slice A n c := (hkk 0 (by kernel_rfl)).trans rfl
    have h1 : e1 1 = .slice A' n c' := (hkk 1 (by kernel_rfl)).trans rfl
    clear hkk
    replace h := h.ext hx
    replace h' := h'.ext hx
    refine W_seq_k fun K1 hK1 => ?_
    by_cases hpos : 0 < k
    · have hp' : ((k : Int) - 1 ≥ 0) := by omega
      refine W_seq_reg fun K hK => ?_
      simp -implicitDefEqProofs (disch := omega) only [go_sem, Nat.reduceEqDiff, Nat.reduceAdd, ↓reduceIte, h5, hp']
      refine hK _ _ ?_; clear hK K
      refine W_cond rfl (fun hc1 => W_skip (hK1 _ _ ?_)) (fun hc1 => by cases hc1)
      clear hK1
      refine W_seq_blk fun K hK => ?_
      have hj : k - 1 < n := by omega
      obtain ⟨ad, rfl, -⟩ := h.u32.cell hj
      obtain ⟨ad', rfl, -⟩ := h'.u32.cell hj
      have e1' : ((k : Int) - 1).toNat = k - 1 := by omega
      have e2' : (0 : Int) ≤ k - 1 ∧ (k : Int) - 1 < n := by omega
      refine W_seq_k fun K1 hK1 => ?_
      refine W_dQ mixed [true, true, true, true, true, true, true, true, true] (by kernel_rfl) fun KE hKE => ?_
      simp -implicitDefEqProofs (maxSteps := 600000) (disch := omega) only [go_sem, Nat.reduceEqDiff, Nat.reduceAdd, ↓reduceIte, h0, h1, h5, e1', e2', h.u32.cx hj, h'.u32.cx hj]
      refine hKE _ fun w2 hx2 => ?_; clear hKE KE
      replace h := h.ext hx2
      replace h' := h'.ext hx2
      replace hx := hx.trans hx2
      refine hK1 _ _ ?_; clear hK1
      by_cases hd : dg (lim x) (k - 1) = dg (lim y) (k - 1)
      · have hd' : (((dg (lim x) (k - 1) : Nat) : Int) != ((dg (lim y) (k - 1) : Nat) : Int)) = false := by simp [hd]
        refine W_cond rfl (fun hc => by rw [hd'] at hc; cases hc) (fun hc => W_skip (hK _ _ ?_))
        clear hK
        refine W_regK fun K9 hK9 => ?_
        simp -implicitDefEqProofs (disch := omega) only [go_sem, Nat.reduceEqDiff, Nat.reduceAdd, ↓reduceIte, h5, i64_in]
        refine hK9 _ _ ?_; clear hK9 K9
        refine ⟨⟨k - 1, by simp only [upd_ap, ↓reduceIte]; congr 1; omega, by omega, hx, ?_⟩, ?_⟩
        · rw [List.drop_eq_getElem_cons (l := lim x) (i := k - 1) (by omega), List.drop_eq_getElem_cons (l := lim y) (i := k - 1) (by omega), show k - 1 + 1 = k by omega, hdr]
          have := hd
          unfold dg at this
          rw [getD_get (by omega), getD_get (by omega)] at this
          rw [this]
        · simp only [upd_ap, ↓reduceIte, RowKit.intOf, h5]; omega
      · have hd' : (((dg (lim x) (k - 1) : Nat) : Int) != ((dg (lim y) (k - 1) : Nat) : Int)) = true := by rw [bne_iff_ne]; exact fun e => hd (Int.ofNat.inj e)
        refine W_cond rfl (fun hc => ?_) (fun hc => by rw [hd'] at hc; cases hc)
        clear hK
        refine W_seq_k fun K1 hK1 => ?_
        refine W_dC mixed (Kp (fun k => k ∉ ([] : List Nat))) (fun _ _ => False) (Kp.pre _) [true, true, true, true, true, true, true, true, false, false] [false, false, false, false, false, false, false, false, false, false] [1, 1, 1, 1, 1, 1, 1, 1, 1, 1] (by kernel_rfl) ?_
        apply Exists.intro
        refine ⟨fun wE hE KE hKE => ?_, fun wE hE KE hKE => ?_, fun wE hxE hr => ?_⟩
        · skip
          replace hE := Kp.all hE
          replace h := h.ext hE
          replace h' := h'.ext hE
          simp -implicitDefEqProofs (disch := omega) only [go_sem, Nat.reduceEqDiff, Nat.reduceAdd, ↓reduceIte, h0, h1, h5, e1', e2', h.u32.cx hj, h'.u32.cx hj]
          exact hKE
        · exact hE.elim
        simp only [selP_t, selP_f, selP_n]
        replace h := h.ext hxE
        replace h' := h'.ext hxE
        replace hx := hx.trans hxE
        clear hr
        simp -implicitDefEqProofs (disch := omega) only [go_sem, Nat.reduceEqDiff, Nat.reduceAdd, ↓reduceIte, List.toList_toArray, h0, h1, h5, e1', e2', h.u32.cx hj, h'.u32.cx hj]
        refine callW_of cal268 (cmpU_ok) ?_
        rintro _ _ ⟨rfl, rfl⟩; refine ⟨_, rfl, ?_⟩
        simp only [thenE_n]
        refine hK1 _ _ ?_; clear hK1
        have tops : ∀ {a b : Nat}, (lim a).length = n → (lim b).length = n → (lim a).drop k = (lim b).drop k → dg (lim a) (k - 1) < dg (lim b) (k - 1) → a < b := by
          intro a b ha hb' hab hlt
          have := val_lt_of_top (i := k - 1) (lim_all a) (ha.trans hb'.symm) (by omega) (by rw [show k - 1 + 1 = k by omega]; exact hab) hlt
          simpa [val_lim] using this
        have hcm : cmpI (dg (lim x) (k - 1)) (dg (lim y) (k - 1)) = cmpI x y := by
          by_cases hlt : dg (lim x) (k - 1) < dg (lim y) (k - 1)
          · have := tops hl hl' hdr hlt
            simp [cmpI, hlt, this]
          · have := tops hl' hl hdr.symm (by omega)
            simp [cmpI, hlt, hd, show ¬ x < y by omega, show ¬ x = y by omega]
        refine W_ret ?_
        try simp only [thenE_r, inB_r]
        refine ret1 rfl ⟨by simp only [upd_ap, Nat.reduceEqDiff, ↓reduceIte]; rw [hcm], hx⟩
    · obtain rfl : k = 0 := by omega
      have hp' : ¬ (((0 : Nat) : Int) - 1 ≥ 0) := by omega
      refine W_seq_reg fun K hK => ?_
      simp -implicitDefEqProofs (disch := omega) only [go_sem, Nat.reduceEqDiff, Nat.reduceAdd, ↓reduceIte, h5, hp']
      refine hK _ _ ?_; clear hK K
      refine W_cond rfl (fun hc1 => by cases hc1) (fun hc1 => W_exit (hK0 _ _ ?_))
      refine W_seq_reg fun K hK => ?_
      simp -implicitDefEqProofs (disch := omega) only [go_sem, Nat.reduceEqDiff, Nat.reduceAdd, ↓reduceIte]
      refine hK _ _ ?_; clear hK K
      have : x = y := by
        have := congrArg val hdr
        simpa [val_lim] using this
      refine W_ret ?_
      try simp only [thenE_r, inB_r]
      refine ret1 rfl ⟨by simp [cmpI, upd, this], hx⟩
  · have e1 : ((n : Int) != n') = true := by rw [bne_iff_ne]; omega
    refine W_seq_reg fun K hK => ?_
    simp -implicitDefEqProofs (disch := omega) only [go_sem, Nat.reduceEqDiff, Nat.reduceAdd, ↓reduceIte, e1]
    refine hK _ _ ?_; clear hK K
    refine W_cond rfl (fun hc => ?_) (fun hc => by cases hc)
    refine W_seq_reg fun K hK => ?_
    simp -implicitDefEqProofs (disch := omega) only [go_sem, Nat.reduceEqDiff, Nat.reduceAdd, ↓reduceIte]
    refine callW_of cal267 (cmpInt_ok) ?_
    rintro _ _ ⟨rfl, rfl⟩; refine ⟨_, rfl, ?_⟩
    refine hK _ _ ?_; clear hK
    have hcm : cmpI n n' = cmpI x y := by
      by_cases hlt : n < n'
      · have := lt_of_len_lt (m := x) (n := y) (by omega)
        simp [cmpI, hlt, this]
      · have := lt_of_len_lt (m := y) (n := x) (by omega)
        simp [cmpI, hlt, hne, show ¬ x < y by omega, show ¬ x = y by omega]
    refine W_ret ?_
    try simp only [thenE_r, inB_r]
    refine ret1 rfl ⟨by simp only [upd_ap, Nat.reduceEqDiff, ↓reduceIte]; rw [hcm], hx⟩
theorem length_ok {D : Nat → Prop} {A : Option Addr} {n c : Nat} {x : Nat} {w : World} (h : In (fU (lim x)) D (.slice A n c) w) (hb : n ≤ 1000000000) : Calls Tryz.prog 247 #[.slice A n c] w fun e w' => e = .returned (.int .i64 (bl x : Nat)) ∧ w = w' := by
  have hl := h.u32.len
  have hpos := @lim_length_pos x
  refine calls_W Tryz.func247 rfl Tryz.ntmps247 (by kernel_rfl) ?_
  refine W_seq_reg fun K hK => ?_
  simp -implicitDefEqProofs (disch := omega) only [go_sem, Nat.reduceEqDiff, Nat.reduceAdd, ↓reduceIte]
  refine hK _ _ ?_; clear hK K
  refine W_seq_k fun K0 hK0 => ?_
  by_cases hz : n = 0
  · have q : ((n : Int) == 0) = true := by rw [beq0]; exact decide_eq_true hz
    refine W_seq_reg fun K hK => ?_
    simp -implicitDefEqProofs (disch := omega) only [go_sem, Nat.reduceEqDiff, Nat.reduceAdd, ↓reduceIte, q]
    refine hK _ _ ?_; clear hK K
    refine W_cond rfl (fun hc => ?_) (fun hc => by cases hc)
    refine W_seq_reg fun K hK => ?_
    simp -implicitDefEqProofs (disch := omega) only [go_sem, Nat.reduceEqDiff, Nat.reduceAdd, ↓reduceIte]
    refine hK _ _ ?_; clear hK K
    have h0 : x = 0 := by omega
    refine W_ret ?_
    try simp only [thenE_r, inB_r]
    refine ret1 rfl ⟨by simp [h0, bl_zero, upd], rfl⟩
  · have q : ((n : Int) == 0) = false := by rw [beq0]; exact decide_eq_false hz
    refine W_seq_reg fun K hK => ?_
    simp -implicitDefEqProofs (disch := omega) only [go_sem, Nat.reduceEqDiff, Nat.reduceAdd, ↓reduceIte, q]
    refine hK _ _ ?_; clear hK K
    refine W_cond rfl (fun hc => by cases hc) (fun hc => W_skip (hK0 _ _ ?_))
    clear hK0
    have hj : n - 1 < n := by omega
    obtain ⟨ad, rfl, -⟩ := h.u32.cell hj
    have hs1 : IntKind.i64.wrap ((n : Int) - 1) = ((n - 1 : Nat) : Int) := by rw [i64_in (by omega) (by omega)]; omega
    have hs2 : IntKind.i64.wrap (((n - 1 : Nat) : Int) * 32) = ((32 * (n - 1) : Nat) : Int) := by rw [i64_in (by omega) (by omega)]; omega
    have r1 : (0 : Int) ≤ (n - 1 : Nat) ∧ ((n - 1 : Nat) : Int) < n := by omega
    refine W_seq_reg fun K hK => ?_
    simp -implicitDefEqProofs (disch := omega) only [go_sem, Nat.reduceEqDiff, Nat.reduceAdd, ↓reduceIte, hs1, hs2, r1, h.u32.cx hj]
    refine callW_of cal193 (len32_ok (h.u32.dg_lt _)) ?_
    rintro _ _ ⟨rfl, rfl⟩; refine ⟨_, rfl, ?_⟩
    have hbl := bl_lim (n := x) (by omega)
    rw [hl] at hbl
    have hb2 : bl (dg (lim x) (n - 1)) ≤ 32 := bl_le_of (h.u32.dg_lt _)
    have hs3 : IntKind.i64.wrap (((32 * (n - 1) : Nat) : Int) + ((bl (dg (lim x) (n - 1)) : Nat) : Int)) = ((bl x : Nat) : Int) := by
      unfold dg at *
      rw [i64_in (by omega) (by omega)]; omega
    simp -implicitDefEqProofs (disch := omega) only [go_sem, Nat.reduceEqDiff, Nat.reduceAdd, ↓reduceIte, hs3]
    refine hK _ _ ?_; clear hK
    refine W_ret ?_
    try simp only [thenE_r, inB_r]
    refine ret1 rfl ⟨rfl, rfl⟩
end Go.Proofs.YtjamnehcmaloeaaGreatDoor
end
section
namespace Go.Proofs.YtjamnehcmaloeaaGreatDoor
open Go Go.E Go.Sp
theorem OwnU.cx {w : World} {Bd g n c : Nat} {o : List Nat} (h : OwnU w Bd (some ⟨g, 0, none⟩) n c o) {j : Nat} (hj : j < n) : w.cell? ⟨g, j, none⟩ = some (.int .u32 ((o.getD j 0 : Nat) : Int)) := by
  have hl : o.length = n := by have := h.1.len; simpa using this
  obtain ⟨g', hg, _, hc, _⟩ := h.1.cell (j := j) (by simp; omega)
  cases hg
  rw [hc]; simp [u32v, show j < o.length by omega]
theorem OwnU.len {w : World} {Bd n c : Nat} {A : Option Addr} {o : List Nat} (h : OwnU w Bd A n c o) : o.length = n := by have := h.1.len; simpa using this
theorem OwnU.ext {w w' : World} {Bd n c : Nat} {A : Option Addr} {o : List Nat} (h : OwnU w Bd A n c o) (k : Ext w w') : OwnU w' Bd A n c o := ⟨h.1.ext k, h.2⟩
theorem trimR {D : Nat → Prop} {A : Option Addr} {n c : Nat} {l : List Nat} {w : World} (h : U32 w D A n c l) (hb : n ≤ 1000000000) : Calls Tryz.prog 245 #[.slice A n c] w (Rt (fU (lim (val l))) D w) :=
  (trim_ok h hb).mono fun _ _ ⟨_, e, hw, hU⟩ => by subst hw; exact ⟨_, e, Kp.refl _ _, hU.in⟩
theorem plus_ok {D : Nat → Prop} {A A' : Option Addr} {n n' c c' : Nat} {x y : Nat} {w : World} (h : In (fU (lim x)) D (.slice A n c) w) (h' : In (fU (lim y)) D (.slice A' n' c') w) (hb : n ≤ 900000000) (hb' : n' ≤ 900000000) (hf : Fr D w) :
    Calls Tryz.prog 249 #[.slice A n c, .slice A' n' c'] w (Rt (fU (lim (x + y))) D w) := by
  refine calls_W Tryz.func249 rfl Tryz.ntmps249 (by kernel_rfl) ?_
  refine W_seq_reg fun K hK => ?_
  simp -implicitDefEqProofs (disch := omega) only [go_sem, Nat.reduceEqDiff, Nat.reduceAdd, ↓reduceIte]
  refine hK _ _ ?_; clear hK K
  refine W_seq_k fun K0 hK0 => ?_
  have main : ∀ (e1 : Env) (A A' : Option Addr) (n n' c c' x' y' : Nat), In (fU (lim x')) D (.slice A n c) w → In (fU (lim y')) D (.slice A' n' c') w → n ≤ 900000000 → n' ≤ n → x' + y' = x + y → e1 0 = .slice A n c → e1 1 = .slice A' n' c' → K0 e1 w := by
    clear h h' hb hb'
    intro e1 A A' n n' c c' x' y' h h' hb hb' hxy g0 g1
    have hl := h.u32.len
    have hl' := h'.u32.len
    refine hK0 _ _ ?_; clear hK0
    have hs : IntKind.i64.wrap ((n : Int) + 1) = ((n + 1 : Nat) : Int) := by rw [i64_in (by omega) (by omega)]; omega
    refine W_seq_reg fun K hK => ?_
    simp -implicitDefEqProofs (disch := omega) only [go_sem, Nat.reduceEqDiff, Nat.reduceAdd, ↓reduceIte, g0, hs]
    refine mkW_of (l := 0) (Nat.zero_le _) (by omega) (by unfold maxLen; omega) fun w0 hx0 hO0 _ => ?_
    refine hK _ _ ?_; clear hK
    refine W_seq_reg fun K hK => ?_
    simp -implicitDefEqProofs (disch := omega) only [go_sem, Nat.reduceEqDiff, Nat.reduceAdd, ↓reduceIte]
    refine hK _ _ ?_; clear hK K
    refine W_seq_k fun K0 hK0 => ?_
    refine W_seq_reg fun K hK => ?_
    simp -implicitDefEqProofs (disch := omega) only [go_sem, Nat.reduceEqDiff, Nat.reduceAdd, ↓reduceIte, g0]
    refine hK _ _ ?_; clear hK K
    refine W_block ?_
    refine W_loop (fun e2 w2 => ∃ (k cr : Nat) (A2 : Option Addr) (c2 : Nat) (o : List Nat), e2 23 = .int .i64 k ∧ e2 6 = .int .u64 cr ∧ e2 5 = .slice A2 k c2 ∧ k ≤ n ∧ cr ≤ 1 ∧ Ext w w2 ∧ OwnU w2 w.heap.size A2 k c2 o ∧ val o + B ^ k * cr = val ((lim x').take k) + val ((lim y').take k)) (fun e2 _ => n - (RowKit.intOf (e2 23)).toNat) ⟨0, 0, _, _, [], rfl, (by (try simp only [upd_ap, Nat.reduceEqDiff, ↓reduceIte]); first | done | assumption | exact rfl), (by (try simp only [upd_ap, Nat.reduceEqDiff, ↓reduceIte]); first | done | assumption | exact rfl), Nat.zero_le _, Nat.zero_le _, hx0, ⟨by simpa using hO0, AllB.nil⟩, by simp [val]⟩ ?_
    rintro e2 w1 ⟨k, cr, A2, c2, o, k23, k6, k5, hkm, hcr, hx, hO, hv⟩ hkk
    have k1 : e2 1 = .slice A' n' c' := (hkk 1 (by kernel_rfl)).trans (by (try simp only [upd_ap, Nat.reduceEqDiff, ↓reduceIte]); first | done | assumption | exact rfl)
    have k21 : e2 21 = .slice A n c := (hkk 21 (by kernel_rfl)).trans (by (try simp only [upd_ap, Nat.reduceEqDiff, ↓reduceIte]); first | done | assumption | exact rfl)
    have k22 : e2 22 = .int .i64 n := (hkk 22 (by kernel_rfl)).trans (by (try simp only [upd_ap, Nat.reduceEqDiff, ↓reduceIte]); first | done | assumption | exact rfl)
    clear hkk
    have hd1 := h.u32.dg_lt k
    have hd2 := h'.u32.dg_lt k
    by_cases hlt : k < n
    · have hlt' : (k : Int) < n := by omega
      refine W_seq_reg fun K hK => ?_
      simp -implicitDefEqProofs (disch := omega) only [go_sem, Nat.reduceEqDiff, Nat.reduceAdd, ↓reduceIte, k23, k22, hlt']
      refine hK _ _ ?_; clear hK K
      refine W_seq_k fun K1 hK1 => ?_
      refine W_cond rfl (fun hc1 => W_skip (hK1 _ _ ?_)) (fun hc1 => by cases hc1)
      clear hK1
      refine W_seq_blk fun K hK => ?_
      obtain ⟨ad, rfl, -⟩ := h.u32.cell hlt
      have e2' : (0 : Int) ≤ k ∧ (k : Int) < n := by omega
      refine W_seq_reg fun K hK => ?_
      simp -implicitDefEqProofs (disch := omega) only [go_sem, Nat.reduceEqDiff, Nat.reduceAdd, ↓reduceIte, k21, k23, e2', (h.ext hx).u32.cx hlt]
      refine hK _ _ ?_; clear hK K
      refine W_seq_reg fun K hK => ?_
      simp -implicitDefEqProofs (disch := omega) only [go_sem, Nat.reduceEqDiff, Nat.reduceAdd, ↓reduceIte, k6]
      refine hK _ _ ?_; clear hK K
      refine W_seq_k fun K1 hK1 => ?_
      have st2 : ∀ (e3 : Env), e3 23 = .int .i64 k → e3 9 = .int .u64 ((cr + dg (lim x') k + dg (lim y') k : Nat) : Int) → e3 5 = .slice A2 k c2 → K1 e3 w1 := by
        intro e3 q23 q9 q5
        refine hK1 _ _ ?_; clear hK1
        have ea := and_low (a := cr + dg (lim x') k + dg (lim y') k) (by omega)
        have eb : (cr + dg (lim x') k + dg (lim y') k) % 4294967296 % 4294967296 = (cr + dg (lim x') k + dg (lim y') k) % 4294967296 := Nat.mod_mod _ _
        refine W_seq_reg fun K9 hK9 => ?_
        simp -implicitDefEqProofs (disch := omega) only [go_sem, Nat.reduceEqDiff, Nat.reduceAdd, ↓reduceIte, q9, q5, ea, eb]
        refine pushU hO (Nat.mod_lt _ (by omega)) (by omega) hx.size ?_
        intro v1 A3 c3 w3 hO3 hk3 hat
        refine hK9 _ _ ?_; clear hK9
        refine W_regK fun K9 hK9 => ?_
        simp -implicitDefEqProofs (disch := omega) only [go_sem, Nat.reduceEqDiff, Nat.reduceAdd, ↓reduceIte, q9]
        refine hK9 _ _ ?_; clear hK9 K9
        refine hK _ _ ?_; clear hK
        refine W_regK fun K9 hK9 => ?_
        simp -implicitDefEqProofs (disch := omega) only [go_sem, Nat.reduceEqDiff, Nat.reduceAdd, ↓reduceIte, q23, i64_in]
        refine hK9 _ _ ?_; clear hK9 K9
        refine ⟨⟨k + 1, _, A3, c3, _, rfl, (by (try simp only [upd_ap, Nat.reduceEqDiff, ↓reduceIte]); first | done | assumption | exact rfl), (by (try simp only [upd_ap, Nat.reduceEqDiff, ↓reduceIte]); first | done | assumption | exact rfl), by omega, by omega, hO.1.under hx hk3, hO3, ?_⟩, by simp only [upd_ap, ↓reduceIte, RowKit.intOf, k23]; omega⟩
        rw [vts, vts]
        have := add_step (x := dg (lim x') k) (y := dg (lim y') k) hO.len hv
        unfold B at this ⊢
        unfold dg at this ⊢
        omega
      by_cases hb2 : k < n'
      · have hb2' : (k : Int) < n' := by omega
        refine W_seq_reg fun K hK => ?_
        simp -implicitDefEqProofs (disch := omega) only [go_sem, Nat.reduceEqDiff, Nat.reduceAdd, ↓reduceIte, k1, hb2']
        refine hK _ _ ?_; clear hK K
        refine W_cond rfl (fun hc => ?_) (fun hc => by cases hc)
        obtain ⟨ad2, rfl, -⟩ := h'.u32.cell hb2
        have e3' : (0 : Int) ≤ k ∧ (k : Int) < n' := by omega
        have es : dg (lim x') k + cr + dg (lim y') k = cr + dg (lim x') k + dg (lim y') k := by omega
        refine W_regK fun K9 hK9 => ?_
        simp -implicitDefEqProofs (disch := omega) only [go_sem, Nat.reduceEqDiff, Nat.reduceAdd, ↓reduceIte, k1, e3', (h'.ext hx).u32.cx hb2, es]
        refine hK9 _ _ ?_; clear hK9 K9
        exact st2 _ (by (try simp only [upd_ap, Nat.reduceEqDiff, ↓reduceIte]); first | done | assumption | exact rfl) (by (try simp only [upd_ap, Nat.reduceEqDiff, ↓reduceIte]); first | done | assumption | exact rfl) (by (try simp only [upd_ap, Nat.reduceEqDiff, ↓reduceIte]); first | done | assumption | exact rfl)
      · have hb2' : ¬ (k : Int) < n' := by omega
        refine W_seq_reg fun K hK => ?_
        simp -implicitDefEqProofs (disch := omega) only [go_sem, Nat.reduceEqDiff, Nat.reduceAdd, ↓reduceIte, k1, hb2']
        refine hK _ _ ?_; clear hK K
        refine W_cond rfl (fun hc => by cases hc) (fun hc => W_skip ?_)
        have hz : dg (lim y') k = 0 := dg_ge (by omega)
        exact st2 _ (by (try simp only [upd_ap, Nat.reduceEqDiff, ↓reduceIte]); first | done | assumption | exact rfl) (by simp only [upd_ap, Nat.reduceEqDiff, ↓reduceIte]; rw [hz]; congr 2; omega) (by (try simp only [upd_ap, Nat.reduceEqDiff, ↓reduceIte]); first | done | assumption | exact rfl)
    · have hlt' : ¬ (k : Int) < n := by omega
      refine W_seq_reg fun K hK => ?_
      simp -implicitDefEqProofs (disch := omega) only [go_sem, Nat.reduceEqDiff, Nat.reduceAdd, ↓reduceIte, k23, k22, hlt']
      refine hK _ _ ?_; clear hK K
      refine W_seq_k fun K1 hK1 => ?_
      refine W_cond rfl (fun hc1 => by cases hc1) (fun hc1 => W_exit ?_)
      obtain rfl : k = n := by omega
      refine hK0 _ _ ?_; clear hK0 hK1
      refine W_seq_reg fun K9 hK9 => ?_
      simp -implicitDefEqProofs (disch := omega) only [go_sem, Nat.reduceEqDiff, Nat.reduceAdd, ↓reduceIte, k5, k6]
      refine pushU hO (Nat.mod_lt _ (by omega)) (by omega) hx.size ?_
      intro v1 A3 c3 w3 hO3 hk3 hat
      have hx3 : Ext w w3 := hO.1.under hx hk3
      have hval : val (o ++ [cr % 4294967296]) = x + y := by
        rw [val_snoc, hO.len, Nat.mod_eq_of_lt (by omega), hv, val_take_ge _ _ (by omega), val_take_ge _ _ (by omega), val_lim, val_lim, hxy]
      refine callW_of cal245 (trimR (hO3.u32 hf) (by omega)) ?_
      rintro _ w4 ⟨v4, rfl, hx4, h4⟩; refine ⟨_, rfl, ?_⟩
      rw [hval] at h4
      refine hK9 _ _ ?_; clear hK9
      refine W_ret ?_
      try simp only [thenE_r, inB_r]
      refine ret1 rfl ⟨_, rfl, hx3.trans hx4, by simp only [upd_ap, ↓reduceIte]; exact h4⟩
  by_cases hlt : n < n'
  · have q : (n : Int) < n' := by omega
    refine W_seq_reg fun K hK => ?_
    simp -implicitDefEqProofs (disch := omega) only [go_sem, Nat.reduceEqDiff, Nat.reduceAdd, ↓reduceIte, q]
    refine hK _ _ ?_; clear hK K
    refine W_cond rfl (fun hc => ?_) (fun hc => by cases hc)
    refine W_regK fun K9 hK9 => ?_
    simp -implicitDefEqProofs (disch := omega) only [go_sem, Nat.reduceEqDiff, Nat.reduceAdd, ↓reduceIte]
    refine hK9 _ _ ?_; clear hK9 K9
    exact main _ A' A n' n c' c y x h' h hb' (by omega) (by omega) (by (try simp only [upd_ap, Nat.reduceEqDiff, ↓reduceIte]); first | done | assumption | exact rfl) (by (try simp only [upd_ap, Nat.reduceEqDiff, ↓reduceIte]); first | done | assumption | exact rfl)
  · have q : ¬ (n : Int) < n' := by omega
    refine W_seq_reg fun K hK => ?_
    simp -implicitDefEqProofs (disch := omega) only [go_sem, Nat.reduceEqDiff, Nat.reduceAdd, ↓reduceIte, q]
    refine hK _ _ ?_; clear hK K
    refine W_cond rfl (fun hc => by cases hc) (fun hc => W_skip ?_)
    exact main _ A A' n n' c c' x y h h' hb (by omega) rfl (by (try simp only [upd_ap, Nat.reduceEqDiff, ↓reduceIte]); first | done | assumption | exact rfl) (by (try simp only [upd_ap, Nat.reduceEqDiff, ↓reduceIte]); first | done | assumption | exact rfl)
theorem sub_step2 {t : Nat} {br x y : Nat} (hbr : br ≤ 1) (hx : x < 4294967296) (hy : y < 4294967296) (ht : t = ((x + (18446744073709551616 - br)) % 18446744073709551616 + (18446744073709551616 - y)) % 18446744073709551616) : t / 4294967296 % 2 = t / 9223372036854775808 := by omega
theorem minus_ok {D : Nat → Prop} {A A' : Option Addr} {n n' c c' : Nat} {x y : Nat} {w : World} (h : In (fU (lim x)) D (.slice A n c) w) (h' : In (fU (lim y)) D (.slice A' n' c') w) (hb : n ≤ 900000000) (hle : y ≤ x) (hf : Fr D w) :
    Calls Tryz.prog 250 #[.slice A n c, .slice A' n' c'] w (Rt (fU (lim (x - y))) D w) := by
  have hl := h.u32.len
  have hl' := h'.u32.len
  have hn : n' ≤ n := by have := len_mono hle; omega
  refine calls_W Tryz.func250 rfl Tryz.ntmps250 (by kernel_rfl) ?_
  refine W_seq_reg fun K hK => ?_
  simp -implicitDefEqProofs (disch := omega) only [go_sem, Nat.reduceEqDiff, Nat.reduceAdd, ↓reduceIte]
  refine hK _ _ ?_; clear hK K
  refine W_seq_reg fun K hK => ?_
  simp -implicitDefEqProofs (disch := omega) only [go_sem, Nat.reduceEqDiff, Nat.reduceAdd, ↓reduceIte]
  refine mkU (Nat.le_refl _) (by omega) fun w0 hx0 hO0 => ?_
  generalize hg : w.heap.size = g at hO0
  refine hK _ _ ?_; clear hK
  refine W_seq_reg fun K hK => ?_
  simp -implicitDefEqProofs (disch := omega) only [go_sem, Nat.reduceEqDiff, Nat.reduceAdd, ↓reduceIte]
  refine hK _ _ ?_; clear hK K
  refine W_seq_k fun K0 hK0 => ?_
  refine W_seq_reg fun K hK => ?_
  simp -implicitDefEqProofs (disch := omega) only [go_sem, Nat.reduceEqDiff, Nat.reduceAdd, ↓reduceIte]
  refine hK _ _ ?_; clear hK K
  refine W_block ?_
  refine W_loop (fun e2 w2 => ∃ (k br : Nat) (o : List Nat), e2 15 = .int .i64 k ∧ e2 6 = .int .u64 br ∧ k ≤ n ∧ br ≤ 1 ∧ Ext w w2 ∧ OwnU w2 g (some ⟨g, 0, none⟩) n n o ∧ val (o.take k) + val ((lim y).take k) = val ((lim x).take k) + B ^ k * br) (fun e2 _ => n - (RowKit.intOf (e2 15)).toNat) ⟨0, 0, _, rfl, (by (try simp only [upd_ap, Nat.reduceEqDiff, ↓reduceIte]); first | done | assumption | exact rfl), Nat.zero_le _, Nat.zero_le _, hx0, hO0, by simp [val]⟩ ?_
  rintro e2 w1 ⟨k, br, o, k15, k6, hkm, hbr, hx, hO, hv⟩ hkk
  have k1 : e2 1 = .slice A' n' c' := (hkk 1 (by kernel_rfl)).trans (by (try simp only [upd_ap, Nat.reduceEqDiff, ↓reduceIte]); first | done | assumption | exact rfl)
  have k5 : e2 5 = .slice (some ⟨g, 0, none⟩) n n := (hkk 5 (by kernel_rfl)).trans (by (try simp only [upd_ap, Nat.reduceEqDiff, ↓reduceIte]); first | done | assumption | exact rfl)
  have k13 : e2 13 = .slice A n c := (hkk 13 (by kernel_rfl)).trans (by (try simp only [upd_ap, Nat.reduceEqDiff, ↓reduceIte]); first | done | assumption | exact rfl)
  have k14 : e2 14 = .int .i64 n := (hkk 14 (by kernel_rfl)).trans (by (try simp only [upd_ap, Nat.reduceEqDiff, ↓reduceIte]); first | done | assumption | exact rfl)
  clear hkk
  have hol := hO.len
  have hd1 := h.u32.dg_lt k
  have hd2 := h'.u32.dg_lt k
  by_cases hlt : k < n
  · have hlt' : (k : Int) < n := by omega
    refine W_seq_reg fun K hK => ?_
    simp -implicitDefEqProofs (disch := omega) only [go_sem, Nat.reduceEqDiff, Nat.reduceAdd, ↓reduceIte, k15, k14, hlt']
    refine hK _ _ ?_; clear hK K
    refine W_seq_k fun K1 hK1 => ?_
    refine W_cond rfl (fun hc1 => W_skip (hK1 _ _ ?_)) (fun hc1 => by cases hc1)
    clear hK1
    refine W_seq_blk fun K hK => ?_
    obtain ⟨ad, rfl, -⟩ := h.u32.cell hlt
    have e2' : (0 : Int) ≤ k ∧ (k : Int) < n := by omega
    refine W_seq_reg fun K hK => ?_
    simp -implicitDefEqProofs (disch := omega) only [go_sem, Nat.reduceEqDiff, Nat.reduceAdd, ↓reduceIte, k13, k15, e2', (h.ext hx).u32.cx hlt]
    refine hK _ _ ?_; clear hK K
    refine W_seq_reg fun K hK => ?_
    simp -implicitDefEqProofs (disch := omega) only [go_sem, Nat.reduceEqDiff, Nat.reduceAdd, ↓reduceIte, k6, sub64N]
    refine hK _ _ ?_; clear hK K
    refine W_seq_k fun K1 hK1 => ?_
    have st2 : ∀ (e3 : Env) (t : Nat), e3 15 = .int .i64 k → e3 7 = .int .i64 k → e3 9 = .int .u64 (t : Nat) → e3 5 = .slice (some ⟨g, 0, none⟩) n n → t = ((dg (lim x) k + (18446744073709551616 - br)) % 18446744073709551616 + (18446744073709551616 - dg (lim y) k)) % 18446744073709551616 → K1 e3 w1 := by
      intro e3 t q15 q7 q9 q5 ht
      refine hK1 _ _ ?_; clear hK1
      have htl : t < 18446744073709551616 := by omega
      have ea := and_low (a := t) htl
      have eb : t % 4294967296 % 4294967296 = t % 4294967296 := Nat.mod_mod _ _
      refine W_seq_reg fun K9 hK9 => ?_
      simp -implicitDefEqProofs (disch := omega) only [go_sem, Nat.reduceEqDiff, Nat.reduceAdd, ↓reduceIte, q9, q5, q7, ea, eb, e2']
      refine storeU hO hlt (Nat.mod_lt _ (by omega)) fun w3 hO3 hk3 hs3 => ?_
      refine hK9 _ _ ?_; clear hK9
      have ec := and_one (a := t / 4294967296) (by omega)
      refine W_regK fun K9 hK9 => ?_
      simp -implicitDefEqProofs (disch := omega) only [go_sem, Nat.reduceEqDiff, Nat.reduceAdd, ↓reduceIte, q9, ec]
      refine hK9 _ _ ?_; clear hK9 K9
      refine hK _ _ ?_; clear hK
      refine W_regK fun K9 hK9 => ?_
      simp -implicitDefEqProofs (disch := omega) only [go_sem, Nat.reduceEqDiff, Nat.reduceAdd, ↓reduceIte, q15, i64_in]
      refine hK9 _ _ ?_; clear hK9 K9
      have htk : (o.set k (t % 4294967296)).take (k + 1) = o.take k ++ [t % 4294967296] := by
        rw [take_snocD _ _ (by simp; omega), take_set_self]
        congr 2
        rw [List.getD_eq_getElem?_getD, List.getElem?_set_self (by omega)]; rfl
      have key := sub_step (o := o.take k) (i := k) (by rw [List.length_take, hol]; omega) hv hbr hd1 hd2 ht
      have hs2 := sub_step2 hbr hd1 hd2 ht
      refine ⟨⟨k + 1, _, _, rfl, (by (try simp only [upd_ap, Nat.reduceEqDiff, ↓reduceIte]); first | done | assumption | exact rfl), by omega, by omega, by subst hg; exact hO.1.under hx hk3, hO3, ?_⟩, by simp only [upd_ap, ↓reduceIte, RowKit.intOf, k15]; omega⟩
      rw [htk, vts, vts, hs2]; exact key.1
    by_cases hb2 : k < n'
    · have hb2' : (k : Int) < n' := by omega
      refine W_seq_reg fun K hK => ?_
      simp -implicitDefEqProofs (disch := omega) only [go_sem, Nat.reduceEqDiff, Nat.reduceAdd, ↓reduceIte, k1, hb2']
      refine hK _ _ ?_; clear hK K
      refine W_cond rfl (fun hc => ?_) (fun hc => by cases hc)
      obtain ⟨ad2, rfl, -⟩ := h'.u32.cell hb2
      have e3' : (0 : Int) ≤ k ∧ (k : Int) < n' := by omega
      refine W_regK fun K9 hK9 => ?_
      simp -implicitDefEqProofs (disch := omega) only [go_sem, Nat.reduceEqDiff, Nat.reduceAdd, ↓reduceIte, k1, e3', (h'.ext hx).u32.cx hb2, sub64N]
      refine hK9 _ _ ?_; clear hK9 K9
      exact st2 _ _ (by (try simp only [upd_ap, Nat.reduceEqDiff, ↓reduceIte]); first | done | assumption | exact rfl) (by (try simp only [upd_ap, Nat.reduceEqDiff, ↓reduceIte]); first | done | assumption | exact rfl) (by (try simp only [upd_ap, Nat.reduceEqDiff, ↓reduceIte]); first | done | assumption | exact rfl) (by (try simp only [upd_ap, Nat.reduceEqDiff, ↓reduceIte]); first | done | assumption | exact rfl) rfl
    · have hb2' : ¬ (k : Int) < n' := by omega
      refine W_seq_reg fun K hK => ?_
      simp -implicitDefEqProofs (disch := omega) only [go_sem, Nat.reduceEqDiff, Nat.reduceAdd, ↓reduceIte, k1, hb2']
      refine hK _ _ ?_; clear hK K
      refine W_cond rfl (fun hc => by cases hc) (fun hc => W_skip ?_)
      have hz : dg (lim y) k = 0 := dg_ge (by omega)
      exact st2 _ _ (by (try simp only [upd_ap, Nat.reduceEqDiff, ↓reduceIte]); first | done | assumption | exact rfl) (by (try simp only [upd_ap, Nat.reduceEqDiff, ↓reduceIte]); first | done | assumption | exact rfl) (by (try simp only [upd_ap, Nat.reduceEqDiff, ↓reduceIte]); first | done | assumption | exact rfl) (by (try simp only [upd_ap, Nat.reduceEqDiff, ↓reduceIte]); first | done | assumption | exact rfl) (by rw [hz]; omega)
  · have hlt' : ¬ (k : Int) < n := by omega
    refine W_seq_reg fun K hK => ?_
    simp -implicitDefEqProofs (disch := omega) only [go_sem, Nat.reduceEqDiff, Nat.reduceAdd, ↓reduceIte, k15, k14, hlt']
    refine hK _ _ ?_; clear hK K
    refine W_seq_k fun K1 hK1 => ?_
    refine W_cond rfl (fun hc1 => by cases hc1) (fun hc1 => W_exit ?_)
    obtain rfl : k = n := by omega
    refine hK0 _ _ ?_; clear hK0 hK1
    rw [List.take_of_length_le (by omega), val_take_ge _ _ (by omega), val_take_ge _ _ (by omega), val_lim, val_lim] at hv
    have hlt2 := val_lt hO.2
    rw [hol] at hlt2
    have hbr0 : br = 0 := by
      rcases Nat.eq_zero_or_pos br with h0 | h0
      · exact h0
      · have : br = 1 := by omega
        rw [this] at hv; omega
    rw [hbr0] at hv
    refine W_seq_reg fun K9 hK9 => ?_
    simp -implicitDefEqProofs (disch := omega) only [go_sem, Nat.reduceEqDiff, Nat.reduceAdd, ↓reduceIte, k5]
    refine callW_of cal245 (trimR (hO.u32 fun k hk => hf k (by omega)) (by omega)) ?_
    rintro _ w4 ⟨v4, rfl, hx4, h4⟩; refine ⟨_, rfl, ?_⟩
    rw [show val o = x - y by omega] at h4
    refine hK9 _ _ ?_; clear hK9
    refine W_ret ?_
    try simp only [thenE_r, inB_r]
    refine ret1 rfl ⟨_, rfl, hx.trans hx4, by simp only [upd_ap, ↓reduceIte]; exact h4⟩
end Go.Proofs.YtjamnehcmaloeaaGreatDoor
end
section
namespace Go.E
open Go
theorem WLo_app {P : Program} {ops : Array Oper} {K : Env → World → Prop} {l2 : List Oper} : ∀ (l1 : List Oper) (e : Env) (w : World), WLo P ops K (l1 ++ l2) e w = WLo P ops (fun e w => WLo P ops K l2 e w) l1 e w
  | [], _, _ => by rw [List.nil_append, WLo_nil]
  | o :: l1, e, w => by
    rw [List.cons_append, WLo_cons, WLo_cons]
    congr 1
    funext v w'
    exact WLo_app l1 _ _
theorem WLo_cut {P : Program} {ops : Array Oper} {K : Env → World → Prop} {l : List Oper} {e : Env} {w : World} (m : Nat) (h : ∀ K' : Env → World → Prop, (∀ e w, WLo P ops K (l.drop m) e w → K' e w) → WLo P ops K' (l.take m) e w) : WLo P ops K l e w := by
  have h1 := h (fun e w => WLo P ops K (l.drop m) e w) fun _ _ h => h
  rw [← WLo_app, List.take_append_drop] at h1
  exact h1
theorem wo_callv {P : Program} {d : Option Nat} {ty : TypeId} {pos : String} {af : Array Edge} {g : Option (Nat × Bool)} {e : Env} {w : World} {K : Value → World → Prop} {f : FuncId} {x : Operand} {xs : List Operand} {ts : Array TypeId}
    (hx : ev e x = .func (.func f) #[] #[]) (h : callW P f (xs.map (ev e)) w K) : wo P ⟨d, .call ⟨.value x, xs.toArray, ts⟩, ty, pos, af, g⟩ e w K := by
  have h2 : wo P ⟨d, .call ⟨.value (.func f), xs.toArray, ts⟩, ty, pos, af, g⟩ e w K := by rw [wo_call]; exact h
  have h3 := wo_sound h2
  have key : execOp (ev e) ⟨d, .call ⟨.value x, xs.toArray, ts⟩, ty, pos, af, g⟩ = execOp (ev e) ⟨d, .call ⟨.value (.func f), xs.toArray, ts⟩, ty, pos, af, g⟩ := by
    simp only [execOp, resolve, hx]; rfl
  have h4 : WO P ⟨d, .call ⟨.value x, xs.toArray, ts⟩, ty, pos, af, g⟩ e w K := by
    unfold WO at *; rw [key]; exact h3
  cases x with
  | func f' =>
    have : f' = f := by simp [ev] at hx; exact hx
    subst this; exact h2
  | tmp t => exact h4
  | const v => exact h4
  | global g => exact h4
theorem quoN {P : Program} {t : TypeId} {a b : Nat} (hb : b ≠ 0) (ha : a < 18446744073709551616) : binV P .quo t (.int .u64 (a : Int)) (.int .u64 (b : Int)) = some (.int .u64 ((a / b : Nat) : Int)) := by
  rw [bin_quo, if_neg (by omega)]
  have : Int.tdiv (a : Int) (b : Int) = ((a / b : Nat) : Int) := rfl
  have h2 : a / b ≤ a := Nat.div_le_self a b
  rw [this]
  generalize a / b = q at *
  rw [u64_in (by omega) (by omega)]
theorem remN {P : Program} {t : TypeId} {a b : Nat} (hb : b ≠ 0) : binV P .rem t (.int .u64 (a : Int)) (.int .u64 (b : Int)) = some (.int .u64 ((a % b : Nat) : Int)) := by
  rw [bin_rem, if_neg (by omega)]; rfl
end Go.E
namespace Go.Proofs.YtjamnehcmaloeaaGreatDoor
open Go Go.E Go.Sp
theorem times_ok {D : Nat → Prop} {A A' : Option Addr} {n n' c c' : Nat} {x y : Nat} {w : World} (h : In (fU (lim x)) D (.slice A n c) w) (h' : In (fU (lim y)) D (.slice A' n' c') w) (hb : n ≤ 400000000) (hb' : n' ≤ 400000000) (hf : Fr D w) :
    Calls Tryz.prog 253 #[.slice A n c, .slice A' n' c'] w (Rt (fU (lim (x * y))) D w) := by
  have hl := h.u32.len
  have hl' := h'.u32.len
  have hp1 := @lim_length_pos x
  have hp2 := @lim_length_pos y
  refine calls_W Tryz.func253 rfl Tryz.ntmps253 (by kernel_rfl) ?_
  refine W_seq_reg fun K hK => ?_
  simp -implicitDefEqProofs (disch := omega) only [go_sem, Nat.reduceEqDiff, Nat.reduceAdd, ↓reduceIte]
  refine hK _ _ ?_; clear hK K
  refine W_seq_k fun K0 hK0 => ?_
  by_cases hz : n = 0
  · have q : ((n : Int) == 0) = true := by rw [beq0]; exact decide_eq_true hz
    refine W_seq_reg fun K hK => ?_
    simp -implicitDefEqProofs (disch := omega) only [go_sem, Nat.reduceEqDiff, Nat.reduceAdd, ↓reduceIte, q]
    refine hK _ _ ?_; clear hK K
    refine W_cond rfl (fun hc => ?_) (fun hc => by cases hc)
    refine W_seq_reg fun K hK => ?_
    simp -implicitDefEqProofs (disch := omega) only [go_sem, Nat.reduceEqDiff, Nat.reduceAdd, ↓reduceIte]
    refine hK _ _ ?_; clear hK K
    have h0 : x * y = 0 := by rw [show x = 0 by omega, Nat.zero_mul]
    rw [h0]
    refine W_ret ?_
    try simp only [thenE_r, inB_r]
    refine ret1 rfl ⟨_, rfl, Kp.refl _ _, ⟨none, 0, 0, rfl, U32.nil⟩⟩
  have q1 : ((n : Int) == 0) = false := by rw [beq0]; exact decide_eq_false hz
  by_cases hz' : n' = 0
  · have q : ((n' : Int) == 0) = true := by rw [beq0]; exact decide_eq_true hz'
    refine W_seq_reg fun K hK => ?_
    simp -implicitDefEqProofs (disch := omega) only [go_sem, Nat.reduceEqDiff, Nat.reduceAdd, ↓reduceIte, q1, q]
    refine hK _ _ ?_; clear hK K
    refine W_cond rfl (fun hc => ?_) (fun hc => by cases hc)
    refine W_seq_reg fun K hK => ?_
    simp -implicitDefEqProofs (disch := omega) only [go_sem, Nat.reduceEqDiff, Nat.reduceAdd, ↓reduceIte]
    refine hK _ _ ?_; clear hK K
    have h0 : x * y = 0 := by rw [show y = 0 by omega, Nat.mul_zero]
    rw [h0]
    refine W_ret ?_
    try simp only [thenE_r, inB_r]
    refine ret1 rfl ⟨_, rfl, Kp.refl _ _, ⟨none, 0, 0, rfl, U32.nil⟩⟩
  have q2 : ((n' : Int) == 0) = false := by rw [beq0]; exact decide_eq_false hz'
  refine W_seq_reg fun K hK => ?_
  simp -implicitDefEqProofs (disch := omega) only [go_sem, Nat.reduceEqDiff, Nat.reduceAdd, ↓reduceIte, q1, q2]
  refine hK _ _ ?_; clear hK K
  refine W_cond rfl (fun hc => by cases hc) (fun hc => W_skip (hK0 _ _ ?_))
  clear hK0
  have hsum : IntKind.i64.wrap ((n : Int) + (n' : Int)) = ((n + n' : Nat) : Int) := by rw [i64_in (by omega) (by omega)]; omega
  refine W_seq_reg fun K hK => ?_
  simp -implicitDefEqProofs (disch := omega) only [go_sem, Nat.reduceEqDiff, Nat.reduceAdd, ↓reduceIte, hsum]
  refine mkU (Nat.le_refl _) (by omega) fun w0 hx0 hO0 => ?_
  generalize hg : w.heap.size = g at hO0
  refine hK _ _ ?_; clear hK
  refine W_seq_k fun K0 hK0 => ?_
  refine W_seq_reg fun K hK => ?_
  simp -implicitDefEqProofs (disch := omega) only [go_sem, Nat.reduceEqDiff, Nat.reduceAdd, ↓reduceIte]
  refine hK _ _ ?_; clear hK K
  refine W_block ?_
  refine W_loop (fun e2 w2 => ∃ (i : Nat) (o : List Nat), e2 28 = .int .i64 i ∧ i ≤ n ∧ Ext w w2 ∧ OwnU w2 g (some ⟨g, 0, none⟩) (n + n') (n + n') o ∧ val o = val ((lim x).take i) * y ∧ ∀ q, i + n' ≤ q → o.getD q 0 = 0) (fun e2 _ => n - (RowKit.intOf (e2 28)).toNat) ⟨0, _, rfl, Nat.zero_le _, hx0, hO0, by simp [val, val_zeros], fun q _ => by simp [List.getD_eq_getElem?_getD, List.getElem?_replicate]; split <;> rfl⟩ ?_
  rintro e1 w1 ⟨i, o, k28, hin, hx, hO, hv, hzr⟩ hkk
  have k1 : e1 1 = .slice A' n' c' := (hkk 1 (by kernel_rfl)).trans (by (try simp only [upd_ap, Nat.reduceEqDiff, ↓reduceIte]); first | done | assumption | exact rfl)
  have k5 : e1 5 = .slice (some ⟨g, 0, none⟩) (n + n') (n + n') := (hkk 5 (by kernel_rfl)).trans (by (try simp only [upd_ap, Nat.reduceEqDiff, ↓reduceIte]); first | done | assumption | exact rfl)
  have k26 : e1 26 = .slice A n c := (hkk 26 (by kernel_rfl)).trans (by (try simp only [upd_ap, Nat.reduceEqDiff, ↓reduceIte]); first | done | assumption | exact rfl)
  have k27 : e1 27 = .int .i64 n := (hkk 27 (by kernel_rfl)).trans (by (try simp only [upd_ap, Nat.reduceEqDiff, ↓reduceIte]); first | done | assumption | exact rfl)
  clear hkk
  by_cases hlt : i < n
  · have hlt' : (i : Int) < n := by omega
    refine W_seq_reg fun K hK => ?_
    simp -implicitDefEqProofs (disch := omega) only [go_sem, Nat.reduceEqDiff, Nat.reduceAdd, ↓reduceIte, k28, k27, hlt']
    refine hK _ _ ?_; clear hK K
    refine W_seq_k fun K1 hK1 => ?_
    refine W_cond rfl (fun hc1 => W_skip (hK1 _ _ ?_)) (fun hc1 => by cases hc1)
    clear hK1
    refine W_seq_blk fun K hK => ?_
    have hd1 := h.u32.dg_lt i
    obtain ⟨ad, rfl, -⟩ := h.u32.cell hlt
    have e2' : (0 : Int) ≤ i ∧ (i : Int) < n := by omega
    refine W_seq_reg fun K hK => ?_
    simp -implicitDefEqProofs (disch := omega) only [go_sem, Nat.reduceEqDiff, Nat.reduceAdd, ↓reduceIte, k26, k28, e2', (h.ext hx).u32.cx hlt]
    refine hK _ _ ?_; clear hK K
    refine W_seq_reg fun K hK => ?_
    simp -implicitDefEqProofs (disch := omega) only [go_sem, Nat.reduceEqDiff, Nat.reduceAdd, ↓reduceIte]
    refine hK _ _ ?_; clear hK K
    refine W_seq_k fun K1 hK1 => ?_
    refine W_seq_reg fun K hK => ?_
    simp -implicitDefEqProofs (disch := omega) only [go_sem, Nat.reduceEqDiff, Nat.reduceAdd, ↓reduceIte, k1]
    refine hK _ _ ?_; clear hK K
    refine W_block ?_
    refine W_loop (fun e2 w2 => ∃ (j cr : Nat) (o : List Nat), e2 35 = .int .i64 j ∧ e2 8 = .int .u64 cr ∧ j ≤ n' ∧ cr < 4294967296 ∧ Ext w w2 ∧ OwnU w2 g (some ⟨g, 0, none⟩) (n + n') (n + n') o ∧ val o + B ^ (i + j) * cr = val ((lim x).take i) * y + B ^ i * (dg (lim x) i * val ((lim y).take j)) ∧ ∀ q, i + n' ≤ q → o.getD q 0 = 0) (fun e2 _ => n' - (RowKit.intOf (e2 35)).toNat) ⟨0, 0, o, rfl, (by (try simp only [upd_ap, Nat.reduceEqDiff, ↓reduceIte]); first | done | assumption | exact rfl), Nat.zero_le _, by omega, hx, hO, by simp [hv, val], hzr⟩ ?_
    clear hv hzr hO hx
    rintro e2 w2 ⟨j, cr, o, k35, k8, hjn, hcr, hx, hO, hv, hzr⟩ hkk
    have g1 : e2 1 = .slice A' n' c' := (hkk 1 (by kernel_rfl)).trans (by (try simp only [upd_ap, Nat.reduceEqDiff, ↓reduceIte]); first | done | assumption | exact rfl)
    have g5 : e2 5 = .slice (some ⟨g, 0, none⟩) (n + n') (n + n') := (hkk 5 (by kernel_rfl)).trans (by (try simp only [upd_ap, Nat.reduceEqDiff, ↓reduceIte]); first | done | assumption | exact rfl)
    have g6 : e2 6 = .int .i64 i := (hkk 6 (by kernel_rfl)).trans (by (try simp only [upd_ap, Nat.reduceEqDiff, ↓reduceIte]); first | done | assumption | exact rfl)
    have g7 : e2 7 = .int .u32 (dg (lim x) i : Nat) := (hkk 7 (by kernel_rfl)).trans (by (try simp only [upd_ap, Nat.reduceEqDiff, ↓reduceIte]); first | done | assumption | exact rfl)
    have g28 : e2 28 = .int .i64 i := (hkk 28 (by kernel_rfl)).trans (by (try simp only [upd_ap, Nat.reduceEqDiff, ↓reduceIte]); first | done | assumption | exact rfl)
    have g33 : e2 33 = .slice A' n' c' := (hkk 33 (by kernel_rfl)).trans (by (try simp only [upd_ap, Nat.reduceEqDiff, ↓reduceIte]); first | done | assumption | exact rfl)
    have g34 : e2 34 = .int .i64 n' := (hkk 34 (by kernel_rfl)).trans (by (try simp only [upd_ap, Nat.reduceEqDiff, ↓reduceIte]); first | done | assumption | exact rfl)
    clear hkk
    have hol := hO.len
    by_cases hjt : j < n'
    · have hjt' : (j : Int) < n' := by omega
      refine W_seq_reg fun K hK => ?_
      simp -implicitDefEqProofs (disch := omega) only [go_sem, Nat.reduceEqDiff, Nat.reduceAdd, ↓reduceIte, k35, g34, hjt']
      refine hK _ _ ?_; clear hK K
      refine W_seq_k fun K2 hK2 => ?_
      refine W_cond rfl (fun hc1 => W_skip (hK2 _ _ ?_)) (fun hc1 => by cases hc1)
      clear hK2
      refine W_seq_blk fun K3 hK3 => ?_
      have hd2 := h'.u32.dg_lt j
      obtain ⟨ad2, rfl, -⟩ := h'.u32.cell hjt
      obtain ⟨q, hqe⟩ : ∃ q, q = i + j := ⟨_, rfl⟩
      have hqn : q < n + n' := by omega
      have hd3 := hO.2.get q
      have hbd := mul_bound hcr hd1 hd2 hd3
      unfold B at hd3
      have hs : IntKind.i64.wrap ((i : Int) + (j : Int)) = (q : Int) := by rw [i64_in (by omega) (by omega)]; omega
      have r2 : (0 : Int) ≤ j ∧ (j : Int) < n' := by omega
      have r3 : (0 : Int) ≤ q ∧ (q : Int) < (n + n' : Nat) := by omega
      have m0 : dg (lim x) i * dg (lim y) j < 18446744073709551616 := by omega
      have m1 : dg (lim x) i * dg (lim y) j + o.getD q 0 < 18446744073709551616 := by unfold dg at *; omega
      have m2 : dg (lim x) i * dg (lim y) j + o.getD q 0 + cr < 18446744073709551616 := by unfold dg at *; omega
      have m3 : dg (lim x) i * dg (lim y) j + o.getD q 0 + cr = cr + dg (lim x) i * dg (lim y) j + o.getD q 0 := by omega
      refine W_seq_reg fun K hK => ?_
      simp -implicitDefEqProofs (disch := omega) only [go_sem, Nat.reduceEqDiff, Nat.reduceAdd, ↓reduceIte, g33, k35, r2, (h'.ext hx).u32.cx hjt]
      refine hK _ _ ?_; clear hK K
      refine W_seq_reg fun K hK => ?_
      simp -implicitDefEqProofs (disch := omega) only [go_sem, Nat.reduceEqDiff, Nat.reduceAdd, ↓reduceIte, g7, g5, g6, k8, hs, r3, hO.cx hqn, mul64N m0, add64N m1, add64N m2]
      refine hK _ _ ?_; clear hK K
      have ea := and_low (a := dg (lim x) i * dg (lim y) j + o.getD q 0 + cr) m2
      have eb : (dg (lim x) i * dg (lim y) j + o.getD q 0 + cr) % 4294967296 % 4294967296 = (dg (lim x) i * dg (lim y) j + o.getD q 0 + cr) % 4294967296 := Nat.mod_mod _ _
      refine W_seq_reg fun K hK => ?_
      simp -implicitDefEqProofs (disch := omega) only [go_sem, Nat.reduceEqDiff, Nat.reduceAdd, ↓reduceIte, g5, g6, hs, r3, ea, eb]
      refine storeU hO hqn (Nat.mod_lt _ (by omega)) fun w4 hO4 hk4 hs4 => ?_
      refine hK _ _ ?_; clear hK
      refine W_regK fun K9 hK9 => ?_
      simp -implicitDefEqProofs (disch := omega) only [go_sem, Nat.reduceEqDiff, Nat.reduceAdd, ↓reduceIte]
      refine hK9 _ _ ?_; clear hK9 K9
      refine hK3 _ _ ?_; clear hK3
      refine W_regK fun K9 hK9 => ?_
      simp -implicitDefEqProofs (disch := omega) only [go_sem, Nat.reduceEqDiff, Nat.reduceAdd, ↓reduceIte, k35, i64_in]
      refine hK9 _ _ ?_; clear hK9 K9
      have hv' : val o + B ^ q * cr = val ((lim x).take i) * y + B ^ i * (dg (lim x) i * val ((lim y).take j)) := by rw [hqe]; exact hv
      have key := mul_step (x := dg (lim x) i) (y := dg (lim y) j) (by omega : q < o.length) hv'
      rw [m3] at hO4 ⊢
      refine ⟨⟨j + 1, _, _, rfl, (by (try simp only [upd_ap, Nat.reduceEqDiff, ↓reduceIte]); first | done | assumption | exact rfl), by omega, ?_, by subst hg; exact hO.1.under hx hk4, hO4, ?_, ?_⟩, by simp only [upd_ap, ↓reduceIte, RowKit.intOf, k35]; omega⟩
      · have := hbd.1
        unfold dg at *
        omega
      · rw [← Nat.add_assoc, ← hqe, key, vts, hqe, Nat.pow_add, Nat.mul_add, Nat.mul_add]
        unfold dg
        rw [Nat.add_assoc]
        congr 2
        rw [Nat.mul_assoc, Nat.mul_left_comm (B ^ j)]
      · intro q' hq'
        rw [getD_set (by omega)]; exact hzr q' hq'
    · have hjt' : ¬ (j : Int) < n' := by omega
      refine W_seq_reg fun K hK => ?_
      simp -implicitDefEqProofs (disch := omega) only [go_sem, Nat.reduceEqDiff, Nat.reduceAdd, ↓reduceIte, k35, g34, hjt']
      refine hK _ _ ?_; clear hK K
      refine W_seq_k fun K2 hK2 => ?_
      refine W_cond rfl (fun hc => by cases hc) (fun hc => W_exit (hK1 _ _ ?_))
      clear hK1 hK2
      obtain rfl : j = n' := by omega
      have hs : IntKind.i64.wrap ((i : Int) + (j : Int)) = ((i + j : Nat) : Int) := by rw [i64_in (by omega) (by omega)]; omega
      have r3 : (0 : Int) ≤ (i + j : Nat) ∧ ((i + j : Nat) : Int) < (n + j : Nat) := by omega
      refine W_regK fun K9 hK9 => ?_
      simp -implicitDefEqProofs (disch := omega) only [go_sem, Nat.reduceEqDiff, Nat.reduceAdd, ↓reduceIte, g5, g6, g1, k8, hs, r3]
      refine storeU hO (by omega) (Nat.mod_lt _ (by omega)) fun w4 hO4 hk4 hs4 => ?_
      refine hK9 _ _ ?_; clear hK9 K9
      refine hK _ _ ?_; clear hK
      refine W_regK fun K9 hK9 => ?_
      simp -implicitDefEqProofs (disch := omega) only [go_sem, Nat.reduceEqDiff, Nat.reduceAdd, ↓reduceIte, g28, i64_in]
      refine hK9 _ _ ?_; clear hK9 K9
      refine ⟨⟨i + 1, _, rfl, by omega, by subst hg; exact hO.1.under hx hk4, hO4, ?_, ?_⟩, by simp only [upd_ap, ↓reduceIte, RowKit.intOf, k28]; omega⟩
      · have h1 := val_set (o := o) (p := i + j) (cr % 4294967296) (by omega)
        rw [hzr (i + j) (by omega), Nat.mul_zero, Nat.add_zero, Nat.mod_eq_of_lt hcr] at h1
        rw [val_take_ge (lim y) _ (by omega), val_lim] at hv
        rw [Nat.mod_eq_of_lt hcr, h1, hv, vts, Nat.add_mul, Nat.mul_assoc]
        rfl
      · intro q' hq'
        rw [getD_set (by omega)]; exact hzr q' (by omega)
  · have hlt' : ¬ (i : Int) < n := by omega
    refine W_seq_reg fun K hK => ?_
    simp -implicitDefEqProofs (disch := omega) only [go_sem, Nat.reduceEqDiff, Nat.reduceAdd, ↓reduceIte, k28, k27, hlt']
    refine hK _ _ ?_; clear hK K
    refine W_seq_k fun K1 hK1 => ?_
    refine W_cond rfl (fun hc1 => by cases hc1) (fun hc1 => W_exit ?_)
    obtain rfl : i = n := by omega
    refine hK0 _ _ ?_; clear hK0 hK1
    rw [val_take_ge _ _ (by omega), val_lim] at hv
    refine W_seq_reg fun K9 hK9 => ?_
    simp -implicitDefEqProofs (disch := omega) only [go_sem, Nat.reduceEqDiff, Nat.reduceAdd, ↓reduceIte, k5]
    refine callW_of cal245 (trimR (hO.u32 fun k hk => hf k (by omega)) (by omega)) ?_
    rintro _ w4 ⟨v4, rfl, hx4, h4⟩; refine ⟨_, rfl, ?_⟩
    rw [hv] at h4
    refine hK9 _ _ ?_; clear hK9
    refine W_ret ?_
    try simp only [thenE_r, inB_r]
    refine ret1 rfl ⟨_, rfl, hx.trans hx4, by simp only [upd_ap, ↓reduceIte]; exact h4⟩
theorem up_ok {D : Nat → Prop} {A : Option Addr} {n c m : Nat} {x : Nat} {w : World} (h : In (fU (lim x)) D (.slice A n c) w) (hb : n ≤ 400000000) (hm : m ≤ 1000000000) (hf : Fr D w) :
    Calls Tryz.prog 264 #[.slice A n c, .int .i64 m] w (Rt (fU (lim (x * 2 ^ m))) D w) := by
  have hl := h.u32.len
  have hp1 := @lim_length_pos x
  refine calls_W Tryz.func264 rfl Tryz.ntmps264 (by kernel_rfl) ?_
  refine W_seq_reg fun K hK => ?_
  simp -implicitDefEqProofs (disch := omega) only [go_sem, Nat.reduceEqDiff, Nat.reduceAdd, ↓reduceIte]
  refine hK _ _ ?_; clear hK K
  refine W_seq_k fun K0 hK0 => ?_
  by_cases hz : n = 0
  · have q : ((n : Int) == 0) = true := by rw [beq0]; exact decide_eq_true hz
    refine W_seq_reg fun K hK => ?_
    simp -implicitDefEqProofs (disch := omega) only [go_sem, Nat.reduceEqDiff, Nat.reduceAdd, ↓reduceIte, q]
    refine hK _ _ ?_; clear hK K
    refine W_cond rfl (fun hc => ?_) (fun hc => by cases hc)
    refine W_seq_reg fun K hK => ?_
    simp -implicitDefEqProofs (disch := omega) only [go_sem, Nat.reduceEqDiff, Nat.reduceAdd, ↓reduceIte]
    refine hK _ _ ?_; clear hK K
    have h0 : x * 2 ^ m = 0 := by rw [show x = 0 by omega, Nat.zero_mul]
    rw [h0]
    refine W_ret ?_
    try simp only [thenE_r, inB_r]
    refine ret1 rfl ⟨_, rfl, Kp.refl _ _, ⟨none, 0, 0, rfl, U32.nil⟩⟩
  have q1 : ((n : Int) == 0) = false := by rw [beq0]; exact decide_eq_false hz
  refine W_seq_reg fun K hK => ?_
  simp -implicitDefEqProofs (disch := omega) only [go_sem, Nat.reduceEqDiff, Nat.reduceAdd, ↓reduceIte, q1]
  refine hK _ _ ?_; clear hK K
  refine W_cond rfl (fun hc => by cases hc) (fun hc => W_skip (hK0 _ _ ?_))
  clear hK0
  have hk : m % 32 < 32 := Nat.mod_lt _ (by omega)
  have hmm : 32 * (m / 32) + m % 32 = m := Nat.div_add_mod m 32
  obtain ⟨wh, hwh⟩ : ∃ wh, wh = m / 32 := ⟨_, rfl⟩
  obtain ⟨pt, hpt⟩ : ∃ pt, pt = m % 32 := ⟨_, rfl⟩
  rw [← hwh, ← hpt] at hmm
  rw [← hpt] at hk
  have hp : 2 ^ pt ≤ 2147483648 := Nat.pow_le_pow_right (n := 2) (by omega) (show pt ≤ 31 by omega)
  have hp0 := two_pos pt
  have ew := hwh.symm
  have ep := hpt.symm
  have eu : IntKind.u64.wrap (pt : Int) = pt := u64_in (by omega) (by omega)
  refine W_seq_reg fun K hK => ?_
  simp -implicitDefEqProofs (disch := omega) only [go_sem, Nat.reduceEqDiff, Nat.reduceAdd, ↓reduceIte, ew, ep, eu]
  refine hK _ _ ?_; clear hK K
  have hs1 : IntKind.i64.wrap ((wh : Int) + (n : Int)) = ((wh + n : Nat) : Int) := by rw [i64_in (by omega) (by omega)]; omega
  have hs2 : IntKind.i64.wrap (((wh + n : Nat) : Int) + 1) = ((wh + n + 1 : Nat) : Int) := by rw [i64_in (by omega) (by omega)]; omega
  refine W_seq_reg fun K hK => ?_
  simp -implicitDefEqProofs (disch := omega) only [go_sem, Nat.reduceEqDiff, Nat.reduceAdd, ↓reduceIte, hs1, hs2]
  refine mkU (Nat.le_refl _) (by omega) fun w0 hx0 hO0 => ?_
  generalize hg : w.heap.size = g at hO0
  refine hK _ _ ?_; clear hK
  refine W_seq_k fun K0 hK0 => ?_
  refine W_seq_reg fun K hK => ?_
  simp -implicitDefEqProofs (disch := omega) only [go_sem, Nat.reduceEqDiff, Nat.reduceAdd, ↓reduceIte]
  refine hK _ _ ?_; clear hK K
  refine W_block ?_
  refine W_loop (fun e2 w2 => ∃ (i : Nat) (o : List Nat), e2 27 = .int .i64 i ∧ i ≤ n ∧ Ext w w2 ∧ OwnU w2 g (some ⟨g, 0, none⟩) (wh + n + 1) (wh + n + 1) o ∧ val o = B ^ wh * (2 ^ pt * val ((lim x).take i)) ∧ o.getD (wh + i) 0 < 2 ^ pt ∧ ∀ q, wh + i < q → o.getD q 0 = 0) (fun e2 _ => n - (RowKit.intOf (e2 27)).toNat) ⟨0, _, rfl, Nat.zero_le _, hx0, hO0, by simp [val, val_zeros], by rw [List.getD_eq_getElem?_getD, List.getElem?_replicate]; split <;> exact hp0, fun q _ => by rw [List.getD_eq_getElem?_getD, List.getElem?_replicate]; split <;> rfl⟩ ?_
  rintro e1 w1 ⟨i, o, k27, hin, hx, hO, hv, hlo, hzr⟩ hkk
  have k5 : e1 5 = .int .i64 wh := (hkk 5 (by kernel_rfl)).trans (by (try simp only [upd_ap, Nat.reduceEqDiff, ↓reduceIte]); first | done | assumption | exact rfl)
  have k6 : e1 6 = .int .u64 pt := (hkk 6 (by kernel_rfl)).trans (by (try simp only [upd_ap, Nat.reduceEqDiff, ↓reduceIte]); first | done | assumption | exact rfl)
  have k7 : e1 7 = .slice (some ⟨g, 0, none⟩) (wh + n + 1) (wh + n + 1) := (hkk 7 (by kernel_rfl)).trans (by (try simp only [upd_ap, Nat.reduceEqDiff, ↓reduceIte]); first | done | assumption | exact rfl)
  have k25 : e1 25 = .slice A n c := (hkk 25 (by kernel_rfl)).trans (by (try simp only [upd_ap, Nat.reduceEqDiff, ↓reduceIte]); first | done | assumption | exact rfl)
  have k26 : e1 26 = .int .i64 n := (hkk 26 (by kernel_rfl)).trans (by (try simp only [upd_ap, Nat.reduceEqDiff, ↓reduceIte]); first | done | assumption | exact rfl)
  clear hkk
  have hol := hO.len
  by_cases hlt : i < n
  · have hlt' : (i : Int) < n := by omega
    refine W_seq_reg fun K hK => ?_
    simp -implicitDefEqProofs (disch := omega) only [go_sem, Nat.reduceEqDiff, Nat.reduceAdd, ↓reduceIte, k27, k26, hlt']
    refine hK _ _ ?_; clear hK K
    refine W_seq_k fun K1 hK1 => ?_
    refine W_cond rfl (fun hc1 => W_skip (hK1 _ _ ?_)) (fun hc1 => by cases hc1)
    clear hK1
    refine W_seq_blk fun K hK => ?_
    have hd1 := h.u32.dg_lt i
    obtain ⟨d, hde⟩ : ∃ d, d = dg (lim x) i := ⟨_, rfl⟩
    obtain ⟨ad, rfl, -⟩ := h.u32.cell hlt
    have hcx := (h.ext hx).u32.cx hlt
    rw [← hde] at hd1 hcx
    have e2' : (0 : Int) ≤ i ∧ (i : Int) < n := by omega
    have hpr : d * 2 ^ pt ≤ 4294967295 * 2 ^ pt := Nat.mul_le_mul_right _ (by omega)
    have ht64 : d * 2 ^ pt < 18446744073709551616 := by omega
    have e3 : d * 2 ^ pt % 18446744073709551616 = d * 2 ^ pt := Nat.mod_eq_of_lt ht64
    refine W_seq_reg fun K hK => ?_
    simp -implicitDefEqProofs (disch := omega) only [go_sem, Nat.reduceEqDiff, Nat.reduceAdd, ↓reduceIte, k25, k27, e2', hcx]
    refine hK _ _ ?_; clear hK K
    refine W_seq_reg fun K hK => ?_
    simp -implicitDefEqProofs (disch := omega) only [go_sem, Nat.reduceEqDiff, Nat.reduceAdd, ↓reduceIte, k6, e3]
    refine hK _ _ ?_; clear hK K
    obtain ⟨p, hpe⟩ : ∃ p, p = wh + i := ⟨_, rfl⟩
    rw [← hpe] at hlo hzr
    have hs : IntKind.i64.wrap ((wh : Int) + (i : Int)) = (p : Int) := by rw [i64_in (by omega) (by omega)]; omega
    have hs' : IntKind.i64.wrap ((p : Int) + 1) = ((p + 1 : Nat) : Int) := by rw [i64_in (by omega) (by omega)]; omega
    have hpn : p < wh + n + 1 := by omega
    have r3 : (0 : Int) ≤ p ∧ (p : Int) < (wh + n + 1 : Nat) := by omega
    have r4 : (0 : Int) ≤ (p + 1 : Nat) ∧ ((p + 1 : Nat) : Int) < (wh + n + 1 : Nat) := by omega
    obtain ⟨t, hte⟩ : ∃ t, t = d * 2 ^ pt := ⟨_, rfl⟩
    rw [← hte] at ht64 e3 hpr ⊢
    have ea := and_low (a := t) ht64
    have eb : t % 4294967296 % 4294967296 = t % 4294967296 := Nat.mod_mod _ _
    have hlow : o.getD p 0 + t % 4294967296 < 4294967296 ∧ o.getD p 0 ||| t % 4294967296 = o.getD p 0 + t % 4294967296 := by
      have hmul : t % 4294967296 = 2 ^ pt * (d % 2 ^ (32 - pt)) := by
        have e : 4294967296 = 2 ^ pt * 2 ^ (32 - pt) := by rw [← Nat.pow_add, show pt + (32 - pt) = 32 by omega]
        rw [hte, Nat.mul_comm d, e, Nat.mul_mod_mul_left]
      have hlt := Nat.mod_lt d (two_pos (32 - pt))
      have e : 2 ^ pt * 2 ^ (32 - pt) = 4294967296 := by rw [← Nat.pow_add, show pt + (32 - pt) = 32 by omega]
      have h2 : 2 ^ pt * (d % 2 ^ (32 - pt)) + 2 ^ pt ≤ 4294967296 := by rw [← Nat.mul_succ, ← e]; exact Nat.mul_le_mul_left _ hlt
      refine ⟨by omega, ?_⟩
      rw [hmul, Nat.mul_comm]
      exact or_add hlo
    have hod : o.getD p 0 < 4294967296 := by omega
    refine W_seq_reg fun K9 hK9 => ?_
    simp -implicitDefEqProofs (disch := omega) only [go_sem, Nat.reduceEqDiff, Nat.reduceAdd, ↓reduceIte, k7, k5, k27, hs, r3, hO.cx hpn, ea, eb, hlow.2]
    refine storeU hO hpn hlow.1 fun w3 hO3 hk3 hs3 => ?_
    refine hK9 _ _ ?_; clear hK9
    have hx3 : Ext w w3 := by subst hg; exact hO.1.under hx hk3
    have hq1 : t / 4294967296 < 4294967296 := by omega
    have hq2 : t / 4294967296 % 4294967296 = t / 4294967296 := Nat.mod_eq_of_lt hq1
    refine W_regK fun K9 hK9 => ?_
    simp -implicitDefEqProofs (disch := omega) only [go_sem, Nat.reduceEqDiff, Nat.reduceAdd, ↓reduceIte, k7, k5, hs, hs', r4, hq2]
    refine storeU hO3 (by omega) hq1 fun w4 hO4 hk4 hs4 => ?_
    refine hK9 _ _ ?_; clear hK9
    refine hK _ _ ?_; clear hK
    refine W_regK fun K9 hK9 => ?_
    simp -implicitDefEqProofs (disch := omega) only [go_sem, Nat.reduceEqDiff, Nat.reduceAdd, ↓reduceIte, k27, i64_in]
    refine hK9 _ _ ?_; clear hK9 K9
    have hol3 := hO3.len
    refine ⟨⟨i + 1, _, rfl, by omega, by subst hg; exact hO3.1.under hx3 hk4, hO4, ?_, ?_, ?_⟩, by simp only [upd_ap, ↓reduceIte, RowKit.intOf, k27]; omega⟩
    · have v1 := val_set (o := o) (p := p) (o.getD p 0 + t % 4294967296) (by omega)
      have v2 := val_set (o := o.set p (o.getD p 0 + t % 4294967296)) (p := p + 1) (t / 4294967296) (by omega)
      rw [getD_set (by omega), hzr (p + 1) (by omega), Nat.mul_zero, Nat.add_zero] at v2
      have hde' : (lim x).getD i 0 = d := hde.symm
      rw [v2, vts, hde']
      have hB : B ^ (p + 1) * (t / 4294967296) = B ^ p * (4294967296 * (t / 4294967296)) := by rw [Nat.pow_succ, Nat.mul_assoc]; rfl
      have hB2 : B ^ p * (t % 4294967296) + B ^ p * (4294967296 * (t / 4294967296)) = B ^ p * t := by rw [← Nat.mul_add, Nat.mod_add_div]
      have hB3 : B ^ p * t = B ^ wh * (2 ^ pt * (B ^ i * d)) := by
        rw [hpe, hte, Nat.pow_add, Nat.mul_assoc]
        congr 1
        rw [Nat.mul_comm d, Nat.mul_left_comm]
      rw [Nat.mul_add (B ^ p)] at v1
      rw [Nat.mul_add, Nat.mul_add, ← hv, ← hB3, ← hB2, hB]
      omega
    · rw [show wh + (i + 1) = p + 1 by omega, List.getD_eq_getElem?_getD, List.getElem?_set_self (by omega)]
      show t / 4294967296 < 2 ^ pt
      rw [Nat.div_lt_iff_lt_mul (by omega)]
      have : 4294967295 * 2 ^ pt < 2 ^ pt * 4294967296 := by rw [Nat.mul_comm]; exact Nat.mul_lt_mul_of_pos_left (by omega) hp0
      omega
    · intro q hq
      rw [getD_set (by omega), getD_set (by omega)]; exact hzr q (by omega)
  · have hlt' : ¬ (i : Int) < n := by omega
    refine W_seq_reg fun K hK => ?_
    simp -implicitDefEqProofs (disch := omega) only [go_sem, Nat.reduceEqDiff, Nat.reduceAdd, ↓reduceIte, k27, k26, hlt']
    refine hK _ _ ?_; clear hK K
    refine W_seq_k fun K1 hK1 => ?_
    refine W_cond rfl (fun hc1 => by cases hc1) (fun hc1 => W_exit ?_)
    obtain rfl : i = n := by omega
    refine hK0 _ _ ?_; clear hK0 hK1
    rw [val_take_ge _ _ (by omega), val_lim] at hv
    have hval : val o = x * 2 ^ m := by
      rw [hv, B_eq, ← Nat.pow_mul, ← Nat.mul_assoc, ← Nat.pow_add, hmm, Nat.mul_comm]
    refine W_seq_reg fun K9 hK9 => ?_
    simp -implicitDefEqProofs (disch := omega) only [go_sem, Nat.reduceEqDiff, Nat.reduceAdd, ↓reduceIte, k7]
    refine callW_of cal245 (trimR (hO.u32 fun k hk => hf k (by omega)) (by omega)) ?_
    rintro _ w4 ⟨v4, rfl, hx4, h4⟩; refine ⟨_, rfl, ?_⟩
    rw [hval] at h4
    refine hK9 _ _ ?_; clear hK9
    refine W_ret ?_
    try simp only [thenE_r, inB_r]
    refine ret1 rfl ⟨_, rfl, hx.trans hx4, by simp only [upd_ap, ↓reduceIte]; exact h4⟩
end Go.Proofs.YtjamnehcmaloeaaGreatDoor
end
section
namespace Go.Proofs.YtjamnehcmaloeaaGreatDoor
open Go Go.E Go.Sp
theorem downf_ok {x : Nat} {w : World} : Calls Tryz.prog 271 #[.int .u32 (x : Int)] w fun e w' => e = .returned (.bool (decide (x ≠ 0))) ∧ w = w' := by
  refine calls_W Tryz.func271 rfl Tryz.ntmps271 (by kernel_rfl) ?_
  refine W_seq_reg fun K hK => ?_
  simp -implicitDefEqProofs (disch := omega) only [go_sem, Nat.reduceEqDiff, Nat.reduceAdd, ↓reduceIte]
  refine hK _ _ ?_; clear hK K
  have q : ((x : Int) != 0) = decide (x ≠ 0) := bne0
  refine W_seq_reg fun K hK => ?_
  simp -implicitDefEqProofs (disch := omega) only [go_sem, Nat.reduceEqDiff, Nat.reduceAdd, ↓reduceIte, q]
  refine hK _ _ ?_; clear hK K
  refine W_ret ?_
  try simp only [thenE_r, inB_r]
  refine ret1 rfl ⟨rfl, rfl⟩
theorem idxf_ok {D : Nat → Prop} {A : Option Addr} {n c : Nat} {l : List Nat} {w : World} (h : In (fU l) D (.slice A n c) w) (hb : n ≤ 1000000000) :
    Calls Tryz.prog 274 #[.slice A n c, .func (.func 271) #[] #[]] w fun e w' => ∃ r : Int, e = .returned (.int .i64 r) ∧ w = w' ∧ (r ≥ 0 ↔ val l ≠ 0) := by
  have hl := h.u32.len
  refine calls_W Tryz.func274 rfl Tryz.ntmps274 (by kernel_rfl) ?_
  refine W_seq_reg fun K hK => ?_
  simp -implicitDefEqProofs (disch := omega) only [go_sem, Nat.reduceEqDiff, Nat.reduceAdd, ↓reduceIte]
  refine hK _ _ ?_; clear hK K
  refine W_seq_k fun K0 hK0 => ?_
  refine W_seq_reg fun K hK => ?_
  simp -implicitDefEqProofs (disch := omega) only [go_sem, Nat.reduceEqDiff, Nat.reduceAdd, ↓reduceIte]
  refine hK _ _ ?_; clear hK K
  refine W_block ?_
  refine W_loop (fun e2 w2 => w2 = w ∧ ∃ k : Nat, e2 8 = .int .i64 k ∧ k ≤ n ∧ val (l.take k) = 0) (fun e2 _ => n - (RowKit.intOf (e2 8)).toNat) ⟨rfl, 0, rfl, Nat.zero_le _, by simp [val]⟩ ?_
  rintro e1 w1 ⟨rfl, k, k8, hk, hv⟩ hkk
  have k0 : e1 0 = .slice A n c := (hkk 0 (by kernel_rfl)).trans (by (try simp only [upd_ap, Nat.reduceEqDiff, ↓reduceIte]); first | done | assumption | exact rfl)
  have k1 : e1 1 = .func (.func 271) #[] #[] := (hkk 1 (by kernel_rfl)).trans (by (try simp only [upd_ap, Nat.reduceEqDiff, ↓reduceIte]); first | done | assumption | exact rfl)
  have k7 : e1 7 = .int .i64 n := (hkk 7 (by kernel_rfl)).trans (by (try simp only [upd_ap, Nat.reduceEqDiff, ↓reduceIte]); first | done | assumption | exact rfl)
  clear hkk
  by_cases hlt : k < n
  · have hlt' : (k : Int) < n := by omega
    refine W_seq_reg fun K hK => ?_
    simp -implicitDefEqProofs (disch := omega) only [go_sem, Nat.reduceEqDiff, Nat.reduceAdd, ↓reduceIte, k8, k7, hlt']
    refine hK _ _ ?_; clear hK K
    refine W_seq_k fun K1 hK1 => ?_
    refine W_cond rfl (fun hc1 => W_skip (hK1 _ _ ?_)) (fun hc1 => by cases hc1)
    clear hK1
    refine W_seq_blk fun K hK => ?_
    obtain ⟨ad, rfl, -⟩ := h.u32.cell hlt
    have e2' : (0 : Int) ≤ k ∧ (k : Int) < n := by omega
    refine W_seq_reg fun K hK => ?_
    simp -implicitDefEqProofs (disch := omega) only [go_sem, Nat.reduceEqDiff, Nat.reduceAdd, ↓reduceIte, k8]
    refine hK _ _ ?_; clear hK K
    refine W_seq_reg fun K9 hK9 => ?_
    simp -implicitDefEqProofs (disch := omega) only [go_sem, Nat.reduceEqDiff, Nat.reduceAdd, ↓reduceIte, k0, k1, e2', h.u32.cx hlt]
    set_option maxRecDepth 20000 in
    refine wo_callv (f := 271) (by simp only [ev_tmp, upd_ap, Nat.reduceEqDiff, ↓reduceIte]; try assumption) ?_
    simp -implicitDefEqProofs (disch := omega) only [go_sem, Nat.reduceEqDiff, Nat.reduceAdd, ↓reduceIte]
    refine callW_of cal271 (downf_ok) ?_
    rintro _ _ ⟨rfl, rfl⟩; refine ⟨_, rfl, ?_⟩
    refine hK9 _ _ ?_; clear hK9
    by_cases hz : dg l k = 0
    · have q : decide (dg l k ≠ 0) = false := by simp [hz]
      refine W_cond rfl (fun hc => by rw [q] at hc; cases hc) (fun hc => W_skip (hK _ _ ?_))
      clear hK
      refine W_regK fun K9 hK9 => ?_
      simp -implicitDefEqProofs (disch := omega) only [go_sem, Nat.reduceEqDiff, Nat.reduceAdd, ↓reduceIte, k8, i64_in]
      refine hK9 _ _ ?_; clear hK9 K9
      exact ⟨⟨rfl, k + 1, rfl, by omega, val_zero_iff.2 ⟨hv, hz⟩⟩, by simp only [upd_ap, ↓reduceIte, RowKit.intOf, k8]; omega⟩
    · have q : decide (dg l k ≠ 0) = true := by simp [hz]
      refine W_cond rfl (fun hc => ?_) (fun hc => by rw [q] at hc; cases hc)
      refine W_seq_reg fun K hK => ?_
      simp -implicitDefEqProofs (disch := omega) only [go_sem, Nat.reduceEqDiff, Nat.reduceAdd, ↓reduceIte]
      refine hK _ _ ?_; clear hK K
      refine W_ret ?_
      try simp only [thenE_r, inB_r]
      refine ret1 rfl ⟨k, by simp only [upd_ap, Nat.reduceEqDiff, ↓reduceIte], rfl, ?_⟩
      refine ⟨fun _ h0 => ?_, fun _ => by omega⟩
      have h1 := val_split l (k + 1) (by omega)
      have h2 : val (l.take (k + 1)) = 0 := by rw [h0] at h1; omega
      exact hz (val_zero_iff.1 h2).2
  · have hlt' : ¬ (k : Int) < n := by omega
    refine W_seq_reg fun K hK => ?_
    simp -implicitDefEqProofs (disch := omega) only [go_sem, Nat.reduceEqDiff, Nat.reduceAdd, ↓reduceIte, k8, k7, hlt']
    refine hK _ _ ?_; clear hK K
    refine W_seq_k fun K1 hK1 => ?_
    refine W_cond rfl (fun hc1 => by cases hc1) (fun hc1 => W_exit (hK0 _ _ ?_))
    rw [List.take_of_length_le (by omega)] at hv
    refine W_seq_reg fun K hK => ?_
    simp -implicitDefEqProofs (disch := omega) only [go_sem, Nat.reduceEqDiff, Nat.reduceAdd, ↓reduceIte]
    refine hK _ _ ?_; clear hK K
    exact W_ret (ret1 rfl ⟨-1, by simp only [upd_ap, Nat.reduceEqDiff, ↓reduceIte], rfl, ⟨fun h => by omega, fun h => absurd hv h⟩⟩)
theorem cont_ok {D : Nat → Prop} {A : Option Addr} {n c : Nat} {l : List Nat} {w : World} (h : In (fU l) D (.slice A n c) w) (hb : n ≤ 1000000000) :
    Calls Tryz.prog 270 #[.slice A n c, .func (.func 271) #[] #[]] w fun e w' => e = .returned (.bool (decide (val l ≠ 0))) ∧ w = w' := by
  refine calls_W Tryz.func270 rfl Tryz.ntmps270 (by kernel_rfl) ?_
  refine W_seq_reg fun K hK => ?_
  simp -implicitDefEqProofs (disch := omega) only [go_sem, Nat.reduceEqDiff, Nat.reduceAdd, ↓reduceIte]
  refine hK _ _ ?_; clear hK K
  refine W_seq_reg fun K hK => ?_
  simp -implicitDefEqProofs (disch := omega) only [go_sem, Nat.reduceEqDiff, Nat.reduceAdd, ↓reduceIte]
  refine callW_of cal274 (idxf_ok h hb) ?_
  rintro _ _ ⟨r, rfl, rfl, hr⟩; refine ⟨_, rfl, ?_⟩
  have q : decide (r ≥ 0) = decide (val l ≠ 0) := by rw [decide_eq_decide]; exact hr
  simp -implicitDefEqProofs (disch := omega) only [go_sem, Nat.reduceEqDiff, Nat.reduceAdd, ↓reduceIte]
  refine hK _ _ ?_; clear hK
  refine W_ret (ret1 rfl ⟨?_, rfl⟩)
  simp only [upd_ap, Nat.reduceEqDiff, ↓reduceIte]
  exact congrArg (fun b => Ending.returned (.bool b)) q
theorem down_ok {D : Nat → Prop} {A : Option Addr} {n c m : Nat} {x : Nat} {w : World} (h : In (fU (lim x)) D (.slice A n c) w) (hb : n ≤ 400000000) (hm : m ≤ 1000000000) (hf : Fr D w) :
    Calls Tryz.prog 266 #[.slice A n c, .int .i64 m] w (Rt (fP (fU (lim (x / 2 ^ m))) (fc (.bool (decide (x % 2 ^ m ≠ 0))))) D w) := by
  have hl := h.u32.len
  have hp1 := @lim_length_pos x
  refine calls_W Tryz.func266 rfl Tryz.ntmps266 (by kernel_rfl) ?_
  refine W_seq_reg fun K hK => ?_
  simp -implicitDefEqProofs (disch := omega) only [go_sem, Nat.reduceEqDiff, Nat.reduceAdd, ↓reduceIte]
  refine hK _ _ ?_; clear hK K
  have hk : m % 32 < 32 := Nat.mod_lt _ (by omega)
  have hmm : 32 * (m / 32) + m % 32 = m := Nat.div_add_mod m 32
  obtain ⟨wh, hwh⟩ : ∃ wh, wh = m / 32 := ⟨_, rfl⟩
  obtain ⟨pt, hpt⟩ : ∃ pt, pt = m % 32 := ⟨_, rfl⟩
  rw [← hwh, ← hpt] at hmm
  rw [← hpt] at hk
  have hp : 2 ^ pt ≤ 2147483648 := Nat.pow_le_pow_right (n := 2) (by omega) (show pt ≤ 31 by omega)
  have hp0 := two_pos pt
  have ew := hwh.symm
  have ep := hpt.symm
  have eu : IntKind.u64.wrap (pt : Int) = pt := u64_in (by omega) (by omega)
  refine W_seq_reg fun K hK => ?_
  simp -implicitDefEqProofs (disch := omega) only [go_sem, Nat.reduceEqDiff, Nat.reduceAdd, ↓reduceIte, ew, ep, eu]
  refine hK _ _ ?_; clear hK K
  refine W_seq_k fun K0 hK0 => ?_
  by_cases hge : n ≤ wh
  · have q : ((wh : Int) ≥ n) := by omega
    refine W_seq_reg fun K hK => ?_
    simp -implicitDefEqProofs (disch := omega) only [go_sem, Nat.reduceEqDiff, Nat.reduceAdd, ↓reduceIte, q]
    refine hK _ _ ?_; clear hK K
    refine W_cond rfl (fun hc => ?_) (fun hc => by cases hc)
    refine W_seq_reg fun K hK => ?_
    simp -implicitDefEqProofs (disch := omega) only [go_sem, Nat.reduceEqDiff, Nat.reduceAdd, ↓reduceIte]
    refine hK _ _ ?_; clear hK K
    have hxl : x < 2 ^ m := by
      have h1 := lt_pow_len x
      rw [hl, B_eq, ← Nat.pow_mul] at h1
      exact Nat.lt_of_lt_of_le h1 (Nat.pow_le_pow_right (by omega) (by omega))
    rw [Nat.div_eq_of_lt hxl, Nat.mod_eq_of_lt hxl]
    refine W_ret (ret2 rfl ⟨_, rfl, Kp.refl _ _, ⟨_, _, rfl, ⟨none, 0, 0, rfl, U32.nil⟩, ?_⟩⟩)
    simp only [upd_ap, Nat.reduceEqDiff, ↓reduceIte]
    exact congrArg Value.bool (by rw [decide_eq_decide]; omega)
  · have q : ¬ ((wh : Int) ≥ n) := by omega
    refine W_seq_reg fun K hK => ?_
    simp -implicitDefEqProofs (disch := omega) only [go_sem, Nat.reduceEqDiff, Nat.reduceAdd, ↓reduceIte, q]
    refine hK _ _ ?_; clear hK K
    refine W_cond rfl (fun hc => by cases hc) (fun hc => W_skip (hK0 _ _ ?_))
    clear hK0
    have hwn : wh < n := by omega
    have hfst : In (fU ((lim x).take wh)) D (.slice A wh c) w := (h.u32.take (by omega)).in
    have r1 : (0 : Int) ≤ wh ∧ (wh : Int) ≤ c := by have := h.u32.cap; omega
    have r2 : (0 : Int) ≤ wh ∧ (wh : Int) < n := by omega
    have hdw := h.u32.dg_lt wh
    have hlost := lost_iff (lim_all x) wh pt (by omega)
    rw [hmm, val_lim] at hlost
    obtain ⟨ad, rfl, -⟩ := h.u32.cell hwn
    have hs1 : IntKind.u32.wrap (((2 ^ pt : Nat) : Int) - 1) = ((2 ^ pt - 1 : Nat) : Int) := sub32_1 hp0 (by omega)
    have ha1 : bitsV .and .u32 ((dg (lim x) wh : Nat) : Int) ((2 ^ pt - 1 : Nat) : Int) = ((dg (lim x) wh % 2 ^ pt : Nat) : Int) := by
      rw [and32N hdw (by omega), Nat.and_two_pow_sub_one_eq_mod]
    have main : ∀ e1 : Env, e1 0 = .slice (some ad) n c → e1 6 = .int .i64 wh → e1 7 = .int .u64 pt → e1 8 = .bool (decide (x % 2 ^ m ≠ 0)) → W Tryz.prog 86 (match Tryz.f266.body with | some (.seq _ (.seq _ (.seq _ (.seq _ c)))) => c | _ => .skip) (retP Tryz.prog Tryz.f266 (Rt (fP (fU (lim (x / 2 ^ m))) (fc (.bool (decide (x % 2 ^ m ≠ 0))))) D w)) e1 w := by
      intro e1 k0 k6 k7 k8
      have hs2 : IntKind.i64.wrap ((n : Int) - (wh : Int)) = ((n - wh : Nat) : Int) := by rw [i64_in (by omega) (by omega)]; omega
      refine W_seq_reg fun K hK => ?_
      simp -implicitDefEqProofs (disch := omega) only [go_sem, Nat.reduceEqDiff, Nat.reduceAdd, ↓reduceIte, k0, k6, hs2]
      refine mkU (Nat.le_refl _) (by omega) fun w0 hx0 hO0 => ?_
      generalize hg : w.heap.size = g at hO0
      refine hK _ _ ?_; clear hK
      refine W_seq_k fun K0 hK0 => ?_
      refine W_seq_reg fun K hK => ?_
      simp -implicitDefEqProofs (disch := omega) only [go_sem, Nat.reduceEqDiff, Nat.reduceAdd, ↓reduceIte]
      refine hK _ _ ?_; clear hK K
      refine W_block ?_
      refine W_loop (fun e2 w2 => ∃ (j : Nat) (o : List Nat), e2 46 = .int .i64 j ∧ j ≤ n - wh ∧ Ext w w2 ∧ OwnU w2 g (some ⟨g, 0, none⟩) (n - wh) (n - wh) o ∧ val (o.take j) + B ^ j * (val ((lim x).drop (wh + j)) / 2 ^ pt) = val ((lim x).drop wh) / 2 ^ pt) (fun e2 _ => n - (RowKit.intOf (e2 46)).toNat) ⟨0, _, rfl, Nat.zero_le _, hx0, hO0, by simp [val]⟩ ?_
      rintro e2 w1 ⟨j, o, k46, hj, hx, hO, hv⟩ hkk
      have g0 : e2 0 = .slice (some ad) n c := by have := hkk 0 (by kernel_rfl); simp only [upd_ap, Nat.reduceEqDiff, ↓reduceIte, k0] at this; exact this
      have g6 : e2 6 = .int .i64 wh := by have := hkk 6 (by kernel_rfl); simp only [upd_ap, Nat.reduceEqDiff, ↓reduceIte, k6] at this; exact this
      have g7 : e2 7 = .int .u64 pt := by have := hkk 7 (by kernel_rfl); simp only [upd_ap, Nat.reduceEqDiff, ↓reduceIte, k7] at this; exact this
      have g8 : e2 8 = .bool (decide (x % 2 ^ m ≠ 0)) := by have := hkk 8 (by kernel_rfl); simp only [upd_ap, Nat.reduceEqDiff, ↓reduceIte, k8] at this; exact this
      have g9 : e2 9 = .slice (some ⟨g, 0, none⟩) (n - wh) (n - wh) := by have := hkk 9 (by kernel_rfl); simp only [upd_ap, Nat.reduceEqDiff, ↓reduceIte] at this; exact this
      have g45 : e2 45 = .int .i64 ((n - wh : Nat) : Int) := by have := hkk 45 (by kernel_rfl); simp only [upd_ap, Nat.reduceEqDiff, ↓reduceIte] at this; exact this
      clear hkk
      have hol := hO.len
      by_cases hlt : j < n - wh
      · have hlt' : (j : Int) < (n - wh : Nat) := by omega
        refine W_seq_reg fun K hK => ?_
        simp -implicitDefEqProofs (disch := omega) only [go_sem, Nat.reduceEqDiff, Nat.reduceAdd, ↓reduceIte, k46, g45, hlt']
        refine hK _ _ ?_; clear hK K
        refine W_seq_k fun K1 hK1 => ?_
        refine W_cond rfl (fun hc1 => W_skip (hK1 _ _ ?_)) (fun hc1 => by cases hc1)
        clear hK1
        refine W_seq_blk fun K hK => ?_
        obtain ⟨p, hpe⟩ : ∃ p, p = wh + j := ⟨_, rfl⟩
        have hs : IntKind.i64.wrap ((wh : Int) + (j : Int)) = (p : Int) := by rw [i64_in (by omega) (by omega)]; omega
        obtain ⟨p1, hp1e⟩ : ∃ p1, p1 = p + 1 := ⟨_, rfl⟩
        have hs' : IntKind.i64.wrap ((p : Int) + 1) = (p1 : Int) := by rw [i64_in (by omega) (by omega)]; omega
        have r3 : (0 : Int) ≤ p ∧ (p : Int) < n := by omega
        have r5 : (0 : Int) ≤ j ∧ (j : Int) < (n - wh : Nat) := by omega
        have hpn : p < n := by omega
        have hd1 := h.u32.dg_lt p
        have hd2 := h.u32.dg_lt p1
        refine W_seq_reg fun K hK => ?_
        simp -implicitDefEqProofs (disch := omega) only [go_sem, Nat.reduceEqDiff, Nat.reduceAdd, ↓reduceIte, k46]
        refine hK _ _ ?_; clear hK K
        refine W_seq_reg fun K hK => ?_
        simp -implicitDefEqProofs (disch := omega) only [go_sem, Nat.reduceEqDiff, Nat.reduceAdd, ↓reduceIte, g0, g6, hs, r3, (h.ext hx).u32.cx hpn]
        refine hK _ _ ?_; clear hK K
        refine W_seq_k fun K1 hK1 => ?_
        have st : ∀ e3 : Env, e3 46 = .int .i64 j → e3 10 = .int .i64 j → e3 11 = .int .u64 ((dg (lim x) p + dg (lim x) p1 * 4294967296 : Nat) : Int) → e3 7 = .int .u64 pt → e3 9 = .slice (some ⟨g, 0, none⟩) (n - wh) (n - wh) → K1 e3 w1 := by
          intro e3 q46 q10 q11 q7 q9
          refine hK1 _ _ ?_; clear hK1
          obtain ⟨t, hte⟩ : ∃ t, t = (dg (lim x) p + dg (lim x) p1 * 4294967296) / 2 ^ pt := ⟨_, rfl⟩
          have htl : t < 18446744073709551616 := by
            have := Nat.div_le_self (dg (lim x) p + dg (lim x) p1 * 4294967296) (2 ^ pt)
            omega
          have hte' := hte.symm
          have ea := and_low (a := t) htl
          have eb : t % 4294967296 % 4294967296 = t % 4294967296 := Nat.mod_mod _ _
          refine W_regK fun K9 hK9 => ?_
          simp -implicitDefEqProofs (disch := omega) only [go_sem, Nat.reduceEqDiff, Nat.reduceAdd, ↓reduceIte, q9, q10, q11, q7, hte', ea, eb, r5]
          refine storeU hO hlt (Nat.mod_lt _ (by omega)) fun w3 hO3 hk3 hs3 => ?_
          refine hK9 _ _ ?_; clear hK9
          refine hK _ _ ?_; clear hK
          refine W_regK fun K9 hK9 => ?_
          simp -implicitDefEqProofs (disch := omega) only [go_sem, Nat.reduceEqDiff, Nat.reduceAdd, ↓reduceIte, q46, i64_in]
          refine hK9 _ _ ?_; clear hK9 K9
          have htk : (o.set j (t % 4294967296)).take (j + 1) = o.take j ++ [t % 4294967296] := by
            rw [take_snocD _ _ (by simp; omega), take_set_self]
            congr 2
            rw [List.getD_eq_getElem?_getD, List.getElem?_set_self (by omega)]; rfl
          have key := shr_step (o := o.take j) (j := j) (Nat.le_of_lt hk) (lim_all x) (by rw [List.length_take, hol]; omega) hv
          refine ⟨⟨j + 1, _, rfl, by omega, by subst hg; exact hO.1.under hx hk3, hO3, ?_⟩, by simp only [upd_ap, ↓reduceIte, RowKit.intOf, k46]; omega⟩
          rw [htk, hte, hp1e, hpe]; exact key
        by_cases hn1 : p1 < n
        · have hn' : (p1 : Int) < n := by omega
          refine W_seq_reg fun K hK => ?_
          simp -implicitDefEqProofs (disch := omega) only [go_sem, Nat.reduceEqDiff, Nat.reduceAdd, ↓reduceIte, g6, k46, hs, hs', g0, hn']
          refine hK _ _ ?_; clear hK K
          refine W_cond rfl (fun hc => ?_) (fun hc => by cases hc)
          have r4 : (0 : Int) ≤ p1 ∧ (p1 : Int) < n := by omega
          have e6 : dg (lim x) p1 * 4294967296 % 18446744073709551616 = dg (lim x) p1 * 4294967296 := Nat.mod_eq_of_lt (by omega)
          have e7 : dg (lim x) p ||| dg (lim x) p1 * 4294967296 = dg (lim x) p + dg (lim x) p1 * 4294967296 := or_add (k := 32) hd1
          refine W_regK fun K9 hK9 => ?_
          simp -implicitDefEqProofs (disch := omega) only [go_sem, Nat.reduceEqDiff, Nat.reduceAdd, ↓reduceIte, g6, k46, hs, hs', g0, r4, (h.ext hx).u32.cx hn1, e6, e7]
          refine hK9 _ _ ?_; clear hK9 K9
          exact st _ (by (try simp only [upd_ap, Nat.reduceEqDiff, ↓reduceIte]); first | done | assumption | exact rfl) (by (try simp only [upd_ap, Nat.reduceEqDiff, ↓reduceIte]); first | done | assumption | exact rfl) (by (try simp only [upd_ap, Nat.reduceEqDiff, ↓reduceIte]); first | done | assumption | exact rfl) (by (try simp only [upd_ap, Nat.reduceEqDiff, ↓reduceIte]); first | done | assumption | exact rfl) (by (try simp only [upd_ap, Nat.reduceEqDiff, ↓reduceIte]); first | done | assumption | exact rfl)
        · have hn' : ¬ (p1 : Int) < n := by omega
          refine W_seq_reg fun K hK => ?_
          simp -implicitDefEqProofs (disch := omega) only [go_sem, Nat.reduceEqDiff, Nat.reduceAdd, ↓reduceIte, g6, k46, hs, hs', g0, hn']
          refine hK _ _ ?_; clear hK K
          refine W_cond rfl (fun hc => by cases hc) (fun hc => W_skip ?_)
          have hz : dg (lim x) p1 = 0 := dg_ge (by omega)
          refine st _ (by (try simp only [upd_ap, Nat.reduceEqDiff, ↓reduceIte]); first | done | assumption | exact rfl) (by (try simp only [upd_ap, Nat.reduceEqDiff, ↓reduceIte]); first | done | assumption | exact rfl) ?_ (by (try simp only [upd_ap, Nat.reduceEqDiff, ↓reduceIte]); first | done | assumption | exact rfl) (by (try simp only [upd_ap, Nat.reduceEqDiff, ↓reduceIte]); first | done | assumption | exact rfl)
          rw [hz]; exact (by (try simp only [upd_ap, Nat.reduceEqDiff, ↓reduceIte]); first | done | assumption | exact rfl)
      · have hlt' : ¬ (j : Int) < (n - wh : Nat) := by omega
        refine W_seq_reg fun K hK => ?_
        simp -implicitDefEqProofs (disch := omega) only [go_sem, Nat.reduceEqDiff, Nat.reduceAdd, ↓reduceIte, k46, g45, hlt']
        refine hK _ _ ?_; clear hK K
        refine W_seq_k fun K1 hK1 => ?_
        refine W_cond rfl (fun hc1 => by cases hc1) (fun hc1 => W_exit ?_)
        obtain rfl : j = n - wh := by omega
        refine hK0 _ _ ?_; clear hK0 hK1
        have hd0 : val ((lim x).drop (wh + (n - wh))) = 0 := by rw [List.drop_of_length_le (by omega)]; rfl
        rw [hd0, Nat.zero_div, Nat.mul_zero, Nat.add_zero, val_drop (lim_all x), val_lim, Nat.div_div_eq_div_mul, B_eq, ← Nat.pow_mul, ← Nat.pow_add, hmm, List.take_of_length_le (by omega)] at hv
        refine W_seq_reg fun K9 hK9 => ?_
        simp -implicitDefEqProofs (disch := omega) only [go_sem, Nat.reduceEqDiff, Nat.reduceAdd, ↓reduceIte, g9, g8]
        refine callW_of cal245 (trimR (hO.u32 fun k hk => hf k (by omega)) (by omega)) ?_
        rintro _ w4 ⟨v4, rfl, hx4, h4⟩; refine ⟨_, rfl, ?_⟩
        rw [hv] at h4
        refine hK9 _ _ ?_; clear hK9
        refine W_ret (ret2 rfl ⟨_, rfl, hx.trans hx4, ⟨_, _, rfl, ?_, ?_⟩⟩)
        · simp only [upd_ap, Nat.reduceEqDiff, ↓reduceIte]; exact h4
        · simp only [upd_ap, Nat.reduceEqDiff, ↓reduceIte]; rfl
    refine W_seq_reg fun K hK => ?_
    refine WLo_cut 4 fun KC hKC => ?_
    simp -implicitDefEqProofs (disch := omega) only [go_sem, Nat.reduceEqDiff, Nat.reduceAdd, ↓reduceIte, List.take_succ_cons, List.take_zero, r1]
    refine callW_of cal270 (cont_ok hfst (by omega)) ?_
    rintro _ _ ⟨rfl, rfl⟩; refine ⟨_, rfl, ?_⟩
    refine hKC _ _ ?_; clear hKC KC
    by_cases hv0 : val ((lim x).take wh) = 0
    · have q1 : decide (val ((lim x).take wh) ≠ 0) = false := by simp [hv0]
      have q2 : (((dg (lim x) wh % 2 ^ pt : Nat) : Int) != 0) = decide (x % 2 ^ m ≠ 0) := by
        rw [bne0, decide_eq_decide]
        unfold dg
        rw [hv0] at hlost
        simp only [true_and] at hlost
        omega
      simp -implicitDefEqProofs (disch := omega) only [go_sem, Nat.reduceEqDiff, Nat.reduceAdd, ↓reduceIte, List.drop_succ_cons, List.drop_zero, q1, r2, h.u32.cx hwn, hs1, ha1, q2]
      refine hK _ _ ?_; clear hK
      exact main _ (by (try simp only [upd_ap, Nat.reduceEqDiff, ↓reduceIte]); first | done | assumption | exact rfl) (by (try simp only [upd_ap, Nat.reduceEqDiff, ↓reduceIte]); first | done | assumption | exact rfl) (by (try simp only [upd_ap, Nat.reduceEqDiff, ↓reduceIte]); first | done | assumption | exact rfl) (by (try simp only [upd_ap, Nat.reduceEqDiff, ↓reduceIte]); first | done | assumption | exact rfl)
    · have q1 : decide (val ((lim x).take wh) ≠ 0) = true := by simp [hv0]
      simp -implicitDefEqProofs (disch := omega) only [go_sem, Nat.reduceEqDiff, Nat.reduceAdd, ↓reduceIte, List.drop_succ_cons, List.drop_zero, q1]
      refine hK _ _ ?_; clear hK
      refine main _ (by (try simp only [upd_ap, Nat.reduceEqDiff, ↓reduceIte]); first | done | assumption | exact rfl) (by (try simp only [upd_ap, Nat.reduceEqDiff, ↓reduceIte]); first | done | assumption | exact rfl) (by (try simp only [upd_ap, Nat.reduceEqDiff, ↓reduceIte]); first | done | assumption | exact rfl) ?_
      simp only [upd_ap, Nat.reduceEqDiff, ↓reduceIte]
      refine congrArg Value.bool ?_
      symm
      rw [decide_eq_true_eq]
      intro h0
      exact hv0 (hlost.1 h0).1
end Go.Proofs.YtjamnehcmaloeaaGreatDoor
end
section
namespace Go.Proofs.YtjamnehcmaloeaaGreatDoor
open Go Go.E Go.Sp
theorem clone_ok {D : Nat → Prop} {A : Option Addr} {n c : Nat} {l : List Nat} {w : World} (h : U32 w D A n c l) (hb : n ≤ 1000000000) :
    Calls Tryz.prog 219 #[.slice A n c] w fun e w' => ∃ A' c', e = .returned (.slice A' n c') ∧ Ext w w' ∧ OwnU w' w.heap.size A' n c' l := by
  refine calls_W Tryz.func219 rfl Tryz.ntmps219 (by kernel_rfl) ?_
  refine W_seq_reg fun K hK => ?_
  simp -implicitDefEqProofs (disch := omega) only [go_sem, Nat.reduceEqDiff, Nat.reduceAdd, ↓reduceIte]
  refine hK _ _ ?_; clear hK K
  refine W_seq_k fun K1 hK1 => ?_
  refine W_seq_reg fun K hK => ?_
  simp -implicitDefEqProofs (disch := omega) only [go_sem, Nat.reduceEqDiff, Nat.reduceAdd, ↓reduceIte]
  refine hK _ _ ?_; clear hK
  cases A with
  | none =>
    have hn : n = 0 := by
      rcases Nat.eq_zero_or_pos n with h0 | h0
      · exact h0
      · obtain ⟨ad, h1, _⟩ := h.cell h0; cases h1
    subst hn
    have hl : l = [] := List.eq_nil_of_length_eq_zero h.len
    subst hl
    refine W_cond rfl (fun hc => ?_) (fun hc => by cases hc)
    refine W_seq_reg fun K hK => ?_
    simp -implicitDefEqProofs (disch := omega) only [go_sem, Nat.reduceEqDiff, Nat.reduceAdd, ↓reduceIte]
    refine hK _ _ ?_; clear hK K
    refine W_ret ?_
    try simp only [thenE_r, inB_r]
    refine ret1 rfl ⟨none, 0, rfl, Kp.refl _ _, Own.nil _ _ _ _, AllB.nil⟩
  | some ad =>
    refine W_cond rfl (fun hc => by cases hc) (fun hc => W_skip (hK1 _ _ ?_))
    clear hK1
    refine W_seq_reg fun K hK => ?_
    simp -implicitDefEqProofs (disch := omega) only [go_sem, Nat.reduceEqDiff, Nat.reduceAdd, ↓reduceIte]
    refine bsW_of fun w1 hx1 hb1 hs1 => ?_
    have hO : OwnU w1 w.heap.size (some ⟨w.heap.size, 0, none⟩) 0 0 [] := ⟨by
      have := Own.made (w := w1) (w' := w) (B := w.heap.size) (sz := 1) (n := 0) (c := 0) hb1 (Nat.le_refl _) (by simp [maxLen]) rfl (Nat.le_refl _)
      simpa using this, AllB.nil⟩
    have hl := h.len
    refine app_own (xs := []) elm33 rfl (by omega) hO.1 (h.ext hx1).1 (fun u hu => by
      obtain ⟨d, _, rfl⟩ := List.mem_map.1 hu; rfl) (by omega) hx1.size fun A' c' w' ho hk hat => ?_
    refine hK _ _ ?_; clear hK
    refine W_ret (ret1 rfl ⟨A', c', by simp [upd], hO.1.under hx1 hk, ?_, h.2⟩)
    simpa using ho
theorem big_ok {D : Nat → Prop} {A : Option Addr} {n c : Nat} {l : List Nat} {s : Bool} {w : World} (h : U32 w D A n c l) (hb : n ≤ 1000000000) (hf : Fr D w) :
    Calls Tryz.prog 218 #[.bool s, .slice A n c] w fun e w' => ∃ s' A' n' c', e = .returned (.agg #[.bool s', .slice A' n' c']) ∧ Ext w w' ∧ Big w' D s' A' n' c' (sgn s (val l)) := by
  refine calls_W Tryz.func218 rfl Tryz.ntmps218 (by kernel_rfl) ?_
  refine W_seq_reg fun K hK => ?_
  simp -implicitDefEqProofs (disch := omega) only [go_sem, Nat.reduceEqDiff, Nat.reduceAdd, ↓reduceIte]
  refine alW_of ?_
  intro g1 w1 hg1 hx1 hb1 hs1
  refine hK _ _ ?_; clear hK
  refine W_seq_reg fun K hK => ?_
  simp -implicitDefEqProofs (disch := omega) only [go_sem, Nat.reduceEqDiff, Nat.reduceAdd, ↓reduceIte]
  refine callW_of cal245 (trim_ok ((h.sub (Dx.keep (a := w.heap.size) (b := w1.heap.size) rfl)).ext hx1) hb) ?_
  rintro _ w2 ⟨m, rfl, rfl, hU⟩; refine ⟨_, rfl, ?_⟩
  refine hK _ _ ?_; clear hK
  have hml := hU.len
  have hpos := @lim_length_pos (val l)
  refine W_seq_k fun K1 hK1 => ?_
  refine W_seq_reg fun K hK => ?_
  simp -implicitDefEqProofs (disch := omega) only [go_sem, Nat.reduceEqDiff, Nat.reduceAdd, ↓reduceIte]
  refine hK _ _ ?_; clear hK
  by_cases hm : m = 0
  · have hv : val l = 0 := by omega
    have hm' : ((m : Int) == 0) = true := by simp [hm]
    refine W_cond rfl (fun hc => ?_) (fun hc => by rw [hm'] at hc; cases hc)
    refine W_seq_reg fun K hK => ?_
    simp -implicitDefEqProofs (disch := omega) only [go_sem, Nat.reduceEqDiff, Nat.reduceAdd, ↓reduceIte]
    refine storeW_of hb1 siz35 rfl rfl fun w9 hk9 hb9 => ?_
    refine hK _ _ ?_; clear hK
    refine W_ret ?_
    simp only [thenE_r, inB_r]
    refine (retC1 rfl (resV_blk rfl agg35 hb9 rfl) ⟨_, _, _, _, rfl, hx1.under hk9 (fun k hk => by omega), ?_⟩)
    rw [hv]
    exact ⟨by cases s <;> rfl, by rw [sgn_nat]; exact U32.nil⟩
  · have hm' : ((m : Int) == 0) = false := by simp [hm]
    refine W_cond rfl (fun hc => by rw [hm'] at hc; cases hc) (fun hc => W_skip (hK1 _ _ ?_))
    clear hK1
    have hB : Big w1 (Dx D w.heap.size w1.heap.size) s A m c (sgn s (val l)) := ⟨by rw [sgn_neg]; have : 0 < val l := by omega
                                                                                    simp [this], by rw [sgn_nat]; exact hU⟩
    refine W_seq_reg fun K hK => ?_
    simp -implicitDefEqProofs (disch := omega) only [go_sem, Nat.reduceEqDiff, Nat.reduceAdd, ↓reduceIte]
    refine storeW_of hb1 siz35 rfl rfl fun w9 hk9 hb9 => ?_
    refine hK _ _ ?_; clear hK
    refine W_ret ?_
    try simp only [thenE_r, inB_r]
    exact (retC1 rfl (resV_blk (by first | exact rfl | assumption) agg35 hb9 rfl) ⟨_, _, _, _, rfl, (hx1).under hk9 (fun k hk => by omega), (hB.kp (hk9.mono fun k _ h => Dx.ne h (by omega) (by omega))).sub fun k _ h => h.1⟩)
theorem iNeg_ok {D : Nat → Prop} {A : Option Addr} {n c : Nat} {l : List Nat} {s : Bool} {w : World} (h : U32 w D A n c l) (hb : n ≤ 1000000000) (hf : Fr D w) :
    Calls Tryz.prog 165 #[.agg #[.bool s, .slice A n c]] w fun e w' => ∃ s' A' n' c', e = .returned (.agg #[.bool s', .slice A' n' c']) ∧ Ext w w' ∧ Big w' D s' A' n' c' (sgn (!s) (val l)) := by
  refine calls_W Tryz.func165 rfl Tryz.ntmps165 (by kernel_rfl) ?_
  refine W_seq_reg fun K hK => ?_
  simp -implicitDefEqProofs (disch := omega) only [go_sem, Nat.reduceEqDiff, Nat.reduceAdd, ↓reduceIte]
  refine boxW_of ?_
  intro g1 w1 hg1 hx1 hb1 hs1
  refine alW_of ?_
  intro g2 w2 hg2 hx2 hb2 hs2
  refine hK _ _ ?_; clear hK
  replace hb1 := hb1.ext hx2
  have hD : Fr (Dx D w.heap.size w2.heap.size) w2 := Dx.fr ((hf.kp hx1).kp hx2) (Nat.le_refl _)
  have hU : U32 w2 (Dx D w.heap.size w2.heap.size) A n c l := ((h.sub (Dx.keep rfl)).ext hx1).ext hx2
  have hc0 : ∀ w', Ext w2 w' → w'.cell? ⟨g1, 0, none⟩ = some (.bool s) := fun w' hw => (hb1.ext hw).cell 0
  have hc1 : ∀ w', Ext w2 w' → w'.cell? ⟨g1, 1, none⟩ = some (.slice A n c) := fun w' hw => (hb1.ext hw).cell 1
  refine W_seq_k fun K hK => ?_
  apply W_drawS mixed (Kp.pre (fun _ => True)) [(3, is (.pointer (some ⟨g1, 0, none⟩))), (4, is (.bool s)), (5, is (.bool !s)), (6, is (.pointer (some ⟨g1, 1, none⟩))), (7, is (.slice A n c)),
    (8, ⟨fun v w' => ∃ A' c', v = .slice A' n c' ∧ U32 w' (Dx D w.heap.size w2.heap.size) A' n c' l, fun v w w' hk ⟨A', c', h1, h2⟩ => ⟨A', c', h1, h2.ext hk⟩⟩),
    (9, ⟨fun v w' => ∃ s' A' n' c', v = .agg #[.bool s', .slice A' n' c'] ∧ Big w' (Dx D w.heap.size w2.heap.size) s' A' n' c' (sgn (!s) (val l)), fun v w w' hk ⟨s', A', n', c', h1, h2⟩ => ⟨s', A', n', c', h1, h2.ext hk⟩⟩)]
  · kernel_rfl
  · refine steps_cons (fun e' w' hw hd ho => ?_) ?_
    · skip
      have o1 := ho 1 (by kernel_rfl) (by kernel_rfl)
      simp -implicitDefEqProofs (disch := omega) only [go_sem, Nat.reduceEqDiff, Nat.reduceAdd, ↓reduceIte, o1]
      exact ⟨Kp.refl _ _, fun d hd => by cases hd; exact rfl⟩
    refine steps_cons (fun e' w' hw hd ho => ?_) ?_
    · skip
      have h3 := hd 3 (by kernel_rfl)
      change _ = _ at h3
      simp -implicitDefEqProofs (disch := omega) only [go_sem, Nat.reduceEqDiff, Nat.reduceAdd, ↓reduceIte, h3, hc0 _ hw]
      exact ⟨Kp.refl _ _, fun d hd => by cases hd; exact rfl⟩
    refine steps_cons (fun e' w' hw hd ho => ?_) ?_
    · skip
      have h4 := hd 4 (by kernel_rfl)
      change _ = _ at h4
      simp -implicitDefEqProofs (disch := omega) only [go_sem, Nat.reduceEqDiff, Nat.reduceAdd, ↓reduceIte, h4]
      exact ⟨Kp.refl _ _, fun d hd => by cases hd; exact rfl⟩
    refine steps_cons (fun e' w' hw hd ho => ?_) ?_
    · skip
      have o1 := ho 1 (by kernel_rfl) (by kernel_rfl)
      simp -implicitDefEqProofs (disch := omega) only [go_sem, Nat.reduceEqDiff, Nat.reduceAdd, ↓reduceIte, o1]
      exact ⟨Kp.refl _ _, fun d hd => by cases hd; exact rfl⟩
    refine steps_cons (fun e' w' hw hd ho => ?_) ?_
    · skip
      have h6 := hd 6 (by kernel_rfl)
      change _ = _ at h6
      simp -implicitDefEqProofs (disch := omega) only [go_sem, Nat.reduceEqDiff, Nat.reduceAdd, ↓reduceIte, h6, hc1 _ hw]
      exact ⟨Kp.refl _ _, fun d hd => by cases hd; exact rfl⟩
    refine steps_cons (fun e' w' hw hd ho => ?_) ?_
    · skip
      have h7 := hd 7 (by kernel_rfl)
      change _ = _ at h7
      simp -implicitDefEqProofs (disch := omega) only [go_sem, Nat.reduceEqDiff, Nat.reduceAdd, ↓reduceIte, h7]
      refine callW_of cal219 (clone_ok (hU.ext hw) hb) ?_
      rintro _ w3 ⟨A3, c3, rfl, hx3, hO3⟩; refine ⟨_, rfl, ?_⟩
      exact ⟨hx3, fun d hd => by cases hd; exact ⟨A3, c3, rfl, hO3.u32 fun k hk => hD k (by have := hw.size; omega)⟩⟩
    refine steps_cons (fun e' w' hw hd ho => ?_) ?_
    · skip
      have h5 := hd 5 (by kernel_rfl)
      have h8 := hd 8 (by kernel_rfl)
      change _ = _ at h5
      obtain ⟨A', c', h8, hU8⟩ := h8
      simp -implicitDefEqProofs (disch := omega) only [go_sem, Nat.reduceEqDiff, Nat.reduceAdd, ↓reduceIte, h5, h8]
      refine callW_of cal218 (big_ok hU8 hb (hD.kp hw)) ?_
      rintro _ w3 ⟨s3, A3, n3, c3, rfl, hx3, hB3⟩; refine ⟨_, rfl, ?_⟩
      exact ⟨hx3, fun d hd => by cases hd; exact ⟨s3, A3, n3, c3, rfl, hB3⟩⟩
    exact steps_nil
  · intro e' w' hw hs ho
    obtain ⟨s9, A9, n9, c9, h9, hB9⟩ := hs 9 (by kernel_rfl)
    have h2 := ho 2 (by kernel_rfl)
    refine WG_of_wg ?_
    simp -implicitDefEqProofs (disch := omega) only [go_sem, Nat.reduceEqDiff, Nat.reduceAdd, ↓reduceIte, h9, h2]
    replace hb2 := hb2.ext hw
    refine storeW_of hb2 siz35 rfl rfl fun w9 hk9 hb9 => ?_
    refine hK _ _ ?_; clear hK
    refine W_ret ?_
    try simp only [thenE_r, inB_r]
    exact (retC1 rfl (resV_blk (by first | exact rfl | assumption) agg35 hb9 rfl) ⟨_, _, _, _, rfl, (((hx1.trans hx2).trans hw)).under hk9 (fun k hk => by omega), (hB9.kp (hk9.mono fun k _ h => Dx.ne h (by omega) (by omega))).sub fun k _ h => h.1⟩)
end Go.Proofs.YtjamnehcmaloeaaGreatDoor
end
section
namespace Go.Proofs.YtjamnehcmaloeaaGreatDoor
open Go Go.E Go.Sp
section
variable {D : Nat → Prop} {v v' : Value} {w : World} {x y : Nat} {l : List Nat}
theorem len_lim (h : bl x ≤ 20000000) : (lim x).length ≤ 700000 := by rw [len_bl]; omega
theorem trim_v (h : In (fU l) D v w) (hb : l.length ≤ 1000000000) : Calls Tryz.prog 245 #[v] w (Rt (fU (lim (val l))) D w) := by
  obtain ⟨A, n, c, rfl, hU⟩ := h
  exact trimR hU (by have := hU.len; omega)
theorem trimL_v (h : In (fU (lim x)) D v w) (hb : bl x ≤ 20000000) : Calls Tryz.prog 245 #[v] w (Rt (fU (lim x)) D w) := by
  have := trim_v h (by have := len_lim hb; omega)
  rwa [val_lim] at this
theorem clone_v (h : In (fU l) D v w) (hb : l.length ≤ 1000000000) (hf : Fr D w) : Calls Tryz.prog 219 #[v] w (Rt (fU l) D w) := by
  obtain ⟨A, n, c, rfl, hU⟩ := h
  exact (clone_ok hU (by have := hU.len; omega)).mono fun _ _ ⟨_, _, e, hx, hO⟩ => ⟨_, e, hx, (hO.u32 hf).in⟩
theorem big_v {s : Bool} (h : In (fU l) D v w) (hb : l.length ≤ 1000000000) (hf : Fr D w) : Calls Tryz.prog 218 #[.bool s, v] w (Rt (fB (sgn s (val l))) D w) := by
  obtain ⟨A, n, c, rfl, hU⟩ := h
  exact rt_of_big (big_ok hU (by have := hU.len; omega) hf)
theorem plus_v (h : In (fU (lim x)) D v w) (h' : In (fU (lim y)) D v' w) (hb : bl x ≤ 20000000) (hb' : bl y ≤ 20000000) (hf : Fr D w) : Calls Tryz.prog 249 #[v, v'] w (Rt (fU (lim (x + y))) D w) := by
  obtain ⟨A, n, c, rfl, hU⟩ := h
  obtain ⟨A', n', c', rfl, hU'⟩ := h'
  exact plus_ok hU.in hU'.in (by have := hU.len; have := len_lim hb; omega) (by have := hU'.len; have := len_lim hb'; omega) hf
theorem minus_v (h : In (fU (lim x)) D v w) (h' : In (fU (lim y)) D v' w) (hb : bl x ≤ 20000000) (hle : y ≤ x) (hf : Fr D w) : Calls Tryz.prog 250 #[v, v'] w (Rt (fU (lim (x - y))) D w) := by
  obtain ⟨A, n, c, rfl, hU⟩ := h
  obtain ⟨A', n', c', rfl, hU'⟩ := h'
  exact minus_ok hU.in hU'.in (by have := hU.len; have := len_lim hb; omega) hle hf
theorem times_v (h : In (fU (lim x)) D v w) (h' : In (fU (lim y)) D v' w) (hb : bl x ≤ 20000000) (hb' : bl y ≤ 20000000) (hf : Fr D w) : Calls Tryz.prog 253 #[v, v'] w (Rt (fU (lim (x * y))) D w) := by
  obtain ⟨A, n, c, rfl, hU⟩ := h
  obtain ⟨A', n', c', rfl, hU'⟩ := h'
  exact times_ok hU.in hU'.in (by have := hU.len; have := len_lim hb; omega) (by have := hU'.len; have := len_lim hb'; omega) hf
theorem up_v {m : Nat} (h : In (fU (lim x)) D v w) (hb : bl x ≤ 20000000) (hm : m ≤ 1000000000) (hf : Fr D w) : Calls Tryz.prog 264 #[v, .int .i64 m] w (Rt (fU (lim (x * 2 ^ m))) D w) := by
  obtain ⟨A, n, c, rfl, hU⟩ := h
  exact up_ok hU.in (by have := hU.len; have := len_lim hb; omega) hm hf
theorem down_v {m : Nat} (h : In (fU (lim x)) D v w) (hb : bl x ≤ 20000000) (hm : m ≤ 1000000000) (hf : Fr D w) : Calls Tryz.prog 266 #[v, .int .i64 m] w (Rt (fP (fU (lim (x / 2 ^ m))) (fc (.bool (decide (x % 2 ^ m ≠ 0))))) D w) := by
  obtain ⟨A, n, c, rfl, hU⟩ := h
  exact down_ok hU.in (by have := hU.len; have := len_lim hb; omega) hm hf
theorem compare_v {D' : Nat → Prop} (h : In (fU (lim x)) D v w) (h' : In (fU (lim y)) D' v' w) (hb : bl x ≤ 20000000) (hb' : bl y ≤ 20000000) : Calls Tryz.prog 252 #[v, v'] w fun e w' => e = .returned (.int .i64 (cmpI x y)) ∧ Ext w w' := by
  obtain ⟨A, n, c, rfl, hU⟩ := h
  obtain ⟨A', n', c', rfl, hU'⟩ := h'
  exact compare_ok hU.in hU'.in (by have := hU.len; have := len_lim hb; omega) (by have := hU'.len; have := len_lim hb'; omega)
theorem length_v (h : In (fU (lim x)) D v w) (hb : bl x ≤ 20000000) : Calls Tryz.prog 247 #[v] w fun e w' => e = .returned (.int .i64 (bl x : Nat)) ∧ w = w' := by
  obtain ⟨A, n, c, rfl, hU⟩ := h
  exact length_ok hU.in (by have := hU.len; have := len_lim hb; omega)
theorem iNeg_v {a : Int} (h : In (fB a) D v w) (ha : bl a.natAbs ≤ 20000000) (hf : Fr D w) : Calls Tryz.prog 165 #[v] w (Rt (fB (-a)) D w) := by
  obtain ⟨s, A, n, c, rfl, hB⟩ := h
  have := rt_of_big (iNeg_ok (s := s) hB.2 (by have := hB.n_le (k := 1000000) (by omega); omega) hf)
  rwa [val_lim, show sgn (!s) a.natAbs = -a by have := hB.sgn; cases s <;> simp_all [sgn] <;> omega] at this
theorem iNorm_v {a : Int} (h : In (fB a) D v w) (ha : bl a.natAbs ≤ 20000000) (hf : Fr D w) : Calls Tryz.prog 242 #[v] w (Rt (fB a) D w) := by
  obtain ⟨s, A, n, c, rfl, _⟩ := id h
  have hsg := h.big.sgn
  have hm := h.mag
  have hl := len_lim ha
  refine calls_W Tryz.func242 rfl Tryz.ntmps242 (by kernel_rfl) ?_
  refine W_seq_reg fun K hK => ?_
  simp -implicitDefEqProofs (disch := omega) only [go_sem, Nat.reduceEqDiff, Nat.reduceAdd, ↓reduceIte]
  refine boxW_of ?_
  intro g1 w1 hg1 hx1 hb1 hs1
  refine alW_of ?_
  intro g2 w2 hg2 hx2 hb2 hs2
  refine hK _ _ ?_; clear hK K
  have hx : Ext w w2 := (hx1.trans hx2)
  replace hb1 := (hb1.ext hx2)
  replace hm := (hm.nL (L := [g1, g2]) (by intro g hg; simp at hg; omega)).ext hx
  have hD : Fr (Dl D [g1, g2]) w2 := hf.nL hx (by intro g hg; simp at hg; omega)
  clear hx1 hx2
  refine W_seq_k fun K hK => ?_
  refine W_dC mixed (Kp (fun k => k ∉ ([] : List Nat))) (fun _ _ => False) (Kp.pre _) [true, true, true, true, false, false, false] [false, false, false, false, false, false, false] [1, 1, 1, 1, 0, 1, 1] (by kernel_rfl) ?_
  apply Exists.intro
  refine ⟨fun wE hE KE hKE => ?_, fun wE hE KE hKE => ?_, fun wE hxE hr => ?_⟩
  · skip
    replace hE := Kp.all hE
    replace hb1 := hb1.ext hE
    replace hb2 := hb2.ext hE
    replace hm := hm.ext hE
    simp -implicitDefEqProofs (disch := omega) only [go_sem, Nat.reduceEqDiff, Nat.reduceAdd, ↓reduceIte, hb1.c0, hb1.c1]
    exact hKE
  · exact hE.elim
  simp only [selP_t, selP_f, selP_n]
  replace hm := hm.ext hxE
  replace hb1 := hb1.ext hxE
  replace hb2 := hb2.ext hxE
  replace hD := hD.kp hxE
  replace hx := hx.trans hxE
  simp -implicitDefEqProofs (disch := omega) only [go_sem, Nat.reduceEqDiff, Nat.reduceAdd, ↓reduceIte, List.toList_toArray, hb1.c0, hb1.c1]
  refine callW_of cal219 (clone_v hm (by omega) hD) ?_
  rintro _ w5 ⟨v5, rfl, hx5, h5⟩; refine ⟨_, rfl, ?_⟩
  replace hm := hm.ext hx5
  replace hb1 := hb1.ext hx5
  replace hb2 := hb2.ext hx5
  replace hD := hD.kp hx5
  replace hx := hx.trans hx5
  replace hr := hr.trans (Kp.of_ext hx5)
  clear hx5
  refine ⟨hr, ?_⟩
  refine callW_of cal218 (big_v h5 (by omega) hD) ?_
  rintro _ w6 ⟨v6, rfl, hx6, h6⟩; refine ⟨_, rfl, ?_⟩
  replace hm := hm.ext hx6
  replace h5 := h5.ext hx6
  replace hb1 := hb1.ext hx6
  replace hb2 := hb2.ext hx6
  replace hD := hD.kp hx6
  replace hx := hx.trans hx6
  clear hx6
  rw [val_lim, hsg] at h6
  refine storeS hb2 siz35 rfl (fB_s h6) fun w90 hk90 hb90 => ?_
  refine hK _ _ ?_; clear hK
  refine W_ret ?_
  try simp only [thenE_r, inB_r]
  exact retS rfl (by first | exact rfl | assumption | exact (by (try simp only [upd_ap, Nat.reduceEqDiff, ↓reduceIte]); first | done | assumption | exact rfl)) agg35 hb90 (fB_s h6) (Rt.fin hx h6 hk90 (by simp) (by omega))
theorem iAbs_v {a : Int} (h : In (fB a) D v w) (ha : bl a.natAbs ≤ 20000000) (hf : Fr D w) : Calls Tryz.prog 209 #[v] w (Rt (fB a.natAbs) D w) := by
  obtain ⟨s, A, n, c, rfl, _⟩ := id h
  have hm := h.mag
  have hl := len_lim ha
  refine calls_W Tryz.func209 rfl Tryz.ntmps209 (by kernel_rfl) ?_
  refine W_seq_reg fun K hK => ?_
  simp -implicitDefEqProofs (disch := omega) only [go_sem, Nat.reduceEqDiff, Nat.reduceAdd, ↓reduceIte]
  refine boxW_of ?_
  intro g1 w1 hg1 hx1 hb1 hs1
  refine alW_of ?_
  intro g2 w2 hg2 hx2 hb2 hs2
  refine hK _ _ ?_; clear hK K
  have hx : Ext w w2 := (hx1.trans hx2)
  replace hb1 := (hb1.ext hx2)
  replace hm := (hm.nL (L := [g1, g2]) (by intro g hg; simp at hg; omega)).ext hx
  have hD : Fr (Dl D [g1, g2]) w2 := hf.nL hx (by intro g hg; simp at hg; omega)
  clear hx1 hx2
  refine W_seq_reg fun K hK => ?_
  simp -implicitDefEqProofs (disch := omega) only [go_sem, Nat.reduceEqDiff, Nat.reduceAdd, ↓reduceIte, hb1.c1]
  refine callW_of cal219 (clone_v hm (by omega) hD) ?_
  rintro _ w5 ⟨v5, rfl, hx5, h5⟩; refine ⟨_, rfl, ?_⟩
  replace hm := hm.ext hx5
  replace hb1 := hb1.ext hx5
  replace hb2 := hb2.ext hx5
  replace hD := hD.kp hx5
  replace hx := hx.trans hx5
  clear hx5
  refine callW_of cal218 (big_v h5 (by omega) hD) ?_
  rintro _ w6 ⟨v6, rfl, hx6, h6⟩; refine ⟨_, rfl, ?_⟩
  replace hm := hm.ext hx6
  replace h5 := h5.ext hx6
  replace hb1 := hb1.ext hx6
  replace hb2 := hb2.ext hx6
  replace hD := hD.kp hx6
  replace hx := hx.trans hx6
  clear hx6
  rw [val_lim] at h6
  refine storeS hb2 siz35 rfl (fB_s h6) fun w90 hk90 hb90 => ?_
  refine hK _ _ ?_; clear hK
  refine W_ret ?_
  try simp only [thenE_r, inB_r]
  exact retS rfl (by first | exact rfl | assumption | exact (by (try simp only [upd_ap, Nat.reduceEqDiff, ↓reduceIte]); first | done | assumption | exact rfl)) agg35 hb90 (fB_s h6) (Rt.fin hx h6 hk90 (by simp) (by omega))
theorem iFromInt_v {z : Int} (h1 : -9223372036854775808 ≤ z) (h2 : z ≤ 9223372036854775807) (hf : Fr D w) : Calls Tryz.prog 163 #[.int .i64 z] w (Rt (fB z) D w) := by
  refine calls_W Tryz.func163 rfl Tryz.ntmps163 (by kernel_rfl) ?_
  refine W_seq_reg fun K hK => ?_
  simp -implicitDefEqProofs (disch := omega) only [go_sem, Nat.reduceEqDiff, Nat.reduceAdd, ↓reduceIte]
  refine alW_of ?_
  intro g2 w2 hg2 hx2 hb2 hs2
  refine hK _ _ ?_; clear hK K
  have hx : Ext w w2 := hx2
  have hD : Fr (Dl D [g2]) w2 := hf.nL hx (by intro g hg; simp at hg; omega)
  clear hx2
  refine W_seq_reg fun K hK => ?_
  simp -implicitDefEqProofs (disch := omega) only [go_sem, Nat.reduceEqDiff, Nat.reduceAdd, ↓reduceIte]
  refine hK _ _ ?_; clear hK K
  refine W_seq_k fun K0 hK0 => ?_
  have fin : ∀ e1 : Env, e1 2 = .pointer (some ⟨g2, 0, none⟩) → e1 0 = .int .i64 z → e1 3 = .int .u64 (z.natAbs : Nat) → K0 e1 w2 := by
    intro e1 k2 k0 k3
    refine hK0 _ _ ?_; clear hK0
    have ea := and_low (a := z.natAbs) (by omega)
    have eb : z.natAbs % 4294967296 % 4294967296 = z.natAbs % 4294967296 := Nat.mod_mod _ _
    refine W_seq_reg fun K hK => ?_
    simp -implicitDefEqProofs (disch := omega) only [go_sem, Nat.reduceEqDiff, Nat.reduceAdd, ↓reduceIte, k2, k0, k3, ea, eb]
    refine bsW_of fun w4 hx4 hb4 hs4 => ?_
    have hU : U32 w4 (Dl D [g2]) _ 2 2 _ := (own2 hb4 (Nat.mod_lt _ (by omega)) (Nat.mod_lt _ (by omega))).u32 fun k hk => hD k hk
    replace hb2 := hb2.ext hx4
    replace hD := hD.kp hx4
    replace hx := hx.trans hx4
    have hv : val [z.natAbs % 4294967296, z.natAbs / 4294967296 % 4294967296] = z.natAbs := by simp only [val, B]; omega
    refine callW_of cal218 (big_v (s := decide (z < 0)) hU.in (by simp) hD) ?_
    rintro _ w5 ⟨v5, rfl, hx5, h5⟩; refine ⟨_, rfl, ?_⟩
    replace hb2 := hb2.ext hx5
    replace hD := hD.kp hx5
    replace hx := hx.trans hx5
    clear hx5
    rw [hv, sgn_self] at h5
    refine storeS hb2 siz35 rfl (fB_s h5) fun w90 hk90 hb90 => ?_
    refine hK _ _ ?_; clear hK
    refine W_ret ?_
    try simp only [thenE_r, inB_r]
    exact retS rfl (by first | exact rfl | assumption | exact (by (try simp only [upd_ap, Nat.reduceEqDiff, ↓reduceIte]); first | done | assumption | exact rfl)) agg35 hb90 (fB_s h5) (Rt.fin hx h5 hk90 (by simp) (by omega))
  by_cases hn : z < 0
  · refine W_seq_reg fun K hK => ?_
    simp -implicitDefEqProofs (disch := omega) only [go_sem, Nat.reduceEqDiff, Nat.reduceAdd, ↓reduceIte, hn]
    refine hK _ _ ?_; clear hK K
    refine W_cond rfl (fun hc => ?_) (fun hc => by cases hc)
    have e1 : IntKind.u64.wrap (0 - IntKind.u64.wrap z) = ((z.natAbs : Nat) : Int) := by rw [u64_wrap, u64_wrap]; omega
    refine W_regK fun K9 hK9 => ?_
    simp -implicitDefEqProofs (disch := omega) only [go_sem, Nat.reduceEqDiff, Nat.reduceAdd, ↓reduceIte, e1]
    refine hK9 _ _ ?_; clear hK9 K9
    exact fin _ (by (try simp only [upd_ap, Nat.reduceEqDiff, ↓reduceIte]); first | done | assumption | exact rfl) (by (try simp only [upd_ap, Nat.reduceEqDiff, ↓reduceIte]); first | done | assumption | exact rfl) (by (try simp only [upd_ap, Nat.reduceEqDiff, ↓reduceIte]); first | done | assumption | exact rfl)
  · have hn' : ¬ z < 0 := hn
    refine W_seq_reg fun K hK => ?_
    simp -implicitDefEqProofs (disch := omega) only [go_sem, Nat.reduceEqDiff, Nat.reduceAdd, ↓reduceIte, hn']
    refine hK _ _ ?_; clear hK K
    refine W_cond rfl (fun hc => by cases hc) (fun hc => W_skip ?_)
    exact fin _ (by (try simp only [upd_ap, Nat.reduceEqDiff, ↓reduceIte]); first | done | assumption | exact rfl) (by (try simp only [upd_ap, Nat.reduceEqDiff, ↓reduceIte]); first | done | assumption | exact rfl) (by simp only [upd_ap, Nat.reduceEqDiff, ↓reduceIte]; rw [u64_in (by omega) (by omega)]; congr 1; omega)
theorem iSign_v {a : Int} (h : In (fB a) D v w) (ha : bl a.natAbs ≤ 20000000) : Calls Tryz.prog 199 #[v] w fun e w' => e = .returned (.int .i64 a.sign) ∧ Ext w w' := by
  obtain ⟨s, A, n, c, rfl, _⟩ := id h
  have hm := h.mag
  have hsg := h.sg
  have hp := @lim_length_pos a.natAbs
  refine calls_W Tryz.func199 rfl Tryz.ntmps199 (by kernel_rfl) ?_
  refine W_seq_reg fun K hK => ?_
  simp -implicitDefEqProofs (disch := omega) only [go_sem, Nat.reduceEqDiff, Nat.reduceAdd, ↓reduceIte]
  refine boxW_of ?_
  intro g1 w1 hg1 hx1 hb1 hs1
  refine hK _ _ ?_; clear hK K
  have hx : Ext w w1 := hx1
  replace hm := hm.ext hx
  clear hx1
  refine W_seq_blk fun K hK => ?_
  refine W_seq_reg fun K1 hK1 => ?_
  simp -implicitDefEqProofs (disch := omega) only [go_sem, Nat.reduceEqDiff, Nat.reduceAdd, ↓reduceIte, hb1.c1]
  refine callW_of cal245 (trimL_v hm ha) ?_
  rintro _ w6 ⟨v6, rfl, hx6, h6⟩; refine ⟨_, rfl, ?_⟩
  replace hm := hm.ext hx6
  replace hb1 := hb1.ext hx6
  replace hx := hx.trans hx6
  clear hx6
  obtain ⟨A6, n6, c6, rfl, _⟩ := id h6
  have hlen := h6.u32.len
  simp -implicitDefEqProofs (disch := omega) only [go_sem, Nat.reduceEqDiff, Nat.reduceAdd, ↓reduceIte]
  refine hK1 _ _ ?_; clear hK1 K1
  by_cases hz : n6 = 0
  · have q : ((n6 : Int) == 0) = true := by rw [beq0]; exact decide_eq_true hz
    refine W_cond rfl (fun hc => ?_) (fun hc => by rw [q] at hc; cases hc)
    refine W_seq_reg fun K hK => ?_
    simp -implicitDefEqProofs (disch := omega) only [go_sem, Nat.reduceEqDiff, Nat.reduceAdd, ↓reduceIte]
    refine hK _ _ ?_; clear hK K
    have h0 : a = 0 := by omega
    refine W_ret ?_
    try simp only [thenE_r, inB_r]
    refine ret1 rfl ⟨by rw [h0]; rfl, hx⟩
  · have q : ((n6 : Int) == 0) = false := by rw [beq0]; exact decide_eq_false hz
    refine W_cond rfl (fun hc => by rw [q] at hc; cases hc) (fun hc => ?_)
    refine W_seq_reg fun K hK => ?_
    simp -implicitDefEqProofs (disch := omega) only [go_sem, Nat.reduceEqDiff, Nat.reduceAdd, ↓reduceIte, hb1.c0]
    refine hK _ _ ?_; clear hK K
    by_cases hn : a < 0
    · have hs : s = true := by rw [hsg]; simpa using hn
      subst hs
      refine W_cond rfl (fun hc => ?_) (fun hc => by cases hc)
      refine W_seq_reg fun K hK => ?_
      simp -implicitDefEqProofs (disch := omega) only [go_sem, Nat.reduceEqDiff, Nat.reduceAdd, ↓reduceIte]
      refine hK _ _ ?_; clear hK K
      refine W_ret ?_
      try simp only [thenE_r, inB_r]
      refine ret1 rfl ⟨by rw [Int.sign_eq_neg_one_of_neg hn]; rfl, hx⟩
    · have hs : s = false := by rw [hsg]; simpa using hn
      subst hs
      refine W_cond rfl (fun hc => by cases hc) (fun hc => W_skip (hK _ _ ?_))
      refine W_seq_reg fun K hK => ?_
      simp -implicitDefEqProofs (disch := omega) only [go_sem, Nat.reduceEqDiff, Nat.reduceAdd, ↓reduceIte]
      refine hK _ _ ?_; clear hK K
      refine W_ret ?_
      try simp only [thenE_r, inB_r]
      refine ret1 rfl ⟨by rw [Int.sign_eq_one_of_pos (by omega)]; rfl, hx⟩
theorem iBitLen_v {a : Int} (h : In (fB a) D v w) (ha : bl a.natAbs ≤ 20000000) : Calls Tryz.prog 213 #[v] w fun e w' => e = .returned (.int .i64 (bl a.natAbs : Nat)) ∧ Ext w w' := by
  obtain ⟨s, A, n, c, rfl, _⟩ := id h
  have hm := h.mag
  refine calls_W Tryz.func213 rfl Tryz.ntmps213 (by kernel_rfl) ?_
  refine W_seq_reg fun K hK => ?_
  simp -implicitDefEqProofs (disch := omega) only [go_sem, Nat.reduceEqDiff, Nat.reduceAdd, ↓reduceIte]
  refine boxW_of ?_
  intro g1 w1 hg1 hx1 hb1 hs1
  refine hK _ _ ?_; clear hK K
  have hx : Ext w w1 := hx1
  replace hm := hm.ext hx
  clear hx1
  refine W_seq_reg fun K hK => ?_
  simp -implicitDefEqProofs (disch := omega) only [go_sem, Nat.reduceEqDiff, Nat.reduceAdd, ↓reduceIte, hb1.c1]
  refine callW_of cal245 (trimL_v hm ha) ?_
  rintro _ w6 ⟨v6, rfl, hx6, h6⟩; refine ⟨_, rfl, ?_⟩
  replace hm := hm.ext hx6
  replace hb1 := hb1.ext hx6
  replace hx := hx.trans hx6
  clear hx6
  refine callW_of cal247 (length_v h6 ha) ?_
  rintro _ _ ⟨rfl, rfl⟩; refine ⟨_, rfl, ?_⟩
  refine hK _ _ ?_; clear hK
  refine W_ret ?_
  try simp only [thenE_r, inB_r]
  refine ret1 rfl ⟨rfl, hx⟩
theorem iTZ_v {a : Int} (hT : Tabs w) (h : In (fB a) D v w) (ha : bl a.natAbs ≤ 20000000) : Calls Tryz.prog 243 #[v] w fun e w' => e = .returned (.int .i64 (tz a.natAbs : Nat)) ∧ Ext w w' := by
  obtain ⟨s, A, n, c, rfl, _⟩ := id h
  have hm := h.mag
  have hlim := len_lim ha
  have hlen := hm.u32.len
  refine calls_W Tryz.func243 rfl Tryz.ntmps243 (by kernel_rfl) ?_
  refine W_seq_reg fun K hK => ?_
  simp -implicitDefEqProofs (disch := omega) only [go_sem, Nat.reduceEqDiff, Nat.reduceAdd, ↓reduceIte]
  refine boxW_of ?_
  intro g1 w1 hg1 hx1 hb1 hs1
  refine hK _ _ ?_; clear hK K
  have hx : Ext w w1 := hx1
  replace hm := hm.ext hx
  clear hx1
  replace hT := hT.ext hx
  refine W_seq_k fun K0 hK0 => ?_
  refine W_seq_reg fun K hK => ?_
  simp -implicitDefEqProofs (disch := omega) only [go_sem, Nat.reduceEqDiff, Nat.reduceAdd, ↓reduceIte, hb1.c1]
  refine hK _ _ ?_; clear hK K
  refine W_block ?_
  refine W_loop (fun e2 w2' => w2' = w1 ∧ ∃ k : Nat, e2 8 = .int .i64 k ∧ k ≤ n ∧ val ((lim a.natAbs).take k) = 0) (fun e2 _ => n - (RowKit.intOf (e2 8)).toNat) ⟨rfl, 0, rfl, Nat.zero_le _, by simp [val]⟩ ?_
  rintro e1 w2 ⟨rfl, k, k8, hkn, hv⟩ hkk
  have k6 : e1 6 = .slice A n c := (hkk 6 (by kernel_rfl)).trans (by (try simp only [upd_ap, Nat.reduceEqDiff, ↓reduceIte]); first | done | assumption | exact rfl)
  have k7 : e1 7 = .int .i64 n := (hkk 7 (by kernel_rfl)).trans (by (try simp only [upd_ap, Nat.reduceEqDiff, ↓reduceIte]); first | done | assumption | exact rfl)
  clear hkk
  by_cases hlt : k < n
  · have hlt' : (k : Int) < n := by omega
    refine W_seq_reg fun K hK => ?_
    simp -implicitDefEqProofs (disch := omega) only [go_sem, Nat.reduceEqDiff, Nat.reduceAdd, ↓reduceIte, k8, k7, hlt']
    refine hK _ _ ?_; clear hK K
    refine W_seq_k fun K1 hK1 => ?_
    refine W_cond rfl (fun hc1 => W_skip (hK1 _ _ ?_)) (fun hc1 => by cases hc1)
    clear hK1
    refine W_seq_blk fun K hK => ?_
    have e2 : (0 : Int) ≤ k ∧ (k : Int) < n := by omega
    obtain ⟨ad, rfl, -⟩ := hm.u32.cell hlt
    refine W_seq_reg fun K hK => ?_
    simp -implicitDefEqProofs (disch := omega) only [go_sem, Nat.reduceEqDiff, Nat.reduceAdd, ↓reduceIte, k8, k6, e2, hm.u32.cx hlt]
    refine hK _ _ ?_; clear hK K
    refine W_seq_reg fun K hK => ?_
    simp -implicitDefEqProofs (disch := omega) only [go_sem, Nat.reduceEqDiff, Nat.reduceAdd, ↓reduceIte]
    refine hK _ _ ?_; clear hK K
    by_cases hz : dg (lim a.natAbs) k = 0
    · have hz' : (((dg (lim a.natAbs) k : Nat) : Int) != 0) = false := by rw [bne0]; simpa using hz
      refine W_cond rfl (fun hc => by rw [hz'] at hc; cases hc) (fun hc => W_skip (hK _ _ ?_))
      clear hK
      refine W_regK fun K9 hK9 => ?_
      simp -implicitDefEqProofs (disch := omega) only [go_sem, Nat.reduceEqDiff, Nat.reduceAdd, ↓reduceIte, k8, i64_in]
      refine hK9 _ _ ?_; clear hK9 K9
      refine ⟨⟨rfl, k + 1, rfl, by omega, val_zero_iff.2 ⟨hv, hz⟩⟩, ?_⟩
      simp only [upd_ap, ↓reduceIte, RowKit.intOf, k8]; omega
    · have hz' : (((dg (lim a.natAbs) k : Nat) : Int) != 0) = true := by rw [bne0]; simpa using hz
      refine W_cond rfl (fun hc => ?_) (fun hc => by rw [hz'] at hc; cases hc)
      have htv := tz_val (lim_all _) (by omega) hv hz
      rw [val_lim] at htv
      have hlt32 := tz_lt32 hz (hm.u32.dg_lt k)
      have hs1 : IntKind.i64.wrap ((k : Int) * 32) = ((32 * k : Nat) : Int) := by rw [i64_in (by omega) (by omega)]; omega
      have hs2 : IntKind.i64.wrap (((32 * k : Nat) : Int) + ((tz (dg (lim a.natAbs) k) : Nat) : Int)) = ((tz a.natAbs : Nat) : Int) := by
        unfold dg at *
        rw [i64_in (by omega) (by omega)]; omega
      refine W_seq_reg fun K hK => ?_
      simp -implicitDefEqProofs (disch := omega) only [go_sem, Nat.reduceEqDiff, Nat.reduceAdd, ↓reduceIte, hs1]
      refine callW_of cal192 (tz32_ok hT (by omega) (hm.u32.dg_lt _)) ?_
      rintro _ _ ⟨rfl, rfl⟩; refine ⟨_, rfl, ?_⟩
      simp -implicitDefEqProofs (disch := omega) only [go_sem, Nat.reduceEqDiff, Nat.reduceAdd, ↓reduceIte, hs2]
      refine hK _ _ ?_; clear hK
      refine W_ret ?_
      try simp only [thenE_r, inB_r]
      refine ret1 rfl ⟨rfl, hx⟩
  · have hlt' : ¬ (k : Int) < n := by omega
    refine W_seq_reg fun K hK => ?_
    simp -implicitDefEqProofs (disch := omega) only [go_sem, Nat.reduceEqDiff, Nat.reduceAdd, ↓reduceIte, k8, k7, hlt']
    refine hK _ _ ?_; clear hK K
    refine W_seq_k fun K1 hK1 => ?_
    refine W_cond rfl (fun hc1 => by cases hc1) (fun hc1 => W_exit (hK0 _ _ ?_))
    obtain rfl : k = n := by omega
    refine W_seq_reg fun K hK => ?_
    simp -implicitDefEqProofs (disch := omega) only [go_sem, Nat.reduceEqDiff, Nat.reduceAdd, ↓reduceIte]
    refine hK _ _ ?_; clear hK K
    have h0 : a.natAbs = 0 := by
      rw [val_take_ge _ _ (by omega), val_lim] at hv; exact hv
    refine W_ret ?_
    try simp only [thenE_r, inB_r]
    refine ret1 rfl ⟨by rw [h0]; rfl, hx⟩
end
end Go.Proofs.YtjamnehcmaloeaaGreatDoor
end
