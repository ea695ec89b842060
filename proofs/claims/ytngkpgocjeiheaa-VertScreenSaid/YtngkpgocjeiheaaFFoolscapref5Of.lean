-- Laid by this session's regroup.py out of the kit's print of this seat.
import Derived.Test.YtngkpgocjeiheaaVb
namespace Go.Proofs.Ytngkpgocjeiheaa.V
open Go.RowKit Go.Proofs.YtngkpgocjeiheaaW.PrintWords Go.Proofs.YtngkpgocjeiheaaW.PrintLast Go.Proofs.YtngkpgocjeiheaaW.PrintMore
attribute [local go_sem] max2_int min2_int max_two min_two max_three min_three max_four min_four   -- for this text's walks alone
set_option linter.unusedVariables false
set_option linter.unusedSimpArgs false

/-! ### foolscapref5_Of: function 32 -/
def foolscapref5_Of.j0 : Nat → Int → Bool → Bool → Option (Int)
  | 0, _, _, _ => none
  | k + 1, x0, x1, x5 => if x5 = true then (some 0) else (if x1 = true then (some 1) else (if x0 ≥ 97 then (if x0 ≤ 122 then (some 1) else (if x0 ≥ 65 then (if x0 ≤ 90 then (some 1) else (if x0 ≥ 48 then (if x0 ≤ 57 then (some 1) else (if x0 = 95 then (some 1) else (if x0 ≥ 128 then (some 1) else (some 2)))) else (if x0 = 95 then (some 1) else (if x0 ≥ 128 then (some 1) else (some 2))))) else (if x0 ≥ 48 then (if x0 ≤ 57 then (some 1) else (if x0 = 95 then (some 1) else (if x0 ≥ 128 then (some 1) else (some 2)))) else (if x0 = 95 then (some 1) else (if x0 ≥ 128 then (some 1) else (some 2)))))) else (if x0 ≥ 65 then (if x0 ≤ 90 then (some 1) else (if x0 ≥ 48 then (if x0 ≤ 57 then (some 1) else (if x0 = 95 then (some 1) else (if x0 ≥ 128 then (some 1) else (some 2)))) else (if x0 = 95 then (some 1) else (if x0 ≥ 128 then (some 1) else (some 2))))) else (if x0 ≥ 48 then (if x0 ≤ 57 then (some 1) else (if x0 = 95 then (some 1) else (if x0 ≥ 128 then (some 1) else (some 2)))) else (if x0 = 95 then (some 1) else (if x0 ≥ 128 then (some 1) else (some 2)))))))
def foolscapref5_Of.f (k : Nat) (a0 : Int) (a1 : Bool) : Option (Int) := if a0 = 32 then (foolscapref5_Of.j0 k a0 a1 true) else (foolscapref5_Of.j0 k a0 a1 (a0 == 9))
theorem foolscapref5_Of.mono_l : ∀ k, (∀ y0 y1 y2, LeO (foolscapref5_Of.j0 k y0 y1 y2) (foolscapref5_Of.j0 (k + 1) y0 y1 y2))
  | 0 => fun _ _ _ r h => by simp [foolscapref5_Of.j0] at h
  | k + 1 => by
    have ih0 := foolscapref5_Of.mono_l k
    · intro y0 y1 y2
      unfold foolscapref5_Of.j0
      repeat' first
      | (with_reducible exact ih0 _ _ _)
      | (with_reducible exact LeO.refl _)
      | (with_reducible exact LeO.none _)
      | (with_reducible refine LeO.ite ?_ ?_)
      | (with_reducible refine LeO.bind ?_ (fun _ => ?_))
      | exact ih0 _ _ _
      | exact LeO.none _
      | refine LeO.ite ?_ ?_
      | refine LeO.bind ?_ (fun _ => ?_)
theorem foolscapref5_Of.mono : ∀ a0 a1 k, LeO (foolscapref5_Of.f k a0 a1) (foolscapref5_Of.f (k + 1) a0 a1) := by
  intro a0 a1 k
  have ih0 := foolscapref5_Of.mono_l k
  unfold foolscapref5_Of.f
  repeat' first
      | (with_reducible exact ih0 _ _ _)
      | (with_reducible exact LeO.refl _)
      | (with_reducible exact LeO.none _)
      | (with_reducible refine LeO.ite ?_ ?_)
      | (with_reducible refine LeO.bind ?_ (fun _ => ?_))
      | exact ih0 _ _ _
      | exact LeO.none _
      | refine LeO.ite ?_ ?_
      | refine LeO.bind ?_ (fun _ => ?_)
set_option maxHeartbeats 8000000 in
set_option maxRecDepth 100000 in
theorem foolscapref5_Of.calls (k : Nat) (a0 : Int) (a1 : Bool) (r : Int) (w : World) (h : foolscapref5_Of.f k a0 a1 = some r) :
    Calls Try.prog 32 #[.int .u8 a0, .bool a1] w fun e w' => e = .returned (.int .i64 r) ∧ Drawn0 w w' := by
  have H : (if a0 = 32 then (foolscapref5_Of.j0 k a0 a1 true) else (foolscapref5_Of.j0 k a0 a1 (a0 == 9))) = some r := h
  clear h
  have HC3 := Aside0.mk H
  clear H
  go_enter Try.func32, Try.ntmps32
  go_upto_region 1 with (fail)
  go_cut [5] (fun v5 wc => ∃ (kq : Nat) (x5_2 : Bool), v5 = .bool x5_2 ∧ Aside0 (foolscapref5_Of.j0 kq a0 a1 x5_2 = some r) ∧ Aside0 (kq ≤ k) ∧ Drawn0 w wc)
  case first =>
    have H := HC3.out
    clear HC3
    by_cases c4 : a0 = 32
    · rw [if_pos c4] at H
      have c4b0 : (a0 == 32) = true := beq_iff_eq.mpr c4
      have c4b1 : (a0 != 32) = false := bne_eq_false_iff_eq.mpr c4
      clear c4
      (first | rw [c4b0] | (simp only [i64_w, i32_w]; rw [c4b0]) | skip)
      have H' := Aside0.mk H
      clear H
      go_wp2
      go_meet
      case rel => exact ⟨_, (true), (by first | rfl | (simp; done) | (simp [*]; done)), H', ⟨by first | omega | exact Nat.le_refl _⟩, by repeat (first | exact Drawn0.refl _ | apply Drawn0.step)⟩
    · rw [if_neg c4] at H
      have c4b0 : (a0 == 32) = false := beq_eq_false_iff_ne.mpr c4
      have c4b1 : (a0 != 32) = true := bne_iff_ne.mpr c4
      (first | rw [c4b0] | (simp only [i64_w, i32_w]; rw [c4b0]) | skip)
      have H' := Aside0.mk H
      clear H
      go_wp2
      go_meet
      case rel => exact ⟨_, ((a0 == 9)), (by first | rfl | (simp; done) | (simp [*]; done)), H', ⟨by first | omega | exact Nat.le_refl _⟩, by repeat (first | exact Drawn0.refl _ | apply Drawn0.step)⟩
  case rest =>
    clear HC3
    try clear p2
    try clear c3
    try clear c4
    try clear c4b0
    try clear c4b1
    obtain ⟨kq, x5_2, rfl, HA, HJ2, ⟨mc2, rfl⟩⟩ := hcut
    cases kq with
    | zero => exact absurd HA.out (by simp [foolscapref5_Of.j0])
    | succ kj2 =>
      have H := HA.out
      clear HA
      simp only [foolscapref5_Of.j0] at H
      by_cases c5 : x5_2 = true
      · subst c5
        have H1 : (some 0) = some r := by rw [if_pos rfl] at H; exact H
        clear H
        have H := H1
        clear H1
        obtain rfl := Option.some.inj H
        go_wp2
        go_ret
        exact ⟨by first | rfl | (simp; done) | (simp [*]; done), by repeat (first | exact Drawn0.refl _ | apply Drawn0.step)⟩
      · replace c5 := Bool.eq_false_iff.mpr c5
        subst c5
        have H1 : (if a1 = true then (some 1) else (if a0 ≥ 97 then (if a0 ≤ 122 then (some 1) else (if a0 ≥ 65 then (if a0 ≤ 90 then (some 1) else (if a0 ≥ 48 then (if a0 ≤ 57 then (some 1) else (if a0 = 95 then (some 1) else (if a0 ≥ 128 then (some 1) else (some 2)))) else (if a0 = 95 then (some 1) else (if a0 ≥ 128 then (some 1) else (some 2))))) else (if a0 ≥ 48 then (if a0 ≤ 57 then (some 1) else (if a0 = 95 then (some 1) else (if a0 ≥ 128 then (some 1) else (some 2)))) else (if a0 = 95 then (some 1) else (if a0 ≥ 128 then (some 1) else (some 2)))))) else (if a0 ≥ 65 then (if a0 ≤ 90 then (some 1) else (if a0 ≥ 48 then (if a0 ≤ 57 then (some 1) else (if a0 = 95 then (some 1) else (if a0 ≥ 128 then (some 1) else (some 2)))) else (if a0 = 95 then (some 1) else (if a0 ≥ 128 then (some 1) else (some 2))))) else (if a0 ≥ 48 then (if a0 ≤ 57 then (some 1) else (if a0 = 95 then (some 1) else (if a0 ≥ 128 then (some 1) else (some 2)))) else (if a0 = 95 then (some 1) else (if a0 ≥ 128 then (some 1) else (some 2))))))) = some r := by rw [if_neg (show ¬ (false = true) by decide)] at H; exact H
        clear H
        have H := H1
        clear H1
        by_cases c6 : a1 = true
        · subst c6
          have H1 : (some 1) = some r := by rw [if_pos rfl] at H; exact H
          clear H
          have H := H1
          clear H1
          obtain rfl := Option.some.inj H
          go_wp2
          go_ret
          exact ⟨by first | rfl | (simp; done) | (simp [*]; done), by repeat (first | exact Drawn0.refl _ | apply Drawn0.step)⟩
        · replace c6 := Bool.eq_false_iff.mpr c6
          subst c6
          have H1 : (if a0 ≥ 97 then (if a0 ≤ 122 then (some 1) else (if a0 ≥ 65 then (if a0 ≤ 90 then (some 1) else (if a0 ≥ 48 then (if a0 ≤ 57 then (some 1) else (if a0 = 95 then (some 1) else (if a0 ≥ 128 then (some 1) else (some 2)))) else (if a0 = 95 then (some 1) else (if a0 ≥ 128 then (some 1) else (some 2))))) else (if a0 ≥ 48 then (if a0 ≤ 57 then (some 1) else (if a0 = 95 then (some 1) else (if a0 ≥ 128 then (some 1) else (some 2)))) else (if a0 = 95 then (some 1) else (if a0 ≥ 128 then (some 1) else (some 2)))))) else (if a0 ≥ 65 then (if a0 ≤ 90 then (some 1) else (if a0 ≥ 48 then (if a0 ≤ 57 then (some 1) else (if a0 = 95 then (some 1) else (if a0 ≥ 128 then (some 1) else (some 2)))) else (if a0 = 95 then (some 1) else (if a0 ≥ 128 then (some 1) else (some 2))))) else (if a0 ≥ 48 then (if a0 ≤ 57 then (some 1) else (if a0 = 95 then (some 1) else (if a0 ≥ 128 then (some 1) else (some 2)))) else (if a0 = 95 then (some 1) else (if a0 ≥ 128 then (some 1) else (some 2)))))) = some r := by rw [if_neg (show ¬ (false = true) by decide)] at H; exact H
          clear H
          have H := H1
          clear H1
          by_cases c7 : a0 ≥ 97
          · rw [if_pos c7] at H
            have c7b0 : decide (97 ≤ a0) = true := decide_eq_true c7
            clear c7
            by_cases c8 : a0 ≤ 122
            · rw [if_pos c8] at H
              have c8b0 : decide (a0 ≤ 122) = true := decide_eq_true c8
              clear c8
              obtain rfl := Option.some.inj H
              go_wp2
              go_ret
              exact ⟨by first | rfl | (simp; done) | (simp [*]; done), by repeat (first | exact Drawn0.refl _ | apply Drawn0.step)⟩
            · rw [if_neg c8] at H
              have c8b0 : decide (a0 ≤ 122) = false := decide_eq_false c8
              clear c8
              by_cases c9 : a0 ≥ 65
              · rw [if_pos c9] at H
                have c9b0 : decide (65 ≤ a0) = true := decide_eq_true c9
                clear c9
                by_cases c10 : a0 ≤ 90
                · rw [if_pos c10] at H
                  have c10b0 : decide (a0 ≤ 90) = true := decide_eq_true c10
                  clear c10
                  obtain rfl := Option.some.inj H
                  go_wp2
                  go_ret
                  exact ⟨by first | rfl | (simp; done) | (simp [*]; done), by repeat (first | exact Drawn0.refl _ | apply Drawn0.step)⟩
                · rw [if_neg c10] at H
                  have c10b0 : decide (a0 ≤ 90) = false := decide_eq_false c10
                  clear c10
                  by_cases c11 : a0 ≥ 48
                  · rw [if_pos c11] at H
                    have c11b0 : decide (48 ≤ a0) = true := decide_eq_true c11
                    clear c11
                    by_cases c12 : a0 ≤ 57
                    · rw [if_pos c12] at H
                      have c12b0 : decide (a0 ≤ 57) = true := decide_eq_true c12
                      clear c12
                      obtain rfl := Option.some.inj H
                      go_wp2
                      go_ret
                      exact ⟨by first | rfl | (simp; done) | (simp [*]; done), by repeat (first | exact Drawn0.refl _ | apply Drawn0.step)⟩
                    · rw [if_neg c12] at H
                      have c12b0 : decide (a0 ≤ 57) = false := decide_eq_false c12
                      clear c12
                      by_cases c13 : a0 = 95
                      · rw [if_pos c13] at H
                        have c13b0 : (a0 == 95) = true := beq_iff_eq.mpr c13
                        have c13b1 : (a0 != 95) = false := bne_eq_false_iff_eq.mpr c13
                        clear c13
                        obtain rfl := Option.some.inj H
                        go_wp2
                        go_ret
                        exact ⟨by first | rfl | (simp; done) | (simp [*]; done), by repeat (first | exact Drawn0.refl _ | apply Drawn0.step)⟩
                      · rw [if_neg c13] at H
                        have c13b0 : (a0 == 95) = false := beq_eq_false_iff_ne.mpr c13
                        have c13b1 : (a0 != 95) = true := bne_iff_ne.mpr c13
                        by_cases c14 : a0 ≥ 128
                        · rw [if_pos c14] at H
                          have c14b0 : decide (128 ≤ a0) = true := decide_eq_true c14
                          clear c14
                          obtain rfl := Option.some.inj H
                          go_wp2
                          go_ret
                          exact ⟨by first | rfl | (simp; done) | (simp [*]; done), by repeat (first | exact Drawn0.refl _ | apply Drawn0.step)⟩
                        · rw [if_neg c14] at H
                          have c14b0 : decide (128 ≤ a0) = false := decide_eq_false c14
                          clear c14
                          obtain rfl := Option.some.inj H
                          go_wp2
                          go_ret
                          exact ⟨by first | rfl | (simp; done) | (simp [*]; done), by repeat (first | exact Drawn0.refl _ | apply Drawn0.step)⟩
                  · rw [if_neg c11] at H
                    have c11b0 : decide (48 ≤ a0) = false := decide_eq_false c11
                    clear c11
                    by_cases c15 : a0 = 95
                    · rw [if_pos c15] at H
                      have c15b0 : (a0 == 95) = true := beq_iff_eq.mpr c15
                      have c15b1 : (a0 != 95) = false := bne_eq_false_iff_eq.mpr c15
                      clear c15
                      obtain rfl := Option.some.inj H
                      go_wp2
                      go_ret
                      exact ⟨by first | rfl | (simp; done) | (simp [*]; done), by repeat (first | exact Drawn0.refl _ | apply Drawn0.step)⟩
                    · rw [if_neg c15] at H
                      have c15b0 : (a0 == 95) = false := beq_eq_false_iff_ne.mpr c15
                      have c15b1 : (a0 != 95) = true := bne_iff_ne.mpr c15
                      by_cases c16 : a0 ≥ 128
                      · rw [if_pos c16] at H
                        have c16b0 : decide (128 ≤ a0) = true := decide_eq_true c16
                        clear c16
                        obtain rfl := Option.some.inj H
                        go_wp2
                        go_ret
                        exact ⟨by first | rfl | (simp; done) | (simp [*]; done), by repeat (first | exact Drawn0.refl _ | apply Drawn0.step)⟩
                      · rw [if_neg c16] at H
                        have c16b0 : decide (128 ≤ a0) = false := decide_eq_false c16
                        clear c16
                        obtain rfl := Option.some.inj H
                        go_wp2
                        go_ret
                        exact ⟨by first | rfl | (simp; done) | (simp [*]; done), by repeat (first | exact Drawn0.refl _ | apply Drawn0.step)⟩
              · rw [if_neg c9] at H
                have c9b0 : decide (65 ≤ a0) = false := decide_eq_false c9
                clear c9
                by_cases c17 : a0 ≥ 48
                · rw [if_pos c17] at H
                  have c17b0 : decide (48 ≤ a0) = true := decide_eq_true c17
                  clear c17
                  by_cases c18 : a0 ≤ 57
                  · rw [if_pos c18] at H
                    have c18b0 : decide (a0 ≤ 57) = true := decide_eq_true c18
                    clear c18
                    obtain rfl := Option.some.inj H
                    go_wp2
                    go_ret
                    exact ⟨by first | rfl | (simp; done) | (simp [*]; done), by repeat (first | exact Drawn0.refl _ | apply Drawn0.step)⟩
                  · rw [if_neg c18] at H
                    have c18b0 : decide (a0 ≤ 57) = false := decide_eq_false c18
                    clear c18
                    by_cases c19 : a0 = 95
                    · rw [if_pos c19] at H
                      have c19b0 : (a0 == 95) = true := beq_iff_eq.mpr c19
                      have c19b1 : (a0 != 95) = false := bne_eq_false_iff_eq.mpr c19
                      clear c19
                      obtain rfl := Option.some.inj H
                      go_wp2
                      go_ret
                      exact ⟨by first | rfl | (simp; done) | (simp [*]; done), by repeat (first | exact Drawn0.refl _ | apply Drawn0.step)⟩
                    · rw [if_neg c19] at H
                      have c19b0 : (a0 == 95) = false := beq_eq_false_iff_ne.mpr c19
                      have c19b1 : (a0 != 95) = true := bne_iff_ne.mpr c19
                      by_cases c20 : a0 ≥ 128
                      · rw [if_pos c20] at H
                        have c20b0 : decide (128 ≤ a0) = true := decide_eq_true c20
                        clear c20
                        obtain rfl := Option.some.inj H
                        go_wp2
                        go_ret
                        exact ⟨by first | rfl | (simp; done) | (simp [*]; done), by repeat (first | exact Drawn0.refl _ | apply Drawn0.step)⟩
                      · rw [if_neg c20] at H
                        have c20b0 : decide (128 ≤ a0) = false := decide_eq_false c20
                        clear c20
                        obtain rfl := Option.some.inj H
                        go_wp2
                        go_ret
                        exact ⟨by first | rfl | (simp; done) | (simp [*]; done), by repeat (first | exact Drawn0.refl _ | apply Drawn0.step)⟩
                · rw [if_neg c17] at H
                  have c17b0 : decide (48 ≤ a0) = false := decide_eq_false c17
                  clear c17
                  by_cases c21 : a0 = 95
                  · rw [if_pos c21] at H
                    have c21b0 : (a0 == 95) = true := beq_iff_eq.mpr c21
                    have c21b1 : (a0 != 95) = false := bne_eq_false_iff_eq.mpr c21
                    clear c21
                    obtain rfl := Option.some.inj H
                    go_wp2
                    go_ret
                    exact ⟨by first | rfl | (simp; done) | (simp [*]; done), by repeat (first | exact Drawn0.refl _ | apply Drawn0.step)⟩
                  · rw [if_neg c21] at H
                    have c21b0 : (a0 == 95) = false := beq_eq_false_iff_ne.mpr c21
                    have c21b1 : (a0 != 95) = true := bne_iff_ne.mpr c21
                    by_cases c22 : a0 ≥ 128
                    · rw [if_pos c22] at H
                      have c22b0 : decide (128 ≤ a0) = true := decide_eq_true c22
                      clear c22
                      obtain rfl := Option.some.inj H
                      go_wp2
                      go_ret
                      exact ⟨by first | rfl | (simp; done) | (simp [*]; done), by repeat (first | exact Drawn0.refl _ | apply Drawn0.step)⟩
                    · rw [if_neg c22] at H
                      have c22b0 : decide (128 ≤ a0) = false := decide_eq_false c22
                      clear c22
                      obtain rfl := Option.some.inj H
                      go_wp2
                      go_ret
                      exact ⟨by first | rfl | (simp; done) | (simp [*]; done), by repeat (first | exact Drawn0.refl _ | apply Drawn0.step)⟩
          · rw [if_neg c7] at H
            have c7b0 : decide (97 ≤ a0) = false := decide_eq_false c7
            clear c7
            by_cases c23 : a0 ≥ 65
            · rw [if_pos c23] at H
              have c23b0 : decide (65 ≤ a0) = true := decide_eq_true c23
              clear c23
              by_cases c24 : a0 ≤ 90
              · rw [if_pos c24] at H
                have c24b0 : decide (a0 ≤ 90) = true := decide_eq_true c24
                clear c24
                obtain rfl := Option.some.inj H
                go_wp2
                go_ret
                exact ⟨by first | rfl | (simp; done) | (simp [*]; done), by repeat (first | exact Drawn0.refl _ | apply Drawn0.step)⟩
              · rw [if_neg c24] at H
                have c24b0 : decide (a0 ≤ 90) = false := decide_eq_false c24
                clear c24
                by_cases c25 : a0 ≥ 48
                · rw [if_pos c25] at H
                  have c25b0 : decide (48 ≤ a0) = true := decide_eq_true c25
                  clear c25
                  by_cases c26 : a0 ≤ 57
                  · rw [if_pos c26] at H
                    have c26b0 : decide (a0 ≤ 57) = true := decide_eq_true c26
                    clear c26
                    obtain rfl := Option.some.inj H
                    go_wp2
                    go_ret
                    exact ⟨by first | rfl | (simp; done) | (simp [*]; done), by repeat (first | exact Drawn0.refl _ | apply Drawn0.step)⟩
                  · rw [if_neg c26] at H
                    have c26b0 : decide (a0 ≤ 57) = false := decide_eq_false c26
                    clear c26
                    by_cases c27 : a0 = 95
                    · rw [if_pos c27] at H
                      have c27b0 : (a0 == 95) = true := beq_iff_eq.mpr c27
                      have c27b1 : (a0 != 95) = false := bne_eq_false_iff_eq.mpr c27
                      clear c27
                      obtain rfl := Option.some.inj H
                      go_wp2
                      go_ret
                      exact ⟨by first | rfl | (simp; done) | (simp [*]; done), by repeat (first | exact Drawn0.refl _ | apply Drawn0.step)⟩
                    · rw [if_neg c27] at H
                      have c27b0 : (a0 == 95) = false := beq_eq_false_iff_ne.mpr c27
                      have c27b1 : (a0 != 95) = true := bne_iff_ne.mpr c27
                      by_cases c28 : a0 ≥ 128
                      · rw [if_pos c28] at H
                        have c28b0 : decide (128 ≤ a0) = true := decide_eq_true c28
                        clear c28
                        obtain rfl := Option.some.inj H
                        go_wp2
                        go_ret
                        exact ⟨by first | rfl | (simp; done) | (simp [*]; done), by repeat (first | exact Drawn0.refl _ | apply Drawn0.step)⟩
                      · rw [if_neg c28] at H
                        have c28b0 : decide (128 ≤ a0) = false := decide_eq_false c28
                        clear c28
                        obtain rfl := Option.some.inj H
                        go_wp2
                        go_ret
                        exact ⟨by first | rfl | (simp; done) | (simp [*]; done), by repeat (first | exact Drawn0.refl _ | apply Drawn0.step)⟩
                · rw [if_neg c25] at H
                  have c25b0 : decide (48 ≤ a0) = false := decide_eq_false c25
                  clear c25
                  by_cases c29 : a0 = 95
                  · rw [if_pos c29] at H
                    have c29b0 : (a0 == 95) = true := beq_iff_eq.mpr c29
                    have c29b1 : (a0 != 95) = false := bne_eq_false_iff_eq.mpr c29
                    clear c29
                    obtain rfl := Option.some.inj H
                    go_wp2
                    go_ret
                    exact ⟨by first | rfl | (simp; done) | (simp [*]; done), by repeat (first | exact Drawn0.refl _ | apply Drawn0.step)⟩
                  · rw [if_neg c29] at H
                    have c29b0 : (a0 == 95) = false := beq_eq_false_iff_ne.mpr c29
                    have c29b1 : (a0 != 95) = true := bne_iff_ne.mpr c29
                    by_cases c30 : a0 ≥ 128
                    · rw [if_pos c30] at H
                      have c30b0 : decide (128 ≤ a0) = true := decide_eq_true c30
                      clear c30
                      obtain rfl := Option.some.inj H
                      go_wp2
                      go_ret
                      exact ⟨by first | rfl | (simp; done) | (simp [*]; done), by repeat (first | exact Drawn0.refl _ | apply Drawn0.step)⟩
                    · rw [if_neg c30] at H
                      have c30b0 : decide (128 ≤ a0) = false := decide_eq_false c30
                      clear c30
                      obtain rfl := Option.some.inj H
                      go_wp2
                      go_ret
                      exact ⟨by first | rfl | (simp; done) | (simp [*]; done), by repeat (first | exact Drawn0.refl _ | apply Drawn0.step)⟩
            · rw [if_neg c23] at H
              have c23b0 : decide (65 ≤ a0) = false := decide_eq_false c23
              clear c23
              by_cases c31 : a0 ≥ 48
              · rw [if_pos c31] at H
                have c31b0 : decide (48 ≤ a0) = true := decide_eq_true c31
                clear c31
                by_cases c32 : a0 ≤ 57
                · rw [if_pos c32] at H
                  have c32b0 : decide (a0 ≤ 57) = true := decide_eq_true c32
                  clear c32
                  obtain rfl := Option.some.inj H
                  go_wp2
                  go_ret
                  exact ⟨by first | rfl | (simp; done) | (simp [*]; done), by repeat (first | exact Drawn0.refl _ | apply Drawn0.step)⟩
                · rw [if_neg c32] at H
                  have c32b0 : decide (a0 ≤ 57) = false := decide_eq_false c32
                  clear c32
                  by_cases c33 : a0 = 95
                  · rw [if_pos c33] at H
                    have c33b0 : (a0 == 95) = true := beq_iff_eq.mpr c33
                    have c33b1 : (a0 != 95) = false := bne_eq_false_iff_eq.mpr c33
                    clear c33
                    obtain rfl := Option.some.inj H
                    go_wp2
                    go_ret
                    exact ⟨by first | rfl | (simp; done) | (simp [*]; done), by repeat (first | exact Drawn0.refl _ | apply Drawn0.step)⟩
                  · rw [if_neg c33] at H
                    have c33b0 : (a0 == 95) = false := beq_eq_false_iff_ne.mpr c33
                    have c33b1 : (a0 != 95) = true := bne_iff_ne.mpr c33
                    by_cases c34 : a0 ≥ 128
                    · rw [if_pos c34] at H
                      have c34b0 : decide (128 ≤ a0) = true := decide_eq_true c34
                      clear c34
                      obtain rfl := Option.some.inj H
                      go_wp2
                      go_ret
                      exact ⟨by first | rfl | (simp; done) | (simp [*]; done), by repeat (first | exact Drawn0.refl _ | apply Drawn0.step)⟩
                    · rw [if_neg c34] at H
                      have c34b0 : decide (128 ≤ a0) = false := decide_eq_false c34
                      clear c34
                      obtain rfl := Option.some.inj H
                      go_wp2
                      go_ret
                      exact ⟨by first | rfl | (simp; done) | (simp [*]; done), by repeat (first | exact Drawn0.refl _ | apply Drawn0.step)⟩
              · rw [if_neg c31] at H
                have c31b0 : decide (48 ≤ a0) = false := decide_eq_false c31
                clear c31
                by_cases c35 : a0 = 95
                · rw [if_pos c35] at H
                  have c35b0 : (a0 == 95) = true := beq_iff_eq.mpr c35
                  have c35b1 : (a0 != 95) = false := bne_eq_false_iff_eq.mpr c35
                  clear c35
                  obtain rfl := Option.some.inj H
                  go_wp2
                  go_ret
                  exact ⟨by first | rfl | (simp; done) | (simp [*]; done), by repeat (first | exact Drawn0.refl _ | apply Drawn0.step)⟩
                · rw [if_neg c35] at H
                  have c35b0 : (a0 == 95) = false := beq_eq_false_iff_ne.mpr c35
                  have c35b1 : (a0 != 95) = true := bne_iff_ne.mpr c35
                  by_cases c36 : a0 ≥ 128
                  · rw [if_pos c36] at H
                    have c36b0 : decide (128 ≤ a0) = true := decide_eq_true c36
                    clear c36
                    obtain rfl := Option.some.inj H
                    go_wp2
                    go_ret
                    exact ⟨by first | rfl | (simp; done) | (simp [*]; done), by repeat (first | exact Drawn0.refl _ | apply Drawn0.step)⟩
                  · rw [if_neg c36] at H
                    have c36b0 : decide (128 ≤ a0) = false := decide_eq_false c36
                    clear c36
                    obtain rfl := Option.some.inj H
                    go_wp2
                    go_ret
                    exact ⟨by first | rfl | (simp; done) | (simp [*]; done), by repeat (first | exact Drawn0.refl _ | apply Drawn0.step)⟩

end Go.Proofs.Ytngkpgocjeiheaa.V
