/- Texts of the proof of 'WordsMove', merged in build order (part 4 of 5). -/
import Derived.Test.YtifkfjpkngdhmaaMWordsMove3
namespace Go.Proofs.Ytifkfjpkngdhmaa.V
open Go.RowKit Go.Proofs.YtifkfjpkngdhmaaW.PrintWords Go.Proofs.YtifkfjpkngdhmaaW.PrintLast Go.Proofs.YtifkfjpkngdhmaaW.PrintMore
attribute [local go_sem] max2_int min2_int max_two min_two max_three min_three max_four min_four   -- for this text's walks alone
set_option linter.unusedVariables false
set_option linter.unusedSimpArgs false
attribute [local go_sem high] eqA32

/-! ### foolscapref5_Ends: function 25 -/
mutual
def foolscapref5_Ends.l0 : Nat → List ByteArray → Bool → List (S24) → Int → Option ((List (S24)))
  | 0, _, _, _, _ => none
  | k + 1, x0, x1, x5, x6 => if x6 < (x0.length : Int) then (if 0 ≤ x6 then (foolscapref5_Ends.l1 k x0 x1 x5 x6 (rdOf ByteArray.empty x0 x6) 0) else (none)) else (some x5)
def foolscapref5_Ends.l1 : Nat → List ByteArray → Bool → List (S24) → Int → ByteArray → Int → Option ((List (S24)))
  | 0, _, _, _, _, _, _ => none
  | k + 1, x0, x1, x5, x6, x7, x8 => if x8 < (x7.size : Int) then (if 0 ≤ x8 then ((foolscapref5_Of.f k (bt x7 x8) x1).bind fun t270 => (if t270 = 0 then (foolscapref5_Ends.l1 k x0 x1 x5 x6 x7 (wrap64 (x8 + 1))) else (if x8 = (wrap64 ((x7.size : Int) - 1)) then (if x5.length < 8796093022208 then (foolscapref5_Ends.l1 k x0 x1 (x5 ++ [(⟨x6, x8⟩ : S24)]) x6 x7 (wrap64 (x8 + 1))) else (none)) else (if 0 ≤ (wrap64 (x8 + 1)) then (if (wrap64 (x8 + 1)) < (x7.size : Int) then ((foolscapref5_Of.f k (bt x7 (wrap64 (x8 + 1))) x1).bind fun t274 => (if t274 = t270 then (foolscapref5_Ends.l1 k x0 x1 x5 x6 x7 (wrap64 (x8 + 1))) else (if x5.length < 8796093022208 then (foolscapref5_Ends.l1 k x0 x1 (x5 ++ [(⟨x6, x8⟩ : S24)]) x6 x7 (wrap64 (x8 + 1))) else (none)))) else (none)) else (none))))) else (none)) else (foolscapref5_Ends.l0 k x0 x1 x5 (wrap64 (x6 + 1)))
end
def foolscapref5_Ends.f (k : Nat) (l0 : List ByteArray) (a1 : Bool) : Option ((List (S24))) := foolscapref5_Ends.l0 k l0 a1 ([] : List (S24)) 0
theorem foolscapref5_Ends.mono_l : ∀ k, (∀ y0 y1 y2 y3, LeO (foolscapref5_Ends.l0 k y0 y1 y2 y3) (foolscapref5_Ends.l0 (k + 1) y0 y1 y2 y3)) ∧ (∀ y0 y1 y2 y3 y4 y5, LeO (foolscapref5_Ends.l1 k y0 y1 y2 y3 y4 y5) (foolscapref5_Ends.l1 (k + 1) y0 y1 y2 y3 y4 y5))
  | 0 => ⟨fun _ _ _ _ r h => by simp [foolscapref5_Ends.l0] at h, fun _ _ _ _ _ _ r h => by simp [foolscapref5_Ends.l1] at h⟩
  | k + 1 => by
    obtain ⟨ih0, ih1⟩ := foolscapref5_Ends.mono_l k
    refine ⟨?_, ?_⟩
    · intro y0 y1 y2 y3
      unfold foolscapref5_Ends.l0
      repeat' first
      | (with_reducible exact ih0 _ _ _ _)
      | (with_reducible exact ih1 _ _ _ _ _ _)
      | (with_reducible exact foolscapref5_Of.mono _ _ _)
      | (with_reducible exact LeO.refl _)
      | (with_reducible exact LeO.none _)
      | (with_reducible refine LeO.ite ?_ ?_)
      | (with_reducible refine LeO.bind ?_ (fun _ => ?_))
      | exact ih0 _ _ _ _
      | exact ih1 _ _ _ _ _ _
      | exact foolscapref5_Of.mono _ _ _
      | exact LeO.none _
      | refine LeO.ite ?_ ?_
      | refine LeO.bind ?_ (fun _ => ?_)
    · intro y0 y1 y2 y3 y4 y5
      unfold foolscapref5_Ends.l1
      repeat' first
      | (with_reducible exact ih0 _ _ _ _)
      | (with_reducible exact ih1 _ _ _ _ _ _)
      | (with_reducible exact foolscapref5_Of.mono _ _ _)
      | (with_reducible exact LeO.refl _)
      | (with_reducible exact LeO.none _)
      | (with_reducible refine LeO.ite ?_ ?_)
      | (with_reducible refine LeO.bind ?_ (fun _ => ?_))
      | exact ih0 _ _ _ _
      | exact ih1 _ _ _ _ _ _
      | exact foolscapref5_Of.mono _ _ _
      | exact LeO.none _
      | refine LeO.ite ?_ ?_
      | refine LeO.bind ?_ (fun _ => ?_)
theorem foolscapref5_Ends.mono : ∀ a0 a1 k, LeO (foolscapref5_Ends.f k a0 a1) (foolscapref5_Ends.f (k + 1) a0 a1) := by
  intro a0 a1 k
  obtain ⟨ih0, ih1⟩ := foolscapref5_Ends.mono_l k
  unfold foolscapref5_Ends.f
  repeat' first
      | (with_reducible exact ih0 _ _ _ _)
      | (with_reducible exact ih1 _ _ _ _ _ _)
      | (with_reducible exact foolscapref5_Of.mono _ _ _)
      | (with_reducible exact LeO.refl _)
      | (with_reducible exact LeO.none _)
      | (with_reducible refine LeO.ite ?_ ?_)
      | (with_reducible refine LeO.bind ?_ (fun _ => ?_))
      | exact ih0 _ _ _ _
      | exact ih1 _ _ _ _ _ _
      | exact foolscapref5_Of.mono _ _ _
      | exact LeO.none _
      | refine LeO.ite ?_ ?_
      | refine LeO.bind ?_ (fun _ => ?_)
set_option maxHeartbeats 8000000 in
set_option maxRecDepth 100000 in
theorem foolscapref5_Ends.calls (k : Nat) (A0 : Option Addr) (c0 : Nat) (l0 : List ByteArray) (a1 : Bool) (r : List (S24)) (w : World) (hr0 : Kd.C Kd.string w A0 l0.length l0) (hc0 : l0.length ≤ c0) (h : foolscapref5_Ends.f k l0 a1 = some r) :
    Calls Try.prog 25 #[.slice A0 l0.length c0, .bool a1] w fun e w' => ∃ v0_ : Value, e = .returned (v0_) ∧ Kd.R k24 24 w' w.heap.size (fun _ => True) v0_ r ∧ Below w.heap.size w w' := by
  have hu24 := Try.underlying24
  have HR0 := Aside0.mk hr0
  have HC0 := Aside0.mk hc0
  clear hr0 hc0
  have HB := Aside0.mk (Below.refl w.heap.size w)
  have H : (foolscapref5_Ends.l0 k l0 a1 ([] : List (S24)) 0) = some r := h
  clear h
  have H' := Aside0.mk H
  clear H
  go_enter Try.func25, Try.ntmps25
  go_wp2
  go_loopg [5, 6] k (fun kq v5 v6 w' => ∃ (x5_1 : List (S24)) (x6_1 : Int), v6 = .int .i64 x6_1 ∧ Aside0 (foolscapref5_Ends.l0 kq l0 a1 x5_1 x6_1 = some r) ∧ Aside0 (kq ≤ k) ∧ Aside0 (Kd.R k24 24 w' w.heap.size (fun _ => True) v5 x5_1) ∧ Aside0 (Below w.heap.size w w'))
  case atStart => exact ⟨(([] : List (S24))), (0), (by first | rfl | (simp; done) | (simp [*]; done)), H', ⟨Nat.le_refl _⟩, ⟨by first | exact Kd.R_nil _ _ _ _ _ | exact Kd.N_nil _ _ _ _ _ | exact Kd.V_nil _ _ _ _ _ | exact Kd.Q_nil _ _ _ _ _ | exact Kd.S_nil _ _ _ _ _⟩, ⟨by repeat (first | (with_reducible first | exact HB.out | apply below_alloc | apply pw_below_drewN | apply below_drew1) | exact HB.out)⟩⟩
  case round =>
    clear H'
    try clear c2
    try clear p2
    obtain ⟨x5_1, x6_1, rfl, HA, HK1, HO_5, HB⟩ := hrel
    cases gk with
    | zero => exact absurd HA.out (by simp [foolscapref5_Ends.l0])
    | succ k1 =>
      have H := HA.out
      clear HA
      simp only [foolscapref5_Ends.l0] at H
      by_cases c3 : x6_1 < (l0.length : Int)
      · rw [if_pos c3] at H
        have c3b0 : decide (x6_1 < (l0.length : Int)) = true := decide_eq_true c3
        clear c3
        by_cases c4 : 0 ≤ x6_1
        · rw [if_pos c4] at H
          have c4b0 : decide (0 ≤ x6_1) = true := decide_eq_true c4
          clear c4
          have H' := Aside0.mk H
          clear H
          have p269 : 0 ≤ (x6_1 : Int) := of_decide_eq_true (by first | (with_reducible assumption) | assumption)
          have q269 : x6_1 < (l0.length : Int) := of_decide_eq_true (by first | (with_reducible assumption) | assumption)
          obtain ⟨ad269, e269, hx269_0⟩ := Kd.at_string HR0.out x6_1 p269 q269
          cases e269
          replace hx269_0 := (HB.out.cell (World.block_lt_of_cell? w _ hx269_0)).trans hx269_0
          replace p269 := eq_true p269
          replace q269 := eq_true q269
          go_wp2
          go_loopg [5, 8] k1 (fun kq v5 v8 w' => ∃ (x5_2 : List (S24)) (x8_2 : Int), v8 = .int .i64 x8_2 ∧ Aside0 (foolscapref5_Ends.l1 kq l0 a1 x5_2 x6_1 (rdOf ByteArray.empty l0 x6_1) x8_2 = some r) ∧ Aside0 (kq ≤ k1) ∧ Aside0 (Kd.R k24 24 w' w.heap.size (fun _ => True) v5 x5_2) ∧ Aside0 (Below w.heap.size w w'))
          case atStart => exact ⟨(x5_1), (0), (by first | rfl | (simp; done) | (simp [*]; done)), H', ⟨Nat.le_refl _⟩, ⟨by (with_reducible repeat (first | apply Kd.R_alloc | apply Kd.R_drewN | apply Kd.R_drew)); exact HO_5.out⟩, ⟨by repeat (first | (with_reducible first | exact HB.out | apply below_alloc | apply pw_below_drewN | apply below_drew1) | exact HB.out)⟩⟩
          case round =>
            clear H'
            try clear c2
            try clear p2
            try clear q2
            try clear hx2
            try clear c3
            try clear c3b0
            try clear c4
            try clear c4b0
            try clear hx269_0
            try clear p2
            try clear p269
            try clear q269
            obtain ⟨x5_2, x8_2, rfl, HA, HK2, HO_5, HB⟩ := hrel
            cases gk with
            | zero => exact absurd HA.out (by simp [foolscapref5_Ends.l1])
            | succ k2 =>
              have H := HA.out
              clear HA
              simp only [foolscapref5_Ends.l1] at H
              by_cases c5 : x8_2 < ((rdOf ByteArray.empty l0 x6_1).size : Int)
              · rw [if_pos c5] at H
                have c5b0 : decide (x8_2 < ((rdOf ByteArray.empty l0 x6_1).size : Int)) = true := decide_eq_true c5
                clear c5
                by_cases c6 : 0 ≤ x8_2
                · rw [if_pos c6] at H
                  have c6b0 : decide (0 ≤ x8_2) = true := decide_eq_true c6
                  clear c6
                  replace H := Option.bind_eq_some_iff.mp H
                  obtain ⟨t270, A80, H⟩ := H
                  replace H : (if t270 = 0 then (foolscapref5_Ends.l1 k2 l0 a1 x5_2 x6_1 (rdOf ByteArray.empty l0 x6_1) (wrap64 (x8_2 + 1))) else (if x8_2 = (wrap64 (((rdOf ByteArray.empty l0 x6_1).size : Int) - 1)) then (if x5_2.length < 8796093022208 then (foolscapref5_Ends.l1 k2 l0 a1 (x5_2 ++ [(⟨x6_1, x8_2⟩ : S24)]) x6_1 (rdOf ByteArray.empty l0 x6_1) (wrap64 (x8_2 + 1))) else (none)) else (if 0 ≤ (wrap64 (x8_2 + 1)) then (if (wrap64 (x8_2 + 1)) < ((rdOf ByteArray.empty l0 x6_1).size : Int) then ((foolscapref5_Of.f k2 (bt (rdOf ByteArray.empty l0 x6_1) (wrap64 (x8_2 + 1))) a1).bind fun t274 => (if t274 = t270 then (foolscapref5_Ends.l1 k2 l0 a1 x5_2 x6_1 (rdOf ByteArray.empty l0 x6_1) (wrap64 (x8_2 + 1))) else (if x5_2.length < 8796093022208 then (foolscapref5_Ends.l1 k2 l0 a1 (x5_2 ++ [(⟨x6_1, x8_2⟩ : S24)]) x6_1 (rdOf ByteArray.empty l0 x6_1) (wrap64 (x8_2 + 1))) else (none)))) else (none)) else (none)))) = some r := H
                  have A8 := Aside0.mk A80
                  clear A80
                  by_cases c9 : t270 = 0
                  · rw [if_pos c9] at H
                    have c9b0 : (t270 == 0) = true := beq_iff_eq.mpr c9
                    have c9b1 : (t270 != 0) = false := bne_eq_false_iff_eq.mpr c9
                    clear c9
                    have H' := Aside0.mk H
                    clear H
                    have p7 : 0 ≤ (x8_2 : Int) := of_decide_eq_true (by first | (with_reducible assumption) | assumption)
                    have q7 : x8_2 < ((rdOf ByteArray.empty l0 x6_1).size : Int) := of_decide_eq_true (by first | (with_reducible assumption) | assumption)
                    have hx7 := bt_at (rdOf ByteArray.empty l0 x6_1) x8_2
                    replace p7 := eq_true p7
                    replace q7 := eq_true q7
                    go_wp2_with (first | ((with_reducible refine gate_callee (f := 43) rfl ?_); refine goesL_ (some 30) rfl rfl Try.func43 (by kernel_rfl) rfl #[.int .u8 (bt (rdOf ByteArray.empty l0 x6_1) x8_2), .bool a1] rfl (by (try simp only [List.map_toArray, List.map_cons, List.map_nil]); first | done | rfl | (simp only [List.length_drop, List.length_take]; rfl)) ?_; (with_reducible refine (foolscapref5_Of.calls k2 (bt (rdOf ByteArray.empty l0 x6_1) x8_2) a1 t270 _ A8.out).mono ?_); rintro e w' ⟨rfl, ⟨nd, rfl⟩⟩; refine ⟨_, rfl, ?_⟩))
                    go_roundg k2
                    case measure => have := HK1.out; have := HK2.out; omega
                    case rel => exact ⟨(x5_2), (wrap64 (x8_2 + 1)), (by first | rfl | (simp; done) | (simp [*]; done)), H', ⟨by have := HK1.out; have := HK2.out; omega⟩, ⟨by (with_reducible repeat (first | apply Kd.R_alloc | apply Kd.R_drewN | apply Kd.R_drew)); exact HO_5.out⟩, ⟨by repeat (first | (with_reducible first | exact HB.out | apply below_alloc | apply pw_below_drewN | apply below_drew1) | exact HB.out)⟩⟩
                  · rw [if_neg c9] at H
                    have c9b0 : (t270 == 0) = false := beq_eq_false_iff_ne.mpr c9
                    have c9b1 : (t270 != 0) = true := bne_iff_ne.mpr c9
                    by_cases c10 : x8_2 = (wrap64 (((rdOf ByteArray.empty l0 x6_1).size : Int) - 1))
                    · rw [if_pos c10] at H
                      have c10b0 : (x8_2 == (wrap64 (((rdOf ByteArray.empty l0 x6_1).size : Int) - 1))) = true := beq_iff_eq.mpr c10
                      have c10b1 : (x8_2 != (wrap64 (((rdOf ByteArray.empty l0 x6_1).size : Int) - 1))) = false := bne_eq_false_iff_eq.mpr c10
                      clear c10
                      by_cases c11 : x5_2.length < 8796093022208
                      · rw [if_pos c11] at H
                        have LMc11 := Aside0.mk c11
                        clear c11
                        obtain ⟨y271, hy271⟩ : ∃ y_ : List (S24), y_ = (x5_2 ++ [(⟨x6_1, x8_2⟩ : S24)]) := ⟨_, rfl⟩
                        replace H : (foolscapref5_Ends.l1 k2 l0 a1 y271 x6_1 (rdOf ByteArray.empty l0 x6_1) (wrap64 (x8_2 + 1))) = some r := by first | (rw [hy271]; with_reducible exact H) | (have H2_ := (Option.bind_some _ _).symm.trans H; rw [hy271]; with_reducible exact H2_) | (have H2_ := (Option.bind_some _ _).symm.trans H; with_reducible exact H2_) | with_reducible exact H | (rw [hy271]; exact H) | exact H
                        have Ny271 := Aside0.mk hy271
                        clear hy271
                        have H' := Aside0.mk H
                        clear H
                        have p7 : 0 ≤ (x8_2 : Int) := of_decide_eq_true (by first | (with_reducible assumption) | assumption)
                        have q7 : x8_2 < ((rdOf ByteArray.empty l0 x6_1).size : Int) := of_decide_eq_true (by first | (with_reducible assumption) | assumption)
                        have hx7 := bt_at (rdOf ByteArray.empty l0 x6_1) x8_2
                        replace p7 := eq_true p7
                        replace q7 := eq_true q7
                        go_wp2_with (first | ((with_reducible refine gate_callee (f := 43) rfl ?_); refine goesL_ (some 30) rfl rfl Try.func43 (by kernel_rfl) rfl #[.int .u8 (bt (rdOf ByteArray.empty l0 x6_1) x8_2), .bool a1] rfl (by (try simp only [List.map_toArray, List.map_cons, List.map_nil]); first | done | rfl | (simp only [List.length_drop, List.length_take]; rfl)) ?_; (with_reducible refine (foolscapref5_Of.calls k2 (bt (rdOf ByteArray.empty l0 x6_1) x8_2) a1 t270 _ A8.out).mono ?_); rintro e w' ⟨rfl, ⟨nd, rfl⟩⟩; refine ⟨_, rfl, ?_⟩) | ((with_reducible refine gate_builtin (b := .append) (xs := #[.tmp 50, .tmp 54]) rfl ?_); (try (refine gate_guard (by rfl) ?_; dsimp only)); at_builtin; refine Kd.R_append k24 (w0 := w) w.heap.size rfl (.tmp 50) (.tmp 54) 29 24 (.agg #[(.int .i64 0), (.int .i64 0)]) 16 rfl Try.underlying29 info24 rfl (by decide) (by omega) u5 x5_2 (⟨x6_1, x8_2⟩ : S24) [.int .i64 x6_1, .int .i64 x8_2] (fun _ => True) (fun _ => False) rfl rfl ?aP (fun _ hk => hk.elim) ?aF ?aO ?aB ?aS ?aL ?_; (case aP => exact k24_mkM _ _ _ (⟨x6_1, x8_2⟩ : S24)); (case aB => exact (by repeat (first | (with_reducible first | exact HB.out | apply below_alloc | apply pw_below_drewN | apply below_drew1) | exact HB.out))); (case aF => exact (fun _ _ => trivial)); (case aO => exact (by (with_reducible repeat (first | apply Kd.R_alloc | apply Kd.R_drewN | apply Kd.R_drew)); exact HO_5.out)); (case aS => exact (below_size (by repeat (first | (with_reducible first | exact HB.out | apply below_alloc | apply pw_below_drewN | apply below_drew1) | exact HB.out)))); (case aL => have := LMc11.out; omega); intro v272 w12 ho hb hg hat; rw [← Ny271.out] at ho; have n0_ := Aside0.mk (hb); have n1_ := Aside0.mk (ho); clear HB; clear HO_5; have HB := n0_; have HO273 := n1_; clear n0_ n1_; clear ho hb hg hat))
                        go_roundg k2
                        case measure => have := HK1.out; have := HK2.out; omega
                        case rel => exact ⟨(y271), (wrap64 (x8_2 + 1)), (by first | rfl | (simp; done) | (simp [*]; done)), H', ⟨by have := HK1.out; have := HK2.out; omega⟩, ⟨by (with_reducible repeat (first | apply Kd.R_alloc | apply Kd.R_drewN | apply Kd.R_drew)); exact HO273.out⟩, ⟨by repeat (first | (with_reducible first | exact HB.out | apply below_alloc | apply pw_below_drewN | apply below_drew1) | exact HB.out)⟩⟩
                      · rw [if_neg c11] at H
                        exact absurd H (by simp)
                    · rw [if_neg c10] at H
                      have c10b0 : (x8_2 == (wrap64 (((rdOf ByteArray.empty l0 x6_1).size : Int) - 1))) = false := beq_eq_false_iff_ne.mpr c10
                      have c10b1 : (x8_2 != (wrap64 (((rdOf ByteArray.empty l0 x6_1).size : Int) - 1))) = true := bne_iff_ne.mpr c10
                      obtain ⟨ji13, hji13⟩ : ∃ j_ : Int, (wrap64 (x8_2 + 1)) = j_ := ⟨_, rfl⟩
                      replace H : (if 0 ≤ (ji13) then (if (ji13) < ((rdOf ByteArray.empty l0 x6_1).size : Int) then ((foolscapref5_Of.f k2 (bt (rdOf ByteArray.empty l0 x6_1) (ji13)) a1).bind fun t274 => (if t274 = t270 then (foolscapref5_Ends.l1 k2 l0 a1 x5_2 x6_1 (rdOf ByteArray.empty l0 x6_1) ji13) else (if x5_2.length < 8796093022208 then (foolscapref5_Ends.l1 k2 l0 a1 (x5_2 ++ [(⟨x6_1, x8_2⟩ : S24)]) x6_1 (rdOf ByteArray.empty l0 x6_1) ji13) else (none)))) else (none)) else (none)) = some r := by first | (rw [hji13] at H; exact H) | (simp only [hji13] at H ⊢; exact H)
                      (try rw [hji13] at A8)
                      have hji13w : (IntKind.i64.wrap (x8_2 + 1)) = ji13 := (i64_w _).trans hji13
                      by_cases c14 : 0 ≤ (ji13)
                      · rw [if_pos c14] at H
                        have c14b0 : decide (0 ≤ (ji13)) = true := decide_eq_true c14
                        clear c14
                        by_cases c15 : (ji13) < ((rdOf ByteArray.empty l0 x6_1).size : Int)
                        · rw [if_pos c15] at H
                          have c15b0 : decide ((ji13) < ((rdOf ByteArray.empty l0 x6_1).size : Int)) = true := decide_eq_true c15
                          clear c15
                          replace H := Option.bind_eq_some_iff.mp H
                          obtain ⟨t274, A170, H⟩ := H
                          replace H : (if t274 = t270 then (foolscapref5_Ends.l1 k2 l0 a1 x5_2 x6_1 (rdOf ByteArray.empty l0 x6_1) ji13) else (if x5_2.length < 8796093022208 then (foolscapref5_Ends.l1 k2 l0 a1 (x5_2 ++ [(⟨x6_1, x8_2⟩ : S24)]) x6_1 (rdOf ByteArray.empty l0 x6_1) ji13) else (none))) = some r := H
                          have A17 := Aside0.mk A170
                          clear A170
                          by_cases c18 : t274 = t270
                          · rw [if_pos c18] at H
                            have c18b0 : (t274 == t270) = true := beq_iff_eq.mpr c18
                            have c18b1 : (t274 != t270) = false := bne_eq_false_iff_eq.mpr c18
                            clear c18
                            have H' := Aside0.mk H
                            clear H
                            have p7 : 0 ≤ (x8_2 : Int) := of_decide_eq_true (by first | (with_reducible assumption) | assumption)
                            have q7 : x8_2 < ((rdOf ByteArray.empty l0 x6_1).size : Int) := of_decide_eq_true (by first | (with_reducible assumption) | assumption)
                            have hx7 := bt_at (rdOf ByteArray.empty l0 x6_1) x8_2
                            replace p7 := eq_true p7
                            replace q7 := eq_true q7
                            go_wp2_with (first | ((with_reducible refine gate_callee (f := 43) rfl ?_); refine goesL_ (some 30) rfl rfl Try.func43 (by kernel_rfl) rfl #[.int .u8 (bt (rdOf ByteArray.empty l0 x6_1) x8_2), .bool a1] rfl (by (try simp only [List.map_toArray, List.map_cons, List.map_nil]); first | done | rfl | (simp only [List.length_drop, List.length_take]; rfl)) ?_; (with_reducible refine (foolscapref5_Of.calls k2 (bt (rdOf ByteArray.empty l0 x6_1) x8_2) a1 t270 _ A8.out).mono ?_); rintro e w' ⟨rfl, ⟨nd, rfl⟩⟩; refine ⟨_, rfl, ?_⟩; have p16 : 0 ≤ ((ji13) : Int) := of_decide_eq_true (by first | (with_reducible assumption) | assumption); have q16 : (ji13) < ((rdOf ByteArray.empty l0 x6_1).size : Int) := of_decide_eq_true (by first | (with_reducible assumption) | assumption); have hx16 := bt_at (rdOf ByteArray.empty l0 x6_1) (ji13); replace p16 := eq_true p16; replace q16 := eq_true q16) | (go_at_call 43; (with_reducible refine (foolscapref5_Of.calls k2 (bt (rdOf ByteArray.empty l0 x6_1) (ji13)) a1 t274 _ A17.out).mono ?_); rintro e w' ⟨rfl, ⟨nd, rfl⟩⟩))
                            go_roundg k2
                            case measure => have := HK1.out; have := HK2.out; omega
                            case rel => exact ⟨(x5_2), (ji13), (by first | rfl | (simp; done) | (simp only [← hji13] <;> (first | rfl | simp)) | (simp [*]; done)), H', ⟨by have := HK1.out; have := HK2.out; omega⟩, ⟨by (with_reducible repeat (first | apply Kd.R_alloc | apply Kd.R_drewN | apply Kd.R_drew)); exact HO_5.out⟩, ⟨by repeat (first | (with_reducible first | exact HB.out | apply below_alloc | apply pw_below_drewN | apply below_drew1) | exact HB.out)⟩⟩
                          · rw [if_neg c18] at H
                            have c18b0 : (t274 == t270) = false := beq_eq_false_iff_ne.mpr c18
                            have c18b1 : (t274 != t270) = true := bne_iff_ne.mpr c18
                            by_cases c19 : x5_2.length < 8796093022208
                            · rw [if_pos c19] at H
                              have LMc19 := Aside0.mk c19
                              clear c19
                              obtain ⟨y275, hy275⟩ : ∃ y_ : List (S24), y_ = (x5_2 ++ [(⟨x6_1, x8_2⟩ : S24)]) := ⟨_, rfl⟩
                              replace H : (foolscapref5_Ends.l1 k2 l0 a1 y275 x6_1 (rdOf ByteArray.empty l0 x6_1) ji13) = some r := by first | (rw [hy275]; with_reducible exact H) | (have H2_ := (Option.bind_some _ _).symm.trans H; rw [hy275]; with_reducible exact H2_) | (have H2_ := (Option.bind_some _ _).symm.trans H; with_reducible exact H2_) | with_reducible exact H | (rw [hy275]; exact H) | exact H
                              have Ny275 := Aside0.mk hy275
                              clear hy275
                              have H' := Aside0.mk H
                              clear H
                              have p7 : 0 ≤ (x8_2 : Int) := of_decide_eq_true (by first | (with_reducible assumption) | assumption)
                              have q7 : x8_2 < ((rdOf ByteArray.empty l0 x6_1).size : Int) := of_decide_eq_true (by first | (with_reducible assumption) | assumption)
                              have hx7 := bt_at (rdOf ByteArray.empty l0 x6_1) x8_2
                              replace p7 := eq_true p7
                              replace q7 := eq_true q7
                              go_wp2_with (first | ((with_reducible refine gate_callee (f := 43) rfl ?_); refine goesL_ (some 30) rfl rfl Try.func43 (by kernel_rfl) rfl #[.int .u8 (bt (rdOf ByteArray.empty l0 x6_1) x8_2), .bool a1] rfl (by (try simp only [List.map_toArray, List.map_cons, List.map_nil]); first | done | rfl | (simp only [List.length_drop, List.length_take]; rfl)) ?_; (with_reducible refine (foolscapref5_Of.calls k2 (bt (rdOf ByteArray.empty l0 x6_1) x8_2) a1 t270 _ A8.out).mono ?_); rintro e w' ⟨rfl, ⟨nd, rfl⟩⟩; refine ⟨_, rfl, ?_⟩; have p16 : 0 ≤ ((ji13) : Int) := of_decide_eq_true (by first | (with_reducible assumption) | assumption); have q16 : (ji13) < ((rdOf ByteArray.empty l0 x6_1).size : Int) := of_decide_eq_true (by first | (with_reducible assumption) | assumption); have hx16 := bt_at (rdOf ByteArray.empty l0 x6_1) (ji13); replace p16 := eq_true p16; replace q16 := eq_true q16) | (go_at_call 43; (with_reducible refine (foolscapref5_Of.calls k2 (bt (rdOf ByteArray.empty l0 x6_1) (ji13)) a1 t274 _ A17.out).mono ?_); rintro e w' ⟨rfl, ⟨nd, rfl⟩⟩) | ((with_reducible refine gate_builtin (b := .append) (xs := #[.tmp 50, .tmp 54]) rfl ?_); (try (refine gate_guard (by rfl) ?_; dsimp only)); at_builtin; refine Kd.R_append k24 (w0 := w) w.heap.size rfl (.tmp 50) (.tmp 54) 29 24 (.agg #[(.int .i64 0), (.int .i64 0)]) 16 rfl Try.underlying29 info24 rfl (by decide) (by omega) u5 x5_2 (⟨x6_1, x8_2⟩ : S24) [.int .i64 x6_1, .int .i64 x8_2] (fun _ => True) (fun _ => False) rfl rfl ?aP (fun _ hk => hk.elim) ?aF ?aO ?aB ?aS ?aL ?_; (case aP => exact k24_mkM _ _ _ (⟨x6_1, x8_2⟩ : S24)); (case aB => exact (by repeat (first | (with_reducible first | exact HB.out | apply below_alloc | apply pw_below_drewN | apply below_drew1) | exact HB.out))); (case aF => exact (fun _ _ => trivial)); (case aO => exact (by (with_reducible repeat (first | apply Kd.R_alloc | apply Kd.R_drewN | apply Kd.R_drew)); exact HO_5.out)); (case aS => exact (below_size (by repeat (first | (with_reducible first | exact HB.out | apply below_alloc | apply pw_below_drewN | apply below_drew1) | exact HB.out)))); (case aL => have := LMc19.out; omega); intro v276 w20 ho hb hg hat; rw [← Ny275.out] at ho; have n0_ := Aside0.mk (hb); have n1_ := Aside0.mk (ho); clear HB; clear HO_5; have HB := n0_; have HO277 := n1_; clear n0_ n1_; clear ho hb hg hat))
                              go_roundg k2
                              case measure => have := HK1.out; have := HK2.out; omega
                              case rel => exact ⟨(y275), (ji13), (by first | rfl | (simp; done) | (simp only [← hji13] <;> (first | rfl | simp)) | (simp [*]; done)), H', ⟨by have := HK1.out; have := HK2.out; omega⟩, ⟨by (with_reducible repeat (first | apply Kd.R_alloc | apply Kd.R_drewN | apply Kd.R_drew)); exact HO277.out⟩, ⟨by repeat (first | (with_reducible first | exact HB.out | apply below_alloc | apply pw_below_drewN | apply below_drew1) | exact HB.out)⟩⟩
                            · rw [if_neg c19] at H
                              exact absurd H (by simp)
                        · rw [if_neg c15] at H
                          exact absurd H (by simp)
                      · rw [if_neg c14] at H
                        exact absurd H (by simp)
                · rw [if_neg c6] at H
                  exact absurd H (by simp)
              · rw [if_neg c5] at H
                have c5b0 : decide (x8_2 < ((rdOf ByteArray.empty l0 x6_1).size : Int)) = false := decide_eq_false c5
                clear c5
                have H' := Aside0.mk H
                clear H
                go_wp2
                go_roundg k2
                case measure => have := HK1.out; have := HK2.out; omega
                case rel => exact ⟨(x5_2), (wrap64 (x6_1 + 1)), (by first | rfl | (simp; done) | (simp [*]; done)), H', ⟨by have := HK1.out; have := HK2.out; omega⟩, ⟨by (with_reducible repeat (first | apply Kd.R_alloc | apply Kd.R_drewN | apply Kd.R_drew)); exact HO_5.out⟩, ⟨by repeat (first | (with_reducible first | exact HB.out | apply below_alloc | apply pw_below_drewN | apply below_drew1) | exact HB.out)⟩⟩
        · rw [if_neg c4] at H
          exact absurd H (by simp)
      · rw [if_neg c3] at H
        have c3b0 : decide (x6_1 < (l0.length : Int)) = false := decide_eq_false c3
        clear c3
        obtain rfl := Option.some.inj H
        go_wp2
        go_ret
        exact ⟨_, by first | rfl | (simp [errW_none, errW_some] <;> rfl) | (simp [*, errW_none, errW_some] <;> rfl), by (with_reducible repeat (first | apply Kd.R_alloc | apply Kd.R_drewN | apply Kd.R_drew)); exact HO_5.out, by repeat (first | (with_reducible first | exact HB.out | apply below_alloc | apply pw_below_drewN | apply below_drew1) | exact HB.out)⟩

end Go.Proofs.Ytifkfjpkngdhmaa.V
namespace Go.Proofs.Ytifkfjpkngdhmaa.V
open Go.RowKit Go.Proofs.YtifkfjpkngdhmaaW.PrintWords Go.Proofs.YtifkfjpkngdhmaaW.PrintLast Go.Proofs.YtifkfjpkngdhmaaW.PrintMore
attribute [local go_sem] max2_int min2_int max_two min_two max_three min_three max_four min_four   -- for this text's walks alone
set_option linter.unusedVariables false
set_option linter.unusedSimpArgs false

/-! ### foolscapref5_Tail: function 17 -/
def foolscapref5_Tail.f (k : Nat) (l0 : List ByteArray) (a1_0 : Int) (a1_1 : Int) (a2 : Int) (a3 : Bool) (a4 : Bool) : Option (Int × Int × Int × Bool × Int × Bool) := (foolscapref5_may.f l0 a1_0 a1_1 a2).bind fun t280 => (if t280 = true then ((foolscapref5_Ends.f k l0 a3).bind fun t281 => ((foolscapref5_behind.f k t281 a1_0 a1_1 a4).bind fun t284 => ((foolscapref5_nth.f t284 a2 1).bind fun bt287 => (some (bt287.1, bt287.2.1, bt287.2.2.1, bt287.2.2.2.1, bt287.2.2.2.2.1, bt287.2.2.2.2.2))))) else ((foolscapref5_none.f).bind fun bt293 => (some (bt293.1, bt293.2.1, bt293.2.2.1, bt293.2.2.2.1, bt293.2.2.2.2.1, bt293.2.2.2.2.2))))
theorem foolscapref5_Tail.mono : ∀ a0 a1 a2 a3 a4 a5 k, LeO (foolscapref5_Tail.f k a0 a1 a2 a3 a4 a5) (foolscapref5_Tail.f (k + 1) a0 a1 a2 a3 a4 a5) := by
  intro a0 a1 a2 a3 a4 a5 k
  unfold foolscapref5_Tail.f
  repeat' first
      | (with_reducible exact foolscapref5_Ends.mono _ _ _)
      | (with_reducible exact foolscapref5_behind.mono _ _ _ _ _)
      | (with_reducible exact LeO.refl _)
      | (with_reducible exact LeO.none _)
      | (with_reducible refine LeO.ite ?_ ?_)
      | (with_reducible refine LeO.bind ?_ (fun _ => ?_))
      | exact foolscapref5_Ends.mono _ _ _
      | exact foolscapref5_behind.mono _ _ _ _ _
      | exact LeO.none _
      | refine LeO.ite ?_ ?_
      | refine LeO.bind ?_ (fun _ => ?_)
def foolscapref5_Tail.T3 : Bool × List (List Nat × List Nat) := (true, [([], []), ([], []), ([0, 1], [0, 1]), ([], []), ([], []), ([2, 3, 4, 2], [2, 3, 4]), ([], []), ([5, 6, 5], [5, 6]), ([7], [7]), ([7], [7]), ([8, 7, 0, 1, 2, 3, 4, 5, 6, 7, 8, 9], [8]), ([9, 10, 0, 1, 2, 3, 4, 5, 6, 7, 8, 9, 10], [9])])
def foolscapref5_Tail.B3 : List Nat := [0, 0, 3, 0, 0, 31, 0, 127, 255, 255, 1023, 2047]
theorem foolscapref5_Tail.tab3 : rtab .any (opsOf Try.f17 3) = foolscapref5_Tail.T3 := by kernel_rfl
theorem foolscapref5_Tail.bits3 : waitsOk foolscapref5_Tail.T3.2 foolscapref5_Tail.B3 = true := by kernel_rfl
set_option maxHeartbeats 8000000 in
set_option maxRecDepth 100000 in
theorem foolscapref5_Tail.calls (k : Nat) (A0 : Option Addr) (c0 : Nat) (l0 : List ByteArray) (a1_0 : Int) (a1_1 : Int) (a2 : Int) (a3 : Bool) (a4 : Bool) (r1 : Int) (r2 : Int) (r3 : Int) (r4 : Bool) (r5 : Int) (r6 : Bool) (w : World) (hr0 : Kd.C Kd.string w A0 l0.length l0) (hc0 : l0.length ≤ c0) (h : foolscapref5_Tail.f k l0 a1_0 a1_1 a2 a3 a4 = some (r1, r2, r3, r4, r5, r6)) :
    Calls Try.prog 17 #[.slice A0 l0.length c0, .agg #[.int .i64 a1_0, .int .i64 a1_1], .int .i64 a2, .bool a3, .bool a4] w fun e w' => e = .returned (.tuple #[.agg #[.int .i64 r1, .int .i64 r2, .int .i64 r3, .bool r4, .int .i64 r5], .bool r6]) ∧ Below w.heap.size w w' := by
  have hu24 := Try.underlying24
  have hu32 := Try.underlying32
  have HR0 := Aside0.mk hr0
  have HC0 := Aside0.mk hc0
  clear hr0 hc0
  have HB := Aside0.mk (Below.refl w.heap.size w)
  have H : ((foolscapref5_may.f l0 a1_0 a1_1 a2).bind fun t280 => (if t280 = true then ((foolscapref5_Ends.f k l0 a3).bind fun t281 => ((foolscapref5_behind.f k t281 a1_0 a1_1 a4).bind fun t284 => ((foolscapref5_nth.f t284 a2 1).bind fun bt287 => (some (bt287.1, bt287.2.1, bt287.2.2.1, bt287.2.2.2.1, bt287.2.2.2.2.1, bt287.2.2.2.2.2))))) else ((foolscapref5_none.f).bind fun bt293 => (some (bt293.1, bt293.2.1, bt293.2.2.1, bt293.2.2.2.1, bt293.2.2.2.2.1, bt293.2.2.2.2.2))))) = some (r1, r2, r3, r4, r5, r6) := h
  clear h
  replace H := Option.bind_eq_some_iff.mp H
  obtain ⟨t280, A60, H⟩ := H
  replace H : (if t280 = true then ((foolscapref5_Ends.f k l0 a3).bind fun t281 => ((foolscapref5_behind.f k t281 a1_0 a1_1 a4).bind fun t284 => ((foolscapref5_nth.f t284 a2 1).bind fun bt287 => (some (bt287.1, bt287.2.1, bt287.2.2.1, bt287.2.2.2.1, bt287.2.2.2.2.1, bt287.2.2.2.2.2))))) else ((foolscapref5_none.f).bind fun bt293 => (some (bt293.1, bt293.2.1, bt293.2.2.1, bt293.2.2.2.1, bt293.2.2.2.2.1, bt293.2.2.2.2.2)))) = some (r1, r2, r3, r4, r5, r6) := H
  have A6 := Aside0.mk A60
  clear A60
  by_cases c7 : t280 = true
  · subst c7
    have H1 : ((foolscapref5_Ends.f k l0 a3).bind fun t281 => ((foolscapref5_behind.f k t281 a1_0 a1_1 a4).bind fun t284 => ((foolscapref5_nth.f t284 a2 1).bind fun bt287 => (some (bt287.1, bt287.2.1, bt287.2.2.1, bt287.2.2.2.1, bt287.2.2.2.2.1, bt287.2.2.2.2.2))))) = some (r1, r2, r3, r4, r5, r6) := by rw [if_pos rfl] at H; exact H
    clear H
    have H := H1
    clear H1
    replace H := Option.bind_eq_some_iff.mp H
    obtain ⟨t281, A80, H⟩ := H
    replace H : ((foolscapref5_behind.f k t281 a1_0 a1_1 a4).bind fun t284 => ((foolscapref5_nth.f t284 a2 1).bind fun bt287 => (some (bt287.1, bt287.2.1, bt287.2.2.1, bt287.2.2.2.1, bt287.2.2.2.2.1, bt287.2.2.2.2.2)))) = some (r1, r2, r3, r4, r5, r6) := H
    have A8 := Aside0.mk A80
    clear A80
    replace H := Option.bind_eq_some_iff.mp H
    obtain ⟨t284, A90, H⟩ := H
    replace H : ((foolscapref5_nth.f t284 a2 1).bind fun bt287 => (some (bt287.1, bt287.2.1, bt287.2.2.1, bt287.2.2.2.1, bt287.2.2.2.2.1, bt287.2.2.2.2.2))) = some (r1, r2, r3, r4, r5, r6) := H
    have A9 := Aside0.mk A90
    clear A90
    replace H := Option.bind_eq_some_iff.mp H
    obtain ⟨⟨t287, t288, t289, t290, t291, t292⟩, A100, H⟩ := H
    replace H : (some (t287, t288, t289, t290, t291, t292)) = some (r1, r2, r3, r4, r5, r6) := H
    have A10 := Aside0.mk A100
    clear A100
    simp only [Option.some.injEq, Prod.mk.injEq] at H
    obtain ⟨rfl, rfl, rfl, rfl, rfl, rfl⟩ := H
    go_enter Try.func17, Try.ntmps17
    try go_wp2_with (first | ((with_reducible refine gate_dst (N := 6) rfl ?_); refine box_event ?hg (N := 6) ?hd (cs := #[.int .i64 a1_0, .int .i64 a1_1]) (t := 24) ?hr ?_; (case hd => rfl); (case hg => rfl); (case hr => first | (go_simp; done) | (go_simp; rfl)); intro gb278 hg w11 hbox hb; have n0_ := Aside0.mk (below_step (by repeat (first | (with_reducible first | exact HB.out | apply below_alloc | apply pw_below_drewN | apply below_drew1) | exact HB.out)) hb); have n1_ := Aside0.mk (hbox); have n2_ := Aside0.mk ((by rw [hg]; exact (below_size (by repeat (first | (with_reducible first | exact HB.out | apply below_alloc | apply pw_below_drewN | apply below_drew1) | exact HB.out))) : w.heap.size ≤ gb278)); have n3_ := Aside0.mk ((by rw [hg]; exact (below_size (by repeat (first | (with_reducible first | exact HB.out | apply below_alloc | apply pw_below_drewN | apply below_drew1) | exact HB.out))) : w.heap.size ≤ gb278)); clear HB; have HB := n0_; have BK278 := n1_; have GW278 := n2_; have GE278 := n3_; clear n0_ n1_ n2_ n3_; clear hb hbox hg) | ((with_reducible refine gate_dst (N := 10) rfl ?_); refine box_event ?hg (N := 10) ?hd (cs := #[.int .i64 0, .int .i64 0, .int .i64 0, .bool false, .int .i64 0]) (t := 32) ?hr ?_; (case hd => rfl); (case hg => rfl); (case hr => first | (go_simp; done) | (go_simp; rfl)); intro gb279 hg w12 hbox hb; have n0_ := Aside0.mk (blk_below (g := gb278) (o := .cells #[.int .i64 a1_0, .int .i64 a1_1] 24 (0, 0)) (by (with_reducible repeat (first | refine blk_drewN ?_ _ | refine blk_drew ?_ | refine blk_alloc ?_ _)); exact BK278.out) hb); have n1_ := Aside0.mk (below_step (by repeat (first | (with_reducible first | exact HB.out | apply below_alloc | apply pw_below_drewN | apply below_drew1 | refine below_set ?_ GE278.out) | exact HB.out)) hb); have n2_ := Aside0.mk (hbox); have n3_ := Aside0.mk ((by rw [hg]; exact (below_size (by repeat (first | (with_reducible first | exact HB.out | apply below_alloc | apply pw_below_drewN | apply below_drew1 | refine below_set ?_ GE278.out) | exact HB.out))) : w.heap.size ≤ gb279)); have n4_ := Aside0.mk ((by rw [hg]; exact (below_size (by repeat (first | (with_reducible first | exact HB.out | apply below_alloc | apply pw_below_drewN | apply below_drew1 | refine below_set ?_ GE278.out) | exact HB.out))) : w.heap.size ≤ gb279)); have n5_ := Aside0.mk ((by rw [hg]; exact Nat.ne_of_lt (blk_lt (g := gb278) (o := .cells #[.int .i64 a1_0, .int .i64 a1_1] 24 (0, 0)) (by (with_reducible repeat (first | refine blk_drewN ?_ _ | refine blk_drew ?_ | refine blk_alloc ?_ _)); exact BK278.out)) : gb278 ≠ gb279)); have n6_ := Aside0.mk ((by rw [hg]; exact Nat.ne_of_gt (blk_lt (g := gb278) (o := .cells #[.int .i64 a1_0, .int .i64 a1_1] 24 (0, 0)) (by (with_reducible repeat (first | refine blk_drewN ?_ _ | refine blk_drew ?_ | refine blk_alloc ?_ _)); exact BK278.out)) : gb279 ≠ gb278)); clear BK278; clear HB; have BK278 := n0_; have HB := n1_; have BK279 := n2_; have GW279 := n3_; have GE279 := n4_; have NB278_279 := n5_; have NB279_278 := n6_; clear n0_ n1_ n2_ n3_ n4_ n5_ n6_; clear hb hbox hg; have hnb13 := NB278_279.out; have hnc13 := NB279_278.out; have hcz14_0 : w12.cell? ⟨gb278, 0, none⟩ = some (.int .i64 a1_0) := (blk_cell BK278.out 0).trans rfl; have hcz14_1 : w12.cell? ⟨gb278, 1, none⟩ = some (.int .i64 a1_1) := (blk_cell BK278.out 1).trans rfl; have hfz14_0 := blk_frozen BK278.out 0; have hfz14_1 := blk_frozen BK278.out 1) | ((with_reducible refine gate_callee (f := 31) rfl ?_); refine goesL_ (some 15) rfl rfl Try.func31 (by kernel_rfl) rfl #[.slice A0 l0.length c0, .agg #[.int .i64 a1_0, .int .i64 a1_1], .int .i64 a2] rfl (by (try simp only [List.map_toArray, List.map_cons, List.map_nil]); first | done | rfl | (simp only [List.length_drop, List.length_take]; rfl)) ?_; (with_reducible refine (foolscapref5_may.calls _ _ l0 a1_0 a1_1 a2 true _ ?side1 ?side2 A6.out).mono ?_); (case side1 => repeat (first | exact (Kd.C_below HR0.out HB.out) | (with_reducible refine Kd.C_alloc ?_ _) | (with_reducible refine Kd.C_drewN ?_ _) | (with_reducible refine Kd.C_drew ?_))); (case side2 => exact HC0.out); rintro e w15 ⟨rfl, hb⟩; refine ⟨_, rfl, ?_⟩; have n0_ := Aside0.mk (blk_below (g := gb278) (o := .cells #[.int .i64 a1_0, .int .i64 a1_1] 24 (0, 0)) (by (with_reducible repeat (first | refine blk_drewN ?_ _ | refine blk_drew ?_ | refine blk_alloc ?_ _)); exact BK278.out) hb); have n1_ := Aside0.mk (blk_below (g := gb279) (o := .cells #[.int .i64 0, .int .i64 0, .int .i64 0, .bool false, .int .i64 0] 32 (0, 0)) (by (with_reducible repeat (first | refine blk_drewN ?_ _ | refine blk_drew ?_ | refine blk_alloc ?_ _)); exact BK279.out) hb); have n2_ := Aside0.mk (below_step (by repeat (first | (with_reducible first | exact HB.out | apply below_alloc | apply pw_below_drewN | apply below_drew1 | refine below_set ?_ GE278.out | refine below_set ?_ GE279.out) | exact HB.out)) hb); clear BK278; clear BK279; clear HB; have BK278 := n0_; have BK279 := n1_; have HB := n2_; clear n0_ n1_ n2_; (try clear hb); (try clear hb2); (try clear hk); (try clear hi)))
    have n0_ := Aside0.mk (blk_drew BK278.out)
    have n1_ := Aside0.mk (blk_drew BK279.out)
    have n2_ := Aside0.mk (below_drew1 HB.out)
    clear BK278
    clear BK279
    clear HB
    have BK278 := n0_
    have BK279 := n1_
    have HB := n2_
    clear n0_ n1_ n2_
    refine start_ (n := 12) (S := fun w' => w'.cell? ⟨gb278, 0, none⟩ = some (.int .i64 a1_0) ∧ w'.cell? ⟨gb278, 1, none⟩ = some (.int .i64 a1_1)) (ds := []) #[false, false, false, false, false, false, false, false, false, false, false, false] (by kernel_rfl) rfl rfl ⟨(blk_cell BK278.out 0).trans rfl, (blk_cell BK278.out 1).trans rfl⟩ (fun hHeld => ?_); refine with_tabW foolscapref5_Tail.tab3 foolscapref5_Tail.bits3 (fun HT_ HW_ => ?_)
    generalize w15.drew = w16 at BK278 BK279 HB hHeld ⊢
    refine pure_ (i := 0) (N := some 20) (v := ?_) (a' := ?_) #[true, false, false, false, false, false, false, false, false, false, false, false] rfl rfl (any_of HT_.out (by kernel_rfl)) (fun _ _ _ h => h) (Or.inl ⟨by rfl, ?_⟩) ?_ ?_
    rotate_left
    · intro w'
      go_simp
      with_reducible rfl
    rotate_left
    · simp only [Act.put, List.setIfInBounds_toArray, List.set_cons_zero, List.set_cons_succ, i64_w, i32_w]
      rfl
    refine pure_ (i := 1) (N := some 21) (v := ?_) (a' := ?_) #[true, true, false, false, false, false, false, false, false, false, false, false] rfl rfl (any_of HT_.out (by kernel_rfl)) (fun _ _ _ h => h) (Or.inl ⟨by rfl, ?_⟩) ?_ ?_
    rotate_left
    · intro w'
      go_simp
      with_reducible rfl
    rotate_left
    · simp only [Act.put, List.setIfInBounds_toArray, List.set_cons_zero, List.set_cons_succ, i64_w, i32_w]
      rfl
    refine pure_ (i := 4) (N := some 24) (v := ?_) (a' := ?_) #[true, true, false, false, true, false, false, false, false, false, false, false] rfl rfl (any_of HT_.out (by kernel_rfl)) (fun _ _ _ h => h) (Or.inl ⟨by rfl, ?_⟩) ?_ ?_
    rotate_left
    · intro w'
      go_simp
      with_reducible rfl
    rotate_left
    · simp only [Act.put, List.setIfInBounds_toArray, List.set_cons_zero, List.set_cons_succ, i64_w, i32_w]
      rfl
    refine pure_ (i := 6) (N := some 26) (v := ?_) (a' := ?_) #[true, true, false, false, true, false, true, false, false, false, false, false] rfl rfl (any_of HT_.out (by kernel_rfl)) (fun _ _ _ h => h) (Or.inl ⟨by rfl, ?_⟩) ?_ ?_
    rotate_left
    · intro w'
      go_simp
      with_reducible rfl
    rotate_left
    · simp only [Act.put, List.setIfInBounds_toArray, List.set_cons_zero, List.set_cons_succ, i64_w, i32_w]
      rfl
    refine take_ (i := 3) (N := some 23) (v := ?_) (a' := ?_) #[true, true, false, true, true, false, true, false, false, false, false, false] rfl rfl (take_ofW HT_.out HW_.out (by kernel_rfl)) (fun _ _ _ h => h) (Or.inl ⟨by rfl, ?_⟩) hHeld ?_ ?_
    rotate_left
    · rintro w' ⟨s0, s1⟩
      go_simp
      with_reducible rfl
    rotate_left
    · simp only [Act.put, List.setIfInBounds_toArray, List.set_cons_zero, List.set_cons_succ, i64_w, i32_w]
      rfl
    refine one_ (i := 2) (N := some 22) #[true, true, true, true, true, false, true, false, false, false, false, false] rfl rfl (one_of HT_.out (by kernel_rfl)) (by decide) (fun K hK => ?_)
    refine goes_ Try.func25 (by kernel_rfl) rfl #[.slice A0 l0.length c0, .bool a3] (by rfl) rfl rfl (by (try simp only [List.map_toArray, List.map_cons, List.map_nil]); first | done | rfl | (simp only [List.length_drop, List.length_take]; rfl)) ?_
    with_reducible refine (foolscapref5_Ends.calls k _ _ l0 a3 t281 _ ?side1 ?side2 A8.out).mono ?_
    (case side1 => repeat (first | exact (Kd.C_below HR0.out HB.out) | (with_reducible refine Kd.C_alloc ?_ _) | (with_reducible refine Kd.C_drewN ?_ _) | (with_reducible refine Kd.C_drew ?_)))
    (case side2 => exact HC0.out)
    rintro e w17 ⟨v282, rfl, ho0, hb⟩
    refine ⟨_, rfl, ?_⟩
    have n0_ := Aside0.mk (Kd.R_lower (Kd.R_newB ho0 (g := gb278) (o := .cells #[.int .i64 a1_0, .int .i64 a1_1] 24 (0, 0)) (by (with_reducible repeat (first | refine blk_drewN ?_ _ | refine blk_drew ?_ | refine blk_alloc ?_ _)); exact BK278.out)) (below_size (by repeat (first | (with_reducible first | exact HB.out | apply below_alloc | apply pw_below_drewN | apply below_drew1 | refine below_set ?_ GE278.out | refine below_set ?_ GE279.out) | exact HB.out))))
    have n1_ := Aside0.mk (blk_below (g := gb278) (o := .cells #[.int .i64 a1_0, .int .i64 a1_1] 24 (0, 0)) (by (with_reducible repeat (first | refine blk_drewN ?_ _ | refine blk_drew ?_ | refine blk_alloc ?_ _)); exact BK278.out) hb)
    have n2_ := Aside0.mk (blk_below (g := gb279) (o := .cells #[.int .i64 0, .int .i64 0, .int .i64 0, .bool false, .int .i64 0] 32 (0, 0)) (by (with_reducible repeat (first | refine blk_drewN ?_ _ | refine blk_drew ?_ | refine blk_alloc ?_ _)); exact BK279.out) hb)
    have n3_ := Aside0.mk (below_step (by repeat (first | (with_reducible first | exact HB.out | apply below_alloc | apply pw_below_drewN | apply below_drew1 | refine below_set ?_ GE278.out | refine below_set ?_ GE279.out) | exact HB.out)) hb)
    clear BK278
    clear BK279
    clear HB
    have HO283 := n0_
    have BK278 := n1_
    have BK279 := n2_
    have HB := n3_
    clear n0_ n1_ n2_ n3_
    (try clear hb)
    (try clear hb2)
    (try clear hk)
    (try clear hi)
    (try clear ho0)
    obtain ⟨Ao18, co18, eo18⟩ := Kd.R_slice HO283.out
    (first | subst eo18 | (injection eo18 with f1_ f2_ f3_; have f4_ := f1_.symm; have f5_ := f3_.symm; clear f1_ f2_ f3_; subst f4_; subst f5_))
    refine hK.out _ _ ⟨(blk_cell BK278.out 0).trans rfl, (blk_cell BK278.out 1).trans rfl⟩ (fun hHeld => ?_)
    clear hK K
    refine norm_ (a' := ?_) ?_ ?_
    rotate_left
    · show Act.put _ (some 22) _ = _
      simp only [Act.put, List.setIfInBounds_toArray, List.set_cons_zero, List.set_cons_succ, i64_w, i32_w]
      rfl
    refine one_ (i := 5) (N := some 25) #[true, true, true, true, true, true, true, false, false, false, false, false] rfl rfl (one_of HT_.out (by kernel_rfl)) (by decide) (fun K hK => ?_)
    refine goes_ Try.func33 (by kernel_rfl) rfl #[.slice Ao18 t281.length co18, .agg #[.int .i64 a1_0, .int .i64 a1_1], .bool a4] (by rfl) rfl rfl (by (try simp only [List.map_toArray, List.map_cons, List.map_nil]); first | done | rfl | (simp only [List.length_drop, List.length_take]; rfl)) ?_
    with_reducible refine (foolscapref5_behind.calls k _ _ t281 a1_0 a1_1 a4 t284 _ ?side1 ?side2 A9.out).mono ?_
    (case side1 => repeat (first | exact (Kd.R_reads' HO283.out).2.2 | (with_reducible refine Kd.C_alloc ?_ _) | (with_reducible refine Kd.C_drewN ?_ _) | (with_reducible refine Kd.C_drew ?_)))
    (case side2 => exact (Kd.R_reads' HO283.out).2.1)
    rintro e w19 ⟨v285, rfl, ho0, hb⟩
    refine ⟨_, rfl, ?_⟩
    have n0_ := Aside0.mk (Kd.R_elder' (by (with_reducible repeat (first | apply Kd.R_alloc | apply Kd.R_drewN | apply Kd.R_drew)); exact HO283.out) (Kd.R_base ho0) hb)
    have n1_ := Aside0.mk (Kd.R_lower (Kd.R_newB (Kd.R_new' ho0 (Kd.R_lt (by (with_reducible repeat (first | apply Kd.R_alloc | apply Kd.R_drewN | apply Kd.R_drew)); exact HO283.out))) (g := gb278) (o := .cells #[.int .i64 a1_0, .int .i64 a1_1] 24 (0, 0)) (by (with_reducible repeat (first | refine blk_drewN ?_ _ | refine blk_drew ?_ | refine blk_alloc ?_ _)); exact BK278.out)) (below_size (by repeat (first | (with_reducible first | exact HB.out | apply below_alloc | apply pw_below_drewN | apply below_drew1 | refine below_set ?_ GE278.out | refine below_set ?_ GE279.out) | exact HB.out))))
    have n2_ := Aside0.mk (blk_below (g := gb278) (o := .cells #[.int .i64 a1_0, .int .i64 a1_1] 24 (0, 0)) (by (with_reducible repeat (first | refine blk_drewN ?_ _ | refine blk_drew ?_ | refine blk_alloc ?_ _)); exact BK278.out) hb)
    have n3_ := Aside0.mk (blk_below (g := gb279) (o := .cells #[.int .i64 0, .int .i64 0, .int .i64 0, .bool false, .int .i64 0] 32 (0, 0)) (by (with_reducible repeat (first | refine blk_drewN ?_ _ | refine blk_drew ?_ | refine blk_alloc ?_ _)); exact BK279.out) hb)
    have n4_ := Aside0.mk (below_step (by repeat (first | (with_reducible first | exact HB.out | apply below_alloc | apply pw_below_drewN | apply below_drew1 | refine below_set ?_ GE278.out | refine below_set ?_ GE279.out) | exact HB.out)) hb)
    clear HO283
    clear BK278
    clear BK279
    clear HB
    have HO283 := n0_
    have HO286 := n1_
    have BK278 := n2_
    have BK279 := n3_
    have HB := n4_
    clear n0_ n1_ n2_ n3_ n4_
    (try clear hb)
    (try clear hb2)
    (try clear hk)
    (try clear hi)
    (try clear ho0)
    obtain ⟨Ao20, co20, eo20⟩ := Kd.R_slice HO286.out
    (first | subst eo20 | (injection eo20 with f1_ f2_ f3_; have f4_ := f1_.symm; have f5_ := f3_.symm; clear f1_ f2_ f3_; subst f4_; subst f5_))
    refine hK.out _ _ ⟨(blk_cell BK278.out 0).trans rfl, (blk_cell BK278.out 1).trans rfl⟩ (fun hHeld => ?_)
    clear hK K
    refine norm_ (a' := ?_) ?_ ?_
    rotate_left
    · show Act.put _ (some 25) _ = _
      simp only [Act.put, List.setIfInBounds_toArray, List.set_cons_zero, List.set_cons_succ, i64_w, i32_w]
      rfl
    refine one_ (i := 7) (N := some 27) #[true, true, true, true, true, true, true, true, false, false, false, false] rfl rfl (one_of HT_.out (by kernel_rfl)) (by decide) (fun K hK => ?_)
    refine goes_ Try.func34 (by kernel_rfl) rfl #[.slice Ao20 t284.length co20, .int .i64 a2, .int .i64 1] (by rfl) rfl rfl (by (try simp only [List.map_toArray, List.map_cons, List.map_nil]); first | done | rfl | (simp only [List.length_drop, List.length_take]; rfl)) ?_
    with_reducible refine (foolscapref5_nth.calls _ _ t284 a2 1 t287 t288 t289 t290 t291 t292 _ ?side1 ?side2 A10.out).mono ?_
    (case side1 => repeat (first | exact (Kd.R_reads' HO286.out).2.2 | (with_reducible refine Kd.C_alloc ?_ _) | (with_reducible refine Kd.C_drewN ?_ _) | (with_reducible refine Kd.C_drew ?_)))
    (case side2 => exact (Kd.R_reads' HO286.out).2.1)
    rintro e w21 ⟨rfl, hb⟩
    refine ⟨_, rfl, ?_⟩
    have n0_ := Aside0.mk (Kd.R_below (by (with_reducible repeat (first | apply Kd.R_alloc | apply Kd.R_drewN | apply Kd.R_drew)); exact HO283.out) hb)
    have n1_ := Aside0.mk (Kd.R_below (by (with_reducible repeat (first | apply Kd.R_alloc | apply Kd.R_drewN | apply Kd.R_drew)); exact HO286.out) hb)
    have n2_ := Aside0.mk (blk_below (g := gb278) (o := .cells #[.int .i64 a1_0, .int .i64 a1_1] 24 (0, 0)) (by (with_reducible repeat (first | refine blk_drewN ?_ _ | refine blk_drew ?_ | refine blk_alloc ?_ _)); exact BK278.out) hb)
    have n3_ := Aside0.mk (blk_below (g := gb279) (o := .cells #[.int .i64 0, .int .i64 0, .int .i64 0, .bool false, .int .i64 0] 32 (0, 0)) (by (with_reducible repeat (first | refine blk_drewN ?_ _ | refine blk_drew ?_ | refine blk_alloc ?_ _)); exact BK279.out) hb)
    have n4_ := Aside0.mk (below_step (by repeat (first | (with_reducible first | exact HB.out | apply below_alloc | apply pw_below_drewN | apply below_drew1 | refine below_set ?_ GE278.out | refine below_set ?_ GE279.out) | exact HB.out)) hb)
    clear HO283
    clear HO286
    clear BK278
    clear BK279
    clear HB
    have HO283 := n0_
    have HO286 := n1_
    have BK278 := n2_
    have BK279 := n3_
    have HB := n4_
    clear n0_ n1_ n2_ n3_ n4_
    (try clear hb)
    (try clear hb2)
    (try clear hk)
    (try clear hi)
    refine hK.out _ _ ⟨(blk_cell BK278.out 0).trans rfl, (blk_cell BK278.out 1).trans rfl⟩ (fun hHeld => ?_)
    clear hK K
    refine norm_ (a' := ?_) ?_ ?_
    rotate_left
    · show Act.put _ (some 27) _ = _
      simp only [Act.put, List.setIfInBounds_toArray, List.set_cons_zero, List.set_cons_succ, i64_w, i32_w]
      rfl
    refine pure_ (i := 8) (N := some 28) (v := ?_) (a' := ?_) #[true, true, true, true, true, true, true, true, true, false, false, false] rfl rfl (any_of HT_.out (by kernel_rfl)) (fun _ _ _ h => h) (Or.inl ⟨by rfl, ?_⟩) ?_ ?_
    rotate_left
    · intro w'
      go_simp
      with_reducible rfl
    rotate_left
    · simp only [Act.put, List.setIfInBounds_toArray, List.set_cons_zero, List.set_cons_succ, i64_w, i32_w]
      rfl
    refine pure_ (i := 9) (N := some 29) (v := ?_) (a' := ?_) #[true, true, true, true, true, true, true, true, true, true, false, false] rfl rfl (any_of HT_.out (by kernel_rfl)) (fun _ _ _ h => h) (Or.inl ⟨by rfl, ?_⟩) ?_ ?_
    rotate_left
    · intro w'
      go_simp
      with_reducible rfl
    rotate_left
    · simp only [Act.put, List.setIfInBounds_toArray, List.set_cons_zero, List.set_cons_succ, i64_w, i32_w]
      rfl
    refine one_ (i := 10) (N := none) #[true, true, true, true, true, true, true, true, true, true, true, false] rfl rfl (one_of HT_.out (by kernel_rfl)) (by decide) (fun K hK => ?_)
    have hs22 : w21.cell? ⟨gb279, 0, none⟩ = some (.int .i64 0) := (blk_cell BK279.out 0).trans rfl
    have hfs22 := blk_frozen BK279.out 0
    have hns22_0 := NB278_279.out
    have hms22_0 := NB279_278.out
    have hs23 : w21.cell? ⟨gb279, 1, none⟩ = some (.int .i64 0) := (blk_cell BK279.out 1).trans rfl
    have hfs23 := blk_frozen BK279.out 1
    have hns23_0 := NB278_279.out
    have hms23_0 := NB279_278.out
    have hs24 : w21.cell? ⟨gb279, 2, none⟩ = some (.int .i64 0) := (blk_cell BK279.out 2).trans rfl
    have hfs24 := blk_frozen BK279.out 2
    have hns24_0 := NB278_279.out
    have hms24_0 := NB279_278.out
    have hs25 : w21.cell? ⟨gb279, 3, none⟩ = some (.bool false) := (blk_cell BK279.out 3).trans rfl
    have hfs25 := blk_frozen BK279.out 3
    have hns25_0 := NB278_279.out
    have hms25_0 := NB279_278.out
    have hs26 : w21.cell? ⟨gb279, 4, none⟩ = some (.int .i64 0) := (blk_cell BK279.out 4).trans rfl
    have hfs26 := blk_frozen BK279.out 4
    have hns26_0 := NB278_279.out
    have hms26_0 := NB279_278.out
    refine skip_ (w1 := ?_) (by rfl) rfl ?_ ?_
    rotate_left
    · go_simp
      rfl
    refine hK.out _ _ ⟨((cell_far (p := ⟨gb279, _, none⟩) NB278_279.out _).trans (((cell_far (p := ⟨gb279, _, none⟩) NB278_279.out _).trans (((cell_far (p := ⟨gb279, _, none⟩) NB278_279.out _).trans (((cell_far (p := ⟨gb279, _, none⟩) NB278_279.out _).trans (((cell_far (p := ⟨gb279, _, none⟩) NB278_279.out _).trans (hHeld.1)))))))))), ((cell_far (p := ⟨gb279, _, none⟩) NB278_279.out _).trans (((cell_far (p := ⟨gb279, _, none⟩) NB278_279.out _).trans (((cell_far (p := ⟨gb279, _, none⟩) NB278_279.out _).trans (((cell_far (p := ⟨gb279, _, none⟩) NB278_279.out _).trans (((cell_far (p := ⟨gb279, _, none⟩) NB278_279.out _).trans (hHeld.2))))))))))⟩ (fun hHeld => ?_)
    clear hK K
    refine pure_ (i := 11) (N := some 11) (v := ?_) (a' := ?_) #[true, true, true, true, true, true, true, true, true, true, true, true] rfl rfl (any_of HT_.out (by kernel_rfl)) (fun _ _ _ h => h) (Or.inl ⟨by rfl, ?_⟩) ?_ ?_
    rotate_left
    · intro w'
      go_simp
      with_reducible rfl
    rotate_left
    · simp only [Act.put, List.setIfInBounds_toArray, List.set_cons_zero, List.set_cons_succ, i64_w, i32_w]
      rfl
    refine done_ (done_of HT_.out (by kernel_rfl)) ?_
    try go_wp2
    refine bodyPost_ret (results_ct rfl _ _ gb279 32 #[.int .i64 t287, .int .i64 t288, .int .i64 t289, .bool t290, .int .i64 t291] (0, 0) _ rfl (by (with_reducible repeat (first | refine blk_drewN ?_ _ | refine blk_drew ?_ | refine blk_alloc ?_ _)); refine blk_put (cs := #[.int .i64 t287, .int .i64 t288, .int .i64 t289, .bool t290, .int .i64 0]) ?_ 4 _ rfl; (with_reducible repeat (first | refine blk_drewN ?_ _ | refine blk_drew ?_ | refine blk_alloc ?_ _)); refine blk_put (cs := #[.int .i64 t287, .int .i64 t288, .int .i64 t289, .bool false, .int .i64 0]) ?_ 3 _ rfl; (with_reducible repeat (first | refine blk_drewN ?_ _ | refine blk_drew ?_ | refine blk_alloc ?_ _)); refine blk_put (cs := #[.int .i64 t287, .int .i64 t288, .int .i64 0, .bool false, .int .i64 0]) ?_ 2 _ rfl; (with_reducible repeat (first | refine blk_drewN ?_ _ | refine blk_drew ?_ | refine blk_alloc ?_ _)); refine blk_put (cs := #[.int .i64 t287, .int .i64 0, .int .i64 0, .bool false, .int .i64 0]) ?_ 1 _ rfl; (with_reducible repeat (first | refine blk_drewN ?_ _ | refine blk_drew ?_ | refine blk_alloc ?_ _)); refine blk_put (cs := #[.int .i64 0, .int .i64 0, .int .i64 0, .bool false, .int .i64 0]) ?_ 0 _ rfl; (with_reducible repeat (first | refine blk_drewN ?_ _ | refine blk_drew ?_ | refine blk_alloc ?_ _)); exact BK279.out) Try.underlying32 rfl (by kernel_rfl)) rfl ?_
    exact ⟨by first | rfl | (simp [errW_none, errW_some] <;> rfl) | (simp [*, errW_none, errW_some] <;> rfl), by repeat (first | (with_reducible first | exact HB.out | apply below_alloc | apply pw_below_drewN | apply below_drew1 | refine below_set ?_ GE278.out | refine below_set ?_ GE279.out) | exact HB.out)⟩
  · replace c7 := Bool.eq_false_iff.mpr c7
    subst c7
    have H1 : ((foolscapref5_none.f).bind fun bt293 => (some (bt293.1, bt293.2.1, bt293.2.2.1, bt293.2.2.2.1, bt293.2.2.2.2.1, bt293.2.2.2.2.2))) = some (r1, r2, r3, r4, r5, r6) := by rw [if_neg (show ¬ (false = true) by decide)] at H; exact H
    clear H
    have H := H1
    clear H1
    replace H := Option.bind_eq_some_iff.mp H
    obtain ⟨⟨t293, t294, t295, t296, t297, t298⟩, A270, H⟩ := H
    replace H : (some (t293, t294, t295, t296, t297, t298)) = some (r1, r2, r3, r4, r5, r6) := H
    have A27 := Aside0.mk A270
    clear A270
    simp only [Option.some.injEq, Prod.mk.injEq] at H
    obtain ⟨rfl, rfl, rfl, rfl, rfl, rfl⟩ := H
    go_enter Try.func17, Try.ntmps17
    go_wp2_with (first | ((with_reducible refine gate_dst (N := 6) rfl ?_); refine box_event ?hg (N := 6) ?hd (cs := #[.int .i64 a1_0, .int .i64 a1_1]) (t := 24) ?hr ?_; (case hd => rfl); (case hg => rfl); (case hr => first | (go_simp; done) | (go_simp; rfl)); intro gb278 hg w28 hbox hb; have n0_ := Aside0.mk (below_step (by repeat (first | (with_reducible first | exact HB.out | apply below_alloc | apply pw_below_drewN | apply below_drew1) | exact HB.out)) hb); have n1_ := Aside0.mk (hbox); have n2_ := Aside0.mk ((by rw [hg]; exact (below_size (by repeat (first | (with_reducible first | exact HB.out | apply below_alloc | apply pw_below_drewN | apply below_drew1) | exact HB.out))) : w.heap.size ≤ gb278)); have n3_ := Aside0.mk ((by rw [hg]; exact (below_size (by repeat (first | (with_reducible first | exact HB.out | apply below_alloc | apply pw_below_drewN | apply below_drew1) | exact HB.out))) : w.heap.size ≤ gb278)); clear HB; have HB := n0_; have BK278 := n1_; have GW278 := n2_; have GE278 := n3_; clear n0_ n1_ n2_ n3_; clear hb hbox hg) | ((with_reducible refine gate_dst (N := 10) rfl ?_); refine box_event ?hg (N := 10) ?hd (cs := #[.int .i64 0, .int .i64 0, .int .i64 0, .bool false, .int .i64 0]) (t := 32) ?hr ?_; (case hd => rfl); (case hg => rfl); (case hr => first | (go_simp; done) | (go_simp; rfl)); intro gb279 hg w29 hbox hb; have n0_ := Aside0.mk (blk_below (g := gb278) (o := .cells #[.int .i64 a1_0, .int .i64 a1_1] 24 (0, 0)) (by (with_reducible repeat (first | refine blk_drewN ?_ _ | refine blk_drew ?_ | refine blk_alloc ?_ _)); exact BK278.out) hb); have n1_ := Aside0.mk (below_step (by repeat (first | (with_reducible first | exact HB.out | apply below_alloc | apply pw_below_drewN | apply below_drew1 | refine below_set ?_ GE278.out) | exact HB.out)) hb); have n2_ := Aside0.mk (hbox); have n3_ := Aside0.mk ((by rw [hg]; exact (below_size (by repeat (first | (with_reducible first | exact HB.out | apply below_alloc | apply pw_below_drewN | apply below_drew1 | refine below_set ?_ GE278.out) | exact HB.out))) : w.heap.size ≤ gb279)); have n4_ := Aside0.mk ((by rw [hg]; exact (below_size (by repeat (first | (with_reducible first | exact HB.out | apply below_alloc | apply pw_below_drewN | apply below_drew1 | refine below_set ?_ GE278.out) | exact HB.out))) : w.heap.size ≤ gb279)); have n5_ := Aside0.mk ((by rw [hg]; exact Nat.ne_of_lt (blk_lt (g := gb278) (o := .cells #[.int .i64 a1_0, .int .i64 a1_1] 24 (0, 0)) (by (with_reducible repeat (first | refine blk_drewN ?_ _ | refine blk_drew ?_ | refine blk_alloc ?_ _)); exact BK278.out)) : gb278 ≠ gb279)); have n6_ := Aside0.mk ((by rw [hg]; exact Nat.ne_of_gt (blk_lt (g := gb278) (o := .cells #[.int .i64 a1_0, .int .i64 a1_1] 24 (0, 0)) (by (with_reducible repeat (first | refine blk_drewN ?_ _ | refine blk_drew ?_ | refine blk_alloc ?_ _)); exact BK278.out)) : gb279 ≠ gb278)); clear BK278; clear HB; have BK278 := n0_; have HB := n1_; have BK279 := n2_; have GW279 := n3_; have GE279 := n4_; have NB278_279 := n5_; have NB279_278 := n6_; clear n0_ n1_ n2_ n3_ n4_ n5_ n6_; clear hb hbox hg; have hnb30 := NB278_279.out; have hnc30 := NB279_278.out; have hcz31_0 : w29.cell? ⟨gb278, 0, none⟩ = some (.int .i64 a1_0) := (blk_cell BK278.out 0).trans rfl; have hcz31_1 : w29.cell? ⟨gb278, 1, none⟩ = some (.int .i64 a1_1) := (blk_cell BK278.out 1).trans rfl; have hfz31_0 := blk_frozen BK278.out 0; have hfz31_1 := blk_frozen BK278.out 1) | ((with_reducible refine gate_callee (f := 31) rfl ?_); refine goesL_ (some 15) rfl rfl Try.func31 (by kernel_rfl) rfl #[.slice A0 l0.length c0, .agg #[.int .i64 a1_0, .int .i64 a1_1], .int .i64 a2] rfl (by (try simp only [List.map_toArray, List.map_cons, List.map_nil]); first | done | rfl | (simp only [List.length_drop, List.length_take]; rfl)) ?_; (with_reducible refine (foolscapref5_may.calls _ _ l0 a1_0 a1_1 a2 false _ ?side1 ?side2 A6.out).mono ?_); (case side1 => repeat (first | exact (Kd.C_below HR0.out HB.out) | (with_reducible refine Kd.C_alloc ?_ _) | (with_reducible refine Kd.C_drewN ?_ _) | (with_reducible refine Kd.C_drew ?_))); (case side2 => exact HC0.out); rintro e w32 ⟨rfl, hb⟩; refine ⟨_, rfl, ?_⟩; have n0_ := Aside0.mk (blk_below (g := gb278) (o := .cells #[.int .i64 a1_0, .int .i64 a1_1] 24 (0, 0)) (by (with_reducible repeat (first | refine blk_drewN ?_ _ | refine blk_drew ?_ | refine blk_alloc ?_ _)); exact BK278.out) hb); have n1_ := Aside0.mk (blk_below (g := gb279) (o := .cells #[.int .i64 0, .int .i64 0, .int .i64 0, .bool false, .int .i64 0] 32 (0, 0)) (by (with_reducible repeat (first | refine blk_drewN ?_ _ | refine blk_drew ?_ | refine blk_alloc ?_ _)); exact BK279.out) hb); have n2_ := Aside0.mk (below_step (by repeat (first | (with_reducible first | exact HB.out | apply below_alloc | apply pw_below_drewN | apply below_drew1 | refine below_set ?_ GE278.out | refine below_set ?_ GE279.out) | exact HB.out)) hb); clear BK278; clear BK279; clear HB; have BK278 := n0_; have BK279 := n1_; have HB := n2_; clear n0_ n1_ n2_; (try clear hb); (try clear hb2); (try clear hk); (try clear hi)) | ((with_reducible refine gate_callee (f := 32) rfl ?_); refine goesL_ (some 17) rfl rfl Try.func32 (by kernel_rfl) rfl #[] rfl (by (try simp only [List.map_toArray, List.map_cons, List.map_nil]); first | done | rfl | (simp only [List.length_drop, List.length_take]; rfl)) ?_; (with_reducible refine (foolscapref5_none.calls  t293 t294 t295 t296 t297 t298 _ A27.out).mono ?_); rintro e w33 ⟨rfl, hb⟩; refine ⟨_, rfl, ?_⟩; have n0_ := Aside0.mk (blk_below (g := gb278) (o := .cells #[.int .i64 a1_0, .int .i64 a1_1] 24 (0, 0)) (by (with_reducible repeat (first | refine blk_drewN ?_ _ | refine blk_drew ?_ | refine blk_alloc ?_ _)); exact BK278.out) hb); have n1_ := Aside0.mk (blk_below (g := gb279) (o := .cells #[.int .i64 0, .int .i64 0, .int .i64 0, .bool false, .int .i64 0] 32 (0, 0)) (by (with_reducible repeat (first | refine blk_drewN ?_ _ | refine blk_drew ?_ | refine blk_alloc ?_ _)); exact BK279.out) hb); have n2_ := Aside0.mk (below_step (by repeat (first | (with_reducible first | exact HB.out | apply below_alloc | apply pw_below_drewN | apply below_drew1 | refine below_set ?_ GE278.out | refine below_set ?_ GE279.out) | exact HB.out)) hb); clear BK278; clear BK279; clear HB; have BK278 := n0_; have BK279 := n1_; have HB := n2_; clear n0_ n1_ n2_; (try clear hb); (try clear hb2); (try clear hk); (try clear hi); have hcz34_0 : w33.cell? ⟨gb279, 0, none⟩ = some (.int .i64 0) := (blk_cell BK279.out 0).trans rfl; have hcz34_1 : w33.cell? ⟨gb279, 1, none⟩ = some (.int .i64 0) := (blk_cell BK279.out 1).trans rfl; have hcz34_2 : w33.cell? ⟨gb279, 2, none⟩ = some (.int .i64 0) := (blk_cell BK279.out 2).trans rfl; have hcz34_3 : w33.cell? ⟨gb279, 3, none⟩ = some (.bool false) := (blk_cell BK279.out 3).trans rfl; have hcz34_4 : w33.cell? ⟨gb279, 4, none⟩ = some (.int .i64 0) := (blk_cell BK279.out 4).trans rfl; have hfz34_0 := blk_frozen BK279.out 0; have hfz34_1 := blk_frozen BK279.out 1; have hfz34_2 := blk_frozen BK279.out 2; have hfz34_3 := blk_frozen BK279.out 3; have hfz34_4 := blk_frozen BK279.out 4))
    refine bodyPost_ret (results_ct rfl _ _ gb279 32 #[.int .i64 t293, .int .i64 t294, .int .i64 t295, .bool t296, .int .i64 t297] (0, 0) _ rfl (by (with_reducible repeat (first | refine blk_drewN ?_ _ | refine blk_drew ?_ | refine blk_alloc ?_ _)); refine blk_put (cs := #[.int .i64 t293, .int .i64 t294, .int .i64 t295, .bool t296, .int .i64 0]) ?_ 4 _ rfl; (with_reducible repeat (first | refine blk_drewN ?_ _ | refine blk_drew ?_ | refine blk_alloc ?_ _)); refine blk_put (cs := #[.int .i64 t293, .int .i64 t294, .int .i64 t295, .bool false, .int .i64 0]) ?_ 3 _ rfl; (with_reducible repeat (first | refine blk_drewN ?_ _ | refine blk_drew ?_ | refine blk_alloc ?_ _)); refine blk_put (cs := #[.int .i64 t293, .int .i64 t294, .int .i64 0, .bool false, .int .i64 0]) ?_ 2 _ rfl; (with_reducible repeat (first | refine blk_drewN ?_ _ | refine blk_drew ?_ | refine blk_alloc ?_ _)); refine blk_put (cs := #[.int .i64 t293, .int .i64 0, .int .i64 0, .bool false, .int .i64 0]) ?_ 1 _ rfl; (with_reducible repeat (first | refine blk_drewN ?_ _ | refine blk_drew ?_ | refine blk_alloc ?_ _)); refine blk_put (cs := #[.int .i64 0, .int .i64 0, .int .i64 0, .bool false, .int .i64 0]) ?_ 0 _ rfl; (with_reducible repeat (first | refine blk_drewN ?_ _ | refine blk_drew ?_ | refine blk_alloc ?_ _)); exact BK279.out) Try.underlying32 rfl (by kernel_rfl)) rfl ?_
    exact ⟨by first | rfl | (simp [errW_none, errW_some] <;> rfl) | (simp [*, errW_none, errW_some] <;> rfl), by repeat (first | (with_reducible first | exact HB.out | apply below_alloc | apply pw_below_drewN | apply below_drew1 | refine below_set ?_ GE278.out | refine below_set ?_ GE279.out) | exact HB.out)⟩

-- STUB: function 18 (words_BackTail)

end Go.Proofs.Ytifkfjpkngdhmaa.V
namespace Go.Proofs.Ytifkfjpkngdhmaa.V
open Go.RowKit Go.Proofs.YtifkfjpkngdhmaaW.PrintWords Go.Proofs.YtifkfjpkngdhmaaW.PrintLast Go.Proofs.YtifkfjpkngdhmaaW.PrintMore
attribute [local go_sem] max2_int min2_int max_two min_two max_three min_three max_four min_four   -- for this text's walks alone
set_option linter.unusedVariables false
set_option linter.unusedSimpArgs false

/-! ### foolscapref5_BackTail: function 19 -/
def foolscapref5_BackTail.f (k : Nat) (l0 : List ByteArray) (a1_0 : Int) (a1_1 : Int) (a2 : Int) (a3 : Bool) : Option (Int × Int × Int × Bool × Int × Bool) := (foolscapref5_may.f l0 a1_0 a1_1 a2).bind fun t301 => (if t301 = true then ((foolscapref5_Ends.f k l0 a3).bind fun t302 => ((foolscapref5_ahead.f k t302 a1_0 a1_1).bind fun t305 => ((foolscapref5_nth.f t305 a2 1).bind fun bt308 => (some (bt308.1, bt308.2.1, bt308.2.2.1, bt308.2.2.2.1, bt308.2.2.2.2.1, bt308.2.2.2.2.2))))) else ((foolscapref5_none.f).bind fun bt314 => (some (bt314.1, bt314.2.1, bt314.2.2.1, bt314.2.2.2.1, bt314.2.2.2.2.1, bt314.2.2.2.2.2))))
theorem foolscapref5_BackTail.mono : ∀ a0 a1 a2 a3 a4 k, LeO (foolscapref5_BackTail.f k a0 a1 a2 a3 a4) (foolscapref5_BackTail.f (k + 1) a0 a1 a2 a3 a4) := by
  intro a0 a1 a2 a3 a4 k
  unfold foolscapref5_BackTail.f
  repeat' first
      | (with_reducible exact foolscapref5_Ends.mono _ _ _)
      | (with_reducible exact foolscapref5_ahead.mono _ _ _ _)
      | (with_reducible exact LeO.refl _)
      | (with_reducible exact LeO.none _)
      | (with_reducible refine LeO.ite ?_ ?_)
      | (with_reducible refine LeO.bind ?_ (fun _ => ?_))
      | exact foolscapref5_Ends.mono _ _ _
      | exact foolscapref5_ahead.mono _ _ _ _
      | exact LeO.none _
      | refine LeO.ite ?_ ?_
      | refine LeO.bind ?_ (fun _ => ?_)
def foolscapref5_BackTail.T3 : Bool × List (List Nat × List Nat) := (true, [([], []), ([], []), ([0, 1], [0, 1]), ([], []), ([2, 3, 2], [2, 3]), ([], []), ([4, 5, 4], [4, 5]), ([6], [6]), ([6], [6]), ([7, 6, 0, 1, 2, 3, 4, 5, 6, 7, 8], [7]), ([8, 9, 0, 1, 2, 3, 4, 5, 6, 7, 8, 9], [8])])
def foolscapref5_BackTail.B3 : List Nat := [0, 0, 3, 0, 15, 0, 63, 127, 127, 511, 1023]
theorem foolscapref5_BackTail.tab3 : rtab .any (opsOf Try.f19 3) = foolscapref5_BackTail.T3 := by kernel_rfl
theorem foolscapref5_BackTail.bits3 : waitsOk foolscapref5_BackTail.T3.2 foolscapref5_BackTail.B3 = true := by kernel_rfl
set_option maxHeartbeats 8000000 in
set_option maxRecDepth 100000 in
theorem foolscapref5_BackTail.calls (k : Nat) (A0 : Option Addr) (c0 : Nat) (l0 : List ByteArray) (a1_0 : Int) (a1_1 : Int) (a2 : Int) (a3 : Bool) (r1 : Int) (r2 : Int) (r3 : Int) (r4 : Bool) (r5 : Int) (r6 : Bool) (w : World) (hr0 : Kd.C Kd.string w A0 l0.length l0) (hc0 : l0.length ≤ c0) (h : foolscapref5_BackTail.f k l0 a1_0 a1_1 a2 a3 = some (r1, r2, r3, r4, r5, r6)) :
    Calls Try.prog 19 #[.slice A0 l0.length c0, .agg #[.int .i64 a1_0, .int .i64 a1_1], .int .i64 a2, .bool a3] w fun e w' => e = .returned (.tuple #[.agg #[.int .i64 r1, .int .i64 r2, .int .i64 r3, .bool r4, .int .i64 r5], .bool r6]) ∧ Below w.heap.size w w' := by
  have hu24 := Try.underlying24
  have hu32 := Try.underlying32
  have HR0 := Aside0.mk hr0
  have HC0 := Aside0.mk hc0
  clear hr0 hc0
  have HB := Aside0.mk (Below.refl w.heap.size w)
  have H : ((foolscapref5_may.f l0 a1_0 a1_1 a2).bind fun t301 => (if t301 = true then ((foolscapref5_Ends.f k l0 a3).bind fun t302 => ((foolscapref5_ahead.f k t302 a1_0 a1_1).bind fun t305 => ((foolscapref5_nth.f t305 a2 1).bind fun bt308 => (some (bt308.1, bt308.2.1, bt308.2.2.1, bt308.2.2.2.1, bt308.2.2.2.2.1, bt308.2.2.2.2.2))))) else ((foolscapref5_none.f).bind fun bt314 => (some (bt314.1, bt314.2.1, bt314.2.2.1, bt314.2.2.2.1, bt314.2.2.2.2.1, bt314.2.2.2.2.2))))) = some (r1, r2, r3, r4, r5, r6) := h
  clear h
  replace H := Option.bind_eq_some_iff.mp H
  obtain ⟨t301, A50, H⟩ := H
  replace H : (if t301 = true then ((foolscapref5_Ends.f k l0 a3).bind fun t302 => ((foolscapref5_ahead.f k t302 a1_0 a1_1).bind fun t305 => ((foolscapref5_nth.f t305 a2 1).bind fun bt308 => (some (bt308.1, bt308.2.1, bt308.2.2.1, bt308.2.2.2.1, bt308.2.2.2.2.1, bt308.2.2.2.2.2))))) else ((foolscapref5_none.f).bind fun bt314 => (some (bt314.1, bt314.2.1, bt314.2.2.1, bt314.2.2.2.1, bt314.2.2.2.2.1, bt314.2.2.2.2.2)))) = some (r1, r2, r3, r4, r5, r6) := H
  have A5 := Aside0.mk A50
  clear A50
  by_cases c6 : t301 = true
  · subst c6
    have H1 : ((foolscapref5_Ends.f k l0 a3).bind fun t302 => ((foolscapref5_ahead.f k t302 a1_0 a1_1).bind fun t305 => ((foolscapref5_nth.f t305 a2 1).bind fun bt308 => (some (bt308.1, bt308.2.1, bt308.2.2.1, bt308.2.2.2.1, bt308.2.2.2.2.1, bt308.2.2.2.2.2))))) = some (r1, r2, r3, r4, r5, r6) := by rw [if_pos rfl] at H; exact H
    clear H
    have H := H1
    clear H1
    replace H := Option.bind_eq_some_iff.mp H
    obtain ⟨t302, A70, H⟩ := H
    replace H : ((foolscapref5_ahead.f k t302 a1_0 a1_1).bind fun t305 => ((foolscapref5_nth.f t305 a2 1).bind fun bt308 => (some (bt308.1, bt308.2.1, bt308.2.2.1, bt308.2.2.2.1, bt308.2.2.2.2.1, bt308.2.2.2.2.2)))) = some (r1, r2, r3, r4, r5, r6) := H
    have A7 := Aside0.mk A70
    clear A70
    replace H := Option.bind_eq_some_iff.mp H
    obtain ⟨t305, A80, H⟩ := H
    replace H : ((foolscapref5_nth.f t305 a2 1).bind fun bt308 => (some (bt308.1, bt308.2.1, bt308.2.2.1, bt308.2.2.2.1, bt308.2.2.2.2.1, bt308.2.2.2.2.2))) = some (r1, r2, r3, r4, r5, r6) := H
    have A8 := Aside0.mk A80
    clear A80
    replace H := Option.bind_eq_some_iff.mp H
    obtain ⟨⟨t308, t309, t310, t311, t312, t313⟩, A90, H⟩ := H
    replace H : (some (t308, t309, t310, t311, t312, t313)) = some (r1, r2, r3, r4, r5, r6) := H
    have A9 := Aside0.mk A90
    clear A90
    simp only [Option.some.injEq, Prod.mk.injEq] at H
    obtain ⟨rfl, rfl, rfl, rfl, rfl, rfl⟩ := H
    go_enter Try.func19, Try.ntmps19
    try go_wp2_with (first | ((with_reducible refine gate_dst (N := 5) rfl ?_); refine box_event ?hg (N := 5) ?hd (cs := #[.int .i64 a1_0, .int .i64 a1_1]) (t := 24) ?hr ?_; (case hd => rfl); (case hg => rfl); (case hr => first | (go_simp; done) | (go_simp; rfl)); intro gb299 hg w10 hbox hb; have n0_ := Aside0.mk (below_step (by repeat (first | (with_reducible first | exact HB.out | apply below_alloc | apply pw_below_drewN | apply below_drew1) | exact HB.out)) hb); have n1_ := Aside0.mk (hbox); have n2_ := Aside0.mk ((by rw [hg]; exact (below_size (by repeat (first | (with_reducible first | exact HB.out | apply below_alloc | apply pw_below_drewN | apply below_drew1) | exact HB.out))) : w.heap.size ≤ gb299)); have n3_ := Aside0.mk ((by rw [hg]; exact (below_size (by repeat (first | (with_reducible first | exact HB.out | apply below_alloc | apply pw_below_drewN | apply below_drew1) | exact HB.out))) : w.heap.size ≤ gb299)); clear HB; have HB := n0_; have BK299 := n1_; have GW299 := n2_; have GE299 := n3_; clear n0_ n1_ n2_ n3_; clear hb hbox hg) | ((with_reducible refine gate_dst (N := 8) rfl ?_); refine box_event ?hg (N := 8) ?hd (cs := #[.int .i64 0, .int .i64 0, .int .i64 0, .bool false, .int .i64 0]) (t := 32) ?hr ?_; (case hd => rfl); (case hg => rfl); (case hr => first | (go_simp; done) | (go_simp; rfl)); intro gb300 hg w11 hbox hb; have n0_ := Aside0.mk (blk_below (g := gb299) (o := .cells #[.int .i64 a1_0, .int .i64 a1_1] 24 (0, 0)) (by (with_reducible repeat (first | refine blk_drewN ?_ _ | refine blk_drew ?_ | refine blk_alloc ?_ _)); exact BK299.out) hb); have n1_ := Aside0.mk (below_step (by repeat (first | (with_reducible first | exact HB.out | apply below_alloc | apply pw_below_drewN | apply below_drew1 | refine below_set ?_ GE299.out) | exact HB.out)) hb); have n2_ := Aside0.mk (hbox); have n3_ := Aside0.mk ((by rw [hg]; exact (below_size (by repeat (first | (with_reducible first | exact HB.out | apply below_alloc | apply pw_below_drewN | apply below_drew1 | refine below_set ?_ GE299.out) | exact HB.out))) : w.heap.size ≤ gb300)); have n4_ := Aside0.mk ((by rw [hg]; exact (below_size (by repeat (first | (with_reducible first | exact HB.out | apply below_alloc | apply pw_below_drewN | apply below_drew1 | refine below_set ?_ GE299.out) | exact HB.out))) : w.heap.size ≤ gb300)); have n5_ := Aside0.mk ((by rw [hg]; exact Nat.ne_of_lt (blk_lt (g := gb299) (o := .cells #[.int .i64 a1_0, .int .i64 a1_1] 24 (0, 0)) (by (with_reducible repeat (first | refine blk_drewN ?_ _ | refine blk_drew ?_ | refine blk_alloc ?_ _)); exact BK299.out)) : gb299 ≠ gb300)); have n6_ := Aside0.mk ((by rw [hg]; exact Nat.ne_of_gt (blk_lt (g := gb299) (o := .cells #[.int .i64 a1_0, .int .i64 a1_1] 24 (0, 0)) (by (with_reducible repeat (first | refine blk_drewN ?_ _ | refine blk_drew ?_ | refine blk_alloc ?_ _)); exact BK299.out)) : gb300 ≠ gb299)); clear BK299; clear HB; have BK299 := n0_; have HB := n1_; have BK300 := n2_; have GW300 := n3_; have GE300 := n4_; have NB299_300 := n5_; have NB300_299 := n6_; clear n0_ n1_ n2_ n3_ n4_ n5_ n6_; clear hb hbox hg; have hnb12 := NB299_300.out; have hnc12 := NB300_299.out; have hcz13_0 : w11.cell? ⟨gb299, 0, none⟩ = some (.int .i64 a1_0) := (blk_cell BK299.out 0).trans rfl; have hcz13_1 : w11.cell? ⟨gb299, 1, none⟩ = some (.int .i64 a1_1) := (blk_cell BK299.out 1).trans rfl; have hfz13_0 := blk_frozen BK299.out 0; have hfz13_1 := blk_frozen BK299.out 1) | ((with_reducible refine gate_callee (f := 31) rfl ?_); refine goesL_ (some 13) rfl rfl Try.func31 (by kernel_rfl) rfl #[.slice A0 l0.length c0, .agg #[.int .i64 a1_0, .int .i64 a1_1], .int .i64 a2] rfl (by (try simp only [List.map_toArray, List.map_cons, List.map_nil]); first | done | rfl | (simp only [List.length_drop, List.length_take]; rfl)) ?_; (with_reducible refine (foolscapref5_may.calls _ _ l0 a1_0 a1_1 a2 true _ ?side1 ?side2 A5.out).mono ?_); (case side1 => repeat (first | exact (Kd.C_below HR0.out HB.out) | (with_reducible refine Kd.C_alloc ?_ _) | (with_reducible refine Kd.C_drewN ?_ _) | (with_reducible refine Kd.C_drew ?_))); (case side2 => exact HC0.out); rintro e w14 ⟨rfl, hb⟩; refine ⟨_, rfl, ?_⟩; have n0_ := Aside0.mk (blk_below (g := gb299) (o := .cells #[.int .i64 a1_0, .int .i64 a1_1] 24 (0, 0)) (by (with_reducible repeat (first | refine blk_drewN ?_ _ | refine blk_drew ?_ | refine blk_alloc ?_ _)); exact BK299.out) hb); have n1_ := Aside0.mk (blk_below (g := gb300) (o := .cells #[.int .i64 0, .int .i64 0, .int .i64 0, .bool false, .int .i64 0] 32 (0, 0)) (by (with_reducible repeat (first | refine blk_drewN ?_ _ | refine blk_drew ?_ | refine blk_alloc ?_ _)); exact BK300.out) hb); have n2_ := Aside0.mk (below_step (by repeat (first | (with_reducible first | exact HB.out | apply below_alloc | apply pw_below_drewN | apply below_drew1 | refine below_set ?_ GE299.out | refine below_set ?_ GE300.out) | exact HB.out)) hb); clear BK299; clear BK300; clear HB; have BK299 := n0_; have BK300 := n1_; have HB := n2_; clear n0_ n1_ n2_; (try clear hb); (try clear hb2); (try clear hk); (try clear hi)))
    have n0_ := Aside0.mk (blk_drew BK299.out)
    have n1_ := Aside0.mk (blk_drew BK300.out)
    have n2_ := Aside0.mk (below_drew1 HB.out)
    clear BK299
    clear BK300
    clear HB
    have BK299 := n0_
    have BK300 := n1_
    have HB := n2_
    clear n0_ n1_ n2_
    refine start_ (n := 11) (S := fun w' => w'.cell? ⟨gb299, 0, none⟩ = some (.int .i64 a1_0) ∧ w'.cell? ⟨gb299, 1, none⟩ = some (.int .i64 a1_1)) (ds := []) #[false, false, false, false, false, false, false, false, false, false, false] (by kernel_rfl) rfl rfl ⟨(blk_cell BK299.out 0).trans rfl, (blk_cell BK299.out 1).trans rfl⟩ (fun hHeld => ?_); refine with_tabW foolscapref5_BackTail.tab3 foolscapref5_BackTail.bits3 (fun HT_ HW_ => ?_)
    generalize w14.drew = w15 at BK299 BK300 HB hHeld ⊢
    refine pure_ (i := 0) (N := some 18) (v := ?_) (a' := ?_) #[true, false, false, false, false, false, false, false, false, false, false] rfl rfl (any_of HT_.out (by kernel_rfl)) (fun _ _ _ h => h) (Or.inl ⟨by rfl, ?_⟩) ?_ ?_
    rotate_left
    · intro w'
      go_simp
      with_reducible rfl
    rotate_left
    · simp only [Act.put, List.setIfInBounds_toArray, List.set_cons_zero, List.set_cons_succ, i64_w, i32_w]
      rfl
    refine pure_ (i := 1) (N := some 19) (v := ?_) (a' := ?_) #[true, true, false, false, false, false, false, false, false, false, false] rfl rfl (any_of HT_.out (by kernel_rfl)) (fun _ _ _ h => h) (Or.inl ⟨by rfl, ?_⟩) ?_ ?_
    rotate_left
    · intro w'
      go_simp
      with_reducible rfl
    rotate_left
    · simp only [Act.put, List.setIfInBounds_toArray, List.set_cons_zero, List.set_cons_succ, i64_w, i32_w]
      rfl
    refine pure_ (i := 5) (N := some 23) (v := ?_) (a' := ?_) #[true, true, false, false, false, true, false, false, false, false, false] rfl rfl (any_of HT_.out (by kernel_rfl)) (fun _ _ _ h => h) (Or.inl ⟨by rfl, ?_⟩) ?_ ?_
    rotate_left
    · intro w'
      go_simp
      with_reducible rfl
    rotate_left
    · simp only [Act.put, List.setIfInBounds_toArray, List.set_cons_zero, List.set_cons_succ, i64_w, i32_w]
      rfl
    refine take_ (i := 3) (N := some 21) (v := ?_) (a' := ?_) #[true, true, false, true, false, true, false, false, false, false, false] rfl rfl (take_ofW HT_.out HW_.out (by kernel_rfl)) (fun _ _ _ h => h) (Or.inl ⟨by rfl, ?_⟩) hHeld ?_ ?_
    rotate_left
    · rintro w' ⟨s0, s1⟩
      go_simp
      with_reducible rfl
    rotate_left
    · simp only [Act.put, List.setIfInBounds_toArray, List.set_cons_zero, List.set_cons_succ, i64_w, i32_w]
      rfl
    refine one_ (i := 2) (N := some 20) #[true, true, true, true, false, true, false, false, false, false, false] rfl rfl (one_of HT_.out (by kernel_rfl)) (by decide) (fun K hK => ?_)
    refine goes_ Try.func25 (by kernel_rfl) rfl #[.slice A0 l0.length c0, .bool a3] (by rfl) rfl rfl (by (try simp only [List.map_toArray, List.map_cons, List.map_nil]); first | done | rfl | (simp only [List.length_drop, List.length_take]; rfl)) ?_
    with_reducible refine (foolscapref5_Ends.calls k _ _ l0 a3 t302 _ ?side1 ?side2 A7.out).mono ?_
    (case side1 => repeat (first | exact (Kd.C_below HR0.out HB.out) | (with_reducible refine Kd.C_alloc ?_ _) | (with_reducible refine Kd.C_drewN ?_ _) | (with_reducible refine Kd.C_drew ?_)))
    (case side2 => exact HC0.out)
    rintro e w16 ⟨v303, rfl, ho0, hb⟩
    refine ⟨_, rfl, ?_⟩
    have n0_ := Aside0.mk (Kd.R_lower (Kd.R_newB ho0 (g := gb299) (o := .cells #[.int .i64 a1_0, .int .i64 a1_1] 24 (0, 0)) (by (with_reducible repeat (first | refine blk_drewN ?_ _ | refine blk_drew ?_ | refine blk_alloc ?_ _)); exact BK299.out)) (below_size (by repeat (first | (with_reducible first | exact HB.out | apply below_alloc | apply pw_below_drewN | apply below_drew1 | refine below_set ?_ GE299.out | refine below_set ?_ GE300.out) | exact HB.out))))
    have n1_ := Aside0.mk (blk_below (g := gb299) (o := .cells #[.int .i64 a1_0, .int .i64 a1_1] 24 (0, 0)) (by (with_reducible repeat (first | refine blk_drewN ?_ _ | refine blk_drew ?_ | refine blk_alloc ?_ _)); exact BK299.out) hb)
    have n2_ := Aside0.mk (blk_below (g := gb300) (o := .cells #[.int .i64 0, .int .i64 0, .int .i64 0, .bool false, .int .i64 0] 32 (0, 0)) (by (with_reducible repeat (first | refine blk_drewN ?_ _ | refine blk_drew ?_ | refine blk_alloc ?_ _)); exact BK300.out) hb)
    have n3_ := Aside0.mk (below_step (by repeat (first | (with_reducible first | exact HB.out | apply below_alloc | apply pw_below_drewN | apply below_drew1 | refine below_set ?_ GE299.out | refine below_set ?_ GE300.out) | exact HB.out)) hb)
    clear BK299
    clear BK300
    clear HB
    have HO304 := n0_
    have BK299 := n1_
    have BK300 := n2_
    have HB := n3_
    clear n0_ n1_ n2_ n3_
    (try clear hb)
    (try clear hb2)
    (try clear hk)
    (try clear hi)
    (try clear ho0)
    obtain ⟨Ao17, co17, eo17⟩ := Kd.R_slice HO304.out
    (first | subst eo17 | (injection eo17 with f1_ f2_ f3_; have f4_ := f1_.symm; have f5_ := f3_.symm; clear f1_ f2_ f3_; subst f4_; subst f5_))
    refine hK.out _ _ ⟨(blk_cell BK299.out 0).trans rfl, (blk_cell BK299.out 1).trans rfl⟩ (fun hHeld => ?_)
    clear hK K
    refine norm_ (a' := ?_) ?_ ?_
    rotate_left
    · show Act.put _ (some 20) _ = _
      simp only [Act.put, List.setIfInBounds_toArray, List.set_cons_zero, List.set_cons_succ, i64_w, i32_w]
      rfl
    refine one_ (i := 4) (N := some 22) #[true, true, true, true, true, true, false, false, false, false, false] rfl rfl (one_of HT_.out (by kernel_rfl)) (by decide) (fun K hK => ?_)
    refine goes_ Try.func38 (by kernel_rfl) rfl #[.slice Ao17 t302.length co17, .agg #[.int .i64 a1_0, .int .i64 a1_1]] (by rfl) rfl rfl (by (try simp only [List.map_toArray, List.map_cons, List.map_nil]); first | done | rfl | (simp only [List.length_drop, List.length_take]; rfl)) ?_
    with_reducible refine (foolscapref5_ahead.calls k _ _ t302 a1_0 a1_1 t305 _ ?side1 ?side2 A8.out).mono ?_
    (case side1 => repeat (first | exact (Kd.R_reads' HO304.out).2.2 | (with_reducible refine Kd.C_alloc ?_ _) | (with_reducible refine Kd.C_drewN ?_ _) | (with_reducible refine Kd.C_drew ?_)))
    (case side2 => exact (Kd.R_reads' HO304.out).2.1)
    rintro e w18 ⟨v306, rfl, ho0, hb⟩
    refine ⟨_, rfl, ?_⟩
    have n0_ := Aside0.mk (Kd.R_elder' (by (with_reducible repeat (first | apply Kd.R_alloc | apply Kd.R_drewN | apply Kd.R_drew)); exact HO304.out) (Kd.R_base ho0) hb)
    have n1_ := Aside0.mk (Kd.R_lower (Kd.R_newB (Kd.R_new' ho0 (Kd.R_lt (by (with_reducible repeat (first | apply Kd.R_alloc | apply Kd.R_drewN | apply Kd.R_drew)); exact HO304.out))) (g := gb299) (o := .cells #[.int .i64 a1_0, .int .i64 a1_1] 24 (0, 0)) (by (with_reducible repeat (first | refine blk_drewN ?_ _ | refine blk_drew ?_ | refine blk_alloc ?_ _)); exact BK299.out)) (below_size (by repeat (first | (with_reducible first | exact HB.out | apply below_alloc | apply pw_below_drewN | apply below_drew1 | refine below_set ?_ GE299.out | refine below_set ?_ GE300.out) | exact HB.out))))
    have n2_ := Aside0.mk (blk_below (g := gb299) (o := .cells #[.int .i64 a1_0, .int .i64 a1_1] 24 (0, 0)) (by (with_reducible repeat (first | refine blk_drewN ?_ _ | refine blk_drew ?_ | refine blk_alloc ?_ _)); exact BK299.out) hb)
    have n3_ := Aside0.mk (blk_below (g := gb300) (o := .cells #[.int .i64 0, .int .i64 0, .int .i64 0, .bool false, .int .i64 0] 32 (0, 0)) (by (with_reducible repeat (first | refine blk_drewN ?_ _ | refine blk_drew ?_ | refine blk_alloc ?_ _)); exact BK300.out) hb)
    have n4_ := Aside0.mk (below_step (by repeat (first | (with_reducible first | exact HB.out | apply below_alloc | apply pw_below_drewN | apply below_drew1 | refine below_set ?_ GE299.out | refine below_set ?_ GE300.out) | exact HB.out)) hb)
    clear HO304
    clear BK299
    clear BK300
    clear HB
    have HO304 := n0_
    have HO307 := n1_
    have BK299 := n2_
    have BK300 := n3_
    have HB := n4_
    clear n0_ n1_ n2_ n3_ n4_
    (try clear hb)
    (try clear hb2)
    (try clear hk)
    (try clear hi)
    (try clear ho0)
    obtain ⟨Ao19, co19, eo19⟩ := Kd.R_slice HO307.out
    (first | subst eo19 | (injection eo19 with f1_ f2_ f3_; have f4_ := f1_.symm; have f5_ := f3_.symm; clear f1_ f2_ f3_; subst f4_; subst f5_))
    refine hK.out _ _ ⟨(blk_cell BK299.out 0).trans rfl, (blk_cell BK299.out 1).trans rfl⟩ (fun hHeld => ?_)
    clear hK K
    refine norm_ (a' := ?_) ?_ ?_
    rotate_left
    · show Act.put _ (some 22) _ = _
      simp only [Act.put, List.setIfInBounds_toArray, List.set_cons_zero, List.set_cons_succ, i64_w, i32_w]
      rfl
    refine one_ (i := 6) (N := some 24) #[true, true, true, true, true, true, true, false, false, false, false] rfl rfl (one_of HT_.out (by kernel_rfl)) (by decide) (fun K hK => ?_)
    refine goes_ Try.func34 (by kernel_rfl) rfl #[.slice Ao19 t305.length co19, .int .i64 a2, .int .i64 1] (by rfl) rfl rfl (by (try simp only [List.map_toArray, List.map_cons, List.map_nil]); first | done | rfl | (simp only [List.length_drop, List.length_take]; rfl)) ?_
    with_reducible refine (foolscapref5_nth.calls _ _ t305 a2 1 t308 t309 t310 t311 t312 t313 _ ?side1 ?side2 A9.out).mono ?_
    (case side1 => repeat (first | exact (Kd.R_reads' HO307.out).2.2 | (with_reducible refine Kd.C_alloc ?_ _) | (with_reducible refine Kd.C_drewN ?_ _) | (with_reducible refine Kd.C_drew ?_)))
    (case side2 => exact (Kd.R_reads' HO307.out).2.1)
    rintro e w20 ⟨rfl, hb⟩
    refine ⟨_, rfl, ?_⟩
    have n0_ := Aside0.mk (Kd.R_below (by (with_reducible repeat (first | apply Kd.R_alloc | apply Kd.R_drewN | apply Kd.R_drew)); exact HO304.out) hb)
    have n1_ := Aside0.mk (Kd.R_below (by (with_reducible repeat (first | apply Kd.R_alloc | apply Kd.R_drewN | apply Kd.R_drew)); exact HO307.out) hb)
    have n2_ := Aside0.mk (blk_below (g := gb299) (o := .cells #[.int .i64 a1_0, .int .i64 a1_1] 24 (0, 0)) (by (with_reducible repeat (first | refine blk_drewN ?_ _ | refine blk_drew ?_ | refine blk_alloc ?_ _)); exact BK299.out) hb)
    have n3_ := Aside0.mk (blk_below (g := gb300) (o := .cells #[.int .i64 0, .int .i64 0, .int .i64 0, .bool false, .int .i64 0] 32 (0, 0)) (by (with_reducible repeat (first | refine blk_drewN ?_ _ | refine blk_drew ?_ | refine blk_alloc ?_ _)); exact BK300.out) hb)
    have n4_ := Aside0.mk (below_step (by repeat (first | (with_reducible first | exact HB.out | apply below_alloc | apply pw_below_drewN | apply below_drew1 | refine below_set ?_ GE299.out | refine below_set ?_ GE300.out) | exact HB.out)) hb)
    clear HO304
    clear HO307
    clear BK299
    clear BK300
    clear HB
    have HO304 := n0_
    have HO307 := n1_
    have BK299 := n2_
    have BK300 := n3_
    have HB := n4_
    clear n0_ n1_ n2_ n3_ n4_
    (try clear hb)
    (try clear hb2)
    (try clear hk)
    (try clear hi)
    refine hK.out _ _ ⟨(blk_cell BK299.out 0).trans rfl, (blk_cell BK299.out 1).trans rfl⟩ (fun hHeld => ?_)
    clear hK K
    refine norm_ (a' := ?_) ?_ ?_
    rotate_left
    · show Act.put _ (some 24) _ = _
      simp only [Act.put, List.setIfInBounds_toArray, List.set_cons_zero, List.set_cons_succ, i64_w, i32_w]
      rfl
    refine pure_ (i := 7) (N := some 25) (v := ?_) (a' := ?_) #[true, true, true, true, true, true, true, true, false, false, false] rfl rfl (any_of HT_.out (by kernel_rfl)) (fun _ _ _ h => h) (Or.inl ⟨by rfl, ?_⟩) ?_ ?_
    rotate_left
    · intro w'
      go_simp
      with_reducible rfl
    rotate_left
    · simp only [Act.put, List.setIfInBounds_toArray, List.set_cons_zero, List.set_cons_succ, i64_w, i32_w]
      rfl
    refine pure_ (i := 8) (N := some 26) (v := ?_) (a' := ?_) #[true, true, true, true, true, true, true, true, true, false, false] rfl rfl (any_of HT_.out (by kernel_rfl)) (fun _ _ _ h => h) (Or.inl ⟨by rfl, ?_⟩) ?_ ?_
    rotate_left
    · intro w'
      go_simp
      with_reducible rfl
    rotate_left
    · simp only [Act.put, List.setIfInBounds_toArray, List.set_cons_zero, List.set_cons_succ, i64_w, i32_w]
      rfl
    refine one_ (i := 9) (N := none) #[true, true, true, true, true, true, true, true, true, true, false] rfl rfl (one_of HT_.out (by kernel_rfl)) (by decide) (fun K hK => ?_)
    have hs21 : w20.cell? ⟨gb300, 0, none⟩ = some (.int .i64 0) := (blk_cell BK300.out 0).trans rfl
    have hfs21 := blk_frozen BK300.out 0
    have hns21_0 := NB299_300.out
    have hms21_0 := NB300_299.out
    have hs22 : w20.cell? ⟨gb300, 1, none⟩ = some (.int .i64 0) := (blk_cell BK300.out 1).trans rfl
    have hfs22 := blk_frozen BK300.out 1
    have hns22_0 := NB299_300.out
    have hms22_0 := NB300_299.out
    have hs23 : w20.cell? ⟨gb300, 2, none⟩ = some (.int .i64 0) := (blk_cell BK300.out 2).trans rfl
    have hfs23 := blk_frozen BK300.out 2
    have hns23_0 := NB299_300.out
    have hms23_0 := NB300_299.out
    have hs24 : w20.cell? ⟨gb300, 3, none⟩ = some (.bool false) := (blk_cell BK300.out 3).trans rfl
    have hfs24 := blk_frozen BK300.out 3
    have hns24_0 := NB299_300.out
    have hms24_0 := NB300_299.out
    have hs25 : w20.cell? ⟨gb300, 4, none⟩ = some (.int .i64 0) := (blk_cell BK300.out 4).trans rfl
    have hfs25 := blk_frozen BK300.out 4
    have hns25_0 := NB299_300.out
    have hms25_0 := NB300_299.out
    refine skip_ (w1 := ?_) (by rfl) rfl ?_ ?_
    rotate_left
    · go_simp
      rfl
    refine hK.out _ _ ⟨((cell_far (p := ⟨gb300, _, none⟩) NB299_300.out _).trans (((cell_far (p := ⟨gb300, _, none⟩) NB299_300.out _).trans (((cell_far (p := ⟨gb300, _, none⟩) NB299_300.out _).trans (((cell_far (p := ⟨gb300, _, none⟩) NB299_300.out _).trans (((cell_far (p := ⟨gb300, _, none⟩) NB299_300.out _).trans (hHeld.1)))))))))), ((cell_far (p := ⟨gb300, _, none⟩) NB299_300.out _).trans (((cell_far (p := ⟨gb300, _, none⟩) NB299_300.out _).trans (((cell_far (p := ⟨gb300, _, none⟩) NB299_300.out _).trans (((cell_far (p := ⟨gb300, _, none⟩) NB299_300.out _).trans (((cell_far (p := ⟨gb300, _, none⟩) NB299_300.out _).trans (hHeld.2))))))))))⟩ (fun hHeld => ?_)
    clear hK K
    refine pure_ (i := 10) (N := some 9) (v := ?_) (a' := ?_) #[true, true, true, true, true, true, true, true, true, true, true] rfl rfl (any_of HT_.out (by kernel_rfl)) (fun _ _ _ h => h) (Or.inl ⟨by rfl, ?_⟩) ?_ ?_
    rotate_left
    · intro w'
      go_simp
      with_reducible rfl
    rotate_left
    · simp only [Act.put, List.setIfInBounds_toArray, List.set_cons_zero, List.set_cons_succ, i64_w, i32_w]
      rfl
    refine done_ (done_of HT_.out (by kernel_rfl)) ?_
    try go_wp2
    refine bodyPost_ret (results_ct rfl _ _ gb300 32 #[.int .i64 t308, .int .i64 t309, .int .i64 t310, .bool t311, .int .i64 t312] (0, 0) _ rfl (by (with_reducible repeat (first | refine blk_drewN ?_ _ | refine blk_drew ?_ | refine blk_alloc ?_ _)); refine blk_put (cs := #[.int .i64 t308, .int .i64 t309, .int .i64 t310, .bool t311, .int .i64 0]) ?_ 4 _ rfl; (with_reducible repeat (first | refine blk_drewN ?_ _ | refine blk_drew ?_ | refine blk_alloc ?_ _)); refine blk_put (cs := #[.int .i64 t308, .int .i64 t309, .int .i64 t310, .bool false, .int .i64 0]) ?_ 3 _ rfl; (with_reducible repeat (first | refine blk_drewN ?_ _ | refine blk_drew ?_ | refine blk_alloc ?_ _)); refine blk_put (cs := #[.int .i64 t308, .int .i64 t309, .int .i64 0, .bool false, .int .i64 0]) ?_ 2 _ rfl; (with_reducible repeat (first | refine blk_drewN ?_ _ | refine blk_drew ?_ | refine blk_alloc ?_ _)); refine blk_put (cs := #[.int .i64 t308, .int .i64 0, .int .i64 0, .bool false, .int .i64 0]) ?_ 1 _ rfl; (with_reducible repeat (first | refine blk_drewN ?_ _ | refine blk_drew ?_ | refine blk_alloc ?_ _)); refine blk_put (cs := #[.int .i64 0, .int .i64 0, .int .i64 0, .bool false, .int .i64 0]) ?_ 0 _ rfl; (with_reducible repeat (first | refine blk_drewN ?_ _ | refine blk_drew ?_ | refine blk_alloc ?_ _)); exact BK300.out) Try.underlying32 rfl (by kernel_rfl)) rfl ?_
    exact ⟨by first | rfl | (simp [errW_none, errW_some] <;> rfl) | (simp [*, errW_none, errW_some] <;> rfl), by repeat (first | (with_reducible first | exact HB.out | apply below_alloc | apply pw_below_drewN | apply below_drew1 | refine below_set ?_ GE299.out | refine below_set ?_ GE300.out) | exact HB.out)⟩
  · replace c6 := Bool.eq_false_iff.mpr c6
    subst c6
    have H1 : ((foolscapref5_none.f).bind fun bt314 => (some (bt314.1, bt314.2.1, bt314.2.2.1, bt314.2.2.2.1, bt314.2.2.2.2.1, bt314.2.2.2.2.2))) = some (r1, r2, r3, r4, r5, r6) := by rw [if_neg (show ¬ (false = true) by decide)] at H; exact H
    clear H
    have H := H1
    clear H1
    replace H := Option.bind_eq_some_iff.mp H
    obtain ⟨⟨t314, t315, t316, t317, t318, t319⟩, A260, H⟩ := H
    replace H : (some (t314, t315, t316, t317, t318, t319)) = some (r1, r2, r3, r4, r5, r6) := H
    have A26 := Aside0.mk A260
    clear A260
    simp only [Option.some.injEq, Prod.mk.injEq] at H
    obtain ⟨rfl, rfl, rfl, rfl, rfl, rfl⟩ := H
    go_enter Try.func19, Try.ntmps19
    go_wp2_with (first | ((with_reducible refine gate_dst (N := 5) rfl ?_); refine box_event ?hg (N := 5) ?hd (cs := #[.int .i64 a1_0, .int .i64 a1_1]) (t := 24) ?hr ?_; (case hd => rfl); (case hg => rfl); (case hr => first | (go_simp; done) | (go_simp; rfl)); intro gb299 hg w27 hbox hb; have n0_ := Aside0.mk (below_step (by repeat (first | (with_reducible first | exact HB.out | apply below_alloc | apply pw_below_drewN | apply below_drew1) | exact HB.out)) hb); have n1_ := Aside0.mk (hbox); have n2_ := Aside0.mk ((by rw [hg]; exact (below_size (by repeat (first | (with_reducible first | exact HB.out | apply below_alloc | apply pw_below_drewN | apply below_drew1) | exact HB.out))) : w.heap.size ≤ gb299)); have n3_ := Aside0.mk ((by rw [hg]; exact (below_size (by repeat (first | (with_reducible first | exact HB.out | apply below_alloc | apply pw_below_drewN | apply below_drew1) | exact HB.out))) : w.heap.size ≤ gb299)); clear HB; have HB := n0_; have BK299 := n1_; have GW299 := n2_; have GE299 := n3_; clear n0_ n1_ n2_ n3_; clear hb hbox hg) | ((with_reducible refine gate_dst (N := 8) rfl ?_); refine box_event ?hg (N := 8) ?hd (cs := #[.int .i64 0, .int .i64 0, .int .i64 0, .bool false, .int .i64 0]) (t := 32) ?hr ?_; (case hd => rfl); (case hg => rfl); (case hr => first | (go_simp; done) | (go_simp; rfl)); intro gb300 hg w28 hbox hb; have n0_ := Aside0.mk (blk_below (g := gb299) (o := .cells #[.int .i64 a1_0, .int .i64 a1_1] 24 (0, 0)) (by (with_reducible repeat (first | refine blk_drewN ?_ _ | refine blk_drew ?_ | refine blk_alloc ?_ _)); exact BK299.out) hb); have n1_ := Aside0.mk (below_step (by repeat (first | (with_reducible first | exact HB.out | apply below_alloc | apply pw_below_drewN | apply below_drew1 | refine below_set ?_ GE299.out) | exact HB.out)) hb); have n2_ := Aside0.mk (hbox); have n3_ := Aside0.mk ((by rw [hg]; exact (below_size (by repeat (first | (with_reducible first | exact HB.out | apply below_alloc | apply pw_below_drewN | apply below_drew1 | refine below_set ?_ GE299.out) | exact HB.out))) : w.heap.size ≤ gb300)); have n4_ := Aside0.mk ((by rw [hg]; exact (below_size (by repeat (first | (with_reducible first | exact HB.out | apply below_alloc | apply pw_below_drewN | apply below_drew1 | refine below_set ?_ GE299.out) | exact HB.out))) : w.heap.size ≤ gb300)); have n5_ := Aside0.mk ((by rw [hg]; exact Nat.ne_of_lt (blk_lt (g := gb299) (o := .cells #[.int .i64 a1_0, .int .i64 a1_1] 24 (0, 0)) (by (with_reducible repeat (first | refine blk_drewN ?_ _ | refine blk_drew ?_ | refine blk_alloc ?_ _)); exact BK299.out)) : gb299 ≠ gb300)); have n6_ := Aside0.mk ((by rw [hg]; exact Nat.ne_of_gt (blk_lt (g := gb299) (o := .cells #[.int .i64 a1_0, .int .i64 a1_1] 24 (0, 0)) (by (with_reducible repeat (first | refine blk_drewN ?_ _ | refine blk_drew ?_ | refine blk_alloc ?_ _)); exact BK299.out)) : gb300 ≠ gb299)); clear BK299; clear HB; have BK299 := n0_; have HB := n1_; have BK300 := n2_; have GW300 := n3_; have GE300 := n4_; have NB299_300 := n5_; have NB300_299 := n6_; clear n0_ n1_ n2_ n3_ n4_ n5_ n6_; clear hb hbox hg; have hnb29 := NB299_300.out; have hnc29 := NB300_299.out; have hcz30_0 : w28.cell? ⟨gb299, 0, none⟩ = some (.int .i64 a1_0) := (blk_cell BK299.out 0).trans rfl; have hcz30_1 : w28.cell? ⟨gb299, 1, none⟩ = some (.int .i64 a1_1) := (blk_cell BK299.out 1).trans rfl; have hfz30_0 := blk_frozen BK299.out 0; have hfz30_1 := blk_frozen BK299.out 1) | ((with_reducible refine gate_callee (f := 31) rfl ?_); refine goesL_ (some 13) rfl rfl Try.func31 (by kernel_rfl) rfl #[.slice A0 l0.length c0, .agg #[.int .i64 a1_0, .int .i64 a1_1], .int .i64 a2] rfl (by (try simp only [List.map_toArray, List.map_cons, List.map_nil]); first | done | rfl | (simp only [List.length_drop, List.length_take]; rfl)) ?_; (with_reducible refine (foolscapref5_may.calls _ _ l0 a1_0 a1_1 a2 false _ ?side1 ?side2 A5.out).mono ?_); (case side1 => repeat (first | exact (Kd.C_below HR0.out HB.out) | (with_reducible refine Kd.C_alloc ?_ _) | (with_reducible refine Kd.C_drewN ?_ _) | (with_reducible refine Kd.C_drew ?_))); (case side2 => exact HC0.out); rintro e w31 ⟨rfl, hb⟩; refine ⟨_, rfl, ?_⟩; have n0_ := Aside0.mk (blk_below (g := gb299) (o := .cells #[.int .i64 a1_0, .int .i64 a1_1] 24 (0, 0)) (by (with_reducible repeat (first | refine blk_drewN ?_ _ | refine blk_drew ?_ | refine blk_alloc ?_ _)); exact BK299.out) hb); have n1_ := Aside0.mk (blk_below (g := gb300) (o := .cells #[.int .i64 0, .int .i64 0, .int .i64 0, .bool false, .int .i64 0] 32 (0, 0)) (by (with_reducible repeat (first | refine blk_drewN ?_ _ | refine blk_drew ?_ | refine blk_alloc ?_ _)); exact BK300.out) hb); have n2_ := Aside0.mk (below_step (by repeat (first | (with_reducible first | exact HB.out | apply below_alloc | apply pw_below_drewN | apply below_drew1 | refine below_set ?_ GE299.out | refine below_set ?_ GE300.out) | exact HB.out)) hb); clear BK299; clear BK300; clear HB; have BK299 := n0_; have BK300 := n1_; have HB := n2_; clear n0_ n1_ n2_; (try clear hb); (try clear hb2); (try clear hk); (try clear hi)) | ((with_reducible refine gate_callee (f := 32) rfl ?_); refine goesL_ (some 15) rfl rfl Try.func32 (by kernel_rfl) rfl #[] rfl (by (try simp only [List.map_toArray, List.map_cons, List.map_nil]); first | done | rfl | (simp only [List.length_drop, List.length_take]; rfl)) ?_; (with_reducible refine (foolscapref5_none.calls  t314 t315 t316 t317 t318 t319 _ A26.out).mono ?_); rintro e w32 ⟨rfl, hb⟩; refine ⟨_, rfl, ?_⟩; have n0_ := Aside0.mk (blk_below (g := gb299) (o := .cells #[.int .i64 a1_0, .int .i64 a1_1] 24 (0, 0)) (by (with_reducible repeat (first | refine blk_drewN ?_ _ | refine blk_drew ?_ | refine blk_alloc ?_ _)); exact BK299.out) hb); have n1_ := Aside0.mk (blk_below (g := gb300) (o := .cells #[.int .i64 0, .int .i64 0, .int .i64 0, .bool false, .int .i64 0] 32 (0, 0)) (by (with_reducible repeat (first | refine blk_drewN ?_ _ | refine blk_drew ?_ | refine blk_alloc ?_ _)); exact BK300.out) hb); have n2_ := Aside0.mk (below_step (by repeat (first | (with_reducible first | exact HB.out | apply below_alloc | apply pw_below_drewN | apply below_drew1 | refine below_set ?_ GE299.out | refine below_set ?_ GE300.out) | exact HB.out)) hb); clear BK299; clear BK300; clear HB; have BK299 := n0_; have BK300 := n1_; have HB := n2_; clear n0_ n1_ n2_; (try clear hb); (try clear hb2); (try clear hk); (try clear hi); have hcz33_0 : w32.cell? ⟨gb300, 0, none⟩ = some (.int .i64 0) := (blk_cell BK300.out 0).trans rfl; have hcz33_1 : w32.cell? ⟨gb300, 1, none⟩ = some (.int .i64 0) := (blk_cell BK300.out 1).trans rfl; have hcz33_2 : w32.cell? ⟨gb300, 2, none⟩ = some (.int .i64 0) := (blk_cell BK300.out 2).trans rfl; have hcz33_3 : w32.cell? ⟨gb300, 3, none⟩ = some (.bool false) := (blk_cell BK300.out 3).trans rfl; have hcz33_4 : w32.cell? ⟨gb300, 4, none⟩ = some (.int .i64 0) := (blk_cell BK300.out 4).trans rfl; have hfz33_0 := blk_frozen BK300.out 0; have hfz33_1 := blk_frozen BK300.out 1; have hfz33_2 := blk_frozen BK300.out 2; have hfz33_3 := blk_frozen BK300.out 3; have hfz33_4 := blk_frozen BK300.out 4))
    refine bodyPost_ret (results_ct rfl _ _ gb300 32 #[.int .i64 t314, .int .i64 t315, .int .i64 t316, .bool t317, .int .i64 t318] (0, 0) _ rfl (by (with_reducible repeat (first | refine blk_drewN ?_ _ | refine blk_drew ?_ | refine blk_alloc ?_ _)); refine blk_put (cs := #[.int .i64 t314, .int .i64 t315, .int .i64 t316, .bool t317, .int .i64 0]) ?_ 4 _ rfl; (with_reducible repeat (first | refine blk_drewN ?_ _ | refine blk_drew ?_ | refine blk_alloc ?_ _)); refine blk_put (cs := #[.int .i64 t314, .int .i64 t315, .int .i64 t316, .bool false, .int .i64 0]) ?_ 3 _ rfl; (with_reducible repeat (first | refine blk_drewN ?_ _ | refine blk_drew ?_ | refine blk_alloc ?_ _)); refine blk_put (cs := #[.int .i64 t314, .int .i64 t315, .int .i64 0, .bool false, .int .i64 0]) ?_ 2 _ rfl; (with_reducible repeat (first | refine blk_drewN ?_ _ | refine blk_drew ?_ | refine blk_alloc ?_ _)); refine blk_put (cs := #[.int .i64 t314, .int .i64 0, .int .i64 0, .bool false, .int .i64 0]) ?_ 1 _ rfl; (with_reducible repeat (first | refine blk_drewN ?_ _ | refine blk_drew ?_ | refine blk_alloc ?_ _)); refine blk_put (cs := #[.int .i64 0, .int .i64 0, .int .i64 0, .bool false, .int .i64 0]) ?_ 0 _ rfl; (with_reducible repeat (first | refine blk_drewN ?_ _ | refine blk_drew ?_ | refine blk_alloc ?_ _)); exact BK300.out) Try.underlying32 rfl (by kernel_rfl)) rfl ?_
    exact ⟨by first | rfl | (simp [errW_none, errW_some] <;> rfl) | (simp [*, errW_none, errW_some] <;> rfl), by repeat (first | (with_reducible first | exact HB.out | apply below_alloc | apply pw_below_drewN | apply below_drew1 | refine below_set ?_ GE299.out | refine below_set ?_ GE300.out) | exact HB.out)⟩

end Go.Proofs.Ytifkfjpkngdhmaa.V
namespace Go.Proofs.Ytifkfjpkngdhmaa.Pure
open Go.RowKit Go.Shelf Go.Proofs.Ytifkfjpkngdhmaa.V Go.Proofs.YtifkfjpkngdhmaaW.PrintWords Go.Proofs.YtifkfjpkngdhmaaW.PrintLast Go.Proofs.YtifkfjpkngdhmaaW.PrintMore
set_option linter.unusedVariables false
set_option linter.unusedSimpArgs false

/-- back, over Ends' iterator. -/
theorem ends_back (A0 : Option Addr) (c0 : Nat) (l0 : List ByteArray) (p0 p1 a2 : Int) (big : Bool) (r1 r2 : Int) (r3 : Bool) (hl : l0.length ≤ 40) (hs : ∀ s ∈ l0, s.size ≤ 1200) (hn1 : 1 ≤ a2) (hn2 : a2 ≤ 9223372036854775807) (h : backGo p0 p1 a2 (endsL l0 big) = (r1, r2, r3))
    (W X Z : World) (hCZ : Kd.C Kd.string Z A0 l0.length l0) (hX : X = ((((W.alloc (.cells #[.bool big] 4)).alloc (.cells #[.slice A0 l0.length c0] 22)).alloc (.cells #[.bool false] 4)).alloc (.cells #[.func (.func 42) #[] #[.pointer (some ⟨W.heap.size, 0, none⟩)]] 61))) (hZ : Below X.heap.size X Z) (a : Nat) (ha : a = W.heap.size) :
    Calls Try.prog 37 #[.func (.func 46) #[] #[.pointer (some ⟨a + 1, 0, none⟩), .pointer (some ⟨a + 1 + 1, 0, none⟩), .pointer (some ⟨a + 1 + 1 + 1, 0, none⟩)], .agg #[.int .i64 p0, .int .i64 p1], .int .i64 a2] Z fun e w' => e = .returned (.tuple #[.agg #[.int .i64 r1, .int .i64 r2], .bool r3]) ∧ Below Z.heap.size Z w' := by
  subst ha hX
  have Y0 := (((Blk.new W 4 #[.bool big]).alloc (.cells #[.slice A0 l0.length c0] 22)).alloc (.cells #[.bool false] 4)).alloc (.cells #[.func (.func 42) #[] #[.pointer (some ⟨W.heap.size, 0, none⟩)]] 61)
  have Y1 := ((Blk.new (W.alloc (.cells #[.bool big] 4)) 22 #[.slice A0 l0.length c0]).alloc (.cells #[.bool false] 4)).alloc (.cells #[.func (.func 42) #[] #[.pointer (some ⟨W.heap.size, 0, none⟩)]] 61)
  have Y2 := (Blk.new ((W.alloc (.cells #[.bool big] 4)).alloc (.cells #[.slice A0 l0.length c0] 22)) 4 #[.bool false]).alloc (.cells #[.func (.func 42) #[] #[.pointer (some ⟨W.heap.size, 0, none⟩)]] 61)
  have Y3 := Blk.new (((W.alloc (.cells #[.bool big] 4)).alloc (.cells #[.slice A0 l0.length c0] 22)).alloc (.cells #[.bool false] 4)) 61 #[.func (.func 42) #[] #[.pointer (some ⟨W.heap.size, 0, none⟩)]]
  rw [World.size_alloc] at Y1
  rw [World.size_alloc, World.size_alloc] at Y2
  rw [World.size_alloc, World.size_alloc, World.size_alloc] at Y3
  have hsz := hZ.size
  rw [World.size_alloc, World.size_alloc, World.size_alloc, World.size_alloc] at hsz
  exact back_walk p0 p1 a2 (endsL l0 big) W.heap.size _ Z (by omega) (endsL_len hl hs big) hn1 hn2
    (fun W0 hb => ends_stops 7 (by omega) Z W0 A0 c0 l0 hl hs big W.heap.size hCZ hb ((Y0.below hZ).below hb) ((Y1.below hZ).below hb) ((Y2.below hZ).below hb) ((Y3.below hZ).below hb)) r1 r2 r3 h

set_option maxHeartbeats 4000000 in
set_option maxRecDepth 100000 in
theorem back18_walk (A0 : Option Addr) (c0 : Nat) (l0 : List ByteArray) (p0 p1 a2 : Int) (big : Bool) (r1 r2 : Int) (r3 : Bool) (w : World) (hr0 : Kd.C Kd.string w A0 l0.length l0) (hc0 : l0.length ≤ c0)
    (hl : l0.length ≤ 40) (hs : ∀ s ∈ l0, s.size ≤ 1200) (hn1 : 1 ≤ a2) (hn2 : a2 ≤ 9223372036854775807) (hf : words_fails.f l0 p0 p1 a2 = some false) (h : backGo p0 p1 a2 (endsL l0 big) = (r1, r2, r3)) :
    Calls Try.prog 18 #[.slice A0 l0.length c0, .agg #[.int .i64 p0, .int .i64 p1], .int .i64 a2, .bool big] w fun e w' => e = .returned (.tuple #[.agg #[.int .i64 (if r3 = true then r1 else 0), .int .i64 (if r3 = true then r2 else 0), .int .i64 (if r3 = true then 1 else 0), .bool false, .int .i64 (if r3 = true then -1 else 0)], .bool r3]) ∧ Below w.heap.size w w' := by
  go_enter Try.func18, Try.ntmps18
  have X0 := (((Boxes.nil w).push (by simp) 24 #[.int .i64 p0, .int .i64 p1]).push (by simp) 32 #[.int .i64 0, .int .i64 0, .int .i64 0, .bool false, .int .i64 0])
  simp only [List.nil_append, List.cons_append] at X0
  have kp : ∀ w1, Below ((w.alloc (.cells #[.int .i64 p0, .int .i64 p1] 24)).alloc (.cells #[.int .i64 0, .int .i64 0, .int .i64 0, .bool false, .int .i64 0] 32)).heap.size ((w.alloc (.cells #[.int .i64 p0, .int .i64 p1] 24)).alloc (.cells #[.int .i64 0, .int .i64 0, .int .i64 0, .bool false, .int .i64 0] 32)) w1 → w1.cell? ⟨w.heap.size, 0, none⟩ = some (.int .i64 p0) ∧ w1.cell? ⟨w.heap.size, 1, none⟩ = some (.int .i64 p1) := fun w1 hb => ⟨(blk_cell ((X0.below hb).2 0 _ _ rfl) 0).trans rfl, (blk_cell ((X0.below hb).2 0 _ _ rfl) 1).trans rfl⟩
  go_wp2_with (first
    | (go_at_call 28; (with_reducible refine (words_fails.calls A0 c0 l0 p0 p1 a2 false _ (by repeat (first | exact hr0 | (with_reducible refine Kd.C_alloc ?_ _))) hc0 hf).mono ?_); rintro e w1 ⟨rfl, hb1⟩; obtain ⟨k0, k1⟩ := kp _ hb1))
  have hC1 : Kd.C Kd.string w1 A0 l0.length l0 := Kd.C_below hr0 ((X0.below hb1).1)
  have kq : ∀ Z, Below w1.heap.size w1 Z → Z.cell? ⟨w.heap.size, 0, none⟩ = some (.int .i64 p0) ∧ Z.cell? ⟨w.heap.size, 1, none⟩ = some (.int .i64 p1) := fun Z hb => ⟨(blk_cell (((X0.below hb1).below hb).2 0 _ _ rfl) 0).trans rfl, (blk_cell (((X0.below hb1).below hb).2 0 _ _ rfl) 1).trans rfl⟩
  have D1 : Below w1.heap.size w1 w1.drew := (Below.refl _ w1).drew
  have D2 : Below w1.heap.size w1 (w1.alloc (.cells #[.int .i64 0, .int .i64 0] 24)).drew := ((Below.refl _ w1).alloc (Nat.le_refl _) _).drew
  obtain ⟨k2, k3⟩ := kq _ D1
  obtain ⟨k4, k5⟩ := kq _ D2
  have bwk : ∀ {X : World}, Below (w1.alloc (.cells #[.int .i64 0, .int .i64 0] 24)).drew.heap.size (w1.alloc (.cells #[.int .i64 0, .int .i64 0] 24)).drew X → Blk X w1.heap.size 24 #[.int .i64 0, .int .i64 0] := fun hb => Blk.below (show Blk (w1.alloc (.cells #[.int .i64 0, .int .i64 0] 24)).drew w1.heap.size 24 #[.int .i64 0, .int .i64 0] from Blk.new w1 24 _) hb
  clear D1 D2
  go_region_with (first
    | (go_at_call 23; (with_reducible refine (ends_calls A0 l0.length c0 big _).mono ?_); rintro e w2 ⟨rfl, hw2_⟩; have hB2 := starts_below hw2_; have hw2 := Aside0.mk hw2_; clear hw2_; have hB3 : Below w1.heap.size w1 w2 := (by first | with_reducible exact below_via ((Below.refl _ w1).drew) (Nat.le_refl _) hB2 | with_reducible exact below_via (((Below.refl _ w1).alloc (Nat.le_refl _) _).drew) (Nat.le_refl _) hB2); obtain ⟨k6, k7⟩ := kq _ hB3; obtain ⟨k8, k9⟩ := kq _ (hB3.alloc hB3.size (.cells #[.int .i64 0, .int .i64 0] 24)); have hCa := Aside0.mk (Kd.C_below hC1 hB3); have hCb := Aside0.mk (Kd.C_below hC1 (hB3.alloc hB3.size (.cells #[.int .i64 0, .int .i64 0] 24))); have hBa := Aside0.mk ((Below.refl _ w2).alloc (Nat.le_refl _) (.cells #[.int .i64 0, .int .i64 0] 24)); (try (with_reducible have bw := bwk hB2)))
    | (go_at_call 37; first
      | ((with_reducible refine (ends_back A0 c0 l0 p0 p1 a2 big r1 r2 r3 hl hs hn1 hn2 h _ w2 w2 hCa.out hw2.out (Below.refl _ _) _ (by first | rfl | simp)).mono ?_); rintro e w3 ⟨rfl, hb3⟩; have X3 := Aside0.mk (((X0.below hb1).below hB3).below hb3); (try (have bq := bw.below hb3; have bc0 := (blk_cell bq 0).trans rfl; have bc1 := (blk_cell bq 1).trans rfl; have bf0 := blk_frozen bq 0; have bf1 := blk_frozen bq 1)))
      | ((with_reducible refine (ends_back A0 c0 l0 p0 p1 a2 big r1 r2 r3 hl hs hn1 hn2 h _ w2 (w2.alloc (.cells #[.int .i64 0, .int .i64 0] 24)) hCb.out hw2.out hBa.out _ (by first | rfl | simp)).mono ?_); rintro e w3 ⟨rfl, hb3⟩; have X3 := Aside0.mk ((((X0.below hb1).below hB3).below hBa.out).below hb3); have bq := (Blk.new w2 24 #[.int .i64 0, .int .i64 0]).below hb3; have bc0 := (blk_cell bq 0).trans rfl; have bc1 := (blk_cell bq 1).trans rfl; have bf0 := blk_frozen bq 0; have bf1 := blk_frozen bq 1)))
  all_goals have hs1 : w.heap.size + 1 < w1.heap.size := (X0.below hb1).size (i := 1) rfl
  all_goals have hs2 : w1.heap.size ≤ w2.heap.size := hB3.size
  all_goals first
    | (have XF := Aside0.mk ((X3.out.far (by show w.heap.size + 2 ≤ w2.heap.size; omega) 0 (.int .i64 r1)).far (by show w.heap.size + 2 ≤ w2.heap.size; omega) 1 (.int .i64 r2)); have bF := Aside0.mk (show Blk _ w2.heap.size 24 #[.int .i64 r1, .int .i64 r2] from blk_set (blk_set bq 0 _) 1 _); generalize (w3.setCell ⟨w2.heap.size, 0, none⟩ (.int .i64 r1)).setCell ⟨w2.heap.size, 1, none⟩ (.int .i64 r2) = wF at XF bF ⊢)
    | (have XF := Aside0.mk ((X3.out.far (by show w.heap.size + 2 ≤ w1.heap.size; omega) 0 (.int .i64 r1)).far (by show w.heap.size + 2 ≤ w1.heap.size; omega) 1 (.int .i64 r2)); have bF := Aside0.mk (show Blk _ w1.heap.size 24 #[.int .i64 r1, .int .i64 r2] from blk_set (blk_set bq 0 _) 1 _); generalize (w3.setCell ⟨w1.heap.size, 0, none⟩ (.int .i64 r1)).setCell ⟨w1.heap.size, 1, none⟩ (.int .i64 r2) = wF at XF bF ⊢)
    | (have XF := Aside0.mk (X3.out.below ((Below.refl _ w3).alloc (Nat.le_refl _) (.cells #[.int .i64 r1, .int .i64 r2] 24))); have bF := Aside0.mk (Blk.new w3 24 #[.int .i64 r1, .int .i64 r2]); generalize w3.alloc (.cells #[.int .i64 r1, .int .i64 r2] 24) = wF at XF bF ⊢)
  all_goals have cF0 : wF.cell? ⟨_, 0, none⟩ = some (.int .i64 r1) := (blk_cell bF.out 0).trans rfl
  all_goals have cF1 : wF.cell? ⟨_, 1, none⟩ = some (.int .i64 r2) := (blk_cell bF.out 1).trans rfl
  all_goals obtain ⟨q0, q1, q2, q3, q4, q5, q6, q7, q8, q9⟩ := back_facts XF.out
  all_goals
    cases r3 with
    | false =>
      go_wp2
      have HE := back_res 0 0 0 false 0 XF.out
      obtain ⟨j0, j1, j2, j3, j4, j5, j6, j7, j8, j9⟩ := back_facts HE
      refine ⟨rfl, _, ?_, rfl, HE.1⟩
      simp [results, Try.f18, go_sem, j0, j1, j2, j3, j4]
    | true =>
      go_wp2
      have HE := back_res r1 r2 1 false (-1) XF.out
      obtain ⟨j0, j1, j2, j3, j4, j5, j6, j7, j8, j9⟩ := back_facts HE
      refine ⟨rfl, _, ?_, rfl, HE.1⟩
      simp [results, Try.f18, go_sem, j0, j1, j2, j3, j4]
set_option maxHeartbeats 4000000 in
set_option maxRecDepth 100000 in
theorem back18_fail (A0 : Option Addr) (c0 : Nat) (l0 : List ByteArray) (p0 p1 a2 : Int) (big : Bool) (w : World) (hr0 : Kd.C Kd.string w A0 l0.length l0) (hc0 : l0.length ≤ c0) (hf : words_fails.f l0 p0 p1 a2 = some true) :
    Calls Try.prog 18 #[.slice A0 l0.length c0, .agg #[.int .i64 p0, .int .i64 p1], .int .i64 a2, .bool big] w fun e w' => e = .returned (.tuple #[.agg #[.int .i64 0, .int .i64 0, .int .i64 0, .bool false, .int .i64 0], .bool false]) ∧ Below w.heap.size w w' := by
  go_enter Try.func18, Try.ntmps18
  have X0 := (((Boxes.nil w).push (by simp) 24 #[.int .i64 p0, .int .i64 p1]).push (by simp) 32 #[.int .i64 0, .int .i64 0, .int .i64 0, .bool false, .int .i64 0])
  simp only [List.nil_append, List.cons_append] at X0
  go_wp2_with (first
    | (go_at_call 28; (with_reducible refine (words_fails.calls A0 c0 l0 p0 p1 a2 true _ (by repeat (first | exact hr0 | (with_reducible refine Kd.C_alloc ?_ _))) hc0 hf).mono ?_); rintro e w1 ⟨rfl, hb1⟩; obtain ⟨q0, q1, q2, q3, q4, q5, q6, q7, q8, q9⟩ := back_facts (X0.below hb1)))
  have HE := back_res 0 0 0 false 0 (X0.below hb1)
  obtain ⟨j0, j1, j2, j3, j4, j5, j6, j7, j8, j9⟩ := back_facts HE
  refine ⟨rfl, _, ?_, rfl, HE.1⟩
  simp [results, Try.f18, go_sem, j0, j1, j2, j3, j4]

end Go.Proofs.Ytifkfjpkngdhmaa.Pure
namespace Go.Proofs.Ytifkfjpkngdhmaa.V
open Go.RowKit Go.Shelf Go.Proofs.Ytifkfjpkngdhmaa.Pure Go.Proofs.YtifkfjpkngdhmaaW.PrintWords Go.Proofs.YtifkfjpkngdhmaaW.PrintLast Go.Proofs.YtifkfjpkngdhmaaW.PrintMore
set_option linter.unusedVariables false
/-- a motion out of what back answers. -/
def words_BackTail.m (b : Int × Int × Bool) : Int × Int × Int × Bool × Int × Bool := if b.2.2 = true then (b.1, b.2.1, 1, false, -1, true) else (0, 0, 0, false, 0, false)
/-- what words.BackTail answers, where the text is light and the count a machine's. -/
def words_BackTail.f (l0 : List ByteArray) (a1_0 a1_1 a2 : Int) (a3 : Bool) : Option (Int × Int × Int × Bool × Int × Bool) :=
  (words_fails.f l0 a1_0 a1_1 a2).bind fun t => if t = true then some (0, 0, 0, false, 0, false) else
    if l0.length ≤ 40 ∧ (∀ s ∈ l0, s.size ≤ 1200) ∧ 1 ≤ a2 ∧ a2 ≤ 9223372036854775807 then some (words_BackTail.m (backGo a1_0 a1_1 a2 (endsL l0 a3))) else none
theorem words_BackTail.calls (A0 : Option Addr) (c0 : Nat) (l0 : List ByteArray) (a1_0 a1_1 a2 : Int) (a3 : Bool) (r1 r2 r3 : Int) (r4 : Bool) (r5 : Int) (r6 : Bool) (w : World) (hr0 : Kd.C Kd.string w A0 l0.length l0) (hc0 : l0.length ≤ c0) (h : words_BackTail.f l0 a1_0 a1_1 a2 a3 = some (r1, r2, r3, r4, r5, r6)) :
    Calls Try.prog 18 #[.slice A0 l0.length c0, .agg #[.int .i64 a1_0, .int .i64 a1_1], .int .i64 a2, .bool a3] w fun e w' => e = .returned (.tuple #[.agg #[.int .i64 r1, .int .i64 r2, .int .i64 r3, .bool r4, .int .i64 r5], .bool r6]) ∧ Below w.heap.size w w' := by
  unfold words_BackTail.f at h
  cases hf : words_fails.f l0 a1_0 a1_1 a2 with
  | none => rw [hf] at h; cases h
  | some t =>
    rw [hf] at h
    have h : (if t = true then some (0, 0, 0, false, 0, false) else if l0.length ≤ 40 ∧ (∀ s ∈ l0, s.size ≤ 1200) ∧ 1 ≤ a2 ∧ a2 ≤ 9223372036854775807 then some (words_BackTail.m (backGo a1_0 a1_1 a2 (endsL l0 a3))) else none) = some (r1, r2, r3, r4, r5, r6) := h
    cases t with
    | true =>
      rw [if_pos rfl] at h
      injection h with h
      injection h with g1 h; injection h with g2 h; injection h with g3 h; injection h with g4 h; injection h with g5 g6
      subst g1 g2 g3 g4 g5 g6
      exact back18_fail A0 c0 l0 a1_0 a1_1 a2 a3 w hr0 hc0 hf
    | false =>
      rw [if_neg (by simp)] at h
      by_cases hb : l0.length ≤ 40 ∧ (∀ s ∈ l0, s.size ≤ 1200) ∧ 1 ≤ a2 ∧ a2 ≤ 9223372036854775807
      · rw [if_pos hb] at h
        obtain ⟨h1, h2, h3, h4⟩ := hb
        injection h with h
        obtain ⟨b1, b2, b3, hbk⟩ : ∃ b1 b2 b3, backGo a1_0 a1_1 a2 (endsL l0 a3) = (b1, b2, b3) := ⟨_, _, _, rfl⟩
        have K := back18_walk A0 c0 l0 a1_0 a1_1 a2 a3 b1 b2 b3 w hr0 hc0 h1 h2 h3 h4 hf hbk
        rw [hbk] at h
        unfold words_BackTail.m at h
        cases b3 with
        | true =>
          rw [if_pos rfl] at h
          injection h with g1 h; injection h with g2 h; injection h with g3 h; injection h with g4 h; injection h with g5 g6
          subst g1 g2 g3 g4 g5 g6
          exact K
        | false =>
          rw [if_neg (by simp)] at h
          injection h with g1 h; injection h with g2 h; injection h with g3 h; injection h with g4 h; injection h with g5 g6
          subst g1 g2 g3 g4 g5 g6
          exact K
      · rw [if_neg hb] at h; cases h
end Go.Proofs.Ytifkfjpkngdhmaa.V
namespace Go.Proofs.Ytifkfjpkngdhmaa.V
open Go.RowKit Go.Proofs.YtifkfjpkngdhmaaW.PrintWords Go.Proofs.YtifkfjpkngdhmaaW.PrintLast Go.Proofs.YtifkfjpkngdhmaaW.PrintMore
attribute [local go_sem] max2_int min2_int max_two min_two max_three min_three max_four min_four   -- for this text's walks alone
set_option linter.unusedVariables false
set_option linter.unusedSimpArgs false
attribute [local go_sem high] eqA24

/-! ### foolscaplaw8_WordsMove: function 3 -/
mutual
def foolscaplaw8_WordsMove.l0 : Nat → List ByteArray → Int → Bool → Bool → List (S24) → Int → Int → Option (Bool)
  | 0, _, _, _, _, _, _, _ => none
  | k + 1, x0, x4, x5, x6, x33, x34, x35 => if x35 < x34 then (if 0 ≤ x35 then (if x35 < (x33.length : Int) then ((some (([x4, Int.tmod x4 9, 1] : List Int) : List Int)).bind fun y330 => (foolscaplaw8_WordsMove.l1 k x0 x4 x5 x6 x33 x34 x35 y330 (y330.length : Int) 0 ((rd_T24 x33 x35).f0) ((rd_T24 x33 x35).f1))) else (none)) else (none)) else (some true)
def foolscaplaw8_WordsMove.l1 : Nat → List ByteArray → Int → Bool → Bool → List (S24) → Int → Int → List Int → Int → Int → Int → Int → Option (Bool)
  | 0, _, _, _, _, _, _, _, _, _, _, _, _ => none
  | k + 1, x0, x4, x5, x6, x33, x34, x35, x42, x43, x44, x330000, x330001 => if x44 < x43 then (if 0 ≤ x44 then (if x44 < (x42.length : Int) then ((words_Next.f x0 x330000 x330001 (rd x42 x44) x5 x6).bind fun bt334 => ((foolscapref5_Next.f k x0 x330000 x330001 (rd x42 x44) x5 x6).bind fun bt341 => ((foolscaplaw8_same.f bt334.1 bt334.2.1 bt334.2.2.1 bt334.2.2.2.1 bt334.2.2.2.2.1 bt334.2.2.2.2.2 bt341.1 bt341.2.1 bt341.2.2.1 bt341.2.2.2.1 bt341.2.2.2.2.1 bt341.2.2.2.2.2).bind fun t348 => (if t348 = true then ((words_Back.f x0 x330000 x330001 (rd x42 x44) x5).bind fun bt349 => ((foolscapref5_Back.f k x0 x330000 x330001 (rd x42 x44) x5).bind fun bt355 => ((foolscaplaw8_same.f bt349.1 bt349.2.1 bt349.2.2.1 bt349.2.2.2.1 bt349.2.2.2.2.1 bt349.2.2.2.2.2 bt355.1 bt355.2.1 bt355.2.2.1 bt355.2.2.2.1 bt355.2.2.2.2.1 bt355.2.2.2.2.2).bind fun t361 => (if t361 = true then ((words_Tail.f x0 x330000 x330001 (rd x42 x44) x5 x6).bind fun bt362 => ((foolscapref5_Tail.f k x0 x330000 x330001 (rd x42 x44) x5 x6).bind fun bt368 => ((foolscaplaw8_same.f bt362.1 bt362.2.1 bt362.2.2.1 bt362.2.2.2.1 bt362.2.2.2.2.1 bt362.2.2.2.2.2 bt368.1 bt368.2.1 bt368.2.2.1 bt368.2.2.2.1 bt368.2.2.2.2.1 bt368.2.2.2.2.2).bind fun t374 => (if t374 = true then ((words_BackTail.f x0 x330000 x330001 (rd x42 x44) x5).bind fun bt375 => ((foolscapref5_BackTail.f k x0 x330000 x330001 (rd x42 x44) x5).bind fun bt381 => ((foolscaplaw8_same.f bt375.1 bt375.2.1 bt375.2.2.1 bt375.2.2.2.1 bt375.2.2.2.2.1 bt375.2.2.2.2.2 bt381.1 bt381.2.1 bt381.2.2.1 bt381.2.2.2.1 bt381.2.2.2.2.1 bt381.2.2.2.2.2).bind fun t387 => (if t387 = true then (foolscaplaw8_WordsMove.l1 k x0 x4 x5 x6 x33 x34 x35 x42 x43 (wrap64 (x44 + 1)) x330000 x330001) else (some false))))) else (some false))))) else (some false))))) else (some false))))) else (none)) else (none)) else (foolscaplaw8_WordsMove.l0 k x0 x4 x5 x6 x33 x34 (wrap64 (x35 + 1)))
end
def foolscaplaw8_WordsMove.f (k : Nat) (l0 : List ByteArray) (a1_0 : Int) (a1_1 : Int) (a2 : Int) (a3 : Int) (a4 : Int) (a5 : Bool) (a6 : Bool) : Option (Bool) := (foolscaplaw8_known.f).bind fun t321 => (if t321 = true then ((foolscaphelp_Text.f k l0).bind fun t322 => (if t322 = true then ((foolscapseat_Place.f l0 a2 a3).bind fun bt323 => ((some (([(⟨a1_0, a1_1⟩ : S24), (⟨bt323.1, bt323.2⟩ : S24)] : List (S24)) : List (S24))).bind fun y325 => (foolscaplaw8_WordsMove.l0 k l0 a4 a5 a6 y325 (y325.length : Int) 0))) else (some true))) else (some false))
theorem foolscaplaw8_WordsMove.mono_l : ∀ k, (∀ y0 y1 y2 y3 y4 y5 y6, LeO (foolscaplaw8_WordsMove.l0 k y0 y1 y2 y3 y4 y5 y6) (foolscaplaw8_WordsMove.l0 (k + 1) y0 y1 y2 y3 y4 y5 y6)) ∧ (∀ y0 y1 y2 y3 y4 y5 y6 y7 y8 y9 y10 y11, LeO (foolscaplaw8_WordsMove.l1 k y0 y1 y2 y3 y4 y5 y6 y7 y8 y9 y10 y11) (foolscaplaw8_WordsMove.l1 (k + 1) y0 y1 y2 y3 y4 y5 y6 y7 y8 y9 y10 y11))
  | 0 => ⟨fun _ _ _ _ _ _ _ r h => by simp [foolscaplaw8_WordsMove.l0] at h, fun _ _ _ _ _ _ _ _ _ _ _ _ r h => by simp [foolscaplaw8_WordsMove.l1] at h⟩
  | k + 1 => by
    obtain ⟨ih0, ih1⟩ := foolscaplaw8_WordsMove.mono_l k
    refine ⟨?_, ?_⟩
    · intro y0 y1 y2 y3 y4 y5 y6
      unfold foolscaplaw8_WordsMove.l0
      repeat' first
      | (with_reducible exact ih0 _ _ _ _ _ _ _)
      | (with_reducible exact ih1 _ _ _ _ _ _ _ _ _ _ _ _)
      | (with_reducible exact foolscaphelp_Text.mono _ _)
      | (with_reducible exact foolscapref5_Back.mono _ _ _ _ _ _)
      | (with_reducible exact foolscapref5_BackTail.mono _ _ _ _ _ _)
      | (with_reducible exact foolscapref5_Next.mono _ _ _ _ _ _ _)
      | (with_reducible exact foolscapref5_Tail.mono _ _ _ _ _ _ _)
      | (with_reducible exact LeO.refl _)
      | (with_reducible exact LeO.none _)
      | (with_reducible refine LeO.ite ?_ ?_)
      | (with_reducible refine LeO.bind ?_ (fun _ => ?_))
      | exact ih0 _ _ _ _ _ _ _
      | exact ih1 _ _ _ _ _ _ _ _ _ _ _ _
      | exact foolscaphelp_Text.mono _ _
      | exact foolscapref5_Back.mono _ _ _ _ _ _
      | exact foolscapref5_BackTail.mono _ _ _ _ _ _
      | exact foolscapref5_Next.mono _ _ _ _ _ _ _
      | exact foolscapref5_Tail.mono _ _ _ _ _ _ _
      | exact LeO.none _
      | refine LeO.ite ?_ ?_
      | refine LeO.bind ?_ (fun _ => ?_)
    · intro y0 y1 y2 y3 y4 y5 y6 y7 y8 y9 y10 y11
      unfold foolscaplaw8_WordsMove.l1
      repeat' first
      | (with_reducible exact ih0 _ _ _ _ _ _ _)
      | (with_reducible exact ih1 _ _ _ _ _ _ _ _ _ _ _ _)
      | (with_reducible exact foolscaphelp_Text.mono _ _)
      | (with_reducible exact foolscapref5_Back.mono _ _ _ _ _ _)
      | (with_reducible exact foolscapref5_BackTail.mono _ _ _ _ _ _)
      | (with_reducible exact foolscapref5_Next.mono _ _ _ _ _ _ _)
      | (with_reducible exact foolscapref5_Tail.mono _ _ _ _ _ _ _)
      | (with_reducible exact LeO.refl _)
      | (with_reducible exact LeO.none _)
      | (with_reducible refine LeO.ite ?_ ?_)
      | (with_reducible refine LeO.bind ?_ (fun _ => ?_))
      | exact ih0 _ _ _ _ _ _ _
      | exact ih1 _ _ _ _ _ _ _ _ _ _ _ _
      | exact foolscaphelp_Text.mono _ _
      | exact foolscapref5_Back.mono _ _ _ _ _ _
      | exact foolscapref5_BackTail.mono _ _ _ _ _ _
      | exact foolscapref5_Next.mono _ _ _ _ _ _ _
      | exact foolscapref5_Tail.mono _ _ _ _ _ _ _
      | exact LeO.none _
      | refine LeO.ite ?_ ?_
      | refine LeO.bind ?_ (fun _ => ?_)
theorem foolscaplaw8_WordsMove.mono : ∀ a0 a1 a2 a3 a4 a5 a6 a7 k, LeO (foolscaplaw8_WordsMove.f k a0 a1 a2 a3 a4 a5 a6 a7) (foolscaplaw8_WordsMove.f (k + 1) a0 a1 a2 a3 a4 a5 a6 a7) := by
  intro a0 a1 a2 a3 a4 a5 a6 a7 k
  obtain ⟨ih0, ih1⟩ := foolscaplaw8_WordsMove.mono_l k
  unfold foolscaplaw8_WordsMove.f
  repeat' first
      | (with_reducible exact ih0 _ _ _ _ _ _ _)
      | (with_reducible exact ih1 _ _ _ _ _ _ _ _ _ _ _ _)
      | (with_reducible exact foolscaphelp_Text.mono _ _)
      | (with_reducible exact foolscapref5_Back.mono _ _ _ _ _ _)
      | (with_reducible exact foolscapref5_BackTail.mono _ _ _ _ _ _)
      | (with_reducible exact foolscapref5_Next.mono _ _ _ _ _ _ _)
      | (with_reducible exact foolscapref5_Tail.mono _ _ _ _ _ _ _)
      | (with_reducible exact LeO.refl _)
      | (with_reducible exact LeO.none _)
      | (with_reducible refine LeO.ite ?_ ?_)
      | (with_reducible refine LeO.bind ?_ (fun _ => ?_))
      | exact ih0 _ _ _ _ _ _ _
      | exact ih1 _ _ _ _ _ _ _ _ _ _ _ _
      | exact foolscaphelp_Text.mono _ _
      | exact foolscapref5_Back.mono _ _ _ _ _ _
      | exact foolscapref5_BackTail.mono _ _ _ _ _ _
      | exact foolscapref5_Next.mono _ _ _ _ _ _ _
      | exact foolscapref5_Tail.mono _ _ _ _ _ _ _
      | exact LeO.none _
      | refine LeO.ite ?_ ?_
      | refine LeO.bind ?_ (fun _ => ?_)
def foolscaplaw8_WordsMove.T5 : Bool × List (List Nat × List Nat) := (true, [([], []), ([], []), ([], []), ([], []), ([1, 2, 3], [1, 2, 3]), ([0, 4], [0, 4]), ([5], [5]), ([], [])])
def foolscaplaw8_WordsMove.B5 : List Nat := [0, 0, 0, 0, 14, 31, 63, 0]
theorem foolscaplaw8_WordsMove.tab5 : rtab .any (opsOf Try.f3 5) = foolscaplaw8_WordsMove.T5 := by kernel_rfl
theorem foolscaplaw8_WordsMove.bits5 : waitsOk foolscaplaw8_WordsMove.T5.2 foolscaplaw8_WordsMove.B5 = true := by kernel_rfl
set_option maxHeartbeats 8000000 in
set_option maxRecDepth 100000 in
theorem foolscaplaw8_WordsMove.calls (k : Nat) (A0 : Option Addr) (c0 : Nat) (l0 : List ByteArray) (a1_0 : Int) (a1_1 : Int) (a2 : Int) (a3 : Int) (a4 : Int) (a5 : Bool) (a6 : Bool) (r : Bool) (w : World) (hr0 : Kd.C Kd.string w A0 l0.length l0) (hc0 : l0.length ≤ c0) (h : foolscaplaw8_WordsMove.f k l0 a1_0 a1_1 a2 a3 a4 a5 a6 = some r) (hrT : r = true) :
    Calls Try.prog 3 #[.slice A0 l0.length c0, .agg #[.int .i64 a1_0, .int .i64 a1_1], .int .u16 a2, .int .u16 a3, .int .i64 a4, .bool a5, .bool a6] w fun e w' => e = .returned (.bool r) ∧ Below w.heap.size w w' := by
  have HT := Aside0.mk hrT
  clear hrT
  have hu24 := Try.underlying24
  have hu32 := Try.underlying32
  have HR0 := Aside0.mk hr0
  have HC0 := Aside0.mk hc0
  clear hr0 hc0
  have HB := Aside0.mk (Below.refl w.heap.size w)
  have H : ((foolscaplaw8_known.f).bind fun t321 => (if t321 = true then ((foolscaphelp_Text.f k l0).bind fun t322 => (if t322 = true then ((foolscapseat_Place.f l0 a2 a3).bind fun bt323 => ((some (([(⟨a1_0, a1_1⟩ : S24), (⟨bt323.1, bt323.2⟩ : S24)] : List (S24)) : List (S24))).bind fun y325 => (foolscaplaw8_WordsMove.l0 k l0 a4 a5 a6 y325 (y325.length : Int) 0))) else (some true))) else (some false))) = some r := h
  clear h
  replace H := Option.bind_eq_some_iff.mp H
  obtain ⟨t321, A80, H⟩ := H
  replace H : (if t321 = true then ((foolscaphelp_Text.f k l0).bind fun t322 => (if t322 = true then ((foolscapseat_Place.f l0 a2 a3).bind fun bt323 => ((some (([(⟨a1_0, a1_1⟩ : S24), (⟨bt323.1, bt323.2⟩ : S24)] : List (S24)) : List (S24))).bind fun y325 => (foolscaplaw8_WordsMove.l0 k l0 a4 a5 a6 y325 (y325.length : Int) 0))) else (some true))) else (some false)) = some r := H
  have A8 := Aside0.mk A80
  clear A80
  by_cases c9 : t321 = true
  · subst c9
    have H1 : ((foolscaphelp_Text.f k l0).bind fun t322 => (if t322 = true then ((foolscapseat_Place.f l0 a2 a3).bind fun bt323 => ((some (([(⟨a1_0, a1_1⟩ : S24), (⟨bt323.1, bt323.2⟩ : S24)] : List (S24)) : List (S24))).bind fun y325 => (foolscaplaw8_WordsMove.l0 k l0 a4 a5 a6 y325 (y325.length : Int) 0))) else (some true))) = some r := by rw [if_pos rfl] at H; exact H
    clear H
    have H := H1
    clear H1
    replace H := Option.bind_eq_some_iff.mp H
    obtain ⟨t322, A100, H⟩ := H
    replace H : (if t322 = true then ((foolscapseat_Place.f l0 a2 a3).bind fun bt323 => ((some (([(⟨a1_0, a1_1⟩ : S24), (⟨bt323.1, bt323.2⟩ : S24)] : List (S24)) : List (S24))).bind fun y325 => (foolscaplaw8_WordsMove.l0 k l0 a4 a5 a6 y325 (y325.length : Int) 0))) else (some true)) = some r := H
    have A10 := Aside0.mk A100
    clear A100
    by_cases c11 : t322 = true
    · subst c11
      have H1 : ((foolscapseat_Place.f l0 a2 a3).bind fun bt323 => ((some (([(⟨a1_0, a1_1⟩ : S24), (⟨bt323.1, bt323.2⟩ : S24)] : List (S24)) : List (S24))).bind fun y325 => (foolscaplaw8_WordsMove.l0 k l0 a4 a5 a6 y325 (y325.length : Int) 0))) = some r := by rw [if_pos rfl] at H; exact H
      clear H
      have H := H1
      clear H1
      replace H := Option.bind_eq_some_iff.mp H
      obtain ⟨⟨t323, t324⟩, A120, H⟩ := H
      replace H : ((some (([(⟨a1_0, a1_1⟩ : S24), (⟨t323, t324⟩ : S24)] : List (S24)) : List (S24))).bind fun y325 => (foolscaplaw8_WordsMove.l0 k l0 a4 a5 a6 y325 (y325.length : Int) 0)) = some r := H
      have A12 := Aside0.mk A120
      clear A120
      obtain ⟨y325, hy325⟩ : ∃ y_ : List (S24), y_ = (([(⟨a1_0, a1_1⟩ : S24), (⟨t323, t324⟩ : S24)] : List (S24))) := ⟨_, rfl⟩
      replace H : (foolscaplaw8_WordsMove.l0 k l0 a4 a5 a6 y325 (y325.length : Int) 0) = some r := by first | (rw [hy325]; with_reducible exact H) | (have H2_ := (Option.bind_some _ _).symm.trans H; rw [hy325]; with_reducible exact H2_) | (have H2_ := (Option.bind_some _ _).symm.trans H; with_reducible exact H2_) | with_reducible exact H | (rw [hy325]; exact H) | exact H
      have Ny325 := Aside0.mk hy325
      clear hy325
      have H' := Aside0.mk H
      clear H
      go_enter Try.func3, Try.ntmps3
      try go_wp2_with (first | ((with_reducible refine gate_dst (N := 8) rfl ?_); refine box_event ?hg (N := 8) ?hd (cs := #[.int .i64 a1_0, .int .i64 a1_1]) (t := 24) ?hr ?_; (case hd => rfl); (case hg => rfl); (case hr => first | (go_simp; done) | (go_simp; rfl)); intro gb320 hg w13 hbox hb; have n0_ := Aside0.mk (below_step (by repeat (first | (with_reducible first | exact HB.out | apply below_alloc | apply pw_below_drewN | apply below_drew1) | exact HB.out)) hb); have n1_ := Aside0.mk (hbox); have n2_ := Aside0.mk ((by rw [hg]; exact (below_size (by repeat (first | (with_reducible first | exact HB.out | apply below_alloc | apply pw_below_drewN | apply below_drew1) | exact HB.out))) : w.heap.size ≤ gb320)); have n3_ := Aside0.mk ((by rw [hg]; exact (below_size (by repeat (first | (with_reducible first | exact HB.out | apply below_alloc | apply pw_below_drewN | apply below_drew1) | exact HB.out))) : w.heap.size ≤ gb320)); clear HB; have HB := n0_; have BK320 := n1_; have GW320 := n2_; have GE320 := n3_; clear n0_ n1_ n2_ n3_; clear hb hbox hg) | ((with_reducible refine gate_callee (f := 8) rfl ?_); refine goesL_ (some 23) rfl rfl Try.func8 (by kernel_rfl) rfl #[] rfl (by (try simp only [List.map_toArray, List.map_cons, List.map_nil]); first | done | rfl | (simp only [List.length_drop, List.length_take]; rfl)) ?_; (with_reducible refine (foolscaplaw8_known.calls  true _ A8.out rfl).mono ?_); rintro e w14 ⟨rfl, hb⟩; refine ⟨_, rfl, ?_⟩; have n0_ := Aside0.mk (blk_below (g := gb320) (o := .cells #[.int .i64 a1_0, .int .i64 a1_1] 24 (0, 0)) (by exact BK320.out) hb); have n1_ := Aside0.mk (below_step (by repeat (first | (with_reducible first | exact HB.out | apply below_alloc | apply pw_below_drewN | apply below_drew1 | refine below_set ?_ GE320.out) | exact HB.out)) hb); clear BK320; clear HB; have BK320 := n0_; have HB := n1_; clear n0_ n1_; (try clear hb); (try clear hb2); (try clear hk); (try clear hi)) | ((with_reducible refine gate_callee (f := 9) rfl ?_); refine goesL_ (some 26) rfl rfl Try.func9 (by kernel_rfl) rfl #[.slice A0 l0.length c0] rfl (by (try simp only [List.map_toArray, List.map_cons, List.map_nil]); first | done | rfl | (simp only [List.length_drop, List.length_take]; rfl)) ?_; (with_reducible refine (foolscaphelp_Text.calls k _ _ l0 true _ ?side1 ?side2 A10.out).mono ?_); (case side1 => repeat (first | exact (Kd.C_below HR0.out HB.out) | (with_reducible refine Kd.C_alloc ?_ _) | (with_reducible refine Kd.C_drewN ?_ _) | (with_reducible refine Kd.C_drew ?_))); (case side2 => exact HC0.out); rintro e w' ⟨rfl, ⟨nd, rfl⟩⟩; refine ⟨_, rfl, ?_⟩))
      (try (rw [drewN_self w14]; generalize hq_ : World.drewN w14 _ = w14; have n0_ : Aside0 (w14.heap[gb320]? = some (.cells #[.int .i64 a1_0, .int .i64 a1_1] 24 (0, 0))) := ⟨by rw [← hq_]; exact (by exact BK320.out)⟩; have n1_ : Aside0 (Below w.heap.size w w14) := ⟨by rw [← hq_]; exact (by repeat (first | (with_reducible first | exact HB.out | apply below_alloc | apply pw_below_drewN | apply below_drew1 | refine below_set ?_ GE320.out) | exact HB.out))⟩; clear BK320 HB hq_; have BK320 := n0_; have HB := n1_; clear n0_ n1_))
      have n0_ := Aside0.mk (blk_drew BK320.out)
      have n1_ := Aside0.mk (below_drew1 HB.out)
      clear BK320
      clear HB
      have BK320 := n0_
      have HB := n1_
      clear n0_ n1_
      refine start_ (n := 8) (S := fun w' => w'.cell? ⟨gb320, 0, none⟩ = some (.int .i64 a1_0) ∧ w'.cell? ⟨gb320, 1, none⟩ = some (.int .i64 a1_1)) (ds := []) #[false, false, false, false, false, false, false, false] (by kernel_rfl) rfl rfl ⟨(blk_cell BK320.out 0).trans rfl, (blk_cell BK320.out 1).trans rfl⟩ (fun hHeld => ?_); refine with_tabW foolscaplaw8_WordsMove.tab5 foolscaplaw8_WordsMove.bits5 (fun HT_ HW_ => ?_)
      generalize w14.drew = w15 at BK320 HB hHeld ⊢
      refine pure_ (i := 1) (N := some 29) (v := ?_) (a' := ?_) #[false, true, false, false, false, false, false, false] rfl rfl (any_of HT_.out (by kernel_rfl)) (fun _ _ _ h => h) (Or.inl ⟨by rfl, ?_⟩) ?_ ?_
      rotate_left
      · intro w'
        go_simp
        with_reducible rfl
      rotate_left
      · simp only [Act.put, List.setIfInBounds_toArray, List.set_cons_zero, List.set_cons_succ, i64_w, i32_w]
        rfl
      refine pure_ (i := 2) (N := some 30) (v := ?_) (a' := ?_) #[false, true, true, false, false, false, false, false] rfl rfl (any_of HT_.out (by kernel_rfl)) (fun _ _ _ h => h) (Or.inl ⟨by rfl, ?_⟩) ?_ ?_
      rotate_left
      · intro w'
        go_simp
        with_reducible rfl
      rotate_left
      · simp only [Act.put, List.setIfInBounds_toArray, List.set_cons_zero, List.set_cons_succ, i64_w, i32_w]
        rfl
      refine pure_ (i := 3) (N := some 31) (v := ?_) (a' := ?_) #[false, true, true, true, false, false, false, false] rfl rfl (any_of HT_.out (by kernel_rfl)) (fun _ _ _ h => h) (Or.inl ⟨by rfl, ?_⟩) ?_ ?_
      rotate_left
      · intro w'
        go_simp
        with_reducible rfl
      rotate_left
      · simp only [Act.put, List.setIfInBounds_toArray, List.set_cons_zero, List.set_cons_succ, i64_w, i32_w]
        rfl
      refine pure_ (i := 7) (N := some 35) (v := ?_) (a' := ?_) #[false, true, true, true, false, false, false, true] rfl rfl (any_of HT_.out (by kernel_rfl)) (fun _ _ _ h => h) (Or.inl ⟨by rfl, ?_⟩) ?_ ?_
      rotate_left
      · intro w'
        go_simp
        with_reducible rfl
      rotate_left
      · simp only [Act.put, List.setIfInBounds_toArray, List.set_cons_zero, List.set_cons_succ, i64_w, i32_w]
        rfl
      refine take_ (i := 0) (N := some 28) (v := ?_) (a' := ?_) #[true, true, true, true, false, false, false, true] rfl rfl (take_ofW HT_.out HW_.out (by kernel_rfl)) (fun _ _ _ h => h) (Or.inl ⟨by rfl, ?_⟩) hHeld ?_ ?_
      rotate_left
      · rintro w' ⟨s0, s1⟩
        go_simp
        with_reducible rfl
      rotate_left
      · simp only [Act.put, List.setIfInBounds_toArray, List.set_cons_zero, List.set_cons_succ, i64_w, i32_w]
        rfl
      refine one_ (i := 4) (N := some 32) #[true, true, true, true, true, false, false, true] rfl rfl (one_of HT_.out (by kernel_rfl)) (by decide) (fun K hK => ?_)
      refine goes_ Try.func10 (by kernel_rfl) rfl #[.slice A0 l0.length c0, .int .u16 a2, .int .u16 a3] (by rfl) rfl rfl (by (try simp only [List.map_toArray, List.map_cons, List.map_nil]); first | done | rfl | (simp only [List.length_drop, List.length_take]; rfl)) ?_
      with_reducible refine (foolscapseat_Place.calls _ _ l0 a2 a3 t323 t324 _ ?side1 ?side2 A12.out).mono ?_
      (case side1 => repeat (first | exact (Kd.C_below HR0.out HB.out) | (with_reducible refine Kd.C_alloc ?_ _) | (with_reducible refine Kd.C_drewN ?_ _) | (with_reducible refine Kd.C_drew ?_)))
      (case side2 => exact HC0.out)
      rintro e w16 ⟨rfl, hb⟩
      refine ⟨_, rfl, ?_⟩
      have n0_ := Aside0.mk (blk_below (g := gb320) (o := .cells #[.int .i64 a1_0, .int .i64 a1_1] 24 (0, 0)) (by exact BK320.out) hb)
      have n1_ := Aside0.mk (below_step (by repeat (first | (with_reducible first | exact HB.out | apply below_alloc | apply pw_below_drewN | apply below_drew1 | refine below_set ?_ GE320.out) | exact HB.out)) hb)
      clear BK320
      clear HB
      have BK320 := n0_
      have HB := n1_
      clear n0_ n1_
      (try clear hb)
      (try clear hb2)
      (try clear hk)
      (try clear hi)
      refine hK.out _ _ ⟨(blk_cell BK320.out 0).trans rfl, (blk_cell BK320.out 1).trans rfl⟩ (fun hHeld => ?_)
      clear hK K
      refine norm_ (a' := ?_) ?_ ?_
      rotate_left
      · show Act.put _ (some 32) _ = _
        simp only [Act.put, List.setIfInBounds_toArray, List.set_cons_zero, List.set_cons_succ, i64_w, i32_w]
        rfl
      refine one_ (i := 5) (N := some 33) #[true, true, true, true, true, true, false, true] rfl rfl (one_of HT_.out (by kernel_rfl)) (by decide) (fun K hK => ?_)
      refine Kd.R_lit_step k24 _ 24 ?hg (N := 33) ?hd (xs := ([(⟨a1_0, a1_1⟩ : S24), (⟨t323, t324⟩ : S24)] : List (S24))) (inner := [.int .i64 a1_0, .int .i64 a1_1, .int .i64 t323, .int .i64 t324]) (ok := fun _ => True) (okp := fun _ => True) ?hr ?hp (fun _ hk => hk) trivial (Below.refl _ _) (Nat.le_refl _) (by simp) ?_; (case hd => rfl); (case hg => rfl); (case hr => first | (go_simp; done) | (go_simp; rfl)); (case hp => exact (Reps.c2 (show Kd.M k24 _ _ _ (⟨a1_0, a1_1⟩ : S24) [.int .i64 a1_0, .int .i64 a1_1] from (k24_mkM _ _ _ (⟨a1_0, a1_1⟩ : S24) )) (Reps.c2 (show Kd.M k24 _ _ _ (⟨t323, t324⟩ : S24) [.int .i64 t323, .int .i64 t324] from (k24_mkM _ _ _ (⟨t323, t324⟩ : S24) )) (Reps.none _ _))))
      intro v326 w17 ho18 hb hg_ hnew_
      clear hg_ hnew_
      (first | rw [← Ny325.out] at ho18 | (simp only [Int.reduceToNat] at ho18; rw [← Ny325.out] at ho18))
      have n0_ := Aside0.mk (Kd.R_lower (Kd.R_newB ho18 (g := gb320) (o := .cells #[.int .i64 a1_0, .int .i64 a1_1] 24 (0, 0)) (by exact BK320.out)) (below_size (by repeat (first | (with_reducible first | exact HB.out | apply below_alloc | apply pw_below_drewN | apply below_drew1 | refine below_set ?_ GE320.out) | exact HB.out))))
      have n1_ := Aside0.mk (blk_below (g := gb320) (o := .cells #[.int .i64 a1_0, .int .i64 a1_1] 24 (0, 0)) (by exact BK320.out) hb)
      have n2_ := Aside0.mk (below_step (by repeat (first | (with_reducible first | exact HB.out | apply below_alloc | apply pw_below_drewN | apply below_drew1 | refine below_set ?_ GE320.out) | exact HB.out)) hb)
      clear BK320
      clear HB
      have HO327 := n0_
      have BK320 := n1_
      have HB := n2_
      clear n0_ n1_ n2_
      clear hb ho18
      obtain ⟨Ao19, co19, eo19⟩ := Kd.R_slice HO327.out
      (first | subst eo19 | (injection eo19 with f1_ f2_ f3_; have f4_ := f1_.symm; have f5_ := f3_.symm; clear f1_ f2_ f3_; subst f4_; subst f5_))
      refine hK.out _ _ ⟨(blk_cell BK320.out 0).trans rfl, (blk_cell BK320.out 1).trans rfl⟩ (fun hHeld => ?_)
      clear hK K
      refine norm_ (a' := ?_) ?_ ?_
      rotate_left
      · show Act.put _ (some 33) _ = _
        simp only [Act.put, List.setIfInBounds_toArray, List.set_cons_zero, List.set_cons_succ, i64_w, i32_w]
        rfl
      refine pure_ (i := 6) (N := some 34) (v := ?_) (a' := ?_) #[true, true, true, true, true, true, true, true] rfl rfl (any_of HT_.out (by kernel_rfl)) (fun _ _ _ h => h) (Or.inl ⟨by rfl, ?_⟩) ?_ ?_
      rotate_left
      · intro w'
        go_simp
        with_reducible rfl
      rotate_left
      · simp only [Act.put, List.setIfInBounds_toArray, List.set_cons_zero, List.set_cons_succ, i64_w, i32_w]
        rfl
      refine done_ (done_of HT_.out (by kernel_rfl)) ?_
      try go_wp2
      go_loopg [35] k (fun kq v35 w' => ∃ (x35_1 : Int), v35 = .int .i64 x35_1 ∧ Aside0 (foolscaplaw8_WordsMove.l0 kq l0 a4 a5 a6 y325 (y325.length : Int) x35_1 = some r) ∧ Aside0 (kq ≤ k) ∧ Aside0 (Kd.R k24 24 w' w.heap.size (fun k_ => k_ ≠ gb320) (.slice Ao19 y325.length co19) y325) ∧ Aside0 (w'.heap[gb320]? = some (.cells #[.int .i64 a1_0, .int .i64 a1_1] 24 (0, 0))) ∧ Aside0 (Below w.heap.size w w'))
      case atStart => exact ⟨(0), (by first | rfl | (simp; done) | (simp [*]; done)), H', ⟨Nat.le_refl _⟩, ⟨by (with_reducible repeat (first | apply Kd.R_alloc | apply Kd.R_drewN | apply Kd.R_drew)); exact Kd.R_mono HO327.out (fun _ hk => hk.2)⟩, ⟨by exact BK320.out⟩, ⟨by repeat (first | (with_reducible first | exact HB.out | apply below_alloc | apply pw_below_drewN | apply below_drew1 | refine below_set ?_ GE320.out) | exact HB.out)⟩⟩
      case round =>
        clear H'
        try clear c1
        try clear c2
        try clear p2
        try clear c3
        try clear c8
        try clear c9
        try clear c10
        try clear c11
        obtain ⟨x35_1, rfl, HA, HK1, HO_33, BK320, HB⟩ := hrel
        cases gk with
        | zero => exact absurd HA.out (by simp [foolscaplaw8_WordsMove.l0])
        | succ k1 =>
          have H := HA.out
          clear HA
          simp only [foolscaplaw8_WordsMove.l0] at H
          by_cases c20 : x35_1 < (y325.length : Int)
          · rw [if_pos c20] at H
            have c20b0 : decide (x35_1 < (y325.length : Int)) = true := decide_eq_true c20
            clear c20
            by_cases c21 : 0 ≤ x35_1
            · rw [if_pos c21] at H
              have c21b0 : decide (0 ≤ x35_1) = true := decide_eq_true c21
              clear c21
              by_cases c22 : x35_1 < (y325.length : Int)
              · rw [if_pos c22] at H
                have c22b0 : decide (x35_1 < (y325.length : Int)) = true := decide_eq_true c22
                clear c22
                obtain ⟨y330, hy330⟩ : ∃ y_ : List Int, y_ = (([a4, Int.tmod a4 9, 1] : List Int)) := ⟨_, rfl⟩
                replace H : (foolscaplaw8_WordsMove.l1 k1 l0 a4 a5 a6 y325 (y325.length : Int) x35_1 y330 (y330.length : Int) 0 ((rd_T24 y325 x35_1).f0) ((rd_T24 y325 x35_1).f1)) = some r := by first | (rw [hy330]; with_reducible exact H) | (have H2_ := (Option.bind_some _ _).symm.trans H; rw [hy330]; with_reducible exact H2_) | (have H2_ := (Option.bind_some _ _).symm.trans H; with_reducible exact H2_) | with_reducible exact H | (rw [hy330]; exact H) | exact H
                have Ny330 := Aside0.mk hy330
                clear hy330
                have H' := Aside0.mk H
                clear H
                have p328 : 0 ≤ (x35_1 : Int) := of_decide_eq_true (by first | (with_reducible assumption) | assumption)
                have q328 : x35_1 < (y325.length : Int) := of_decide_eq_true (by first | (with_reducible assumption) | assumption)
                obtain ⟨ad328, e328, hx328_0, hx328_1⟩ := at_T24 (Kd.R_reads' HO_33.out).2.2 x35_1 p328 q328
                cases e328
                replace p328 := eq_true p328
                replace q328 := eq_true q328
                go_wp2_with (first | ((with_reducible refine gate_dst (N := 16) rfl ?_); refine box_event ?hg (N := 16) ?hd (cs := #[.int .i64 0, .int .i64 0]) (t := 24) ?hr ?_; (case hd => rfl); (case hg => rfl); (case hr => first | (go_simp; done) | (go_simp; rfl)); intro gb329 hg w23 hbox hb; have n0_ := Aside0.mk (Kd.R_below (Kd.R_elderB (by (with_reducible repeat (first | apply Kd.R_alloc | apply Kd.R_drewN | apply Kd.R_drew)); exact HO_33.out) gb329 (Nat.le_of_eq hg.symm)) hb); have n1_ := Aside0.mk (blk_below (g := gb320) (o := .cells #[.int .i64 a1_0, .int .i64 a1_1] 24 (0, 0)) (by exact BK320.out) hb); have n2_ := Aside0.mk (below_step (by repeat (first | (with_reducible first | exact HB.out | apply below_alloc | apply pw_below_drewN | apply below_drew1 | refine below_set ?_ GE320.out) | exact HB.out)) hb); have n3_ := Aside0.mk (hbox); have n4_ := Aside0.mk ((by rw [hg]; exact (below_size (by repeat (first | (with_reducible first | exact HB.out | apply below_alloc | apply pw_below_drewN | apply below_drew1 | refine below_set ?_ GE320.out) | exact HB.out))) : w.heap.size ≤ gb329)); have n5_ := Aside0.mk ((by rw [hg]; exact (below_size (by repeat (first | (with_reducible first | exact HB.out | apply below_alloc | apply pw_below_drewN | apply below_drew1 | refine below_set ?_ GE320.out) | exact HB.out))) : w.heap.size ≤ gb329)); have n6_ := Aside0.mk ((by rw [hg]; exact Nat.ne_of_lt (blk_lt (g := gb320) (o := .cells #[.int .i64 a1_0, .int .i64 a1_1] 24 (0, 0)) (by exact BK320.out)) : gb320 ≠ gb329)); have n7_ := Aside0.mk ((by rw [hg]; exact Nat.ne_of_gt (blk_lt (g := gb320) (o := .cells #[.int .i64 a1_0, .int .i64 a1_1] 24 (0, 0)) (by exact BK320.out)) : gb329 ≠ gb320)); clear HO_33; clear BK320; clear HB; have HO_33 := n0_; have BK320 := n1_; have HB := n2_; have BK329 := n3_; have GW329 := n4_; have GE329 := n5_; have NB320_329 := n6_; have NB329_320 := n7_; clear n0_ n1_ n2_ n3_ n4_ n5_ n6_ n7_; clear hb hbox hg; have hnb24 := NB329_320.out; have hnc24 := NB320_329.out; have hcz25_0 : w23.cell? ⟨gb329, 0, none⟩ = some (.int .i64 0) := (blk_cell BK329.out 0).trans rfl; have hcz25_1 : w23.cell? ⟨gb329, 1, none⟩ = some (.int .i64 0) := (blk_cell BK329.out 1).trans rfl; have hfz25_0 := blk_frozen BK329.out 0; have hfz25_1 := blk_frozen BK329.out 1) | ((with_reducible refine gate_dst (N := 42) rfl ?_); refine Kd.R_lit (Kd.int .i64) _ 3 ?hg (N := 42) ?hd (xs := ([a4, Int.tmod a4 9, 1] : List Int)) (inner := [.int .i64 a4, .int .i64 (Int.tmod a4 9), .int .i64 1]) (ok := fun _ => True) (okp := fun _ => True) ?hr ?hp (fun _ hk => hk) trivial (Below.refl _ _) (Nat.le_refl _) (by simp) ?_; (case hd => rfl); (case hg => rfl); (case hr => first | (go_simp; done) | (go_simp; rfl)); (case hp => exact (Reps.one (show Kd.M (Kd.int .i64) _ _ _ a4 [.int .i64 a4] from rfl) (Reps.one (show Kd.M (Kd.int .i64) _ _ _ (Int.tmod a4 9) [.int .i64 (Int.tmod a4 9)] from rfl) (Reps.one (show Kd.M (Kd.int .i64) _ _ _ 1 [.int .i64 1] from rfl) (Reps.none _ _))))); intro v331 w26 ho27 hb hg_ hnew_; clear hg_ hnew_; (first | rw [← Ny330.out] at ho27 | (simp only [Int.reduceToNat] at ho27; rw [← Ny330.out] at ho27)); have n0_ := Aside0.mk (Kd.R_below (by (with_reducible repeat (first | apply Kd.R_alloc | apply Kd.R_drewN | apply Kd.R_drew)); exact (Kd.R_mono (Kd.R_far (p := ⟨gb329, 1, none⟩) (Kd.R_far (p := ⟨gb329, 0, none⟩) (Kd.R_mono HO_33.out (fun k_ hk => (⟨hk, hk.2⟩ : _ ∧ k_ ≠ gb329))) (fun _ hk => hk.2) (.int .i64 ((rd_T24 y325 x35_1).f0))) (fun _ hk => hk.2) (.int .i64 ((rd_T24 y325 x35_1).f1))) (fun _ h_ => h_.1))) hb); have n1_ := Aside0.mk (Kd.R_lower ho27 (below_size (by repeat (first | (with_reducible first | exact HB.out | apply below_alloc | apply pw_below_drewN | apply below_drew1 | refine below_set ?_ GE320.out | refine below_set ?_ GE329.out) | exact HB.out)))); have n2_ := Aside0.mk (blk_below (g := gb320) (o := .cells #[.int .i64 a1_0, .int .i64 a1_1] 24 (0, 0)) (by refine blk_far ?_ NB320_329.out _; refine blk_far ?_ NB320_329.out _; exact BK320.out) hb); have n3_ := Aside0.mk (blk_below (g := gb329) (o := .cells #[.int .i64 ((rd_T24 y325 x35_1).f0), .int .i64 ((rd_T24 y325 x35_1).f1)] 24 (0, 0)) (by refine blk_put (cs := #[.int .i64 ((rd_T24 y325 x35_1).f0), .int .i64 0]) ?_ 1 _ rfl; refine blk_put (cs := #[.int .i64 0, .int .i64 0]) ?_ 0 _ rfl; exact BK329.out) hb); have n4_ := Aside0.mk (below_step (by repeat (first | (with_reducible first | exact HB.out | apply below_alloc | apply pw_below_drewN | apply below_drew1 | refine below_set ?_ GE320.out | refine below_set ?_ GE329.out) | exact HB.out)) hb); clear HO_33; clear BK320; clear BK329; clear HB; have HO_33 := n0_; have HO332 := n1_; have BK320 := n2_; have BK329 := n3_; have HB := n4_; clear n0_ n1_ n2_ n3_ n4_; clear hb ho27; obtain ⟨Ao28, co28, eo28⟩ := Kd.R_slice HO332.out; subst eo28))
                go_loopg [44] k1 (fun kq v44 w' => ∃ (x44_2 : Int), v44 = .int .i64 x44_2 ∧ Aside0 (foolscaplaw8_WordsMove.l1 kq l0 a4 a5 a6 y325 (y325.length : Int) x35_1 y330 (y330.length : Int) x44_2 ((rd_T24 y325 x35_1).f0) ((rd_T24 y325 x35_1).f1) = some r) ∧ Aside0 (kq ≤ k1) ∧ Aside0 (Kd.R k24 24 w' w.heap.size (fun k_ => k_ ≠ gb320 ∧ k_ ≠ gb329) (.slice (some ad328) y325.length co19) y325) ∧ Aside0 (Kd.R (Kd.int .i64) 3 w' w.heap.size (fun _ => True) (.slice Ao28 y330.length co28) y330) ∧ Aside0 (w'.heap[gb320]? = some (.cells #[.int .i64 a1_0, .int .i64 a1_1] 24 (0, 0))) ∧ Aside0 (w'.heap[gb329]? = some (.cells #[.int .i64 ((rd_T24 y325 x35_1).f0), .int .i64 ((rd_T24 y325 x35_1).f1)] 24 (0, 0))) ∧ Aside0 (Below w.heap.size w w'))
                case atStart => exact ⟨(0), (by first | rfl | (simp; done) | (simp [*]; done)), H', ⟨Nat.le_refl _⟩, ⟨by (with_reducible repeat (first | apply Kd.R_alloc | apply Kd.R_drewN | apply Kd.R_drew)); exact HO_33.out⟩, ⟨by (with_reducible repeat (first | apply Kd.R_alloc | apply Kd.R_drewN | apply Kd.R_drew)); exact HO332.out⟩, ⟨by exact BK320.out⟩, ⟨by exact BK329.out⟩, ⟨by repeat (first | (with_reducible first | exact HB.out | apply below_alloc | apply pw_below_drewN | apply below_drew1 | refine below_set ?_ GE320.out | refine below_set ?_ GE329.out) | exact HB.out)⟩⟩
                case round =>
                  clear H'
                  try clear c1
                  try clear c2
                  try clear p2
                  try clear c3
                  try clear p3
                  try clear q3
                  try clear hx3
                  try clear c8
                  try clear c9
                  try clear c10
                  try clear c11
                  try clear c20
                  try clear c20b0
                  try clear c21
                  try clear c21b0
                  try clear c22
                  try clear c22b0
                  try clear c24
                  try clear hcz25_0
                  try clear hcz25_1
                  try clear hfz25_0
                  try clear hfz25_1
                  try clear hx328_0
                  try clear hx328_1
                  try clear p2
                  try clear p328
                  try clear q328
                  obtain ⟨x44_2, rfl, HA, HK2, HO_33, HO_42, BK320, BK329, HB⟩ := hrel
                  cases gk with
                  | zero => exact absurd HA.out (by simp [foolscaplaw8_WordsMove.l1])
                  | succ k2 =>
                    have H := HA.out
                    clear HA
                    simp only [foolscaplaw8_WordsMove.l1] at H
                    by_cases c29 : x44_2 < (y330.length : Int)
                    · rw [if_pos c29] at H
                      have c29b0 : decide (x44_2 < (y330.length : Int)) = true := decide_eq_true c29
                      clear c29
                      by_cases c30 : 0 ≤ x44_2
                      · rw [if_pos c30] at H
                        have c30b0 : decide (0 ≤ x44_2) = true := decide_eq_true c30
                        clear c30
                        by_cases c31 : x44_2 < (y330.length : Int)
                        · rw [if_pos c31] at H
                          have c31b0 : decide (x44_2 < (y330.length : Int)) = true := decide_eq_true c31
                          clear c31
                          replace H := Option.bind_eq_some_iff.mp H
                          obtain ⟨⟨t334, t335, t336, t337, t338, t339⟩, A320, H⟩ := H
                          replace H : ((foolscapref5_Next.f k2 l0 ((rd_T24 y325 x35_1).f0) ((rd_T24 y325 x35_1).f1) (rd y330 x44_2) a5 a6).bind fun bt341 => ((foolscaplaw8_same.f t334 t335 t336 t337 t338 t339 bt341.1 bt341.2.1 bt341.2.2.1 bt341.2.2.2.1 bt341.2.2.2.2.1 bt341.2.2.2.2.2).bind fun t348 => (if t348 = true then ((words_Back.f l0 ((rd_T24 y325 x35_1).f0) ((rd_T24 y325 x35_1).f1) (rd y330 x44_2) a5).bind fun bt349 => ((foolscapref5_Back.f k2 l0 ((rd_T24 y325 x35_1).f0) ((rd_T24 y325 x35_1).f1) (rd y330 x44_2) a5).bind fun bt355 => ((foolscaplaw8_same.f bt349.1 bt349.2.1 bt349.2.2.1 bt349.2.2.2.1 bt349.2.2.2.2.1 bt349.2.2.2.2.2 bt355.1 bt355.2.1 bt355.2.2.1 bt355.2.2.2.1 bt355.2.2.2.2.1 bt355.2.2.2.2.2).bind fun t361 => (if t361 = true then ((words_Tail.f l0 ((rd_T24 y325 x35_1).f0) ((rd_T24 y325 x35_1).f1) (rd y330 x44_2) a5 a6).bind fun bt362 => ((foolscapref5_Tail.f k2 l0 ((rd_T24 y325 x35_1).f0) ((rd_T24 y325 x35_1).f1) (rd y330 x44_2) a5 a6).bind fun bt368 => ((foolscaplaw8_same.f bt362.1 bt362.2.1 bt362.2.2.1 bt362.2.2.2.1 bt362.2.2.2.2.1 bt362.2.2.2.2.2 bt368.1 bt368.2.1 bt368.2.2.1 bt368.2.2.2.1 bt368.2.2.2.2.1 bt368.2.2.2.2.2).bind fun t374 => (if t374 = true then ((words_BackTail.f l0 ((rd_T24 y325 x35_1).f0) ((rd_T24 y325 x35_1).f1) (rd y330 x44_2) a5).bind fun bt375 => ((foolscapref5_BackTail.f k2 l0 ((rd_T24 y325 x35_1).f0) ((rd_T24 y325 x35_1).f1) (rd y330 x44_2) a5).bind fun bt381 => ((foolscaplaw8_same.f bt375.1 bt375.2.1 bt375.2.2.1 bt375.2.2.2.1 bt375.2.2.2.2.1 bt375.2.2.2.2.2 bt381.1 bt381.2.1 bt381.2.2.1 bt381.2.2.2.1 bt381.2.2.2.2.1 bt381.2.2.2.2.2).bind fun t387 => (if t387 = true then (foolscaplaw8_WordsMove.l1 k2 l0 a4 a5 a6 y325 (y325.length : Int) x35_1 y330 (y330.length : Int) (wrap64 (x44_2 + 1)) ((rd_T24 y325 x35_1).f0) ((rd_T24 y325 x35_1).f1)) else (some false))))) else (some false))))) else (some false))))) else (some false)))) = some r := H
                          have A32 := Aside0.mk A320
                          clear A320
                          replace H := Option.bind_eq_some_iff.mp H
                          obtain ⟨⟨t341, t342, t343, t344, t345, t346⟩, A330, H⟩ := H
                          replace H : ((foolscaplaw8_same.f t334 t335 t336 t337 t338 t339 t341 t342 t343 t344 t345 t346).bind fun t348 => (if t348 = true then ((words_Back.f l0 ((rd_T24 y325 x35_1).f0) ((rd_T24 y325 x35_1).f1) (rd y330 x44_2) a5).bind fun bt349 => ((foolscapref5_Back.f k2 l0 ((rd_T24 y325 x35_1).f0) ((rd_T24 y325 x35_1).f1) (rd y330 x44_2) a5).bind fun bt355 => ((foolscaplaw8_same.f bt349.1 bt349.2.1 bt349.2.2.1 bt349.2.2.2.1 bt349.2.2.2.2.1 bt349.2.2.2.2.2 bt355.1 bt355.2.1 bt355.2.2.1 bt355.2.2.2.1 bt355.2.2.2.2.1 bt355.2.2.2.2.2).bind fun t361 => (if t361 = true then ((words_Tail.f l0 ((rd_T24 y325 x35_1).f0) ((rd_T24 y325 x35_1).f1) (rd y330 x44_2) a5 a6).bind fun bt362 => ((foolscapref5_Tail.f k2 l0 ((rd_T24 y325 x35_1).f0) ((rd_T24 y325 x35_1).f1) (rd y330 x44_2) a5 a6).bind fun bt368 => ((foolscaplaw8_same.f bt362.1 bt362.2.1 bt362.2.2.1 bt362.2.2.2.1 bt362.2.2.2.2.1 bt362.2.2.2.2.2 bt368.1 bt368.2.1 bt368.2.2.1 bt368.2.2.2.1 bt368.2.2.2.2.1 bt368.2.2.2.2.2).bind fun t374 => (if t374 = true then ((words_BackTail.f l0 ((rd_T24 y325 x35_1).f0) ((rd_T24 y325 x35_1).f1) (rd y330 x44_2) a5).bind fun bt375 => ((foolscapref5_BackTail.f k2 l0 ((rd_T24 y325 x35_1).f0) ((rd_T24 y325 x35_1).f1) (rd y330 x44_2) a5).bind fun bt381 => ((foolscaplaw8_same.f bt375.1 bt375.2.1 bt375.2.2.1 bt375.2.2.2.1 bt375.2.2.2.2.1 bt375.2.2.2.2.2 bt381.1 bt381.2.1 bt381.2.2.1 bt381.2.2.2.1 bt381.2.2.2.2.1 bt381.2.2.2.2.2).bind fun t387 => (if t387 = true then (foolscaplaw8_WordsMove.l1 k2 l0 a4 a5 a6 y325 (y325.length : Int) x35_1 y330 (y330.length : Int) (wrap64 (x44_2 + 1)) ((rd_T24 y325 x35_1).f0) ((rd_T24 y325 x35_1).f1)) else (some false))))) else (some false))))) else (some false))))) else (some false))) = some r := H
                          have A33 := Aside0.mk A330
                          clear A330
                          replace H := Option.bind_eq_some_iff.mp H
                          obtain ⟨t348, A340, H⟩ := H
                          replace H : (if t348 = true then ((words_Back.f l0 ((rd_T24 y325 x35_1).f0) ((rd_T24 y325 x35_1).f1) (rd y330 x44_2) a5).bind fun bt349 => ((foolscapref5_Back.f k2 l0 ((rd_T24 y325 x35_1).f0) ((rd_T24 y325 x35_1).f1) (rd y330 x44_2) a5).bind fun bt355 => ((foolscaplaw8_same.f bt349.1 bt349.2.1 bt349.2.2.1 bt349.2.2.2.1 bt349.2.2.2.2.1 bt349.2.2.2.2.2 bt355.1 bt355.2.1 bt355.2.2.1 bt355.2.2.2.1 bt355.2.2.2.2.1 bt355.2.2.2.2.2).bind fun t361 => (if t361 = true then ((words_Tail.f l0 ((rd_T24 y325 x35_1).f0) ((rd_T24 y325 x35_1).f1) (rd y330 x44_2) a5 a6).bind fun bt362 => ((foolscapref5_Tail.f k2 l0 ((rd_T24 y325 x35_1).f0) ((rd_T24 y325 x35_1).f1) (rd y330 x44_2) a5 a6).bind fun bt368 => ((foolscaplaw8_same.f bt362.1 bt362.2.1 bt362.2.2.1 bt362.2.2.2.1 bt362.2.2.2.2.1 bt362.2.2.2.2.2 bt368.1 bt368.2.1 bt368.2.2.1 bt368.2.2.2.1 bt368.2.2.2.2.1 bt368.2.2.2.2.2).bind fun t374 => (if t374 = true then ((words_BackTail.f l0 ((rd_T24 y325 x35_1).f0) ((rd_T24 y325 x35_1).f1) (rd y330 x44_2) a5).bind fun bt375 => ((foolscapref5_BackTail.f k2 l0 ((rd_T24 y325 x35_1).f0) ((rd_T24 y325 x35_1).f1) (rd y330 x44_2) a5).bind fun bt381 => ((foolscaplaw8_same.f bt375.1 bt375.2.1 bt375.2.2.1 bt375.2.2.2.1 bt375.2.2.2.2.1 bt375.2.2.2.2.2 bt381.1 bt381.2.1 bt381.2.2.1 bt381.2.2.2.1 bt381.2.2.2.2.1 bt381.2.2.2.2.2).bind fun t387 => (if t387 = true then (foolscaplaw8_WordsMove.l1 k2 l0 a4 a5 a6 y325 (y325.length : Int) x35_1 y330 (y330.length : Int) (wrap64 (x44_2 + 1)) ((rd_T24 y325 x35_1).f0) ((rd_T24 y325 x35_1).f1)) else (some false))))) else (some false))))) else (some false))))) else (some false)) = some r := H
                          have A34 := Aside0.mk A340
                          clear A340
                          by_cases c35 : t348 = true
                          · subst c35
                            have H1 : ((words_Back.f l0 ((rd_T24 y325 x35_1).f0) ((rd_T24 y325 x35_1).f1) (rd y330 x44_2) a5).bind fun bt349 => ((foolscapref5_Back.f k2 l0 ((rd_T24 y325 x35_1).f0) ((rd_T24 y325 x35_1).f1) (rd y330 x44_2) a5).bind fun bt355 => ((foolscaplaw8_same.f bt349.1 bt349.2.1 bt349.2.2.1 bt349.2.2.2.1 bt349.2.2.2.2.1 bt349.2.2.2.2.2 bt355.1 bt355.2.1 bt355.2.2.1 bt355.2.2.2.1 bt355.2.2.2.2.1 bt355.2.2.2.2.2).bind fun t361 => (if t361 = true then ((words_Tail.f l0 ((rd_T24 y325 x35_1).f0) ((rd_T24 y325 x35_1).f1) (rd y330 x44_2) a5 a6).bind fun bt362 => ((foolscapref5_Tail.f k2 l0 ((rd_T24 y325 x35_1).f0) ((rd_T24 y325 x35_1).f1) (rd y330 x44_2) a5 a6).bind fun bt368 => ((foolscaplaw8_same.f bt362.1 bt362.2.1 bt362.2.2.1 bt362.2.2.2.1 bt362.2.2.2.2.1 bt362.2.2.2.2.2 bt368.1 bt368.2.1 bt368.2.2.1 bt368.2.2.2.1 bt368.2.2.2.2.1 bt368.2.2.2.2.2).bind fun t374 => (if t374 = true then ((words_BackTail.f l0 ((rd_T24 y325 x35_1).f0) ((rd_T24 y325 x35_1).f1) (rd y330 x44_2) a5).bind fun bt375 => ((foolscapref5_BackTail.f k2 l0 ((rd_T24 y325 x35_1).f0) ((rd_T24 y325 x35_1).f1) (rd y330 x44_2) a5).bind fun bt381 => ((foolscaplaw8_same.f bt375.1 bt375.2.1 bt375.2.2.1 bt375.2.2.2.1 bt375.2.2.2.2.1 bt375.2.2.2.2.2 bt381.1 bt381.2.1 bt381.2.2.1 bt381.2.2.2.1 bt381.2.2.2.2.1 bt381.2.2.2.2.2).bind fun t387 => (if t387 = true then (foolscaplaw8_WordsMove.l1 k2 l0 a4 a5 a6 y325 (y325.length : Int) x35_1 y330 (y330.length : Int) (wrap64 (x44_2 + 1)) ((rd_T24 y325 x35_1).f0) ((rd_T24 y325 x35_1).f1)) else (some false))))) else (some false))))) else (some false))))) = some r := by rw [if_pos rfl] at H; exact H
                            clear H
                            have H := H1
                            clear H1
                            replace H := Option.bind_eq_some_iff.mp H
                            obtain ⟨⟨t349, t350, t351, t352, t353, t354⟩, A360, H⟩ := H
                            replace H : ((foolscapref5_Back.f k2 l0 ((rd_T24 y325 x35_1).f0) ((rd_T24 y325 x35_1).f1) (rd y330 x44_2) a5).bind fun bt355 => ((foolscaplaw8_same.f t349 t350 t351 t352 t353 t354 bt355.1 bt355.2.1 bt355.2.2.1 bt355.2.2.2.1 bt355.2.2.2.2.1 bt355.2.2.2.2.2).bind fun t361 => (if t361 = true then ((words_Tail.f l0 ((rd_T24 y325 x35_1).f0) ((rd_T24 y325 x35_1).f1) (rd y330 x44_2) a5 a6).bind fun bt362 => ((foolscapref5_Tail.f k2 l0 ((rd_T24 y325 x35_1).f0) ((rd_T24 y325 x35_1).f1) (rd y330 x44_2) a5 a6).bind fun bt368 => ((foolscaplaw8_same.f bt362.1 bt362.2.1 bt362.2.2.1 bt362.2.2.2.1 bt362.2.2.2.2.1 bt362.2.2.2.2.2 bt368.1 bt368.2.1 bt368.2.2.1 bt368.2.2.2.1 bt368.2.2.2.2.1 bt368.2.2.2.2.2).bind fun t374 => (if t374 = true then ((words_BackTail.f l0 ((rd_T24 y325 x35_1).f0) ((rd_T24 y325 x35_1).f1) (rd y330 x44_2) a5).bind fun bt375 => ((foolscapref5_BackTail.f k2 l0 ((rd_T24 y325 x35_1).f0) ((rd_T24 y325 x35_1).f1) (rd y330 x44_2) a5).bind fun bt381 => ((foolscaplaw8_same.f bt375.1 bt375.2.1 bt375.2.2.1 bt375.2.2.2.1 bt375.2.2.2.2.1 bt375.2.2.2.2.2 bt381.1 bt381.2.1 bt381.2.2.1 bt381.2.2.2.1 bt381.2.2.2.2.1 bt381.2.2.2.2.2).bind fun t387 => (if t387 = true then (foolscaplaw8_WordsMove.l1 k2 l0 a4 a5 a6 y325 (y325.length : Int) x35_1 y330 (y330.length : Int) (wrap64 (x44_2 + 1)) ((rd_T24 y325 x35_1).f0) ((rd_T24 y325 x35_1).f1)) else (some false))))) else (some false))))) else (some false)))) = some r := H
                            have A36 := Aside0.mk A360
                            clear A360
                            replace H := Option.bind_eq_some_iff.mp H
                            obtain ⟨⟨t355, t356, t357, t358, t359, t360⟩, A370, H⟩ := H
                            replace H : ((foolscaplaw8_same.f t349 t350 t351 t352 t353 t354 t355 t356 t357 t358 t359 t360).bind fun t361 => (if t361 = true then ((words_Tail.f l0 ((rd_T24 y325 x35_1).f0) ((rd_T24 y325 x35_1).f1) (rd y330 x44_2) a5 a6).bind fun bt362 => ((foolscapref5_Tail.f k2 l0 ((rd_T24 y325 x35_1).f0) ((rd_T24 y325 x35_1).f1) (rd y330 x44_2) a5 a6).bind fun bt368 => ((foolscaplaw8_same.f bt362.1 bt362.2.1 bt362.2.2.1 bt362.2.2.2.1 bt362.2.2.2.2.1 bt362.2.2.2.2.2 bt368.1 bt368.2.1 bt368.2.2.1 bt368.2.2.2.1 bt368.2.2.2.2.1 bt368.2.2.2.2.2).bind fun t374 => (if t374 = true then ((words_BackTail.f l0 ((rd_T24 y325 x35_1).f0) ((rd_T24 y325 x35_1).f1) (rd y330 x44_2) a5).bind fun bt375 => ((foolscapref5_BackTail.f k2 l0 ((rd_T24 y325 x35_1).f0) ((rd_T24 y325 x35_1).f1) (rd y330 x44_2) a5).bind fun bt381 => ((foolscaplaw8_same.f bt375.1 bt375.2.1 bt375.2.2.1 bt375.2.2.2.1 bt375.2.2.2.2.1 bt375.2.2.2.2.2 bt381.1 bt381.2.1 bt381.2.2.1 bt381.2.2.2.1 bt381.2.2.2.2.1 bt381.2.2.2.2.2).bind fun t387 => (if t387 = true then (foolscaplaw8_WordsMove.l1 k2 l0 a4 a5 a6 y325 (y325.length : Int) x35_1 y330 (y330.length : Int) (wrap64 (x44_2 + 1)) ((rd_T24 y325 x35_1).f0) ((rd_T24 y325 x35_1).f1)) else (some false))))) else (some false))))) else (some false))) = some r := H
                            have A37 := Aside0.mk A370
                            clear A370
                            replace H := Option.bind_eq_some_iff.mp H
                            obtain ⟨t361, A380, H⟩ := H
                            replace H : (if t361 = true then ((words_Tail.f l0 ((rd_T24 y325 x35_1).f0) ((rd_T24 y325 x35_1).f1) (rd y330 x44_2) a5 a6).bind fun bt362 => ((foolscapref5_Tail.f k2 l0 ((rd_T24 y325 x35_1).f0) ((rd_T24 y325 x35_1).f1) (rd y330 x44_2) a5 a6).bind fun bt368 => ((foolscaplaw8_same.f bt362.1 bt362.2.1 bt362.2.2.1 bt362.2.2.2.1 bt362.2.2.2.2.1 bt362.2.2.2.2.2 bt368.1 bt368.2.1 bt368.2.2.1 bt368.2.2.2.1 bt368.2.2.2.2.1 bt368.2.2.2.2.2).bind fun t374 => (if t374 = true then ((words_BackTail.f l0 ((rd_T24 y325 x35_1).f0) ((rd_T24 y325 x35_1).f1) (rd y330 x44_2) a5).bind fun bt375 => ((foolscapref5_BackTail.f k2 l0 ((rd_T24 y325 x35_1).f0) ((rd_T24 y325 x35_1).f1) (rd y330 x44_2) a5).bind fun bt381 => ((foolscaplaw8_same.f bt375.1 bt375.2.1 bt375.2.2.1 bt375.2.2.2.1 bt375.2.2.2.2.1 bt375.2.2.2.2.2 bt381.1 bt381.2.1 bt381.2.2.1 bt381.2.2.2.1 bt381.2.2.2.2.1 bt381.2.2.2.2.2).bind fun t387 => (if t387 = true then (foolscaplaw8_WordsMove.l1 k2 l0 a4 a5 a6 y325 (y325.length : Int) x35_1 y330 (y330.length : Int) (wrap64 (x44_2 + 1)) ((rd_T24 y325 x35_1).f0) ((rd_T24 y325 x35_1).f1)) else (some false))))) else (some false))))) else (some false)) = some r := H
                            have A38 := Aside0.mk A380
                            clear A380
                            by_cases c39 : t361 = true
                            · subst c39
                              have H1 : ((words_Tail.f l0 ((rd_T24 y325 x35_1).f0) ((rd_T24 y325 x35_1).f1) (rd y330 x44_2) a5 a6).bind fun bt362 => ((foolscapref5_Tail.f k2 l0 ((rd_T24 y325 x35_1).f0) ((rd_T24 y325 x35_1).f1) (rd y330 x44_2) a5 a6).bind fun bt368 => ((foolscaplaw8_same.f bt362.1 bt362.2.1 bt362.2.2.1 bt362.2.2.2.1 bt362.2.2.2.2.1 bt362.2.2.2.2.2 bt368.1 bt368.2.1 bt368.2.2.1 bt368.2.2.2.1 bt368.2.2.2.2.1 bt368.2.2.2.2.2).bind fun t374 => (if t374 = true then ((words_BackTail.f l0 ((rd_T24 y325 x35_1).f0) ((rd_T24 y325 x35_1).f1) (rd y330 x44_2) a5).bind fun bt375 => ((foolscapref5_BackTail.f k2 l0 ((rd_T24 y325 x35_1).f0) ((rd_T24 y325 x35_1).f1) (rd y330 x44_2) a5).bind fun bt381 => ((foolscaplaw8_same.f bt375.1 bt375.2.1 bt375.2.2.1 bt375.2.2.2.1 bt375.2.2.2.2.1 bt375.2.2.2.2.2 bt381.1 bt381.2.1 bt381.2.2.1 bt381.2.2.2.1 bt381.2.2.2.2.1 bt381.2.2.2.2.2).bind fun t387 => (if t387 = true then (foolscaplaw8_WordsMove.l1 k2 l0 a4 a5 a6 y325 (y325.length : Int) x35_1 y330 (y330.length : Int) (wrap64 (x44_2 + 1)) ((rd_T24 y325 x35_1).f0) ((rd_T24 y325 x35_1).f1)) else (some false))))) else (some false))))) = some r := by rw [if_pos rfl] at H; exact H
                              clear H
                              have H := H1
                              clear H1
                              replace H := Option.bind_eq_some_iff.mp H
                              obtain ⟨⟨t362, t363, t364, t365, t366, t367⟩, A400, H⟩ := H
                              replace H : ((foolscapref5_Tail.f k2 l0 ((rd_T24 y325 x35_1).f0) ((rd_T24 y325 x35_1).f1) (rd y330 x44_2) a5 a6).bind fun bt368 => ((foolscaplaw8_same.f t362 t363 t364 t365 t366 t367 bt368.1 bt368.2.1 bt368.2.2.1 bt368.2.2.2.1 bt368.2.2.2.2.1 bt368.2.2.2.2.2).bind fun t374 => (if t374 = true then ((words_BackTail.f l0 ((rd_T24 y325 x35_1).f0) ((rd_T24 y325 x35_1).f1) (rd y330 x44_2) a5).bind fun bt375 => ((foolscapref5_BackTail.f k2 l0 ((rd_T24 y325 x35_1).f0) ((rd_T24 y325 x35_1).f1) (rd y330 x44_2) a5).bind fun bt381 => ((foolscaplaw8_same.f bt375.1 bt375.2.1 bt375.2.2.1 bt375.2.2.2.1 bt375.2.2.2.2.1 bt375.2.2.2.2.2 bt381.1 bt381.2.1 bt381.2.2.1 bt381.2.2.2.1 bt381.2.2.2.2.1 bt381.2.2.2.2.2).bind fun t387 => (if t387 = true then (foolscaplaw8_WordsMove.l1 k2 l0 a4 a5 a6 y325 (y325.length : Int) x35_1 y330 (y330.length : Int) (wrap64 (x44_2 + 1)) ((rd_T24 y325 x35_1).f0) ((rd_T24 y325 x35_1).f1)) else (some false))))) else (some false)))) = some r := H
                              have A40 := Aside0.mk A400
                              clear A400
                              replace H := Option.bind_eq_some_iff.mp H
                              obtain ⟨⟨t368, t369, t370, t371, t372, t373⟩, A410, H⟩ := H
                              replace H : ((foolscaplaw8_same.f t362 t363 t364 t365 t366 t367 t368 t369 t370 t371 t372 t373).bind fun t374 => (if t374 = true then ((words_BackTail.f l0 ((rd_T24 y325 x35_1).f0) ((rd_T24 y325 x35_1).f1) (rd y330 x44_2) a5).bind fun bt375 => ((foolscapref5_BackTail.f k2 l0 ((rd_T24 y325 x35_1).f0) ((rd_T24 y325 x35_1).f1) (rd y330 x44_2) a5).bind fun bt381 => ((foolscaplaw8_same.f bt375.1 bt375.2.1 bt375.2.2.1 bt375.2.2.2.1 bt375.2.2.2.2.1 bt375.2.2.2.2.2 bt381.1 bt381.2.1 bt381.2.2.1 bt381.2.2.2.1 bt381.2.2.2.2.1 bt381.2.2.2.2.2).bind fun t387 => (if t387 = true then (foolscaplaw8_WordsMove.l1 k2 l0 a4 a5 a6 y325 (y325.length : Int) x35_1 y330 (y330.length : Int) (wrap64 (x44_2 + 1)) ((rd_T24 y325 x35_1).f0) ((rd_T24 y325 x35_1).f1)) else (some false))))) else (some false))) = some r := H
                              have A41 := Aside0.mk A410
                              clear A410
                              replace H := Option.bind_eq_some_iff.mp H
                              obtain ⟨t374, A420, H⟩ := H
                              replace H : (if t374 = true then ((words_BackTail.f l0 ((rd_T24 y325 x35_1).f0) ((rd_T24 y325 x35_1).f1) (rd y330 x44_2) a5).bind fun bt375 => ((foolscapref5_BackTail.f k2 l0 ((rd_T24 y325 x35_1).f0) ((rd_T24 y325 x35_1).f1) (rd y330 x44_2) a5).bind fun bt381 => ((foolscaplaw8_same.f bt375.1 bt375.2.1 bt375.2.2.1 bt375.2.2.2.1 bt375.2.2.2.2.1 bt375.2.2.2.2.2 bt381.1 bt381.2.1 bt381.2.2.1 bt381.2.2.2.1 bt381.2.2.2.2.1 bt381.2.2.2.2.2).bind fun t387 => (if t387 = true then (foolscaplaw8_WordsMove.l1 k2 l0 a4 a5 a6 y325 (y325.length : Int) x35_1 y330 (y330.length : Int) (wrap64 (x44_2 + 1)) ((rd_T24 y325 x35_1).f0) ((rd_T24 y325 x35_1).f1)) else (some false))))) else (some false)) = some r := H
                              have A42 := Aside0.mk A420
                              clear A420
                              by_cases c43 : t374 = true
                              · subst c43
                                have H1 : ((words_BackTail.f l0 ((rd_T24 y325 x35_1).f0) ((rd_T24 y325 x35_1).f1) (rd y330 x44_2) a5).bind fun bt375 => ((foolscapref5_BackTail.f k2 l0 ((rd_T24 y325 x35_1).f0) ((rd_T24 y325 x35_1).f1) (rd y330 x44_2) a5).bind fun bt381 => ((foolscaplaw8_same.f bt375.1 bt375.2.1 bt375.2.2.1 bt375.2.2.2.1 bt375.2.2.2.2.1 bt375.2.2.2.2.2 bt381.1 bt381.2.1 bt381.2.2.1 bt381.2.2.2.1 bt381.2.2.2.2.1 bt381.2.2.2.2.2).bind fun t387 => (if t387 = true then (foolscaplaw8_WordsMove.l1 k2 l0 a4 a5 a6 y325 (y325.length : Int) x35_1 y330 (y330.length : Int) (wrap64 (x44_2 + 1)) ((rd_T24 y325 x35_1).f0) ((rd_T24 y325 x35_1).f1)) else (some false))))) = some r := by rw [if_pos rfl] at H; exact H
                                clear H
                                have H := H1
                                clear H1
                                replace H := Option.bind_eq_some_iff.mp H
                                obtain ⟨⟨t375, t376, t377, t378, t379, t380⟩, A440, H⟩ := H
                                replace H : ((foolscapref5_BackTail.f k2 l0 ((rd_T24 y325 x35_1).f0) ((rd_T24 y325 x35_1).f1) (rd y330 x44_2) a5).bind fun bt381 => ((foolscaplaw8_same.f t375 t376 t377 t378 t379 t380 bt381.1 bt381.2.1 bt381.2.2.1 bt381.2.2.2.1 bt381.2.2.2.2.1 bt381.2.2.2.2.2).bind fun t387 => (if t387 = true then (foolscaplaw8_WordsMove.l1 k2 l0 a4 a5 a6 y325 (y325.length : Int) x35_1 y330 (y330.length : Int) (wrap64 (x44_2 + 1)) ((rd_T24 y325 x35_1).f0) ((rd_T24 y325 x35_1).f1)) else (some false)))) = some r := H
                                have A44 := Aside0.mk A440
                                clear A440
                                replace H := Option.bind_eq_some_iff.mp H
                                obtain ⟨⟨t381, t382, t383, t384, t385, t386⟩, A450, H⟩ := H
                                replace H : ((foolscaplaw8_same.f t375 t376 t377 t378 t379 t380 t381 t382 t383 t384 t385 t386).bind fun t387 => (if t387 = true then (foolscaplaw8_WordsMove.l1 k2 l0 a4 a5 a6 y325 (y325.length : Int) x35_1 y330 (y330.length : Int) (wrap64 (x44_2 + 1)) ((rd_T24 y325 x35_1).f0) ((rd_T24 y325 x35_1).f1)) else (some false))) = some r := H
                                have A45 := Aside0.mk A450
                                clear A450
                                replace H := Option.bind_eq_some_iff.mp H
                                obtain ⟨t387, A460, H⟩ := H
                                replace H : (if t387 = true then (foolscaplaw8_WordsMove.l1 k2 l0 a4 a5 a6 y325 (y325.length : Int) x35_1 y330 (y330.length : Int) (wrap64 (x44_2 + 1)) ((rd_T24 y325 x35_1).f0) ((rd_T24 y325 x35_1).f1)) else (some false)) = some r := H
                                have A46 := Aside0.mk A460
                                clear A460
                                by_cases c47 : t387 = true
                                · subst c47
                                  have H1 : (foolscaplaw8_WordsMove.l1 k2 l0 a4 a5 a6 y325 (y325.length : Int) x35_1 y330 (y330.length : Int) (wrap64 (x44_2 + 1)) ((rd_T24 y325 x35_1).f0) ((rd_T24 y325 x35_1).f1)) = some r := by rw [if_pos rfl] at H; exact H
                                  clear H
                                  have H := H1
                                  clear H1
                                  have H' := Aside0.mk H
                                  clear H
                                  have p333 : 0 ≤ (x44_2 : Int) := of_decide_eq_true (by first | (with_reducible assumption) | assumption)
                                  have q333 : x44_2 < (y330.length : Int) := of_decide_eq_true (by first | (with_reducible assumption) | assumption)
                                  obtain ⟨ad333, e333, hx333_0⟩ := Kd.at_int (Kd.R_reads' HO_42.out).2.2 x44_2 p333 q333
                                  cases e333
                                  replace p333 := eq_true p333
                                  replace q333 := eq_true q333
                                  have hnb48 := NB329_320.out
                                  have hnc48 := NB320_329.out
                                  have hcz49_0 : wr.cell? ⟨gb329, 0, none⟩ = some (.int .i64 ((rd_T24 y325 x35_1).f0)) := (blk_cell BK329.out 0).trans rfl
                                  have hcz49_1 : wr.cell? ⟨gb329, 1, none⟩ = some (.int .i64 ((rd_T24 y325 x35_1).f1)) := (blk_cell BK329.out 1).trans rfl
                                  have hfz49_0 := blk_frozen BK329.out 0
                                  have hfz49_1 := blk_frozen BK329.out 1
                                  go_wp2_with (first | ((with_reducible refine gate_callee (f := 11) rfl ?_); refine goesL_ (some 54) rfl rfl Try.func11 (by kernel_rfl) rfl #[.slice A0 l0.length c0, .agg #[.int .i64 ((rd_T24 y325 x35_1).f0), .int .i64 ((rd_T24 y325 x35_1).f1)], .int .i64 (rd y330 x44_2), .bool a5, .bool a6] rfl (by (try simp only [List.map_toArray, List.map_cons, List.map_nil]); first | done | rfl | (simp only [List.length_drop, List.length_take]; rfl)) ?_; (with_reducible refine (words_Next.calls _ _ l0 ((rd_T24 y325 x35_1).f0) ((rd_T24 y325 x35_1).f1) (rd y330 x44_2) a5 a6 t334 t335 t336 t337 t338 t339 _ ?side1 ?side2 A32.out).mono ?_); (case side1 => repeat (first | exact (Kd.C_below HR0.out HB.out) | (with_reducible refine Kd.C_alloc ?_ _) | (with_reducible refine Kd.C_drewN ?_ _) | (with_reducible refine Kd.C_drew ?_))); (case side2 => exact HC0.out); rintro e w50 ⟨rfl, hb⟩; refine ⟨_, rfl, ?_⟩; have n0_ := Aside0.mk (Kd.R_below (by (with_reducible repeat (first | apply Kd.R_alloc | apply Kd.R_drewN | apply Kd.R_drew)); exact HO_33.out) hb); have n1_ := Aside0.mk (Kd.R_below (by (with_reducible repeat (first | apply Kd.R_alloc | apply Kd.R_drewN | apply Kd.R_drew)); exact HO_42.out) hb); have n2_ := Aside0.mk (blk_below (g := gb320) (o := .cells #[.int .i64 a1_0, .int .i64 a1_1] 24 (0, 0)) (by exact BK320.out) hb); have n3_ := Aside0.mk (blk_below (g := gb329) (o := .cells #[.int .i64 ((rd_T24 y325 x35_1).f0), .int .i64 ((rd_T24 y325 x35_1).f1)] 24 (0, 0)) (by exact BK329.out) hb); have n4_ := Aside0.mk (below_step (by repeat (first | (with_reducible first | exact HB.out | apply below_alloc | apply pw_below_drewN | apply below_drew1 | refine below_set ?_ GE320.out | refine below_set ?_ GE329.out) | exact HB.out)) hb); clear HO_33; clear HO_42; clear BK320; clear BK329; clear HB; have HO_33 := n0_; have HO_42 := n1_; have BK320 := n2_; have BK329 := n3_; have HB := n4_; clear n0_ n1_ n2_ n3_ n4_; (try clear hb); (try clear hb2); (try clear hk); (try clear hi)) | ((with_reducible refine gate_dst (N := 19) rfl ?_); refine box_event ?hg (N := 19) ?hd (cs := #[.int .i64 0, .int .i64 0, .int .i64 0, .bool false, .int .i64 0]) (t := 32) ?hr ?_; (case hd => rfl); (case hg => rfl); (case hr => first | (go_simp; done) | (go_simp; rfl)); intro gb340 hg w51 hbox hb; have n0_ := Aside0.mk (Kd.R_below (by (with_reducible repeat (first | apply Kd.R_alloc | apply Kd.R_drewN | apply Kd.R_drew)); exact HO_33.out) hb); have n1_ := Aside0.mk (Kd.R_below (by (with_reducible repeat (first | apply Kd.R_alloc | apply Kd.R_drewN | apply Kd.R_drew)); exact HO_42.out) hb); have n2_ := Aside0.mk (blk_below (g := gb320) (o := .cells #[.int .i64 a1_0, .int .i64 a1_1] 24 (0, 0)) (by exact BK320.out) hb); have n3_ := Aside0.mk (blk_below (g := gb329) (o := .cells #[.int .i64 ((rd_T24 y325 x35_1).f0), .int .i64 ((rd_T24 y325 x35_1).f1)] 24 (0, 0)) (by exact BK329.out) hb); have n4_ := Aside0.mk (below_step (by repeat (first | (with_reducible first | exact HB.out | apply below_alloc | apply pw_below_drewN | apply below_drew1 | refine below_set ?_ GE320.out | refine below_set ?_ GE329.out) | exact HB.out)) hb); have n5_ := Aside0.mk (hbox); have n6_ := Aside0.mk ((by rw [hg]; exact (below_size (by repeat (first | (with_reducible first | exact HB.out | apply below_alloc | apply pw_below_drewN | apply below_drew1 | refine below_set ?_ GE320.out | refine below_set ?_ GE329.out) | exact HB.out))) : w.heap.size ≤ gb340)); have n7_ := Aside0.mk ((by rw [hg]; exact (below_size (by repeat (first | (with_reducible first | exact HB.out | apply below_alloc | apply pw_below_drewN | apply below_drew1 | refine below_set ?_ GE320.out | refine below_set ?_ GE329.out) | exact HB.out))) : w.heap.size ≤ gb340)); have n8_ := Aside0.mk ((by rw [hg]; exact Nat.ne_of_lt (blk_lt (g := gb320) (o := .cells #[.int .i64 a1_0, .int .i64 a1_1] 24 (0, 0)) (by exact BK320.out)) : gb320 ≠ gb340)); have n9_ := Aside0.mk ((by rw [hg]; exact Nat.ne_of_gt (blk_lt (g := gb320) (o := .cells #[.int .i64 a1_0, .int .i64 a1_1] 24 (0, 0)) (by exact BK320.out)) : gb340 ≠ gb320)); have n10_ := Aside0.mk ((by rw [hg]; exact Nat.ne_of_lt (blk_lt (g := gb329) (o := .cells #[.int .i64 ((rd_T24 y325 x35_1).f0), .int .i64 ((rd_T24 y325 x35_1).f1)] 24 (0, 0)) (by exact BK329.out)) : gb329 ≠ gb340)); have n11_ := Aside0.mk ((by rw [hg]; exact Nat.ne_of_gt (blk_lt (g := gb329) (o := .cells #[.int .i64 ((rd_T24 y325 x35_1).f0), .int .i64 ((rd_T24 y325 x35_1).f1)] 24 (0, 0)) (by exact BK329.out)) : gb340 ≠ gb329)); clear HO_33; clear HO_42; clear BK320; clear BK329; clear HB; have HO_33 := n0_; have HO_42 := n1_; have BK320 := n2_; have BK329 := n3_; have HB := n4_; have BK340 := n5_; have GW340 := n6_; have GE340 := n7_; have NB320_340 := n8_; have NB340_320 := n9_; have NB329_340 := n10_; have NB340_329 := n11_; clear n0_ n1_ n2_ n3_ n4_ n5_ n6_ n7_ n8_ n9_ n10_ n11_; clear hb hbox hg; have hnb52 := NB340_320.out; have hnc52 := NB320_340.out; have hnb53 := NB340_329.out; have hnc53 := NB329_340.out; have hcz54_0 : w51.cell? ⟨gb340, 0, none⟩ = some (.int .i64 0) := (blk_cell BK340.out 0).trans rfl; have hcz54_1 : w51.cell? ⟨gb340, 1, none⟩ = some (.int .i64 0) := (blk_cell BK340.out 1).trans rfl; have hcz54_2 : w51.cell? ⟨gb340, 2, none⟩ = some (.int .i64 0) := (blk_cell BK340.out 2).trans rfl; have hcz54_3 : w51.cell? ⟨gb340, 3, none⟩ = some (.bool false) := (blk_cell BK340.out 3).trans rfl; have hcz54_4 : w51.cell? ⟨gb340, 4, none⟩ = some (.int .i64 0) := (blk_cell BK340.out 4).trans rfl; have hfz54_0 := blk_frozen BK340.out 0; have hfz54_1 := blk_frozen BK340.out 1; have hfz54_2 := blk_frozen BK340.out 2; have hfz54_3 := blk_frozen BK340.out 3; have hfz54_4 := blk_frozen BK340.out 4; have hcz55_0 : w51.cell? ⟨gb329, 0, none⟩ = some (.int .i64 ((rd_T24 y325 x35_1).f0)) := (blk_cell BK329.out 0).trans rfl; have hcz55_1 : w51.cell? ⟨gb329, 1, none⟩ = some (.int .i64 ((rd_T24 y325 x35_1).f1)) := (blk_cell BK329.out 1).trans rfl; have hfz55_0 := blk_frozen BK329.out 0; have hfz55_1 := blk_frozen BK329.out 1) | ((with_reducible refine gate_callee (f := 12) rfl ?_); refine goesL_ (some 63) rfl rfl Try.func12 (by kernel_rfl) rfl #[.slice A0 l0.length c0, .agg #[.int .i64 ((rd_T24 y325 x35_1).f0), .int .i64 ((rd_T24 y325 x35_1).f1)], .int .i64 (rd y330 x44_2), .bool a5, .bool a6] rfl (by (try simp only [List.map_toArray, List.map_cons, List.map_nil]); first | done | rfl | (simp only [List.length_drop, List.length_take]; rfl)) ?_; (with_reducible refine (foolscapref5_Next.calls k2 _ _ l0 ((rd_T24 y325 x35_1).f0) ((rd_T24 y325 x35_1).f1) (rd y330 x44_2) a5 a6 t341 t342 t343 t344 t345 t346 _ ?side1 ?side2 A33.out).mono ?_); (case side1 => exact Kd.C_below HR0.out (by repeat (first | (with_reducible first | exact HB.out | apply below_alloc | apply pw_below_drewN | apply below_drew1 | refine below_set ?_ GE320.out | refine below_set ?_ GE329.out | refine below_set ?_ GE340.out) | exact HB.out))); (case side2 => exact HC0.out); rintro e w56 ⟨rfl, hb⟩; refine ⟨_, rfl, ?_⟩; have n0_ := Aside0.mk (Kd.R_below (by (with_reducible repeat (first | apply Kd.R_alloc | apply Kd.R_drewN | apply Kd.R_drew)); exact (Kd.R_mono (Kd.R_far (p := ⟨gb340, 4, none⟩) (Kd.R_far (p := ⟨gb340, 3, none⟩) (Kd.R_far (p := ⟨gb340, 2, none⟩) (Kd.R_far (p := ⟨gb340, 1, none⟩) (Kd.R_far (p := ⟨gb340, 0, none⟩) (Kd.R_types HO_33.out BK340.out (by decide)) (fun _ hk => hk.2) (.int .i64 t334)) (fun _ hk => hk.2) (.int .i64 t335)) (fun _ hk => hk.2) (.int .i64 t336)) (fun _ hk => hk.2) (.bool t337)) (fun _ hk => hk.2) (.int .i64 t338)) (fun _ h_ => h_.1))) hb); have n1_ := Aside0.mk (Kd.R_below (by (with_reducible repeat (first | apply Kd.R_alloc | apply Kd.R_drewN | apply Kd.R_drew)); exact (Kd.R_mono (Kd.R_far (p := ⟨gb340, 4, none⟩) (Kd.R_far (p := ⟨gb340, 3, none⟩) (Kd.R_far (p := ⟨gb340, 2, none⟩) (Kd.R_far (p := ⟨gb340, 1, none⟩) (Kd.R_far (p := ⟨gb340, 0, none⟩) (Kd.R_types HO_42.out BK340.out (by decide)) (fun _ hk => hk.2) (.int .i64 t334)) (fun _ hk => hk.2) (.int .i64 t335)) (fun _ hk => hk.2) (.int .i64 t336)) (fun _ hk => hk.2) (.bool t337)) (fun _ hk => hk.2) (.int .i64 t338)) (fun _ h_ => h_.1))) hb); have n2_ := Aside0.mk (blk_below (g := gb320) (o := .cells #[.int .i64 a1_0, .int .i64 a1_1] 24 (0, 0)) (by refine blk_far ?_ NB320_340.out _; refine blk_far ?_ NB320_340.out _; refine blk_far ?_ NB320_340.out _; refine blk_far ?_ NB320_340.out _; refine blk_far ?_ NB320_340.out _; exact BK320.out) hb); have n3_ := Aside0.mk (blk_below (g := gb329) (o := .cells #[.int .i64 ((rd_T24 y325 x35_1).f0), .int .i64 ((rd_T24 y325 x35_1).f1)] 24 (0, 0)) (by refine blk_far ?_ NB329_340.out _; refine blk_far ?_ NB329_340.out _; refine blk_far ?_ NB329_340.out _; refine blk_far ?_ NB329_340.out _; refine blk_far ?_ NB329_340.out _; exact BK329.out) hb); have n4_ := Aside0.mk (blk_below (g := gb340) (o := .cells #[.int .i64 t334, .int .i64 t335, .int .i64 t336, .bool t337, .int .i64 t338] 32 (0, 0)) (by refine blk_put (cs := #[.int .i64 t334, .int .i64 t335, .int .i64 t336, .bool t337, .int .i64 0]) ?_ 4 _ rfl; refine blk_put (cs := #[.int .i64 t334, .int .i64 t335, .int .i64 t336, .bool false, .int .i64 0]) ?_ 3 _ rfl; refine blk_put (cs := #[.int .i64 t334, .int .i64 t335, .int .i64 0, .bool false, .int .i64 0]) ?_ 2 _ rfl; refine blk_put (cs := #[.int .i64 t334, .int .i64 0, .int .i64 0, .bool false, .int .i64 0]) ?_ 1 _ rfl; refine blk_put (cs := #[.int .i64 0, .int .i64 0, .int .i64 0, .bool false, .int .i64 0]) ?_ 0 _ rfl; exact BK340.out) hb); have n5_ := Aside0.mk (below_step (by repeat (first | (with_reducible first | exact HB.out | apply below_alloc | apply pw_below_drewN | apply below_drew1 | refine below_set ?_ GE320.out | refine below_set ?_ GE329.out | refine below_set ?_ GE340.out) | exact HB.out)) hb); clear HO_33; clear HO_42; clear BK320; clear BK329; clear BK340; clear HB; have HO_33 := n0_; have HO_42 := n1_; have BK320 := n2_; have BK329 := n3_; have BK340 := n4_; have HB := n5_; clear n0_ n1_ n2_ n3_ n4_ n5_; (try clear hb); (try clear hb2); (try clear hk); (try clear hi)) | ((with_reducible refine gate_dst (N := 21) rfl ?_); refine box_event ?hg (N := 21) ?hd (cs := #[.int .i64 0, .int .i64 0, .int .i64 0, .bool false, .int .i64 0]) (t := 32) ?hr ?_; (case hd => rfl); (case hg => rfl); (case hr => first | (go_simp; done) | (go_simp; rfl)); intro gb347 hg w57 hbox hb; have n0_ := Aside0.mk (Kd.R_below (by (with_reducible repeat (first | apply Kd.R_alloc | apply Kd.R_drewN | apply Kd.R_drew)); exact HO_33.out) hb); have n1_ := Aside0.mk (Kd.R_below (by (with_reducible repeat (first | apply Kd.R_alloc | apply Kd.R_drewN | apply Kd.R_drew)); exact HO_42.out) hb); have n2_ := Aside0.mk (blk_below (g := gb320) (o := .cells #[.int .i64 a1_0, .int .i64 a1_1] 24 (0, 0)) (by exact BK320.out) hb); have n3_ := Aside0.mk (blk_below (g := gb329) (o := .cells #[.int .i64 ((rd_T24 y325 x35_1).f0), .int .i64 ((rd_T24 y325 x35_1).f1)] 24 (0, 0)) (by exact BK329.out) hb); have n4_ := Aside0.mk (blk_below (g := gb340) (o := .cells #[.int .i64 t334, .int .i64 t335, .int .i64 t336, .bool t337, .int .i64 t338] 32 (0, 0)) (by exact BK340.out) hb); have n5_ := Aside0.mk (below_step (by repeat (first | (with_reducible first | exact HB.out | apply below_alloc | apply pw_below_drewN | apply below_drew1 | refine below_set ?_ GE320.out | refine below_set ?_ GE329.out | refine below_set ?_ GE340.out) | exact HB.out)) hb); have n6_ := Aside0.mk (hbox); have n7_ := Aside0.mk ((by rw [hg]; exact (below_size (by repeat (first | (with_reducible first | exact HB.out | apply below_alloc | apply pw_below_drewN | apply below_drew1 | refine below_set ?_ GE320.out | refine below_set ?_ GE329.out | refine below_set ?_ GE340.out) | exact HB.out))) : w.heap.size ≤ gb347)); have n8_ := Aside0.mk ((by rw [hg]; exact (below_size (by repeat (first | (with_reducible first | exact HB.out | apply below_alloc | apply pw_below_drewN | apply below_drew1 | refine below_set ?_ GE320.out | refine below_set ?_ GE329.out | refine below_set ?_ GE340.out) | exact HB.out))) : w.heap.size ≤ gb347)); have n9_ := Aside0.mk ((by rw [hg]; exact Nat.ne_of_lt (blk_lt (g := gb320) (o := .cells #[.int .i64 a1_0, .int .i64 a1_1] 24 (0, 0)) (by exact BK320.out)) : gb320 ≠ gb347)); have n10_ := Aside0.mk ((by rw [hg]; exact Nat.ne_of_gt (blk_lt (g := gb320) (o := .cells #[.int .i64 a1_0, .int .i64 a1_1] 24 (0, 0)) (by exact BK320.out)) : gb347 ≠ gb320)); have n11_ := Aside0.mk ((by rw [hg]; exact Nat.ne_of_lt (blk_lt (g := gb329) (o := .cells #[.int .i64 ((rd_T24 y325 x35_1).f0), .int .i64 ((rd_T24 y325 x35_1).f1)] 24 (0, 0)) (by exact BK329.out)) : gb329 ≠ gb347)); have n12_ := Aside0.mk ((by rw [hg]; exact Nat.ne_of_gt (blk_lt (g := gb329) (o := .cells #[.int .i64 ((rd_T24 y325 x35_1).f0), .int .i64 ((rd_T24 y325 x35_1).f1)] 24 (0, 0)) (by exact BK329.out)) : gb347 ≠ gb329)); have n13_ := Aside0.mk ((by rw [hg]; exact Nat.ne_of_lt (blk_lt (g := gb340) (o := .cells #[.int .i64 t334, .int .i64 t335, .int .i64 t336, .bool t337, .int .i64 t338] 32 (0, 0)) (by exact BK340.out)) : gb340 ≠ gb347)); have n14_ := Aside0.mk ((by rw [hg]; exact Nat.ne_of_gt (blk_lt (g := gb340) (o := .cells #[.int .i64 t334, .int .i64 t335, .int .i64 t336, .bool t337, .int .i64 t338] 32 (0, 0)) (by exact BK340.out)) : gb347 ≠ gb340)); clear HO_33; clear HO_42; clear BK320; clear BK329; clear BK340; clear HB; have HO_33 := n0_; have HO_42 := n1_; have BK320 := n2_; have BK329 := n3_; have BK340 := n4_; have HB := n5_; have BK347 := n6_; have GW347 := n7_; have GE347 := n8_; have NB320_347 := n9_; have NB347_320 := n10_; have NB329_347 := n11_; have NB347_329 := n12_; have NB340_347 := n13_; have NB347_340 := n14_; clear n0_ n1_ n2_ n3_ n4_ n5_ n6_ n7_ n8_ n9_ n10_ n11_ n12_ n13_ n14_; clear hb hbox hg; have hnb58 := NB347_320.out; have hnc58 := NB320_347.out; have hnb59 := NB347_329.out; have hnc59 := NB329_347.out; have hnb60 := NB347_340.out; have hnc60 := NB340_347.out; have hcz61_0 : w57.cell? ⟨gb347, 0, none⟩ = some (.int .i64 0) := (blk_cell BK347.out 0).trans rfl; have hcz61_1 : w57.cell? ⟨gb347, 1, none⟩ = some (.int .i64 0) := (blk_cell BK347.out 1).trans rfl; have hcz61_2 : w57.cell? ⟨gb347, 2, none⟩ = some (.int .i64 0) := (blk_cell BK347.out 2).trans rfl; have hcz61_3 : w57.cell? ⟨gb347, 3, none⟩ = some (.bool false) := (blk_cell BK347.out 3).trans rfl; have hcz61_4 : w57.cell? ⟨gb347, 4, none⟩ = some (.int .i64 0) := (blk_cell BK347.out 4).trans rfl; have hfz61_0 := blk_frozen BK347.out 0; have hfz61_1 := blk_frozen BK347.out 1; have hfz61_2 := blk_frozen BK347.out 2; have hfz61_3 := blk_frozen BK347.out 3; have hfz61_4 := blk_frozen BK347.out 4; have hcz62_0 : w57.cell? ⟨gb340, 0, none⟩ = some (.int .i64 t334) := (blk_cell BK340.out 0).trans rfl; have hcz62_1 : w57.cell? ⟨gb340, 1, none⟩ = some (.int .i64 t335) := (blk_cell BK340.out 1).trans rfl; have hcz62_2 : w57.cell? ⟨gb340, 2, none⟩ = some (.int .i64 t336) := (blk_cell BK340.out 2).trans rfl; have hcz62_3 : w57.cell? ⟨gb340, 3, none⟩ = some (.bool t337) := (blk_cell BK340.out 3).trans rfl; have hcz62_4 : w57.cell? ⟨gb340, 4, none⟩ = some (.int .i64 t338) := (blk_cell BK340.out 4).trans rfl; have hfz62_0 := blk_frozen BK340.out 0; have hfz62_1 := blk_frozen BK340.out 1; have hfz62_2 := blk_frozen BK340.out 2; have hfz62_3 := blk_frozen BK340.out 3; have hfz62_4 := blk_frozen BK340.out 4) | ((with_reducible refine gate_callee (f := 13) rfl ?_); refine goesL_ (some 70) rfl rfl Try.func13 (by kernel_rfl) rfl #[.agg #[.int .i64 t334, .int .i64 t335, .int .i64 t336, .bool t337, .int .i64 t338], .bool t339, .agg #[.int .i64 t341, .int .i64 t342, .int .i64 t343, .bool t344, .int .i64 t345], .bool t346] rfl (by (try simp only [List.map_toArray, List.map_cons, List.map_nil]); first | done | rfl | (simp only [List.length_drop, List.length_take]; rfl)) ?_; (with_reducible refine (foolscaplaw8_same.calls t334 t335 t336 t337 t338 t339 t341 t342 t343 t344 t345 t346 true _ A34.out).mono ?_); rintro e w63 ⟨rfl, hb⟩; refine ⟨_, rfl, ?_⟩; have n0_ := Aside0.mk (Kd.R_below (by (with_reducible repeat (first | apply Kd.R_alloc | apply Kd.R_drewN | apply Kd.R_drew)); exact (Kd.R_mono (Kd.R_far (p := ⟨gb347, 4, none⟩) (Kd.R_far (p := ⟨gb347, 3, none⟩) (Kd.R_far (p := ⟨gb347, 2, none⟩) (Kd.R_far (p := ⟨gb347, 1, none⟩) (Kd.R_far (p := ⟨gb347, 0, none⟩) (Kd.R_types HO_33.out BK347.out (by decide)) (fun _ hk => hk.2) (.int .i64 t341)) (fun _ hk => hk.2) (.int .i64 t342)) (fun _ hk => hk.2) (.int .i64 t343)) (fun _ hk => hk.2) (.bool t344)) (fun _ hk => hk.2) (.int .i64 t345)) (fun _ h_ => h_.1))) hb); have n1_ := Aside0.mk (Kd.R_below (by (with_reducible repeat (first | apply Kd.R_alloc | apply Kd.R_drewN | apply Kd.R_drew)); exact (Kd.R_mono (Kd.R_far (p := ⟨gb347, 4, none⟩) (Kd.R_far (p := ⟨gb347, 3, none⟩) (Kd.R_far (p := ⟨gb347, 2, none⟩) (Kd.R_far (p := ⟨gb347, 1, none⟩) (Kd.R_far (p := ⟨gb347, 0, none⟩) (Kd.R_types HO_42.out BK347.out (by decide)) (fun _ hk => hk.2) (.int .i64 t341)) (fun _ hk => hk.2) (.int .i64 t342)) (fun _ hk => hk.2) (.int .i64 t343)) (fun _ hk => hk.2) (.bool t344)) (fun _ hk => hk.2) (.int .i64 t345)) (fun _ h_ => h_.1))) hb); have n2_ := Aside0.mk (blk_below (g := gb320) (o := .cells #[.int .i64 a1_0, .int .i64 a1_1] 24 (0, 0)) (by refine blk_far ?_ NB320_347.out _; refine blk_far ?_ NB320_347.out _; refine blk_far ?_ NB320_347.out _; refine blk_far ?_ NB320_347.out _; refine blk_far ?_ NB320_347.out _; exact BK320.out) hb); have n3_ := Aside0.mk (blk_below (g := gb329) (o := .cells #[.int .i64 ((rd_T24 y325 x35_1).f0), .int .i64 ((rd_T24 y325 x35_1).f1)] 24 (0, 0)) (by refine blk_far ?_ NB329_347.out _; refine blk_far ?_ NB329_347.out _; refine blk_far ?_ NB329_347.out _; refine blk_far ?_ NB329_347.out _; refine blk_far ?_ NB329_347.out _; exact BK329.out) hb); have n4_ := Aside0.mk (blk_below (g := gb340) (o := .cells #[.int .i64 t334, .int .i64 t335, .int .i64 t336, .bool t337, .int .i64 t338] 32 (0, 0)) (by refine blk_far ?_ NB340_347.out _; refine blk_far ?_ NB340_347.out _; refine blk_far ?_ NB340_347.out _; refine blk_far ?_ NB340_347.out _; refine blk_far ?_ NB340_347.out _; exact BK340.out) hb); have n5_ := Aside0.mk (blk_below (g := gb347) (o := .cells #[.int .i64 t341, .int .i64 t342, .int .i64 t343, .bool t344, .int .i64 t345] 32 (0, 0)) (by refine blk_put (cs := #[.int .i64 t341, .int .i64 t342, .int .i64 t343, .bool t344, .int .i64 0]) ?_ 4 _ rfl; refine blk_put (cs := #[.int .i64 t341, .int .i64 t342, .int .i64 t343, .bool false, .int .i64 0]) ?_ 3 _ rfl; refine blk_put (cs := #[.int .i64 t341, .int .i64 t342, .int .i64 0, .bool false, .int .i64 0]) ?_ 2 _ rfl; refine blk_put (cs := #[.int .i64 t341, .int .i64 0, .int .i64 0, .bool false, .int .i64 0]) ?_ 1 _ rfl; refine blk_put (cs := #[.int .i64 0, .int .i64 0, .int .i64 0, .bool false, .int .i64 0]) ?_ 0 _ rfl; exact BK347.out) hb); have n6_ := Aside0.mk (below_step (by repeat (first | (with_reducible first | exact HB.out | apply below_alloc | apply pw_below_drewN | apply below_drew1 | refine below_set ?_ GE320.out | refine below_set ?_ GE329.out | refine below_set ?_ GE340.out | refine below_set ?_ GE347.out) | exact HB.out)) hb); clear HO_33; clear HO_42; clear BK320; clear BK329; clear BK340; clear BK347; clear HB; have HO_33 := n0_; have HO_42 := n1_; have BK320 := n2_; have BK329 := n3_; have BK340 := n4_; have BK347 := n5_; have HB := n6_; clear n0_ n1_ n2_ n3_ n4_ n5_ n6_; (try clear hb); (try clear hb2); (try clear hk); (try clear hi); have hcz64_0 : w63.cell? ⟨gb329, 0, none⟩ = some (.int .i64 ((rd_T24 y325 x35_1).f0)) := (blk_cell BK329.out 0).trans rfl; have hcz64_1 : w63.cell? ⟨gb329, 1, none⟩ = some (.int .i64 ((rd_T24 y325 x35_1).f1)) := (blk_cell BK329.out 1).trans rfl; have hfz64_0 := blk_frozen BK329.out 0; have hfz64_1 := blk_frozen BK329.out 1) | ((with_reducible refine gate_callee (f := 14) rfl ?_); refine goesL_ (some 77) rfl rfl Try.func14 (by kernel_rfl) rfl #[.slice A0 l0.length c0, .agg #[.int .i64 ((rd_T24 y325 x35_1).f0), .int .i64 ((rd_T24 y325 x35_1).f1)], .int .i64 (rd y330 x44_2), .bool a5] rfl (by (try simp only [List.map_toArray, List.map_cons, List.map_nil]); first | done | rfl | (simp only [List.length_drop, List.length_take]; rfl)) ?_; (with_reducible refine (words_Back.calls _ _ l0 ((rd_T24 y325 x35_1).f0) ((rd_T24 y325 x35_1).f1) (rd y330 x44_2) a5 t349 t350 t351 t352 t353 t354 _ ?side1 ?side2 A36.out).mono ?_); (case side1 => repeat (first | exact (Kd.C_below HR0.out HB.out) | (with_reducible refine Kd.C_alloc ?_ _) | (with_reducible refine Kd.C_drewN ?_ _) | (with_reducible refine Kd.C_drew ?_))); (case side2 => exact HC0.out); rintro e w65 ⟨rfl, hb⟩; refine ⟨_, rfl, ?_⟩; have n0_ := Aside0.mk (Kd.R_below (by (with_reducible repeat (first | apply Kd.R_alloc | apply Kd.R_drewN | apply Kd.R_drew)); exact HO_33.out) hb); have n1_ := Aside0.mk (Kd.R_below (by (with_reducible repeat (first | apply Kd.R_alloc | apply Kd.R_drewN | apply Kd.R_drew)); exact HO_42.out) hb); have n2_ := Aside0.mk (blk_below (g := gb320) (o := .cells #[.int .i64 a1_0, .int .i64 a1_1] 24 (0, 0)) (by exact BK320.out) hb); have n3_ := Aside0.mk (blk_below (g := gb329) (o := .cells #[.int .i64 ((rd_T24 y325 x35_1).f0), .int .i64 ((rd_T24 y325 x35_1).f1)] 24 (0, 0)) (by exact BK329.out) hb); have n4_ := Aside0.mk (blk_below (g := gb340) (o := .cells #[.int .i64 t334, .int .i64 t335, .int .i64 t336, .bool t337, .int .i64 t338] 32 (0, 0)) (by exact BK340.out) hb); have n5_ := Aside0.mk (blk_below (g := gb347) (o := .cells #[.int .i64 t341, .int .i64 t342, .int .i64 t343, .bool t344, .int .i64 t345] 32 (0, 0)) (by exact BK347.out) hb); have n6_ := Aside0.mk (below_step (by repeat (first | (with_reducible first | exact HB.out | apply below_alloc | apply pw_below_drewN | apply below_drew1 | refine below_set ?_ GE320.out | refine below_set ?_ GE329.out | refine below_set ?_ GE340.out | refine below_set ?_ GE347.out) | exact HB.out)) hb); clear HO_33; clear HO_42; clear BK320; clear BK329; clear BK340; clear BK347; clear HB; have HO_33 := n0_; have HO_42 := n1_; have BK320 := n2_; have BK329 := n3_; have BK340 := n4_; have BK347 := n5_; have HB := n6_; clear n0_ n1_ n2_ n3_ n4_ n5_ n6_; (try clear hb); (try clear hb2); (try clear hk); (try clear hi); have hcz66_0 : w65.cell? ⟨gb340, 0, none⟩ = some (.int .i64 t334) := (blk_cell BK340.out 0).trans rfl; have hcz66_1 : w65.cell? ⟨gb340, 1, none⟩ = some (.int .i64 t335) := (blk_cell BK340.out 1).trans rfl; have hcz66_2 : w65.cell? ⟨gb340, 2, none⟩ = some (.int .i64 t336) := (blk_cell BK340.out 2).trans rfl; have hcz66_3 : w65.cell? ⟨gb340, 3, none⟩ = some (.bool t337) := (blk_cell BK340.out 3).trans rfl; have hcz66_4 : w65.cell? ⟨gb340, 4, none⟩ = some (.int .i64 t338) := (blk_cell BK340.out 4).trans rfl; have hfz66_0 := blk_frozen BK340.out 0; have hfz66_1 := blk_frozen BK340.out 1; have hfz66_2 := blk_frozen BK340.out 2; have hfz66_3 := blk_frozen BK340.out 3; have hfz66_4 := blk_frozen BK340.out 4; have hcz67_0 : w65.cell? ⟨gb329, 0, none⟩ = some (.int .i64 ((rd_T24 y325 x35_1).f0)) := (blk_cell BK329.out 0).trans rfl; have hcz67_1 : w65.cell? ⟨gb329, 1, none⟩ = some (.int .i64 ((rd_T24 y325 x35_1).f1)) := (blk_cell BK329.out 1).trans rfl; have hfz67_0 := blk_frozen BK329.out 0; have hfz67_1 := blk_frozen BK329.out 1) | ((with_reducible refine gate_callee (f := 15) rfl ?_); refine goesL_ (some 85) rfl rfl Try.func15 (by kernel_rfl) rfl #[.slice A0 l0.length c0, .agg #[.int .i64 ((rd_T24 y325 x35_1).f0), .int .i64 ((rd_T24 y325 x35_1).f1)], .int .i64 (rd y330 x44_2), .bool a5] rfl (by (try simp only [List.map_toArray, List.map_cons, List.map_nil]); first | done | rfl | (simp only [List.length_drop, List.length_take]; rfl)) ?_; (with_reducible refine (foolscapref5_Back.calls k2 _ _ l0 ((rd_T24 y325 x35_1).f0) ((rd_T24 y325 x35_1).f1) (rd y330 x44_2) a5 t355 t356 t357 t358 t359 t360 _ ?side1 ?side2 A37.out).mono ?_); (case side1 => exact Kd.C_below HR0.out (by repeat (first | (with_reducible first | exact HB.out | apply below_alloc | apply pw_below_drewN | apply below_drew1 | refine below_set ?_ GE320.out | refine below_set ?_ GE329.out | refine below_set ?_ GE340.out | refine below_set ?_ GE347.out) | exact HB.out))); (case side2 => exact HC0.out); rintro e w68 ⟨rfl, hb⟩; refine ⟨_, rfl, ?_⟩; have n0_ := Aside0.mk (Kd.R_below (by (with_reducible repeat (first | apply Kd.R_alloc | apply Kd.R_drewN | apply Kd.R_drew)); exact (Kd.R_mono (Kd.R_far (p := ⟨gb340, 4, none⟩) (Kd.R_far (p := ⟨gb340, 3, none⟩) (Kd.R_far (p := ⟨gb340, 2, none⟩) (Kd.R_far (p := ⟨gb340, 1, none⟩) (Kd.R_far (p := ⟨gb340, 0, none⟩) (Kd.R_types HO_33.out BK340.out (by decide)) (fun _ hk => hk.2) (.int .i64 t349)) (fun _ hk => hk.2) (.int .i64 t350)) (fun _ hk => hk.2) (.int .i64 t351)) (fun _ hk => hk.2) (.bool t352)) (fun _ hk => hk.2) (.int .i64 t353)) (fun _ h_ => h_.1))) hb); have n1_ := Aside0.mk (Kd.R_below (by (with_reducible repeat (first | apply Kd.R_alloc | apply Kd.R_drewN | apply Kd.R_drew)); exact (Kd.R_mono (Kd.R_far (p := ⟨gb340, 4, none⟩) (Kd.R_far (p := ⟨gb340, 3, none⟩) (Kd.R_far (p := ⟨gb340, 2, none⟩) (Kd.R_far (p := ⟨gb340, 1, none⟩) (Kd.R_far (p := ⟨gb340, 0, none⟩) (Kd.R_types HO_42.out BK340.out (by decide)) (fun _ hk => hk.2) (.int .i64 t349)) (fun _ hk => hk.2) (.int .i64 t350)) (fun _ hk => hk.2) (.int .i64 t351)) (fun _ hk => hk.2) (.bool t352)) (fun _ hk => hk.2) (.int .i64 t353)) (fun _ h_ => h_.1))) hb); have n2_ := Aside0.mk (blk_below (g := gb320) (o := .cells #[.int .i64 a1_0, .int .i64 a1_1] 24 (0, 0)) (by refine blk_far ?_ NB320_340.out _; refine blk_far ?_ NB320_340.out _; refine blk_far ?_ NB320_340.out _; refine blk_far ?_ NB320_340.out _; refine blk_far ?_ NB320_340.out _; exact BK320.out) hb); have n3_ := Aside0.mk (blk_below (g := gb329) (o := .cells #[.int .i64 ((rd_T24 y325 x35_1).f0), .int .i64 ((rd_T24 y325 x35_1).f1)] 24 (0, 0)) (by refine blk_far ?_ NB329_340.out _; refine blk_far ?_ NB329_340.out _; refine blk_far ?_ NB329_340.out _; refine blk_far ?_ NB329_340.out _; refine blk_far ?_ NB329_340.out _; exact BK329.out) hb); have n4_ := Aside0.mk (blk_below (g := gb340) (o := .cells #[.int .i64 t349, .int .i64 t350, .int .i64 t351, .bool t352, .int .i64 t353] 32 (0, 0)) (by refine blk_put (cs := #[.int .i64 t349, .int .i64 t350, .int .i64 t351, .bool t352, .int .i64 t338]) ?_ 4 _ rfl; refine blk_put (cs := #[.int .i64 t349, .int .i64 t350, .int .i64 t351, .bool t337, .int .i64 t338]) ?_ 3 _ rfl; refine blk_put (cs := #[.int .i64 t349, .int .i64 t350, .int .i64 t336, .bool t337, .int .i64 t338]) ?_ 2 _ rfl; refine blk_put (cs := #[.int .i64 t349, .int .i64 t335, .int .i64 t336, .bool t337, .int .i64 t338]) ?_ 1 _ rfl; refine blk_put (cs := #[.int .i64 t334, .int .i64 t335, .int .i64 t336, .bool t337, .int .i64 t338]) ?_ 0 _ rfl; exact BK340.out) hb); have n5_ := Aside0.mk (blk_below (g := gb347) (o := .cells #[.int .i64 t341, .int .i64 t342, .int .i64 t343, .bool t344, .int .i64 t345] 32 (0, 0)) (by refine blk_far ?_ NB347_340.out _; refine blk_far ?_ NB347_340.out _; refine blk_far ?_ NB347_340.out _; refine blk_far ?_ NB347_340.out _; refine blk_far ?_ NB347_340.out _; exact BK347.out) hb); have n6_ := Aside0.mk (below_step (by repeat (first | (with_reducible first | exact HB.out | apply below_alloc | apply pw_below_drewN | apply below_drew1 | refine below_set ?_ GE320.out | refine below_set ?_ GE329.out | refine below_set ?_ GE340.out | refine below_set ?_ GE347.out) | exact HB.out)) hb); clear HO_33; clear HO_42; clear BK320; clear BK329; clear BK340; clear BK347; clear HB; have HO_33 := n0_; have HO_42 := n1_; have BK320 := n2_; have BK329 := n3_; have BK340 := n4_; have BK347 := n5_; have HB := n6_; clear n0_ n1_ n2_ n3_ n4_ n5_ n6_; (try clear hb); (try clear hb2); (try clear hk); (try clear hi); have hcz69_0 : w68.cell? ⟨gb347, 0, none⟩ = some (.int .i64 t341) := (blk_cell BK347.out 0).trans rfl; have hcz69_1 : w68.cell? ⟨gb347, 1, none⟩ = some (.int .i64 t342) := (blk_cell BK347.out 1).trans rfl; have hcz69_2 : w68.cell? ⟨gb347, 2, none⟩ = some (.int .i64 t343) := (blk_cell BK347.out 2).trans rfl; have hcz69_3 : w68.cell? ⟨gb347, 3, none⟩ = some (.bool t344) := (blk_cell BK347.out 3).trans rfl; have hcz69_4 : w68.cell? ⟨gb347, 4, none⟩ = some (.int .i64 t345) := (blk_cell BK347.out 4).trans rfl; have hfz69_0 := blk_frozen BK347.out 0; have hfz69_1 := blk_frozen BK347.out 1; have hfz69_2 := blk_frozen BK347.out 2; have hfz69_3 := blk_frozen BK347.out 3; have hfz69_4 := blk_frozen BK347.out 4; have hcz70_0 : w68.cell? ⟨gb340, 0, none⟩ = some (.int .i64 t349) := (blk_cell BK340.out 0).trans rfl; have hcz70_1 : w68.cell? ⟨gb340, 1, none⟩ = some (.int .i64 t350) := (blk_cell BK340.out 1).trans rfl; have hcz70_2 : w68.cell? ⟨gb340, 2, none⟩ = some (.int .i64 t351) := (blk_cell BK340.out 2).trans rfl; have hcz70_3 : w68.cell? ⟨gb340, 3, none⟩ = some (.bool t352) := (blk_cell BK340.out 3).trans rfl; have hcz70_4 : w68.cell? ⟨gb340, 4, none⟩ = some (.int .i64 t353) := (blk_cell BK340.out 4).trans rfl; have hfz70_0 := blk_frozen BK340.out 0; have hfz70_1 := blk_frozen BK340.out 1; have hfz70_2 := blk_frozen BK340.out 2; have hfz70_3 := blk_frozen BK340.out 3; have hfz70_4 := blk_frozen BK340.out 4) | ((with_reducible refine gate_callee (f := 13) rfl ?_); refine goesL_ (some 92) rfl rfl Try.func13 (by kernel_rfl) rfl #[.agg #[.int .i64 t349, .int .i64 t350, .int .i64 t351, .bool t352, .int .i64 t353], .bool t354, .agg #[.int .i64 t355, .int .i64 t356, .int .i64 t357, .bool t358, .int .i64 t359], .bool t360] rfl (by (try simp only [List.map_toArray, List.map_cons, List.map_nil]); first | done | rfl | (simp only [List.length_drop, List.length_take]; rfl)) ?_; (with_reducible refine (foolscaplaw8_same.calls t349 t350 t351 t352 t353 t354 t355 t356 t357 t358 t359 t360 true _ A38.out).mono ?_); rintro e w71 ⟨rfl, hb⟩; refine ⟨_, rfl, ?_⟩; have n0_ := Aside0.mk (Kd.R_below (by (with_reducible repeat (first | apply Kd.R_alloc | apply Kd.R_drewN | apply Kd.R_drew)); exact (Kd.R_mono (Kd.R_far (p := ⟨gb347, 4, none⟩) (Kd.R_far (p := ⟨gb347, 3, none⟩) (Kd.R_far (p := ⟨gb347, 2, none⟩) (Kd.R_far (p := ⟨gb347, 1, none⟩) (Kd.R_far (p := ⟨gb347, 0, none⟩) (Kd.R_types HO_33.out BK347.out (by decide)) (fun _ hk => hk.2) (.int .i64 t355)) (fun _ hk => hk.2) (.int .i64 t356)) (fun _ hk => hk.2) (.int .i64 t357)) (fun _ hk => hk.2) (.bool t358)) (fun _ hk => hk.2) (.int .i64 t359)) (fun _ h_ => h_.1))) hb); have n1_ := Aside0.mk (Kd.R_below (by (with_reducible repeat (first | apply Kd.R_alloc | apply Kd.R_drewN | apply Kd.R_drew)); exact (Kd.R_mono (Kd.R_far (p := ⟨gb347, 4, none⟩) (Kd.R_far (p := ⟨gb347, 3, none⟩) (Kd.R_far (p := ⟨gb347, 2, none⟩) (Kd.R_far (p := ⟨gb347, 1, none⟩) (Kd.R_far (p := ⟨gb347, 0, none⟩) (Kd.R_types HO_42.out BK347.out (by decide)) (fun _ hk => hk.2) (.int .i64 t355)) (fun _ hk => hk.2) (.int .i64 t356)) (fun _ hk => hk.2) (.int .i64 t357)) (fun _ hk => hk.2) (.bool t358)) (fun _ hk => hk.2) (.int .i64 t359)) (fun _ h_ => h_.1))) hb); have n2_ := Aside0.mk (blk_below (g := gb320) (o := .cells #[.int .i64 a1_0, .int .i64 a1_1] 24 (0, 0)) (by refine blk_far ?_ NB320_347.out _; refine blk_far ?_ NB320_347.out _; refine blk_far ?_ NB320_347.out _; refine blk_far ?_ NB320_347.out _; refine blk_far ?_ NB320_347.out _; exact BK320.out) hb); have n3_ := Aside0.mk (blk_below (g := gb329) (o := .cells #[.int .i64 ((rd_T24 y325 x35_1).f0), .int .i64 ((rd_T24 y325 x35_1).f1)] 24 (0, 0)) (by refine blk_far ?_ NB329_347.out _; refine blk_far ?_ NB329_347.out _; refine blk_far ?_ NB329_347.out _; refine blk_far ?_ NB329_347.out _; refine blk_far ?_ NB329_347.out _; exact BK329.out) hb); have n4_ := Aside0.mk (blk_below (g := gb340) (o := .cells #[.int .i64 t349, .int .i64 t350, .int .i64 t351, .bool t352, .int .i64 t353] 32 (0, 0)) (by refine blk_far ?_ NB340_347.out _; refine blk_far ?_ NB340_347.out _; refine blk_far ?_ NB340_347.out _; refine blk_far ?_ NB340_347.out _; refine blk_far ?_ NB340_347.out _; exact BK340.out) hb); have n5_ := Aside0.mk (blk_below (g := gb347) (o := .cells #[.int .i64 t355, .int .i64 t356, .int .i64 t357, .bool t358, .int .i64 t359] 32 (0, 0)) (by refine blk_put (cs := #[.int .i64 t355, .int .i64 t356, .int .i64 t357, .bool t358, .int .i64 t345]) ?_ 4 _ rfl; refine blk_put (cs := #[.int .i64 t355, .int .i64 t356, .int .i64 t357, .bool t344, .int .i64 t345]) ?_ 3 _ rfl; refine blk_put (cs := #[.int .i64 t355, .int .i64 t356, .int .i64 t343, .bool t344, .int .i64 t345]) ?_ 2 _ rfl; refine blk_put (cs := #[.int .i64 t355, .int .i64 t342, .int .i64 t343, .bool t344, .int .i64 t345]) ?_ 1 _ rfl; refine blk_put (cs := #[.int .i64 t341, .int .i64 t342, .int .i64 t343, .bool t344, .int .i64 t345]) ?_ 0 _ rfl; exact BK347.out) hb); have n6_ := Aside0.mk (below_step (by repeat (first | (with_reducible first | exact HB.out | apply below_alloc | apply pw_below_drewN | apply below_drew1 | refine below_set ?_ GE320.out | refine below_set ?_ GE329.out | refine below_set ?_ GE340.out | refine below_set ?_ GE347.out) | exact HB.out)) hb); clear HO_33; clear HO_42; clear BK320; clear BK329; clear BK340; clear BK347; clear HB; have HO_33 := n0_; have HO_42 := n1_; have BK320 := n2_; have BK329 := n3_; have BK340 := n4_; have BK347 := n5_; have HB := n6_; clear n0_ n1_ n2_ n3_ n4_ n5_ n6_; (try clear hb); (try clear hb2); (try clear hk); (try clear hi); have hcz72_0 : w71.cell? ⟨gb329, 0, none⟩ = some (.int .i64 ((rd_T24 y325 x35_1).f0)) := (blk_cell BK329.out 0).trans rfl; have hcz72_1 : w71.cell? ⟨gb329, 1, none⟩ = some (.int .i64 ((rd_T24 y325 x35_1).f1)) := (blk_cell BK329.out 1).trans rfl; have hfz72_0 := blk_frozen BK329.out 0; have hfz72_1 := blk_frozen BK329.out 1) | ((with_reducible refine gate_callee (f := 16) rfl ?_); refine goesL_ (some 100) rfl rfl Try.func16 (by kernel_rfl) rfl #[.slice A0 l0.length c0, .agg #[.int .i64 ((rd_T24 y325 x35_1).f0), .int .i64 ((rd_T24 y325 x35_1).f1)], .int .i64 (rd y330 x44_2), .bool a5, .bool a6] rfl (by (try simp only [List.map_toArray, List.map_cons, List.map_nil]); first | done | rfl | (simp only [List.length_drop, List.length_take]; rfl)) ?_; (with_reducible refine (words_Tail.calls _ _ l0 ((rd_T24 y325 x35_1).f0) ((rd_T24 y325 x35_1).f1) (rd y330 x44_2) a5 a6 t362 t363 t364 t365 t366 t367 _ ?side1 ?side2 A40.out).mono ?_); (case side1 => repeat (first | exact (Kd.C_below HR0.out HB.out) | (with_reducible refine Kd.C_alloc ?_ _) | (with_reducible refine Kd.C_drewN ?_ _) | (with_reducible refine Kd.C_drew ?_))); (case side2 => exact HC0.out); rintro e w73 ⟨rfl, hb⟩; refine ⟨_, rfl, ?_⟩; have n0_ := Aside0.mk (Kd.R_below (by (with_reducible repeat (first | apply Kd.R_alloc | apply Kd.R_drewN | apply Kd.R_drew)); exact HO_33.out) hb); have n1_ := Aside0.mk (Kd.R_below (by (with_reducible repeat (first | apply Kd.R_alloc | apply Kd.R_drewN | apply Kd.R_drew)); exact HO_42.out) hb); have n2_ := Aside0.mk (blk_below (g := gb320) (o := .cells #[.int .i64 a1_0, .int .i64 a1_1] 24 (0, 0)) (by exact BK320.out) hb); have n3_ := Aside0.mk (blk_below (g := gb329) (o := .cells #[.int .i64 ((rd_T24 y325 x35_1).f0), .int .i64 ((rd_T24 y325 x35_1).f1)] 24 (0, 0)) (by exact BK329.out) hb); have n4_ := Aside0.mk (blk_below (g := gb340) (o := .cells #[.int .i64 t349, .int .i64 t350, .int .i64 t351, .bool t352, .int .i64 t353] 32 (0, 0)) (by exact BK340.out) hb); have n5_ := Aside0.mk (blk_below (g := gb347) (o := .cells #[.int .i64 t355, .int .i64 t356, .int .i64 t357, .bool t358, .int .i64 t359] 32 (0, 0)) (by exact BK347.out) hb); have n6_ := Aside0.mk (below_step (by repeat (first | (with_reducible first | exact HB.out | apply below_alloc | apply pw_below_drewN | apply below_drew1 | refine below_set ?_ GE320.out | refine below_set ?_ GE329.out | refine below_set ?_ GE340.out | refine below_set ?_ GE347.out) | exact HB.out)) hb); clear HO_33; clear HO_42; clear BK320; clear BK329; clear BK340; clear BK347; clear HB; have HO_33 := n0_; have HO_42 := n1_; have BK320 := n2_; have BK329 := n3_; have BK340 := n4_; have BK347 := n5_; have HB := n6_; clear n0_ n1_ n2_ n3_ n4_ n5_ n6_; (try clear hb); (try clear hb2); (try clear hk); (try clear hi); have hcz74_0 : w73.cell? ⟨gb340, 0, none⟩ = some (.int .i64 t349) := (blk_cell BK340.out 0).trans rfl; have hcz74_1 : w73.cell? ⟨gb340, 1, none⟩ = some (.int .i64 t350) := (blk_cell BK340.out 1).trans rfl; have hcz74_2 : w73.cell? ⟨gb340, 2, none⟩ = some (.int .i64 t351) := (blk_cell BK340.out 2).trans rfl; have hcz74_3 : w73.cell? ⟨gb340, 3, none⟩ = some (.bool t352) := (blk_cell BK340.out 3).trans rfl; have hcz74_4 : w73.cell? ⟨gb340, 4, none⟩ = some (.int .i64 t353) := (blk_cell BK340.out 4).trans rfl; have hfz74_0 := blk_frozen BK340.out 0; have hfz74_1 := blk_frozen BK340.out 1; have hfz74_2 := blk_frozen BK340.out 2; have hfz74_3 := blk_frozen BK340.out 3; have hfz74_4 := blk_frozen BK340.out 4; have hcz75_0 : w73.cell? ⟨gb329, 0, none⟩ = some (.int .i64 ((rd_T24 y325 x35_1).f0)) := (blk_cell BK329.out 0).trans rfl; have hcz75_1 : w73.cell? ⟨gb329, 1, none⟩ = some (.int .i64 ((rd_T24 y325 x35_1).f1)) := (blk_cell BK329.out 1).trans rfl; have hfz75_0 := blk_frozen BK329.out 0; have hfz75_1 := blk_frozen BK329.out 1) | ((with_reducible refine gate_callee (f := 17) rfl ?_); refine goesL_ (some 109) rfl rfl Try.func17 (by kernel_rfl) rfl #[.slice A0 l0.length c0, .agg #[.int .i64 ((rd_T24 y325 x35_1).f0), .int .i64 ((rd_T24 y325 x35_1).f1)], .int .i64 (rd y330 x44_2), .bool a5, .bool a6] rfl (by (try simp only [List.map_toArray, List.map_cons, List.map_nil]); first | done | rfl | (simp only [List.length_drop, List.length_take]; rfl)) ?_; (with_reducible refine (foolscapref5_Tail.calls k2 _ _ l0 ((rd_T24 y325 x35_1).f0) ((rd_T24 y325 x35_1).f1) (rd y330 x44_2) a5 a6 t368 t369 t370 t371 t372 t373 _ ?side1 ?side2 A41.out).mono ?_); (case side1 => exact Kd.C_below HR0.out (by repeat (first | (with_reducible first | exact HB.out | apply below_alloc | apply pw_below_drewN | apply below_drew1 | refine below_set ?_ GE320.out | refine below_set ?_ GE329.out | refine below_set ?_ GE340.out | refine below_set ?_ GE347.out) | exact HB.out))); (case side2 => exact HC0.out); rintro e w76 ⟨rfl, hb⟩; refine ⟨_, rfl, ?_⟩; have n0_ := Aside0.mk (Kd.R_below (by (with_reducible repeat (first | apply Kd.R_alloc | apply Kd.R_drewN | apply Kd.R_drew)); exact (Kd.R_mono (Kd.R_far (p := ⟨gb340, 4, none⟩) (Kd.R_far (p := ⟨gb340, 3, none⟩) (Kd.R_far (p := ⟨gb340, 2, none⟩) (Kd.R_far (p := ⟨gb340, 1, none⟩) (Kd.R_far (p := ⟨gb340, 0, none⟩) (Kd.R_types HO_33.out BK340.out (by decide)) (fun _ hk => hk.2) (.int .i64 t362)) (fun _ hk => hk.2) (.int .i64 t363)) (fun _ hk => hk.2) (.int .i64 t364)) (fun _ hk => hk.2) (.bool t365)) (fun _ hk => hk.2) (.int .i64 t366)) (fun _ h_ => h_.1))) hb); have n1_ := Aside0.mk (Kd.R_below (by (with_reducible repeat (first | apply Kd.R_alloc | apply Kd.R_drewN | apply Kd.R_drew)); exact (Kd.R_mono (Kd.R_far (p := ⟨gb340, 4, none⟩) (Kd.R_far (p := ⟨gb340, 3, none⟩) (Kd.R_far (p := ⟨gb340, 2, none⟩) (Kd.R_far (p := ⟨gb340, 1, none⟩) (Kd.R_far (p := ⟨gb340, 0, none⟩) (Kd.R_types HO_42.out BK340.out (by decide)) (fun _ hk => hk.2) (.int .i64 t362)) (fun _ hk => hk.2) (.int .i64 t363)) (fun _ hk => hk.2) (.int .i64 t364)) (fun _ hk => hk.2) (.bool t365)) (fun _ hk => hk.2) (.int .i64 t366)) (fun _ h_ => h_.1))) hb); have n2_ := Aside0.mk (blk_below (g := gb320) (o := .cells #[.int .i64 a1_0, .int .i64 a1_1] 24 (0, 0)) (by refine blk_far ?_ NB320_340.out _; refine blk_far ?_ NB320_340.out _; refine blk_far ?_ NB320_340.out _; refine blk_far ?_ NB320_340.out _; refine blk_far ?_ NB320_340.out _; exact BK320.out) hb); have n3_ := Aside0.mk (blk_below (g := gb329) (o := .cells #[.int .i64 ((rd_T24 y325 x35_1).f0), .int .i64 ((rd_T24 y325 x35_1).f1)] 24 (0, 0)) (by refine blk_far ?_ NB329_340.out _; refine blk_far ?_ NB329_340.out _; refine blk_far ?_ NB329_340.out _; refine blk_far ?_ NB329_340.out _; refine blk_far ?_ NB329_340.out _; exact BK329.out) hb); have n4_ := Aside0.mk (blk_below (g := gb340) (o := .cells #[.int .i64 t362, .int .i64 t363, .int .i64 t364, .bool t365, .int .i64 t366] 32 (0, 0)) (by refine blk_put (cs := #[.int .i64 t362, .int .i64 t363, .int .i64 t364, .bool t365, .int .i64 t353]) ?_ 4 _ rfl; refine blk_put (cs := #[.int .i64 t362, .int .i64 t363, .int .i64 t364, .bool t352, .int .i64 t353]) ?_ 3 _ rfl; refine blk_put (cs := #[.int .i64 t362, .int .i64 t363, .int .i64 t351, .bool t352, .int .i64 t353]) ?_ 2 _ rfl; refine blk_put (cs := #[.int .i64 t362, .int .i64 t350, .int .i64 t351, .bool t352, .int .i64 t353]) ?_ 1 _ rfl; refine blk_put (cs := #[.int .i64 t349, .int .i64 t350, .int .i64 t351, .bool t352, .int .i64 t353]) ?_ 0 _ rfl; exact BK340.out) hb); have n5_ := Aside0.mk (blk_below (g := gb347) (o := .cells #[.int .i64 t355, .int .i64 t356, .int .i64 t357, .bool t358, .int .i64 t359] 32 (0, 0)) (by refine blk_far ?_ NB347_340.out _; refine blk_far ?_ NB347_340.out _; refine blk_far ?_ NB347_340.out _; refine blk_far ?_ NB347_340.out _; refine blk_far ?_ NB347_340.out _; exact BK347.out) hb); have n6_ := Aside0.mk (below_step (by repeat (first | (with_reducible first | exact HB.out | apply below_alloc | apply pw_below_drewN | apply below_drew1 | refine below_set ?_ GE320.out | refine below_set ?_ GE329.out | refine below_set ?_ GE340.out | refine below_set ?_ GE347.out) | exact HB.out)) hb); clear HO_33; clear HO_42; clear BK320; clear BK329; clear BK340; clear BK347; clear HB; have HO_33 := n0_; have HO_42 := n1_; have BK320 := n2_; have BK329 := n3_; have BK340 := n4_; have BK347 := n5_; have HB := n6_; clear n0_ n1_ n2_ n3_ n4_ n5_ n6_; (try clear hb); (try clear hb2); (try clear hk); (try clear hi); have hcz77_0 : w76.cell? ⟨gb347, 0, none⟩ = some (.int .i64 t355) := (blk_cell BK347.out 0).trans rfl; have hcz77_1 : w76.cell? ⟨gb347, 1, none⟩ = some (.int .i64 t356) := (blk_cell BK347.out 1).trans rfl; have hcz77_2 : w76.cell? ⟨gb347, 2, none⟩ = some (.int .i64 t357) := (blk_cell BK347.out 2).trans rfl; have hcz77_3 : w76.cell? ⟨gb347, 3, none⟩ = some (.bool t358) := (blk_cell BK347.out 3).trans rfl; have hcz77_4 : w76.cell? ⟨gb347, 4, none⟩ = some (.int .i64 t359) := (blk_cell BK347.out 4).trans rfl; have hfz77_0 := blk_frozen BK347.out 0; have hfz77_1 := blk_frozen BK347.out 1; have hfz77_2 := blk_frozen BK347.out 2; have hfz77_3 := blk_frozen BK347.out 3; have hfz77_4 := blk_frozen BK347.out 4; have hcz78_0 : w76.cell? ⟨gb340, 0, none⟩ = some (.int .i64 t362) := (blk_cell BK340.out 0).trans rfl; have hcz78_1 : w76.cell? ⟨gb340, 1, none⟩ = some (.int .i64 t363) := (blk_cell BK340.out 1).trans rfl; have hcz78_2 : w76.cell? ⟨gb340, 2, none⟩ = some (.int .i64 t364) := (blk_cell BK340.out 2).trans rfl; have hcz78_3 : w76.cell? ⟨gb340, 3, none⟩ = some (.bool t365) := (blk_cell BK340.out 3).trans rfl; have hcz78_4 : w76.cell? ⟨gb340, 4, none⟩ = some (.int .i64 t366) := (blk_cell BK340.out 4).trans rfl; have hfz78_0 := blk_frozen BK340.out 0; have hfz78_1 := blk_frozen BK340.out 1; have hfz78_2 := blk_frozen BK340.out 2; have hfz78_3 := blk_frozen BK340.out 3; have hfz78_4 := blk_frozen BK340.out 4) | ((with_reducible refine gate_callee (f := 13) rfl ?_); refine goesL_ (some 116) rfl rfl Try.func13 (by kernel_rfl) rfl #[.agg #[.int .i64 t362, .int .i64 t363, .int .i64 t364, .bool t365, .int .i64 t366], .bool t367, .agg #[.int .i64 t368, .int .i64 t369, .int .i64 t370, .bool t371, .int .i64 t372], .bool t373] rfl (by (try simp only [List.map_toArray, List.map_cons, List.map_nil]); first | done | rfl | (simp only [List.length_drop, List.length_take]; rfl)) ?_; (with_reducible refine (foolscaplaw8_same.calls t362 t363 t364 t365 t366 t367 t368 t369 t370 t371 t372 t373 true _ A42.out).mono ?_); rintro e w79 ⟨rfl, hb⟩; refine ⟨_, rfl, ?_⟩; have n0_ := Aside0.mk (Kd.R_below (by (with_reducible repeat (first | apply Kd.R_alloc | apply Kd.R_drewN | apply Kd.R_drew)); exact (Kd.R_mono (Kd.R_far (p := ⟨gb347, 4, none⟩) (Kd.R_far (p := ⟨gb347, 3, none⟩) (Kd.R_far (p := ⟨gb347, 2, none⟩) (Kd.R_far (p := ⟨gb347, 1, none⟩) (Kd.R_far (p := ⟨gb347, 0, none⟩) (Kd.R_types HO_33.out BK347.out (by decide)) (fun _ hk => hk.2) (.int .i64 t368)) (fun _ hk => hk.2) (.int .i64 t369)) (fun _ hk => hk.2) (.int .i64 t370)) (fun _ hk => hk.2) (.bool t371)) (fun _ hk => hk.2) (.int .i64 t372)) (fun _ h_ => h_.1))) hb); have n1_ := Aside0.mk (Kd.R_below (by (with_reducible repeat (first | apply Kd.R_alloc | apply Kd.R_drewN | apply Kd.R_drew)); exact (Kd.R_mono (Kd.R_far (p := ⟨gb347, 4, none⟩) (Kd.R_far (p := ⟨gb347, 3, none⟩) (Kd.R_far (p := ⟨gb347, 2, none⟩) (Kd.R_far (p := ⟨gb347, 1, none⟩) (Kd.R_far (p := ⟨gb347, 0, none⟩) (Kd.R_types HO_42.out BK347.out (by decide)) (fun _ hk => hk.2) (.int .i64 t368)) (fun _ hk => hk.2) (.int .i64 t369)) (fun _ hk => hk.2) (.int .i64 t370)) (fun _ hk => hk.2) (.bool t371)) (fun _ hk => hk.2) (.int .i64 t372)) (fun _ h_ => h_.1))) hb); have n2_ := Aside0.mk (blk_below (g := gb320) (o := .cells #[.int .i64 a1_0, .int .i64 a1_1] 24 (0, 0)) (by refine blk_far ?_ NB320_347.out _; refine blk_far ?_ NB320_347.out _; refine blk_far ?_ NB320_347.out _; refine blk_far ?_ NB320_347.out _; refine blk_far ?_ NB320_347.out _; exact BK320.out) hb); have n3_ := Aside0.mk (blk_below (g := gb329) (o := .cells #[.int .i64 ((rd_T24 y325 x35_1).f0), .int .i64 ((rd_T24 y325 x35_1).f1)] 24 (0, 0)) (by refine blk_far ?_ NB329_347.out _; refine blk_far ?_ NB329_347.out _; refine blk_far ?_ NB329_347.out _; refine blk_far ?_ NB329_347.out _; refine blk_far ?_ NB329_347.out _; exact BK329.out) hb); have n4_ := Aside0.mk (blk_below (g := gb340) (o := .cells #[.int .i64 t362, .int .i64 t363, .int .i64 t364, .bool t365, .int .i64 t366] 32 (0, 0)) (by refine blk_far ?_ NB340_347.out _; refine blk_far ?_ NB340_347.out _; refine blk_far ?_ NB340_347.out _; refine blk_far ?_ NB340_347.out _; refine blk_far ?_ NB340_347.out _; exact BK340.out) hb); have n5_ := Aside0.mk (blk_below (g := gb347) (o := .cells #[.int .i64 t368, .int .i64 t369, .int .i64 t370, .bool t371, .int .i64 t372] 32 (0, 0)) (by refine blk_put (cs := #[.int .i64 t368, .int .i64 t369, .int .i64 t370, .bool t371, .int .i64 t359]) ?_ 4 _ rfl; refine blk_put (cs := #[.int .i64 t368, .int .i64 t369, .int .i64 t370, .bool t358, .int .i64 t359]) ?_ 3 _ rfl; refine blk_put (cs := #[.int .i64 t368, .int .i64 t369, .int .i64 t357, .bool t358, .int .i64 t359]) ?_ 2 _ rfl; refine blk_put (cs := #[.int .i64 t368, .int .i64 t356, .int .i64 t357, .bool t358, .int .i64 t359]) ?_ 1 _ rfl; refine blk_put (cs := #[.int .i64 t355, .int .i64 t356, .int .i64 t357, .bool t358, .int .i64 t359]) ?_ 0 _ rfl; exact BK347.out) hb); have n6_ := Aside0.mk (below_step (by repeat (first | (with_reducible first | exact HB.out | apply below_alloc | apply pw_below_drewN | apply below_drew1 | refine below_set ?_ GE320.out | refine below_set ?_ GE329.out | refine below_set ?_ GE340.out | refine below_set ?_ GE347.out) | exact HB.out)) hb); clear HO_33; clear HO_42; clear BK320; clear BK329; clear BK340; clear BK347; clear HB; have HO_33 := n0_; have HO_42 := n1_; have BK320 := n2_; have BK329 := n3_; have BK340 := n4_; have BK347 := n5_; have HB := n6_; clear n0_ n1_ n2_ n3_ n4_ n5_ n6_; (try clear hb); (try clear hb2); (try clear hk); (try clear hi); have hcz80_0 : w79.cell? ⟨gb329, 0, none⟩ = some (.int .i64 ((rd_T24 y325 x35_1).f0)) := (blk_cell BK329.out 0).trans rfl; have hcz80_1 : w79.cell? ⟨gb329, 1, none⟩ = some (.int .i64 ((rd_T24 y325 x35_1).f1)) := (blk_cell BK329.out 1).trans rfl; have hfz80_0 := blk_frozen BK329.out 0; have hfz80_1 := blk_frozen BK329.out 1) | ((with_reducible refine gate_callee (f := 18) rfl ?_); refine goesL_ (some 123) rfl rfl Try.func18 (by kernel_rfl) rfl #[.slice A0 l0.length c0, .agg #[.int .i64 ((rd_T24 y325 x35_1).f0), .int .i64 ((rd_T24 y325 x35_1).f1)], .int .i64 (rd y330 x44_2), .bool a5] rfl (by (try simp only [List.map_toArray, List.map_cons, List.map_nil]); first | done | rfl | (simp only [List.length_drop, List.length_take]; rfl)) ?_; (with_reducible refine (words_BackTail.calls _ _ l0 ((rd_T24 y325 x35_1).f0) ((rd_T24 y325 x35_1).f1) (rd y330 x44_2) a5 t375 t376 t377 t378 t379 t380 _ ?side1 ?side2 A44.out).mono ?_); (case side1 => repeat (first | exact (Kd.C_below HR0.out HB.out) | (with_reducible refine Kd.C_alloc ?_ _) | (with_reducible refine Kd.C_drewN ?_ _) | (with_reducible refine Kd.C_drew ?_))); (case side2 => exact HC0.out); rintro e w81 ⟨rfl, hb⟩; refine ⟨_, rfl, ?_⟩; have n0_ := Aside0.mk (Kd.R_below (by (with_reducible repeat (first | apply Kd.R_alloc | apply Kd.R_drewN | apply Kd.R_drew)); exact HO_33.out) hb); have n1_ := Aside0.mk (Kd.R_below (by (with_reducible repeat (first | apply Kd.R_alloc | apply Kd.R_drewN | apply Kd.R_drew)); exact HO_42.out) hb); have n2_ := Aside0.mk (blk_below (g := gb320) (o := .cells #[.int .i64 a1_0, .int .i64 a1_1] 24 (0, 0)) (by exact BK320.out) hb); have n3_ := Aside0.mk (blk_below (g := gb329) (o := .cells #[.int .i64 ((rd_T24 y325 x35_1).f0), .int .i64 ((rd_T24 y325 x35_1).f1)] 24 (0, 0)) (by exact BK329.out) hb); have n4_ := Aside0.mk (blk_below (g := gb340) (o := .cells #[.int .i64 t362, .int .i64 t363, .int .i64 t364, .bool t365, .int .i64 t366] 32 (0, 0)) (by exact BK340.out) hb); have n5_ := Aside0.mk (blk_below (g := gb347) (o := .cells #[.int .i64 t368, .int .i64 t369, .int .i64 t370, .bool t371, .int .i64 t372] 32 (0, 0)) (by exact BK347.out) hb); have n6_ := Aside0.mk (below_step (by repeat (first | (with_reducible first | exact HB.out | apply below_alloc | apply pw_below_drewN | apply below_drew1 | refine below_set ?_ GE320.out | refine below_set ?_ GE329.out | refine below_set ?_ GE340.out | refine below_set ?_ GE347.out) | exact HB.out)) hb); clear HO_33; clear HO_42; clear BK320; clear BK329; clear BK340; clear BK347; clear HB; have HO_33 := n0_; have HO_42 := n1_; have BK320 := n2_; have BK329 := n3_; have BK340 := n4_; have BK347 := n5_; have HB := n6_; clear n0_ n1_ n2_ n3_ n4_ n5_ n6_; (try clear hb); (try clear hb2); (try clear hk); (try clear hi); have hcz82_0 : w81.cell? ⟨gb340, 0, none⟩ = some (.int .i64 t362) := (blk_cell BK340.out 0).trans rfl; have hcz82_1 : w81.cell? ⟨gb340, 1, none⟩ = some (.int .i64 t363) := (blk_cell BK340.out 1).trans rfl; have hcz82_2 : w81.cell? ⟨gb340, 2, none⟩ = some (.int .i64 t364) := (blk_cell BK340.out 2).trans rfl; have hcz82_3 : w81.cell? ⟨gb340, 3, none⟩ = some (.bool t365) := (blk_cell BK340.out 3).trans rfl; have hcz82_4 : w81.cell? ⟨gb340, 4, none⟩ = some (.int .i64 t366) := (blk_cell BK340.out 4).trans rfl; have hfz82_0 := blk_frozen BK340.out 0; have hfz82_1 := blk_frozen BK340.out 1; have hfz82_2 := blk_frozen BK340.out 2; have hfz82_3 := blk_frozen BK340.out 3; have hfz82_4 := blk_frozen BK340.out 4; have hcz83_0 : w81.cell? ⟨gb329, 0, none⟩ = some (.int .i64 ((rd_T24 y325 x35_1).f0)) := (blk_cell BK329.out 0).trans rfl; have hcz83_1 : w81.cell? ⟨gb329, 1, none⟩ = some (.int .i64 ((rd_T24 y325 x35_1).f1)) := (blk_cell BK329.out 1).trans rfl; have hfz83_0 := blk_frozen BK329.out 0; have hfz83_1 := blk_frozen BK329.out 1) | ((with_reducible refine gate_callee (f := 19) rfl ?_); refine goesL_ (some 131) rfl rfl Try.func19 (by kernel_rfl) rfl #[.slice A0 l0.length c0, .agg #[.int .i64 ((rd_T24 y325 x35_1).f0), .int .i64 ((rd_T24 y325 x35_1).f1)], .int .i64 (rd y330 x44_2), .bool a5] rfl (by (try simp only [List.map_toArray, List.map_cons, List.map_nil]); first | done | rfl | (simp only [List.length_drop, List.length_take]; rfl)) ?_; (with_reducible refine (foolscapref5_BackTail.calls k2 _ _ l0 ((rd_T24 y325 x35_1).f0) ((rd_T24 y325 x35_1).f1) (rd y330 x44_2) a5 t381 t382 t383 t384 t385 t386 _ ?side1 ?side2 A45.out).mono ?_); (case side1 => exact Kd.C_below HR0.out (by repeat (first | (with_reducible first | exact HB.out | apply below_alloc | apply pw_below_drewN | apply below_drew1 | refine below_set ?_ GE320.out | refine below_set ?_ GE329.out | refine below_set ?_ GE340.out | refine below_set ?_ GE347.out) | exact HB.out))); (case side2 => exact HC0.out); rintro e w84 ⟨rfl, hb⟩; refine ⟨_, rfl, ?_⟩; have n0_ := Aside0.mk (Kd.R_below (by (with_reducible repeat (first | apply Kd.R_alloc | apply Kd.R_drewN | apply Kd.R_drew)); exact (Kd.R_mono (Kd.R_far (p := ⟨gb340, 4, none⟩) (Kd.R_far (p := ⟨gb340, 3, none⟩) (Kd.R_far (p := ⟨gb340, 2, none⟩) (Kd.R_far (p := ⟨gb340, 1, none⟩) (Kd.R_far (p := ⟨gb340, 0, none⟩) (Kd.R_types HO_33.out BK340.out (by decide)) (fun _ hk => hk.2) (.int .i64 t375)) (fun _ hk => hk.2) (.int .i64 t376)) (fun _ hk => hk.2) (.int .i64 t377)) (fun _ hk => hk.2) (.bool t378)) (fun _ hk => hk.2) (.int .i64 t379)) (fun _ h_ => h_.1))) hb); have n1_ := Aside0.mk (Kd.R_below (by (with_reducible repeat (first | apply Kd.R_alloc | apply Kd.R_drewN | apply Kd.R_drew)); exact (Kd.R_mono (Kd.R_far (p := ⟨gb340, 4, none⟩) (Kd.R_far (p := ⟨gb340, 3, none⟩) (Kd.R_far (p := ⟨gb340, 2, none⟩) (Kd.R_far (p := ⟨gb340, 1, none⟩) (Kd.R_far (p := ⟨gb340, 0, none⟩) (Kd.R_types HO_42.out BK340.out (by decide)) (fun _ hk => hk.2) (.int .i64 t375)) (fun _ hk => hk.2) (.int .i64 t376)) (fun _ hk => hk.2) (.int .i64 t377)) (fun _ hk => hk.2) (.bool t378)) (fun _ hk => hk.2) (.int .i64 t379)) (fun _ h_ => h_.1))) hb); have n2_ := Aside0.mk (blk_below (g := gb320) (o := .cells #[.int .i64 a1_0, .int .i64 a1_1] 24 (0, 0)) (by refine blk_far ?_ NB320_340.out _; refine blk_far ?_ NB320_340.out _; refine blk_far ?_ NB320_340.out _; refine blk_far ?_ NB320_340.out _; refine blk_far ?_ NB320_340.out _; exact BK320.out) hb); have n3_ := Aside0.mk (blk_below (g := gb329) (o := .cells #[.int .i64 ((rd_T24 y325 x35_1).f0), .int .i64 ((rd_T24 y325 x35_1).f1)] 24 (0, 0)) (by refine blk_far ?_ NB329_340.out _; refine blk_far ?_ NB329_340.out _; refine blk_far ?_ NB329_340.out _; refine blk_far ?_ NB329_340.out _; refine blk_far ?_ NB329_340.out _; exact BK329.out) hb); have n4_ := Aside0.mk (blk_below (g := gb340) (o := .cells #[.int .i64 t375, .int .i64 t376, .int .i64 t377, .bool t378, .int .i64 t379] 32 (0, 0)) (by refine blk_put (cs := #[.int .i64 t375, .int .i64 t376, .int .i64 t377, .bool t378, .int .i64 t366]) ?_ 4 _ rfl; refine blk_put (cs := #[.int .i64 t375, .int .i64 t376, .int .i64 t377, .bool t365, .int .i64 t366]) ?_ 3 _ rfl; refine blk_put (cs := #[.int .i64 t375, .int .i64 t376, .int .i64 t364, .bool t365, .int .i64 t366]) ?_ 2 _ rfl; refine blk_put (cs := #[.int .i64 t375, .int .i64 t363, .int .i64 t364, .bool t365, .int .i64 t366]) ?_ 1 _ rfl; refine blk_put (cs := #[.int .i64 t362, .int .i64 t363, .int .i64 t364, .bool t365, .int .i64 t366]) ?_ 0 _ rfl; exact BK340.out) hb); have n5_ := Aside0.mk (blk_below (g := gb347) (o := .cells #[.int .i64 t368, .int .i64 t369, .int .i64 t370, .bool t371, .int .i64 t372] 32 (0, 0)) (by refine blk_far ?_ NB347_340.out _; refine blk_far ?_ NB347_340.out _; refine blk_far ?_ NB347_340.out _; refine blk_far ?_ NB347_340.out _; refine blk_far ?_ NB347_340.out _; exact BK347.out) hb); have n6_ := Aside0.mk (below_step (by repeat (first | (with_reducible first | exact HB.out | apply below_alloc | apply pw_below_drewN | apply below_drew1 | refine below_set ?_ GE320.out | refine below_set ?_ GE329.out | refine below_set ?_ GE340.out | refine below_set ?_ GE347.out) | exact HB.out)) hb); clear HO_33; clear HO_42; clear BK320; clear BK329; clear BK340; clear BK347; clear HB; have HO_33 := n0_; have HO_42 := n1_; have BK320 := n2_; have BK329 := n3_; have BK340 := n4_; have BK347 := n5_; have HB := n6_; clear n0_ n1_ n2_ n3_ n4_ n5_ n6_; (try clear hb); (try clear hb2); (try clear hk); (try clear hi); have hcz85_0 : w84.cell? ⟨gb347, 0, none⟩ = some (.int .i64 t368) := (blk_cell BK347.out 0).trans rfl; have hcz85_1 : w84.cell? ⟨gb347, 1, none⟩ = some (.int .i64 t369) := (blk_cell BK347.out 1).trans rfl; have hcz85_2 : w84.cell? ⟨gb347, 2, none⟩ = some (.int .i64 t370) := (blk_cell BK347.out 2).trans rfl; have hcz85_3 : w84.cell? ⟨gb347, 3, none⟩ = some (.bool t371) := (blk_cell BK347.out 3).trans rfl; have hcz85_4 : w84.cell? ⟨gb347, 4, none⟩ = some (.int .i64 t372) := (blk_cell BK347.out 4).trans rfl; have hfz85_0 := blk_frozen BK347.out 0; have hfz85_1 := blk_frozen BK347.out 1; have hfz85_2 := blk_frozen BK347.out 2; have hfz85_3 := blk_frozen BK347.out 3; have hfz85_4 := blk_frozen BK347.out 4; have hcz86_0 : w84.cell? ⟨gb340, 0, none⟩ = some (.int .i64 t375) := (blk_cell BK340.out 0).trans rfl; have hcz86_1 : w84.cell? ⟨gb340, 1, none⟩ = some (.int .i64 t376) := (blk_cell BK340.out 1).trans rfl; have hcz86_2 : w84.cell? ⟨gb340, 2, none⟩ = some (.int .i64 t377) := (blk_cell BK340.out 2).trans rfl; have hcz86_3 : w84.cell? ⟨gb340, 3, none⟩ = some (.bool t378) := (blk_cell BK340.out 3).trans rfl; have hcz86_4 : w84.cell? ⟨gb340, 4, none⟩ = some (.int .i64 t379) := (blk_cell BK340.out 4).trans rfl; have hfz86_0 := blk_frozen BK340.out 0; have hfz86_1 := blk_frozen BK340.out 1; have hfz86_2 := blk_frozen BK340.out 2; have hfz86_3 := blk_frozen BK340.out 3; have hfz86_4 := blk_frozen BK340.out 4) | ((with_reducible refine gate_callee (f := 13) rfl ?_); refine goesL_ (some 138) rfl rfl Try.func13 (by kernel_rfl) rfl #[.agg #[.int .i64 t375, .int .i64 t376, .int .i64 t377, .bool t378, .int .i64 t379], .bool t380, .agg #[.int .i64 t381, .int .i64 t382, .int .i64 t383, .bool t384, .int .i64 t385], .bool t386] rfl (by (try simp only [List.map_toArray, List.map_cons, List.map_nil]); first | done | rfl | (simp only [List.length_drop, List.length_take]; rfl)) ?_; (with_reducible refine (foolscaplaw8_same.calls t375 t376 t377 t378 t379 t380 t381 t382 t383 t384 t385 t386 true _ A46.out).mono ?_); rintro e w87 ⟨rfl, hb⟩; refine ⟨_, rfl, ?_⟩; have n0_ := Aside0.mk (Kd.R_below (by (with_reducible repeat (first | apply Kd.R_alloc | apply Kd.R_drewN | apply Kd.R_drew)); exact (Kd.R_mono (Kd.R_far (p := ⟨gb347, 4, none⟩) (Kd.R_far (p := ⟨gb347, 3, none⟩) (Kd.R_far (p := ⟨gb347, 2, none⟩) (Kd.R_far (p := ⟨gb347, 1, none⟩) (Kd.R_far (p := ⟨gb347, 0, none⟩) (Kd.R_types HO_33.out BK347.out (by decide)) (fun _ hk => hk.2) (.int .i64 t381)) (fun _ hk => hk.2) (.int .i64 t382)) (fun _ hk => hk.2) (.int .i64 t383)) (fun _ hk => hk.2) (.bool t384)) (fun _ hk => hk.2) (.int .i64 t385)) (fun _ h_ => h_.1))) hb); have n1_ := Aside0.mk (Kd.R_below (by (with_reducible repeat (first | apply Kd.R_alloc | apply Kd.R_drewN | apply Kd.R_drew)); exact (Kd.R_mono (Kd.R_far (p := ⟨gb347, 4, none⟩) (Kd.R_far (p := ⟨gb347, 3, none⟩) (Kd.R_far (p := ⟨gb347, 2, none⟩) (Kd.R_far (p := ⟨gb347, 1, none⟩) (Kd.R_far (p := ⟨gb347, 0, none⟩) (Kd.R_types HO_42.out BK347.out (by decide)) (fun _ hk => hk.2) (.int .i64 t381)) (fun _ hk => hk.2) (.int .i64 t382)) (fun _ hk => hk.2) (.int .i64 t383)) (fun _ hk => hk.2) (.bool t384)) (fun _ hk => hk.2) (.int .i64 t385)) (fun _ h_ => h_.1))) hb); have n2_ := Aside0.mk (blk_below (g := gb320) (o := .cells #[.int .i64 a1_0, .int .i64 a1_1] 24 (0, 0)) (by refine blk_far ?_ NB320_347.out _; refine blk_far ?_ NB320_347.out _; refine blk_far ?_ NB320_347.out _; refine blk_far ?_ NB320_347.out _; refine blk_far ?_ NB320_347.out _; exact BK320.out) hb); have n3_ := Aside0.mk (blk_below (g := gb329) (o := .cells #[.int .i64 ((rd_T24 y325 x35_1).f0), .int .i64 ((rd_T24 y325 x35_1).f1)] 24 (0, 0)) (by refine blk_far ?_ NB329_347.out _; refine blk_far ?_ NB329_347.out _; refine blk_far ?_ NB329_347.out _; refine blk_far ?_ NB329_347.out _; refine blk_far ?_ NB329_347.out _; exact BK329.out) hb); have n4_ := Aside0.mk (blk_below (g := gb340) (o := .cells #[.int .i64 t375, .int .i64 t376, .int .i64 t377, .bool t378, .int .i64 t379] 32 (0, 0)) (by refine blk_far ?_ NB340_347.out _; refine blk_far ?_ NB340_347.out _; refine blk_far ?_ NB340_347.out _; refine blk_far ?_ NB340_347.out _; refine blk_far ?_ NB340_347.out _; exact BK340.out) hb); have n5_ := Aside0.mk (blk_below (g := gb347) (o := .cells #[.int .i64 t381, .int .i64 t382, .int .i64 t383, .bool t384, .int .i64 t385] 32 (0, 0)) (by refine blk_put (cs := #[.int .i64 t381, .int .i64 t382, .int .i64 t383, .bool t384, .int .i64 t372]) ?_ 4 _ rfl; refine blk_put (cs := #[.int .i64 t381, .int .i64 t382, .int .i64 t383, .bool t371, .int .i64 t372]) ?_ 3 _ rfl; refine blk_put (cs := #[.int .i64 t381, .int .i64 t382, .int .i64 t370, .bool t371, .int .i64 t372]) ?_ 2 _ rfl; refine blk_put (cs := #[.int .i64 t381, .int .i64 t369, .int .i64 t370, .bool t371, .int .i64 t372]) ?_ 1 _ rfl; refine blk_put (cs := #[.int .i64 t368, .int .i64 t369, .int .i64 t370, .bool t371, .int .i64 t372]) ?_ 0 _ rfl; exact BK347.out) hb); have n6_ := Aside0.mk (below_step (by repeat (first | (with_reducible first | exact HB.out | apply below_alloc | apply pw_below_drewN | apply below_drew1 | refine below_set ?_ GE320.out | refine below_set ?_ GE329.out | refine below_set ?_ GE340.out | refine below_set ?_ GE347.out) | exact HB.out)) hb); clear HO_33; clear HO_42; clear BK320; clear BK329; clear BK340; clear BK347; clear HB; have HO_33 := n0_; have HO_42 := n1_; have BK320 := n2_; have BK329 := n3_; have BK340 := n4_; have BK347 := n5_; have HB := n6_; clear n0_ n1_ n2_ n3_ n4_ n5_ n6_; (try clear hb); (try clear hb2); (try clear hk); (try clear hi)))
                                  go_roundg k2
                                  case measure => have := HK1.out; have := HK2.out; omega
                                  case rel => exact ⟨(wrap64 (x44_2 + 1)), (by first | rfl | (simp; done) | (simp [*]; done)), H', ⟨by have := HK1.out; have := HK2.out; omega⟩, ⟨by (with_reducible repeat (first | apply Kd.R_alloc | apply Kd.R_drewN | apply Kd.R_drew)); exact HO_33.out⟩, ⟨by (with_reducible repeat (first | apply Kd.R_alloc | apply Kd.R_drewN | apply Kd.R_drew)); exact HO_42.out⟩, ⟨by exact BK320.out⟩, ⟨by exact BK329.out⟩, ⟨by repeat (first | (with_reducible first | exact HB.out | apply below_alloc | apply pw_below_drewN | apply below_drew1 | refine below_set ?_ GE320.out | refine below_set ?_ GE329.out | refine below_set ?_ GE340.out | refine below_set ?_ GE347.out) | exact HB.out)⟩⟩
                                · replace c47 := Bool.eq_false_iff.mpr c47
                                  subst c47
                                  have H1 : (some false) = some r := by rw [if_neg (show ¬ (false = true) by decide)] at H; exact H
                                  clear H
                                  have H := H1
                                  clear H1
                                  exact absurd ((Option.some.inj H).trans HT.out) (by decide)
                              · replace c43 := Bool.eq_false_iff.mpr c43
                                subst c43
                                have H1 : (some false) = some r := by rw [if_neg (show ¬ (false = true) by decide)] at H; exact H
                                clear H
                                have H := H1
                                clear H1
                                exact absurd ((Option.some.inj H).trans HT.out) (by decide)
                            · replace c39 := Bool.eq_false_iff.mpr c39
                              subst c39
                              have H1 : (some false) = some r := by rw [if_neg (show ¬ (false = true) by decide)] at H; exact H
                              clear H
                              have H := H1
                              clear H1
                              exact absurd ((Option.some.inj H).trans HT.out) (by decide)
                          · replace c35 := Bool.eq_false_iff.mpr c35
                            subst c35
                            have H1 : (some false) = some r := by rw [if_neg (show ¬ (false = true) by decide)] at H; exact H
                            clear H
                            have H := H1
                            clear H1
                            exact absurd ((Option.some.inj H).trans HT.out) (by decide)
                        · rw [if_neg c31] at H
                          exact absurd H (by simp)
                      · rw [if_neg c30] at H
                        exact absurd H (by simp)
                    · rw [if_neg c29] at H
                      have c29b0 : decide (x44_2 < (y330.length : Int)) = false := decide_eq_false c29
                      clear c29
                      have H' := Aside0.mk H
                      clear H
                      go_wp2
                      go_roundg k2
                      case measure => have := HK1.out; have := HK2.out; omega
                      case rel => exact ⟨(wrap64 (x35_1 + 1)), (by first | rfl | (simp; done) | (simp [*]; done)), H', ⟨by have := HK1.out; have := HK2.out; omega⟩, ⟨by (with_reducible repeat (first | apply Kd.R_alloc | apply Kd.R_drewN | apply Kd.R_drew)); exact Kd.R_mono HO_33.out (fun _ hk => hk.1)⟩, ⟨by exact BK320.out⟩, ⟨by repeat (first | (with_reducible first | exact HB.out | apply below_alloc | apply pw_below_drewN | apply below_drew1 | refine below_set ?_ GE320.out | refine below_set ?_ GE329.out) | exact HB.out)⟩⟩
              · rw [if_neg c22] at H
                exact absurd H (by simp)
            · rw [if_neg c21] at H
              exact absurd H (by simp)
          · rw [if_neg c20] at H
            have c20b0 : decide (x35_1 < (y325.length : Int)) = false := decide_eq_false c20
            clear c20
            obtain rfl := Option.some.inj H
            go_wp2
            go_ret
            exact ⟨by first | rfl | (simp [errW_none, errW_some] <;> rfl) | (simp [*, errW_none, errW_some] <;> rfl), by repeat (first | (with_reducible first | exact HB.out | apply below_alloc | apply pw_below_drewN | apply below_drew1 | refine below_set ?_ GE320.out) | exact HB.out)⟩
    · replace c11 := Bool.eq_false_iff.mpr c11
      subst c11
      have H1 : (some true) = some r := by rw [if_neg (show ¬ (false = true) by decide)] at H; exact H
      clear H
      have H := H1
      clear H1
      obtain rfl := Option.some.inj H
      go_enter Try.func3, Try.ntmps3
      go_wp2_with (first | ((with_reducible refine gate_dst (N := 8) rfl ?_); refine box_event ?hg (N := 8) ?hd (cs := #[.int .i64 a1_0, .int .i64 a1_1]) (t := 24) ?hr ?_; (case hd => rfl); (case hg => rfl); (case hr => first | (go_simp; done) | (go_simp; rfl)); intro gb320 hg w200 hbox hb; have n0_ := Aside0.mk (below_step (by repeat (first | (with_reducible first | exact HB.out | apply below_alloc | apply pw_below_drewN | apply below_drew1) | exact HB.out)) hb); have n1_ := Aside0.mk (hbox); have n2_ := Aside0.mk ((by rw [hg]; exact (below_size (by repeat (first | (with_reducible first | exact HB.out | apply below_alloc | apply pw_below_drewN | apply below_drew1) | exact HB.out))) : w.heap.size ≤ gb320)); have n3_ := Aside0.mk ((by rw [hg]; exact (below_size (by repeat (first | (with_reducible first | exact HB.out | apply below_alloc | apply pw_below_drewN | apply below_drew1) | exact HB.out))) : w.heap.size ≤ gb320)); clear HB; have HB := n0_; have BK320 := n1_; have GW320 := n2_; have GE320 := n3_; clear n0_ n1_ n2_ n3_; clear hb hbox hg) | ((with_reducible refine gate_callee (f := 8) rfl ?_); refine goesL_ (some 23) rfl rfl Try.func8 (by kernel_rfl) rfl #[] rfl (by (try simp only [List.map_toArray, List.map_cons, List.map_nil]); first | done | rfl | (simp only [List.length_drop, List.length_take]; rfl)) ?_; (with_reducible refine (foolscaplaw8_known.calls  true _ A8.out rfl).mono ?_); rintro e w201 ⟨rfl, hb⟩; refine ⟨_, rfl, ?_⟩; have n0_ := Aside0.mk (blk_below (g := gb320) (o := .cells #[.int .i64 a1_0, .int .i64 a1_1] 24 (0, 0)) (by exact BK320.out) hb); have n1_ := Aside0.mk (below_step (by repeat (first | (with_reducible first | exact HB.out | apply below_alloc | apply pw_below_drewN | apply below_drew1 | refine below_set ?_ GE320.out) | exact HB.out)) hb); clear BK320; clear HB; have BK320 := n0_; have HB := n1_; clear n0_ n1_; (try clear hb); (try clear hb2); (try clear hk); (try clear hi)) | ((with_reducible refine gate_callee (f := 9) rfl ?_); refine goesL_ (some 26) rfl rfl Try.func9 (by kernel_rfl) rfl #[.slice A0 l0.length c0] rfl (by (try simp only [List.map_toArray, List.map_cons, List.map_nil]); first | done | rfl | (simp only [List.length_drop, List.length_take]; rfl)) ?_; (with_reducible refine (foolscaphelp_Text.calls k _ _ l0 false _ ?side1 ?side2 A10.out).mono ?_); (case side1 => repeat (first | exact (Kd.C_below HR0.out HB.out) | (with_reducible refine Kd.C_alloc ?_ _) | (with_reducible refine Kd.C_drewN ?_ _) | (with_reducible refine Kd.C_drew ?_))); (case side2 => exact HC0.out); rintro e w' ⟨rfl, ⟨nd, rfl⟩⟩; refine ⟨_, rfl, ?_⟩))
      go_ret
      exact ⟨by first | rfl | (simp [errW_none, errW_some] <;> rfl) | (simp [*, errW_none, errW_some] <;> rfl), by repeat (first | (with_reducible first | exact HB.out | apply below_alloc | apply pw_below_drewN | apply below_drew1 | refine below_set ?_ GE320.out) | exact HB.out)⟩
  · replace c9 := Bool.eq_false_iff.mpr c9
    subst c9
    have H1 : (some false) = some r := by rw [if_neg (show ¬ (false = true) by decide)] at H; exact H
    clear H
    have H := H1
    clear H1
    exact absurd ((Option.some.inj H).trans HT.out) (by decide)
-- NOT PRINTED: function 21 (foolscaplaw8_heard)

end Go.Proofs.Ytifkfjpkngdhmaa.V
namespace Go.Proofs.Ytifkfjpkngdhmaa.Pure
open Go.RowKit Go.Proofs.Ytifkfjpkngdhmaa.V Go.Proofs.YtifkfjpkngdhmaaW.PrintWords Go.Proofs.YtifkfjpkngdhmaaW.PrintLast Go.Proofs.YtifkfjpkngdhmaaW.PrintMore

theorem known_true : foolscaplaw8_known.f = some true := by decide +kernel

end Go.Proofs.Ytifkfjpkngdhmaa.Pure
namespace Go.Proofs.Ytifkfjpkngdhmaa.Pure
open Go.RowKit Go.Proofs.Ytifkfjpkngdhmaa.V Go.Proofs.YtifkfjpkngdhmaaW.PrintWords Go.Proofs.YtifkfjpkngdhmaaW.PrintLast Go.Proofs.YtifkfjpkngdhmaaW.PrintMore

/-- is (a, b) a place of the lines? -/
def PlaceP (l : List ByteArray) (a b : Int) : Prop := 0 ≤ a ∧ a < l.length ∧ 0 ≤ b ∧ b ≤ (rdOf ByteArray.empty l a).size
instance (l : List ByteArray) (a b : Int) : Decidable (PlaceP l a b) := by unfold PlaceP; infer_instance

theorem place_class (l : List ByteArray) (a b : Int) : class_Place.f l a b = some (decide (PlaceP l a b)) := by
  unfold class_Place.f
  by_cases h1 : a ≥ 0
  · rw [if_pos h1]
    by_cases h2 : a < l.length
    · rw [if_pos h2]
      by_cases h3 : b ≥ 0
      · rw [if_pos h3, if_pos h1]
        congr 1
        simp only [decide_eq_decide]
        exact ⟨fun h => ⟨h1, h2, h3, h⟩, fun h => h.2.2.2⟩
      · rw [if_neg h3, decide_eq_false (fun h => h3 h.2.2.1)]
    · rw [if_neg h2, decide_eq_false (fun h => h2 h.2.1)]
  · rw [if_neg h1, decide_eq_false (fun h => h1 h.1)]

/-- the place that two numbers name. -/
theorem seat_place {l : List ByteArray} (hl : Small l) (a b : Int) (ha : 0 ≤ a) (ha2 : a ≤ 65535) (hb : 0 ≤ b) (hb2 : b ≤ 65535) :
    ∃ x y, foolscapseat_Place.f l a b = some (x, y) ∧ PlaceP l x y := by
  obtain ⟨h1, h2, h3⟩ := hl
  have e : Int.tmod a l.length = a % l.length := Int.tmod_eq_emod_of_nonneg ha
  have g0 : 0 ≤ a % (l.length : Int) := Int.emod_nonneg _ (by omega)
  have g1 : a % (l.length : Int) < l.length := Int.emod_lt_of_pos _ (by omega)
  have hz := Small.at ⟨h1, h2, h3⟩ g0 g1
  unfold foolscapseat_Place.f
  rw [if_neg (by omega), w64 (x := a) (by omega) (by omega), e, if_pos g0, if_pos g1, w64 (x := b) (by omega) (by omega), w64 (x := ((rdOf ByteArray.empty l (a % (l.length : Int))).size : Int) + 1) (by omega) (by omega), if_neg (by omega)]
  refine ⟨_, _, rfl, g0, g1, ?_, ?_⟩
  · rw [Int.tmod_eq_emod_of_nonneg hb]
    exact Int.emod_nonneg _ (by omega)
  · rw [Int.tmod_eq_emod_of_nonneg hb]
    have := Int.emod_lt_of_pos b (b := ((rdOf ByteArray.empty l (a % (l.length : Int))).size : Int) + 1) (by omega)
    omega

end Go.Proofs.Ytifkfjpkngdhmaa.Pure
namespace Go.Proofs.Ytifkfjpkngdhmaa.Pure
open Go.RowKit Go.Proofs.Ytifkfjpkngdhmaa.V Go.Proofs.YtifkfjpkngdhmaaW.PrintWords Go.Proofs.YtifkfjpkngdhmaaW.PrintLast Go.Proofs.YtifkfjpkngdhmaaW.PrintMore
set_option linter.unusedVariables false

theorem ltN_iff {a b c d : Int} : ltN a b c d = true ↔ a < c ∨ (a = c ∧ b < d) := by unfold ltN; simp
theorem ltN_no {a b c d : Int} : ltN a b c d = false ↔ ¬ (a < c ∨ (a = c ∧ b < d)) := by rw [← ltN_iff]; simp
theorem ltB_ltN (a b c d : Int) : ltB a b c d = ltN a b c d := rfl
/-- x is ahead of y. -/
abbrev LtS (x y : S24) : Prop := ltN x.f0 x.f1 y.f0 y.f1 = true

theorem lineP_in {empty : Bool} {ask : ByteArray → Int → Bool} {j : Nat} {s : ByteArray} {m : Nat} {x : S24} (h : x ∈ lineP empty ask j s m) :
    x.f0 = j ∧ ((empty = true ∧ s.size = 0 ∧ x.f1 = 0) ∨ (0 ≤ x.f1 ∧ x.f1 < m ∧ ask s x.f1 = true)) := by
  unfold lineP at h
  rcases List.mem_append.1 h with h | h
  · split at h
    · rename_i he
      obtain rfl : x = ⟨(j : Int), 0⟩ := by simpa using h
      exact ⟨rfl, .inl ⟨he.1, he.2, rfl⟩⟩
    · simp at h
  · obtain ⟨i, hi, rfl⟩ := List.mem_map.1 h
    obtain ⟨h1, h2⟩ := List.mem_filter.1 hi
    have : i < m := by simpa using h1
    exact ⟨rfl, .inr ⟨by simp, by simpa using this, h2⟩⟩
theorem in_lineP {empty : Bool} {ask : ByteArray → Int → Bool} {j : Nat} {s : ByteArray} {m : Nat} {y : Int} (h0 : 0 ≤ y) (h1 : y < m) (h : ask s y = true) : (⟨(j : Int), y⟩ : S24) ∈ lineP empty ask j s m := by
  unfold lineP
  refine List.mem_append.2 (.inr (List.mem_map.2 ⟨y.toNat, List.mem_filter.2 ⟨by simp; omega, ?_⟩, ?_⟩))
  · rw [show ((y.toNat : Nat) : Int) = y by omega]; exact h
  · rw [show ((y.toNat : Nat) : Int) = y by omega]
theorem lineP_sorted (empty : Bool) (ask : ByteArray → Int → Bool) (j : Nat) (s : ByteArray) (m : Nat) (hm : m ≤ s.size) : (lineP empty ask j s m).Pairwise LtS := by
  induction m with
  | zero => rw [lineP_zero]; split <;> simp
  | succ m ih =>
    have ih := ih (by omega)
    cases h : ask s (m : Int) with
    | false => rw [lineP_no _ _ _ _ _ h]; exact ih
    | true =>
      rw [lineP_yes _ _ _ _ _ h]
      refine List.pairwise_append.2 ⟨ih, by simp, fun x hx y hy => ?_⟩
      obtain rfl : y = ⟨(j : Int), (m : Int)⟩ := by simpa using hy
      obtain ⟨h1, h2⟩ := lineP_in hx
      refine ltN_iff.2 (.inr ⟨h1, ?_⟩)
      rcases h2 with ⟨_, h3, h4⟩ | ⟨_, h3, _⟩
      · omega
      · exact h3
/-- a place of plc is one of a line's. -/
theorem plc_mem {empty : Bool} {ask : ByteArray → Int → Bool} {l : List ByteArray} {k : Nat} {x : S24} : x ∈ plc empty ask l k ↔ ∃ j : Nat, j < k ∧ x ∈ lineP empty ask j (rdOf ByteArray.empty l (j : Int)) (rdOf ByteArray.empty l (j : Int)).size := by
  unfold plc
  rw [List.mem_flatMap]
  simp
theorem plc_sorted (empty : Bool) (ask : ByteArray → Int → Bool) (l : List ByteArray) (k : Nat) : (plc empty ask l k).Pairwise LtS := by
  induction k with
  | zero => simp [plc]
  | succ k ih =>
    rw [plc_succ]
    refine List.pairwise_append.2 ⟨ih, lineP_sorted _ _ _ _ _ (Nat.le_refl _), fun x hx y hy => ?_⟩
    obtain ⟨j, hj, h1⟩ := plc_mem.1 hx
    exact ltN_iff.2 (.inl (by rw [(lineP_in h1).1, (lineP_in hy).1]; omega))
/-- a place of plc lies in the lines. -/
theorem plc_place {empty : Bool} {ask : ByteArray → Int → Bool} {l : List ByteArray} {x : S24} (h : x ∈ plc empty ask l l.length) : PlaceP l x.f0 x.f1 := by
  obtain ⟨j, hj, h1⟩ := plc_mem.1 h
  obtain ⟨e, h2⟩ := lineP_in h1
  unfold PlaceP
  rw [e]
  refine ⟨by omega, by omega, ?_, ?_⟩
  · rcases h2 with ⟨_, _, h4⟩ | ⟨h3, _, _⟩ <;> omega
  · rcases h2 with ⟨_, h3, h4⟩ | ⟨_, h3, _⟩ <;> omega

/-- the places behind (x, y). -/
def behL (x y : Int) (L : List S24) : List S24 := L.filter fun s => ltN x y s.f0 s.f1
theorem behL_lt {x y : Int} {L : List S24} {s : S24} (h : s ∈ behL x y L) : ltN x y s.f0 s.f1 = true := (List.mem_filter.1 h).2
theorem behL_mem {x y : Int} {L : List S24} {s : S24} (h : s ∈ behL x y L) : s ∈ L := (List.mem_filter.1 h).1
theorem behL_in {x y : Int} {L : List S24} {s : S24} (h : s ∈ L) (hl : ltN x y s.f0 s.f1 = true) : s ∈ behL x y L := List.mem_filter.2 ⟨h, hl⟩

/-- what Next answers, by the places behind. -/
def nextW (l0 : List ByteArray) (p0 p1 : Int) (op : Bool) : Int → Int → List S24 → Option (Int × Int × Int × Bool × Int × Bool)
  | m, _, [] => if op = true ∧ m = 1 then words_end.f l0 p0 p1 ((l0.length : Int) - 1) else some (0, 0, 0, false, 0, false)
  | m, ll, s :: r => if 0 < m - 1 then nextW l0 p0 p1 op (m - 1) s.f0 r else if op = true ∧ ll < s.f0 then words_end.f l0 p0 p1 ll else some (s.f0, s.f1, 0, false, -1, true)
theorem nextGo_beh (l0 : List ByteArray) (p0 p1 : Int) (op : Bool) : ∀ (L : List S24) (m ll : Int), nextGo l0 p0 p1 op m ll L = nextW l0 p0 p1 op m ll (behL p0 p1 L)
  | [], m, ll => rfl
  | s :: r, m, ll => by
    rw [nextGo]
    unfold behL
    cases h : ltN p0 p1 s.f0 s.f1 with
    | false =>
      rw [if_pos rfl, List.filter_cons, if_neg (by rw [h]; simp)]
      exact nextGo_beh l0 p0 p1 op r m ll
    | true =>
      rw [if_neg (by simp), List.filter_cons, if_pos h, nextW]
      have := nextGo_beh l0 p0 p1 op r (m - 1) s.f0
      unfold behL at this
      rw [this]
/-- what Tail answers, by the places behind (or at the place, where here). -/
def behT (x y : Int) (here : Bool) (L : List S24) : List S24 := L.filter fun s => !skipB x y here s
def tailT : Int → List S24 → Int × Int × Int × Bool × Int × Bool
  | _, [] => (0, 0, 0, false, 0, false)
  | m, s :: r => if m - 1 = 0 then (s.f0, s.f1, 1, false, -1, true) else tailT (m - 1) r
theorem tailGo_beh (p0 p1 : Int) (here : Bool) : ∀ (L : List S24) (m : Int), tailGo p0 p1 here m L = tailT m (behT p0 p1 here L)
  | [], m => rfl
  | s :: r, m => by
    rw [tailGo]
    unfold behT
    cases h : skipB p0 p1 here s with
    | true =>
      rw [if_pos rfl, List.filter_cons, if_neg (show ¬ (!skipB p0 p1 here s) = true by rw [h]; simp)]
      exact tailGo_beh p0 p1 here r m
    | false =>
      rw [if_neg (by simp), List.filter_cons, if_pos (show (!skipB p0 p1 here s) = true by rw [h]; rfl), tailT]
      have := tailGo_beh p0 p1 here r (m - 1)
      unfold behT at this
      rw [this]
/-- without here: the places behind. -/
theorem behT_no (x y : Int) (L : List S24) : behT x y false L = behL x y L := by
  unfold behT behL
  congr 1
  funext s
  unfold skipB
  rw [ltB_ltN]
  by_cases h1 : ltN x y s.f0 s.f1 = true
  · rw [h1]
    have := ltN_iff.1 h1
    have e1 : ltN s.f0 s.f1 x y = false := ltN_no.2 (by omega)
    have e2 : decide (s.f0 = x ∧ s.f1 = y) = false := decide_eq_false (by omega)
    rw [e1, e2]; rfl
  · have h1 : ltN x y s.f0 s.f1 = false := by simpa using h1
    rw [h1]
    have := ltN_no.1 h1
    by_cases h2 : s.f0 = x ∧ s.f1 = y
    · rw [decide_eq_true h2]; simp
    · have e1 : ltN s.f0 s.f1 x y = true := ltN_iff.2 (by omega)
      rw [e1]; simp

theorem fails_no {l : List ByteArray} {x y n : Int} (hp : PlaceP l x y) (hn : 1 ≤ n) : words_fails.f l x y n = some false := by
  unfold words_fails.f
  rw [if_neg (by omega), place_class, decide_eq_true hp]
  rfl
theorem fails_yes {l : List ByteArray} {x y n : Int} (h : ¬ (PlaceP l x y ∧ 1 ≤ n)) : words_fails.f l x y n = some true := by
  unfold words_fails.f
  by_cases hn : n < 1
  · rw [if_pos hn]
  · rw [if_neg hn, place_class, decide_eq_false (fun hp => h ⟨hp, by omega⟩)]
    rfl
theorem next_beh {l : List ByteArray} (hl : Small l) {x y n : Int} (hp : PlaceP l x y) (hn : 1 ≤ n) (hn2 : n ≤ 9223372036854775807) (big op : Bool) : words_Next.f l x y n big op = nextW l x y op n x (behL x y (startsL l big)) := by
  unfold words_Next.f
  rw [fails_no hp hn]
  simp only [Option.bind_some, Bool.false_eq_true, if_false]
  rw [if_pos ⟨hl.2.1, hl.2.2, hn, hn2⟩, nextGo_beh]
theorem tail_beh {l : List ByteArray} (hl : Small l) {x y n : Int} (hp : PlaceP l x y) (hn : 1 ≤ n) (hn2 : n ≤ 9223372036854775807) (big here : Bool) : words_Tail.f l x y n big here = some (tailT n (behT x y here (endsL l big))) := by
  unfold words_Tail.f
  rw [fails_no hp hn]
  simp only [Option.bind_some, Bool.false_eq_true, if_false]
  rw [if_pos ⟨hl.2.1, hl.2.2, hn, hn2⟩, tailGo_beh]
/-- the motion to a line's end. -/
theorem end_val {l : List ByteArray} {x y z : Int} (h0 : 0 ≤ z) (h1 : z < l.length) : words_end.f l x y z = some (if ltN x y z (rdOf ByteArray.empty l z).size = true then (z, ((rdOf ByteArray.empty l z).size : Int), 0, false, -1, true) else (0, 0, 0, false, 0, false)) := by
  unfold words_end.f
  rw [if_pos h0, if_pos h1, less_eqN]
  cases ltN x y z ((rdOf ByteArray.empty l z).size : Int) <;> rfl

end Go.Proofs.Ytifkfjpkngdhmaa.Pure
namespace Go.Proofs.Ytifkfjpkngdhmaa.Pure
open Go.RowKit Go.Proofs.Ytifkfjpkngdhmaa.V Go.Proofs.YtifkfjpkngdhmaaW.PrintWords Go.Proofs.YtifkfjpkngdhmaaW.PrintLast Go.Proofs.YtifkfjpkngdhmaaW.PrintMore
set_option linter.unusedVariables false

theorem less_refM (a b c d : Int) : foolscapref5_Less.f a b c d = some (ltN a b c d) := by
  unfold foolscapref5_Less.f ltN
  by_cases h : a < c
  · simp [h]
  · by_cases h2 : a = c <;> simp [h, h2]

theorem lineP_len (empty : Bool) (ask : ByteArray → Int → Bool) (j : Nat) (s : ByteArray) (m : Nat) : (lineP empty ask j s m).length ≤ m + 1 := by
  unfold lineP
  rw [List.length_append, List.length_map]
  have h1 := List.length_filter_le (fun (i : Nat) => ask s (i : Int)) (List.range m)
  rw [List.length_range] at h1
  split <;> simp only [List.length_cons, List.length_nil] <;> omega

/-- a line of Starts. -/
theorem starts_l1 (l : List ByteArray) (big : Bool) (j : Nat) (hj : j ≤ 40) (s : ByteArray) (hs : s.size ≤ 1200) (A : List S24) (hA : A.length ≤ 50000) (m : Nat) (hm : 5 ≤ m) (R : Option (List S24))
    (H : ∀ k', m ≤ k' → foolscapref5_Starts.l0 k' l big (A ++ lineP true (fun s x => startB s big x) j s s.size) ((j : Int) + 1) = R) :
    ∀ (d k i : Nat), i + d = s.size → d + m + 1 ≤ k → foolscapref5_Starts.l1 k l big (A ++ lineP true (fun s x => startB s big x) j s i) (j : Int) s (i : Int) = R := by
  intro d
  induction d with
  | zero =>
    intro k i hi hk
    obtain ⟨k, rfl⟩ : ∃ m, k = m + 1 := ⟨k - 1, by omega⟩
    rw [foolscapref5_Starts.l1, if_neg (by omega), w64 (by omega) (by omega), show i = s.size by omega]
    exact H k (by omega)
  | succ d ih =>
    intro k i hi hk
    obtain ⟨k, rfl⟩ : ∃ m, k = m + 1 := ⟨k - 1, by omega⟩
    have hlen : (A ++ lineP true (fun s x => startB s big x) j s i).length < 8796093022208 := by
      have := lineP_len true (fun s x => startB s big x) j s i
      rw [List.length_append]; omega
    have next := ih k (i + 1) (by omega) (by omega)
    rw [show ((i + 1 : Nat) : Int) = (i : Int) + 1 by omega] at next
    rw [foolscapref5_Starts.l1, if_pos (by omega), if_pos (by omega), of_ref k _ _ (by omega)]
    simp only [Option.bind_some]
    rw [w64 (x := (i : Int) + 1) (by omega) (by omega)]
    by_cases h0 : ofS (bt s i) big = 0
    · rw [if_pos h0, ← lineP_no true (fun s x => startB s big x) j s i (by show startB s big i = false; unfold startB; rw [h0]; rfl)]
      exact next
    · rw [if_neg h0]
      have n0 : (ofS (bt s i) big != 0) = true := bne_iff_ne.mpr h0
      by_cases h1 : (i : Int) = 0
      · rw [if_pos h1, if_pos hlen, List.append_assoc, ← lineP_yes true (fun s x => startB s big x) j s i (by show startB s big i = true; unfold startB; rw [n0, show ((i : Int) == 0) = true from beq_iff_eq.mpr h1]; rfl)]
        exact next
      · rw [if_neg h1, w64 (x := (i : Int) - 1) (by omega) (by omega), if_pos (by omega), if_pos (by omega), of_ref k _ _ (by omega)]
        simp only [Option.bind_some]
        have n1 : ((i : Int) == 0) = false := beq_eq_false_iff_ne.mpr h1
        by_cases h2 : ofS (bt s ((i : Int) - 1)) big = ofS (bt s i) big
        · rw [if_pos h2, ← lineP_no true (fun s x => startB s big x) j s i (by show startB s big i = false; unfold startB; rw [n0, n1, h2]; simp)]
          exact next
        · rw [if_neg h2, if_pos hlen, List.append_assoc, ← lineP_yes true (fun s x => startB s big x) j s i (by show startB s big i = true; unfold startB; rw [n0, n1, bne_iff_ne.mpr h2]; rfl)]
          exact next

theorem starts_l0 {l : List ByteArray} (hl : Small l) (big : Bool) : ∀ (d k j : Nat), j + d = l.length → d * 1210 + 20 ≤ k →
    foolscapref5_Starts.l0 k l big (plc true (fun s x => startB s big x) l j) (j : Int) = some (startsL l big) := by
  intro d
  induction d with
  | zero =>
    intro k j hj hk
    obtain ⟨k, rfl⟩ : ∃ m, k = m + 1 := ⟨k - 1, by omega⟩
    rw [foolscapref5_Starts.l0, if_neg (by omega), show j = l.length by omega]
    rfl
  | succ d ih =>
    intro k j hj hk
    obtain ⟨k, rfl⟩ : ∃ m, k = m + 1 := ⟨k - 1, by omega⟩
    have hl2 := hl.2.1
    have hz := rd_size hl.2.2 j
    have hA := plc_len true (fun s x => startB s big x) hl.2.2 j
    obtain ⟨s, hse⟩ : ∃ s, rdOf ByteArray.empty l (j : Int) = s := ⟨_, rfl⟩
    have H : ∀ k', d * 1210 + 20 ≤ k' → foolscapref5_Starts.l0 k' l big (plc true (fun s x => startB s big x) l j ++ lineP true (fun s x => startB s big x) j s s.size) ((j : Int) + 1) = some (startsL l big) := by
      intro k' hk'
      have := ih k' (j + 1) (by omega) hk'
      rw [plc_succ, hse] at this
      exact this
    rw [hse] at hz
    have L1 := starts_l1 l big j (by omega) s hz _ (by omega) (d * 1210 + 20) (by omega) _ H s.size
    obtain ⟨k, rfl⟩ : ∃ m, k = m + 1 := ⟨k - 1, by omega⟩
    rw [foolscapref5_Starts.l0, if_pos (by omega), if_pos (by omega), hse]
    by_cases he : s.size = 0
    · have e1 : s.toList = ([] : List UInt8) := by
        have := toList_size s
        rw [decide_eq_true he] at this
        simpa using this
      have := L1 k 0 (by omega) (by omega)
      rw [lineP_zero, if_pos ⟨rfl, he⟩] at this
      rw [if_pos e1, if_pos (by omega), foolscapref5_Starts.j1]
      exact this
    · have e1 : ¬ s.toList = ([] : List UInt8) := by
        have := toList_size s
        rw [decide_eq_false he] at this
        simpa using this
      have := L1 k 0 (by omega) (by omega)
      rw [lineP_zero, if_neg (fun h => he h.2), List.append_nil] at this
      rw [if_neg e1, foolscapref5_Starts.j1]
      exact this
theorem starts_ref {l : List ByteArray} (hl : Small l) (big : Bool) (k : Nat) (hk : 60000 ≤ k) : foolscapref5_Starts.f k l big = some (startsL l big) := by
  have hl2 := hl.2.1
  exact starts_l0 hl big l.length k 0 (by omega) (by omega)

/-- a line of Ends. -/
theorem ends_l1 (l : List ByteArray) (big : Bool) (j : Nat) (hj : j ≤ 40) (s : ByteArray) (hs : s.size ≤ 1200) (A : List S24) (hA : A.length ≤ 50000) (m : Nat) (hm : 5 ≤ m) (R : Option (List S24))
    (H : ∀ k', m ≤ k' → foolscapref5_Ends.l0 k' l big (A ++ lineP false (fun s x => endB s big x) j s s.size) ((j : Int) + 1) = R) :
    ∀ (d k i : Nat), i + d = s.size → d + m + 1 ≤ k → foolscapref5_Ends.l1 k l big (A ++ lineP false (fun s x => endB s big x) j s i) (j : Int) s (i : Int) = R := by
  intro d
  induction d with
  | zero =>
    intro k i hi hk
    obtain ⟨k, rfl⟩ : ∃ m, k = m + 1 := ⟨k - 1, by omega⟩
    rw [foolscapref5_Ends.l1, if_neg (by omega), w64 (by omega) (by omega), show i = s.size by omega]
    exact H k (by omega)
  | succ d ih =>
    intro k i hi hk
    obtain ⟨k, rfl⟩ : ∃ m, k = m + 1 := ⟨k - 1, by omega⟩
    have hlen : (A ++ lineP false (fun s x => endB s big x) j s i).length < 8796093022208 := by
      have := lineP_len false (fun s x => endB s big x) j s i
      rw [List.length_append]; omega
    have next := ih k (i + 1) (by omega) (by omega)
    rw [show ((i + 1 : Nat) : Int) = (i : Int) + 1 by omega] at next
    rw [foolscapref5_Ends.l1, if_pos (by omega), if_pos (by omega), of_ref k _ _ (by omega)]
    simp only [Option.bind_some]
    rw [w64 (x := (i : Int) + 1) (by omega) (by omega), w64 (x := (s.size : Int) - 1) (by omega) (by omega)]
    by_cases h0 : ofS (bt s i) big = 0
    · rw [if_pos h0, ← lineP_no false (fun s x => endB s big x) j s i (by show endB s big i = false; unfold endB; rw [h0]; rfl)]
      exact next
    · rw [if_neg h0]
      have n0 : (ofS (bt s i) big != 0) = true := bne_iff_ne.mpr h0
      by_cases h1 : (i : Int) = (s.size : Int) - 1
      · rw [if_pos h1, if_pos hlen, List.append_assoc, ← lineP_yes false (fun s x => endB s big x) j s i (by show endB s big i = true; unfold endB; rw [n0, show ((i : Int) == (s.size : Int) - 1) = true from beq_iff_eq.mpr h1]; rfl)]
        exact next
      · rw [if_neg h1, if_pos (by omega), if_pos (by omega), of_ref k _ _ (by omega)]
        simp only [Option.bind_some]
        have n1 : ((i : Int) == (s.size : Int) - 1) = false := beq_eq_false_iff_ne.mpr h1
        by_cases h2 : ofS (bt s ((i : Int) + 1)) big = ofS (bt s i) big
        · rw [if_pos h2, ← lineP_no false (fun s x => endB s big x) j s i (by show endB s big i = false; unfold endB; rw [n0, n1, h2]; simp)]
          exact next
        · rw [if_neg h2, if_pos hlen, List.append_assoc, ← lineP_yes false (fun s x => endB s big x) j s i (by show endB s big i = true; unfold endB; rw [n0, n1, bne_iff_ne.mpr h2]; rfl)]
          exact next
theorem ends_l0 {l : List ByteArray} (hl : Small l) (big : Bool) : ∀ (d k j : Nat), j + d = l.length → d * 1210 + 20 ≤ k →
    foolscapref5_Ends.l0 k l big (plc false (fun s x => endB s big x) l j) (j : Int) = some (endsL l big) := by
  intro d
  induction d with
  | zero =>
    intro k j hj hk
    obtain ⟨k, rfl⟩ : ∃ m, k = m + 1 := ⟨k - 1, by omega⟩
    rw [foolscapref5_Ends.l0, if_neg (by omega), show j = l.length by omega]
    rfl
  | succ d ih =>
    intro k j hj hk
    obtain ⟨k, rfl⟩ : ∃ m, k = m + 1 := ⟨k - 1, by omega⟩
    have hl2 := hl.2.1
    have hz := rd_size hl.2.2 j
    have hA := plc_len false (fun s x => endB s big x) hl.2.2 j
    obtain ⟨s, hse⟩ : ∃ s, rdOf ByteArray.empty l (j : Int) = s := ⟨_, rfl⟩
    have H : ∀ k', d * 1210 + 20 ≤ k' → foolscapref5_Ends.l0 k' l big (plc false (fun s x => endB s big x) l j ++ lineP false (fun s x => endB s big x) j s s.size) ((j : Int) + 1) = some (endsL l big) := by
      intro k' hk'
      have := ih k' (j + 1) (by omega) hk'
      rw [plc_succ, hse] at this
      exact this
    rw [hse] at hz
    have := ends_l1 l big j (by omega) s hz _ (by omega) (d * 1210 + 20) (by omega) _ H s.size k 0 (by omega) (by omega)
    rw [lineP_zero, if_neg (by simp), List.append_nil] at this
    rw [foolscapref5_Ends.l0, if_pos (by omega), if_pos (by omega), hse]
    exact this
theorem ends_ref {l : List ByteArray} (hl : Small l) (big : Bool) (k : Nat) (hk : 60000 ≤ k) : foolscapref5_Ends.f k l big = some (endsL l big) := by
  have hl2 := hl.2.1
  exact ends_l0 hl big l.length k 0 (by omega) (by omega)

theorem rd_drop {L : List S24} {i : Nat} (h : i < L.length) : L.drop i = rd_T24 L (i : Int) :: L.drop (i + 1) := by
  rw [List.drop_eq_getElem_cons h]
  unfold rd_T24
  simp [List.getD_eq_getElem?_getD, List.getElem?_eq_getElem h]
theorem rd_take {L : List S24} {i : Nat} (h : i < L.length) : L.take (i + 1) = L.take i ++ [rd_T24 L (i : Int)] := by
  rw [List.take_add_one, List.getElem?_eq_getElem h]
  unfold rd_T24
  simp [List.getD_eq_getElem?_getD, List.getElem?_eq_getElem h]

/-- behind: what Tail and Next pass over is what it drops. -/
theorem skip_no (x y : Int) (here : Bool) (s : S24) : (!skipB x y here s) = (ltN x y s.f0 s.f1 || (here && (s.f0 == x && s.f1 == y))) := by
  unfold skipB
  rw [ltB_ltN]
  by_cases h1 : ltN x y s.f0 s.f1 = true
  · rw [h1]
    have := ltN_iff.1 h1
    have e1 : ltN s.f0 s.f1 x y = false := ltN_no.2 (by omega)
    have e2 : decide (s.f0 = x ∧ s.f1 = y) = false := decide_eq_false (by omega)
    rw [e1, e2]; rfl
  · have h1 : ltN x y s.f0 s.f1 = false := by simpa using h1
    rw [h1]
    have := ltN_no.1 h1
    by_cases h2 : s.f0 = x ∧ s.f1 = y
    · have e1 : ltN s.f0 s.f1 x y = false := ltN_no.2 (by omega)
      rw [decide_eq_true h2, e1, show (s.f0 == x) = true from beq_iff_eq.mpr h2.1, show (s.f1 == y) = true from beq_iff_eq.mpr h2.2]
      cases here <;> rfl
    · have e1 : ltN s.f0 s.f1 x y = true := ltN_iff.2 (by omega)
      rw [e1]
      by_cases h3 : s.f0 = x
      · rw [show (s.f1 == y) = false from beq_eq_false_iff_ne.mpr (fun h => h2 ⟨h3, h⟩)]; simp
      · rw [show (s.f0 == x) = false from beq_eq_false_iff_ne.mpr h3]; simp

theorem behind_l (L : List S24) (hL : L.length ≤ 50000) (here : Bool) (x y : Int) : ∀ (d k i : Nat) (acc : List S24), i + d = L.length → acc.length ≤ i → d + 1 ≤ k →
    foolscapref5_behind.l0 k L here acc (i : Int) x y = some (acc ++ (L.drop i).filter fun s => !skipB x y here s) := by
  intro d
  induction d with
  | zero =>
    intro k i acc hi ha hk
    obtain ⟨k, rfl⟩ : ∃ m, k = m + 1 := ⟨k - 1, by omega⟩
    rw [foolscapref5_behind.l0, if_neg (by omega), List.drop_eq_nil_of_le (by omega)]
    simp
  | succ d ih =>
    intro k i acc hi ha hk
    obtain ⟨k, rfl⟩ : ∃ m, k = m + 1 := ⟨k - 1, by omega⟩
    obtain ⟨s, hse⟩ : ∃ s, rd_T24 L (i : Int) = s := ⟨_, rfl⟩
    have e1 : wrap64 ((i : Int) + 1) = ((i + 1 : Nat) : Int) := by rw [w64 (by omega) (by omega)]; omega
    have yes : (!skipB x y here s) = true → foolscapref5_behind.l0 k L here (acc ++ [s]) ((i + 1 : Nat) : Int) x y = some (acc ++ (L.drop i).filter fun s => !skipB x y here s) := by
      intro h
      rw [ih k (i + 1) (acc ++ [s]) (by omega) (by simp; omega) (by omega), rd_drop (show i < L.length by omega), hse, List.filter_cons, if_pos h, List.append_assoc]
      rfl
    have no : (!skipB x y here s) = false → foolscapref5_behind.l0 k L here acc ((i + 1 : Nat) : Int) x y = some (acc ++ (L.drop i).filter fun s => !skipB x y here s) := by
      intro h
      rw [ih k (i + 1) acc (by omega) (by omega) (by omega), rd_drop (show i < L.length by omega), hse, List.filter_cons, if_neg (by rw [h]; simp)]
    rw [skip_no] at yes no
    rw [foolscapref5_behind.l0, if_pos (by omega), if_pos (by omega), less_refM, e1, hse]
    simp only [Option.bind_some]
    cases hc : ltN x y s.f0 s.f1 with
    | true =>
      rw [if_pos rfl, if_pos (by omega)]
      exact yes (by rw [hc]; rfl)
    | false =>
      rw [if_neg (by simp)]
      cases here with
      | false =>
        rw [if_neg (by simp)]
        exact no (by rw [hc]; rfl)
      | true =>
        rw [if_pos rfl]
        cases hd : (s.f0 == x && s.f1 == y) with
        | true =>
          rw [if_pos rfl, if_pos (by omega)]
          exact yes (by rw [hc, hd]; rfl)
        | false =>
          rw [if_neg (by simp)]
          exact no (by rw [hc, hd]; rfl)
theorem behind_ref (L : List S24) (hL : L.length ≤ 50000) (here : Bool) (x y : Int) (k : Nat) (hk : 60000 ≤ k) : foolscapref5_behind.f k L x y here = some (behT x y here L) := by
  have := behind_l L hL here x y L.length k 0 [] (by omega) (by simp) (by omega)
  exact this

theorem ahead_l (L : List S24) (hL : L.length ≤ 50000) (x y : Int) : ∀ (i k : Nat) (acc : List S24), i ≤ L.length → acc.length + i ≤ L.length → i + 1 ≤ k →
    foolscapref5_ahead.l0 k L acc ((i : Int) - 1) x y = some (acc ++ ((L.take i).filter fun s => ltN s.f0 s.f1 x y).reverse) := by
  intro i
  induction i with
  | zero =>
    intro k acc hi ha hk
    obtain ⟨k, rfl⟩ : ∃ m, k = m + 1 := ⟨k - 1, by omega⟩
    rw [foolscapref5_ahead.l0, if_neg (by omega)]
    simp
  | succ i ih =>
    intro k acc hi ha hk
    obtain ⟨k, rfl⟩ : ∃ m, k = m + 1 := ⟨k - 1, by omega⟩
    obtain ⟨s, hse⟩ : ∃ s, rd_T24 L (i : Int) = s := ⟨_, rfl⟩
    rw [show ((i + 1 : Nat) : Int) - 1 = (i : Int) by omega]
    rw [foolscapref5_ahead.l0, if_pos (by omega), if_pos (by omega), if_pos (by omega), less_refM, w64 (x := (i : Int) - 1) (by omega) (by omega), hse]
    simp only [Option.bind_some]
    rw [rd_take (show i < L.length by omega), List.filter_append, hse]
    cases hc : ltN s.f0 s.f1 x y with
    | true =>
      rw [if_pos rfl, if_pos (by omega), ih k _ (by omega) (by simp; omega) (by omega)]
      simp [hc]
    | false =>
      rw [if_neg (by simp), ih k _ (by omega) (by omega) (by omega)]
      simp [hc]
theorem ahead_ref (L : List S24) (hL : L.length ≤ 50000) (x y : Int) (k : Nat) (hk : 60000 ≤ k) : foolscapref5_ahead.f k L x y = some ((L.filter fun s => ltN s.f0 s.f1 x y).reverse) := by
  unfold foolscapref5_ahead.f
  rw [w64 (by omega) (by omega)]
  have := ahead_l L hL x y L.length k [] (Nat.le_refl _) (by simp) (by omega)
  rw [List.take_length] at this
  exact this
/-- in order: those with which it begins that are ahead are all that are ahead. -/
theorem ahead_filter {L : List S24} (hL : L.Pairwise LtS) (x y : Int) : aheadL x y L = L.filter fun s => ltN s.f0 s.f1 x y := by
  induction L with
  | nil => rfl
  | cons s r ih =>
    obtain ⟨h1, h2⟩ := List.pairwise_cons.1 hL
    have ih := ih h2
    unfold aheadL at ih ⊢
    rw [List.takeWhile_cons, List.filter_cons]
    cases hc : ltN s.f0 s.f1 x y with
    | true => simp only [if_true]; rw [ih]
    | false =>
      simp only [Bool.false_eq_true, if_false]
      refine (List.filter_eq_nil_iff.2 (fun t ht => ?_)).symm
      have h3 := ltN_iff.1 (h1 t ht)
      have h4 := ltN_no.1 hc
      simp only [Bool.not_eq_true]
      exact ltN_no.2 (by omega)
theorem nth_ref (L : List S24) (n way : Int) (hn : 1 ≤ n) (hn2 : n ≤ 9223372036854775807) : foolscapref5_nth.f L n way = some (if n > (L.length : Int) then no else ((rd_T24 L (n - 1)).f0, (rd_T24 L (n - 1)).f1, way, false, -1, true)) := by
  unfold foolscapref5_nth.f foolscapref5_none.f
  by_cases h : n > (L.length : Int)
  · rw [if_pos h, if_pos h]; rfl
  · rw [if_neg h, if_neg h, w64 (by omega) (by omega), if_pos (by omega), if_pos (by omega)]
theorem place_ref8 (l : List ByteArray) (a b : Int) : foolscapref5_Place.f l a b = some (decide (PlaceP l a b)) := place_class l a b
theorem may_ref8 (l : List ByteArray) (a b n : Int) : foolscapref5_may.f l a b n = some (decide (PlaceP l a b ∧ 1 ≤ n)) := by
  unfold foolscapref5_may.f
  rw [place_ref8]
  simp only [Option.bind_some]
  by_cases h : PlaceP l a b
  · rw [decide_eq_true h, if_pos rfl]
    simp [h]
  · rw [decide_eq_false h, if_neg (by simp), decide_eq_false (fun hh => h hh.1)]

end Go.Proofs.Ytifkfjpkngdhmaa.Pure
