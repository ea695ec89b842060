/- Texts of the proof of 'WordsInLine', merged in build order (part 3 of 3). -/
import Derived.Test.YtifkfjpkngdhmaaRows
import Derived.WalkKit
import Derived.ProofKit
import Derived.OpenShut
import Derived.ShutString
import Derived.ChangeOld
import Derived.Below
import Derived.SizedLaws
import Derived.SliceStrings
import Derived.Lib.SmallJoins
import Derived.Test.YtifkfjpkngdhmaaMWordsInLine2
namespace Go.Proofs.Ytifkfjpkngdhmaa.V
open Go.RowKit Go.Proofs.YtifkfjpkngdhmaaW.PrintWords Go.Proofs.YtifkfjpkngdhmaaW.PrintLast Go.Proofs.YtifkfjpkngdhmaaW.PrintMore
attribute [local go_sem] max2_int min2_int max_two min_two max_three min_three max_four min_four   -- for this text's walks alone
set_option linter.unusedVariables false
set_option linter.unusedSimpArgs false
attribute [local go_sem high] eqA24

/-! ### foolscaplaw8_WordsInLine: function 6 -/
def foolscaplaw8_WordsInLine.f (k : Nat) (l0 : List ByteArray) (a1 : Int) (a2 : Int) (a3 : Int) (a4 : Bool) : Option (Bool) := (foolscaplaw8_known.f).bind fun t446 => (if t446 = true then ((foolscaphelp_Text.f k l0).bind fun t447 => (if t447 = true then ((foolscapseat_Place.f l0 a1 a2).bind fun bt448 => ((words_Next.f l0 bt448.1 bt448.2 (wrap64 ((wrap64 (Int.tmod a3 5)) + 1)) a4 true).bind fun bt451 => ((words_Next.f l0 bt448.1 bt448.2 (wrap64 ((wrap64 (Int.tmod a3 5)) + 1)) a4 false).bind fun bt458 => (if bt451.2.2.2.2.2 = true then ((foolscapref5_Less.f bt448.1 bt448.2 bt451.1 bt451.2.1).bind fun t465 => (if t465 = true then (if 0 ≤ bt451.1 then (if bt451.1 < (l0.length : Int) then (if bt451.2.1 > ((rdOf ByteArray.empty l0 bt451.1).size : Int) then (some false) else (if bt458.2.2.2.2.2 = true then (if (bt451.1 == bt458.1 && (bt451.2.1 == bt458.2.1)) = true then (some true) else (if bt451.1 < bt458.1 then (some (bt451.2.1 == ((rdOf ByteArray.empty l0 bt451.1).size : Int))) else (some false))) else (some true))) else (none)) else (none)) else (some false))) else (if bt458.2.2.2.2.2 = true then (some (decide (bt458.1 > bt448.1))) else (some true)))))) else (some true))) else (some false))
theorem foolscaplaw8_WordsInLine.mono : ∀ a0 a1 a2 a3 a4 k, LeO (foolscaplaw8_WordsInLine.f k a0 a1 a2 a3 a4) (foolscaplaw8_WordsInLine.f (k + 1) a0 a1 a2 a3 a4) := by
  intro a0 a1 a2 a3 a4 k
  unfold foolscaplaw8_WordsInLine.f
  repeat' first
      | (with_reducible exact foolscaphelp_Text.mono _ _)
      | (with_reducible exact LeO.refl _)
      | (with_reducible exact LeO.none _)
      | (with_reducible refine LeO.ite ?_ ?_)
      | (with_reducible refine LeO.bind ?_ (fun _ => ?_))
      | exact foolscaphelp_Text.mono _ _
      | exact LeO.none _
      | refine LeO.ite ?_ ?_
      | refine LeO.bind ?_ (fun _ => ?_)
def foolscaplaw8_WordsInLine.T11 : Bool × List (List Nat × List Nat) := (true, [([], []), ([], []), ([1], [1]), ([0, 2], [0, 2]), ([3], [3]), ([4, 3], [4]), ([5], [5]), ([6, 5], [5, 6]), ([7, 5], [5, 7]), ([5], [5]), ([5], [5]), ([10, 5], [5, 10]), ([11, 5], [5, 11]), ([9, 12, 5], [5, 9, 12]), ([13, 5], [5, 13]), ([14, 5], [5, 14]), ([8, 15, 5], [5, 8, 15]), ([5, 16], [5, 16])])
def foolscaplaw8_WordsInLine.B11 : List Nat := [0, 0, 2, 7, 15, 31, 63, 127, 255, 63, 63, 1087, 3135, 7743, 15935, 32319, 65535, 131071]
theorem foolscaplaw8_WordsInLine.tab11 : rtab .any (opsOf Try.f6 11) = foolscaplaw8_WordsInLine.T11 := by kernel_rfl
theorem foolscaplaw8_WordsInLine.bits11 : waitsOk foolscaplaw8_WordsInLine.T11.2 foolscaplaw8_WordsInLine.B11 = true := by kernel_rfl
def foolscaplaw8_WordsInLine.T13 : Bool × List (List Nat × List Nat) := (true, [([], []), ([0], [0]), ([1], [1]), ([2], [2]), ([3, 2], [2, 3]), ([2], [2]), ([5, 2], [2, 5]), ([4, 6, 2], [2, 4, 6]), ([2, 7], [2, 7]), ([8, 2], [8]), ([9], [9]), ([10, 9], [9, 10]), ([11, 9], [9, 11]), ([9], [9]), ([13, 9], [9, 13]), ([14, 9], [9, 14]), ([12, 15, 9], [9, 12, 15]), ([16, 9, 9], [9, 16]), ([17], [17]), ([18, 17], [17, 18]), ([19, 17], [17, 19]), ([17], [17]), ([17], [17]), ([22, 17], [17, 22]), ([23, 17], [17, 23]), ([21, 24, 17], [17, 21, 24]), ([25, 17], [17, 25]), ([26, 17], [17, 26]), ([20, 27, 17], [17, 20, 27]), ([17, 28, 9], [9, 17, 28]), ([9, 29], [9, 29]), ([30, 17, 0, 1, 2, 3, 4, 5, 6, 7, 8, 9, 10, 11, 12, 13, 14, 15, 16, 17, 18, 19, 20, 21, 22, 23, 24, 25, 26, 27, 28, 29, 30], [30])])
def foolscaplaw8_WordsInLine.B13 : List Nat := [0, 1, 3, 7, 15, 7, 39, 127, 255, 511, 1023, 2047, 4095, 1023, 9215, 25599, 65535, 131071, 262143, 524287, 1048575, 262143, 262143, 4456447, 12845055, 31719423, 65273855, 132382719, 268435455, 536870911, 1073741823, 2147483647]
theorem foolscaplaw8_WordsInLine.tab13 : rtab .any (opsOf Try.f6 13) = foolscaplaw8_WordsInLine.T13 := by kernel_rfl
theorem foolscaplaw8_WordsInLine.bits13 : waitsOk foolscaplaw8_WordsInLine.T13.2 foolscaplaw8_WordsInLine.B13 = true := by kernel_rfl
set_option maxHeartbeats 8000000 in
set_option maxRecDepth 100000 in
theorem foolscaplaw8_WordsInLine.calls (k : Nat) (A0 : Option Addr) (c0 : Nat) (l0 : List ByteArray) (a1 : Int) (a2 : Int) (a3 : Int) (a4 : Bool) (r : Bool) (w : World) (hr0 : Kd.C Kd.string w A0 l0.length l0) (hc0 : l0.length ≤ c0) (h : foolscaplaw8_WordsInLine.f k l0 a1 a2 a3 a4 = some r) (hrT : r = true) :
    Calls Try.prog 6 #[.slice A0 l0.length c0, .int .u16 a1, .int .u16 a2, .int .u8 a3, .bool a4] w fun e w' => e = .returned (.bool r) ∧ Below w.heap.size w w' := by
  have HT := Aside0.mk hrT
  clear hrT
  have hu24 := Try.underlying24
  have hu32 := Try.underlying32
  have HR0 := Aside0.mk hr0
  have HC0 := Aside0.mk hc0
  clear hr0 hc0
  have HB := Aside0.mk (Below.refl w.heap.size w)
  have H : ((foolscaplaw8_known.f).bind fun t446 => (if t446 = true then ((foolscaphelp_Text.f k l0).bind fun t447 => (if t447 = true then ((foolscapseat_Place.f l0 a1 a2).bind fun bt448 => ((words_Next.f l0 bt448.1 bt448.2 (wrap64 ((wrap64 (Int.tmod a3 5)) + 1)) a4 true).bind fun bt451 => ((words_Next.f l0 bt448.1 bt448.2 (wrap64 ((wrap64 (Int.tmod a3 5)) + 1)) a4 false).bind fun bt458 => (if bt451.2.2.2.2.2 = true then ((foolscapref5_Less.f bt448.1 bt448.2 bt451.1 bt451.2.1).bind fun t465 => (if t465 = true then (if 0 ≤ bt451.1 then (if bt451.1 < (l0.length : Int) then (if bt451.2.1 > ((rdOf ByteArray.empty l0 bt451.1).size : Int) then (some false) else (if bt458.2.2.2.2.2 = true then (if (bt451.1 == bt458.1 && (bt451.2.1 == bt458.2.1)) = true then (some true) else (if bt451.1 < bt458.1 then (some (bt451.2.1 == ((rdOf ByteArray.empty l0 bt451.1).size : Int))) else (some false))) else (some true))) else (none)) else (none)) else (some false))) else (if bt458.2.2.2.2.2 = true then (some (decide (bt458.1 > bt448.1))) else (some true)))))) else (some true))) else (some false))) = some r := h
  clear h
  replace H := Option.bind_eq_some_iff.mp H
  obtain ⟨t446, A60, H⟩ := H
  replace H : (if t446 = true then ((foolscaphelp_Text.f k l0).bind fun t447 => (if t447 = true then ((foolscapseat_Place.f l0 a1 a2).bind fun bt448 => ((words_Next.f l0 bt448.1 bt448.2 (wrap64 ((wrap64 (Int.tmod a3 5)) + 1)) a4 true).bind fun bt451 => ((words_Next.f l0 bt448.1 bt448.2 (wrap64 ((wrap64 (Int.tmod a3 5)) + 1)) a4 false).bind fun bt458 => (if bt451.2.2.2.2.2 = true then ((foolscapref5_Less.f bt448.1 bt448.2 bt451.1 bt451.2.1).bind fun t465 => (if t465 = true then (if 0 ≤ bt451.1 then (if bt451.1 < (l0.length : Int) then (if bt451.2.1 > ((rdOf ByteArray.empty l0 bt451.1).size : Int) then (some false) else (if bt458.2.2.2.2.2 = true then (if (bt451.1 == bt458.1 && (bt451.2.1 == bt458.2.1)) = true then (some true) else (if bt451.1 < bt458.1 then (some (bt451.2.1 == ((rdOf ByteArray.empty l0 bt451.1).size : Int))) else (some false))) else (some true))) else (none)) else (none)) else (some false))) else (if bt458.2.2.2.2.2 = true then (some (decide (bt458.1 > bt448.1))) else (some true)))))) else (some true))) else (some false)) = some r := H
  have A6 := Aside0.mk A60
  clear A60
  by_cases c7 : t446 = true
  · subst c7
    have H1 : ((foolscaphelp_Text.f k l0).bind fun t447 => (if t447 = true then ((foolscapseat_Place.f l0 a1 a2).bind fun bt448 => ((words_Next.f l0 bt448.1 bt448.2 (wrap64 ((wrap64 (Int.tmod a3 5)) + 1)) a4 true).bind fun bt451 => ((words_Next.f l0 bt448.1 bt448.2 (wrap64 ((wrap64 (Int.tmod a3 5)) + 1)) a4 false).bind fun bt458 => (if bt451.2.2.2.2.2 = true then ((foolscapref5_Less.f bt448.1 bt448.2 bt451.1 bt451.2.1).bind fun t465 => (if t465 = true then (if 0 ≤ bt451.1 then (if bt451.1 < (l0.length : Int) then (if bt451.2.1 > ((rdOf ByteArray.empty l0 bt451.1).size : Int) then (some false) else (if bt458.2.2.2.2.2 = true then (if (bt451.1 == bt458.1 && (bt451.2.1 == bt458.2.1)) = true then (some true) else (if bt451.1 < bt458.1 then (some (bt451.2.1 == ((rdOf ByteArray.empty l0 bt451.1).size : Int))) else (some false))) else (some true))) else (none)) else (none)) else (some false))) else (if bt458.2.2.2.2.2 = true then (some (decide (bt458.1 > bt448.1))) else (some true)))))) else (some true))) = some r := by rw [if_pos rfl] at H; exact H
    clear H
    have H := H1
    clear H1
    replace H := Option.bind_eq_some_iff.mp H
    obtain ⟨t447, A80, H⟩ := H
    replace H : (if t447 = true then ((foolscapseat_Place.f l0 a1 a2).bind fun bt448 => ((words_Next.f l0 bt448.1 bt448.2 (wrap64 ((wrap64 (Int.tmod a3 5)) + 1)) a4 true).bind fun bt451 => ((words_Next.f l0 bt448.1 bt448.2 (wrap64 ((wrap64 (Int.tmod a3 5)) + 1)) a4 false).bind fun bt458 => (if bt451.2.2.2.2.2 = true then ((foolscapref5_Less.f bt448.1 bt448.2 bt451.1 bt451.2.1).bind fun t465 => (if t465 = true then (if 0 ≤ bt451.1 then (if bt451.1 < (l0.length : Int) then (if bt451.2.1 > ((rdOf ByteArray.empty l0 bt451.1).size : Int) then (some false) else (if bt458.2.2.2.2.2 = true then (if (bt451.1 == bt458.1 && (bt451.2.1 == bt458.2.1)) = true then (some true) else (if bt451.1 < bt458.1 then (some (bt451.2.1 == ((rdOf ByteArray.empty l0 bt451.1).size : Int))) else (some false))) else (some true))) else (none)) else (none)) else (some false))) else (if bt458.2.2.2.2.2 = true then (some (decide (bt458.1 > bt448.1))) else (some true)))))) else (some true)) = some r := H
    have A8 := Aside0.mk A80
    clear A80
    by_cases c9 : t447 = true
    · subst c9
      have H1 : ((foolscapseat_Place.f l0 a1 a2).bind fun bt448 => ((words_Next.f l0 bt448.1 bt448.2 (wrap64 ((wrap64 (Int.tmod a3 5)) + 1)) a4 true).bind fun bt451 => ((words_Next.f l0 bt448.1 bt448.2 (wrap64 ((wrap64 (Int.tmod a3 5)) + 1)) a4 false).bind fun bt458 => (if bt451.2.2.2.2.2 = true then ((foolscapref5_Less.f bt448.1 bt448.2 bt451.1 bt451.2.1).bind fun t465 => (if t465 = true then (if 0 ≤ bt451.1 then (if bt451.1 < (l0.length : Int) then (if bt451.2.1 > ((rdOf ByteArray.empty l0 bt451.1).size : Int) then (some false) else (if bt458.2.2.2.2.2 = true then (if (bt451.1 == bt458.1 && (bt451.2.1 == bt458.2.1)) = true then (some true) else (if bt451.1 < bt458.1 then (some (bt451.2.1 == ((rdOf ByteArray.empty l0 bt451.1).size : Int))) else (some false))) else (some true))) else (none)) else (none)) else (some false))) else (if bt458.2.2.2.2.2 = true then (some (decide (bt458.1 > bt448.1))) else (some true)))))) = some r := by rw [if_pos rfl] at H; exact H
      clear H
      have H := H1
      clear H1
      replace H := Option.bind_eq_some_iff.mp H
      obtain ⟨⟨t448, t449⟩, A100, H⟩ := H
      replace H : ((words_Next.f l0 t448 t449 (wrap64 ((wrap64 (Int.tmod a3 5)) + 1)) a4 true).bind fun bt451 => ((words_Next.f l0 t448 t449 (wrap64 ((wrap64 (Int.tmod a3 5)) + 1)) a4 false).bind fun bt458 => (if bt451.2.2.2.2.2 = true then ((foolscapref5_Less.f t448 t449 bt451.1 bt451.2.1).bind fun t465 => (if t465 = true then (if 0 ≤ bt451.1 then (if bt451.1 < (l0.length : Int) then (if bt451.2.1 > ((rdOf ByteArray.empty l0 bt451.1).size : Int) then (some false) else (if bt458.2.2.2.2.2 = true then (if (bt451.1 == bt458.1 && (bt451.2.1 == bt458.2.1)) = true then (some true) else (if bt451.1 < bt458.1 then (some (bt451.2.1 == ((rdOf ByteArray.empty l0 bt451.1).size : Int))) else (some false))) else (some true))) else (none)) else (none)) else (some false))) else (if bt458.2.2.2.2.2 = true then (some (decide (bt458.1 > t448))) else (some true))))) = some r := H
      have A10 := Aside0.mk A100
      clear A100
      replace H := Option.bind_eq_some_iff.mp H
      obtain ⟨⟨t451, t452, t453, t454, t455, t456⟩, A110, H⟩ := H
      replace H : ((words_Next.f l0 t448 t449 (wrap64 ((wrap64 (Int.tmod a3 5)) + 1)) a4 false).bind fun bt458 => (if t456 = true then ((foolscapref5_Less.f t448 t449 t451 t452).bind fun t465 => (if t465 = true then (if 0 ≤ t451 then (if t451 < (l0.length : Int) then (if t452 > ((rdOf ByteArray.empty l0 t451).size : Int) then (some false) else (if bt458.2.2.2.2.2 = true then (if (t451 == bt458.1 && (t452 == bt458.2.1)) = true then (some true) else (if t451 < bt458.1 then (some (t452 == ((rdOf ByteArray.empty l0 t451).size : Int))) else (some false))) else (some true))) else (none)) else (none)) else (some false))) else (if bt458.2.2.2.2.2 = true then (some (decide (bt458.1 > t448))) else (some true)))) = some r := H
      have A11 := Aside0.mk A110
      clear A110
      replace H := Option.bind_eq_some_iff.mp H
      obtain ⟨⟨t458, t459, t460, t461, t462, t463⟩, A120, H⟩ := H
      replace H : (if t456 = true then ((foolscapref5_Less.f t448 t449 t451 t452).bind fun t465 => (if t465 = true then (if 0 ≤ t451 then (if t451 < (l0.length : Int) then (if t452 > ((rdOf ByteArray.empty l0 t451).size : Int) then (some false) else (if t463 = true then (if (t451 == t458 && (t452 == t459)) = true then (some true) else (if t451 < t458 then (some (t452 == ((rdOf ByteArray.empty l0 t451).size : Int))) else (some false))) else (some true))) else (none)) else (none)) else (some false))) else (if t463 = true then (some (decide (t458 > t448))) else (some true))) = some r := H
      have A12 := Aside0.mk A120
      clear A120
      by_cases c13 : t456 = true
      · subst c13
        have H1 : ((foolscapref5_Less.f t448 t449 t451 t452).bind fun t465 => (if t465 = true then (if 0 ≤ t451 then (if t451 < (l0.length : Int) then (if t452 > ((rdOf ByteArray.empty l0 t451).size : Int) then (some false) else (if t463 = true then (if (t451 == t458 && (t452 == t459)) = true then (some true) else (if t451 < t458 then (some (t452 == ((rdOf ByteArray.empty l0 t451).size : Int))) else (some false))) else (some true))) else (none)) else (none)) else (some false))) = some r := by rw [if_pos rfl] at H; exact H
        clear H
        have H := H1
        clear H1
        replace H := Option.bind_eq_some_iff.mp H
        obtain ⟨t465, A140, H⟩ := H
        replace H : (if t465 = true then (if 0 ≤ t451 then (if t451 < (l0.length : Int) then (if t452 > ((rdOf ByteArray.empty l0 t451).size : Int) then (some false) else (if t463 = true then (if (t451 == t458 && (t452 == t459)) = true then (some true) else (if t451 < t458 then (some (t452 == ((rdOf ByteArray.empty l0 t451).size : Int))) else (some false))) else (some true))) else (none)) else (none)) else (some false)) = some r := H
        have A14 := Aside0.mk A140
        clear A140
        by_cases c15 : t465 = true
        · subst c15
          have H1 : (if 0 ≤ t451 then (if t451 < (l0.length : Int) then (if t452 > ((rdOf ByteArray.empty l0 t451).size : Int) then (some false) else (if t463 = true then (if (t451 == t458 && (t452 == t459)) = true then (some true) else (if t451 < t458 then (some (t452 == ((rdOf ByteArray.empty l0 t451).size : Int))) else (some false))) else (some true))) else (none)) else (none)) = some r := by rw [if_pos rfl] at H; exact H
          clear H
          have H := H1
          clear H1
          by_cases c16 : 0 ≤ t451
          · rw [if_pos c16] at H
            have c16b0 : decide (0 ≤ t451) = true := decide_eq_true c16
            clear c16
            by_cases c17 : t451 < (l0.length : Int)
            · rw [if_pos c17] at H
              have c17b0 : decide (t451 < (l0.length : Int)) = true := decide_eq_true c17
              clear c17
              by_cases c18 : t452 > ((rdOf ByteArray.empty l0 t451).size : Int)
              · rw [if_pos c18] at H
                have c18b0 : decide (((rdOf ByteArray.empty l0 t451).size : Int) < t452) = true := decide_eq_true c18
                clear c18
                exact absurd ((Option.some.inj H).trans HT.out) (by decide)
              · rw [if_neg c18] at H
                have c18b0 : decide (((rdOf ByteArray.empty l0 t451).size : Int) < t452) = false := decide_eq_false c18
                clear c18
                by_cases c36 : t463 = true
                · subst c36
                  have H1 : (if (t451 == t458 && (t452 == t459)) = true then (some true) else (if t451 < t458 then (some (t452 == ((rdOf ByteArray.empty l0 t451).size : Int))) else (some false))) = some r := by rw [if_pos rfl] at H; exact H
                  clear H
                  have H := H1
                  clear H1
                  by_cases c37 : (t451 == t458 && (t452 == t459)) = true
                  · rw [if_pos c37] at H
                    have c37b0 : (t451 == t458 && (t452 == t459)) = true := c37
                    (try (have c37b1 : decide (t451 = t458 && (t452 == t459)) = true := by simpa using c37))
                    (try (have c37b2 : (t451 == t458 && (t452 == t459)) = true := by simpa using c37))
                    clear c37
                    obtain rfl := Option.some.inj H
                    go_enter Try.func6, Try.ntmps6
                    try go_wp2_with (first | ((with_reducible refine gate_callee (f := 8) rfl ?_); refine goesL_ (some 17) rfl rfl Try.func8 (by kernel_rfl) rfl #[] rfl (by (try simp only [List.map_toArray, List.map_cons, List.map_nil]); first | done | rfl | (simp only [List.length_drop, List.length_take]; rfl)) ?_; (with_reducible refine (foolscaplaw8_known.calls  true _ A6.out rfl).mono ?_); rintro e w38 ⟨rfl, hb⟩; refine ⟨_, rfl, ?_⟩; have n0_ := Aside0.mk (below_step (by repeat (first | (with_reducible first | exact HB.out | apply below_alloc | apply pw_below_drewN | apply below_drew1) | exact HB.out)) hb); clear HB; have HB := n0_; clear n0_; (try clear hb); (try clear hb2); (try clear hk); (try clear hi)) | ((with_reducible refine gate_callee (f := 9) rfl ?_); refine goesL_ (some 20) rfl rfl Try.func9 (by kernel_rfl) rfl #[.slice A0 l0.length c0] rfl (by (try simp only [List.map_toArray, List.map_cons, List.map_nil]); first | done | rfl | (simp only [List.length_drop, List.length_take]; rfl)) ?_; (with_reducible refine (foolscaphelp_Text.calls k _ _ l0 true _ ?side1 ?side2 A8.out).mono ?_); (case side1 => repeat (first | exact (Kd.C_below HR0.out HB.out) | (with_reducible refine Kd.C_alloc ?_ _) | (with_reducible refine Kd.C_drewN ?_ _) | (with_reducible refine Kd.C_drew ?_))); (case side2 => exact HC0.out); rintro e w' ⟨rfl, ⟨nd, rfl⟩⟩; refine ⟨_, rfl, ?_⟩; (try (rw [drewN_self w38]; generalize hq_ : World.drewN w38 _ = w38; have n0_ : Aside0 (Below w.heap.size w w38) := ⟨by rw [← hq_]; exact (by repeat (first | (with_reducible first | exact HB.out | apply below_alloc | apply pw_below_drewN | apply below_drew1) | exact HB.out))⟩; clear HB hq_; have HB := n0_; clear n0_))) | ((with_reducible refine gate_callee (f := 10) rfl ?_); refine goesL_ (some 25) rfl rfl Try.func10 (by kernel_rfl) rfl #[.slice A0 l0.length c0, .int .u16 a1, .int .u16 a2] rfl (by (try simp only [List.map_toArray, List.map_cons, List.map_nil]); first | done | rfl | (simp only [List.length_drop, List.length_take]; rfl)) ?_; (with_reducible refine (foolscapseat_Place.calls _ _ l0 a1 a2 t448 t449 _ ?side1 ?side2 A10.out).mono ?_); (case side1 => repeat (first | exact (Kd.C_below HR0.out HB.out) | (with_reducible refine Kd.C_alloc ?_ _) | (with_reducible refine Kd.C_drewN ?_ _) | (with_reducible refine Kd.C_drew ?_))); (case side2 => exact HC0.out); rintro e w39 ⟨rfl, hb⟩; refine ⟨_, rfl, ?_⟩; have n0_ := Aside0.mk (below_step (by repeat (first | (with_reducible first | exact HB.out | apply below_alloc | apply pw_below_drewN | apply below_drew1) | exact HB.out)) hb); clear HB; have HB := n0_; clear n0_; (try clear hb); (try clear hb2); (try clear hk); (try clear hi)) | ((with_reducible refine gate_dst (N := 11) rfl ?_); (try (refine gate_guard (by rfl) ?_; dsimp only)); refine box_event ?hg (N := 11) ?hd (cs := #[.int .i64 0, .int .i64 0]) (t := 24) ?hr ?_; (case hd => rfl); (case hg => rfl); (case hr => first | (go_simp; done) | (go_simp; rfl)); intro gb450 hg w40 hbox hb; have n0_ := Aside0.mk (below_step (by repeat (first | (with_reducible first | exact HB.out | apply below_alloc | apply pw_below_drewN | apply below_drew1) | exact HB.out)) hb); have n1_ := Aside0.mk (hbox); have n2_ := Aside0.mk ((by rw [hg]; exact (below_size (by repeat (first | (with_reducible first | exact HB.out | apply below_alloc | apply pw_below_drewN | apply below_drew1) | exact HB.out))) : w.heap.size ≤ gb450)); have n3_ := Aside0.mk ((by rw [hg]; exact (below_size (by repeat (first | (with_reducible first | exact HB.out | apply below_alloc | apply pw_below_drewN | apply below_drew1) | exact HB.out))) : w.heap.size ≤ gb450)); clear HB; have HB := n0_; have BK450 := n1_; have GW450 := n2_; have GE450 := n3_; clear n0_ n1_ n2_ n3_; clear hb hbox hg; have hcz41_0 : w40.cell? ⟨gb450, 0, none⟩ = some (.int .i64 0) := (blk_cell BK450.out 0).trans rfl; have hcz41_1 : w40.cell? ⟨gb450, 1, none⟩ = some (.int .i64 0) := (blk_cell BK450.out 1).trans rfl; have hfz41_0 := blk_frozen BK450.out 0; have hfz41_1 := blk_frozen BK450.out 1) | ((with_reducible refine gate_callee (f := 11) rfl ?_); refine goesL_ (some 35) rfl rfl Try.func11 (by kernel_rfl) rfl #[.slice A0 l0.length c0, .agg #[.int .i64 t448, .int .i64 t449], .int .i64 (wrap64 ((wrap64 (Int.tmod a3 5)) + 1)), .bool a4, .bool true] rfl (by (try simp only [List.map_toArray, List.map_cons, List.map_nil]); first | done | rfl | (simp only [List.length_drop, List.length_take]; rfl)) ?_; (with_reducible refine (words_Next.calls _ _ l0 t448 t449 (wrap64 ((wrap64 (Int.tmod a3 5)) + 1)) a4 true t451 t452 t453 t454 t455 true _ ?side1 ?side2 A11.out).mono ?_); (case side1 => exact Kd.C_below HR0.out (by repeat (first | (with_reducible first | exact HB.out | apply below_alloc | apply pw_below_drewN | apply below_drew1 | refine below_set ?_ GE450.out) | exact HB.out))); (case side2 => exact HC0.out); rintro e w42 ⟨rfl, hb⟩; refine ⟨_, rfl, ?_⟩; have n0_ := Aside0.mk (blk_below (g := gb450) (o := .cells #[.int .i64 t448, .int .i64 t449] 24 (0, 0)) (by refine blk_put (cs := #[.int .i64 t448, .int .i64 0]) ?_ 1 _ rfl; refine blk_put (cs := #[.int .i64 0, .int .i64 0]) ?_ 0 _ rfl; exact BK450.out) hb); have n1_ := Aside0.mk (below_step (by repeat (first | (with_reducible first | exact HB.out | apply below_alloc | apply pw_below_drewN | apply below_drew1 | refine below_set ?_ GE450.out) | exact HB.out)) hb); clear BK450; clear HB; have BK450 := n0_; have HB := n1_; clear n0_ n1_; (try clear hb); (try clear hb2); (try clear hk); (try clear hi)) | ((with_reducible refine gate_dst (N := 13) rfl ?_); (try (refine gate_guard (by rfl) ?_; dsimp only)); refine box_event ?hg (N := 13) ?hd (cs := #[.int .i64 0, .int .i64 0, .int .i64 0, .bool false, .int .i64 0]) (t := 32) ?hr ?_; (case hd => rfl); (case hg => rfl); (case hr => first | (go_simp; done) | (go_simp; rfl)); intro gb457 hg w43 hbox hb; have n0_ := Aside0.mk (blk_below (g := gb450) (o := .cells #[.int .i64 t448, .int .i64 t449] 24 (0, 0)) (by exact BK450.out) hb); have n1_ := Aside0.mk (below_step (by repeat (first | (with_reducible first | exact HB.out | apply below_alloc | apply pw_below_drewN | apply below_drew1 | refine below_set ?_ GE450.out) | exact HB.out)) hb); have n2_ := Aside0.mk (hbox); have n3_ := Aside0.mk ((by rw [hg]; exact (below_size (by repeat (first | (with_reducible first | exact HB.out | apply below_alloc | apply pw_below_drewN | apply below_drew1 | refine below_set ?_ GE450.out) | exact HB.out))) : w.heap.size ≤ gb457)); have n4_ := Aside0.mk ((by rw [hg]; exact (below_size (by repeat (first | (with_reducible first | exact HB.out | apply below_alloc | apply pw_below_drewN | apply below_drew1 | refine below_set ?_ GE450.out) | exact HB.out))) : w.heap.size ≤ gb457)); have n5_ := Aside0.mk ((by rw [hg]; exact Nat.ne_of_lt (blk_lt (g := gb450) (o := .cells #[.int .i64 t448, .int .i64 t449] 24 (0, 0)) (by exact BK450.out)) : gb450 ≠ gb457)); have n6_ := Aside0.mk ((by rw [hg]; exact Nat.ne_of_gt (blk_lt (g := gb450) (o := .cells #[.int .i64 t448, .int .i64 t449] 24 (0, 0)) (by exact BK450.out)) : gb457 ≠ gb450)); clear BK450; clear HB; have BK450 := n0_; have HB := n1_; have BK457 := n2_; have GW457 := n3_; have GE457 := n4_; have NB450_457 := n5_; have NB457_450 := n6_; clear n0_ n1_ n2_ n3_ n4_ n5_ n6_; clear hb hbox hg; have hnb44 := NB457_450.out; have hnc44 := NB450_457.out; have hcz45_0 : w43.cell? ⟨gb457, 0, none⟩ = some (.int .i64 0) := (blk_cell BK457.out 0).trans rfl; have hcz45_1 : w43.cell? ⟨gb457, 1, none⟩ = some (.int .i64 0) := (blk_cell BK457.out 1).trans rfl; have hcz45_2 : w43.cell? ⟨gb457, 2, none⟩ = some (.int .i64 0) := (blk_cell BK457.out 2).trans rfl; have hcz45_3 : w43.cell? ⟨gb457, 3, none⟩ = some (.bool false) := (blk_cell BK457.out 3).trans rfl; have hcz45_4 : w43.cell? ⟨gb457, 4, none⟩ = some (.int .i64 0) := (blk_cell BK457.out 4).trans rfl; have hfz45_0 := blk_frozen BK457.out 0; have hfz45_1 := blk_frozen BK457.out 1; have hfz45_2 := blk_frozen BK457.out 2; have hfz45_3 := blk_frozen BK457.out 3; have hfz45_4 := blk_frozen BK457.out 4; have hcz46_0 : w43.cell? ⟨gb450, 0, none⟩ = some (.int .i64 t448) := (blk_cell BK450.out 0).trans rfl; have hcz46_1 : w43.cell? ⟨gb450, 1, none⟩ = some (.int .i64 t449) := (blk_cell BK450.out 1).trans rfl; have hfz46_0 := blk_frozen BK450.out 0; have hfz46_1 := blk_frozen BK450.out 1) | ((with_reducible refine gate_callee (f := 11) rfl ?_); refine goesL_ (some 43) rfl rfl Try.func11 (by kernel_rfl) rfl #[.slice A0 l0.length c0, .agg #[.int .i64 t448, .int .i64 t449], .int .i64 (wrap64 ((wrap64 (Int.tmod a3 5)) + 1)), .bool a4, .bool false] rfl (by (try simp only [List.map_toArray, List.map_cons, List.map_nil]); first | done | rfl | (simp only [List.length_drop, List.length_take]; rfl)) ?_; (with_reducible refine (words_Next.calls _ _ l0 t448 t449 (wrap64 ((wrap64 (Int.tmod a3 5)) + 1)) a4 false t458 t459 t460 t461 t462 true _ ?side1 ?side2 A12.out).mono ?_); (case side1 => exact Kd.C_below HR0.out (by repeat (first | (with_reducible first | exact HB.out | apply below_alloc | apply pw_below_drewN | apply below_drew1 | refine below_set ?_ GE450.out | refine below_set ?_ GE457.out) | exact HB.out))); (case side2 => exact HC0.out); rintro e w47 ⟨rfl, hb⟩; refine ⟨_, rfl, ?_⟩; have n0_ := Aside0.mk (blk_below (g := gb450) (o := .cells #[.int .i64 t448, .int .i64 t449] 24 (0, 0)) (by refine blk_far ?_ NB450_457.out _; refine blk_far ?_ NB450_457.out _; refine blk_far ?_ NB450_457.out _; refine blk_far ?_ NB450_457.out _; refine blk_far ?_ NB450_457.out _; exact BK450.out) hb); have n1_ := Aside0.mk (blk_below (g := gb457) (o := .cells #[.int .i64 t451, .int .i64 t452, .int .i64 t453, .bool t454, .int .i64 t455] 32 (0, 0)) (by refine blk_put (cs := #[.int .i64 t451, .int .i64 t452, .int .i64 t453, .bool t454, .int .i64 0]) ?_ 4 _ rfl; refine blk_put (cs := #[.int .i64 t451, .int .i64 t452, .int .i64 t453, .bool false, .int .i64 0]) ?_ 3 _ rfl; refine blk_put (cs := #[.int .i64 t451, .int .i64 t452, .int .i64 0, .bool false, .int .i64 0]) ?_ 2 _ rfl; refine blk_put (cs := #[.int .i64 t451, .int .i64 0, .int .i64 0, .bool false, .int .i64 0]) ?_ 1 _ rfl; refine blk_put (cs := #[.int .i64 0, .int .i64 0, .int .i64 0, .bool false, .int .i64 0]) ?_ 0 _ rfl; exact BK457.out) hb); have n2_ := Aside0.mk (below_step (by repeat (first | (with_reducible first | exact HB.out | apply below_alloc | apply pw_below_drewN | apply below_drew1 | refine below_set ?_ GE450.out | refine below_set ?_ GE457.out) | exact HB.out)) hb); clear BK450; clear BK457; clear HB; have BK450 := n0_; have BK457 := n1_; have HB := n2_; clear n0_ n1_ n2_; (try clear hb); (try clear hb2); (try clear hk); (try clear hi)) | ((with_reducible refine gate_dst (N := 15) rfl ?_); (try (refine gate_guard (by rfl) ?_; dsimp only)); refine box_event ?hg (N := 15) ?hd (cs := #[.int .i64 0, .int .i64 0, .int .i64 0, .bool false, .int .i64 0]) (t := 32) ?hr ?_; (case hd => rfl); (case hg => rfl); (case hr => first | (go_simp; done) | (go_simp; rfl)); intro gb464 hg w48 hbox hb; have n0_ := Aside0.mk (blk_below (g := gb450) (o := .cells #[.int .i64 t448, .int .i64 t449] 24 (0, 0)) (by exact BK450.out) hb); have n1_ := Aside0.mk (blk_below (g := gb457) (o := .cells #[.int .i64 t451, .int .i64 t452, .int .i64 t453, .bool t454, .int .i64 t455] 32 (0, 0)) (by exact BK457.out) hb); have n2_ := Aside0.mk (below_step (by repeat (first | (with_reducible first | exact HB.out | apply below_alloc | apply pw_below_drewN | apply below_drew1 | refine below_set ?_ GE450.out | refine below_set ?_ GE457.out) | exact HB.out)) hb); have n3_ := Aside0.mk (hbox); have n4_ := Aside0.mk ((by rw [hg]; exact (below_size (by repeat (first | (with_reducible first | exact HB.out | apply below_alloc | apply pw_below_drewN | apply below_drew1 | refine below_set ?_ GE450.out | refine below_set ?_ GE457.out) | exact HB.out))) : w.heap.size ≤ gb464)); have n5_ := Aside0.mk ((by rw [hg]; exact (below_size (by repeat (first | (with_reducible first | exact HB.out | apply below_alloc | apply pw_below_drewN | apply below_drew1 | refine below_set ?_ GE450.out | refine below_set ?_ GE457.out) | exact HB.out))) : w.heap.size ≤ gb464)); have n6_ := Aside0.mk ((by rw [hg]; exact Nat.ne_of_lt (blk_lt (g := gb450) (o := .cells #[.int .i64 t448, .int .i64 t449] 24 (0, 0)) (by exact BK450.out)) : gb450 ≠ gb464)); have n7_ := Aside0.mk ((by rw [hg]; exact Nat.ne_of_gt (blk_lt (g := gb450) (o := .cells #[.int .i64 t448, .int .i64 t449] 24 (0, 0)) (by exact BK450.out)) : gb464 ≠ gb450)); have n8_ := Aside0.mk ((by rw [hg]; exact Nat.ne_of_lt (blk_lt (g := gb457) (o := .cells #[.int .i64 t451, .int .i64 t452, .int .i64 t453, .bool t454, .int .i64 t455] 32 (0, 0)) (by exact BK457.out)) : gb457 ≠ gb464)); have n9_ := Aside0.mk ((by rw [hg]; exact Nat.ne_of_gt (blk_lt (g := gb457) (o := .cells #[.int .i64 t451, .int .i64 t452, .int .i64 t453, .bool t454, .int .i64 t455] 32 (0, 0)) (by exact BK457.out)) : gb464 ≠ gb457)); clear BK450; clear BK457; clear HB; have BK450 := n0_; have BK457 := n1_; have HB := n2_; have BK464 := n3_; have GW464 := n4_; have GE464 := n5_; have NB450_464 := n6_; have NB464_450 := n7_; have NB457_464 := n8_; have NB464_457 := n9_; clear n0_ n1_ n2_ n3_ n4_ n5_ n6_ n7_ n8_ n9_; clear hb hbox hg; have hnb49 := NB464_450.out; have hnc49 := NB450_464.out; have hnb50 := NB464_457.out; have hnc50 := NB457_464.out; have hcz51_0 : w48.cell? ⟨gb464, 0, none⟩ = some (.int .i64 0) := (blk_cell BK464.out 0).trans rfl; have hcz51_1 : w48.cell? ⟨gb464, 1, none⟩ = some (.int .i64 0) := (blk_cell BK464.out 1).trans rfl; have hcz51_2 : w48.cell? ⟨gb464, 2, none⟩ = some (.int .i64 0) := (blk_cell BK464.out 2).trans rfl; have hcz51_3 : w48.cell? ⟨gb464, 3, none⟩ = some (.bool false) := (blk_cell BK464.out 3).trans rfl; have hcz51_4 : w48.cell? ⟨gb464, 4, none⟩ = some (.int .i64 0) := (blk_cell BK464.out 4).trans rfl; have hfz51_0 := blk_frozen BK464.out 0; have hfz51_1 := blk_frozen BK464.out 1; have hfz51_2 := blk_frozen BK464.out 2; have hfz51_3 := blk_frozen BK464.out 3; have hfz51_4 := blk_frozen BK464.out 4))
                    have n0_ : Aside0 ((((((w48.setCell ⟨gb464, 0, none⟩ (.int .i64 t458)).setCell ⟨gb464, 1, none⟩ (.int .i64 t459)).setCell ⟨gb464, 2, none⟩ (.int .i64 t460)).setCell ⟨gb464, 3, none⟩ (.bool t461)).setCell ⟨gb464, 4, none⟩ (.int .i64 t462)).heap[gb450]? = some (.cells #[.int .i64 t448, .int .i64 t449] 24 (0, 0))) := ⟨by refine blk_far ?_ NB450_464.out _; refine blk_far ?_ NB450_464.out _; refine blk_far ?_ NB450_464.out _; refine blk_far ?_ NB450_464.out _; refine blk_far ?_ NB450_464.out _; exact BK450.out⟩
                    have n1_ : Aside0 ((((((w48.setCell ⟨gb464, 0, none⟩ (.int .i64 t458)).setCell ⟨gb464, 1, none⟩ (.int .i64 t459)).setCell ⟨gb464, 2, none⟩ (.int .i64 t460)).setCell ⟨gb464, 3, none⟩ (.bool t461)).setCell ⟨gb464, 4, none⟩ (.int .i64 t462)).heap[gb457]? = some (.cells #[.int .i64 t451, .int .i64 t452, .int .i64 t453, .bool t454, .int .i64 t455] 32 (0, 0))) := ⟨by refine blk_far ?_ NB457_464.out _; refine blk_far ?_ NB457_464.out _; refine blk_far ?_ NB457_464.out _; refine blk_far ?_ NB457_464.out _; refine blk_far ?_ NB457_464.out _; exact BK457.out⟩
                    have n2_ : Aside0 ((((((w48.setCell ⟨gb464, 0, none⟩ (.int .i64 t458)).setCell ⟨gb464, 1, none⟩ (.int .i64 t459)).setCell ⟨gb464, 2, none⟩ (.int .i64 t460)).setCell ⟨gb464, 3, none⟩ (.bool t461)).setCell ⟨gb464, 4, none⟩ (.int .i64 t462)).heap[gb464]? = some (.cells #[.int .i64 t458, .int .i64 t459, .int .i64 t460, .bool t461, .int .i64 t462] 32 (0, 0))) := ⟨by refine blk_put (cs := #[.int .i64 t458, .int .i64 t459, .int .i64 t460, .bool t461, .int .i64 0]) ?_ 4 _ rfl; refine blk_put (cs := #[.int .i64 t458, .int .i64 t459, .int .i64 t460, .bool false, .int .i64 0]) ?_ 3 _ rfl; refine blk_put (cs := #[.int .i64 t458, .int .i64 t459, .int .i64 0, .bool false, .int .i64 0]) ?_ 2 _ rfl; refine blk_put (cs := #[.int .i64 t458, .int .i64 0, .int .i64 0, .bool false, .int .i64 0]) ?_ 1 _ rfl; refine blk_put (cs := #[.int .i64 0, .int .i64 0, .int .i64 0, .bool false, .int .i64 0]) ?_ 0 _ rfl; exact BK464.out⟩
                    have n3_ : Aside0 (Below w.heap.size w (((((w48.setCell ⟨gb464, 0, none⟩ (.int .i64 t458)).setCell ⟨gb464, 1, none⟩ (.int .i64 t459)).setCell ⟨gb464, 2, none⟩ (.int .i64 t460)).setCell ⟨gb464, 3, none⟩ (.bool t461)).setCell ⟨gb464, 4, none⟩ (.int .i64 t462))) := ⟨by repeat (first | (with_reducible first | exact HB.out | apply below_alloc | apply pw_below_drewN | apply below_drew1 | refine below_set ?_ GE450.out | refine below_set ?_ GE457.out | refine below_set ?_ GE464.out) | exact HB.out)⟩
                    (try clear BK450)
                    (try clear BK457)
                    (try clear BK464)
                    (try clear HB)
                    generalize (((((w48.setCell ⟨gb464, 0, none⟩ (.int .i64 t458)).setCell ⟨gb464, 1, none⟩ (.int .i64 t459)).setCell ⟨gb464, 2, none⟩ (.int .i64 t460)).setCell ⟨gb464, 3, none⟩ (.bool t461)).setCell ⟨gb464, 4, none⟩ (.int .i64 t462)) = w52 at n0_ n1_ n2_ n3_ ⊢
                    have BK450 := n0_
                    have BK457 := n1_
                    have BK464 := n2_
                    have HB := n3_
                    clear n0_ n1_ n2_ n3_
                    have n0_ := Aside0.mk (blk_drew BK450.out)
                    have n1_ := Aside0.mk (blk_drew BK457.out)
                    have n2_ := Aside0.mk (blk_drew BK464.out)
                    have n3_ := Aside0.mk (below_drew1 HB.out)
                    clear BK450
                    clear BK457
                    clear BK464
                    clear HB
                    have BK450 := n0_
                    have BK457 := n1_
                    have BK464 := n2_
                    have HB := n3_
                    clear n0_ n1_ n2_ n3_
                    have p466 : 0 ≤ (t451 : Int) := of_decide_eq_true (by first | (with_reducible assumption) | assumption)
                    have q466 : t451 < (l0.length : Int) := of_decide_eq_true (by first | (with_reducible assumption) | assumption)
                    obtain ⟨ad466, e466, hx466_0⟩ := Kd.at_string HR0.out t451 p466 q466
                    have hw466_0 := hx466_0
                    cases e466
                    replace hx466_0 := (HB.out.cell (World.block_lt_of_cell? w _ hx466_0)).trans hx466_0
                    replace p466 := eq_true p466
                    replace q466 := eq_true q466
                    refine start_ (n := 18) (S := fun w' => w'.cell? ⟨gb450, 0, none⟩ = some (.int .i64 t448) ∧ w'.cell? ⟨gb450, 1, none⟩ = some (.int .i64 t449) ∧ w'.cell? ⟨gb457, 0, none⟩ = some (.int .i64 t451) ∧ w'.cell? ⟨gb457, 1, none⟩ = some (.int .i64 t452) ∧ w'.cell? ⟨gb457, 2, none⟩ = some (.int .i64 t453) ∧ w'.cell? ⟨gb457, 3, none⟩ = some (.bool t454) ∧ w'.cell? ⟨gb457, 4, none⟩ = some (.int .i64 t455) ∧ w'.cell? (ad466.add (t451).toNat) = some (.string (rdOf ByteArray.empty l0 t451))) (ds := []) #[false, false, false, false, false, false, false, false, false, false, false, false, false, false, false, false, false, false] (by kernel_rfl) rfl rfl ⟨(blk_cell BK450.out 0).trans rfl, (blk_cell BK450.out 1).trans rfl, (blk_cell BK457.out 0).trans rfl, (blk_cell BK457.out 1).trans rfl, (blk_cell BK457.out 2).trans rfl, (blk_cell BK457.out 3).trans rfl, (blk_cell BK457.out 4).trans rfl, ((HB.out.cell (World.block_lt_of_cell? w _ hw466_0)).trans hw466_0)⟩ (fun hHeld => ?_); refine with_tabW foolscaplaw8_WordsInLine.tab11 foolscaplaw8_WordsInLine.bits11 (fun HT_ HW_ => ?_)
                    generalize w52.drew = w53 at BK450 BK457 BK464 HB hx466_0 hHeld ⊢
                    refine pure_ (i := 1) (N := some 59) (v := ?_) (a' := ?_) #[false, true, false, false, false, false, false, false, false, false, false, false, false, false, false, false, false, false] rfl rfl (any_of HT_.out (by kernel_rfl)) (fun _ _ _ h => h) (Or.inl ⟨by rfl, ?_⟩) ?_ ?_
                    rotate_left
                    · intro w'
                      go_simp
                      with_reducible rfl
                    rotate_left
                    · simp only [Act.put, List.setIfInBounds_toArray, List.set_cons_zero, List.set_cons_succ, i64_w, i32_w]
                      rfl
                    refine take_ (i := 0) (N := some 58) (v := ?_) (a' := ?_) #[true, true, false, false, false, false, false, false, false, false, false, false, false, false, false, false, false, false] rfl rfl (take_ofW HT_.out HW_.out (by kernel_rfl)) (fun _ _ _ h => h) (Or.inl ⟨by rfl, ?_⟩) hHeld ?_ ?_
                    rotate_left
                    · rintro w' ⟨s0, s1, s2, s3, s4, s5, s6, s7⟩
                      go_simp
                      with_reducible rfl
                    rotate_left
                    · simp only [Act.put, List.setIfInBounds_toArray, List.set_cons_zero, List.set_cons_succ, i64_w, i32_w]
                      rfl
                    refine take_ (i := 2) (N := some 60) (v := ?_) (a' := ?_) #[true, true, true, false, false, false, false, false, false, false, false, false, false, false, false, false, false, false] rfl rfl (take_ofW HT_.out HW_.out (by kernel_rfl)) (fun _ _ _ h => h) (Or.inl ⟨by rfl, ?_⟩) hHeld ?_ ?_
                    rotate_left
                    · rintro w' ⟨s0, s1, s2, s3, s4, s5, s6, s7⟩
                      go_simp
                      with_reducible rfl
                    rotate_left
                    · simp only [Act.put, List.setIfInBounds_toArray, List.set_cons_zero, List.set_cons_succ, i64_w, i32_w]
                      rfl
                    refine one_ (i := 3) (N := some 61) #[true, true, true, true, false, false, false, false, false, false, false, false, false, false, false, false, false, false] rfl rfl (one_of HT_.out (by kernel_rfl)) (by decide) (fun K hK => ?_)
                    refine goes_ Try.func27 (by kernel_rfl) rfl #[.agg #[.int .i64 t448, .int .i64 t449], .agg #[.int .i64 t451, .int .i64 t452]] (by rfl) rfl rfl (by (try simp only [List.map_toArray, List.map_cons, List.map_nil]); first | done | rfl | (simp only [List.length_drop, List.length_take]; rfl)) ?_
                    with_reducible refine (foolscapref5_Less.calls t448 t449 t451 t452 true _ A14.out).mono ?_
                    rintro e w54 ⟨rfl, hb⟩
                    refine ⟨_, rfl, ?_⟩
                    have n0_ := Aside0.mk (blk_below (g := gb450) (o := .cells #[.int .i64 t448, .int .i64 t449] 24 (0, 0)) (by exact BK450.out) hb)
                    have n1_ := Aside0.mk (blk_below (g := gb457) (o := .cells #[.int .i64 t451, .int .i64 t452, .int .i64 t453, .bool t454, .int .i64 t455] 32 (0, 0)) (by exact BK457.out) hb)
                    have n2_ := Aside0.mk (blk_below (g := gb464) (o := .cells #[.int .i64 t458, .int .i64 t459, .int .i64 t460, .bool t461, .int .i64 t462] 32 (0, 0)) (by exact BK464.out) hb)
                    have n3_ := Aside0.mk (below_step (by repeat (first | (with_reducible first | exact HB.out | apply below_alloc | apply pw_below_drewN | apply below_drew1 | refine below_set ?_ GE450.out | refine below_set ?_ GE457.out | refine below_set ?_ GE464.out) | exact HB.out)) hb)
                    clear BK450
                    clear BK457
                    clear BK464
                    clear HB
                    have BK450 := n0_
                    have BK457 := n1_
                    have BK464 := n2_
                    have HB := n3_
                    clear n0_ n1_ n2_ n3_
                    (try clear hb)
                    (try clear hb2)
                    (try clear hk)
                    (try clear hi)
                    refine hK.out _ _ ⟨(blk_cell BK450.out 0).trans rfl, (blk_cell BK450.out 1).trans rfl, (blk_cell BK457.out 0).trans rfl, (blk_cell BK457.out 1).trans rfl, (blk_cell BK457.out 2).trans rfl, (blk_cell BK457.out 3).trans rfl, (blk_cell BK457.out 4).trans rfl, ((HB.out.cell (World.block_lt_of_cell? w _ hw466_0)).trans hw466_0)⟩ (fun hHeld => ?_)
                    clear hK K
                    refine norm_ (a' := ?_) ?_ ?_
                    rotate_left
                    · show Act.put _ (some 61) _ = _
                      simp only [Act.put, List.setIfInBounds_toArray, List.set_cons_zero, List.set_cons_succ, i64_w, i32_w]
                      rfl
                    refine pure_ (i := 4) (N := some 62) (v := ?_) (a' := ?_) #[true, true, true, true, true, false, false, false, false, false, false, false, false, false, false, false, false, false] rfl rfl (any_of HT_.out (by kernel_rfl)) (fun _ _ _ h => h) (Or.inl ⟨by rfl, ?_⟩) ?_ ?_
                    rotate_left
                    · intro w'
                      go_simp
                      with_reducible rfl
                    rotate_left
                    · simp only [Act.put, List.setIfInBounds_toArray, List.set_cons_zero, List.set_cons_succ, i64_w, i32_w]
                      rfl
                    refine pure_ (i := 5) (N := some 63) (v := ?_) (a' := ?_) #[true, true, true, true, true, true, false, false, false, false, false, false, false, false, false, false, false, false] rfl rfl (any_of HT_.out (by kernel_rfl)) (fun _ _ _ h => h) (Or.inl ⟨by rfl, ?_⟩) ?_ ?_
                    rotate_left
                    · intro w'
                      go_simp
                      with_reducible rfl
                    rotate_left
                    · simp only [Act.put, List.setIfInBounds_toArray, List.set_cons_zero, List.set_cons_succ, i64_w, i32_w]
                      rfl
                    refine pure_ (i := 6) (N := some 64) (v := ?_) (a' := ?_) #[true, true, true, true, true, true, true, false, false, false, false, false, false, false, false, false, false, false] rfl rfl (any_of HT_.out (by kernel_rfl)) (fun _ _ _ h => h) (Or.inl ⟨by rfl, ?_⟩) ?_ ?_
                    rotate_left
                    · intro w'
                      go_simp
                      with_reducible rfl
                    rotate_left
                    · simp only [Act.put, List.setIfInBounds_toArray, List.set_cons_zero, List.set_cons_succ, i64_w, i32_w]
                      rfl
                    refine pure_ (i := 7) (N := some 65) (v := ?_) (a' := ?_) #[true, true, true, true, true, true, true, true, false, false, false, false, false, false, false, false, false, false] rfl rfl (any_of HT_.out (by kernel_rfl)) (fun _ _ _ h => h) (Or.inl ⟨by rfl, ?_⟩) ?_ ?_
                    rotate_left
                    · intro w'
                      go_simp
                      with_reducible rfl
                    rotate_left
                    · simp only [Act.put, List.setIfInBounds_toArray, List.set_cons_zero, List.set_cons_succ, i64_w, i32_w]
                      rfl
                    refine pure_ (i := 9) (N := some 67) (v := ?_) (a' := ?_) #[true, true, true, true, true, true, true, true, false, true, false, false, false, false, false, false, false, false] rfl rfl (any_of HT_.out (by kernel_rfl)) (fun _ _ _ h => h) (Or.inl ⟨by rfl, ?_⟩) ?_ ?_
                    rotate_left
                    · intro w'
                      go_simp
                      with_reducible rfl
                    rotate_left
                    · simp only [Act.put, List.setIfInBounds_toArray, List.set_cons_zero, List.set_cons_succ, i64_w, i32_w]
                      rfl
                    refine pure_ (i := 10) (N := some 68) (v := ?_) (a' := ?_) #[true, true, true, true, true, true, true, true, false, true, true, false, false, false, false, false, false, false] rfl rfl (any_of HT_.out (by kernel_rfl)) (fun _ _ _ h => h) (Or.inl ⟨by rfl, ?_⟩) ?_ ?_
                    rotate_left
                    · intro w'
                      go_simp
                      with_reducible rfl
                    rotate_left
                    · simp only [Act.put, List.setIfInBounds_toArray, List.set_cons_zero, List.set_cons_succ, i64_w, i32_w]
                      rfl
                    refine pure_ (i := 11) (N := some 69) (v := ?_) (a' := ?_) #[true, true, true, true, true, true, true, true, false, true, true, true, false, false, false, false, false, false] rfl rfl (any_of HT_.out (by kernel_rfl)) (fun _ _ _ h => h) (Or.inl ⟨by rfl, ?_⟩) ?_ ?_
                    rotate_left
                    · intro w'
                      go_simp
                      with_reducible rfl
                    rotate_left
                    · simp only [Act.put, List.setIfInBounds_toArray, List.set_cons_zero, List.set_cons_succ, i64_w, i32_w]
                      rfl
                    refine take_ (i := 8) (N := some 66) (v := ?_) (a' := ?_) #[true, true, true, true, true, true, true, true, true, true, true, true, false, false, false, false, false, false] rfl rfl (take_ofW HT_.out HW_.out (by kernel_rfl)) (fun _ _ _ h => h) (Or.inl ⟨by rfl, ?_⟩) hHeld ?_ ?_
                    rotate_left
                    · rintro w' ⟨s0, s1, s2, s3, s4, s5, s6, s7⟩
                      go_simp
                      with_reducible rfl
                    rotate_left
                    · simp only [Act.put, List.setIfInBounds_toArray, List.set_cons_zero, List.set_cons_succ, i64_w, i32_w]
                      rfl
                    refine take_ (i := 12) (N := some 70) (v := ?_) (a' := ?_) #[true, true, true, true, true, true, true, true, true, true, true, true, true, false, false, false, false, false] rfl rfl (take_ofW HT_.out HW_.out (by kernel_rfl)) (fun _ _ _ h => h) (Or.inl ⟨by rfl, ?_⟩) hHeld ?_ ?_
                    rotate_left
                    · rintro w' ⟨s0, s1, s2, s3, s4, s5, s6, s7⟩
                      go_simp
                      with_reducible rfl
                    rotate_left
                    · simp only [Act.put, List.setIfInBounds_toArray, List.set_cons_zero, List.set_cons_succ, i64_w, i32_w]
                      rfl
                    refine pure_ (i := 13) (N := some 71) (v := ?_) (a' := ?_) #[true, true, true, true, true, true, true, true, true, true, true, true, true, true, false, false, false, false] rfl rfl (any_of HT_.out (by kernel_rfl)) (fun _ _ _ h => h) (Or.inl ⟨by rfl, ?_⟩) ?_ ?_
                    rotate_left
                    · intro w'
                      go_simp
                      with_reducible rfl
                    rotate_left
                    · simp only [Act.put, List.setIfInBounds_toArray, List.set_cons_zero, List.set_cons_succ, i64_w, i32_w]
                      rfl
                    refine take_ (i := 14) (N := some 72) (v := ?_) (a' := ?_) #[true, true, true, true, true, true, true, true, true, true, true, true, true, true, true, false, false, false] rfl rfl (take_ofW HT_.out HW_.out (by kernel_rfl)) (fun _ _ _ h => h) (Or.inl ⟨by rfl, ?_⟩) hHeld ?_ ?_
                    rotate_left
                    · rintro w' ⟨s0, s1, s2, s3, s4, s5, s6, s7⟩
                      go_simp
                      with_reducible rfl
                    rotate_left
                    · simp only [Act.put, List.setIfInBounds_toArray, List.set_cons_zero, List.set_cons_succ, i64_w, i32_w]
                      rfl
                    refine pure_ (i := 15) (N := some 73) (v := ?_) (a' := ?_) #[true, true, true, true, true, true, true, true, true, true, true, true, true, true, true, true, false, false] rfl rfl (any_of HT_.out (by kernel_rfl)) (fun _ _ _ h => h) (Or.inl ⟨by rfl, ?_⟩) ?_ ?_
                    rotate_left
                    · intro w'
                      go_simp
                      with_reducible rfl
                    rotate_left
                    · simp only [Act.put, List.setIfInBounds_toArray, List.set_cons_zero, List.set_cons_succ, i64_w, i32_w]
                      rfl
                    refine pure_ (i := 16) (N := some 74) (v := ?_) (a' := ?_) #[true, true, true, true, true, true, true, true, true, true, true, true, true, true, true, true, true, false] rfl rfl (any_of HT_.out (by kernel_rfl)) (fun _ _ _ h => h) (Or.inl ⟨by rfl, ?_⟩) ?_ ?_
                    rotate_left
                    · intro w'
                      go_simp
                      with_reducible rfl
                    rotate_left
                    · simp only [Act.put, List.setIfInBounds_toArray, List.set_cons_zero, List.set_cons_succ, i64_w, i32_w]
                      rfl
                    refine pure_ (i := 17) (N := some 75) (v := ?_) (a' := ?_) #[true, true, true, true, true, true, true, true, true, true, true, true, true, true, true, true, true, true] rfl rfl (any_of HT_.out (by kernel_rfl)) (fun _ _ _ h => h) (Or.inl ⟨by rfl, ?_⟩) ?_ ?_
                    rotate_left
                    · intro w'
                      go_simp
                      with_reducible rfl
                    rotate_left
                    · simp only [Act.put, List.setIfInBounds_toArray, List.set_cons_zero, List.set_cons_succ, i64_w, i32_w]
                      rfl
                    refine done_ (done_of HT_.out (by kernel_rfl)) ?_
                    try go_wp2
                    have n0_ := Aside0.mk (blk_drew BK450.out)
                    have n1_ := Aside0.mk (blk_drew BK457.out)
                    have n2_ := Aside0.mk (blk_drew BK464.out)
                    have n3_ := Aside0.mk (below_drew1 HB.out)
                    clear BK450
                    clear BK457
                    clear BK464
                    clear HB
                    have BK450 := n0_
                    have BK457 := n1_
                    have BK464 := n2_
                    have HB := n3_
                    clear n0_ n1_ n2_ n3_
                    refine start_ (n := 32) (S := fun w' => w'.cell? ⟨gb457, 0, none⟩ = some (.int .i64 t451) ∧ w'.cell? ⟨gb457, 1, none⟩ = some (.int .i64 t452) ∧ w'.cell? ⟨gb457, 2, none⟩ = some (.int .i64 t453) ∧ w'.cell? ⟨gb457, 3, none⟩ = some (.bool t454) ∧ w'.cell? ⟨gb457, 4, none⟩ = some (.int .i64 t455) ∧ w'.cell? ⟨gb464, 0, none⟩ = some (.int .i64 t458) ∧ w'.cell? ⟨gb464, 1, none⟩ = some (.int .i64 t459) ∧ w'.cell? ⟨gb464, 2, none⟩ = some (.int .i64 t460) ∧ w'.cell? ⟨gb464, 3, none⟩ = some (.bool t461) ∧ w'.cell? ⟨gb464, 4, none⟩ = some (.int .i64 t462)) (ds := []) #[false, false, false, false, false, false, false, false, false, false, false, false, false, false, false, false, false, false, false, false, false, false, false, false, false, false, false, false, false, false, false, false] (by kernel_rfl) rfl rfl ⟨(blk_cell BK457.out 0).trans rfl, (blk_cell BK457.out 1).trans rfl, (blk_cell BK457.out 2).trans rfl, (blk_cell BK457.out 3).trans rfl, (blk_cell BK457.out 4).trans rfl, (blk_cell BK464.out 0).trans rfl, (blk_cell BK464.out 1).trans rfl, (blk_cell BK464.out 2).trans rfl, (blk_cell BK464.out 3).trans rfl, (blk_cell BK464.out 4).trans rfl⟩ (fun hHeld => ?_); refine with_tabW foolscaplaw8_WordsInLine.tab13 foolscaplaw8_WordsInLine.bits13 (fun HT_ HW_ => ?_)
                    generalize w54.drew = w55 at BK450 BK457 BK464 HB hHeld ⊢
                    refine pure_ (i := 0) (N := some 76) (v := ?_) (a' := ?_) #[true, false, false, false, false, false, false, false, false, false, false, false, false, false, false, false, false, false, false, false, false, false, false, false, false, false, false, false, false, false, false, false] rfl rfl (any_of HT_.out (by kernel_rfl)) (fun _ _ _ h => h) (Or.inl ⟨by rfl, ?_⟩) ?_ ?_
                    rotate_left
                    · intro w'
                      go_simp
                      with_reducible rfl
                    rotate_left
                    · simp only [Act.put, List.setIfInBounds_toArray, List.set_cons_zero, List.set_cons_succ, i64_w, i32_w]
                      rfl
                    refine pure_ (i := 1) (N := some 77) (v := ?_) (a' := ?_) #[true, true, false, false, false, false, false, false, false, false, false, false, false, false, false, false, false, false, false, false, false, false, false, false, false, false, false, false, false, false, false, false] rfl rfl (any_of HT_.out (by kernel_rfl)) (fun _ _ _ h => h) (Or.inl ⟨by rfl, ?_⟩) ?_ ?_
                    rotate_left
                    · intro w'
                      go_simp
                      with_reducible rfl
                    rotate_left
                    · simp only [Act.put, List.setIfInBounds_toArray, List.set_cons_zero, List.set_cons_succ, i64_w, i32_w]
                      rfl
                    refine pure_ (i := 2) (N := some 78) (v := ?_) (a' := ?_) #[true, true, true, false, false, false, false, false, false, false, false, false, false, false, false, false, false, false, false, false, false, false, false, false, false, false, false, false, false, false, false, false] rfl rfl (any_of HT_.out (by kernel_rfl)) (fun _ _ _ h => h) (Or.inl ⟨by rfl, ?_⟩) ?_ ?_
                    rotate_left
                    · intro w'
                      go_simp
                      with_reducible rfl
                    rotate_left
                    · simp only [Act.put, List.setIfInBounds_toArray, List.set_cons_zero, List.set_cons_succ, i64_w, i32_w]
                      rfl
                    refine pure_ (i := 3) (N := some 79) (v := ?_) (a' := ?_) #[true, true, true, true, false, false, false, false, false, false, false, false, false, false, false, false, false, false, false, false, false, false, false, false, false, false, false, false, false, false, false, false] rfl rfl (any_of HT_.out (by kernel_rfl)) (fun _ _ _ h => h) (Or.inl ⟨by rfl, ?_⟩) ?_ ?_
                    rotate_left
                    · intro w'
                      go_simp
                      with_reducible rfl
                    rotate_left
                    · simp only [Act.put, List.setIfInBounds_toArray, List.set_cons_zero, List.set_cons_succ, i64_w, i32_w]
                      rfl
                    refine pure_ (i := 5) (N := some 81) (v := ?_) (a' := ?_) #[true, true, true, true, false, true, false, false, false, false, false, false, false, false, false, false, false, false, false, false, false, false, false, false, false, false, false, false, false, false, false, false] rfl rfl (any_of HT_.out (by kernel_rfl)) (fun _ _ _ h => h) (Or.inl ⟨by rfl, ?_⟩) ?_ ?_
                    rotate_left
                    · intro w'
                      go_simp
                      with_reducible rfl
                    rotate_left
                    · simp only [Act.put, List.setIfInBounds_toArray, List.set_cons_zero, List.set_cons_succ, i64_w, i32_w]
                      rfl
                    refine take_ (i := 4) (N := some 80) (v := ?_) (a' := ?_) #[true, true, true, true, true, true, false, false, false, false, false, false, false, false, false, false, false, false, false, false, false, false, false, false, false, false, false, false, false, false, false, false] rfl rfl (take_ofW HT_.out HW_.out (by kernel_rfl)) (fun _ _ _ h => h) (Or.inl ⟨by rfl, ?_⟩) hHeld ?_ ?_
                    rotate_left
                    · rintro w' ⟨s0, s1, s2, s3, s4, s5, s6, s7, s8, s9⟩
                      go_simp
                      with_reducible rfl
                    rotate_left
                    · simp only [Act.put, List.setIfInBounds_toArray, List.set_cons_zero, List.set_cons_succ, i64_w, i32_w]
                      rfl
                    refine take_ (i := 6) (N := some 82) (v := ?_) (a' := ?_) #[true, true, true, true, true, true, true, false, false, false, false, false, false, false, false, false, false, false, false, false, false, false, false, false, false, false, false, false, false, false, false, false] rfl rfl (take_ofW HT_.out HW_.out (by kernel_rfl)) (fun _ _ _ h => h) (Or.inl ⟨by rfl, ?_⟩) hHeld ?_ ?_
                    rotate_left
                    · rintro w' ⟨s0, s1, s2, s3, s4, s5, s6, s7, s8, s9⟩
                      go_simp
                      with_reducible rfl
                    rotate_left
                    · simp only [Act.put, List.setIfInBounds_toArray, List.set_cons_zero, List.set_cons_succ, i64_w, i32_w]
                      rfl
                    refine pure_ (i := 7) (N := some 83) (v := ?_) (a' := ?_) #[true, true, true, true, true, true, true, true, false, false, false, false, false, false, false, false, false, false, false, false, false, false, false, false, false, false, false, false, false, false, false, false] rfl rfl (any_of HT_.out (by kernel_rfl)) (fun _ _ _ h => h) (Or.inl ⟨by rfl, ?_⟩) ?_ ?_
                    rotate_left
                    · intro w'
                      go_simp
                      with_reducible rfl
                    rotate_left
                    · simp only [Act.put, List.setIfInBounds_toArray, List.set_cons_zero, List.set_cons_succ, i64_w, i32_w]
                      rfl
                    refine pure_ (i := 8) (N := some 84) (v := ?_) (a' := ?_) #[true, true, true, true, true, true, true, true, true, false, false, false, false, false, false, false, false, false, false, false, false, false, false, false, false, false, false, false, false, false, false, false] rfl rfl (any_of HT_.out (by kernel_rfl)) (fun _ _ _ h => h) (Or.inl ⟨by rfl, ?_⟩) ?_ ?_
                    rotate_left
                    · intro w'
                      go_simp
                      with_reducible rfl
                    rotate_left
                    · simp only [Act.put, List.setIfInBounds_toArray, List.set_cons_zero, List.set_cons_succ, i64_w, i32_w]
                      rfl
                    refine pure_ (i := 9) (N := some 85) (v := ?_) (a' := ?_) #[true, true, true, true, true, true, true, true, true, true, false, false, false, false, false, false, false, false, false, false, false, false, false, false, false, false, false, false, false, false, false, false] rfl rfl (any_of HT_.out (by kernel_rfl)) (fun _ _ _ h => h) (Or.inl ⟨by rfl, ?_⟩) ?_ ?_
                    rotate_left
                    · intro w'
                      go_simp
                      with_reducible rfl
                    rotate_left
                    · simp only [Act.put, List.setIfInBounds_toArray, List.set_cons_zero, List.set_cons_succ, i64_w, i32_w]
                      rfl
                    refine pure_ (i := 10) (N := some 86) (v := undef) (a' := ?_) #[true, true, true, true, true, true, true, true, true, true, true, false, false, false, false, false, false, false, false, false, false, false, false, false, false, false, false, false, false, false, false, false] rfl rfl (any_of HT_.out (by kernel_rfl)) (fun _ _ _ h => h) (Or.inr ⟨by rfl, rfl⟩) ?_ ?_
                    rotate_left
                    · simp only [Act.put, List.setIfInBounds_toArray, List.set_cons_zero, List.set_cons_succ, i64_w, i32_w]
                      rfl
                    refine pure_ (i := 11) (N := some 87) (v := undef) (a' := ?_) #[true, true, true, true, true, true, true, true, true, true, true, true, false, false, false, false, false, false, false, false, false, false, false, false, false, false, false, false, false, false, false, false] rfl rfl (any_of HT_.out (by kernel_rfl)) (fun _ _ _ h => h) (Or.inr ⟨by rfl, rfl⟩) ?_ ?_
                    rotate_left
                    · simp only [Act.put, List.setIfInBounds_toArray, List.set_cons_zero, List.set_cons_succ, i64_w, i32_w]
                      rfl
                    refine pure_ (i := 12) (N := some 88) (v := undef) (a' := ?_) #[true, true, true, true, true, true, true, true, true, true, true, true, true, false, false, false, false, false, false, false, false, false, false, false, false, false, false, false, false, false, false, false] rfl rfl (any_of HT_.out (by kernel_rfl)) (fun _ _ _ h => h) (Or.inr ⟨by rfl, rfl⟩) ?_ ?_
                    rotate_left
                    · simp only [Act.put, List.setIfInBounds_toArray, List.set_cons_zero, List.set_cons_succ, i64_w, i32_w]
                      rfl
                    refine pure_ (i := 13) (N := some 89) (v := undef) (a' := ?_) #[true, true, true, true, true, true, true, true, true, true, true, true, true, true, false, false, false, false, false, false, false, false, false, false, false, false, false, false, false, false, false, false] rfl rfl (any_of HT_.out (by kernel_rfl)) (fun _ _ _ h => h) (Or.inr ⟨by rfl, rfl⟩) ?_ ?_
                    rotate_left
                    · simp only [Act.put, List.setIfInBounds_toArray, List.set_cons_zero, List.set_cons_succ, i64_w, i32_w]
                      rfl
                    refine pure_ (i := 14) (N := some 90) (v := undef) (a' := ?_) #[true, true, true, true, true, true, true, true, true, true, true, true, true, true, true, false, false, false, false, false, false, false, false, false, false, false, false, false, false, false, false, false] rfl rfl (any_of HT_.out (by kernel_rfl)) (fun _ _ _ h => h) (Or.inr ⟨by rfl, rfl⟩) ?_ ?_
                    rotate_left
                    · simp only [Act.put, List.setIfInBounds_toArray, List.set_cons_zero, List.set_cons_succ, i64_w, i32_w]
                      rfl
                    refine pure_ (i := 15) (N := some 91) (v := undef) (a' := ?_) #[true, true, true, true, true, true, true, true, true, true, true, true, true, true, true, true, false, false, false, false, false, false, false, false, false, false, false, false, false, false, false, false] rfl rfl (any_of HT_.out (by kernel_rfl)) (fun _ _ _ h => h) (Or.inr ⟨by rfl, rfl⟩) ?_ ?_
                    rotate_left
                    · simp only [Act.put, List.setIfInBounds_toArray, List.set_cons_zero, List.set_cons_succ, i64_w, i32_w]
                      rfl
                    refine pure_ (i := 16) (N := some 92) (v := undef) (a' := ?_) #[true, true, true, true, true, true, true, true, true, true, true, true, true, true, true, true, true, false, false, false, false, false, false, false, false, false, false, false, false, false, false, false] rfl rfl (any_of HT_.out (by kernel_rfl)) (fun _ _ _ h => h) (Or.inr ⟨by rfl, rfl⟩) ?_ ?_
                    rotate_left
                    · simp only [Act.put, List.setIfInBounds_toArray, List.set_cons_zero, List.set_cons_succ, i64_w, i32_w]
                      rfl
                    refine pure_ (i := 17) (N := some 93) (v := undef) (a' := ?_) #[true, true, true, true, true, true, true, true, true, true, true, true, true, true, true, true, true, true, false, false, false, false, false, false, false, false, false, false, false, false, false, false] rfl rfl (any_of HT_.out (by kernel_rfl)) (fun _ _ _ h => h) (Or.inr ⟨by rfl, rfl⟩) ?_ ?_
                    rotate_left
                    · simp only [Act.put, List.setIfInBounds_toArray, List.set_cons_zero, List.set_cons_succ, i64_w, i32_w]
                      rfl
                    refine pure_ (i := 18) (N := some 94) (v := undef) (a' := ?_) #[true, true, true, true, true, true, true, true, true, true, true, true, true, true, true, true, true, true, true, false, false, false, false, false, false, false, false, false, false, false, false, false] rfl rfl (any_of HT_.out (by kernel_rfl)) (fun _ _ _ h => h) (Or.inr ⟨by rfl, rfl⟩) ?_ ?_
                    rotate_left
                    · simp only [Act.put, List.setIfInBounds_toArray, List.set_cons_zero, List.set_cons_succ, i64_w, i32_w]
                      rfl
                    refine pure_ (i := 19) (N := some 95) (v := undef) (a' := ?_) #[true, true, true, true, true, true, true, true, true, true, true, true, true, true, true, true, true, true, true, true, false, false, false, false, false, false, false, false, false, false, false, false] rfl rfl (any_of HT_.out (by kernel_rfl)) (fun _ _ _ h => h) (Or.inr ⟨by rfl, rfl⟩) ?_ ?_
                    rotate_left
                    · simp only [Act.put, List.setIfInBounds_toArray, List.set_cons_zero, List.set_cons_succ, i64_w, i32_w]
                      rfl
                    refine pure_ (i := 20) (N := some 96) (v := undef) (a' := ?_) #[true, true, true, true, true, true, true, true, true, true, true, true, true, true, true, true, true, true, true, true, true, false, false, false, false, false, false, false, false, false, false, false] rfl rfl (any_of HT_.out (by kernel_rfl)) (fun _ _ _ h => h) (Or.inr ⟨by rfl, rfl⟩) ?_ ?_
                    rotate_left
                    · simp only [Act.put, List.setIfInBounds_toArray, List.set_cons_zero, List.set_cons_succ, i64_w, i32_w]
                      rfl
                    refine pure_ (i := 21) (N := some 97) (v := undef) (a' := ?_) #[true, true, true, true, true, true, true, true, true, true, true, true, true, true, true, true, true, true, true, true, true, true, false, false, false, false, false, false, false, false, false, false] rfl rfl (any_of HT_.out (by kernel_rfl)) (fun _ _ _ h => h) (Or.inr ⟨by rfl, rfl⟩) ?_ ?_
                    rotate_left
                    · simp only [Act.put, List.setIfInBounds_toArray, List.set_cons_zero, List.set_cons_succ, i64_w, i32_w]
                      rfl
                    refine pure_ (i := 22) (N := some 98) (v := undef) (a' := ?_) #[true, true, true, true, true, true, true, true, true, true, true, true, true, true, true, true, true, true, true, true, true, true, true, false, false, false, false, false, false, false, false, false] rfl rfl (any_of HT_.out (by kernel_rfl)) (fun _ _ _ h => h) (Or.inr ⟨by rfl, rfl⟩) ?_ ?_
                    rotate_left
                    · simp only [Act.put, List.setIfInBounds_toArray, List.set_cons_zero, List.set_cons_succ, i64_w, i32_w]
                      rfl
                    refine pure_ (i := 23) (N := some 99) (v := undef) (a' := ?_) #[true, true, true, true, true, true, true, true, true, true, true, true, true, true, true, true, true, true, true, true, true, true, true, true, false, false, false, false, false, false, false, false] rfl rfl (any_of HT_.out (by kernel_rfl)) (fun _ _ _ h => h) (Or.inr ⟨by rfl, rfl⟩) ?_ ?_
                    rotate_left
                    · simp only [Act.put, List.setIfInBounds_toArray, List.set_cons_zero, List.set_cons_succ, i64_w, i32_w]
                      rfl
                    refine pure_ (i := 24) (N := some 100) (v := undef) (a' := ?_) #[true, true, true, true, true, true, true, true, true, true, true, true, true, true, true, true, true, true, true, true, true, true, true, true, true, false, false, false, false, false, false, false] rfl rfl (any_of HT_.out (by kernel_rfl)) (fun _ _ _ h => h) (Or.inr ⟨by rfl, rfl⟩) ?_ ?_
                    rotate_left
                    · simp only [Act.put, List.setIfInBounds_toArray, List.set_cons_zero, List.set_cons_succ, i64_w, i32_w]
                      rfl
                    refine pure_ (i := 25) (N := some 101) (v := undef) (a' := ?_) #[true, true, true, true, true, true, true, true, true, true, true, true, true, true, true, true, true, true, true, true, true, true, true, true, true, true, false, false, false, false, false, false] rfl rfl (any_of HT_.out (by kernel_rfl)) (fun _ _ _ h => h) (Or.inr ⟨by rfl, rfl⟩) ?_ ?_
                    rotate_left
                    · simp only [Act.put, List.setIfInBounds_toArray, List.set_cons_zero, List.set_cons_succ, i64_w, i32_w]
                      rfl
                    refine pure_ (i := 26) (N := some 102) (v := undef) (a' := ?_) #[true, true, true, true, true, true, true, true, true, true, true, true, true, true, true, true, true, true, true, true, true, true, true, true, true, true, true, false, false, false, false, false] rfl rfl (any_of HT_.out (by kernel_rfl)) (fun _ _ _ h => h) (Or.inr ⟨by rfl, rfl⟩) ?_ ?_
                    rotate_left
                    · simp only [Act.put, List.setIfInBounds_toArray, List.set_cons_zero, List.set_cons_succ, i64_w, i32_w]
                      rfl
                    refine pure_ (i := 27) (N := some 103) (v := undef) (a' := ?_) #[true, true, true, true, true, true, true, true, true, true, true, true, true, true, true, true, true, true, true, true, true, true, true, true, true, true, true, true, false, false, false, false] rfl rfl (any_of HT_.out (by kernel_rfl)) (fun _ _ _ h => h) (Or.inr ⟨by rfl, rfl⟩) ?_ ?_
                    rotate_left
                    · simp only [Act.put, List.setIfInBounds_toArray, List.set_cons_zero, List.set_cons_succ, i64_w, i32_w]
                      rfl
                    refine pure_ (i := 28) (N := some 104) (v := undef) (a' := ?_) #[true, true, true, true, true, true, true, true, true, true, true, true, true, true, true, true, true, true, true, true, true, true, true, true, true, true, true, true, true, false, false, false] rfl rfl (any_of HT_.out (by kernel_rfl)) (fun _ _ _ h => h) (Or.inr ⟨by rfl, rfl⟩) ?_ ?_
                    rotate_left
                    · simp only [Act.put, List.setIfInBounds_toArray, List.set_cons_zero, List.set_cons_succ, i64_w, i32_w]
                      rfl
                    refine pure_ (i := 29) (N := some 105) (v := undef) (a' := ?_) #[true, true, true, true, true, true, true, true, true, true, true, true, true, true, true, true, true, true, true, true, true, true, true, true, true, true, true, true, true, true, false, false] rfl rfl (any_of HT_.out (by kernel_rfl)) (fun _ _ _ h => h) (Or.inr ⟨by rfl, rfl⟩) ?_ ?_
                    rotate_left
                    · simp only [Act.put, List.setIfInBounds_toArray, List.set_cons_zero, List.set_cons_succ, i64_w, i32_w]
                      rfl
                    refine pure_ (i := 30) (N := some 106) (v := ?_) (a' := ?_) #[true, true, true, true, true, true, true, true, true, true, true, true, true, true, true, true, true, true, true, true, true, true, true, true, true, true, true, true, true, true, true, false] rfl rfl (any_of HT_.out (by kernel_rfl)) (fun _ _ _ h => h) (Or.inl ⟨by rfl, ?_⟩) ?_ ?_
                    rotate_left
                    · intro w'
                      go_simp
                      with_reducible rfl
                    rotate_left
                    · simp only [Act.put, List.setIfInBounds_toArray, List.set_cons_zero, List.set_cons_succ, i64_w, i32_w]
                      rfl
                    refine pure_ (i := 31) (N := some 10) (v := ?_) (a' := ?_) #[true, true, true, true, true, true, true, true, true, true, true, true, true, true, true, true, true, true, true, true, true, true, true, true, true, true, true, true, true, true, true, true] rfl rfl (any_of HT_.out (by kernel_rfl)) (fun _ _ _ h => h) (Or.inl ⟨by rfl, ?_⟩) ?_ ?_
                    rotate_left
                    · intro w'
                      go_simp
                      with_reducible rfl
                    rotate_left
                    · simp only [Act.put, List.setIfInBounds_toArray, List.set_cons_zero, List.set_cons_succ, i64_w, i32_w]
                      rfl
                    refine done_ (done_of HT_.out (by kernel_rfl)) ?_
                    try go_wp2
                    go_ret
                    exact ⟨by first | rfl | (simp [errW_none, errW_some] <;> rfl) | (simp [*, errW_none, errW_some] <;> rfl), by repeat (first | (with_reducible first | exact HB.out | apply below_alloc | apply pw_below_drewN | apply below_drew1 | refine below_set ?_ GE450.out | refine below_set ?_ GE457.out | refine below_set ?_ GE464.out) | exact HB.out)⟩
                  · rw [if_neg c37] at H
                    have c37b0 : (t451 == t458 && (t452 == t459)) = false := by simpa using c37
                    (try (have c37b1 : decide (t451 = t458 && (t452 == t459)) = false := by simpa using c37))
                    (try (have c37b2 : (t451 == t458 && (t452 == t459)) = false := by simpa using c37))
                    (try (have c37b3 : ¬ (t451 = t458 && (t452 == t459)) := by simpa using c37))
                    clear c37
                    by_cases c56 : t451 < t458
                    · rw [if_pos c56] at H
                      have c56b0 : decide (t451 < t458) = true := decide_eq_true c56
                      clear c56
                      obtain rfl := Option.some.inj H
                      go_enter Try.func6, Try.ntmps6
                      try go_wp2_with (first | ((with_reducible refine gate_callee (f := 8) rfl ?_); refine goesL_ (some 17) rfl rfl Try.func8 (by kernel_rfl) rfl #[] rfl (by (try simp only [List.map_toArray, List.map_cons, List.map_nil]); first | done | rfl | (simp only [List.length_drop, List.length_take]; rfl)) ?_; (with_reducible refine (foolscaplaw8_known.calls  true _ A6.out rfl).mono ?_); rintro e w57 ⟨rfl, hb⟩; refine ⟨_, rfl, ?_⟩; have n0_ := Aside0.mk (below_step (by repeat (first | (with_reducible first | exact HB.out | apply below_alloc | apply pw_below_drewN | apply below_drew1) | exact HB.out)) hb); clear HB; have HB := n0_; clear n0_; (try clear hb); (try clear hb2); (try clear hk); (try clear hi)) | ((with_reducible refine gate_callee (f := 9) rfl ?_); refine goesL_ (some 20) rfl rfl Try.func9 (by kernel_rfl) rfl #[.slice A0 l0.length c0] rfl (by (try simp only [List.map_toArray, List.map_cons, List.map_nil]); first | done | rfl | (simp only [List.length_drop, List.length_take]; rfl)) ?_; (with_reducible refine (foolscaphelp_Text.calls k _ _ l0 true _ ?side1 ?side2 A8.out).mono ?_); (case side1 => repeat (first | exact (Kd.C_below HR0.out HB.out) | (with_reducible refine Kd.C_alloc ?_ _) | (with_reducible refine Kd.C_drewN ?_ _) | (with_reducible refine Kd.C_drew ?_))); (case side2 => exact HC0.out); rintro e w' ⟨rfl, ⟨nd, rfl⟩⟩; refine ⟨_, rfl, ?_⟩; (try (rw [drewN_self w57]; generalize hq_ : World.drewN w57 _ = w57; have n0_ : Aside0 (Below w.heap.size w w57) := ⟨by rw [← hq_]; exact (by repeat (first | (with_reducible first | exact HB.out | apply below_alloc | apply pw_below_drewN | apply below_drew1) | exact HB.out))⟩; clear HB hq_; have HB := n0_; clear n0_))) | ((with_reducible refine gate_callee (f := 10) rfl ?_); refine goesL_ (some 25) rfl rfl Try.func10 (by kernel_rfl) rfl #[.slice A0 l0.length c0, .int .u16 a1, .int .u16 a2] rfl (by (try simp only [List.map_toArray, List.map_cons, List.map_nil]); first | done | rfl | (simp only [List.length_drop, List.length_take]; rfl)) ?_; (with_reducible refine (foolscapseat_Place.calls _ _ l0 a1 a2 t448 t449 _ ?side1 ?side2 A10.out).mono ?_); (case side1 => repeat (first | exact (Kd.C_below HR0.out HB.out) | (with_reducible refine Kd.C_alloc ?_ _) | (with_reducible refine Kd.C_drewN ?_ _) | (with_reducible refine Kd.C_drew ?_))); (case side2 => exact HC0.out); rintro e w58 ⟨rfl, hb⟩; refine ⟨_, rfl, ?_⟩; have n0_ := Aside0.mk (below_step (by repeat (first | (with_reducible first | exact HB.out | apply below_alloc | apply pw_below_drewN | apply below_drew1) | exact HB.out)) hb); clear HB; have HB := n0_; clear n0_; (try clear hb); (try clear hb2); (try clear hk); (try clear hi)) | ((with_reducible refine gate_dst (N := 11) rfl ?_); (try (refine gate_guard (by rfl) ?_; dsimp only)); refine box_event ?hg (N := 11) ?hd (cs := #[.int .i64 0, .int .i64 0]) (t := 24) ?hr ?_; (case hd => rfl); (case hg => rfl); (case hr => first | (go_simp; done) | (go_simp; rfl)); intro gb450 hg w59 hbox hb; have n0_ := Aside0.mk (below_step (by repeat (first | (with_reducible first | exact HB.out | apply below_alloc | apply pw_below_drewN | apply below_drew1) | exact HB.out)) hb); have n1_ := Aside0.mk (hbox); have n2_ := Aside0.mk ((by rw [hg]; exact (below_size (by repeat (first | (with_reducible first | exact HB.out | apply below_alloc | apply pw_below_drewN | apply below_drew1) | exact HB.out))) : w.heap.size ≤ gb450)); have n3_ := Aside0.mk ((by rw [hg]; exact (below_size (by repeat (first | (with_reducible first | exact HB.out | apply below_alloc | apply pw_below_drewN | apply below_drew1) | exact HB.out))) : w.heap.size ≤ gb450)); clear HB; have HB := n0_; have BK450 := n1_; have GW450 := n2_; have GE450 := n3_; clear n0_ n1_ n2_ n3_; clear hb hbox hg; have hcz60_0 : w59.cell? ⟨gb450, 0, none⟩ = some (.int .i64 0) := (blk_cell BK450.out 0).trans rfl; have hcz60_1 : w59.cell? ⟨gb450, 1, none⟩ = some (.int .i64 0) := (blk_cell BK450.out 1).trans rfl; have hfz60_0 := blk_frozen BK450.out 0; have hfz60_1 := blk_frozen BK450.out 1) | ((with_reducible refine gate_callee (f := 11) rfl ?_); refine goesL_ (some 35) rfl rfl Try.func11 (by kernel_rfl) rfl #[.slice A0 l0.length c0, .agg #[.int .i64 t448, .int .i64 t449], .int .i64 (wrap64 ((wrap64 (Int.tmod a3 5)) + 1)), .bool a4, .bool true] rfl (by (try simp only [List.map_toArray, List.map_cons, List.map_nil]); first | done | rfl | (simp only [List.length_drop, List.length_take]; rfl)) ?_; (with_reducible refine (words_Next.calls _ _ l0 t448 t449 (wrap64 ((wrap64 (Int.tmod a3 5)) + 1)) a4 true t451 t452 t453 t454 t455 true _ ?side1 ?side2 A11.out).mono ?_); (case side1 => exact Kd.C_below HR0.out (by repeat (first | (with_reducible first | exact HB.out | apply below_alloc | apply pw_below_drewN | apply below_drew1 | refine below_set ?_ GE450.out) | exact HB.out))); (case side2 => exact HC0.out); rintro e w61 ⟨rfl, hb⟩; refine ⟨_, rfl, ?_⟩; have n0_ := Aside0.mk (blk_below (g := gb450) (o := .cells #[.int .i64 t448, .int .i64 t449] 24 (0, 0)) (by refine blk_put (cs := #[.int .i64 t448, .int .i64 0]) ?_ 1 _ rfl; refine blk_put (cs := #[.int .i64 0, .int .i64 0]) ?_ 0 _ rfl; exact BK450.out) hb); have n1_ := Aside0.mk (below_step (by repeat (first | (with_reducible first | exact HB.out | apply below_alloc | apply pw_below_drewN | apply below_drew1 | refine below_set ?_ GE450.out) | exact HB.out)) hb); clear BK450; clear HB; have BK450 := n0_; have HB := n1_; clear n0_ n1_; (try clear hb); (try clear hb2); (try clear hk); (try clear hi)) | ((with_reducible refine gate_dst (N := 13) rfl ?_); (try (refine gate_guard (by rfl) ?_; dsimp only)); refine box_event ?hg (N := 13) ?hd (cs := #[.int .i64 0, .int .i64 0, .int .i64 0, .bool false, .int .i64 0]) (t := 32) ?hr ?_; (case hd => rfl); (case hg => rfl); (case hr => first | (go_simp; done) | (go_simp; rfl)); intro gb457 hg w62 hbox hb; have n0_ := Aside0.mk (blk_below (g := gb450) (o := .cells #[.int .i64 t448, .int .i64 t449] 24 (0, 0)) (by exact BK450.out) hb); have n1_ := Aside0.mk (below_step (by repeat (first | (with_reducible first | exact HB.out | apply below_alloc | apply pw_below_drewN | apply below_drew1 | refine below_set ?_ GE450.out) | exact HB.out)) hb); have n2_ := Aside0.mk (hbox); have n3_ := Aside0.mk ((by rw [hg]; exact (below_size (by repeat (first | (with_reducible first | exact HB.out | apply below_alloc | apply pw_below_drewN | apply below_drew1 | refine below_set ?_ GE450.out) | exact HB.out))) : w.heap.size ≤ gb457)); have n4_ := Aside0.mk ((by rw [hg]; exact (below_size (by repeat (first | (with_reducible first | exact HB.out | apply below_alloc | apply pw_below_drewN | apply below_drew1 | refine below_set ?_ GE450.out) | exact HB.out))) : w.heap.size ≤ gb457)); have n5_ := Aside0.mk ((by rw [hg]; exact Nat.ne_of_lt (blk_lt (g := gb450) (o := .cells #[.int .i64 t448, .int .i64 t449] 24 (0, 0)) (by exact BK450.out)) : gb450 ≠ gb457)); have n6_ := Aside0.mk ((by rw [hg]; exact Nat.ne_of_gt (blk_lt (g := gb450) (o := .cells #[.int .i64 t448, .int .i64 t449] 24 (0, 0)) (by exact BK450.out)) : gb457 ≠ gb450)); clear BK450; clear HB; have BK450 := n0_; have HB := n1_; have BK457 := n2_; have GW457 := n3_; have GE457 := n4_; have NB450_457 := n5_; have NB457_450 := n6_; clear n0_ n1_ n2_ n3_ n4_ n5_ n6_; clear hb hbox hg; have hnb63 := NB457_450.out; have hnc63 := NB450_457.out; have hcz64_0 : w62.cell? ⟨gb457, 0, none⟩ = some (.int .i64 0) := (blk_cell BK457.out 0).trans rfl; have hcz64_1 : w62.cell? ⟨gb457, 1, none⟩ = some (.int .i64 0) := (blk_cell BK457.out 1).trans rfl; have hcz64_2 : w62.cell? ⟨gb457, 2, none⟩ = some (.int .i64 0) := (blk_cell BK457.out 2).trans rfl; have hcz64_3 : w62.cell? ⟨gb457, 3, none⟩ = some (.bool false) := (blk_cell BK457.out 3).trans rfl; have hcz64_4 : w62.cell? ⟨gb457, 4, none⟩ = some (.int .i64 0) := (blk_cell BK457.out 4).trans rfl; have hfz64_0 := blk_frozen BK457.out 0; have hfz64_1 := blk_frozen BK457.out 1; have hfz64_2 := blk_frozen BK457.out 2; have hfz64_3 := blk_frozen BK457.out 3; have hfz64_4 := blk_frozen BK457.out 4; have hcz65_0 : w62.cell? ⟨gb450, 0, none⟩ = some (.int .i64 t448) := (blk_cell BK450.out 0).trans rfl; have hcz65_1 : w62.cell? ⟨gb450, 1, none⟩ = some (.int .i64 t449) := (blk_cell BK450.out 1).trans rfl; have hfz65_0 := blk_frozen BK450.out 0; have hfz65_1 := blk_frozen BK450.out 1) | ((with_reducible refine gate_callee (f := 11) rfl ?_); refine goesL_ (some 43) rfl rfl Try.func11 (by kernel_rfl) rfl #[.slice A0 l0.length c0, .agg #[.int .i64 t448, .int .i64 t449], .int .i64 (wrap64 ((wrap64 (Int.tmod a3 5)) + 1)), .bool a4, .bool false] rfl (by (try simp only [List.map_toArray, List.map_cons, List.map_nil]); first | done | rfl | (simp only [List.length_drop, List.length_take]; rfl)) ?_; (with_reducible refine (words_Next.calls _ _ l0 t448 t449 (wrap64 ((wrap64 (Int.tmod a3 5)) + 1)) a4 false t458 t459 t460 t461 t462 true _ ?side1 ?side2 A12.out).mono ?_); (case side1 => exact Kd.C_below HR0.out (by repeat (first | (with_reducible first | exact HB.out | apply below_alloc | apply pw_below_drewN | apply below_drew1 | refine below_set ?_ GE450.out | refine below_set ?_ GE457.out) | exact HB.out))); (case side2 => exact HC0.out); rintro e w66 ⟨rfl, hb⟩; refine ⟨_, rfl, ?_⟩; have n0_ := Aside0.mk (blk_below (g := gb450) (o := .cells #[.int .i64 t448, .int .i64 t449] 24 (0, 0)) (by refine blk_far ?_ NB450_457.out _; refine blk_far ?_ NB450_457.out _; refine blk_far ?_ NB450_457.out _; refine blk_far ?_ NB450_457.out _; refine blk_far ?_ NB450_457.out _; exact BK450.out) hb); have n1_ := Aside0.mk (blk_below (g := gb457) (o := .cells #[.int .i64 t451, .int .i64 t452, .int .i64 t453, .bool t454, .int .i64 t455] 32 (0, 0)) (by refine blk_put (cs := #[.int .i64 t451, .int .i64 t452, .int .i64 t453, .bool t454, .int .i64 0]) ?_ 4 _ rfl; refine blk_put (cs := #[.int .i64 t451, .int .i64 t452, .int .i64 t453, .bool false, .int .i64 0]) ?_ 3 _ rfl; refine blk_put (cs := #[.int .i64 t451, .int .i64 t452, .int .i64 0, .bool false, .int .i64 0]) ?_ 2 _ rfl; refine blk_put (cs := #[.int .i64 t451, .int .i64 0, .int .i64 0, .bool false, .int .i64 0]) ?_ 1 _ rfl; refine blk_put (cs := #[.int .i64 0, .int .i64 0, .int .i64 0, .bool false, .int .i64 0]) ?_ 0 _ rfl; exact BK457.out) hb); have n2_ := Aside0.mk (below_step (by repeat (first | (with_reducible first | exact HB.out | apply below_alloc | apply pw_below_drewN | apply below_drew1 | refine below_set ?_ GE450.out | refine below_set ?_ GE457.out) | exact HB.out)) hb); clear BK450; clear BK457; clear HB; have BK450 := n0_; have BK457 := n1_; have HB := n2_; clear n0_ n1_ n2_; (try clear hb); (try clear hb2); (try clear hk); (try clear hi)) | ((with_reducible refine gate_dst (N := 15) rfl ?_); (try (refine gate_guard (by rfl) ?_; dsimp only)); refine box_event ?hg (N := 15) ?hd (cs := #[.int .i64 0, .int .i64 0, .int .i64 0, .bool false, .int .i64 0]) (t := 32) ?hr ?_; (case hd => rfl); (case hg => rfl); (case hr => first | (go_simp; done) | (go_simp; rfl)); intro gb464 hg w67 hbox hb; have n0_ := Aside0.mk (blk_below (g := gb450) (o := .cells #[.int .i64 t448, .int .i64 t449] 24 (0, 0)) (by exact BK450.out) hb); have n1_ := Aside0.mk (blk_below (g := gb457) (o := .cells #[.int .i64 t451, .int .i64 t452, .int .i64 t453, .bool t454, .int .i64 t455] 32 (0, 0)) (by exact BK457.out) hb); have n2_ := Aside0.mk (below_step (by repeat (first | (with_reducible first | exact HB.out | apply below_alloc | apply pw_below_drewN | apply below_drew1 | refine below_set ?_ GE450.out | refine below_set ?_ GE457.out) | exact HB.out)) hb); have n3_ := Aside0.mk (hbox); have n4_ := Aside0.mk ((by rw [hg]; exact (below_size (by repeat (first | (with_reducible first | exact HB.out | apply below_alloc | apply pw_below_drewN | apply below_drew1 | refine below_set ?_ GE450.out | refine below_set ?_ GE457.out) | exact HB.out))) : w.heap.size ≤ gb464)); have n5_ := Aside0.mk ((by rw [hg]; exact (below_size (by repeat (first | (with_reducible first | exact HB.out | apply below_alloc | apply pw_below_drewN | apply below_drew1 | refine below_set ?_ GE450.out | refine below_set ?_ GE457.out) | exact HB.out))) : w.heap.size ≤ gb464)); have n6_ := Aside0.mk ((by rw [hg]; exact Nat.ne_of_lt (blk_lt (g := gb450) (o := .cells #[.int .i64 t448, .int .i64 t449] 24 (0, 0)) (by exact BK450.out)) : gb450 ≠ gb464)); have n7_ := Aside0.mk ((by rw [hg]; exact Nat.ne_of_gt (blk_lt (g := gb450) (o := .cells #[.int .i64 t448, .int .i64 t449] 24 (0, 0)) (by exact BK450.out)) : gb464 ≠ gb450)); have n8_ := Aside0.mk ((by rw [hg]; exact Nat.ne_of_lt (blk_lt (g := gb457) (o := .cells #[.int .i64 t451, .int .i64 t452, .int .i64 t453, .bool t454, .int .i64 t455] 32 (0, 0)) (by exact BK457.out)) : gb457 ≠ gb464)); have n9_ := Aside0.mk ((by rw [hg]; exact Nat.ne_of_gt (blk_lt (g := gb457) (o := .cells #[.int .i64 t451, .int .i64 t452, .int .i64 t453, .bool t454, .int .i64 t455] 32 (0, 0)) (by exact BK457.out)) : gb464 ≠ gb457)); clear BK450; clear BK457; clear HB; have BK450 := n0_; have BK457 := n1_; have HB := n2_; have BK464 := n3_; have GW464 := n4_; have GE464 := n5_; have NB450_464 := n6_; have NB464_450 := n7_; have NB457_464 := n8_; have NB464_457 := n9_; clear n0_ n1_ n2_ n3_ n4_ n5_ n6_ n7_ n8_ n9_; clear hb hbox hg; have hnb68 := NB464_450.out; have hnc68 := NB450_464.out; have hnb69 := NB464_457.out; have hnc69 := NB457_464.out; have hcz70_0 : w67.cell? ⟨gb464, 0, none⟩ = some (.int .i64 0) := (blk_cell BK464.out 0).trans rfl; have hcz70_1 : w67.cell? ⟨gb464, 1, none⟩ = some (.int .i64 0) := (blk_cell BK464.out 1).trans rfl; have hcz70_2 : w67.cell? ⟨gb464, 2, none⟩ = some (.int .i64 0) := (blk_cell BK464.out 2).trans rfl; have hcz70_3 : w67.cell? ⟨gb464, 3, none⟩ = some (.bool false) := (blk_cell BK464.out 3).trans rfl; have hcz70_4 : w67.cell? ⟨gb464, 4, none⟩ = some (.int .i64 0) := (blk_cell BK464.out 4).trans rfl; have hfz70_0 := blk_frozen BK464.out 0; have hfz70_1 := blk_frozen BK464.out 1; have hfz70_2 := blk_frozen BK464.out 2; have hfz70_3 := blk_frozen BK464.out 3; have hfz70_4 := blk_frozen BK464.out 4))
                      have n0_ : Aside0 ((((((w67.setCell ⟨gb464, 0, none⟩ (.int .i64 t458)).setCell ⟨gb464, 1, none⟩ (.int .i64 t459)).setCell ⟨gb464, 2, none⟩ (.int .i64 t460)).setCell ⟨gb464, 3, none⟩ (.bool t461)).setCell ⟨gb464, 4, none⟩ (.int .i64 t462)).heap[gb450]? = some (.cells #[.int .i64 t448, .int .i64 t449] 24 (0, 0))) := ⟨by refine blk_far ?_ NB450_464.out _; refine blk_far ?_ NB450_464.out _; refine blk_far ?_ NB450_464.out _; refine blk_far ?_ NB450_464.out _; refine blk_far ?_ NB450_464.out _; exact BK450.out⟩
                      have n1_ : Aside0 ((((((w67.setCell ⟨gb464, 0, none⟩ (.int .i64 t458)).setCell ⟨gb464, 1, none⟩ (.int .i64 t459)).setCell ⟨gb464, 2, none⟩ (.int .i64 t460)).setCell ⟨gb464, 3, none⟩ (.bool t461)).setCell ⟨gb464, 4, none⟩ (.int .i64 t462)).heap[gb457]? = some (.cells #[.int .i64 t451, .int .i64 t452, .int .i64 t453, .bool t454, .int .i64 t455] 32 (0, 0))) := ⟨by refine blk_far ?_ NB457_464.out _; refine blk_far ?_ NB457_464.out _; refine blk_far ?_ NB457_464.out _; refine blk_far ?_ NB457_464.out _; refine blk_far ?_ NB457_464.out _; exact BK457.out⟩
                      have n2_ : Aside0 ((((((w67.setCell ⟨gb464, 0, none⟩ (.int .i64 t458)).setCell ⟨gb464, 1, none⟩ (.int .i64 t459)).setCell ⟨gb464, 2, none⟩ (.int .i64 t460)).setCell ⟨gb464, 3, none⟩ (.bool t461)).setCell ⟨gb464, 4, none⟩ (.int .i64 t462)).heap[gb464]? = some (.cells #[.int .i64 t458, .int .i64 t459, .int .i64 t460, .bool t461, .int .i64 t462] 32 (0, 0))) := ⟨by refine blk_put (cs := #[.int .i64 t458, .int .i64 t459, .int .i64 t460, .bool t461, .int .i64 0]) ?_ 4 _ rfl; refine blk_put (cs := #[.int .i64 t458, .int .i64 t459, .int .i64 t460, .bool false, .int .i64 0]) ?_ 3 _ rfl; refine blk_put (cs := #[.int .i64 t458, .int .i64 t459, .int .i64 0, .bool false, .int .i64 0]) ?_ 2 _ rfl; refine blk_put (cs := #[.int .i64 t458, .int .i64 0, .int .i64 0, .bool false, .int .i64 0]) ?_ 1 _ rfl; refine blk_put (cs := #[.int .i64 0, .int .i64 0, .int .i64 0, .bool false, .int .i64 0]) ?_ 0 _ rfl; exact BK464.out⟩
                      have n3_ : Aside0 (Below w.heap.size w (((((w67.setCell ⟨gb464, 0, none⟩ (.int .i64 t458)).setCell ⟨gb464, 1, none⟩ (.int .i64 t459)).setCell ⟨gb464, 2, none⟩ (.int .i64 t460)).setCell ⟨gb464, 3, none⟩ (.bool t461)).setCell ⟨gb464, 4, none⟩ (.int .i64 t462))) := ⟨by repeat (first | (with_reducible first | exact HB.out | apply below_alloc | apply pw_below_drewN | apply below_drew1 | refine below_set ?_ GE450.out | refine below_set ?_ GE457.out | refine below_set ?_ GE464.out) | exact HB.out)⟩
                      (try clear BK450)
                      (try clear BK457)
                      (try clear BK464)
                      (try clear HB)
                      generalize (((((w67.setCell ⟨gb464, 0, none⟩ (.int .i64 t458)).setCell ⟨gb464, 1, none⟩ (.int .i64 t459)).setCell ⟨gb464, 2, none⟩ (.int .i64 t460)).setCell ⟨gb464, 3, none⟩ (.bool t461)).setCell ⟨gb464, 4, none⟩ (.int .i64 t462)) = w71 at n0_ n1_ n2_ n3_ ⊢
                      have BK450 := n0_
                      have BK457 := n1_
                      have BK464 := n2_
                      have HB := n3_
                      clear n0_ n1_ n2_ n3_
                      have n0_ := Aside0.mk (blk_drew BK450.out)
                      have n1_ := Aside0.mk (blk_drew BK457.out)
                      have n2_ := Aside0.mk (blk_drew BK464.out)
                      have n3_ := Aside0.mk (below_drew1 HB.out)
                      clear BK450
                      clear BK457
                      clear BK464
                      clear HB
                      have BK450 := n0_
                      have BK457 := n1_
                      have BK464 := n2_
                      have HB := n3_
                      clear n0_ n1_ n2_ n3_
                      have p466 : 0 ≤ (t451 : Int) := of_decide_eq_true (by first | (with_reducible assumption) | assumption)
                      have q466 : t451 < (l0.length : Int) := of_decide_eq_true (by first | (with_reducible assumption) | assumption)
                      obtain ⟨ad466, e466, hx466_0⟩ := Kd.at_string HR0.out t451 p466 q466
                      have hw466_0 := hx466_0
                      cases e466
                      replace hx466_0 := (HB.out.cell (World.block_lt_of_cell? w _ hx466_0)).trans hx466_0
                      replace p466 := eq_true p466
                      replace q466 := eq_true q466
                      refine start_ (n := 18) (S := fun w' => w'.cell? ⟨gb450, 0, none⟩ = some (.int .i64 t448) ∧ w'.cell? ⟨gb450, 1, none⟩ = some (.int .i64 t449) ∧ w'.cell? ⟨gb457, 0, none⟩ = some (.int .i64 t451) ∧ w'.cell? ⟨gb457, 1, none⟩ = some (.int .i64 t452) ∧ w'.cell? ⟨gb457, 2, none⟩ = some (.int .i64 t453) ∧ w'.cell? ⟨gb457, 3, none⟩ = some (.bool t454) ∧ w'.cell? ⟨gb457, 4, none⟩ = some (.int .i64 t455) ∧ w'.cell? (ad466.add (t451).toNat) = some (.string (rdOf ByteArray.empty l0 t451))) (ds := []) #[false, false, false, false, false, false, false, false, false, false, false, false, false, false, false, false, false, false] (by kernel_rfl) rfl rfl ⟨(blk_cell BK450.out 0).trans rfl, (blk_cell BK450.out 1).trans rfl, (blk_cell BK457.out 0).trans rfl, (blk_cell BK457.out 1).trans rfl, (blk_cell BK457.out 2).trans rfl, (blk_cell BK457.out 3).trans rfl, (blk_cell BK457.out 4).trans rfl, ((HB.out.cell (World.block_lt_of_cell? w _ hw466_0)).trans hw466_0)⟩ (fun hHeld => ?_); refine with_tabW foolscaplaw8_WordsInLine.tab11 foolscaplaw8_WordsInLine.bits11 (fun HT_ HW_ => ?_)
                      generalize w71.drew = w72 at BK450 BK457 BK464 HB hx466_0 hHeld ⊢
                      refine pure_ (i := 1) (N := some 59) (v := ?_) (a' := ?_) #[false, true, false, false, false, false, false, false, false, false, false, false, false, false, false, false, false, false] rfl rfl (any_of HT_.out (by kernel_rfl)) (fun _ _ _ h => h) (Or.inl ⟨by rfl, ?_⟩) ?_ ?_
                      rotate_left
                      · intro w'
                        go_simp
                        with_reducible rfl
                      rotate_left
                      · simp only [Act.put, List.setIfInBounds_toArray, List.set_cons_zero, List.set_cons_succ, i64_w, i32_w]
                        rfl
                      refine take_ (i := 0) (N := some 58) (v := ?_) (a' := ?_) #[true, true, false, false, false, false, false, false, false, false, false, false, false, false, false, false, false, false] rfl rfl (take_ofW HT_.out HW_.out (by kernel_rfl)) (fun _ _ _ h => h) (Or.inl ⟨by rfl, ?_⟩) hHeld ?_ ?_
                      rotate_left
                      · rintro w' ⟨s0, s1, s2, s3, s4, s5, s6, s7⟩
                        go_simp
                        with_reducible rfl
                      rotate_left
                      · simp only [Act.put, List.setIfInBounds_toArray, List.set_cons_zero, List.set_cons_succ, i64_w, i32_w]
                        rfl
                      refine take_ (i := 2) (N := some 60) (v := ?_) (a' := ?_) #[true, true, true, false, false, false, false, false, false, false, false, false, false, false, false, false, false, false] rfl rfl (take_ofW HT_.out HW_.out (by kernel_rfl)) (fun _ _ _ h => h) (Or.inl ⟨by rfl, ?_⟩) hHeld ?_ ?_
                      rotate_left
                      · rintro w' ⟨s0, s1, s2, s3, s4, s5, s6, s7⟩
                        go_simp
                        with_reducible rfl
                      rotate_left
                      · simp only [Act.put, List.setIfInBounds_toArray, List.set_cons_zero, List.set_cons_succ, i64_w, i32_w]
                        rfl
                      refine one_ (i := 3) (N := some 61) #[true, true, true, true, false, false, false, false, false, false, false, false, false, false, false, false, false, false] rfl rfl (one_of HT_.out (by kernel_rfl)) (by decide) (fun K hK => ?_)
                      refine goes_ Try.func27 (by kernel_rfl) rfl #[.agg #[.int .i64 t448, .int .i64 t449], .agg #[.int .i64 t451, .int .i64 t452]] (by rfl) rfl rfl (by (try simp only [List.map_toArray, List.map_cons, List.map_nil]); first | done | rfl | (simp only [List.length_drop, List.length_take]; rfl)) ?_
                      with_reducible refine (foolscapref5_Less.calls t448 t449 t451 t452 true _ A14.out).mono ?_
                      rintro e w73 ⟨rfl, hb⟩
                      refine ⟨_, rfl, ?_⟩
                      have n0_ := Aside0.mk (blk_below (g := gb450) (o := .cells #[.int .i64 t448, .int .i64 t449] 24 (0, 0)) (by exact BK450.out) hb)
                      have n1_ := Aside0.mk (blk_below (g := gb457) (o := .cells #[.int .i64 t451, .int .i64 t452, .int .i64 t453, .bool t454, .int .i64 t455] 32 (0, 0)) (by exact BK457.out) hb)
                      have n2_ := Aside0.mk (blk_below (g := gb464) (o := .cells #[.int .i64 t458, .int .i64 t459, .int .i64 t460, .bool t461, .int .i64 t462] 32 (0, 0)) (by exact BK464.out) hb)
                      have n3_ := Aside0.mk (below_step (by repeat (first | (with_reducible first | exact HB.out | apply below_alloc | apply pw_below_drewN | apply below_drew1 | refine below_set ?_ GE450.out | refine below_set ?_ GE457.out | refine below_set ?_ GE464.out) | exact HB.out)) hb)
                      clear BK450
                      clear BK457
                      clear BK464
                      clear HB
                      have BK450 := n0_
                      have BK457 := n1_
                      have BK464 := n2_
                      have HB := n3_
                      clear n0_ n1_ n2_ n3_
                      (try clear hb)
                      (try clear hb2)
                      (try clear hk)
                      (try clear hi)
                      refine hK.out _ _ ⟨(blk_cell BK450.out 0).trans rfl, (blk_cell BK450.out 1).trans rfl, (blk_cell BK457.out 0).trans rfl, (blk_cell BK457.out 1).trans rfl, (blk_cell BK457.out 2).trans rfl, (blk_cell BK457.out 3).trans rfl, (blk_cell BK457.out 4).trans rfl, ((HB.out.cell (World.block_lt_of_cell? w _ hw466_0)).trans hw466_0)⟩ (fun hHeld => ?_)
                      clear hK K
                      refine norm_ (a' := ?_) ?_ ?_
                      rotate_left
                      · show Act.put _ (some 61) _ = _
                        simp only [Act.put, List.setIfInBounds_toArray, List.set_cons_zero, List.set_cons_succ, i64_w, i32_w]
                        rfl
                      refine pure_ (i := 4) (N := some 62) (v := ?_) (a' := ?_) #[true, true, true, true, true, false, false, false, false, false, false, false, false, false, false, false, false, false] rfl rfl (any_of HT_.out (by kernel_rfl)) (fun _ _ _ h => h) (Or.inl ⟨by rfl, ?_⟩) ?_ ?_
                      rotate_left
                      · intro w'
                        go_simp
                        with_reducible rfl
                      rotate_left
                      · simp only [Act.put, List.setIfInBounds_toArray, List.set_cons_zero, List.set_cons_succ, i64_w, i32_w]
                        rfl
                      refine pure_ (i := 5) (N := some 63) (v := ?_) (a' := ?_) #[true, true, true, true, true, true, false, false, false, false, false, false, false, false, false, false, false, false] rfl rfl (any_of HT_.out (by kernel_rfl)) (fun _ _ _ h => h) (Or.inl ⟨by rfl, ?_⟩) ?_ ?_
                      rotate_left
                      · intro w'
                        go_simp
                        with_reducible rfl
                      rotate_left
                      · simp only [Act.put, List.setIfInBounds_toArray, List.set_cons_zero, List.set_cons_succ, i64_w, i32_w]
                        rfl
                      refine pure_ (i := 6) (N := some 64) (v := ?_) (a' := ?_) #[true, true, true, true, true, true, true, false, false, false, false, false, false, false, false, false, false, false] rfl rfl (any_of HT_.out (by kernel_rfl)) (fun _ _ _ h => h) (Or.inl ⟨by rfl, ?_⟩) ?_ ?_
                      rotate_left
                      · intro w'
                        go_simp
                        with_reducible rfl
                      rotate_left
                      · simp only [Act.put, List.setIfInBounds_toArray, List.set_cons_zero, List.set_cons_succ, i64_w, i32_w]
                        rfl
                      refine pure_ (i := 7) (N := some 65) (v := ?_) (a' := ?_) #[true, true, true, true, true, true, true, true, false, false, false, false, false, false, false, false, false, false] rfl rfl (any_of HT_.out (by kernel_rfl)) (fun _ _ _ h => h) (Or.inl ⟨by rfl, ?_⟩) ?_ ?_
                      rotate_left
                      · intro w'
                        go_simp
                        with_reducible rfl
                      rotate_left
                      · simp only [Act.put, List.setIfInBounds_toArray, List.set_cons_zero, List.set_cons_succ, i64_w, i32_w]
                        rfl
                      refine pure_ (i := 9) (N := some 67) (v := ?_) (a' := ?_) #[true, true, true, true, true, true, true, true, false, true, false, false, false, false, false, false, false, false] rfl rfl (any_of HT_.out (by kernel_rfl)) (fun _ _ _ h => h) (Or.inl ⟨by rfl, ?_⟩) ?_ ?_
                      rotate_left
                      · intro w'
                        go_simp
                        with_reducible rfl
                      rotate_left
                      · simp only [Act.put, List.setIfInBounds_toArray, List.set_cons_zero, List.set_cons_succ, i64_w, i32_w]
                        rfl
                      refine pure_ (i := 10) (N := some 68) (v := ?_) (a' := ?_) #[true, true, true, true, true, true, true, true, false, true, true, false, false, false, false, false, false, false] rfl rfl (any_of HT_.out (by kernel_rfl)) (fun _ _ _ h => h) (Or.inl ⟨by rfl, ?_⟩) ?_ ?_
                      rotate_left
                      · intro w'
                        go_simp
                        with_reducible rfl
                      rotate_left
                      · simp only [Act.put, List.setIfInBounds_toArray, List.set_cons_zero, List.set_cons_succ, i64_w, i32_w]
                        rfl
                      refine pure_ (i := 11) (N := some 69) (v := ?_) (a' := ?_) #[true, true, true, true, true, true, true, true, false, true, true, true, false, false, false, false, false, false] rfl rfl (any_of HT_.out (by kernel_rfl)) (fun _ _ _ h => h) (Or.inl ⟨by rfl, ?_⟩) ?_ ?_
                      rotate_left
                      · intro w'
                        go_simp
                        with_reducible rfl
                      rotate_left
                      · simp only [Act.put, List.setIfInBounds_toArray, List.set_cons_zero, List.set_cons_succ, i64_w, i32_w]
                        rfl
                      refine take_ (i := 8) (N := some 66) (v := ?_) (a' := ?_) #[true, true, true, true, true, true, true, true, true, true, true, true, false, false, false, false, false, false] rfl rfl (take_ofW HT_.out HW_.out (by kernel_rfl)) (fun _ _ _ h => h) (Or.inl ⟨by rfl, ?_⟩) hHeld ?_ ?_
                      rotate_left
                      · rintro w' ⟨s0, s1, s2, s3, s4, s5, s6, s7⟩
                        go_simp
                        with_reducible rfl
                      rotate_left
                      · simp only [Act.put, List.setIfInBounds_toArray, List.set_cons_zero, List.set_cons_succ, i64_w, i32_w]
                        rfl
                      refine take_ (i := 12) (N := some 70) (v := ?_) (a' := ?_) #[true, true, true, true, true, true, true, true, true, true, true, true, true, false, false, false, false, false] rfl rfl (take_ofW HT_.out HW_.out (by kernel_rfl)) (fun _ _ _ h => h) (Or.inl ⟨by rfl, ?_⟩) hHeld ?_ ?_
                      rotate_left
                      · rintro w' ⟨s0, s1, s2, s3, s4, s5, s6, s7⟩
                        go_simp
                        with_reducible rfl
                      rotate_left
                      · simp only [Act.put, List.setIfInBounds_toArray, List.set_cons_zero, List.set_cons_succ, i64_w, i32_w]
                        rfl
                      refine pure_ (i := 13) (N := some 71) (v := ?_) (a' := ?_) #[true, true, true, true, true, true, true, true, true, true, true, true, true, true, false, false, false, false] rfl rfl (any_of HT_.out (by kernel_rfl)) (fun _ _ _ h => h) (Or.inl ⟨by rfl, ?_⟩) ?_ ?_
                      rotate_left
                      · intro w'
                        go_simp
                        with_reducible rfl
                      rotate_left
                      · simp only [Act.put, List.setIfInBounds_toArray, List.set_cons_zero, List.set_cons_succ, i64_w, i32_w]
                        rfl
                      refine take_ (i := 14) (N := some 72) (v := ?_) (a' := ?_) #[true, true, true, true, true, true, true, true, true, true, true, true, true, true, true, false, false, false] rfl rfl (take_ofW HT_.out HW_.out (by kernel_rfl)) (fun _ _ _ h => h) (Or.inl ⟨by rfl, ?_⟩) hHeld ?_ ?_
                      rotate_left
                      · rintro w' ⟨s0, s1, s2, s3, s4, s5, s6, s7⟩
                        go_simp
                        with_reducible rfl
                      rotate_left
                      · simp only [Act.put, List.setIfInBounds_toArray, List.set_cons_zero, List.set_cons_succ, i64_w, i32_w]
                        rfl
                      refine pure_ (i := 15) (N := some 73) (v := ?_) (a' := ?_) #[true, true, true, true, true, true, true, true, true, true, true, true, true, true, true, true, false, false] rfl rfl (any_of HT_.out (by kernel_rfl)) (fun _ _ _ h => h) (Or.inl ⟨by rfl, ?_⟩) ?_ ?_
                      rotate_left
                      · intro w'
                        go_simp
                        with_reducible rfl
                      rotate_left
                      · simp only [Act.put, List.setIfInBounds_toArray, List.set_cons_zero, List.set_cons_succ, i64_w, i32_w]
                        rfl
                      refine pure_ (i := 16) (N := some 74) (v := ?_) (a' := ?_) #[true, true, true, true, true, true, true, true, true, true, true, true, true, true, true, true, true, false] rfl rfl (any_of HT_.out (by kernel_rfl)) (fun _ _ _ h => h) (Or.inl ⟨by rfl, ?_⟩) ?_ ?_
                      rotate_left
                      · intro w'
                        go_simp
                        with_reducible rfl
                      rotate_left
                      · simp only [Act.put, List.setIfInBounds_toArray, List.set_cons_zero, List.set_cons_succ, i64_w, i32_w]
                        rfl
                      refine pure_ (i := 17) (N := some 75) (v := ?_) (a' := ?_) #[true, true, true, true, true, true, true, true, true, true, true, true, true, true, true, true, true, true] rfl rfl (any_of HT_.out (by kernel_rfl)) (fun _ _ _ h => h) (Or.inl ⟨by rfl, ?_⟩) ?_ ?_
                      rotate_left
                      · intro w'
                        go_simp
                        with_reducible rfl
                      rotate_left
                      · simp only [Act.put, List.setIfInBounds_toArray, List.set_cons_zero, List.set_cons_succ, i64_w, i32_w]
                        rfl
                      refine done_ (done_of HT_.out (by kernel_rfl)) ?_
                      try go_wp2
                      have n0_ := Aside0.mk (blk_drew BK450.out)
                      have n1_ := Aside0.mk (blk_drew BK457.out)
                      have n2_ := Aside0.mk (blk_drew BK464.out)
                      have n3_ := Aside0.mk (below_drew1 HB.out)
                      clear BK450
                      clear BK457
                      clear BK464
                      clear HB
                      have BK450 := n0_
                      have BK457 := n1_
                      have BK464 := n2_
                      have HB := n3_
                      clear n0_ n1_ n2_ n3_
                      have p467 : 0 ≤ (t451 : Int) := of_decide_eq_true (by first | (with_reducible assumption) | assumption)
                      have q467 : t451 < (l0.length : Int) := of_decide_eq_true (by first | (with_reducible assumption) | assumption)
                      obtain ⟨ad467, e467, hx467_0⟩ := Kd.at_string HR0.out t451 p467 q467
                      have hw467_0 := hx467_0
                      obtain rfl : ad466 = ad467 := (by injection e467)
                      replace hx467_0 := (HB.out.cell (World.block_lt_of_cell? w _ hx467_0)).trans hx467_0
                      replace p467 := eq_true p467
                      replace q467 := eq_true q467
                      refine start_ (n := 32) (S := fun w' => w'.cell? ⟨gb457, 0, none⟩ = some (.int .i64 t451) ∧ w'.cell? ⟨gb457, 1, none⟩ = some (.int .i64 t452) ∧ w'.cell? ⟨gb457, 2, none⟩ = some (.int .i64 t453) ∧ w'.cell? ⟨gb457, 3, none⟩ = some (.bool t454) ∧ w'.cell? ⟨gb457, 4, none⟩ = some (.int .i64 t455) ∧ w'.cell? ⟨gb464, 0, none⟩ = some (.int .i64 t458) ∧ w'.cell? ⟨gb464, 1, none⟩ = some (.int .i64 t459) ∧ w'.cell? ⟨gb464, 2, none⟩ = some (.int .i64 t460) ∧ w'.cell? ⟨gb464, 3, none⟩ = some (.bool t461) ∧ w'.cell? ⟨gb464, 4, none⟩ = some (.int .i64 t462) ∧ w'.cell? (ad466.add (t451).toNat) = some (.string (rdOf ByteArray.empty l0 t451))) (ds := []) #[false, false, false, false, false, false, false, false, false, false, false, false, false, false, false, false, false, false, false, false, false, false, false, false, false, false, false, false, false, false, false, false] (by kernel_rfl) rfl rfl ⟨(blk_cell BK457.out 0).trans rfl, (blk_cell BK457.out 1).trans rfl, (blk_cell BK457.out 2).trans rfl, (blk_cell BK457.out 3).trans rfl, (blk_cell BK457.out 4).trans rfl, (blk_cell BK464.out 0).trans rfl, (blk_cell BK464.out 1).trans rfl, (blk_cell BK464.out 2).trans rfl, (blk_cell BK464.out 3).trans rfl, (blk_cell BK464.out 4).trans rfl, ((HB.out.cell (World.block_lt_of_cell? w _ hw467_0)).trans hw467_0)⟩ (fun hHeld => ?_); refine with_tabW foolscaplaw8_WordsInLine.tab13 foolscaplaw8_WordsInLine.bits13 (fun HT_ HW_ => ?_)
                      generalize w73.drew = w74 at BK450 BK457 BK464 HB hx467_0 hHeld ⊢
                      refine pure_ (i := 0) (N := some 76) (v := ?_) (a' := ?_) #[true, false, false, false, false, false, false, false, false, false, false, false, false, false, false, false, false, false, false, false, false, false, false, false, false, false, false, false, false, false, false, false] rfl rfl (any_of HT_.out (by kernel_rfl)) (fun _ _ _ h => h) (Or.inl ⟨by rfl, ?_⟩) ?_ ?_
                      rotate_left
                      · intro w'
                        go_simp
                        with_reducible rfl
                      rotate_left
                      · simp only [Act.put, List.setIfInBounds_toArray, List.set_cons_zero, List.set_cons_succ, i64_w, i32_w]
                        rfl
                      refine pure_ (i := 1) (N := some 77) (v := ?_) (a' := ?_) #[true, true, false, false, false, false, false, false, false, false, false, false, false, false, false, false, false, false, false, false, false, false, false, false, false, false, false, false, false, false, false, false] rfl rfl (any_of HT_.out (by kernel_rfl)) (fun _ _ _ h => h) (Or.inl ⟨by rfl, ?_⟩) ?_ ?_
                      rotate_left
                      · intro w'
                        go_simp
                        with_reducible rfl
                      rotate_left
                      · simp only [Act.put, List.setIfInBounds_toArray, List.set_cons_zero, List.set_cons_succ, i64_w, i32_w]
                        rfl
                      refine pure_ (i := 2) (N := some 78) (v := ?_) (a' := ?_) #[true, true, true, false, false, false, false, false, false, false, false, false, false, false, false, false, false, false, false, false, false, false, false, false, false, false, false, false, false, false, false, false] rfl rfl (any_of HT_.out (by kernel_rfl)) (fun _ _ _ h => h) (Or.inl ⟨by rfl, ?_⟩) ?_ ?_
                      rotate_left
                      · intro w'
                        go_simp
                        with_reducible rfl
                      rotate_left
                      · simp only [Act.put, List.setIfInBounds_toArray, List.set_cons_zero, List.set_cons_succ, i64_w, i32_w]
                        rfl
                      refine pure_ (i := 3) (N := some 79) (v := ?_) (a' := ?_) #[true, true, true, true, false, false, false, false, false, false, false, false, false, false, false, false, false, false, false, false, false, false, false, false, false, false, false, false, false, false, false, false] rfl rfl (any_of HT_.out (by kernel_rfl)) (fun _ _ _ h => h) (Or.inl ⟨by rfl, ?_⟩) ?_ ?_
                      rotate_left
                      · intro w'
                        go_simp
                        with_reducible rfl
                      rotate_left
                      · simp only [Act.put, List.setIfInBounds_toArray, List.set_cons_zero, List.set_cons_succ, i64_w, i32_w]
                        rfl
                      refine pure_ (i := 5) (N := some 81) (v := ?_) (a' := ?_) #[true, true, true, true, false, true, false, false, false, false, false, false, false, false, false, false, false, false, false, false, false, false, false, false, false, false, false, false, false, false, false, false] rfl rfl (any_of HT_.out (by kernel_rfl)) (fun _ _ _ h => h) (Or.inl ⟨by rfl, ?_⟩) ?_ ?_
                      rotate_left
                      · intro w'
                        go_simp
                        with_reducible rfl
                      rotate_left
                      · simp only [Act.put, List.setIfInBounds_toArray, List.set_cons_zero, List.set_cons_succ, i64_w, i32_w]
                        rfl
                      refine take_ (i := 4) (N := some 80) (v := ?_) (a' := ?_) #[true, true, true, true, true, true, false, false, false, false, false, false, false, false, false, false, false, false, false, false, false, false, false, false, false, false, false, false, false, false, false, false] rfl rfl (take_ofW HT_.out HW_.out (by kernel_rfl)) (fun _ _ _ h => h) (Or.inl ⟨by rfl, ?_⟩) hHeld ?_ ?_
                      rotate_left
                      · rintro w' ⟨s0, s1, s2, s3, s4, s5, s6, s7, s8, s9, s10⟩
                        go_simp
                        with_reducible rfl
                      rotate_left
                      · simp only [Act.put, List.setIfInBounds_toArray, List.set_cons_zero, List.set_cons_succ, i64_w, i32_w]
                        rfl
                      refine take_ (i := 6) (N := some 82) (v := ?_) (a' := ?_) #[true, true, true, true, true, true, true, false, false, false, false, false, false, false, false, false, false, false, false, false, false, false, false, false, false, false, false, false, false, false, false, false] rfl rfl (take_ofW HT_.out HW_.out (by kernel_rfl)) (fun _ _ _ h => h) (Or.inl ⟨by rfl, ?_⟩) hHeld ?_ ?_
                      rotate_left
                      · rintro w' ⟨s0, s1, s2, s3, s4, s5, s6, s7, s8, s9, s10⟩
                        go_simp
                        with_reducible rfl
                      rotate_left
                      · simp only [Act.put, List.setIfInBounds_toArray, List.set_cons_zero, List.set_cons_succ, i64_w, i32_w]
                        rfl
                      refine pure_ (i := 7) (N := some 83) (v := ?_) (a' := ?_) #[true, true, true, true, true, true, true, true, false, false, false, false, false, false, false, false, false, false, false, false, false, false, false, false, false, false, false, false, false, false, false, false] rfl rfl (any_of HT_.out (by kernel_rfl)) (fun _ _ _ h => h) (Or.inl ⟨by rfl, ?_⟩) ?_ ?_
                      rotate_left
                      · intro w'
                        go_simp
                        with_reducible rfl
                      rotate_left
                      · simp only [Act.put, List.setIfInBounds_toArray, List.set_cons_zero, List.set_cons_succ, i64_w, i32_w]
                        rfl
                      refine pure_ (i := 8) (N := some 84) (v := ?_) (a' := ?_) #[true, true, true, true, true, true, true, true, true, false, false, false, false, false, false, false, false, false, false, false, false, false, false, false, false, false, false, false, false, false, false, false] rfl rfl (any_of HT_.out (by kernel_rfl)) (fun _ _ _ h => h) (Or.inl ⟨by rfl, ?_⟩) ?_ ?_
                      rotate_left
                      · intro w'
                        go_simp
                        with_reducible rfl
                      rotate_left
                      · simp only [Act.put, List.setIfInBounds_toArray, List.set_cons_zero, List.set_cons_succ, i64_w, i32_w]
                        rfl
                      refine pure_ (i := 9) (N := some 85) (v := ?_) (a' := ?_) #[true, true, true, true, true, true, true, true, true, true, false, false, false, false, false, false, false, false, false, false, false, false, false, false, false, false, false, false, false, false, false, false] rfl rfl (any_of HT_.out (by kernel_rfl)) (fun _ _ _ h => h) (Or.inl ⟨by rfl, ?_⟩) ?_ ?_
                      rotate_left
                      · intro w'
                        go_simp
                        with_reducible rfl
                      rotate_left
                      · simp only [Act.put, List.setIfInBounds_toArray, List.set_cons_zero, List.set_cons_succ, i64_w, i32_w]
                        rfl
                      refine pure_ (i := 10) (N := some 86) (v := ?_) (a' := ?_) #[true, true, true, true, true, true, true, true, true, true, true, false, false, false, false, false, false, false, false, false, false, false, false, false, false, false, false, false, false, false, false, false] rfl rfl (any_of HT_.out (by kernel_rfl)) (fun _ _ _ h => h) (Or.inl ⟨by rfl, ?_⟩) ?_ ?_
                      rotate_left
                      · intro w'
                        go_simp
                        with_reducible rfl
                      rotate_left
                      · simp only [Act.put, List.setIfInBounds_toArray, List.set_cons_zero, List.set_cons_succ, i64_w, i32_w]
                        rfl
                      refine pure_ (i := 11) (N := some 87) (v := ?_) (a' := ?_) #[true, true, true, true, true, true, true, true, true, true, true, true, false, false, false, false, false, false, false, false, false, false, false, false, false, false, false, false, false, false, false, false] rfl rfl (any_of HT_.out (by kernel_rfl)) (fun _ _ _ h => h) (Or.inl ⟨by rfl, ?_⟩) ?_ ?_
                      rotate_left
                      · intro w'
                        go_simp
                        with_reducible rfl
                      rotate_left
                      · simp only [Act.put, List.setIfInBounds_toArray, List.set_cons_zero, List.set_cons_succ, i64_w, i32_w]
                        rfl
                      refine pure_ (i := 13) (N := some 89) (v := ?_) (a' := ?_) #[true, true, true, true, true, true, true, true, true, true, true, true, false, true, false, false, false, false, false, false, false, false, false, false, false, false, false, false, false, false, false, false] rfl rfl (any_of HT_.out (by kernel_rfl)) (fun _ _ _ h => h) (Or.inl ⟨by rfl, ?_⟩) ?_ ?_
                      rotate_left
                      · intro w'
                        go_simp
                        with_reducible rfl
                      rotate_left
                      · simp only [Act.put, List.setIfInBounds_toArray, List.set_cons_zero, List.set_cons_succ, i64_w, i32_w]
                        rfl
                      refine pure_ (i := 14) (N := some 90) (v := ?_) (a' := ?_) #[true, true, true, true, true, true, true, true, true, true, true, true, false, true, true, false, false, false, false, false, false, false, false, false, false, false, false, false, false, false, false, false] rfl rfl (any_of HT_.out (by kernel_rfl)) (fun _ _ _ h => h) (Or.inl ⟨by rfl, ?_⟩) ?_ ?_
                      rotate_left
                      · intro w'
                        go_simp
                        with_reducible rfl
                      rotate_left
                      · simp only [Act.put, List.setIfInBounds_toArray, List.set_cons_zero, List.set_cons_succ, i64_w, i32_w]
                        rfl
                      refine take_ (i := 12) (N := some 88) (v := ?_) (a' := ?_) #[true, true, true, true, true, true, true, true, true, true, true, true, true, true, true, false, false, false, false, false, false, false, false, false, false, false, false, false, false, false, false, false] rfl rfl (take_ofW HT_.out HW_.out (by kernel_rfl)) (fun _ _ _ h => h) (Or.inl ⟨by rfl, ?_⟩) hHeld ?_ ?_
                      rotate_left
                      · rintro w' ⟨s0, s1, s2, s3, s4, s5, s6, s7, s8, s9, s10⟩
                        go_simp
                        with_reducible rfl
                      rotate_left
                      · simp only [Act.put, List.setIfInBounds_toArray, List.set_cons_zero, List.set_cons_succ, i64_w, i32_w]
                        rfl
                      refine take_ (i := 15) (N := some 91) (v := ?_) (a' := ?_) #[true, true, true, true, true, true, true, true, true, true, true, true, true, true, true, true, false, false, false, false, false, false, false, false, false, false, false, false, false, false, false, false] rfl rfl (take_ofW HT_.out HW_.out (by kernel_rfl)) (fun _ _ _ h => h) (Or.inl ⟨by rfl, ?_⟩) hHeld ?_ ?_
                      rotate_left
                      · rintro w' ⟨s0, s1, s2, s3, s4, s5, s6, s7, s8, s9, s10⟩
                        go_simp
                        with_reducible rfl
                      rotate_left
                      · simp only [Act.put, List.setIfInBounds_toArray, List.set_cons_zero, List.set_cons_succ, i64_w, i32_w]
                        rfl
                      refine pure_ (i := 16) (N := some 92) (v := ?_) (a' := ?_) #[true, true, true, true, true, true, true, true, true, true, true, true, true, true, true, true, true, false, false, false, false, false, false, false, false, false, false, false, false, false, false, false] rfl rfl (any_of HT_.out (by kernel_rfl)) (fun _ _ _ h => h) (Or.inl ⟨by rfl, ?_⟩) ?_ ?_
                      rotate_left
                      · intro w'
                        go_simp
                        with_reducible rfl
                      rotate_left
                      · simp only [Act.put, List.setIfInBounds_toArray, List.set_cons_zero, List.set_cons_succ, i64_w, i32_w]
                        rfl
                      refine pure_ (i := 17) (N := some 93) (v := ?_) (a' := ?_) #[true, true, true, true, true, true, true, true, true, true, true, true, true, true, true, true, true, true, false, false, false, false, false, false, false, false, false, false, false, false, false, false] rfl rfl (any_of HT_.out (by kernel_rfl)) (fun _ _ _ h => h) (Or.inl ⟨by rfl, ?_⟩) ?_ ?_
                      rotate_left
                      · intro w'
                        go_simp
                        with_reducible rfl
                      rotate_left
                      · simp only [Act.put, List.setIfInBounds_toArray, List.set_cons_zero, List.set_cons_succ, i64_w, i32_w]
                        rfl
                      refine pure_ (i := 18) (N := some 94) (v := ?_) (a' := ?_) #[true, true, true, true, true, true, true, true, true, true, true, true, true, true, true, true, true, true, true, false, false, false, false, false, false, false, false, false, false, false, false, false] rfl rfl (any_of HT_.out (by kernel_rfl)) (fun _ _ _ h => h) (Or.inl ⟨by rfl, ?_⟩) ?_ ?_
                      rotate_left
                      · intro w'
                        go_simp
                        with_reducible rfl
                      rotate_left
                      · simp only [Act.put, List.setIfInBounds_toArray, List.set_cons_zero, List.set_cons_succ, i64_w, i32_w]
                        rfl
                      refine pure_ (i := 19) (N := some 95) (v := ?_) (a' := ?_) #[true, true, true, true, true, true, true, true, true, true, true, true, true, true, true, true, true, true, true, true, false, false, false, false, false, false, false, false, false, false, false, false] rfl rfl (any_of HT_.out (by kernel_rfl)) (fun _ _ _ h => h) (Or.inl ⟨by rfl, ?_⟩) ?_ ?_
                      rotate_left
                      · intro w'
                        go_simp
                        with_reducible rfl
                      rotate_left
                      · simp only [Act.put, List.setIfInBounds_toArray, List.set_cons_zero, List.set_cons_succ, i64_w, i32_w]
                        rfl
                      refine pure_ (i := 21) (N := some 97) (v := ?_) (a' := ?_) #[true, true, true, true, true, true, true, true, true, true, true, true, true, true, true, true, true, true, true, true, false, true, false, false, false, false, false, false, false, false, false, false] rfl rfl (any_of HT_.out (by kernel_rfl)) (fun _ _ _ h => h) (Or.inl ⟨by rfl, ?_⟩) ?_ ?_
                      rotate_left
                      · intro w'
                        go_simp
                        with_reducible rfl
                      rotate_left
                      · simp only [Act.put, List.setIfInBounds_toArray, List.set_cons_zero, List.set_cons_succ, i64_w, i32_w]
                        rfl
                      refine pure_ (i := 22) (N := some 98) (v := ?_) (a' := ?_) #[true, true, true, true, true, true, true, true, true, true, true, true, true, true, true, true, true, true, true, true, false, true, true, false, false, false, false, false, false, false, false, false] rfl rfl (any_of HT_.out (by kernel_rfl)) (fun _ _ _ h => h) (Or.inl ⟨by rfl, ?_⟩) ?_ ?_
                      rotate_left
                      · intro w'
                        go_simp
                        with_reducible rfl
                      rotate_left
                      · simp only [Act.put, List.setIfInBounds_toArray, List.set_cons_zero, List.set_cons_succ, i64_w, i32_w]
                        rfl
                      refine pure_ (i := 23) (N := some 99) (v := ?_) (a' := ?_) #[true, true, true, true, true, true, true, true, true, true, true, true, true, true, true, true, true, true, true, true, false, true, true, true, false, false, false, false, false, false, false, false] rfl rfl (any_of HT_.out (by kernel_rfl)) (fun _ _ _ h => h) (Or.inl ⟨by rfl, ?_⟩) ?_ ?_
                      rotate_left
                      · intro w'
                        go_simp
                        with_reducible rfl
                      rotate_left
                      · simp only [Act.put, List.setIfInBounds_toArray, List.set_cons_zero, List.set_cons_succ, i64_w, i32_w]
                        rfl
                      refine take_ (i := 20) (N := some 96) (v := ?_) (a' := ?_) #[true, true, true, true, true, true, true, true, true, true, true, true, true, true, true, true, true, true, true, true, true, true, true, true, false, false, false, false, false, false, false, false] rfl rfl (take_ofW HT_.out HW_.out (by kernel_rfl)) (fun _ _ _ h => h) (Or.inl ⟨by rfl, ?_⟩) hHeld ?_ ?_
                      rotate_left
                      · rintro w' ⟨s0, s1, s2, s3, s4, s5, s6, s7, s8, s9, s10⟩
                        go_simp
                        with_reducible rfl
                      rotate_left
                      · simp only [Act.put, List.setIfInBounds_toArray, List.set_cons_zero, List.set_cons_succ, i64_w, i32_w]
                        rfl
                      refine take_ (i := 24) (N := some 100) (v := ?_) (a' := ?_) #[true, true, true, true, true, true, true, true, true, true, true, true, true, true, true, true, true, true, true, true, true, true, true, true, true, false, false, false, false, false, false, false] rfl rfl (take_ofW HT_.out HW_.out (by kernel_rfl)) (fun _ _ _ h => h) (Or.inl ⟨by rfl, ?_⟩) hHeld ?_ ?_
                      rotate_left
                      · rintro w' ⟨s0, s1, s2, s3, s4, s5, s6, s7, s8, s9, s10⟩
                        go_simp
                        with_reducible rfl
                      rotate_left
                      · simp only [Act.put, List.setIfInBounds_toArray, List.set_cons_zero, List.set_cons_succ, i64_w, i32_w]
                        rfl
                      refine pure_ (i := 25) (N := some 101) (v := ?_) (a' := ?_) #[true, true, true, true, true, true, true, true, true, true, true, true, true, true, true, true, true, true, true, true, true, true, true, true, true, true, false, false, false, false, false, false] rfl rfl (any_of HT_.out (by kernel_rfl)) (fun _ _ _ h => h) (Or.inl ⟨by rfl, ?_⟩) ?_ ?_
                      rotate_left
                      · intro w'
                        go_simp
                        with_reducible rfl
                      rotate_left
                      · simp only [Act.put, List.setIfInBounds_toArray, List.set_cons_zero, List.set_cons_succ, i64_w, i32_w]
                        rfl
                      refine take_ (i := 26) (N := some 102) (v := ?_) (a' := ?_) #[true, true, true, true, true, true, true, true, true, true, true, true, true, true, true, true, true, true, true, true, true, true, true, true, true, true, true, false, false, false, false, false] rfl rfl (take_ofW HT_.out HW_.out (by kernel_rfl)) (fun _ _ _ h => h) (Or.inl ⟨by rfl, ?_⟩) hHeld ?_ ?_
                      rotate_left
                      · rintro w' ⟨s0, s1, s2, s3, s4, s5, s6, s7, s8, s9, s10⟩
                        go_simp
                        with_reducible rfl
                      rotate_left
                      · simp only [Act.put, List.setIfInBounds_toArray, List.set_cons_zero, List.set_cons_succ, i64_w, i32_w]
                        rfl
                      refine pure_ (i := 27) (N := some 103) (v := ?_) (a' := ?_) #[true, true, true, true, true, true, true, true, true, true, true, true, true, true, true, true, true, true, true, true, true, true, true, true, true, true, true, true, false, false, false, false] rfl rfl (any_of HT_.out (by kernel_rfl)) (fun _ _ _ h => h) (Or.inl ⟨by rfl, ?_⟩) ?_ ?_
                      rotate_left
                      · intro w'
                        go_simp
                        with_reducible rfl
                      rotate_left
                      · simp only [Act.put, List.setIfInBounds_toArray, List.set_cons_zero, List.set_cons_succ, i64_w, i32_w]
                        rfl
                      refine pure_ (i := 28) (N := some 104) (v := ?_) (a' := ?_) #[true, true, true, true, true, true, true, true, true, true, true, true, true, true, true, true, true, true, true, true, true, true, true, true, true, true, true, true, true, false, false, false] rfl rfl (any_of HT_.out (by kernel_rfl)) (fun _ _ _ h => h) (Or.inl ⟨by rfl, ?_⟩) ?_ ?_
                      rotate_left
                      · intro w'
                        go_simp
                        with_reducible rfl
                      rotate_left
                      · simp only [Act.put, List.setIfInBounds_toArray, List.set_cons_zero, List.set_cons_succ, i64_w, i32_w]
                        rfl
                      refine pure_ (i := 29) (N := some 105) (v := ?_) (a' := ?_) #[true, true, true, true, true, true, true, true, true, true, true, true, true, true, true, true, true, true, true, true, true, true, true, true, true, true, true, true, true, true, false, false] rfl rfl (any_of HT_.out (by kernel_rfl)) (fun _ _ _ h => h) (Or.inl ⟨by rfl, ?_⟩) ?_ ?_
                      rotate_left
                      · intro w'
                        go_simp
                        with_reducible rfl
                      rotate_left
                      · simp only [Act.put, List.setIfInBounds_toArray, List.set_cons_zero, List.set_cons_succ, i64_w, i32_w]
                        rfl
                      refine pure_ (i := 30) (N := some 106) (v := ?_) (a' := ?_) #[true, true, true, true, true, true, true, true, true, true, true, true, true, true, true, true, true, true, true, true, true, true, true, true, true, true, true, true, true, true, true, false] rfl rfl (any_of HT_.out (by kernel_rfl)) (fun _ _ _ h => h) (Or.inl ⟨by rfl, ?_⟩) ?_ ?_
                      rotate_left
                      · intro w'
                        go_simp
                        with_reducible rfl
                      rotate_left
                      · simp only [Act.put, List.setIfInBounds_toArray, List.set_cons_zero, List.set_cons_succ, i64_w, i32_w]
                        rfl
                      refine pure_ (i := 31) (N := some 10) (v := ?_) (a' := ?_) #[true, true, true, true, true, true, true, true, true, true, true, true, true, true, true, true, true, true, true, true, true, true, true, true, true, true, true, true, true, true, true, true] rfl rfl (any_of HT_.out (by kernel_rfl)) (fun _ _ _ h => h) (Or.inl ⟨by rfl, ?_⟩) ?_ ?_
                      rotate_left
                      · intro w'
                        go_simp
                        with_reducible rfl
                      rotate_left
                      · simp only [Act.put, List.setIfInBounds_toArray, List.set_cons_zero, List.set_cons_succ, i64_w, i32_w]
                        rfl
                      refine done_ (done_of HT_.out (by kernel_rfl)) ?_
                      try go_wp2
                      go_ret
                      exact ⟨by first | rfl | (simp [errW_none, errW_some] <;> rfl) | (simp [*, errW_none, errW_some] <;> rfl), by repeat (first | (with_reducible first | exact HB.out | apply below_alloc | apply pw_below_drewN | apply below_drew1 | refine below_set ?_ GE450.out | refine below_set ?_ GE457.out | refine below_set ?_ GE464.out) | exact HB.out)⟩
                    · rw [if_neg c56] at H
                      have c56b0 : decide (t451 < t458) = false := decide_eq_false c56
                      clear c56
                      exact absurd ((Option.some.inj H).trans HT.out) (by decide)
                · replace c36 := Bool.eq_false_iff.mpr c36
                  subst c36
                  have H1 : (some true) = some r := by rw [if_neg (show ¬ (false = true) by decide)] at H; exact H
                  clear H
                  have H := H1
                  clear H1
                  obtain rfl := Option.some.inj H
                  go_enter Try.func6, Try.ntmps6
                  try go_wp2_with (first | ((with_reducible refine gate_callee (f := 8) rfl ?_); refine goesL_ (some 17) rfl rfl Try.func8 (by kernel_rfl) rfl #[] rfl (by (try simp only [List.map_toArray, List.map_cons, List.map_nil]); first | done | rfl | (simp only [List.length_drop, List.length_take]; rfl)) ?_; (with_reducible refine (foolscaplaw8_known.calls  true _ A6.out rfl).mono ?_); rintro e w93 ⟨rfl, hb⟩; refine ⟨_, rfl, ?_⟩; have n0_ := Aside0.mk (below_step (by repeat (first | (with_reducible first | exact HB.out | apply below_alloc | apply pw_below_drewN | apply below_drew1) | exact HB.out)) hb); clear HB; have HB := n0_; clear n0_; (try clear hb); (try clear hb2); (try clear hk); (try clear hi)) | ((with_reducible refine gate_callee (f := 9) rfl ?_); refine goesL_ (some 20) rfl rfl Try.func9 (by kernel_rfl) rfl #[.slice A0 l0.length c0] rfl (by (try simp only [List.map_toArray, List.map_cons, List.map_nil]); first | done | rfl | (simp only [List.length_drop, List.length_take]; rfl)) ?_; (with_reducible refine (foolscaphelp_Text.calls k _ _ l0 true _ ?side1 ?side2 A8.out).mono ?_); (case side1 => repeat (first | exact (Kd.C_below HR0.out HB.out) | (with_reducible refine Kd.C_alloc ?_ _) | (with_reducible refine Kd.C_drewN ?_ _) | (with_reducible refine Kd.C_drew ?_))); (case side2 => exact HC0.out); rintro e w' ⟨rfl, ⟨nd, rfl⟩⟩; refine ⟨_, rfl, ?_⟩; (try (rw [drewN_self w93]; generalize hq_ : World.drewN w93 _ = w93; have n0_ : Aside0 (Below w.heap.size w w93) := ⟨by rw [← hq_]; exact (by repeat (first | (with_reducible first | exact HB.out | apply below_alloc | apply pw_below_drewN | apply below_drew1) | exact HB.out))⟩; clear HB hq_; have HB := n0_; clear n0_))) | ((with_reducible refine gate_callee (f := 10) rfl ?_); refine goesL_ (some 25) rfl rfl Try.func10 (by kernel_rfl) rfl #[.slice A0 l0.length c0, .int .u16 a1, .int .u16 a2] rfl (by (try simp only [List.map_toArray, List.map_cons, List.map_nil]); first | done | rfl | (simp only [List.length_drop, List.length_take]; rfl)) ?_; (with_reducible refine (foolscapseat_Place.calls _ _ l0 a1 a2 t448 t449 _ ?side1 ?side2 A10.out).mono ?_); (case side1 => repeat (first | exact (Kd.C_below HR0.out HB.out) | (with_reducible refine Kd.C_alloc ?_ _) | (with_reducible refine Kd.C_drewN ?_ _) | (with_reducible refine Kd.C_drew ?_))); (case side2 => exact HC0.out); rintro e w94 ⟨rfl, hb⟩; refine ⟨_, rfl, ?_⟩; have n0_ := Aside0.mk (below_step (by repeat (first | (with_reducible first | exact HB.out | apply below_alloc | apply pw_below_drewN | apply below_drew1) | exact HB.out)) hb); clear HB; have HB := n0_; clear n0_; (try clear hb); (try clear hb2); (try clear hk); (try clear hi)) | ((with_reducible refine gate_dst (N := 11) rfl ?_); (try (refine gate_guard (by rfl) ?_; dsimp only)); refine box_event ?hg (N := 11) ?hd (cs := #[.int .i64 0, .int .i64 0]) (t := 24) ?hr ?_; (case hd => rfl); (case hg => rfl); (case hr => first | (go_simp; done) | (go_simp; rfl)); intro gb450 hg w95 hbox hb; have n0_ := Aside0.mk (below_step (by repeat (first | (with_reducible first | exact HB.out | apply below_alloc | apply pw_below_drewN | apply below_drew1) | exact HB.out)) hb); have n1_ := Aside0.mk (hbox); have n2_ := Aside0.mk ((by rw [hg]; exact (below_size (by repeat (first | (with_reducible first | exact HB.out | apply below_alloc | apply pw_below_drewN | apply below_drew1) | exact HB.out))) : w.heap.size ≤ gb450)); have n3_ := Aside0.mk ((by rw [hg]; exact (below_size (by repeat (first | (with_reducible first | exact HB.out | apply below_alloc | apply pw_below_drewN | apply below_drew1) | exact HB.out))) : w.heap.size ≤ gb450)); clear HB; have HB := n0_; have BK450 := n1_; have GW450 := n2_; have GE450 := n3_; clear n0_ n1_ n2_ n3_; clear hb hbox hg; have hcz96_0 : w95.cell? ⟨gb450, 0, none⟩ = some (.int .i64 0) := (blk_cell BK450.out 0).trans rfl; have hcz96_1 : w95.cell? ⟨gb450, 1, none⟩ = some (.int .i64 0) := (blk_cell BK450.out 1).trans rfl; have hfz96_0 := blk_frozen BK450.out 0; have hfz96_1 := blk_frozen BK450.out 1) | ((with_reducible refine gate_callee (f := 11) rfl ?_); refine goesL_ (some 35) rfl rfl Try.func11 (by kernel_rfl) rfl #[.slice A0 l0.length c0, .agg #[.int .i64 t448, .int .i64 t449], .int .i64 (wrap64 ((wrap64 (Int.tmod a3 5)) + 1)), .bool a4, .bool true] rfl (by (try simp only [List.map_toArray, List.map_cons, List.map_nil]); first | done | rfl | (simp only [List.length_drop, List.length_take]; rfl)) ?_; (with_reducible refine (words_Next.calls _ _ l0 t448 t449 (wrap64 ((wrap64 (Int.tmod a3 5)) + 1)) a4 true t451 t452 t453 t454 t455 true _ ?side1 ?side2 A11.out).mono ?_); (case side1 => exact Kd.C_below HR0.out (by repeat (first | (with_reducible first | exact HB.out | apply below_alloc | apply pw_below_drewN | apply below_drew1 | refine below_set ?_ GE450.out) | exact HB.out))); (case side2 => exact HC0.out); rintro e w97 ⟨rfl, hb⟩; refine ⟨_, rfl, ?_⟩; have n0_ := Aside0.mk (blk_below (g := gb450) (o := .cells #[.int .i64 t448, .int .i64 t449] 24 (0, 0)) (by refine blk_put (cs := #[.int .i64 t448, .int .i64 0]) ?_ 1 _ rfl; refine blk_put (cs := #[.int .i64 0, .int .i64 0]) ?_ 0 _ rfl; exact BK450.out) hb); have n1_ := Aside0.mk (below_step (by repeat (first | (with_reducible first | exact HB.out | apply below_alloc | apply pw_below_drewN | apply below_drew1 | refine below_set ?_ GE450.out) | exact HB.out)) hb); clear BK450; clear HB; have BK450 := n0_; have HB := n1_; clear n0_ n1_; (try clear hb); (try clear hb2); (try clear hk); (try clear hi)) | ((with_reducible refine gate_dst (N := 13) rfl ?_); (try (refine gate_guard (by rfl) ?_; dsimp only)); refine box_event ?hg (N := 13) ?hd (cs := #[.int .i64 0, .int .i64 0, .int .i64 0, .bool false, .int .i64 0]) (t := 32) ?hr ?_; (case hd => rfl); (case hg => rfl); (case hr => first | (go_simp; done) | (go_simp; rfl)); intro gb457 hg w98 hbox hb; have n0_ := Aside0.mk (blk_below (g := gb450) (o := .cells #[.int .i64 t448, .int .i64 t449] 24 (0, 0)) (by exact BK450.out) hb); have n1_ := Aside0.mk (below_step (by repeat (first | (with_reducible first | exact HB.out | apply below_alloc | apply pw_below_drewN | apply below_drew1 | refine below_set ?_ GE450.out) | exact HB.out)) hb); have n2_ := Aside0.mk (hbox); have n3_ := Aside0.mk ((by rw [hg]; exact (below_size (by repeat (first | (with_reducible first | exact HB.out | apply below_alloc | apply pw_below_drewN | apply below_drew1 | refine below_set ?_ GE450.out) | exact HB.out))) : w.heap.size ≤ gb457)); have n4_ := Aside0.mk ((by rw [hg]; exact (below_size (by repeat (first | (with_reducible first | exact HB.out | apply below_alloc | apply pw_below_drewN | apply below_drew1 | refine below_set ?_ GE450.out) | exact HB.out))) : w.heap.size ≤ gb457)); have n5_ := Aside0.mk ((by rw [hg]; exact Nat.ne_of_lt (blk_lt (g := gb450) (o := .cells #[.int .i64 t448, .int .i64 t449] 24 (0, 0)) (by exact BK450.out)) : gb450 ≠ gb457)); have n6_ := Aside0.mk ((by rw [hg]; exact Nat.ne_of_gt (blk_lt (g := gb450) (o := .cells #[.int .i64 t448, .int .i64 t449] 24 (0, 0)) (by exact BK450.out)) : gb457 ≠ gb450)); clear BK450; clear HB; have BK450 := n0_; have HB := n1_; have BK457 := n2_; have GW457 := n3_; have GE457 := n4_; have NB450_457 := n5_; have NB457_450 := n6_; clear n0_ n1_ n2_ n3_ n4_ n5_ n6_; clear hb hbox hg; have hnb99 := NB457_450.out; have hnc99 := NB450_457.out; have hcz100_0 : w98.cell? ⟨gb457, 0, none⟩ = some (.int .i64 0) := (blk_cell BK457.out 0).trans rfl; have hcz100_1 : w98.cell? ⟨gb457, 1, none⟩ = some (.int .i64 0) := (blk_cell BK457.out 1).trans rfl; have hcz100_2 : w98.cell? ⟨gb457, 2, none⟩ = some (.int .i64 0) := (blk_cell BK457.out 2).trans rfl; have hcz100_3 : w98.cell? ⟨gb457, 3, none⟩ = some (.bool false) := (blk_cell BK457.out 3).trans rfl; have hcz100_4 : w98.cell? ⟨gb457, 4, none⟩ = some (.int .i64 0) := (blk_cell BK457.out 4).trans rfl; have hfz100_0 := blk_frozen BK457.out 0; have hfz100_1 := blk_frozen BK457.out 1; have hfz100_2 := blk_frozen BK457.out 2; have hfz100_3 := blk_frozen BK457.out 3; have hfz100_4 := blk_frozen BK457.out 4; have hcz101_0 : w98.cell? ⟨gb450, 0, none⟩ = some (.int .i64 t448) := (blk_cell BK450.out 0).trans rfl; have hcz101_1 : w98.cell? ⟨gb450, 1, none⟩ = some (.int .i64 t449) := (blk_cell BK450.out 1).trans rfl; have hfz101_0 := blk_frozen BK450.out 0; have hfz101_1 := blk_frozen BK450.out 1) | ((with_reducible refine gate_callee (f := 11) rfl ?_); refine goesL_ (some 43) rfl rfl Try.func11 (by kernel_rfl) rfl #[.slice A0 l0.length c0, .agg #[.int .i64 t448, .int .i64 t449], .int .i64 (wrap64 ((wrap64 (Int.tmod a3 5)) + 1)), .bool a4, .bool false] rfl (by (try simp only [List.map_toArray, List.map_cons, List.map_nil]); first | done | rfl | (simp only [List.length_drop, List.length_take]; rfl)) ?_; (with_reducible refine (words_Next.calls _ _ l0 t448 t449 (wrap64 ((wrap64 (Int.tmod a3 5)) + 1)) a4 false t458 t459 t460 t461 t462 false _ ?side1 ?side2 A12.out).mono ?_); (case side1 => exact Kd.C_below HR0.out (by repeat (first | (with_reducible first | exact HB.out | apply below_alloc | apply pw_below_drewN | apply below_drew1 | refine below_set ?_ GE450.out | refine below_set ?_ GE457.out) | exact HB.out))); (case side2 => exact HC0.out); rintro e w102 ⟨rfl, hb⟩; refine ⟨_, rfl, ?_⟩; have n0_ := Aside0.mk (blk_below (g := gb450) (o := .cells #[.int .i64 t448, .int .i64 t449] 24 (0, 0)) (by refine blk_far ?_ NB450_457.out _; refine blk_far ?_ NB450_457.out _; refine blk_far ?_ NB450_457.out _; refine blk_far ?_ NB450_457.out _; refine blk_far ?_ NB450_457.out _; exact BK450.out) hb); have n1_ := Aside0.mk (blk_below (g := gb457) (o := .cells #[.int .i64 t451, .int .i64 t452, .int .i64 t453, .bool t454, .int .i64 t455] 32 (0, 0)) (by refine blk_put (cs := #[.int .i64 t451, .int .i64 t452, .int .i64 t453, .bool t454, .int .i64 0]) ?_ 4 _ rfl; refine blk_put (cs := #[.int .i64 t451, .int .i64 t452, .int .i64 t453, .bool false, .int .i64 0]) ?_ 3 _ rfl; refine blk_put (cs := #[.int .i64 t451, .int .i64 t452, .int .i64 0, .bool false, .int .i64 0]) ?_ 2 _ rfl; refine blk_put (cs := #[.int .i64 t451, .int .i64 0, .int .i64 0, .bool false, .int .i64 0]) ?_ 1 _ rfl; refine blk_put (cs := #[.int .i64 0, .int .i64 0, .int .i64 0, .bool false, .int .i64 0]) ?_ 0 _ rfl; exact BK457.out) hb); have n2_ := Aside0.mk (below_step (by repeat (first | (with_reducible first | exact HB.out | apply below_alloc | apply pw_below_drewN | apply below_drew1 | refine below_set ?_ GE450.out | refine below_set ?_ GE457.out) | exact HB.out)) hb); clear BK450; clear BK457; clear HB; have BK450 := n0_; have BK457 := n1_; have HB := n2_; clear n0_ n1_ n2_; (try clear hb); (try clear hb2); (try clear hk); (try clear hi)) | ((with_reducible refine gate_dst (N := 15) rfl ?_); (try (refine gate_guard (by rfl) ?_; dsimp only)); refine box_event ?hg (N := 15) ?hd (cs := #[.int .i64 0, .int .i64 0, .int .i64 0, .bool false, .int .i64 0]) (t := 32) ?hr ?_; (case hd => rfl); (case hg => rfl); (case hr => first | (go_simp; done) | (go_simp; rfl)); intro gb464 hg w103 hbox hb; have n0_ := Aside0.mk (blk_below (g := gb450) (o := .cells #[.int .i64 t448, .int .i64 t449] 24 (0, 0)) (by exact BK450.out) hb); have n1_ := Aside0.mk (blk_below (g := gb457) (o := .cells #[.int .i64 t451, .int .i64 t452, .int .i64 t453, .bool t454, .int .i64 t455] 32 (0, 0)) (by exact BK457.out) hb); have n2_ := Aside0.mk (below_step (by repeat (first | (with_reducible first | exact HB.out | apply below_alloc | apply pw_below_drewN | apply below_drew1 | refine below_set ?_ GE450.out | refine below_set ?_ GE457.out) | exact HB.out)) hb); have n3_ := Aside0.mk (hbox); have n4_ := Aside0.mk ((by rw [hg]; exact (below_size (by repeat (first | (with_reducible first | exact HB.out | apply below_alloc | apply pw_below_drewN | apply below_drew1 | refine below_set ?_ GE450.out | refine below_set ?_ GE457.out) | exact HB.out))) : w.heap.size ≤ gb464)); have n5_ := Aside0.mk ((by rw [hg]; exact (below_size (by repeat (first | (with_reducible first | exact HB.out | apply below_alloc | apply pw_below_drewN | apply below_drew1 | refine below_set ?_ GE450.out | refine below_set ?_ GE457.out) | exact HB.out))) : w.heap.size ≤ gb464)); have n6_ := Aside0.mk ((by rw [hg]; exact Nat.ne_of_lt (blk_lt (g := gb450) (o := .cells #[.int .i64 t448, .int .i64 t449] 24 (0, 0)) (by exact BK450.out)) : gb450 ≠ gb464)); have n7_ := Aside0.mk ((by rw [hg]; exact Nat.ne_of_gt (blk_lt (g := gb450) (o := .cells #[.int .i64 t448, .int .i64 t449] 24 (0, 0)) (by exact BK450.out)) : gb464 ≠ gb450)); have n8_ := Aside0.mk ((by rw [hg]; exact Nat.ne_of_lt (blk_lt (g := gb457) (o := .cells #[.int .i64 t451, .int .i64 t452, .int .i64 t453, .bool t454, .int .i64 t455] 32 (0, 0)) (by exact BK457.out)) : gb457 ≠ gb464)); have n9_ := Aside0.mk ((by rw [hg]; exact Nat.ne_of_gt (blk_lt (g := gb457) (o := .cells #[.int .i64 t451, .int .i64 t452, .int .i64 t453, .bool t454, .int .i64 t455] 32 (0, 0)) (by exact BK457.out)) : gb464 ≠ gb457)); clear BK450; clear BK457; clear HB; have BK450 := n0_; have BK457 := n1_; have HB := n2_; have BK464 := n3_; have GW464 := n4_; have GE464 := n5_; have NB450_464 := n6_; have NB464_450 := n7_; have NB457_464 := n8_; have NB464_457 := n9_; clear n0_ n1_ n2_ n3_ n4_ n5_ n6_ n7_ n8_ n9_; clear hb hbox hg; have hnb104 := NB464_450.out; have hnc104 := NB450_464.out; have hnb105 := NB464_457.out; have hnc105 := NB457_464.out; have hcz106_0 : w103.cell? ⟨gb464, 0, none⟩ = some (.int .i64 0) := (blk_cell BK464.out 0).trans rfl; have hcz106_1 : w103.cell? ⟨gb464, 1, none⟩ = some (.int .i64 0) := (blk_cell BK464.out 1).trans rfl; have hcz106_2 : w103.cell? ⟨gb464, 2, none⟩ = some (.int .i64 0) := (blk_cell BK464.out 2).trans rfl; have hcz106_3 : w103.cell? ⟨gb464, 3, none⟩ = some (.bool false) := (blk_cell BK464.out 3).trans rfl; have hcz106_4 : w103.cell? ⟨gb464, 4, none⟩ = some (.int .i64 0) := (blk_cell BK464.out 4).trans rfl; have hfz106_0 := blk_frozen BK464.out 0; have hfz106_1 := blk_frozen BK464.out 1; have hfz106_2 := blk_frozen BK464.out 2; have hfz106_3 := blk_frozen BK464.out 3; have hfz106_4 := blk_frozen BK464.out 4))
                  have n0_ : Aside0 ((((((w103.setCell ⟨gb464, 0, none⟩ (.int .i64 t458)).setCell ⟨gb464, 1, none⟩ (.int .i64 t459)).setCell ⟨gb464, 2, none⟩ (.int .i64 t460)).setCell ⟨gb464, 3, none⟩ (.bool t461)).setCell ⟨gb464, 4, none⟩ (.int .i64 t462)).heap[gb450]? = some (.cells #[.int .i64 t448, .int .i64 t449] 24 (0, 0))) := ⟨by refine blk_far ?_ NB450_464.out _; refine blk_far ?_ NB450_464.out _; refine blk_far ?_ NB450_464.out _; refine blk_far ?_ NB450_464.out _; refine blk_far ?_ NB450_464.out _; exact BK450.out⟩
                  have n1_ : Aside0 ((((((w103.setCell ⟨gb464, 0, none⟩ (.int .i64 t458)).setCell ⟨gb464, 1, none⟩ (.int .i64 t459)).setCell ⟨gb464, 2, none⟩ (.int .i64 t460)).setCell ⟨gb464, 3, none⟩ (.bool t461)).setCell ⟨gb464, 4, none⟩ (.int .i64 t462)).heap[gb457]? = some (.cells #[.int .i64 t451, .int .i64 t452, .int .i64 t453, .bool t454, .int .i64 t455] 32 (0, 0))) := ⟨by refine blk_far ?_ NB457_464.out _; refine blk_far ?_ NB457_464.out _; refine blk_far ?_ NB457_464.out _; refine blk_far ?_ NB457_464.out _; refine blk_far ?_ NB457_464.out _; exact BK457.out⟩
                  have n2_ : Aside0 ((((((w103.setCell ⟨gb464, 0, none⟩ (.int .i64 t458)).setCell ⟨gb464, 1, none⟩ (.int .i64 t459)).setCell ⟨gb464, 2, none⟩ (.int .i64 t460)).setCell ⟨gb464, 3, none⟩ (.bool t461)).setCell ⟨gb464, 4, none⟩ (.int .i64 t462)).heap[gb464]? = some (.cells #[.int .i64 t458, .int .i64 t459, .int .i64 t460, .bool t461, .int .i64 t462] 32 (0, 0))) := ⟨by refine blk_put (cs := #[.int .i64 t458, .int .i64 t459, .int .i64 t460, .bool t461, .int .i64 0]) ?_ 4 _ rfl; refine blk_put (cs := #[.int .i64 t458, .int .i64 t459, .int .i64 t460, .bool false, .int .i64 0]) ?_ 3 _ rfl; refine blk_put (cs := #[.int .i64 t458, .int .i64 t459, .int .i64 0, .bool false, .int .i64 0]) ?_ 2 _ rfl; refine blk_put (cs := #[.int .i64 t458, .int .i64 0, .int .i64 0, .bool false, .int .i64 0]) ?_ 1 _ rfl; refine blk_put (cs := #[.int .i64 0, .int .i64 0, .int .i64 0, .bool false, .int .i64 0]) ?_ 0 _ rfl; exact BK464.out⟩
                  have n3_ : Aside0 (Below w.heap.size w (((((w103.setCell ⟨gb464, 0, none⟩ (.int .i64 t458)).setCell ⟨gb464, 1, none⟩ (.int .i64 t459)).setCell ⟨gb464, 2, none⟩ (.int .i64 t460)).setCell ⟨gb464, 3, none⟩ (.bool t461)).setCell ⟨gb464, 4, none⟩ (.int .i64 t462))) := ⟨by repeat (first | (with_reducible first | exact HB.out | apply below_alloc | apply pw_below_drewN | apply below_drew1 | refine below_set ?_ GE450.out | refine below_set ?_ GE457.out | refine below_set ?_ GE464.out) | exact HB.out)⟩
                  (try clear BK450)
                  (try clear BK457)
                  (try clear BK464)
                  (try clear HB)
                  generalize (((((w103.setCell ⟨gb464, 0, none⟩ (.int .i64 t458)).setCell ⟨gb464, 1, none⟩ (.int .i64 t459)).setCell ⟨gb464, 2, none⟩ (.int .i64 t460)).setCell ⟨gb464, 3, none⟩ (.bool t461)).setCell ⟨gb464, 4, none⟩ (.int .i64 t462)) = w107 at n0_ n1_ n2_ n3_ ⊢
                  have BK450 := n0_
                  have BK457 := n1_
                  have BK464 := n2_
                  have HB := n3_
                  clear n0_ n1_ n2_ n3_
                  have n0_ := Aside0.mk (blk_drew BK450.out)
                  have n1_ := Aside0.mk (blk_drew BK457.out)
                  have n2_ := Aside0.mk (blk_drew BK464.out)
                  have n3_ := Aside0.mk (below_drew1 HB.out)
                  clear BK450
                  clear BK457
                  clear BK464
                  clear HB
                  have BK450 := n0_
                  have BK457 := n1_
                  have BK464 := n2_
                  have HB := n3_
                  clear n0_ n1_ n2_ n3_
                  have p466 : 0 ≤ (t451 : Int) := of_decide_eq_true (by first | (with_reducible assumption) | assumption)
                  have q466 : t451 < (l0.length : Int) := of_decide_eq_true (by first | (with_reducible assumption) | assumption)
                  obtain ⟨ad466, e466, hx466_0⟩ := Kd.at_string HR0.out t451 p466 q466
                  have hw466_0 := hx466_0
                  cases e466
                  replace hx466_0 := (HB.out.cell (World.block_lt_of_cell? w _ hx466_0)).trans hx466_0
                  replace p466 := eq_true p466
                  replace q466 := eq_true q466
                  refine start_ (n := 18) (S := fun w' => w'.cell? ⟨gb450, 0, none⟩ = some (.int .i64 t448) ∧ w'.cell? ⟨gb450, 1, none⟩ = some (.int .i64 t449) ∧ w'.cell? ⟨gb457, 0, none⟩ = some (.int .i64 t451) ∧ w'.cell? ⟨gb457, 1, none⟩ = some (.int .i64 t452) ∧ w'.cell? ⟨gb457, 2, none⟩ = some (.int .i64 t453) ∧ w'.cell? ⟨gb457, 3, none⟩ = some (.bool t454) ∧ w'.cell? ⟨gb457, 4, none⟩ = some (.int .i64 t455) ∧ w'.cell? (ad466.add (t451).toNat) = some (.string (rdOf ByteArray.empty l0 t451))) (ds := []) #[false, false, false, false, false, false, false, false, false, false, false, false, false, false, false, false, false, false] (by kernel_rfl) rfl rfl ⟨(blk_cell BK450.out 0).trans rfl, (blk_cell BK450.out 1).trans rfl, (blk_cell BK457.out 0).trans rfl, (blk_cell BK457.out 1).trans rfl, (blk_cell BK457.out 2).trans rfl, (blk_cell BK457.out 3).trans rfl, (blk_cell BK457.out 4).trans rfl, ((HB.out.cell (World.block_lt_of_cell? w _ hw466_0)).trans hw466_0)⟩ (fun hHeld => ?_); refine with_tabW foolscaplaw8_WordsInLine.tab11 foolscaplaw8_WordsInLine.bits11 (fun HT_ HW_ => ?_)
                  generalize w107.drew = w108 at BK450 BK457 BK464 HB hx466_0 hHeld ⊢
                  refine pure_ (i := 1) (N := some 59) (v := ?_) (a' := ?_) #[false, true, false, false, false, false, false, false, false, false, false, false, false, false, false, false, false, false] rfl rfl (any_of HT_.out (by kernel_rfl)) (fun _ _ _ h => h) (Or.inl ⟨by rfl, ?_⟩) ?_ ?_
                  rotate_left
                  · intro w'
                    go_simp
                    with_reducible rfl
                  rotate_left
                  · simp only [Act.put, List.setIfInBounds_toArray, List.set_cons_zero, List.set_cons_succ, i64_w, i32_w]
                    rfl
                  refine take_ (i := 0) (N := some 58) (v := ?_) (a' := ?_) #[true, true, false, false, false, false, false, false, false, false, false, false, false, false, false, false, false, false] rfl rfl (take_ofW HT_.out HW_.out (by kernel_rfl)) (fun _ _ _ h => h) (Or.inl ⟨by rfl, ?_⟩) hHeld ?_ ?_
                  rotate_left
                  · rintro w' ⟨s0, s1, s2, s3, s4, s5, s6, s7⟩
                    go_simp
                    with_reducible rfl
                  rotate_left
                  · simp only [Act.put, List.setIfInBounds_toArray, List.set_cons_zero, List.set_cons_succ, i64_w, i32_w]
                    rfl
                  refine take_ (i := 2) (N := some 60) (v := ?_) (a' := ?_) #[true, true, true, false, false, false, false, false, false, false, false, false, false, false, false, false, false, false] rfl rfl (take_ofW HT_.out HW_.out (by kernel_rfl)) (fun _ _ _ h => h) (Or.inl ⟨by rfl, ?_⟩) hHeld ?_ ?_
                  rotate_left
                  · rintro w' ⟨s0, s1, s2, s3, s4, s5, s6, s7⟩
                    go_simp
                    with_reducible rfl
                  rotate_left
                  · simp only [Act.put, List.setIfInBounds_toArray, List.set_cons_zero, List.set_cons_succ, i64_w, i32_w]
                    rfl
                  refine one_ (i := 3) (N := some 61) #[true, true, true, true, false, false, false, false, false, false, false, false, false, false, false, false, false, false] rfl rfl (one_of HT_.out (by kernel_rfl)) (by decide) (fun K hK => ?_)
                  refine goes_ Try.func27 (by kernel_rfl) rfl #[.agg #[.int .i64 t448, .int .i64 t449], .agg #[.int .i64 t451, .int .i64 t452]] (by rfl) rfl rfl (by (try simp only [List.map_toArray, List.map_cons, List.map_nil]); first | done | rfl | (simp only [List.length_drop, List.length_take]; rfl)) ?_
                  with_reducible refine (foolscapref5_Less.calls t448 t449 t451 t452 true _ A14.out).mono ?_
                  rintro e w109 ⟨rfl, hb⟩
                  refine ⟨_, rfl, ?_⟩
                  have n0_ := Aside0.mk (blk_below (g := gb450) (o := .cells #[.int .i64 t448, .int .i64 t449] 24 (0, 0)) (by exact BK450.out) hb)
                  have n1_ := Aside0.mk (blk_below (g := gb457) (o := .cells #[.int .i64 t451, .int .i64 t452, .int .i64 t453, .bool t454, .int .i64 t455] 32 (0, 0)) (by exact BK457.out) hb)
                  have n2_ := Aside0.mk (blk_below (g := gb464) (o := .cells #[.int .i64 t458, .int .i64 t459, .int .i64 t460, .bool t461, .int .i64 t462] 32 (0, 0)) (by exact BK464.out) hb)
                  have n3_ := Aside0.mk (below_step (by repeat (first | (with_reducible first | exact HB.out | apply below_alloc | apply pw_below_drewN | apply below_drew1 | refine below_set ?_ GE450.out | refine below_set ?_ GE457.out | refine below_set ?_ GE464.out) | exact HB.out)) hb)
                  clear BK450
                  clear BK457
                  clear BK464
                  clear HB
                  have BK450 := n0_
                  have BK457 := n1_
                  have BK464 := n2_
                  have HB := n3_
                  clear n0_ n1_ n2_ n3_
                  (try clear hb)
                  (try clear hb2)
                  (try clear hk)
                  (try clear hi)
                  refine hK.out _ _ ⟨(blk_cell BK450.out 0).trans rfl, (blk_cell BK450.out 1).trans rfl, (blk_cell BK457.out 0).trans rfl, (blk_cell BK457.out 1).trans rfl, (blk_cell BK457.out 2).trans rfl, (blk_cell BK457.out 3).trans rfl, (blk_cell BK457.out 4).trans rfl, ((HB.out.cell (World.block_lt_of_cell? w _ hw466_0)).trans hw466_0)⟩ (fun hHeld => ?_)
                  clear hK K
                  refine norm_ (a' := ?_) ?_ ?_
                  rotate_left
                  · show Act.put _ (some 61) _ = _
                    simp only [Act.put, List.setIfInBounds_toArray, List.set_cons_zero, List.set_cons_succ, i64_w, i32_w]
                    rfl
                  refine pure_ (i := 4) (N := some 62) (v := ?_) (a' := ?_) #[true, true, true, true, true, false, false, false, false, false, false, false, false, false, false, false, false, false] rfl rfl (any_of HT_.out (by kernel_rfl)) (fun _ _ _ h => h) (Or.inl ⟨by rfl, ?_⟩) ?_ ?_
                  rotate_left
                  · intro w'
                    go_simp
                    with_reducible rfl
                  rotate_left
                  · simp only [Act.put, List.setIfInBounds_toArray, List.set_cons_zero, List.set_cons_succ, i64_w, i32_w]
                    rfl
                  refine pure_ (i := 5) (N := some 63) (v := ?_) (a' := ?_) #[true, true, true, true, true, true, false, false, false, false, false, false, false, false, false, false, false, false] rfl rfl (any_of HT_.out (by kernel_rfl)) (fun _ _ _ h => h) (Or.inl ⟨by rfl, ?_⟩) ?_ ?_
                  rotate_left
                  · intro w'
                    go_simp
                    with_reducible rfl
                  rotate_left
                  · simp only [Act.put, List.setIfInBounds_toArray, List.set_cons_zero, List.set_cons_succ, i64_w, i32_w]
                    rfl
                  refine pure_ (i := 6) (N := some 64) (v := ?_) (a' := ?_) #[true, true, true, true, true, true, true, false, false, false, false, false, false, false, false, false, false, false] rfl rfl (any_of HT_.out (by kernel_rfl)) (fun _ _ _ h => h) (Or.inl ⟨by rfl, ?_⟩) ?_ ?_
                  rotate_left
                  · intro w'
                    go_simp
                    with_reducible rfl
                  rotate_left
                  · simp only [Act.put, List.setIfInBounds_toArray, List.set_cons_zero, List.set_cons_succ, i64_w, i32_w]
                    rfl
                  refine pure_ (i := 7) (N := some 65) (v := ?_) (a' := ?_) #[true, true, true, true, true, true, true, true, false, false, false, false, false, false, false, false, false, false] rfl rfl (any_of HT_.out (by kernel_rfl)) (fun _ _ _ h => h) (Or.inl ⟨by rfl, ?_⟩) ?_ ?_
                  rotate_left
                  · intro w'
                    go_simp
                    with_reducible rfl
                  rotate_left
                  · simp only [Act.put, List.setIfInBounds_toArray, List.set_cons_zero, List.set_cons_succ, i64_w, i32_w]
                    rfl
                  refine pure_ (i := 9) (N := some 67) (v := ?_) (a' := ?_) #[true, true, true, true, true, true, true, true, false, true, false, false, false, false, false, false, false, false] rfl rfl (any_of HT_.out (by kernel_rfl)) (fun _ _ _ h => h) (Or.inl ⟨by rfl, ?_⟩) ?_ ?_
                  rotate_left
                  · intro w'
                    go_simp
                    with_reducible rfl
                  rotate_left
                  · simp only [Act.put, List.setIfInBounds_toArray, List.set_cons_zero, List.set_cons_succ, i64_w, i32_w]
                    rfl
                  refine pure_ (i := 10) (N := some 68) (v := ?_) (a' := ?_) #[true, true, true, true, true, true, true, true, false, true, true, false, false, false, false, false, false, false] rfl rfl (any_of HT_.out (by kernel_rfl)) (fun _ _ _ h => h) (Or.inl ⟨by rfl, ?_⟩) ?_ ?_
                  rotate_left
                  · intro w'
                    go_simp
                    with_reducible rfl
                  rotate_left
                  · simp only [Act.put, List.setIfInBounds_toArray, List.set_cons_zero, List.set_cons_succ, i64_w, i32_w]
                    rfl
                  refine pure_ (i := 11) (N := some 69) (v := ?_) (a' := ?_) #[true, true, true, true, true, true, true, true, false, true, true, true, false, false, false, false, false, false] rfl rfl (any_of HT_.out (by kernel_rfl)) (fun _ _ _ h => h) (Or.inl ⟨by rfl, ?_⟩) ?_ ?_
                  rotate_left
                  · intro w'
                    go_simp
                    with_reducible rfl
                  rotate_left
                  · simp only [Act.put, List.setIfInBounds_toArray, List.set_cons_zero, List.set_cons_succ, i64_w, i32_w]
                    rfl
                  refine take_ (i := 8) (N := some 66) (v := ?_) (a' := ?_) #[true, true, true, true, true, true, true, true, true, true, true, true, false, false, false, false, false, false] rfl rfl (take_ofW HT_.out HW_.out (by kernel_rfl)) (fun _ _ _ h => h) (Or.inl ⟨by rfl, ?_⟩) hHeld ?_ ?_
                  rotate_left
                  · rintro w' ⟨s0, s1, s2, s3, s4, s5, s6, s7⟩
                    go_simp
                    with_reducible rfl
                  rotate_left
                  · simp only [Act.put, List.setIfInBounds_toArray, List.set_cons_zero, List.set_cons_succ, i64_w, i32_w]
                    rfl
                  refine take_ (i := 12) (N := some 70) (v := ?_) (a' := ?_) #[true, true, true, true, true, true, true, true, true, true, true, true, true, false, false, false, false, false] rfl rfl (take_ofW HT_.out HW_.out (by kernel_rfl)) (fun _ _ _ h => h) (Or.inl ⟨by rfl, ?_⟩) hHeld ?_ ?_
                  rotate_left
                  · rintro w' ⟨s0, s1, s2, s3, s4, s5, s6, s7⟩
                    go_simp
                    with_reducible rfl
                  rotate_left
                  · simp only [Act.put, List.setIfInBounds_toArray, List.set_cons_zero, List.set_cons_succ, i64_w, i32_w]
                    rfl
                  refine pure_ (i := 13) (N := some 71) (v := ?_) (a' := ?_) #[true, true, true, true, true, true, true, true, true, true, true, true, true, true, false, false, false, false] rfl rfl (any_of HT_.out (by kernel_rfl)) (fun _ _ _ h => h) (Or.inl ⟨by rfl, ?_⟩) ?_ ?_
                  rotate_left
                  · intro w'
                    go_simp
                    with_reducible rfl
                  rotate_left
                  · simp only [Act.put, List.setIfInBounds_toArray, List.set_cons_zero, List.set_cons_succ, i64_w, i32_w]
                    rfl
                  refine take_ (i := 14) (N := some 72) (v := ?_) (a' := ?_) #[true, true, true, true, true, true, true, true, true, true, true, true, true, true, true, false, false, false] rfl rfl (take_ofW HT_.out HW_.out (by kernel_rfl)) (fun _ _ _ h => h) (Or.inl ⟨by rfl, ?_⟩) hHeld ?_ ?_
                  rotate_left
                  · rintro w' ⟨s0, s1, s2, s3, s4, s5, s6, s7⟩
                    go_simp
                    with_reducible rfl
                  rotate_left
                  · simp only [Act.put, List.setIfInBounds_toArray, List.set_cons_zero, List.set_cons_succ, i64_w, i32_w]
                    rfl
                  refine pure_ (i := 15) (N := some 73) (v := ?_) (a' := ?_) #[true, true, true, true, true, true, true, true, true, true, true, true, true, true, true, true, false, false] rfl rfl (any_of HT_.out (by kernel_rfl)) (fun _ _ _ h => h) (Or.inl ⟨by rfl, ?_⟩) ?_ ?_
                  rotate_left
                  · intro w'
                    go_simp
                    with_reducible rfl
                  rotate_left
                  · simp only [Act.put, List.setIfInBounds_toArray, List.set_cons_zero, List.set_cons_succ, i64_w, i32_w]
                    rfl
                  refine pure_ (i := 16) (N := some 74) (v := ?_) (a' := ?_) #[true, true, true, true, true, true, true, true, true, true, true, true, true, true, true, true, true, false] rfl rfl (any_of HT_.out (by kernel_rfl)) (fun _ _ _ h => h) (Or.inl ⟨by rfl, ?_⟩) ?_ ?_
                  rotate_left
                  · intro w'
                    go_simp
                    with_reducible rfl
                  rotate_left
                  · simp only [Act.put, List.setIfInBounds_toArray, List.set_cons_zero, List.set_cons_succ, i64_w, i32_w]
                    rfl
                  refine pure_ (i := 17) (N := some 75) (v := ?_) (a' := ?_) #[true, true, true, true, true, true, true, true, true, true, true, true, true, true, true, true, true, true] rfl rfl (any_of HT_.out (by kernel_rfl)) (fun _ _ _ h => h) (Or.inl ⟨by rfl, ?_⟩) ?_ ?_
                  rotate_left
                  · intro w'
                    go_simp
                    with_reducible rfl
                  rotate_left
                  · simp only [Act.put, List.setIfInBounds_toArray, List.set_cons_zero, List.set_cons_succ, i64_w, i32_w]
                    rfl
                  refine done_ (done_of HT_.out (by kernel_rfl)) ?_
                  try go_wp2
                  have n0_ := Aside0.mk (blk_drew BK450.out)
                  have n1_ := Aside0.mk (blk_drew BK457.out)
                  have n2_ := Aside0.mk (blk_drew BK464.out)
                  have n3_ := Aside0.mk (below_drew1 HB.out)
                  clear BK450
                  clear BK457
                  clear BK464
                  clear HB
                  have BK450 := n0_
                  have BK457 := n1_
                  have BK464 := n2_
                  have HB := n3_
                  clear n0_ n1_ n2_ n3_
                  refine start_ (n := 32) (S := fun w' => True) (ds := []) #[false, false, false, false, false, false, false, false, false, false, false, false, false, false, false, false, false, false, false, false, false, false, false, false, false, false, false, false, false, false, false, false] (by kernel_rfl) rfl rfl trivial (fun hHeld => ?_); refine with_tabW foolscaplaw8_WordsInLine.tab13 foolscaplaw8_WordsInLine.bits13 (fun HT_ HW_ => ?_)
                  generalize w109.drew = w110 at BK450 BK457 BK464 HB hHeld ⊢
                  refine pure_ (i := 0) (N := some 76) (v := ?_) (a' := ?_) #[true, false, false, false, false, false, false, false, false, false, false, false, false, false, false, false, false, false, false, false, false, false, false, false, false, false, false, false, false, false, false, false] rfl rfl (any_of HT_.out (by kernel_rfl)) (fun _ _ _ h => h) (Or.inl ⟨by rfl, ?_⟩) ?_ ?_
                  rotate_left
                  · intro w'
                    go_simp
                    with_reducible rfl
                  rotate_left
                  · simp only [Act.put, List.setIfInBounds_toArray, List.set_cons_zero, List.set_cons_succ, i64_w, i32_w]
                    rfl
                  refine pure_ (i := 1) (N := some 77) (v := ?_) (a' := ?_) #[true, true, false, false, false, false, false, false, false, false, false, false, false, false, false, false, false, false, false, false, false, false, false, false, false, false, false, false, false, false, false, false] rfl rfl (any_of HT_.out (by kernel_rfl)) (fun _ _ _ h => h) (Or.inl ⟨by rfl, ?_⟩) ?_ ?_
                  rotate_left
                  · intro w'
                    go_simp
                    with_reducible rfl
                  rotate_left
                  · simp only [Act.put, List.setIfInBounds_toArray, List.set_cons_zero, List.set_cons_succ, i64_w, i32_w]
                    rfl
                  refine pure_ (i := 2) (N := some 78) (v := ?_) (a' := ?_) #[true, true, true, false, false, false, false, false, false, false, false, false, false, false, false, false, false, false, false, false, false, false, false, false, false, false, false, false, false, false, false, false] rfl rfl (any_of HT_.out (by kernel_rfl)) (fun _ _ _ h => h) (Or.inl ⟨by rfl, ?_⟩) ?_ ?_
                  rotate_left
                  · intro w'
                    go_simp
                    with_reducible rfl
                  rotate_left
                  · simp only [Act.put, List.setIfInBounds_toArray, List.set_cons_zero, List.set_cons_succ, i64_w, i32_w]
                    rfl
                  refine pure_ (i := 3) (N := some 79) (v := undef) (a' := ?_) #[true, true, true, true, false, false, false, false, false, false, false, false, false, false, false, false, false, false, false, false, false, false, false, false, false, false, false, false, false, false, false, false] rfl rfl (any_of HT_.out (by kernel_rfl)) (fun _ _ _ h => h) (Or.inr ⟨by rfl, rfl⟩) ?_ ?_
                  rotate_left
                  · simp only [Act.put, List.setIfInBounds_toArray, List.set_cons_zero, List.set_cons_succ, i64_w, i32_w]
                    rfl
                  refine pure_ (i := 4) (N := some 80) (v := undef) (a' := ?_) #[true, true, true, true, true, false, false, false, false, false, false, false, false, false, false, false, false, false, false, false, false, false, false, false, false, false, false, false, false, false, false, false] rfl rfl (any_of HT_.out (by kernel_rfl)) (fun _ _ _ h => h) (Or.inr ⟨by rfl, rfl⟩) ?_ ?_
                  rotate_left
                  · simp only [Act.put, List.setIfInBounds_toArray, List.set_cons_zero, List.set_cons_succ, i64_w, i32_w]
                    rfl
                  refine pure_ (i := 5) (N := some 81) (v := undef) (a' := ?_) #[true, true, true, true, true, true, false, false, false, false, false, false, false, false, false, false, false, false, false, false, false, false, false, false, false, false, false, false, false, false, false, false] rfl rfl (any_of HT_.out (by kernel_rfl)) (fun _ _ _ h => h) (Or.inr ⟨by rfl, rfl⟩) ?_ ?_
                  rotate_left
                  · simp only [Act.put, List.setIfInBounds_toArray, List.set_cons_zero, List.set_cons_succ, i64_w, i32_w]
                    rfl
                  refine pure_ (i := 6) (N := some 82) (v := undef) (a' := ?_) #[true, true, true, true, true, true, true, false, false, false, false, false, false, false, false, false, false, false, false, false, false, false, false, false, false, false, false, false, false, false, false, false] rfl rfl (any_of HT_.out (by kernel_rfl)) (fun _ _ _ h => h) (Or.inr ⟨by rfl, rfl⟩) ?_ ?_
                  rotate_left
                  · simp only [Act.put, List.setIfInBounds_toArray, List.set_cons_zero, List.set_cons_succ, i64_w, i32_w]
                    rfl
                  refine pure_ (i := 7) (N := some 83) (v := undef) (a' := ?_) #[true, true, true, true, true, true, true, true, false, false, false, false, false, false, false, false, false, false, false, false, false, false, false, false, false, false, false, false, false, false, false, false] rfl rfl (any_of HT_.out (by kernel_rfl)) (fun _ _ _ h => h) (Or.inr ⟨by rfl, rfl⟩) ?_ ?_
                  rotate_left
                  · simp only [Act.put, List.setIfInBounds_toArray, List.set_cons_zero, List.set_cons_succ, i64_w, i32_w]
                    rfl
                  refine pure_ (i := 8) (N := some 84) (v := ?_) (a' := ?_) #[true, true, true, true, true, true, true, true, true, false, false, false, false, false, false, false, false, false, false, false, false, false, false, false, false, false, false, false, false, false, false, false] rfl rfl (any_of HT_.out (by kernel_rfl)) (fun _ _ _ h => h) (Or.inl ⟨by rfl, ?_⟩) ?_ ?_
                  rotate_left
                  · intro w'
                    go_simp
                    with_reducible rfl
                  rotate_left
                  · simp only [Act.put, List.setIfInBounds_toArray, List.set_cons_zero, List.set_cons_succ, i64_w, i32_w]
                    rfl
                  refine pure_ (i := 9) (N := some 85) (v := ?_) (a' := ?_) #[true, true, true, true, true, true, true, true, true, true, false, false, false, false, false, false, false, false, false, false, false, false, false, false, false, false, false, false, false, false, false, false] rfl rfl (any_of HT_.out (by kernel_rfl)) (fun _ _ _ h => h) (Or.inl ⟨by rfl, ?_⟩) ?_ ?_
                  rotate_left
                  · intro w'
                    go_simp
                    with_reducible rfl
                  rotate_left
                  · simp only [Act.put, List.setIfInBounds_toArray, List.set_cons_zero, List.set_cons_succ, i64_w, i32_w]
                    rfl
                  refine pure_ (i := 10) (N := some 86) (v := undef) (a' := ?_) #[true, true, true, true, true, true, true, true, true, true, true, false, false, false, false, false, false, false, false, false, false, false, false, false, false, false, false, false, false, false, false, false] rfl rfl (any_of HT_.out (by kernel_rfl)) (fun _ _ _ h => h) (Or.inr ⟨by rfl, rfl⟩) ?_ ?_
                  rotate_left
                  · simp only [Act.put, List.setIfInBounds_toArray, List.set_cons_zero, List.set_cons_succ, i64_w, i32_w]
                    rfl
                  refine pure_ (i := 11) (N := some 87) (v := undef) (a' := ?_) #[true, true, true, true, true, true, true, true, true, true, true, true, false, false, false, false, false, false, false, false, false, false, false, false, false, false, false, false, false, false, false, false] rfl rfl (any_of HT_.out (by kernel_rfl)) (fun _ _ _ h => h) (Or.inr ⟨by rfl, rfl⟩) ?_ ?_
                  rotate_left
                  · simp only [Act.put, List.setIfInBounds_toArray, List.set_cons_zero, List.set_cons_succ, i64_w, i32_w]
                    rfl
                  refine pure_ (i := 12) (N := some 88) (v := undef) (a' := ?_) #[true, true, true, true, true, true, true, true, true, true, true, true, true, false, false, false, false, false, false, false, false, false, false, false, false, false, false, false, false, false, false, false] rfl rfl (any_of HT_.out (by kernel_rfl)) (fun _ _ _ h => h) (Or.inr ⟨by rfl, rfl⟩) ?_ ?_
                  rotate_left
                  · simp only [Act.put, List.setIfInBounds_toArray, List.set_cons_zero, List.set_cons_succ, i64_w, i32_w]
                    rfl
                  refine pure_ (i := 13) (N := some 89) (v := undef) (a' := ?_) #[true, true, true, true, true, true, true, true, true, true, true, true, true, true, false, false, false, false, false, false, false, false, false, false, false, false, false, false, false, false, false, false] rfl rfl (any_of HT_.out (by kernel_rfl)) (fun _ _ _ h => h) (Or.inr ⟨by rfl, rfl⟩) ?_ ?_
                  rotate_left
                  · simp only [Act.put, List.setIfInBounds_toArray, List.set_cons_zero, List.set_cons_succ, i64_w, i32_w]
                    rfl
                  refine pure_ (i := 14) (N := some 90) (v := undef) (a' := ?_) #[true, true, true, true, true, true, true, true, true, true, true, true, true, true, true, false, false, false, false, false, false, false, false, false, false, false, false, false, false, false, false, false] rfl rfl (any_of HT_.out (by kernel_rfl)) (fun _ _ _ h => h) (Or.inr ⟨by rfl, rfl⟩) ?_ ?_
                  rotate_left
                  · simp only [Act.put, List.setIfInBounds_toArray, List.set_cons_zero, List.set_cons_succ, i64_w, i32_w]
                    rfl
                  refine pure_ (i := 15) (N := some 91) (v := undef) (a' := ?_) #[true, true, true, true, true, true, true, true, true, true, true, true, true, true, true, true, false, false, false, false, false, false, false, false, false, false, false, false, false, false, false, false] rfl rfl (any_of HT_.out (by kernel_rfl)) (fun _ _ _ h => h) (Or.inr ⟨by rfl, rfl⟩) ?_ ?_
                  rotate_left
                  · simp only [Act.put, List.setIfInBounds_toArray, List.set_cons_zero, List.set_cons_succ, i64_w, i32_w]
                    rfl
                  refine pure_ (i := 16) (N := some 92) (v := undef) (a' := ?_) #[true, true, true, true, true, true, true, true, true, true, true, true, true, true, true, true, true, false, false, false, false, false, false, false, false, false, false, false, false, false, false, false] rfl rfl (any_of HT_.out (by kernel_rfl)) (fun _ _ _ h => h) (Or.inr ⟨by rfl, rfl⟩) ?_ ?_
                  rotate_left
                  · simp only [Act.put, List.setIfInBounds_toArray, List.set_cons_zero, List.set_cons_succ, i64_w, i32_w]
                    rfl
                  refine pure_ (i := 17) (N := some 93) (v := undef) (a' := ?_) #[true, true, true, true, true, true, true, true, true, true, true, true, true, true, true, true, true, true, false, false, false, false, false, false, false, false, false, false, false, false, false, false] rfl rfl (any_of HT_.out (by kernel_rfl)) (fun _ _ _ h => h) (Or.inr ⟨by rfl, rfl⟩) ?_ ?_
                  rotate_left
                  · simp only [Act.put, List.setIfInBounds_toArray, List.set_cons_zero, List.set_cons_succ, i64_w, i32_w]
                    rfl
                  refine pure_ (i := 18) (N := some 94) (v := undef) (a' := ?_) #[true, true, true, true, true, true, true, true, true, true, true, true, true, true, true, true, true, true, true, false, false, false, false, false, false, false, false, false, false, false, false, false] rfl rfl (any_of HT_.out (by kernel_rfl)) (fun _ _ _ h => h) (Or.inr ⟨by rfl, rfl⟩) ?_ ?_
                  rotate_left
                  · simp only [Act.put, List.setIfInBounds_toArray, List.set_cons_zero, List.set_cons_succ, i64_w, i32_w]
                    rfl
                  refine pure_ (i := 19) (N := some 95) (v := undef) (a' := ?_) #[true, true, true, true, true, true, true, true, true, true, true, true, true, true, true, true, true, true, true, true, false, false, false, false, false, false, false, false, false, false, false, false] rfl rfl (any_of HT_.out (by kernel_rfl)) (fun _ _ _ h => h) (Or.inr ⟨by rfl, rfl⟩) ?_ ?_
                  rotate_left
                  · simp only [Act.put, List.setIfInBounds_toArray, List.set_cons_zero, List.set_cons_succ, i64_w, i32_w]
                    rfl
                  refine pure_ (i := 20) (N := some 96) (v := undef) (a' := ?_) #[true, true, true, true, true, true, true, true, true, true, true, true, true, true, true, true, true, true, true, true, true, false, false, false, false, false, false, false, false, false, false, false] rfl rfl (any_of HT_.out (by kernel_rfl)) (fun _ _ _ h => h) (Or.inr ⟨by rfl, rfl⟩) ?_ ?_
                  rotate_left
                  · simp only [Act.put, List.setIfInBounds_toArray, List.set_cons_zero, List.set_cons_succ, i64_w, i32_w]
                    rfl
                  refine pure_ (i := 21) (N := some 97) (v := undef) (a' := ?_) #[true, true, true, true, true, true, true, true, true, true, true, true, true, true, true, true, true, true, true, true, true, true, false, false, false, false, false, false, false, false, false, false] rfl rfl (any_of HT_.out (by kernel_rfl)) (fun _ _ _ h => h) (Or.inr ⟨by rfl, rfl⟩) ?_ ?_
                  rotate_left
                  · simp only [Act.put, List.setIfInBounds_toArray, List.set_cons_zero, List.set_cons_succ, i64_w, i32_w]
                    rfl
                  refine pure_ (i := 22) (N := some 98) (v := undef) (a' := ?_) #[true, true, true, true, true, true, true, true, true, true, true, true, true, true, true, true, true, true, true, true, true, true, true, false, false, false, false, false, false, false, false, false] rfl rfl (any_of HT_.out (by kernel_rfl)) (fun _ _ _ h => h) (Or.inr ⟨by rfl, rfl⟩) ?_ ?_
                  rotate_left
                  · simp only [Act.put, List.setIfInBounds_toArray, List.set_cons_zero, List.set_cons_succ, i64_w, i32_w]
                    rfl
                  refine pure_ (i := 23) (N := some 99) (v := undef) (a' := ?_) #[true, true, true, true, true, true, true, true, true, true, true, true, true, true, true, true, true, true, true, true, true, true, true, true, false, false, false, false, false, false, false, false] rfl rfl (any_of HT_.out (by kernel_rfl)) (fun _ _ _ h => h) (Or.inr ⟨by rfl, rfl⟩) ?_ ?_
                  rotate_left
                  · simp only [Act.put, List.setIfInBounds_toArray, List.set_cons_zero, List.set_cons_succ, i64_w, i32_w]
                    rfl
                  refine pure_ (i := 24) (N := some 100) (v := undef) (a' := ?_) #[true, true, true, true, true, true, true, true, true, true, true, true, true, true, true, true, true, true, true, true, true, true, true, true, true, false, false, false, false, false, false, false] rfl rfl (any_of HT_.out (by kernel_rfl)) (fun _ _ _ h => h) (Or.inr ⟨by rfl, rfl⟩) ?_ ?_
                  rotate_left
                  · simp only [Act.put, List.setIfInBounds_toArray, List.set_cons_zero, List.set_cons_succ, i64_w, i32_w]
                    rfl
                  refine pure_ (i := 25) (N := some 101) (v := undef) (a' := ?_) #[true, true, true, true, true, true, true, true, true, true, true, true, true, true, true, true, true, true, true, true, true, true, true, true, true, true, false, false, false, false, false, false] rfl rfl (any_of HT_.out (by kernel_rfl)) (fun _ _ _ h => h) (Or.inr ⟨by rfl, rfl⟩) ?_ ?_
                  rotate_left
                  · simp only [Act.put, List.setIfInBounds_toArray, List.set_cons_zero, List.set_cons_succ, i64_w, i32_w]
                    rfl
                  refine pure_ (i := 26) (N := some 102) (v := undef) (a' := ?_) #[true, true, true, true, true, true, true, true, true, true, true, true, true, true, true, true, true, true, true, true, true, true, true, true, true, true, true, false, false, false, false, false] rfl rfl (any_of HT_.out (by kernel_rfl)) (fun _ _ _ h => h) (Or.inr ⟨by rfl, rfl⟩) ?_ ?_
                  rotate_left
                  · simp only [Act.put, List.setIfInBounds_toArray, List.set_cons_zero, List.set_cons_succ, i64_w, i32_w]
                    rfl
                  refine pure_ (i := 27) (N := some 103) (v := undef) (a' := ?_) #[true, true, true, true, true, true, true, true, true, true, true, true, true, true, true, true, true, true, true, true, true, true, true, true, true, true, true, true, false, false, false, false] rfl rfl (any_of HT_.out (by kernel_rfl)) (fun _ _ _ h => h) (Or.inr ⟨by rfl, rfl⟩) ?_ ?_
                  rotate_left
                  · simp only [Act.put, List.setIfInBounds_toArray, List.set_cons_zero, List.set_cons_succ, i64_w, i32_w]
                    rfl
                  refine pure_ (i := 28) (N := some 104) (v := undef) (a' := ?_) #[true, true, true, true, true, true, true, true, true, true, true, true, true, true, true, true, true, true, true, true, true, true, true, true, true, true, true, true, true, false, false, false] rfl rfl (any_of HT_.out (by kernel_rfl)) (fun _ _ _ h => h) (Or.inr ⟨by rfl, rfl⟩) ?_ ?_
                  rotate_left
                  · simp only [Act.put, List.setIfInBounds_toArray, List.set_cons_zero, List.set_cons_succ, i64_w, i32_w]
                    rfl
                  refine pure_ (i := 29) (N := some 105) (v := undef) (a' := ?_) #[true, true, true, true, true, true, true, true, true, true, true, true, true, true, true, true, true, true, true, true, true, true, true, true, true, true, true, true, true, true, false, false] rfl rfl (any_of HT_.out (by kernel_rfl)) (fun _ _ _ h => h) (Or.inr ⟨by rfl, rfl⟩) ?_ ?_
                  rotate_left
                  · simp only [Act.put, List.setIfInBounds_toArray, List.set_cons_zero, List.set_cons_succ, i64_w, i32_w]
                    rfl
                  refine pure_ (i := 30) (N := some 106) (v := ?_) (a' := ?_) #[true, true, true, true, true, true, true, true, true, true, true, true, true, true, true, true, true, true, true, true, true, true, true, true, true, true, true, true, true, true, true, false] rfl rfl (any_of HT_.out (by kernel_rfl)) (fun _ _ _ h => h) (Or.inl ⟨by rfl, ?_⟩) ?_ ?_
                  rotate_left
                  · intro w'
                    go_simp
                    with_reducible rfl
                  rotate_left
                  · simp only [Act.put, List.setIfInBounds_toArray, List.set_cons_zero, List.set_cons_succ, i64_w, i32_w]
                    rfl
                  refine pure_ (i := 31) (N := some 10) (v := ?_) (a' := ?_) #[true, true, true, true, true, true, true, true, true, true, true, true, true, true, true, true, true, true, true, true, true, true, true, true, true, true, true, true, true, true, true, true] rfl rfl (any_of HT_.out (by kernel_rfl)) (fun _ _ _ h => h) (Or.inl ⟨by rfl, ?_⟩) ?_ ?_
                  rotate_left
                  · intro w'
                    go_simp
                    with_reducible rfl
                  rotate_left
                  · simp only [Act.put, List.setIfInBounds_toArray, List.set_cons_zero, List.set_cons_succ, i64_w, i32_w]
                    rfl
                  refine done_ (done_of HT_.out (by kernel_rfl)) ?_
                  try go_wp2
                  go_ret
                  exact ⟨by first | rfl | (simp [errW_none, errW_some] <;> rfl) | (simp [*, errW_none, errW_some] <;> rfl), by repeat (first | (with_reducible first | exact HB.out | apply below_alloc | apply pw_below_drewN | apply below_drew1 | refine below_set ?_ GE450.out | refine below_set ?_ GE457.out | refine below_set ?_ GE464.out) | exact HB.out)⟩
            · rw [if_neg c17] at H
              exact absurd H (by simp)
          · rw [if_neg c16] at H
            exact absurd H (by simp)
        · replace c15 := Bool.eq_false_iff.mpr c15
          subst c15
          have H1 : (some false) = some r := by rw [if_neg (show ¬ (false = true) by decide)] at H; exact H
          clear H
          have H := H1
          clear H1
          exact absurd ((Option.some.inj H).trans HT.out) (by decide)
      · replace c13 := Bool.eq_false_iff.mpr c13
        subst c13
        have H1 : (if t463 = true then (some (decide (t458 > t448))) else (some true)) = some r := by rw [if_neg (show ¬ (false = true) by decide)] at H; exact H
        clear H
        have H := H1
        clear H1
        by_cases c128 : t463 = true
        · subst c128
          have H1 : (some (decide (t458 > t448))) = some r := by rw [if_pos rfl] at H; exact H
          clear H
          have H := H1
          clear H1
          obtain rfl := Option.some.inj H
          go_enter Try.func6, Try.ntmps6
          go_wp2_with (first | ((with_reducible refine gate_callee (f := 8) rfl ?_); refine goesL_ (some 17) rfl rfl Try.func8 (by kernel_rfl) rfl #[] rfl (by (try simp only [List.map_toArray, List.map_cons, List.map_nil]); first | done | rfl | (simp only [List.length_drop, List.length_take]; rfl)) ?_; (with_reducible refine (foolscaplaw8_known.calls  true _ A6.out rfl).mono ?_); rintro e w129 ⟨rfl, hb⟩; refine ⟨_, rfl, ?_⟩; have n0_ := Aside0.mk (below_step (by repeat (first | (with_reducible first | exact HB.out | apply below_alloc | apply pw_below_drewN | apply below_drew1) | exact HB.out)) hb); clear HB; have HB := n0_; clear n0_; (try clear hb); (try clear hb2); (try clear hk); (try clear hi)) | ((with_reducible refine gate_callee (f := 9) rfl ?_); refine goesL_ (some 20) rfl rfl Try.func9 (by kernel_rfl) rfl #[.slice A0 l0.length c0] rfl (by (try simp only [List.map_toArray, List.map_cons, List.map_nil]); first | done | rfl | (simp only [List.length_drop, List.length_take]; rfl)) ?_; (with_reducible refine (foolscaphelp_Text.calls k _ _ l0 true _ ?side1 ?side2 A8.out).mono ?_); (case side1 => repeat (first | exact (Kd.C_below HR0.out HB.out) | (with_reducible refine Kd.C_alloc ?_ _) | (with_reducible refine Kd.C_drewN ?_ _) | (with_reducible refine Kd.C_drew ?_))); (case side2 => exact HC0.out); rintro e w' ⟨rfl, ⟨nd, rfl⟩⟩; refine ⟨_, rfl, ?_⟩; (try (rw [drewN_self w129]; generalize hq_ : World.drewN w129 _ = w129; have n0_ : Aside0 (Below w.heap.size w w129) := ⟨by rw [← hq_]; exact (by repeat (first | (with_reducible first | exact HB.out | apply below_alloc | apply pw_below_drewN | apply below_drew1) | exact HB.out))⟩; clear HB hq_; have HB := n0_; clear n0_))) | ((with_reducible refine gate_callee (f := 10) rfl ?_); refine goesL_ (some 25) rfl rfl Try.func10 (by kernel_rfl) rfl #[.slice A0 l0.length c0, .int .u16 a1, .int .u16 a2] rfl (by (try simp only [List.map_toArray, List.map_cons, List.map_nil]); first | done | rfl | (simp only [List.length_drop, List.length_take]; rfl)) ?_; (with_reducible refine (foolscapseat_Place.calls _ _ l0 a1 a2 t448 t449 _ ?side1 ?side2 A10.out).mono ?_); (case side1 => repeat (first | exact (Kd.C_below HR0.out HB.out) | (with_reducible refine Kd.C_alloc ?_ _) | (with_reducible refine Kd.C_drewN ?_ _) | (with_reducible refine Kd.C_drew ?_))); (case side2 => exact HC0.out); rintro e w130 ⟨rfl, hb⟩; refine ⟨_, rfl, ?_⟩; have n0_ := Aside0.mk (below_step (by repeat (first | (with_reducible first | exact HB.out | apply below_alloc | apply pw_below_drewN | apply below_drew1) | exact HB.out)) hb); clear HB; have HB := n0_; clear n0_; (try clear hb); (try clear hb2); (try clear hk); (try clear hi)) | ((with_reducible refine gate_dst (N := 11) rfl ?_); (try (refine gate_guard (by rfl) ?_; dsimp only)); refine box_event ?hg (N := 11) ?hd (cs := #[.int .i64 0, .int .i64 0]) (t := 24) ?hr ?_; (case hd => rfl); (case hg => rfl); (case hr => first | (go_simp; done) | (go_simp; rfl)); intro gb450 hg w131 hbox hb; have n0_ := Aside0.mk (below_step (by repeat (first | (with_reducible first | exact HB.out | apply below_alloc | apply pw_below_drewN | apply below_drew1) | exact HB.out)) hb); have n1_ := Aside0.mk (hbox); have n2_ := Aside0.mk ((by rw [hg]; exact (below_size (by repeat (first | (with_reducible first | exact HB.out | apply below_alloc | apply pw_below_drewN | apply below_drew1) | exact HB.out))) : w.heap.size ≤ gb450)); have n3_ := Aside0.mk ((by rw [hg]; exact (below_size (by repeat (first | (with_reducible first | exact HB.out | apply below_alloc | apply pw_below_drewN | apply below_drew1) | exact HB.out))) : w.heap.size ≤ gb450)); clear HB; have HB := n0_; have BK450 := n1_; have GW450 := n2_; have GE450 := n3_; clear n0_ n1_ n2_ n3_; clear hb hbox hg; have hcz132_0 : w131.cell? ⟨gb450, 0, none⟩ = some (.int .i64 0) := (blk_cell BK450.out 0).trans rfl; have hcz132_1 : w131.cell? ⟨gb450, 1, none⟩ = some (.int .i64 0) := (blk_cell BK450.out 1).trans rfl; have hfz132_0 := blk_frozen BK450.out 0; have hfz132_1 := blk_frozen BK450.out 1) | ((with_reducible refine gate_callee (f := 11) rfl ?_); refine goesL_ (some 35) rfl rfl Try.func11 (by kernel_rfl) rfl #[.slice A0 l0.length c0, .agg #[.int .i64 t448, .int .i64 t449], .int .i64 (wrap64 ((wrap64 (Int.tmod a3 5)) + 1)), .bool a4, .bool true] rfl (by (try simp only [List.map_toArray, List.map_cons, List.map_nil]); first | done | rfl | (simp only [List.length_drop, List.length_take]; rfl)) ?_; (with_reducible refine (words_Next.calls _ _ l0 t448 t449 (wrap64 ((wrap64 (Int.tmod a3 5)) + 1)) a4 true t451 t452 t453 t454 t455 false _ ?side1 ?side2 A11.out).mono ?_); (case side1 => exact Kd.C_below HR0.out (by repeat (first | (with_reducible first | exact HB.out | apply below_alloc | apply pw_below_drewN | apply below_drew1 | refine below_set ?_ GE450.out) | exact HB.out))); (case side2 => exact HC0.out); rintro e w133 ⟨rfl, hb⟩; refine ⟨_, rfl, ?_⟩; have n0_ := Aside0.mk (blk_below (g := gb450) (o := .cells #[.int .i64 t448, .int .i64 t449] 24 (0, 0)) (by refine blk_put (cs := #[.int .i64 t448, .int .i64 0]) ?_ 1 _ rfl; refine blk_put (cs := #[.int .i64 0, .int .i64 0]) ?_ 0 _ rfl; exact BK450.out) hb); have n1_ := Aside0.mk (below_step (by repeat (first | (with_reducible first | exact HB.out | apply below_alloc | apply pw_below_drewN | apply below_drew1 | refine below_set ?_ GE450.out) | exact HB.out)) hb); clear BK450; clear HB; have BK450 := n0_; have HB := n1_; clear n0_ n1_; (try clear hb); (try clear hb2); (try clear hk); (try clear hi)) | ((with_reducible refine gate_dst (N := 13) rfl ?_); (try (refine gate_guard (by rfl) ?_; dsimp only)); refine box_event ?hg (N := 13) ?hd (cs := #[.int .i64 0, .int .i64 0, .int .i64 0, .bool false, .int .i64 0]) (t := 32) ?hr ?_; (case hd => rfl); (case hg => rfl); (case hr => first | (go_simp; done) | (go_simp; rfl)); intro gb457 hg w134 hbox hb; have n0_ := Aside0.mk (blk_below (g := gb450) (o := .cells #[.int .i64 t448, .int .i64 t449] 24 (0, 0)) (by exact BK450.out) hb); have n1_ := Aside0.mk (below_step (by repeat (first | (with_reducible first | exact HB.out | apply below_alloc | apply pw_below_drewN | apply below_drew1 | refine below_set ?_ GE450.out) | exact HB.out)) hb); have n2_ := Aside0.mk (hbox); have n3_ := Aside0.mk ((by rw [hg]; exact (below_size (by repeat (first | (with_reducible first | exact HB.out | apply below_alloc | apply pw_below_drewN | apply below_drew1 | refine below_set ?_ GE450.out) | exact HB.out))) : w.heap.size ≤ gb457)); have n4_ := Aside0.mk ((by rw [hg]; exact (below_size (by repeat (first | (with_reducible first | exact HB.out | apply below_alloc | apply pw_below_drewN | apply below_drew1 | refine below_set ?_ GE450.out) | exact HB.out))) : w.heap.size ≤ gb457)); have n5_ := Aside0.mk ((by rw [hg]; exact Nat.ne_of_lt (blk_lt (g := gb450) (o := .cells #[.int .i64 t448, .int .i64 t449] 24 (0, 0)) (by exact BK450.out)) : gb450 ≠ gb457)); have n6_ := Aside0.mk ((by rw [hg]; exact Nat.ne_of_gt (blk_lt (g := gb450) (o := .cells #[.int .i64 t448, .int .i64 t449] 24 (0, 0)) (by exact BK450.out)) : gb457 ≠ gb450)); clear BK450; clear HB; have BK450 := n0_; have HB := n1_; have BK457 := n2_; have GW457 := n3_; have GE457 := n4_; have NB450_457 := n5_; have NB457_450 := n6_; clear n0_ n1_ n2_ n3_ n4_ n5_ n6_; clear hb hbox hg; have hnb135 := NB457_450.out; have hnc135 := NB450_457.out; have hcz136_0 : w134.cell? ⟨gb457, 0, none⟩ = some (.int .i64 0) := (blk_cell BK457.out 0).trans rfl; have hcz136_1 : w134.cell? ⟨gb457, 1, none⟩ = some (.int .i64 0) := (blk_cell BK457.out 1).trans rfl; have hcz136_2 : w134.cell? ⟨gb457, 2, none⟩ = some (.int .i64 0) := (blk_cell BK457.out 2).trans rfl; have hcz136_3 : w134.cell? ⟨gb457, 3, none⟩ = some (.bool false) := (blk_cell BK457.out 3).trans rfl; have hcz136_4 : w134.cell? ⟨gb457, 4, none⟩ = some (.int .i64 0) := (blk_cell BK457.out 4).trans rfl; have hfz136_0 := blk_frozen BK457.out 0; have hfz136_1 := blk_frozen BK457.out 1; have hfz136_2 := blk_frozen BK457.out 2; have hfz136_3 := blk_frozen BK457.out 3; have hfz136_4 := blk_frozen BK457.out 4; have hcz137_0 : w134.cell? ⟨gb450, 0, none⟩ = some (.int .i64 t448) := (blk_cell BK450.out 0).trans rfl; have hcz137_1 : w134.cell? ⟨gb450, 1, none⟩ = some (.int .i64 t449) := (blk_cell BK450.out 1).trans rfl; have hfz137_0 := blk_frozen BK450.out 0; have hfz137_1 := blk_frozen BK450.out 1) | ((with_reducible refine gate_callee (f := 11) rfl ?_); refine goesL_ (some 43) rfl rfl Try.func11 (by kernel_rfl) rfl #[.slice A0 l0.length c0, .agg #[.int .i64 t448, .int .i64 t449], .int .i64 (wrap64 ((wrap64 (Int.tmod a3 5)) + 1)), .bool a4, .bool false] rfl (by (try simp only [List.map_toArray, List.map_cons, List.map_nil]); first | done | rfl | (simp only [List.length_drop, List.length_take]; rfl)) ?_; (with_reducible refine (words_Next.calls _ _ l0 t448 t449 (wrap64 ((wrap64 (Int.tmod a3 5)) + 1)) a4 false t458 t459 t460 t461 t462 true _ ?side1 ?side2 A12.out).mono ?_); (case side1 => exact Kd.C_below HR0.out (by repeat (first | (with_reducible first | exact HB.out | apply below_alloc | apply pw_below_drewN | apply below_drew1 | refine below_set ?_ GE450.out | refine below_set ?_ GE457.out) | exact HB.out))); (case side2 => exact HC0.out); rintro e w138 ⟨rfl, hb⟩; refine ⟨_, rfl, ?_⟩; have n0_ := Aside0.mk (blk_below (g := gb450) (o := .cells #[.int .i64 t448, .int .i64 t449] 24 (0, 0)) (by refine blk_far ?_ NB450_457.out _; refine blk_far ?_ NB450_457.out _; refine blk_far ?_ NB450_457.out _; refine blk_far ?_ NB450_457.out _; refine blk_far ?_ NB450_457.out _; exact BK450.out) hb); have n1_ := Aside0.mk (blk_below (g := gb457) (o := .cells #[.int .i64 t451, .int .i64 t452, .int .i64 t453, .bool t454, .int .i64 t455] 32 (0, 0)) (by refine blk_put (cs := #[.int .i64 t451, .int .i64 t452, .int .i64 t453, .bool t454, .int .i64 0]) ?_ 4 _ rfl; refine blk_put (cs := #[.int .i64 t451, .int .i64 t452, .int .i64 t453, .bool false, .int .i64 0]) ?_ 3 _ rfl; refine blk_put (cs := #[.int .i64 t451, .int .i64 t452, .int .i64 0, .bool false, .int .i64 0]) ?_ 2 _ rfl; refine blk_put (cs := #[.int .i64 t451, .int .i64 0, .int .i64 0, .bool false, .int .i64 0]) ?_ 1 _ rfl; refine blk_put (cs := #[.int .i64 0, .int .i64 0, .int .i64 0, .bool false, .int .i64 0]) ?_ 0 _ rfl; exact BK457.out) hb); have n2_ := Aside0.mk (below_step (by repeat (first | (with_reducible first | exact HB.out | apply below_alloc | apply pw_below_drewN | apply below_drew1 | refine below_set ?_ GE450.out | refine below_set ?_ GE457.out) | exact HB.out)) hb); clear BK450; clear BK457; clear HB; have BK450 := n0_; have BK457 := n1_; have HB := n2_; clear n0_ n1_ n2_; (try clear hb); (try clear hb2); (try clear hk); (try clear hi)) | ((with_reducible refine gate_dst (N := 15) rfl ?_); (try (refine gate_guard (by rfl) ?_; dsimp only)); refine box_event ?hg (N := 15) ?hd (cs := #[.int .i64 0, .int .i64 0, .int .i64 0, .bool false, .int .i64 0]) (t := 32) ?hr ?_; (case hd => rfl); (case hg => rfl); (case hr => first | (go_simp; done) | (go_simp; rfl)); intro gb464 hg w139 hbox hb; have n0_ := Aside0.mk (blk_below (g := gb450) (o := .cells #[.int .i64 t448, .int .i64 t449] 24 (0, 0)) (by exact BK450.out) hb); have n1_ := Aside0.mk (blk_below (g := gb457) (o := .cells #[.int .i64 t451, .int .i64 t452, .int .i64 t453, .bool t454, .int .i64 t455] 32 (0, 0)) (by exact BK457.out) hb); have n2_ := Aside0.mk (below_step (by repeat (first | (with_reducible first | exact HB.out | apply below_alloc | apply pw_below_drewN | apply below_drew1 | refine below_set ?_ GE450.out | refine below_set ?_ GE457.out) | exact HB.out)) hb); have n3_ := Aside0.mk (hbox); have n4_ := Aside0.mk ((by rw [hg]; exact (below_size (by repeat (first | (with_reducible first | exact HB.out | apply below_alloc | apply pw_below_drewN | apply below_drew1 | refine below_set ?_ GE450.out | refine below_set ?_ GE457.out) | exact HB.out))) : w.heap.size ≤ gb464)); have n5_ := Aside0.mk ((by rw [hg]; exact (below_size (by repeat (first | (with_reducible first | exact HB.out | apply below_alloc | apply pw_below_drewN | apply below_drew1 | refine below_set ?_ GE450.out | refine below_set ?_ GE457.out) | exact HB.out))) : w.heap.size ≤ gb464)); have n6_ := Aside0.mk ((by rw [hg]; exact Nat.ne_of_lt (blk_lt (g := gb450) (o := .cells #[.int .i64 t448, .int .i64 t449] 24 (0, 0)) (by exact BK450.out)) : gb450 ≠ gb464)); have n7_ := Aside0.mk ((by rw [hg]; exact Nat.ne_of_gt (blk_lt (g := gb450) (o := .cells #[.int .i64 t448, .int .i64 t449] 24 (0, 0)) (by exact BK450.out)) : gb464 ≠ gb450)); have n8_ := Aside0.mk ((by rw [hg]; exact Nat.ne_of_lt (blk_lt (g := gb457) (o := .cells #[.int .i64 t451, .int .i64 t452, .int .i64 t453, .bool t454, .int .i64 t455] 32 (0, 0)) (by exact BK457.out)) : gb457 ≠ gb464)); have n9_ := Aside0.mk ((by rw [hg]; exact Nat.ne_of_gt (blk_lt (g := gb457) (o := .cells #[.int .i64 t451, .int .i64 t452, .int .i64 t453, .bool t454, .int .i64 t455] 32 (0, 0)) (by exact BK457.out)) : gb464 ≠ gb457)); clear BK450; clear BK457; clear HB; have BK450 := n0_; have BK457 := n1_; have HB := n2_; have BK464 := n3_; have GW464 := n4_; have GE464 := n5_; have NB450_464 := n6_; have NB464_450 := n7_; have NB457_464 := n8_; have NB464_457 := n9_; clear n0_ n1_ n2_ n3_ n4_ n5_ n6_ n7_ n8_ n9_; clear hb hbox hg; have hnb140 := NB464_450.out; have hnc140 := NB450_464.out; have hnb141 := NB464_457.out; have hnc141 := NB457_464.out; have hcz142_0 : w139.cell? ⟨gb464, 0, none⟩ = some (.int .i64 0) := (blk_cell BK464.out 0).trans rfl; have hcz142_1 : w139.cell? ⟨gb464, 1, none⟩ = some (.int .i64 0) := (blk_cell BK464.out 1).trans rfl; have hcz142_2 : w139.cell? ⟨gb464, 2, none⟩ = some (.int .i64 0) := (blk_cell BK464.out 2).trans rfl; have hcz142_3 : w139.cell? ⟨gb464, 3, none⟩ = some (.bool false) := (blk_cell BK464.out 3).trans rfl; have hcz142_4 : w139.cell? ⟨gb464, 4, none⟩ = some (.int .i64 0) := (blk_cell BK464.out 4).trans rfl; have hfz142_0 := blk_frozen BK464.out 0; have hfz142_1 := blk_frozen BK464.out 1; have hfz142_2 := blk_frozen BK464.out 2; have hfz142_3 := blk_frozen BK464.out 3; have hfz142_4 := blk_frozen BK464.out 4; have hcz143_0 : w139.cell? ⟨gb450, 0, none⟩ = some (.int .i64 t448) := (blk_cell BK450.out 0).trans rfl; have hcz143_1 : w139.cell? ⟨gb450, 1, none⟩ = some (.int .i64 t449) := (blk_cell BK450.out 1).trans rfl; have hfz143_0 := blk_frozen BK450.out 0; have hfz143_1 := blk_frozen BK450.out 1))
          go_ret
          exact ⟨by first | rfl | (simp [errW_none, errW_some] <;> rfl) | (simp [*, errW_none, errW_some] <;> rfl), by repeat (first | (with_reducible first | exact HB.out | apply below_alloc | apply pw_below_drewN | apply below_drew1 | refine below_set ?_ GE450.out | refine below_set ?_ GE457.out | refine below_set ?_ GE464.out) | exact HB.out)⟩
        · replace c128 := Bool.eq_false_iff.mpr c128
          subst c128
          have H1 : (some true) = some r := by rw [if_neg (show ¬ (false = true) by decide)] at H; exact H
          clear H
          have H := H1
          clear H1
          obtain rfl := Option.some.inj H
          go_enter Try.func6, Try.ntmps6
          go_wp2_with (first | ((with_reducible refine gate_callee (f := 8) rfl ?_); refine goesL_ (some 17) rfl rfl Try.func8 (by kernel_rfl) rfl #[] rfl (by (try simp only [List.map_toArray, List.map_cons, List.map_nil]); first | done | rfl | (simp only [List.length_drop, List.length_take]; rfl)) ?_; (with_reducible refine (foolscaplaw8_known.calls  true _ A6.out rfl).mono ?_); rintro e w144 ⟨rfl, hb⟩; refine ⟨_, rfl, ?_⟩; have n0_ := Aside0.mk (below_step (by repeat (first | (with_reducible first | exact HB.out | apply below_alloc | apply pw_below_drewN | apply below_drew1) | exact HB.out)) hb); clear HB; have HB := n0_; clear n0_; (try clear hb); (try clear hb2); (try clear hk); (try clear hi)) | ((with_reducible refine gate_callee (f := 9) rfl ?_); refine goesL_ (some 20) rfl rfl Try.func9 (by kernel_rfl) rfl #[.slice A0 l0.length c0] rfl (by (try simp only [List.map_toArray, List.map_cons, List.map_nil]); first | done | rfl | (simp only [List.length_drop, List.length_take]; rfl)) ?_; (with_reducible refine (foolscaphelp_Text.calls k _ _ l0 true _ ?side1 ?side2 A8.out).mono ?_); (case side1 => repeat (first | exact (Kd.C_below HR0.out HB.out) | (with_reducible refine Kd.C_alloc ?_ _) | (with_reducible refine Kd.C_drewN ?_ _) | (with_reducible refine Kd.C_drew ?_))); (case side2 => exact HC0.out); rintro e w' ⟨rfl, ⟨nd, rfl⟩⟩; refine ⟨_, rfl, ?_⟩; (try (rw [drewN_self w144]; generalize hq_ : World.drewN w144 _ = w144; have n0_ : Aside0 (Below w.heap.size w w144) := ⟨by rw [← hq_]; exact (by repeat (first | (with_reducible first | exact HB.out | apply below_alloc | apply pw_below_drewN | apply below_drew1) | exact HB.out))⟩; clear HB hq_; have HB := n0_; clear n0_))) | ((with_reducible refine gate_callee (f := 10) rfl ?_); refine goesL_ (some 25) rfl rfl Try.func10 (by kernel_rfl) rfl #[.slice A0 l0.length c0, .int .u16 a1, .int .u16 a2] rfl (by (try simp only [List.map_toArray, List.map_cons, List.map_nil]); first | done | rfl | (simp only [List.length_drop, List.length_take]; rfl)) ?_; (with_reducible refine (foolscapseat_Place.calls _ _ l0 a1 a2 t448 t449 _ ?side1 ?side2 A10.out).mono ?_); (case side1 => repeat (first | exact (Kd.C_below HR0.out HB.out) | (with_reducible refine Kd.C_alloc ?_ _) | (with_reducible refine Kd.C_drewN ?_ _) | (with_reducible refine Kd.C_drew ?_))); (case side2 => exact HC0.out); rintro e w145 ⟨rfl, hb⟩; refine ⟨_, rfl, ?_⟩; have n0_ := Aside0.mk (below_step (by repeat (first | (with_reducible first | exact HB.out | apply below_alloc | apply pw_below_drewN | apply below_drew1) | exact HB.out)) hb); clear HB; have HB := n0_; clear n0_; (try clear hb); (try clear hb2); (try clear hk); (try clear hi)) | ((with_reducible refine gate_dst (N := 11) rfl ?_); (try (refine gate_guard (by rfl) ?_; dsimp only)); refine box_event ?hg (N := 11) ?hd (cs := #[.int .i64 0, .int .i64 0]) (t := 24) ?hr ?_; (case hd => rfl); (case hg => rfl); (case hr => first | (go_simp; done) | (go_simp; rfl)); intro gb450 hg w146 hbox hb; have n0_ := Aside0.mk (below_step (by repeat (first | (with_reducible first | exact HB.out | apply below_alloc | apply pw_below_drewN | apply below_drew1) | exact HB.out)) hb); have n1_ := Aside0.mk (hbox); have n2_ := Aside0.mk ((by rw [hg]; exact (below_size (by repeat (first | (with_reducible first | exact HB.out | apply below_alloc | apply pw_below_drewN | apply below_drew1) | exact HB.out))) : w.heap.size ≤ gb450)); have n3_ := Aside0.mk ((by rw [hg]; exact (below_size (by repeat (first | (with_reducible first | exact HB.out | apply below_alloc | apply pw_below_drewN | apply below_drew1) | exact HB.out))) : w.heap.size ≤ gb450)); clear HB; have HB := n0_; have BK450 := n1_; have GW450 := n2_; have GE450 := n3_; clear n0_ n1_ n2_ n3_; clear hb hbox hg; have hcz147_0 : w146.cell? ⟨gb450, 0, none⟩ = some (.int .i64 0) := (blk_cell BK450.out 0).trans rfl; have hcz147_1 : w146.cell? ⟨gb450, 1, none⟩ = some (.int .i64 0) := (blk_cell BK450.out 1).trans rfl; have hfz147_0 := blk_frozen BK450.out 0; have hfz147_1 := blk_frozen BK450.out 1) | ((with_reducible refine gate_callee (f := 11) rfl ?_); refine goesL_ (some 35) rfl rfl Try.func11 (by kernel_rfl) rfl #[.slice A0 l0.length c0, .agg #[.int .i64 t448, .int .i64 t449], .int .i64 (wrap64 ((wrap64 (Int.tmod a3 5)) + 1)), .bool a4, .bool true] rfl (by (try simp only [List.map_toArray, List.map_cons, List.map_nil]); first | done | rfl | (simp only [List.length_drop, List.length_take]; rfl)) ?_; (with_reducible refine (words_Next.calls _ _ l0 t448 t449 (wrap64 ((wrap64 (Int.tmod a3 5)) + 1)) a4 true t451 t452 t453 t454 t455 false _ ?side1 ?side2 A11.out).mono ?_); (case side1 => exact Kd.C_below HR0.out (by repeat (first | (with_reducible first | exact HB.out | apply below_alloc | apply pw_below_drewN | apply below_drew1 | refine below_set ?_ GE450.out) | exact HB.out))); (case side2 => exact HC0.out); rintro e w148 ⟨rfl, hb⟩; refine ⟨_, rfl, ?_⟩; have n0_ := Aside0.mk (blk_below (g := gb450) (o := .cells #[.int .i64 t448, .int .i64 t449] 24 (0, 0)) (by refine blk_put (cs := #[.int .i64 t448, .int .i64 0]) ?_ 1 _ rfl; refine blk_put (cs := #[.int .i64 0, .int .i64 0]) ?_ 0 _ rfl; exact BK450.out) hb); have n1_ := Aside0.mk (below_step (by repeat (first | (with_reducible first | exact HB.out | apply below_alloc | apply pw_below_drewN | apply below_drew1 | refine below_set ?_ GE450.out) | exact HB.out)) hb); clear BK450; clear HB; have BK450 := n0_; have HB := n1_; clear n0_ n1_; (try clear hb); (try clear hb2); (try clear hk); (try clear hi)) | ((with_reducible refine gate_dst (N := 13) rfl ?_); (try (refine gate_guard (by rfl) ?_; dsimp only)); refine box_event ?hg (N := 13) ?hd (cs := #[.int .i64 0, .int .i64 0, .int .i64 0, .bool false, .int .i64 0]) (t := 32) ?hr ?_; (case hd => rfl); (case hg => rfl); (case hr => first | (go_simp; done) | (go_simp; rfl)); intro gb457 hg w149 hbox hb; have n0_ := Aside0.mk (blk_below (g := gb450) (o := .cells #[.int .i64 t448, .int .i64 t449] 24 (0, 0)) (by exact BK450.out) hb); have n1_ := Aside0.mk (below_step (by repeat (first | (with_reducible first | exact HB.out | apply below_alloc | apply pw_below_drewN | apply below_drew1 | refine below_set ?_ GE450.out) | exact HB.out)) hb); have n2_ := Aside0.mk (hbox); have n3_ := Aside0.mk ((by rw [hg]; exact (below_size (by repeat (first | (with_reducible first | exact HB.out | apply below_alloc | apply pw_below_drewN | apply below_drew1 | refine below_set ?_ GE450.out) | exact HB.out))) : w.heap.size ≤ gb457)); have n4_ := Aside0.mk ((by rw [hg]; exact (below_size (by repeat (first | (with_reducible first | exact HB.out | apply below_alloc | apply pw_below_drewN | apply below_drew1 | refine below_set ?_ GE450.out) | exact HB.out))) : w.heap.size ≤ gb457)); have n5_ := Aside0.mk ((by rw [hg]; exact Nat.ne_of_lt (blk_lt (g := gb450) (o := .cells #[.int .i64 t448, .int .i64 t449] 24 (0, 0)) (by exact BK450.out)) : gb450 ≠ gb457)); have n6_ := Aside0.mk ((by rw [hg]; exact Nat.ne_of_gt (blk_lt (g := gb450) (o := .cells #[.int .i64 t448, .int .i64 t449] 24 (0, 0)) (by exact BK450.out)) : gb457 ≠ gb450)); clear BK450; clear HB; have BK450 := n0_; have HB := n1_; have BK457 := n2_; have GW457 := n3_; have GE457 := n4_; have NB450_457 := n5_; have NB457_450 := n6_; clear n0_ n1_ n2_ n3_ n4_ n5_ n6_; clear hb hbox hg; have hnb150 := NB457_450.out; have hnc150 := NB450_457.out; have hcz151_0 : w149.cell? ⟨gb457, 0, none⟩ = some (.int .i64 0) := (blk_cell BK457.out 0).trans rfl; have hcz151_1 : w149.cell? ⟨gb457, 1, none⟩ = some (.int .i64 0) := (blk_cell BK457.out 1).trans rfl; have hcz151_2 : w149.cell? ⟨gb457, 2, none⟩ = some (.int .i64 0) := (blk_cell BK457.out 2).trans rfl; have hcz151_3 : w149.cell? ⟨gb457, 3, none⟩ = some (.bool false) := (blk_cell BK457.out 3).trans rfl; have hcz151_4 : w149.cell? ⟨gb457, 4, none⟩ = some (.int .i64 0) := (blk_cell BK457.out 4).trans rfl; have hfz151_0 := blk_frozen BK457.out 0; have hfz151_1 := blk_frozen BK457.out 1; have hfz151_2 := blk_frozen BK457.out 2; have hfz151_3 := blk_frozen BK457.out 3; have hfz151_4 := blk_frozen BK457.out 4; have hcz152_0 : w149.cell? ⟨gb450, 0, none⟩ = some (.int .i64 t448) := (blk_cell BK450.out 0).trans rfl; have hcz152_1 : w149.cell? ⟨gb450, 1, none⟩ = some (.int .i64 t449) := (blk_cell BK450.out 1).trans rfl; have hfz152_0 := blk_frozen BK450.out 0; have hfz152_1 := blk_frozen BK450.out 1) | ((with_reducible refine gate_callee (f := 11) rfl ?_); refine goesL_ (some 43) rfl rfl Try.func11 (by kernel_rfl) rfl #[.slice A0 l0.length c0, .agg #[.int .i64 t448, .int .i64 t449], .int .i64 (wrap64 ((wrap64 (Int.tmod a3 5)) + 1)), .bool a4, .bool false] rfl (by (try simp only [List.map_toArray, List.map_cons, List.map_nil]); first | done | rfl | (simp only [List.length_drop, List.length_take]; rfl)) ?_; (with_reducible refine (words_Next.calls _ _ l0 t448 t449 (wrap64 ((wrap64 (Int.tmod a3 5)) + 1)) a4 false t458 t459 t460 t461 t462 false _ ?side1 ?side2 A12.out).mono ?_); (case side1 => exact Kd.C_below HR0.out (by repeat (first | (with_reducible first | exact HB.out | apply below_alloc | apply pw_below_drewN | apply below_drew1 | refine below_set ?_ GE450.out | refine below_set ?_ GE457.out) | exact HB.out))); (case side2 => exact HC0.out); rintro e w153 ⟨rfl, hb⟩; refine ⟨_, rfl, ?_⟩; have n0_ := Aside0.mk (blk_below (g := gb450) (o := .cells #[.int .i64 t448, .int .i64 t449] 24 (0, 0)) (by refine blk_far ?_ NB450_457.out _; refine blk_far ?_ NB450_457.out _; refine blk_far ?_ NB450_457.out _; refine blk_far ?_ NB450_457.out _; refine blk_far ?_ NB450_457.out _; exact BK450.out) hb); have n1_ := Aside0.mk (blk_below (g := gb457) (o := .cells #[.int .i64 t451, .int .i64 t452, .int .i64 t453, .bool t454, .int .i64 t455] 32 (0, 0)) (by refine blk_put (cs := #[.int .i64 t451, .int .i64 t452, .int .i64 t453, .bool t454, .int .i64 0]) ?_ 4 _ rfl; refine blk_put (cs := #[.int .i64 t451, .int .i64 t452, .int .i64 t453, .bool false, .int .i64 0]) ?_ 3 _ rfl; refine blk_put (cs := #[.int .i64 t451, .int .i64 t452, .int .i64 0, .bool false, .int .i64 0]) ?_ 2 _ rfl; refine blk_put (cs := #[.int .i64 t451, .int .i64 0, .int .i64 0, .bool false, .int .i64 0]) ?_ 1 _ rfl; refine blk_put (cs := #[.int .i64 0, .int .i64 0, .int .i64 0, .bool false, .int .i64 0]) ?_ 0 _ rfl; exact BK457.out) hb); have n2_ := Aside0.mk (below_step (by repeat (first | (with_reducible first | exact HB.out | apply below_alloc | apply pw_below_drewN | apply below_drew1 | refine below_set ?_ GE450.out | refine below_set ?_ GE457.out) | exact HB.out)) hb); clear BK450; clear BK457; clear HB; have BK450 := n0_; have BK457 := n1_; have HB := n2_; clear n0_ n1_ n2_; (try clear hb); (try clear hb2); (try clear hk); (try clear hi)) | ((with_reducible refine gate_dst (N := 15) rfl ?_); (try (refine gate_guard (by rfl) ?_; dsimp only)); refine box_event ?hg (N := 15) ?hd (cs := #[.int .i64 0, .int .i64 0, .int .i64 0, .bool false, .int .i64 0]) (t := 32) ?hr ?_; (case hd => rfl); (case hg => rfl); (case hr => first | (go_simp; done) | (go_simp; rfl)); intro gb464 hg w154 hbox hb; have n0_ := Aside0.mk (blk_below (g := gb450) (o := .cells #[.int .i64 t448, .int .i64 t449] 24 (0, 0)) (by exact BK450.out) hb); have n1_ := Aside0.mk (blk_below (g := gb457) (o := .cells #[.int .i64 t451, .int .i64 t452, .int .i64 t453, .bool t454, .int .i64 t455] 32 (0, 0)) (by exact BK457.out) hb); have n2_ := Aside0.mk (below_step (by repeat (first | (with_reducible first | exact HB.out | apply below_alloc | apply pw_below_drewN | apply below_drew1 | refine below_set ?_ GE450.out | refine below_set ?_ GE457.out) | exact HB.out)) hb); have n3_ := Aside0.mk (hbox); have n4_ := Aside0.mk ((by rw [hg]; exact (below_size (by repeat (first | (with_reducible first | exact HB.out | apply below_alloc | apply pw_below_drewN | apply below_drew1 | refine below_set ?_ GE450.out | refine below_set ?_ GE457.out) | exact HB.out))) : w.heap.size ≤ gb464)); have n5_ := Aside0.mk ((by rw [hg]; exact (below_size (by repeat (first | (with_reducible first | exact HB.out | apply below_alloc | apply pw_below_drewN | apply below_drew1 | refine below_set ?_ GE450.out | refine below_set ?_ GE457.out) | exact HB.out))) : w.heap.size ≤ gb464)); have n6_ := Aside0.mk ((by rw [hg]; exact Nat.ne_of_lt (blk_lt (g := gb450) (o := .cells #[.int .i64 t448, .int .i64 t449] 24 (0, 0)) (by exact BK450.out)) : gb450 ≠ gb464)); have n7_ := Aside0.mk ((by rw [hg]; exact Nat.ne_of_gt (blk_lt (g := gb450) (o := .cells #[.int .i64 t448, .int .i64 t449] 24 (0, 0)) (by exact BK450.out)) : gb464 ≠ gb450)); have n8_ := Aside0.mk ((by rw [hg]; exact Nat.ne_of_lt (blk_lt (g := gb457) (o := .cells #[.int .i64 t451, .int .i64 t452, .int .i64 t453, .bool t454, .int .i64 t455] 32 (0, 0)) (by exact BK457.out)) : gb457 ≠ gb464)); have n9_ := Aside0.mk ((by rw [hg]; exact Nat.ne_of_gt (blk_lt (g := gb457) (o := .cells #[.int .i64 t451, .int .i64 t452, .int .i64 t453, .bool t454, .int .i64 t455] 32 (0, 0)) (by exact BK457.out)) : gb464 ≠ gb457)); clear BK450; clear BK457; clear HB; have BK450 := n0_; have BK457 := n1_; have HB := n2_; have BK464 := n3_; have GW464 := n4_; have GE464 := n5_; have NB450_464 := n6_; have NB464_450 := n7_; have NB457_464 := n8_; have NB464_457 := n9_; clear n0_ n1_ n2_ n3_ n4_ n5_ n6_ n7_ n8_ n9_; clear hb hbox hg; have hnb155 := NB464_450.out; have hnc155 := NB450_464.out; have hnb156 := NB464_457.out; have hnc156 := NB457_464.out; have hcz157_0 : w154.cell? ⟨gb464, 0, none⟩ = some (.int .i64 0) := (blk_cell BK464.out 0).trans rfl; have hcz157_1 : w154.cell? ⟨gb464, 1, none⟩ = some (.int .i64 0) := (blk_cell BK464.out 1).trans rfl; have hcz157_2 : w154.cell? ⟨gb464, 2, none⟩ = some (.int .i64 0) := (blk_cell BK464.out 2).trans rfl; have hcz157_3 : w154.cell? ⟨gb464, 3, none⟩ = some (.bool false) := (blk_cell BK464.out 3).trans rfl; have hcz157_4 : w154.cell? ⟨gb464, 4, none⟩ = some (.int .i64 0) := (blk_cell BK464.out 4).trans rfl; have hfz157_0 := blk_frozen BK464.out 0; have hfz157_1 := blk_frozen BK464.out 1; have hfz157_2 := blk_frozen BK464.out 2; have hfz157_3 := blk_frozen BK464.out 3; have hfz157_4 := blk_frozen BK464.out 4))
          go_ret
          exact ⟨by first | rfl | (simp [errW_none, errW_some] <;> rfl) | (simp [*, errW_none, errW_some] <;> rfl), by repeat (first | (with_reducible first | exact HB.out | apply below_alloc | apply pw_below_drewN | apply below_drew1 | refine below_set ?_ GE450.out | refine below_set ?_ GE457.out | refine below_set ?_ GE464.out) | exact HB.out)⟩
    · replace c9 := Bool.eq_false_iff.mpr c9
      subst c9
      have H1 : (some true) = some r := by rw [if_neg (show ¬ (false = true) by decide)] at H; exact H
      clear H
      have H := H1
      clear H1
      obtain rfl := Option.some.inj H
      go_enter Try.func6, Try.ntmps6
      go_wp2_with (first | ((with_reducible refine gate_callee (f := 8) rfl ?_); refine goesL_ (some 17) rfl rfl Try.func8 (by kernel_rfl) rfl #[] rfl (by (try simp only [List.map_toArray, List.map_cons, List.map_nil]); first | done | rfl | (simp only [List.length_drop, List.length_take]; rfl)) ?_; (with_reducible refine (foolscaplaw8_known.calls  true _ A6.out rfl).mono ?_); rintro e w158 ⟨rfl, hb⟩; refine ⟨_, rfl, ?_⟩; have n0_ := Aside0.mk (below_step (by repeat (first | (with_reducible first | exact HB.out | apply below_alloc | apply pw_below_drewN | apply below_drew1) | exact HB.out)) hb); clear HB; have HB := n0_; clear n0_; (try clear hb); (try clear hb2); (try clear hk); (try clear hi)) | ((with_reducible refine gate_callee (f := 9) rfl ?_); refine goesL_ (some 20) rfl rfl Try.func9 (by kernel_rfl) rfl #[.slice A0 l0.length c0] rfl (by (try simp only [List.map_toArray, List.map_cons, List.map_nil]); first | done | rfl | (simp only [List.length_drop, List.length_take]; rfl)) ?_; (with_reducible refine (foolscaphelp_Text.calls k _ _ l0 false _ ?side1 ?side2 A8.out).mono ?_); (case side1 => repeat (first | exact (Kd.C_below HR0.out HB.out) | (with_reducible refine Kd.C_alloc ?_ _) | (with_reducible refine Kd.C_drewN ?_ _) | (with_reducible refine Kd.C_drew ?_))); (case side2 => exact HC0.out); rintro e w' ⟨rfl, ⟨nd, rfl⟩⟩; refine ⟨_, rfl, ?_⟩))
      go_ret
      exact ⟨by first | rfl | (simp [errW_none, errW_some] <;> rfl) | (simp [*, errW_none, errW_some] <;> rfl), by repeat (first | (with_reducible first | exact HB.out | apply below_alloc | apply pw_below_drewN | apply below_drew1) | exact HB.out)⟩
  · replace c7 := Bool.eq_false_iff.mpr c7
    subst c7
    have H1 : (some false) = some r := by rw [if_neg (show ¬ (false = true) by decide)] at H; exact H
    clear H
    have H := H1
    clear H1
    exact absurd ((Option.some.inj H).trans HT.out) (by decide)
end Go.Proofs.Ytifkfjpkngdhmaa.V
namespace Go.Proofs.Ytifkfjpkngdhmaa.Pure
open Go.RowKit Go.Proofs.Ytifkfjpkngdhmaa.V Go.Proofs.YtifkfjpkngdhmaaW.PrintWords Go.Proofs.YtifkfjpkngdhmaaW.PrintLast Go.Proofs.YtifkfjpkngdhmaaW.PrintMore

theorem known_true : foolscaplaw8_known.f = some true := by decide +kernel

end Go.Proofs.Ytifkfjpkngdhmaa.Pure
namespace Go.Proofs.Ytifkfjpkngdhmaa.Pure
open Go.RowKit Go.Proofs.Ytifkfjpkngdhmaa.V Go.Proofs.YtifkfjpkngdhmaaW.PrintWords Go.Proofs.YtifkfjpkngdhmaaW.PrintLast Go.Proofs.YtifkfjpkngdhmaaW.PrintMore

/-- is (a, b) a place of the lines? -/
def PlaceP (l : List ByteArray) (a b : Int) : Prop := 0 ≤ a ∧ a < l.length ∧ 0 ≤ b ∧ b ≤ (rdOf ByteArray.empty l a).size
instance (l : List ByteArray) (a b : Int) : Decidable (PlaceP l a b) := by unfold PlaceP; infer_instance

theorem place_class (l : List ByteArray) (a b : Int) : class_Place.f l a b = some (decide (PlaceP l a b)) := by
  unfold class_Place.f
  by_cases h1 : a ≥ 0
  · rw [if_pos h1]
    by_cases h2 : a < l.length
    · rw [if_pos h2]
      by_cases h3 : b ≥ 0
      · rw [if_pos h3, if_pos h1]
        congr 1
        simp only [decide_eq_decide]
        exact ⟨fun h => ⟨h1, h2, h3, h⟩, fun h => h.2.2.2⟩
      · rw [if_neg h3, decide_eq_false (fun h => h3 h.2.2.1)]
    · rw [if_neg h2, decide_eq_false (fun h => h2 h.2.1)]
  · rw [if_neg h1, decide_eq_false (fun h => h1 h.1)]

/-- the place that two numbers name. -/
theorem seat_place {l : List ByteArray} (hl : Small l) (a b : Int) (ha : 0 ≤ a) (ha2 : a ≤ 65535) (hb : 0 ≤ b) (hb2 : b ≤ 65535) :
    ∃ x y, foolscapseat_Place.f l a b = some (x, y) ∧ PlaceP l x y := by
  obtain ⟨h1, h2, h3⟩ := hl
  have e : Int.tmod a l.length = a % l.length := Int.tmod_eq_emod_of_nonneg ha
  have g0 : 0 ≤ a % (l.length : Int) := Int.emod_nonneg _ (by omega)
  have g1 : a % (l.length : Int) < l.length := Int.emod_lt_of_pos _ (by omega)
  have hz := Small.at ⟨h1, h2, h3⟩ g0 g1
  unfold foolscapseat_Place.f
  rw [if_neg (by omega), w64 (x := a) (by omega) (by omega), e, if_pos g0, if_pos g1, w64 (x := b) (by omega) (by omega), w64 (x := ((rdOf ByteArray.empty l (a % (l.length : Int))).size : Int) + 1) (by omega) (by omega), if_neg (by omega)]
  refine ⟨_, _, rfl, g0, g1, ?_, ?_⟩
  · rw [Int.tmod_eq_emod_of_nonneg hb]
    exact Int.emod_nonneg _ (by omega)
  · rw [Int.tmod_eq_emod_of_nonneg hb]
    have := Int.emod_lt_of_pos b (b := ((rdOf ByteArray.empty l (a % (l.length : Int))).size : Int) + 1) (by omega)
    omega

end Go.Proofs.Ytifkfjpkngdhmaa.Pure
namespace Go.Proofs.Ytifkfjpkngdhmaa.Pure
open Go.RowKit Go.Proofs.Ytifkfjpkngdhmaa.V Go.Proofs.YtifkfjpkngdhmaaW.PrintWords Go.Proofs.YtifkfjpkngdhmaaW.PrintLast Go.Proofs.YtifkfjpkngdhmaaW.PrintMore
set_option linter.unusedVariables false

theorem ltN_iff {a b c d : Int} : ltN a b c d = true ↔ a < c ∨ (a = c ∧ b < d) := by unfold ltN; simp
theorem ltN_no {a b c d : Int} : ltN a b c d = false ↔ ¬ (a < c ∨ (a = c ∧ b < d)) := by rw [← ltN_iff]; simp
theorem ltB_ltN (a b c d : Int) : ltB a b c d = ltN a b c d := rfl
/-- x is ahead of y. -/
abbrev LtS (x y : S24) : Prop := ltN x.f0 x.f1 y.f0 y.f1 = true

theorem lineP_in {empty : Bool} {ask : ByteArray → Int → Bool} {j : Nat} {s : ByteArray} {m : Nat} {x : S24} (h : x ∈ lineP empty ask j s m) :
    x.f0 = j ∧ ((empty = true ∧ s.size = 0 ∧ x.f1 = 0) ∨ (0 ≤ x.f1 ∧ x.f1 < m ∧ ask s x.f1 = true)) := by
  unfold lineP at h
  rcases List.mem_append.1 h with h | h
  · split at h
    · rename_i he
      obtain rfl : x = ⟨(j : Int), 0⟩ := by simpa using h
      exact ⟨rfl, .inl ⟨he.1, he.2, rfl⟩⟩
    · simp at h
  · obtain ⟨i, hi, rfl⟩ := List.mem_map.1 h
    obtain ⟨h1, h2⟩ := List.mem_filter.1 hi
    have : i < m := by simpa using h1
    exact ⟨rfl, .inr ⟨by simp, by simpa using this, h2⟩⟩
theorem in_lineP {empty : Bool} {ask : ByteArray → Int → Bool} {j : Nat} {s : ByteArray} {m : Nat} {y : Int} (h0 : 0 ≤ y) (h1 : y < m) (h : ask s y = true) : (⟨(j : Int), y⟩ : S24) ∈ lineP empty ask j s m := by
  unfold lineP
  refine List.mem_append.2 (.inr (List.mem_map.2 ⟨y.toNat, List.mem_filter.2 ⟨by simp; omega, ?_⟩, ?_⟩))
  · rw [show ((y.toNat : Nat) : Int) = y by omega]; exact h
  · rw [show ((y.toNat : Nat) : Int) = y by omega]
theorem lineP_sorted (empty : Bool) (ask : ByteArray → Int → Bool) (j : Nat) (s : ByteArray) (m : Nat) (hm : m ≤ s.size) : (lineP empty ask j s m).Pairwise LtS := by
  induction m with
  | zero => rw [lineP_zero]; split <;> simp
  | succ m ih =>
    have ih := ih (by omega)
    cases h : ask s (m : Int) with
    | false => rw [lineP_no _ _ _ _ _ h]; exact ih
    | true =>
      rw [lineP_yes _ _ _ _ _ h]
      refine List.pairwise_append.2 ⟨ih, by simp, fun x hx y hy => ?_⟩
      obtain rfl : y = ⟨(j : Int), (m : Int)⟩ := by simpa using hy
      obtain ⟨h1, h2⟩ := lineP_in hx
      refine ltN_iff.2 (.inr ⟨h1, ?_⟩)
      rcases h2 with ⟨_, h3, h4⟩ | ⟨_, h3, _⟩
      · omega
      · exact h3
/-- a place of plc is one of a line's. -/
theorem plc_mem {empty : Bool} {ask : ByteArray → Int → Bool} {l : List ByteArray} {k : Nat} {x : S24} : x ∈ plc empty ask l k ↔ ∃ j : Nat, j < k ∧ x ∈ lineP empty ask j (rdOf ByteArray.empty l (j : Int)) (rdOf ByteArray.empty l (j : Int)).size := by
  unfold plc
  rw [List.mem_flatMap]
  simp
theorem plc_sorted (empty : Bool) (ask : ByteArray → Int → Bool) (l : List ByteArray) (k : Nat) : (plc empty ask l k).Pairwise LtS := by
  induction k with
  | zero => simp [plc]
  | succ k ih =>
    rw [plc_succ]
    refine List.pairwise_append.2 ⟨ih, lineP_sorted _ _ _ _ _ (Nat.le_refl _), fun x hx y hy => ?_⟩
    obtain ⟨j, hj, h1⟩ := plc_mem.1 hx
    exact ltN_iff.2 (.inl (by rw [(lineP_in h1).1, (lineP_in hy).1]; omega))
/-- a place of plc lies in the lines. -/
theorem plc_place {empty : Bool} {ask : ByteArray → Int → Bool} {l : List ByteArray} {x : S24} (h : x ∈ plc empty ask l l.length) : PlaceP l x.f0 x.f1 := by
  obtain ⟨j, hj, h1⟩ := plc_mem.1 h
  obtain ⟨e, h2⟩ := lineP_in h1
  unfold PlaceP
  rw [e]
  refine ⟨by omega, by omega, ?_, ?_⟩
  · rcases h2 with ⟨_, _, h4⟩ | ⟨h3, _, _⟩ <;> omega
  · rcases h2 with ⟨_, h3, h4⟩ | ⟨_, h3, _⟩ <;> omega

/-- the places behind (x, y). -/
def behL (x y : Int) (L : List S24) : List S24 := L.filter fun s => ltN x y s.f0 s.f1
theorem behL_lt {x y : Int} {L : List S24} {s : S24} (h : s ∈ behL x y L) : ltN x y s.f0 s.f1 = true := (List.mem_filter.1 h).2
theorem behL_mem {x y : Int} {L : List S24} {s : S24} (h : s ∈ behL x y L) : s ∈ L := (List.mem_filter.1 h).1
theorem behL_in {x y : Int} {L : List S24} {s : S24} (h : s ∈ L) (hl : ltN x y s.f0 s.f1 = true) : s ∈ behL x y L := List.mem_filter.2 ⟨h, hl⟩

/-- what Next answers, by the places behind. -/
def nextW (l0 : List ByteArray) (p0 p1 : Int) (op : Bool) : Int → Int → List S24 → Option (Int × Int × Int × Bool × Int × Bool)
  | m, _, [] => if op = true ∧ m = 1 then words_end.f l0 p0 p1 ((l0.length : Int) - 1) else some (0, 0, 0, false, 0, false)
  | m, ll, s :: r => if 0 < m - 1 then nextW l0 p0 p1 op (m - 1) s.f0 r else if op = true ∧ ll < s.f0 then words_end.f l0 p0 p1 ll else some (s.f0, s.f1, 0, false, -1, true)
theorem nextGo_beh (l0 : List ByteArray) (p0 p1 : Int) (op : Bool) : ∀ (L : List S24) (m ll : Int), nextGo l0 p0 p1 op m ll L = nextW l0 p0 p1 op m ll (behL p0 p1 L)
  | [], m, ll => rfl
  | s :: r, m, ll => by
    rw [nextGo]
    unfold behL
    cases h : ltN p0 p1 s.f0 s.f1 with
    | false =>
      rw [if_pos rfl, List.filter_cons, if_neg (by rw [h]; simp)]
      exact nextGo_beh l0 p0 p1 op r m ll
    | true =>
      rw [if_neg (by simp), List.filter_cons, if_pos h, nextW]
      have := nextGo_beh l0 p0 p1 op r (m - 1) s.f0
      unfold behL at this
      rw [this]
/-- what Tail answers, by the places behind (or at the place, where here). -/
def behT (x y : Int) (here : Bool) (L : List S24) : List S24 := L.filter fun s => !skipB x y here s
def tailT : Int → List S24 → Int × Int × Int × Bool × Int × Bool
  | _, [] => (0, 0, 0, false, 0, false)
  | m, s :: r => if m - 1 = 0 then (s.f0, s.f1, 1, false, -1, true) else tailT (m - 1) r
theorem tailGo_beh (p0 p1 : Int) (here : Bool) : ∀ (L : List S24) (m : Int), tailGo p0 p1 here m L = tailT m (behT p0 p1 here L)
  | [], m => rfl
  | s :: r, m => by
    rw [tailGo]
    unfold behT
    cases h : skipB p0 p1 here s with
    | true =>
      rw [if_pos rfl, List.filter_cons, if_neg (show ¬ (!skipB p0 p1 here s) = true by rw [h]; simp)]
      exact tailGo_beh p0 p1 here r m
    | false =>
      rw [if_neg (by simp), List.filter_cons, if_pos (show (!skipB p0 p1 here s) = true by rw [h]; rfl), tailT]
      have := tailGo_beh p0 p1 here r (m - 1)
      unfold behT at this
      rw [this]
/-- without here: the places behind. -/
theorem behT_no (x y : Int) (L : List S24) : behT x y false L = behL x y L := by
  unfold behT behL
  congr 1
  funext s
  unfold skipB
  rw [ltB_ltN]
  by_cases h1 : ltN x y s.f0 s.f1 = true
  · rw [h1]
    have := ltN_iff.1 h1
    have e1 : ltN s.f0 s.f1 x y = false := ltN_no.2 (by omega)
    have e2 : decide (s.f0 = x ∧ s.f1 = y) = false := decide_eq_false (by omega)
    rw [e1, e2]; rfl
  · have h1 : ltN x y s.f0 s.f1 = false := by simpa using h1
    rw [h1]
    have := ltN_no.1 h1
    by_cases h2 : s.f0 = x ∧ s.f1 = y
    · rw [decide_eq_true h2]; simp
    · have e1 : ltN s.f0 s.f1 x y = true := ltN_iff.2 (by omega)
      rw [e1]; simp

theorem fails_no {l : List ByteArray} {x y n : Int} (hp : PlaceP l x y) (hn : 1 ≤ n) : words_fails.f l x y n = some false := by
  unfold words_fails.f
  rw [if_neg (by omega), place_class, decide_eq_true hp]
  rfl
theorem fails_yes {l : List ByteArray} {x y n : Int} (h : ¬ (PlaceP l x y ∧ 1 ≤ n)) : words_fails.f l x y n = some true := by
  unfold words_fails.f
  by_cases hn : n < 1
  · rw [if_pos hn]
  · rw [if_neg hn, place_class, decide_eq_false (fun hp => h ⟨hp, by omega⟩)]
    rfl
theorem next_beh {l : List ByteArray} (hl : Small l) {x y n : Int} (hp : PlaceP l x y) (hn : 1 ≤ n) (hn2 : n ≤ 9223372036854775807) (big op : Bool) : words_Next.f l x y n big op = nextW l x y op n x (behL x y (startsL l big)) := by
  unfold words_Next.f
  rw [fails_no hp hn]
  simp only [Option.bind_some, Bool.false_eq_true, if_false]
  rw [if_pos ⟨hl.2.1, hl.2.2, hn, hn2⟩, nextGo_beh]
theorem tail_beh {l : List ByteArray} (hl : Small l) {x y n : Int} (hp : PlaceP l x y) (hn : 1 ≤ n) (hn2 : n ≤ 9223372036854775807) (big here : Bool) : words_Tail.f l x y n big here = some (tailT n (behT x y here (endsL l big))) := by
  unfold words_Tail.f
  rw [fails_no hp hn]
  simp only [Option.bind_some, Bool.false_eq_true, if_false]
  rw [if_pos ⟨hl.2.1, hl.2.2, hn, hn2⟩, tailGo_beh]
/-- the motion to a line's end. -/
theorem end_val {l : List ByteArray} {x y z : Int} (h0 : 0 ≤ z) (h1 : z < l.length) : words_end.f l x y z = some (if ltN x y z (rdOf ByteArray.empty l z).size = true then (z, ((rdOf ByteArray.empty l z).size : Int), 0, false, -1, true) else (0, 0, 0, false, 0, false)) := by
  unfold words_end.f
  rw [if_pos h0, if_pos h1, less_eqN]
  cases ltN x y z ((rdOf ByteArray.empty l z).size : Int) <;> rfl

end Go.Proofs.Ytifkfjpkngdhmaa.Pure
namespace Go.Proofs.Ytifkfjpkngdhmaa.Pure
open Go.RowKit Go.Proofs.Ytifkfjpkngdhmaa.V Go.Proofs.YtifkfjpkngdhmaaW.PrintWords Go.Proofs.YtifkfjpkngdhmaaW.PrintLast Go.Proofs.YtifkfjpkngdhmaaW.PrintMore
set_option linter.unusedVariables false

theorem less_ref (a b c d : Int) : foolscapref5_Less.f a b c d = some (ltN a b c d) := by
  unfold foolscapref5_Less.f ltN
  by_cases h : a < c
  · simp [h]
  · by_cases h2 : a = c <;> simp [h, h2]

/-- what the law asks of the two motions. -/
def inLine (l : List ByteArray) (x y : Int) (m v : Mv) : Prop :=
  (m.2.2.2.2.2 = false → v.2.2.2.2.2 = true → v.1 > x) ∧
  (m.2.2.2.2.2 = true → ltN x y m.1 m.2.1 = true ∧ 0 ≤ m.1 ∧ m.1 < l.length ∧ m.2.1 ≤ (rdOf ByteArray.empty l m.1).size ∧
    (v.2.2.2.2.2 = true → (m.1 = v.1 ∧ m.2.1 = v.2.1) ∨ (m.1 < v.1 ∧ m.2.1 = (rdOf ByteArray.empty l m.1).size)))

theorem inLine_go {l : List ByteArray} {x y : Int} (hp : PlaceP l x y) : ∀ (B : List S24) (n ll : Int), (∀ s ∈ B, PlaceP l s.f0 s.f1 ∧ ltN x y s.f0 s.f1 = true) → 1 ≤ n → x ≤ ll → ll < l.length →
    ∃ m v, nextW l x y true n ll B = some m ∧ nextW l x y false n ll B = some v ∧ inLine l x y m v := by
  intro B
  obtain ⟨p1, p2, p3, p4⟩ := id hp
  induction B with
  | nil =>
    intro n ll hB hn h1 h2
    simp only [nextW, Bool.false_eq_true, false_and, if_false, true_and]
    by_cases h : n = 1
    · rw [if_pos h, end_val (by omega) (by omega)]
      refine ⟨_, _, rfl, rfl, ?_⟩
      cases hc : ltN x y ((l.length : Int) - 1) (rdOf ByteArray.empty l ((l.length : Int) - 1)).size with
      | true => exact ⟨fun h => by simp at h, fun _ => ⟨hc, (by show 0 ≤ (l.length : Int) - 1; omega), (by show (l.length : Int) - 1 < l.length; omega), Int.le_refl _, fun h => by simp at h⟩⟩
      | false => exact ⟨fun _ h => by simp at h, fun h => by simp at h⟩
    · rw [if_neg h]
      exact ⟨_, _, rfl, rfl, fun _ h => by simp at h, fun h => by simp at h⟩
  | cons s r ih =>
    intro n ll hB hn h1 h2
    obtain ⟨⟨q1, q2, q3, q4⟩, q5⟩ := hB s (by simp)
    have q6 := ltN_iff.1 q5
    simp only [nextW, Bool.false_eq_true, false_and, if_false, true_and]
    by_cases h : 0 < n - 1
    · rw [if_pos h, if_pos h]
      exact ih (n - 1) s.f0 (fun t ht => hB t (by simp [ht])) (by omega) (by omega) q2
    · rw [if_neg h, if_neg h]
      by_cases hl : ll < s.f0
      · rw [if_pos hl, end_val (by omega) h2]
        refine ⟨_, _, rfl, rfl, ?_⟩
        cases hc : ltN x y ll (rdOf ByteArray.empty l ll).size with
        | true => exact ⟨fun h => by simp at h, fun _ => ⟨hc, (by show 0 ≤ ll; omega), h2, Int.le_refl _, fun _ => .inr ⟨hl, rfl⟩⟩⟩
        | false => exact ⟨fun _ _ => (by show s.f0 > x; omega), fun h => by simp at h⟩
      · rw [if_neg hl]
        exact ⟨_, _, rfl, rfl, fun h => by simp at h, fun _ => ⟨q5, q1, q2, q4, fun _ => .inl ⟨rfl, rfl⟩⟩⟩

theorem WordsInLine (l0 : List ByteArray) (a1 : Int) (a2 : Int) (a3 : Int) (a4 : Bool) (hl0 : l0.length * 16 ≤ 140737488351232) (hs0 : ∀ s ∈ l0, s.size ≤ 140737488351232) (w1 : (Lit.int .u16 a1).wf = true) (w2 : (Lit.int .u16 a2).wf = true) (w3 : (Lit.int .u8 a3).wf = true) : ∃ k, foolscaplaw8_WordsInLine.f k l0 a1 a2 a3 a4 = some true := by
  obtain ⟨k, hk⟩ : ∃ k : Nat, 60000 ≤ k := ⟨60000, Nat.le_refl _⟩
  refine ⟨k, ?_⟩
  unfold foolscaplaw8_WordsInLine.f
  obtain ⟨b, hb, ht⟩ := text_tells l0 hs0 k (by omega)
  rw [known_true]
  simp only [Option.bind_some, if_true]
  rw [hb]
  simp only [Option.bind_some]
  cases b with
  | false => rfl
  | true =>
    have hl := ht rfl
    have g1 := bounds_u16 w1
    have g2 := bounds_u16 w2
    have g3 := bounds_u8 w3
    obtain ⟨x, y, h1, hp⟩ := seat_place hl a1 a2 g1.1 g1.2 g2.1 g2.2
    obtain ⟨p1, p2, p3, p4⟩ := id hp
    rw [if_pos rfl, h1]
    simp only [Option.bind_some]
    have e5 : Int.tmod a3 5 = a3 % 5 := Int.tmod_eq_emod_of_nonneg g3.1
    rw [e5, w64 (x := a3 % 5) (by omega) (by omega), w64 (x := a3 % 5 + 1) (by omega) (by omega)]
    obtain ⟨n, hn⟩ : ∃ n, a3 % 5 + 1 = n := ⟨_, rfl⟩
    rw [hn, next_beh hl hp (by omega) (by omega), next_beh hl hp (by omega) (by omega)]
    obtain ⟨m, v, hm, hv, hA, hC⟩ := inLine_go hp (behL x y (startsL l0 a4)) n x (fun s hs => ⟨plc_place (behL_mem hs), behL_lt hs⟩) (by omega) (Int.le_refl _) p2
    rw [hm, hv]
    simp only [Option.bind_some, less_ref]
    cases hmm : m.2.2.2.2.2 with
    | false =>
      rw [if_neg (by simp)]
      cases hvv : v.2.2.2.2.2 with
      | false => rw [if_neg (by simp)]
      | true => rw [if_pos rfl, decide_eq_true (hA hmm hvv)]
    | true =>
      obtain ⟨c1, c2, c3, c4, c5⟩ := hC hmm
      rw [if_pos rfl, c1, if_pos rfl, if_pos c2, if_pos c3, if_neg (by omega)]
      cases hvv : v.2.2.2.2.2 with
      | false => rw [if_neg (by simp)]
      | true =>
        rw [if_pos rfl]
        rcases c5 hvv with ⟨d1, d2⟩ | ⟨d1, d2⟩
        · rw [d1, d2]; simp
        · rw [if_neg (by simp; omega), if_pos d1, d2]; simp

end Go.Proofs.Ytifkfjpkngdhmaa.Pure
namespace Go.Proofs.Ytifkfjpkngdhmaa.wordsInLine
open Go.ChangeShapes Go.WideShapes Go.ChangeAt Go.RowKit Go.Proofs.YtifkfjpkngdhmaaW.PrintWords
open Go.ChangeMaps (open_string shut_string)
set_option linter.unusedVariables false
theorem own : ownKnob Try.prog.godebug = none := by kernel_rfl
theorem laidOut : laidOutB Try.prog = true := by kernel_rfl
theorem weightsAll_mem {H : Type} {P : Program} {e : TypeId} {n : Nat} : ∀ {l : List (DataW H)} {d : DataW H}, d ∈ l → n ∈ d.weights P e → n ∈ DataW.weightsAll P e l
  | x :: r, d, hd, hn => by
    simp only [DataW.weightsAll, List.mem_append]
    rcases List.mem_cons.1 hd with rfl | h
    · exact Or.inl hn
    · exact Or.inr (weightsAll_mem h hn)
  | [], _, hd, _ => by simp at hd
theorem open_lines {H : Type} {enc : TypeId × Value → H} {P : Program} {W : World} {base : Nat} {held : Bool} {t e : TypeId} {a : Option Addr} {len cap : Nat} {d : DataW H} {ps : List MemPlace} {ts : List TypeId} {ds : List (DataW H)} {j : Nat}
    (hsz : (DataW.weightsEach P ts ds).all (· ≤ reachBytes) = true) (ht : ts[j]? = some t) (hd : ds[j]? = some d) (hu : P.underlying t = some (.slice e)) (he : P.underlying e = some .string) (hc : P.cellsOf e = 1) (hB : P.bytesOf e = 16)
    (h : DataW.Trod enc P W base (fun _ => true) held t (.slice a len cap) d ps) :
    ∃ l : List ByteArray, len = l.length ∧ ReadsOf Value.string ByteArray.empty W a l.length l ∧ l.length ≤ cap ∧ l.length * 16 ≤ 140737488351232 ∧ ∀ s ∈ l, s.size ≤ 140737488351232 := by
  obtain ⟨fuel, hf⟩ := h
  rcases open_strings hu he hc hf with ⟨hcs, _⟩ | ⟨x, l, c, ss, hcs, _, hl, hm, hz, hx, hcell, _⟩
  · simp [Value.cells] at hcs
    obtain ⟨rfl, rfl, rfl⟩ := hcs
    exact ⟨[], rfl, ReadsOf.nil _ _ _, by simp, by simp, by simp⟩
  · simp [Value.cells] at hcs
    obtain ⟨rfl, rfl, rfl⟩ := hcs
    obtain ⟨hx, _⟩ := Prod.mk.inj hx
    subst hx
    have z := sized_slice hsz ht hd hu
    rw [hB] at z
    have hz : ss.length = cap := by simpa using hz
    have hl2 : (ss.take len).length = len := by rw [List.length_take]; omega
    have z1 : (strs (H := H) (ss.take len)).length + (strs (H := H) (ss.drop len)).length = ss.length := by simp only [strs, List.length_map, List.length_take, List.length_drop]; omega
    rw [z1] at z
    have z : ss.length * 16 ≤ 140737488351232 := z
    unfold maxLen at hm
    refine ⟨ss.take len, hl2.symm, ⟨rfl, by omega, fun hn => ⟨x, rfl, fun i hi => ?_⟩⟩, by omega, by omega, fun s hs => ?_⟩
    · rw [hl2] at hi
      rw [hcell i (by omega)]
      simp only [List.getD]
      rw [List.getElem?_take_of_lt hi]
    · have := List.all_eq_true.1 hsz _ (DataW.weights_mem_each ht hd s.data.toList.length (by
        simp only [DataW.weights, hu]
        refine List.mem_cons_of_mem _ (List.mem_append_left _ (weightsAll_mem (d := .lit (.string s.data.toList)) ?_ (by simp [DataW.weights])))
        exact List.mem_map.2 ⟨s, hs, rfl⟩))
      have := of_decide_eq_true this
      rw [Array.length_toList] at this
      exact this
set_option maxRecDepth 100000 in
theorem lifted (os : Os) (started : os.Started) (H : Type) (enc : TypeId × Value → H) :
    ReturnsInHanded {} Try.checked os 6 .any (Rows.wordsInLineSpec.pre6 enc Try.prog Try.f6 Rows.wordsInLineRow.domain false) (Rows.wordsInLineSpec.post enc Try.prog Try.f6 false true false false) := by
  refine returnsInHanded_of_change_sized (C := Try.checked) own started (by kernel_rfl) Try.func6
    (ChangeSpec.witness6 (enc := enc) (C := Try.checked) false ⟨#[], #[.slice none 0 0, .int .u16 0, .int .u16 0, .int .u8 0, .bool false], []⟩ 8 (by kernel_rfl) (by kernel_rfl) (by kernel_rfl) (by kernel_rfl)) ?_
  intro W base args ds gs before hval0 hW hcnd hsz0 _
  have hsz : (DataW.weightsEach Try.prog (Try.f6.params.toList ++ Rows.wordsInLineSpec.plain.varTypes Try.prog) (ds ++ gs)).all (· ≤ reachBytes) = true := hsz0
  have hval : ∀ (j : Nat) t v, Try.f6.params[j]? = some t → args[j]? = some v → Value.okWide Try.prog W .any base t v := hval0
  have hW' := hW
  obtain ⟨p, q, hA0, hV, rfl, hfz, hnd⟩ := hW
  have hA : DataW.TrodAll enc Try.prog W 0 (fun _ => true) true Try.f6.params.toList args.toList ds p := hA0
  rw [Try.params6] at hA hval hsz
  obtain ⟨v0, vs0, d0, ds0, p0, q0, hargs, rfl, rfl, h0, r0⟩ := trodAll_cons hA
  obtain ⟨v1, vs1, d1, ds1, p1, q1, rfl, rfl, rfl, h1, r1⟩ := trodAll_cons r0
  obtain ⟨v2, vs2, d2, ds2, p2, q2, rfl, rfl, rfl, h2, r2⟩ := trodAll_cons r1
  obtain ⟨v3, vs3, d3, ds3, p3, q3, rfl, rfl, rfl, h3, r3⟩ := trodAll_cons r2
  obtain ⟨v4, vs4, d4, ds4, p4, q4, rfl, rfl, rfl, h4, r4⟩ := trodAll_cons r3
  obtain ⟨rfl, rfl, rfl⟩ := trodAll_nil r4
  obtain rfl : args = #[v0, v1, v2, v3, v4] := by cases args; simp_all
  obtain ⟨rfl, rfl⟩ := trodVars_none hV
  obtain ⟨a0, len0, cap0, rfl⟩ := okWide_slice Try.underlying22 (hval 0 22 v0 rfl rfl)
  have k0 := h0
  have lt0 : ∀ x ∈ p0, x.block < W.heap.size := by obtain ⟨m, hm⟩ := k0; exact DataW.trod_lt m _ _ _ hm
  obtain ⟨l0, rfl, hr0, hc0, hl0, hs0⟩ := open_lines hsz (j := 0) (t := 22) rfl rfl Try.underlying22 Try.underlying9 (by kernel_rfl) (by kernel_rfl) h0
  obtain ⟨a1, rfl, rfl, rfl, w1⟩ := open_int Try.underlying25 (hval 1 25 v1 rfl rfl) h1
  obtain ⟨a2, rfl, rfl, rfl, w2⟩ := open_int Try.underlying25 (hval 2 25 v2 rfl rfl) h2
  obtain ⟨a3, rfl, rfl, rfl, w3⟩ := open_int Try.underlying5 (hval 3 5 v3 rfl rfl) h3
  obtain ⟨a4, rfl, rfl, rfl⟩ := open_bool Try.underlying4 (hval 4 4 v4 rfl rfl) h4
  clear hA0 hval0 hsz0 hsz
  obtain ⟨k, h⟩ := Pure.WordsInLine l0 a1 a2 a3 a4 hl0 hs0 w1 w2 w3
  refine (V.foolscaplaw8_WordsInLine.calls k _ _ l0 a1 a2 a3 a4 true W (Kd.C_of_reads (d := ByteArray.empty) (h1 := fun _ => rfl) hr0) hc0 h rfl).mono fun e W' ⟨he, bel⟩ => ?_
  subst he
  exact ⟨_, rfl, _, _, _, [], _, [], hW', trodAll_mk1 (shut_bool Try.underlying4 _), (trodAll_cons_mk (Below.trod laidOut (by kernel_rfl) (of_decide_eq_true (by kernel_rfl)) k0 bel lt0) (trodAll_cons_mk (shut_int Try.underlying25 w1) (trodAll_cons_mk (shut_int Try.underlying25 w2) (trodAll_cons_mk (shut_int Try.underlying5 w3) (trodAll_cons_mk (shut_bool Try.underlying4 _) trodAll_mk0))))), rfl, bel.frame _, fun h => by cases h⟩
theorem over : Rows.wordsInLineRow.holds Try.pinned (OpenSpec.ofChange Rows.wordsInLineSpec) :=
  OpenClaim.holds_of_wide 6 Try.f6 rfl rfl rfl rfl rfl rfl rfl ⟨rfl, rfl, rfl, rfl, rfl⟩ rfl rfl rfl rfl rfl (by kernel_rfl) Try.func6 (by kernel_rfl)
    (of_decide_eq_true (by kernel_rfl)) (by unfold Func.isWrapper; first | (rw [if_pos (by decide +kernel)]; kernel_rfl) | (rw [if_neg (by decide +kernel)]; exact ⟨rfl, rfl⟩))
    (fun os started H enc _ => lifted os started H enc)
theorem proved : Rows.WordsInLineSaid := over
#print axioms proved
end Go.Proofs.Ytifkfjpkngdhmaa.wordsInLine
namespace Go.Proofs.Ytifkfjpkngdhmaa
/-- The row, under a short name, for the claim. -/
theorem wordsInLine_holds : Rows.WordsInLineSaid := wordsInLine.proved
end Go.Proofs.Ytifkfjpkngdhmaa
