/- Texts of the proof of 'CharsMove', merged in build order (part 4 of 4). -/
import Derived.OpenShut
import Derived.Test.YtdiakjamahdcfaaRows
import Derived.WalkKit
import Derived.ProofKit
import Derived.ShutString
import Derived.ChangeOld
import Derived.Below
import Derived.SizedLaws
import Derived.SliceStrings
import Derived.Lib.SmallJoins
import Derived.Test.YtdiakjamahdcfaaMCharsMove3
namespace Go.Proofs.Ytdiakjamahdcfaa.V
open Go.RowKit Go.Proofs.YtdiakjamahdcfaaW.PrintWords Go.Proofs.YtdiakjamahdcfaaW.PrintLast Go.Proofs.YtdiakjamahdcfaaW.PrintMore
attribute [local go_sem] max2_int min2_int max_two min_two max_three min_three max_four min_four   -- for this text's walks alone
set_option linter.unusedVariables false
set_option linter.unusedSimpArgs false

/-! ### foolscaplaw7_CharsMove: function 4 -/
mutual
def foolscaplaw7_CharsMove.l0 : Nat → List ByteArray → Int → Bool → List (S24) → Int → Int → Option (Bool)
  | 0, _, _, _, _, _, _ => none
  | k + 1, x0, x4, x5, x35, x36, x37 => if x37 < x36 then (if 0 ≤ x37 then (if x37 < (x35.length : Int) then ((some (([x4, Int.tmod x4 12] : List Int) : List Int)).bind fun y389 => (foolscaplaw7_CharsMove.l1 k x0 x4 x5 x35 x36 x37 y389 (y389.length : Int) 0 ((rd_T24 x35 x37).f0) ((rd_T24 x35 x37).f1))) else (none)) else (none)) else (some true)
def foolscaplaw7_CharsMove.l1 : Nat → List ByteArray → Int → Bool → List (S24) → Int → Int → List Int → Int → Int → Int → Int → Option (Bool)
  | 0, _, _, _, _, _, _, _, _, _, _, _ => none
  | k + 1, x0, x4, x5, x35, x36, x37, x44, x45, x46, x389000, x389001 => if x46 < x45 then (if 0 ≤ x46 then (if x46 < (x44.length : Int) then ((chars_Left.f x0 x389000 x389001 (rd x44 x46)).bind fun bt393 => ((foolscapref5_Left.f k x0 x389000 x389001 (rd x44 x46)).bind fun bt400 => ((foolscaplaw7_same.f bt393.1 bt393.2.1 bt393.2.2.1 bt393.2.2.2.1 bt393.2.2.2.2.1 bt393.2.2.2.2.2 bt400.1 bt400.2.1 bt400.2.2.1 bt400.2.2.2.1 bt400.2.2.2.2.1 bt400.2.2.2.2.2).bind fun t407 => (if t407 = true then ((chars_Right.f k x0 x389000 x389001 (rd x44 x46) x5).bind fun bt408 => ((foolscapref5_Right.f k x0 x389000 x389001 (rd x44 x46) x5).bind fun bt414 => ((foolscaplaw7_same.f bt408.1 bt408.2.1 bt408.2.2.1 bt408.2.2.2.1 bt408.2.2.2.2.1 bt408.2.2.2.2.2 bt414.1 bt414.2.1 bt414.2.2.1 bt414.2.2.2.1 bt414.2.2.2.2.1 bt414.2.2.2.2.2).bind fun t420 => (if t420 = true then ((chars_Last.f x0 x389000 x389001 (rd x44 x46)).bind fun bt421 => ((foolscapref5_Last.f k x0 x389000 x389001 (rd x44 x46)).bind fun bt427 => ((foolscaplaw7_same.f bt421.1 bt421.2.1 bt421.2.2.1 bt421.2.2.2.1 bt421.2.2.2.2.1 bt421.2.2.2.2.2 bt427.1 bt427.2.1 bt427.2.2.1 bt427.2.2.2.1 bt427.2.2.2.2.1 bt427.2.2.2.2.2).bind fun t433 => (if t433 = true then ((chars_Column.f x0 x389000 x389001 (rd x44 x46)).bind fun bt434 => ((foolscapref5_Column.f x0 x389000 x389001 (rd x44 x46)).bind fun bt440 => ((foolscaplaw7_same.f bt434.1 bt434.2.1 bt434.2.2.1 bt434.2.2.2.1 bt434.2.2.2.2.1 bt434.2.2.2.2.2 bt440.1 bt440.2.1 bt440.2.2.1 bt440.2.2.2.1 bt440.2.2.2.2.1 bt440.2.2.2.2.2).bind fun t446 => (if t446 = true then (foolscaplaw7_CharsMove.l1 k x0 x4 x5 x35 x36 x37 x44 x45 (wrap64 (x46 + 1)) x389000 x389001) else (some false))))) else (some false))))) else (some false))))) else (some false))))) else (none)) else (none)) else ((chars_Zero.f x0 x389000 x389001).bind fun bt447 => ((foolscapref5_Zero.f x0 x389000 x389001).bind fun bt454 => ((foolscaplaw7_same.f bt447.1 bt447.2.1 bt447.2.2.1 bt447.2.2.2.1 bt447.2.2.2.2.1 bt447.2.2.2.2.2 bt454.1 bt454.2.1 bt454.2.2.1 bt454.2.2.2.1 bt454.2.2.2.2.1 bt454.2.2.2.2.2).bind fun t461 => (if t461 = true then ((chars_First.f k x0 x389000 x389001).bind fun bt462 => ((foolscapref5_FirstOf.f k x0 x389000 x389001).bind fun bt468 => ((foolscaplaw7_same.f bt462.1 bt462.2.1 bt462.2.2.1 bt462.2.2.2.1 bt462.2.2.2.2.1 bt462.2.2.2.2.2 bt468.1 bt468.2.1 bt468.2.2.1 bt468.2.2.2.1 bt468.2.2.2.2.1 bt468.2.2.2.2.2).bind fun t474 => (if t474 = true then (foolscaplaw7_CharsMove.l0 k x0 x4 x5 x35 x36 (wrap64 (x37 + 1))) else (some false))))) else (some false)))))
end
def foolscaplaw7_CharsMove.f (k : Nat) (l0 : List ByteArray) (a1_0 : Int) (a1_1 : Int) (a2 : Int) (a3 : Int) (a4 : Int) (a5 : Bool) : Option (Bool) := (foolscaplaw7_known.f k).bind fun t380 => (if t380 = true then ((foolscaphelp_Text.f k l0).bind fun t381 => (if t381 = true then ((foolscapseat_Place.f l0 a2 a3).bind fun bt382 => ((some (([(⟨a1_0, a1_1⟩ : S24), (⟨bt382.1, bt382.2⟩ : S24)] : List (S24)) : List (S24))).bind fun y384 => (foolscaplaw7_CharsMove.l0 k l0 a4 a5 y384 (y384.length : Int) 0))) else (some true))) else (some false))
theorem foolscaplaw7_CharsMove.mono_l : ∀ k, (∀ y0 y1 y2 y3 y4 y5, LeO (foolscaplaw7_CharsMove.l0 k y0 y1 y2 y3 y4 y5) (foolscaplaw7_CharsMove.l0 (k + 1) y0 y1 y2 y3 y4 y5)) ∧ (∀ y0 y1 y2 y3 y4 y5 y6 y7 y8 y9 y10, LeO (foolscaplaw7_CharsMove.l1 k y0 y1 y2 y3 y4 y5 y6 y7 y8 y9 y10) (foolscaplaw7_CharsMove.l1 (k + 1) y0 y1 y2 y3 y4 y5 y6 y7 y8 y9 y10))
  | 0 => ⟨fun _ _ _ _ _ _ r h => by simp [foolscaplaw7_CharsMove.l0] at h, fun _ _ _ _ _ _ _ _ _ _ _ r h => by simp [foolscaplaw7_CharsMove.l1] at h⟩
  | k + 1 => by
    obtain ⟨ih0, ih1⟩ := foolscaplaw7_CharsMove.mono_l k
    refine ⟨?_, ?_⟩
    · intro y0 y1 y2 y3 y4 y5
      unfold foolscaplaw7_CharsMove.l0
      repeat' first
      | (with_reducible exact ih0 _ _ _ _ _ _)
      | (with_reducible exact ih1 _ _ _ _ _ _ _ _ _ _ _)
      | (with_reducible exact chars_First.mono _ _ _ _)
      | (with_reducible exact chars_Right.mono _ _ _ _ _ _)
      | (with_reducible exact foolscaphelp_Text.mono _ _)
      | (with_reducible exact foolscaplaw7_known.mono _)
      | (with_reducible exact foolscapref5_FirstOf.mono _ _ _ _)
      | (with_reducible exact foolscapref5_Last.mono _ _ _ _ _)
      | (with_reducible exact foolscapref5_Left.mono _ _ _ _ _)
      | (with_reducible exact foolscapref5_Right.mono _ _ _ _ _ _)
      | (with_reducible exact LeO.refl _)
      | (with_reducible exact LeO.none _)
      | (with_reducible refine LeO.ite ?_ ?_)
      | (with_reducible refine LeO.bind ?_ (fun _ => ?_))
      | exact ih0 _ _ _ _ _ _
      | exact ih1 _ _ _ _ _ _ _ _ _ _ _
      | exact chars_First.mono _ _ _ _
      | exact chars_Right.mono _ _ _ _ _ _
      | exact foolscaphelp_Text.mono _ _
      | exact foolscaplaw7_known.mono _
      | exact foolscapref5_FirstOf.mono _ _ _ _
      | exact foolscapref5_Last.mono _ _ _ _ _
      | exact foolscapref5_Left.mono _ _ _ _ _
      | exact foolscapref5_Right.mono _ _ _ _ _ _
      | exact LeO.none _
      | refine LeO.ite ?_ ?_
      | refine LeO.bind ?_ (fun _ => ?_)
    · intro y0 y1 y2 y3 y4 y5 y6 y7 y8 y9 y10
      unfold foolscaplaw7_CharsMove.l1
      repeat' first
      | (with_reducible exact ih0 _ _ _ _ _ _)
      | (with_reducible exact ih1 _ _ _ _ _ _ _ _ _ _ _)
      | (with_reducible exact chars_First.mono _ _ _ _)
      | (with_reducible exact chars_Right.mono _ _ _ _ _ _)
      | (with_reducible exact foolscaphelp_Text.mono _ _)
      | (with_reducible exact foolscaplaw7_known.mono _)
      | (with_reducible exact foolscapref5_FirstOf.mono _ _ _ _)
      | (with_reducible exact foolscapref5_Last.mono _ _ _ _ _)
      | (with_reducible exact foolscapref5_Left.mono _ _ _ _ _)
      | (with_reducible exact foolscapref5_Right.mono _ _ _ _ _ _)
      | (with_reducible exact LeO.refl _)
      | (with_reducible exact LeO.none _)
      | (with_reducible refine LeO.ite ?_ ?_)
      | (with_reducible refine LeO.bind ?_ (fun _ => ?_))
      | exact ih0 _ _ _ _ _ _
      | exact ih1 _ _ _ _ _ _ _ _ _ _ _
      | exact chars_First.mono _ _ _ _
      | exact chars_Right.mono _ _ _ _ _ _
      | exact foolscaphelp_Text.mono _ _
      | exact foolscaplaw7_known.mono _
      | exact foolscapref5_FirstOf.mono _ _ _ _
      | exact foolscapref5_Last.mono _ _ _ _ _
      | exact foolscapref5_Left.mono _ _ _ _ _
      | exact foolscapref5_Right.mono _ _ _ _ _ _
      | exact LeO.none _
      | refine LeO.ite ?_ ?_
      | refine LeO.bind ?_ (fun _ => ?_)
theorem foolscaplaw7_CharsMove.mono : ∀ a0 a1 a2 a3 a4 a5 a6 k, LeO (foolscaplaw7_CharsMove.f k a0 a1 a2 a3 a4 a5 a6) (foolscaplaw7_CharsMove.f (k + 1) a0 a1 a2 a3 a4 a5 a6) := by
  intro a0 a1 a2 a3 a4 a5 a6 k
  obtain ⟨ih0, ih1⟩ := foolscaplaw7_CharsMove.mono_l k
  unfold foolscaplaw7_CharsMove.f
  repeat' first
      | (with_reducible exact ih0 _ _ _ _ _ _)
      | (with_reducible exact ih1 _ _ _ _ _ _ _ _ _ _ _)
      | (with_reducible exact chars_First.mono _ _ _ _)
      | (with_reducible exact chars_Right.mono _ _ _ _ _ _)
      | (with_reducible exact foolscaphelp_Text.mono _ _)
      | (with_reducible exact foolscaplaw7_known.mono _)
      | (with_reducible exact foolscapref5_FirstOf.mono _ _ _ _)
      | (with_reducible exact foolscapref5_Last.mono _ _ _ _ _)
      | (with_reducible exact foolscapref5_Left.mono _ _ _ _ _)
      | (with_reducible exact foolscapref5_Right.mono _ _ _ _ _ _)
      | (with_reducible exact LeO.refl _)
      | (with_reducible exact LeO.none _)
      | (with_reducible refine LeO.ite ?_ ?_)
      | (with_reducible refine LeO.bind ?_ (fun _ => ?_))
      | exact ih0 _ _ _ _ _ _
      | exact ih1 _ _ _ _ _ _ _ _ _ _ _
      | exact chars_First.mono _ _ _ _
      | exact chars_Right.mono _ _ _ _ _ _
      | exact foolscaphelp_Text.mono _ _
      | exact foolscaplaw7_known.mono _
      | exact foolscapref5_FirstOf.mono _ _ _ _
      | exact foolscapref5_Last.mono _ _ _ _ _
      | exact foolscapref5_Left.mono _ _ _ _ _
      | exact foolscapref5_Right.mono _ _ _ _ _ _
      | exact LeO.none _
      | refine LeO.ite ?_ ?_
      | refine LeO.bind ?_ (fun _ => ?_)
def foolscaplaw7_CharsMove.T5 : Bool × List (List Nat × List Nat) := (true, [([], []), ([], []), ([], []), ([], []), ([1, 2, 3], [1, 2, 3]), ([0, 4], [0, 4]), ([5], [5]), ([], [])])
def foolscaplaw7_CharsMove.B5 : List Nat := [0, 0, 0, 0, 14, 31, 63, 0]
theorem foolscaplaw7_CharsMove.tab5 : rtab .any (opsOf Try.f4 5) = foolscaplaw7_CharsMove.T5 := by kernel_rfl
theorem foolscaplaw7_CharsMove.bits5 : waitsOk foolscaplaw7_CharsMove.T5.2 foolscaplaw7_CharsMove.B5 = true := by kernel_rfl
set_option maxHeartbeats 8000000 in
set_option maxRecDepth 100000 in
theorem foolscaplaw7_CharsMove.calls (k : Nat) (A0 : Option Addr) (c0 : Nat) (l0 : List ByteArray) (a1_0 : Int) (a1_1 : Int) (a2 : Int) (a3 : Int) (a4 : Int) (a5 : Bool) (r : Bool) (w : World) (hr0 : Kd.C Kd.string w A0 l0.length l0) (hc0 : l0.length ≤ c0) (h : foolscaplaw7_CharsMove.f k l0 a1_0 a1_1 a2 a3 a4 a5 = some r) (hrT : r = true) :
    Calls Try.prog 4 #[.slice A0 l0.length c0, .agg #[.int .i64 a1_0, .int .i64 a1_1], .int .u16 a2, .int .u16 a3, .int .i64 a4, .bool a5] w fun e w' => e = .returned (.bool r) ∧ Below w.heap.size w w' := by
  have HT := Aside0.mk hrT
  clear hrT
  have hu24 := Try.underlying24
  have hu33 := Try.underlying33
  have HR0 := Aside0.mk hr0
  have HC0 := Aside0.mk hc0
  clear hr0 hc0
  have HB := Aside0.mk (Below.refl w.heap.size w)
  have H : ((foolscaplaw7_known.f k).bind fun t380 => (if t380 = true then ((foolscaphelp_Text.f k l0).bind fun t381 => (if t381 = true then ((foolscapseat_Place.f l0 a2 a3).bind fun bt382 => ((some (([(⟨a1_0, a1_1⟩ : S24), (⟨bt382.1, bt382.2⟩ : S24)] : List (S24)) : List (S24))).bind fun y384 => (foolscaplaw7_CharsMove.l0 k l0 a4 a5 y384 (y384.length : Int) 0))) else (some true))) else (some false))) = some r := h
  clear h
  replace H := Option.bind_eq_some_iff.mp H
  obtain ⟨t380, A70, H⟩ := H
  replace H : (if t380 = true then ((foolscaphelp_Text.f k l0).bind fun t381 => (if t381 = true then ((foolscapseat_Place.f l0 a2 a3).bind fun bt382 => ((some (([(⟨a1_0, a1_1⟩ : S24), (⟨bt382.1, bt382.2⟩ : S24)] : List (S24)) : List (S24))).bind fun y384 => (foolscaplaw7_CharsMove.l0 k l0 a4 a5 y384 (y384.length : Int) 0))) else (some true))) else (some false)) = some r := H
  have A7 := Aside0.mk A70
  clear A70
  by_cases c8 : t380 = true
  · subst c8
    have H1 : ((foolscaphelp_Text.f k l0).bind fun t381 => (if t381 = true then ((foolscapseat_Place.f l0 a2 a3).bind fun bt382 => ((some (([(⟨a1_0, a1_1⟩ : S24), (⟨bt382.1, bt382.2⟩ : S24)] : List (S24)) : List (S24))).bind fun y384 => (foolscaplaw7_CharsMove.l0 k l0 a4 a5 y384 (y384.length : Int) 0))) else (some true))) = some r := by rw [if_pos rfl] at H; exact H
    clear H
    have H := H1
    clear H1
    replace H := Option.bind_eq_some_iff.mp H
    obtain ⟨t381, A90, H⟩ := H
    replace H : (if t381 = true then ((foolscapseat_Place.f l0 a2 a3).bind fun bt382 => ((some (([(⟨a1_0, a1_1⟩ : S24), (⟨bt382.1, bt382.2⟩ : S24)] : List (S24)) : List (S24))).bind fun y384 => (foolscaplaw7_CharsMove.l0 k l0 a4 a5 y384 (y384.length : Int) 0))) else (some true)) = some r := H
    have A9 := Aside0.mk A90
    clear A90
    by_cases c10 : t381 = true
    · subst c10
      have H1 : ((foolscapseat_Place.f l0 a2 a3).bind fun bt382 => ((some (([(⟨a1_0, a1_1⟩ : S24), (⟨bt382.1, bt382.2⟩ : S24)] : List (S24)) : List (S24))).bind fun y384 => (foolscaplaw7_CharsMove.l0 k l0 a4 a5 y384 (y384.length : Int) 0))) = some r := by rw [if_pos rfl] at H; exact H
      clear H
      have H := H1
      clear H1
      replace H := Option.bind_eq_some_iff.mp H
      obtain ⟨⟨t382, t383⟩, A110, H⟩ := H
      replace H : ((some (([(⟨a1_0, a1_1⟩ : S24), (⟨t382, t383⟩ : S24)] : List (S24)) : List (S24))).bind fun y384 => (foolscaplaw7_CharsMove.l0 k l0 a4 a5 y384 (y384.length : Int) 0)) = some r := H
      have A11 := Aside0.mk A110
      clear A110
      obtain ⟨y384, hy384⟩ : ∃ y_ : List (S24), y_ = (([(⟨a1_0, a1_1⟩ : S24), (⟨t382, t383⟩ : S24)] : List (S24))) := ⟨_, rfl⟩
      replace H : (foolscaplaw7_CharsMove.l0 k l0 a4 a5 y384 (y384.length : Int) 0) = some r := by first | (rw [hy384]; with_reducible exact H) | (have H2_ := (Option.bind_some _ _).symm.trans H; rw [hy384]; with_reducible exact H2_) | (have H2_ := (Option.bind_some _ _).symm.trans H; with_reducible exact H2_) | with_reducible exact H | (rw [hy384]; exact H) | exact H
      have Ny384 := Aside0.mk hy384
      clear hy384
      have H' := Aside0.mk H
      clear H
      go_enter Try.func4, Try.ntmps4
      try go_wp2_with (first | ((with_reducible refine gate_dst (N := 7) rfl ?_); refine box_event ?hg (N := 7) ?hd (cs := #[.int .i64 a1_0, .int .i64 a1_1]) (t := 24) ?hr ?_; (case hd => rfl); (case hg => rfl); (case hr => first | (go_simp; done) | (go_simp; rfl)); intro gb379 hg w12 hbox hb; have n0_ := Aside0.mk (below_step (by repeat (first | (with_reducible first | exact HB.out | apply below_alloc | apply pw_below_drewN | apply below_drew1) | exact HB.out)) hb); have n1_ := Aside0.mk (hbox); have n2_ := Aside0.mk ((by rw [hg]; exact (below_size (by repeat (first | (with_reducible first | exact HB.out | apply below_alloc | apply pw_below_drewN | apply below_drew1) | exact HB.out))) : w.heap.size ≤ gb379)); have n3_ := Aside0.mk ((by rw [hg]; exact (below_size (by repeat (first | (with_reducible first | exact HB.out | apply below_alloc | apply pw_below_drewN | apply below_drew1) | exact HB.out))) : w.heap.size ≤ gb379)); clear HB; have HB := n0_; have BK379 := n1_; have GW379 := n2_; have GE379 := n3_; clear n0_ n1_ n2_ n3_; clear hb hbox hg) | ((with_reducible refine gate_callee (f := 9) rfl ?_); refine goesL_ (some 25) rfl rfl Try.func9 (by kernel_rfl) rfl #[] rfl (by (try simp only [List.map_toArray, List.map_cons, List.map_nil]); first | done | rfl | (simp only [List.length_drop, List.length_take]; rfl)) ?_; (with_reducible refine (foolscaplaw7_known.calls k  true _ A7.out rfl).mono ?_); rintro e w13 ⟨rfl, hb⟩; refine ⟨_, rfl, ?_⟩; have n0_ := Aside0.mk (blk_below (g := gb379) (o := .cells #[.int .i64 a1_0, .int .i64 a1_1] 24 (0, 0)) (by exact BK379.out) hb); have n1_ := Aside0.mk (below_step (by repeat (first | (with_reducible first | exact HB.out | apply below_alloc | apply pw_below_drewN | apply below_drew1 | refine below_set ?_ GE379.out) | exact HB.out)) hb); clear BK379; clear HB; have BK379 := n0_; have HB := n1_; clear n0_ n1_; (try clear hb); (try clear hb2); (try clear hk); (try clear hi)) | ((with_reducible refine gate_callee (f := 10) rfl ?_); refine goesL_ (some 28) rfl rfl Try.func10 (by kernel_rfl) rfl #[.slice A0 l0.length c0] rfl (by (try simp only [List.map_toArray, List.map_cons, List.map_nil]); first | done | rfl | (simp only [List.length_drop, List.length_take]; rfl)) ?_; (with_reducible refine (foolscaphelp_Text.calls k _ _ l0 true _ ?side1 ?side2 A9.out).mono ?_); (case side1 => repeat (first | exact (Kd.C_below HR0.out HB.out) | (with_reducible refine Kd.C_alloc ?_ _) | (with_reducible refine Kd.C_drewN ?_ _) | (with_reducible refine Kd.C_drew ?_))); (case side2 => exact HC0.out); rintro e w' ⟨rfl, ⟨nd, rfl⟩⟩; refine ⟨_, rfl, ?_⟩))
      (try (rw [drewN_self w13]; generalize hq_ : World.drewN w13 _ = w13; have n0_ : Aside0 (w13.heap[gb379]? = some (.cells #[.int .i64 a1_0, .int .i64 a1_1] 24 (0, 0))) := ⟨by rw [← hq_]; exact (by exact BK379.out)⟩; have n1_ : Aside0 (Below w.heap.size w w13) := ⟨by rw [← hq_]; exact (by repeat (first | (with_reducible first | exact HB.out | apply below_alloc | apply pw_below_drewN | apply below_drew1 | refine below_set ?_ GE379.out) | exact HB.out))⟩; clear BK379 HB hq_; have BK379 := n0_; have HB := n1_; clear n0_ n1_))
      have n0_ := Aside0.mk (blk_drew BK379.out)
      have n1_ := Aside0.mk (below_drew1 HB.out)
      clear BK379
      clear HB
      have BK379 := n0_
      have HB := n1_
      clear n0_ n1_
      refine start_ (n := 8) (S := fun w' => w'.cell? ⟨gb379, 0, none⟩ = some (.int .i64 a1_0) ∧ w'.cell? ⟨gb379, 1, none⟩ = some (.int .i64 a1_1)) (ds := []) #[false, false, false, false, false, false, false, false] (by kernel_rfl) rfl rfl ⟨(blk_cell BK379.out 0).trans rfl, (blk_cell BK379.out 1).trans rfl⟩ (fun hHeld => ?_); refine with_tabW foolscaplaw7_CharsMove.tab5 foolscaplaw7_CharsMove.bits5 (fun HT_ HW_ => ?_)
      generalize w13.drew = w14 at BK379 HB hHeld ⊢
      refine pure_ (i := 1) (N := some 31) (v := ?_) (a' := ?_) #[false, true, false, false, false, false, false, false] rfl rfl (any_of HT_.out (by kernel_rfl)) (fun _ _ _ h => h) (Or.inl ⟨by rfl, ?_⟩) ?_ ?_
      rotate_left
      · intro w'
        go_simp
        with_reducible rfl
      rotate_left
      · simp only [Act.put, List.setIfInBounds_toArray, List.set_cons_zero, List.set_cons_succ, i64_w, i32_w]
        rfl
      refine pure_ (i := 2) (N := some 32) (v := ?_) (a' := ?_) #[false, true, true, false, false, false, false, false] rfl rfl (any_of HT_.out (by kernel_rfl)) (fun _ _ _ h => h) (Or.inl ⟨by rfl, ?_⟩) ?_ ?_
      rotate_left
      · intro w'
        go_simp
        with_reducible rfl
      rotate_left
      · simp only [Act.put, List.setIfInBounds_toArray, List.set_cons_zero, List.set_cons_succ, i64_w, i32_w]
        rfl
      refine pure_ (i := 3) (N := some 33) (v := ?_) (a' := ?_) #[false, true, true, true, false, false, false, false] rfl rfl (any_of HT_.out (by kernel_rfl)) (fun _ _ _ h => h) (Or.inl ⟨by rfl, ?_⟩) ?_ ?_
      rotate_left
      · intro w'
        go_simp
        with_reducible rfl
      rotate_left
      · simp only [Act.put, List.setIfInBounds_toArray, List.set_cons_zero, List.set_cons_succ, i64_w, i32_w]
        rfl
      refine pure_ (i := 7) (N := some 37) (v := ?_) (a' := ?_) #[false, true, true, true, false, false, false, true] rfl rfl (any_of HT_.out (by kernel_rfl)) (fun _ _ _ h => h) (Or.inl ⟨by rfl, ?_⟩) ?_ ?_
      rotate_left
      · intro w'
        go_simp
        with_reducible rfl
      rotate_left
      · simp only [Act.put, List.setIfInBounds_toArray, List.set_cons_zero, List.set_cons_succ, i64_w, i32_w]
        rfl
      refine take_ (i := 0) (N := some 30) (v := ?_) (a' := ?_) #[true, true, true, true, false, false, false, true] rfl rfl (take_ofW HT_.out HW_.out (by kernel_rfl)) (fun _ _ _ h => h) (Or.inl ⟨by rfl, ?_⟩) hHeld ?_ ?_
      rotate_left
      · rintro w' ⟨s0, s1⟩
        go_simp
        with_reducible rfl
      rotate_left
      · simp only [Act.put, List.setIfInBounds_toArray, List.set_cons_zero, List.set_cons_succ, i64_w, i32_w]
        rfl
      refine one_ (i := 4) (N := some 34) #[true, true, true, true, true, false, false, true] rfl rfl (one_of HT_.out (by kernel_rfl)) (by decide) (fun K hK => ?_)
      refine goes_ Try.func11 (by kernel_rfl) rfl #[.slice A0 l0.length c0, .int .u16 a2, .int .u16 a3] (by rfl) rfl rfl (by (try simp only [List.map_toArray, List.map_cons, List.map_nil]); first | done | rfl | (simp only [List.length_drop, List.length_take]; rfl)) ?_
      with_reducible refine (foolscapseat_Place.calls _ _ l0 a2 a3 t382 t383 _ ?side1 ?side2 A11.out).mono ?_
      (case side1 => repeat (first | exact (Kd.C_below HR0.out HB.out) | (with_reducible refine Kd.C_alloc ?_ _) | (with_reducible refine Kd.C_drewN ?_ _) | (with_reducible refine Kd.C_drew ?_)))
      (case side2 => exact HC0.out)
      rintro e w15 ⟨rfl, hb⟩
      refine ⟨_, rfl, ?_⟩
      have n0_ := Aside0.mk (blk_below (g := gb379) (o := .cells #[.int .i64 a1_0, .int .i64 a1_1] 24 (0, 0)) (by exact BK379.out) hb)
      have n1_ := Aside0.mk (below_step (by repeat (first | (with_reducible first | exact HB.out | apply below_alloc | apply pw_below_drewN | apply below_drew1 | refine below_set ?_ GE379.out) | exact HB.out)) hb)
      clear BK379
      clear HB
      have BK379 := n0_
      have HB := n1_
      clear n0_ n1_
      (try clear hb)
      (try clear hb2)
      (try clear hk)
      (try clear hi)
      refine hK.out _ _ ⟨(blk_cell BK379.out 0).trans rfl, (blk_cell BK379.out 1).trans rfl⟩ (fun hHeld => ?_)
      clear hK K
      refine norm_ (a' := ?_) ?_ ?_
      rotate_left
      · show Act.put _ (some 34) _ = _
        simp only [Act.put, List.setIfInBounds_toArray, List.set_cons_zero, List.set_cons_succ, i64_w, i32_w]
        rfl
      refine one_ (i := 5) (N := some 35) #[true, true, true, true, true, true, false, true] rfl rfl (one_of HT_.out (by kernel_rfl)) (by decide) (fun K hK => ?_)
      refine Kd.R_lit_step k24 _ 24 ?hg (N := 35) ?hd (xs := ([(⟨a1_0, a1_1⟩ : S24), (⟨t382, t383⟩ : S24)] : List (S24))) (inner := [.int .i64 a1_0, .int .i64 a1_1, .int .i64 t382, .int .i64 t383]) (ok := fun _ => True) (okp := fun _ => True) ?hr ?hp (fun _ hk => hk) trivial (Below.refl _ _) (Nat.le_refl _) (by simp) ?_; (case hd => rfl); (case hg => rfl); (case hr => first | (go_simp; done) | (go_simp; rfl)); (case hp => exact (Reps.c2 (show Kd.M k24 _ _ _ (⟨a1_0, a1_1⟩ : S24) [.int .i64 a1_0, .int .i64 a1_1] from (k24_mkM _ _ _ (⟨a1_0, a1_1⟩ : S24) )) (Reps.c2 (show Kd.M k24 _ _ _ (⟨t382, t383⟩ : S24) [.int .i64 t382, .int .i64 t383] from (k24_mkM _ _ _ (⟨t382, t383⟩ : S24) )) (Reps.none _ _))))
      intro v385 w16 ho17 hb hg_ hnew_
      clear hg_ hnew_
      (first | rw [← Ny384.out] at ho17 | (simp only [Int.reduceToNat] at ho17; rw [← Ny384.out] at ho17))
      have n0_ := Aside0.mk (Kd.R_lower (Kd.R_newB ho17 (g := gb379) (o := .cells #[.int .i64 a1_0, .int .i64 a1_1] 24 (0, 0)) (by exact BK379.out)) (below_size (by repeat (first | (with_reducible first | exact HB.out | apply below_alloc | apply pw_below_drewN | apply below_drew1 | refine below_set ?_ GE379.out) | exact HB.out))))
      have n1_ := Aside0.mk (blk_below (g := gb379) (o := .cells #[.int .i64 a1_0, .int .i64 a1_1] 24 (0, 0)) (by exact BK379.out) hb)
      have n2_ := Aside0.mk (below_step (by repeat (first | (with_reducible first | exact HB.out | apply below_alloc | apply pw_below_drewN | apply below_drew1 | refine below_set ?_ GE379.out) | exact HB.out)) hb)
      clear BK379
      clear HB
      have HO386 := n0_
      have BK379 := n1_
      have HB := n2_
      clear n0_ n1_ n2_
      clear hb ho17
      obtain ⟨Ao18, co18, eo18⟩ := Kd.R_slice HO386.out
      (first | subst eo18 | (injection eo18 with f1_ f2_ f3_; have f4_ := f1_.symm; have f5_ := f3_.symm; clear f1_ f2_ f3_; subst f4_; subst f5_))
      refine hK.out _ _ ⟨(blk_cell BK379.out 0).trans rfl, (blk_cell BK379.out 1).trans rfl⟩ (fun hHeld => ?_)
      clear hK K
      refine norm_ (a' := ?_) ?_ ?_
      rotate_left
      · show Act.put _ (some 35) _ = _
        simp only [Act.put, List.setIfInBounds_toArray, List.set_cons_zero, List.set_cons_succ, i64_w, i32_w]
        rfl
      refine pure_ (i := 6) (N := some 36) (v := ?_) (a' := ?_) #[true, true, true, true, true, true, true, true] rfl rfl (any_of HT_.out (by kernel_rfl)) (fun _ _ _ h => h) (Or.inl ⟨by rfl, ?_⟩) ?_ ?_
      rotate_left
      · intro w'
        go_simp
        with_reducible rfl
      rotate_left
      · simp only [Act.put, List.setIfInBounds_toArray, List.set_cons_zero, List.set_cons_succ, i64_w, i32_w]
        rfl
      refine done_ (done_of HT_.out (by kernel_rfl)) ?_
      try go_wp2
      go_loopg [37] k (fun kq v37 w' => ∃ (x37_1 : Int), v37 = .int .i64 x37_1 ∧ Aside0 (foolscaplaw7_CharsMove.l0 kq l0 a4 a5 y384 (y384.length : Int) x37_1 = some r) ∧ Aside0 (kq ≤ k) ∧ Aside0 (Kd.R k24 24 w' w.heap.size (fun k_ => k_ ≠ gb379) (.slice Ao18 y384.length co18) y384) ∧ Aside0 (w'.heap[gb379]? = some (.cells #[.int .i64 a1_0, .int .i64 a1_1] 24 (0, 0))) ∧ Aside0 (Below w.heap.size w w'))
      case atStart => exact ⟨(0), (by first | rfl | (simp; done) | (simp [*]; done)), H', ⟨Nat.le_refl _⟩, ⟨by (with_reducible repeat (first | apply Kd.R_alloc | apply Kd.R_drewN | apply Kd.R_drew)); exact Kd.R_mono HO386.out (fun _ hk => hk.2)⟩, ⟨by exact BK379.out⟩, ⟨by repeat (first | (with_reducible first | exact HB.out | apply below_alloc | apply pw_below_drewN | apply below_drew1 | refine below_set ?_ GE379.out) | exact HB.out)⟩⟩
      case round =>
        clear H'
        try clear c1
        try clear c2
        try clear p2
        try clear c4
        try clear c8
        try clear c9
        try clear c10
        try clear c11
        obtain ⟨x37_1, rfl, HA, HK1, HO_35, BK379, HB⟩ := hrel
        cases gk with
        | zero => exact absurd HA.out (by simp [foolscaplaw7_CharsMove.l0])
        | succ k1 =>
          have H := HA.out
          clear HA
          simp only [foolscaplaw7_CharsMove.l0] at H
          by_cases c19 : x37_1 < (y384.length : Int)
          · rw [if_pos c19] at H
            have c19b0 : decide (x37_1 < (y384.length : Int)) = true := decide_eq_true c19
            clear c19
            by_cases c20 : 0 ≤ x37_1
            · rw [if_pos c20] at H
              have c20b0 : decide (0 ≤ x37_1) = true := decide_eq_true c20
              clear c20
              by_cases c21 : x37_1 < (y384.length : Int)
              · rw [if_pos c21] at H
                have c21b0 : decide (x37_1 < (y384.length : Int)) = true := decide_eq_true c21
                clear c21
                obtain ⟨y389, hy389⟩ : ∃ y_ : List Int, y_ = (([a4, Int.tmod a4 12] : List Int)) := ⟨_, rfl⟩
                replace H : (foolscaplaw7_CharsMove.l1 k1 l0 a4 a5 y384 (y384.length : Int) x37_1 y389 (y389.length : Int) 0 ((rd_T24 y384 x37_1).f0) ((rd_T24 y384 x37_1).f1)) = some r := by first | (rw [hy389]; with_reducible exact H) | (have H2_ := (Option.bind_some _ _).symm.trans H; rw [hy389]; with_reducible exact H2_) | (have H2_ := (Option.bind_some _ _).symm.trans H; with_reducible exact H2_) | with_reducible exact H | (rw [hy389]; exact H) | exact H
                have Ny389 := Aside0.mk hy389
                clear hy389
                have H' := Aside0.mk H
                clear H
                have p387 : 0 ≤ (x37_1 : Int) := of_decide_eq_true (by first | (with_reducible assumption) | assumption)
                have q387 : x37_1 < (y384.length : Int) := of_decide_eq_true (by first | (with_reducible assumption) | assumption)
                obtain ⟨ad387, e387, hx387_0, hx387_1⟩ := at_T24 (Kd.R_reads' HO_35.out).2.2 x37_1 p387 q387
                cases e387
                replace p387 := eq_true p387
                replace q387 := eq_true q387
                go_wp2_with (first | ((with_reducible refine gate_dst (N := 14) rfl ?_); refine box_event ?hg (N := 14) ?hd (cs := #[.int .i64 0, .int .i64 0]) (t := 24) ?hr ?_; (case hd => rfl); (case hg => rfl); (case hr => first | (go_simp; done) | (go_simp; rfl)); intro gb388 hg w22 hbox hb; have n0_ := Aside0.mk (Kd.R_below (Kd.R_elderB (by (with_reducible repeat (first | apply Kd.R_alloc | apply Kd.R_drewN | apply Kd.R_drew)); exact HO_35.out) gb388 (Nat.le_of_eq hg.symm)) hb); have n1_ := Aside0.mk (blk_below (g := gb379) (o := .cells #[.int .i64 a1_0, .int .i64 a1_1] 24 (0, 0)) (by exact BK379.out) hb); have n2_ := Aside0.mk (below_step (by repeat (first | (with_reducible first | exact HB.out | apply below_alloc | apply pw_below_drewN | apply below_drew1 | refine below_set ?_ GE379.out) | exact HB.out)) hb); have n3_ := Aside0.mk (hbox); have n4_ := Aside0.mk ((by rw [hg]; exact (below_size (by repeat (first | (with_reducible first | exact HB.out | apply below_alloc | apply pw_below_drewN | apply below_drew1 | refine below_set ?_ GE379.out) | exact HB.out))) : w.heap.size ≤ gb388)); have n5_ := Aside0.mk ((by rw [hg]; exact (below_size (by repeat (first | (with_reducible first | exact HB.out | apply below_alloc | apply pw_below_drewN | apply below_drew1 | refine below_set ?_ GE379.out) | exact HB.out))) : w.heap.size ≤ gb388)); have n6_ := Aside0.mk ((by rw [hg]; exact Nat.ne_of_lt (blk_lt (g := gb379) (o := .cells #[.int .i64 a1_0, .int .i64 a1_1] 24 (0, 0)) (by exact BK379.out)) : gb379 ≠ gb388)); have n7_ := Aside0.mk ((by rw [hg]; exact Nat.ne_of_gt (blk_lt (g := gb379) (o := .cells #[.int .i64 a1_0, .int .i64 a1_1] 24 (0, 0)) (by exact BK379.out)) : gb388 ≠ gb379)); clear HO_35; clear BK379; clear HB; have HO_35 := n0_; have BK379 := n1_; have HB := n2_; have BK388 := n3_; have GW388 := n4_; have GE388 := n5_; have NB379_388 := n6_; have NB388_379 := n7_; clear n0_ n1_ n2_ n3_ n4_ n5_ n6_ n7_; clear hb hbox hg; have hnb23 := NB388_379.out; have hnc23 := NB379_388.out; have hcz24_0 : w22.cell? ⟨gb388, 0, none⟩ = some (.int .i64 0) := (blk_cell BK388.out 0).trans rfl; have hcz24_1 : w22.cell? ⟨gb388, 1, none⟩ = some (.int .i64 0) := (blk_cell BK388.out 1).trans rfl; have hfz24_0 := blk_frozen BK388.out 0; have hfz24_1 := blk_frozen BK388.out 1) | ((with_reducible refine gate_dst (N := 44) rfl ?_); refine Kd.R_lit (Kd.int .i64) _ 3 ?hg (N := 44) ?hd (xs := ([a4, Int.tmod a4 12] : List Int)) (inner := [.int .i64 a4, .int .i64 (Int.tmod a4 12)]) (ok := fun _ => True) (okp := fun _ => True) ?hr ?hp (fun _ hk => hk) trivial (Below.refl _ _) (Nat.le_refl _) (by simp) ?_; (case hd => rfl); (case hg => rfl); (case hr => first | (go_simp; done) | (go_simp; rfl)); (case hp => exact (Reps.one (show Kd.M (Kd.int .i64) _ _ _ a4 [.int .i64 a4] from rfl) (Reps.one (show Kd.M (Kd.int .i64) _ _ _ (Int.tmod a4 12) [.int .i64 (Int.tmod a4 12)] from rfl) (Reps.none _ _)))); intro v390 w25 ho26 hb hg_ hnew_; clear hg_ hnew_; (first | rw [← Ny389.out] at ho26 | (simp only [Int.reduceToNat] at ho26; rw [← Ny389.out] at ho26)); have n0_ := Aside0.mk (Kd.R_below (by (with_reducible repeat (first | apply Kd.R_alloc | apply Kd.R_drewN | apply Kd.R_drew)); exact (Kd.R_mono (Kd.R_far (p := ⟨gb388, 1, none⟩) (Kd.R_far (p := ⟨gb388, 0, none⟩) (Kd.R_mono HO_35.out (fun k_ hk => (⟨hk, hk.2⟩ : _ ∧ k_ ≠ gb388))) (fun _ hk => hk.2) (.int .i64 ((rd_T24 y384 x37_1).f0))) (fun _ hk => hk.2) (.int .i64 ((rd_T24 y384 x37_1).f1))) (fun _ h_ => h_.1))) hb); have n1_ := Aside0.mk (Kd.R_lower ho26 (below_size (by repeat (first | (with_reducible first | exact HB.out | apply below_alloc | apply pw_below_drewN | apply below_drew1 | refine below_set ?_ GE379.out | refine below_set ?_ GE388.out) | exact HB.out)))); have n2_ := Aside0.mk (blk_below (g := gb379) (o := .cells #[.int .i64 a1_0, .int .i64 a1_1] 24 (0, 0)) (by refine blk_far ?_ NB379_388.out _; refine blk_far ?_ NB379_388.out _; exact BK379.out) hb); have n3_ := Aside0.mk (blk_below (g := gb388) (o := .cells #[.int .i64 ((rd_T24 y384 x37_1).f0), .int .i64 ((rd_T24 y384 x37_1).f1)] 24 (0, 0)) (by refine blk_put (cs := #[.int .i64 ((rd_T24 y384 x37_1).f0), .int .i64 0]) ?_ 1 _ rfl; refine blk_put (cs := #[.int .i64 0, .int .i64 0]) ?_ 0 _ rfl; exact BK388.out) hb); have n4_ := Aside0.mk (below_step (by repeat (first | (with_reducible first | exact HB.out | apply below_alloc | apply pw_below_drewN | apply below_drew1 | refine below_set ?_ GE379.out | refine below_set ?_ GE388.out) | exact HB.out)) hb); clear HO_35; clear BK379; clear BK388; clear HB; have HO_35 := n0_; have HO391 := n1_; have BK379 := n2_; have BK388 := n3_; have HB := n4_; clear n0_ n1_ n2_ n3_ n4_; clear hb ho26; obtain ⟨Ao27, co27, eo27⟩ := Kd.R_slice HO391.out; subst eo27))
                go_loopg [46] k1 (fun kq v46 w' => ∃ (x46_2 : Int), v46 = .int .i64 x46_2 ∧ Aside0 (foolscaplaw7_CharsMove.l1 kq l0 a4 a5 y384 (y384.length : Int) x37_1 y389 (y389.length : Int) x46_2 ((rd_T24 y384 x37_1).f0) ((rd_T24 y384 x37_1).f1) = some r) ∧ Aside0 (kq ≤ k1) ∧ Aside0 (Kd.R k24 24 w' w.heap.size (fun k_ => k_ ≠ gb379 ∧ k_ ≠ gb388) (.slice (some ad387) y384.length co18) y384) ∧ Aside0 (Kd.R (Kd.int .i64) 3 w' w.heap.size (fun _ => True) (.slice Ao27 y389.length co27) y389) ∧ Aside0 (w'.heap[gb379]? = some (.cells #[.int .i64 a1_0, .int .i64 a1_1] 24 (0, 0))) ∧ Aside0 (w'.heap[gb388]? = some (.cells #[.int .i64 ((rd_T24 y384 x37_1).f0), .int .i64 ((rd_T24 y384 x37_1).f1)] 24 (0, 0))) ∧ Aside0 (Below w.heap.size w w'))
                case atStart => exact ⟨(0), (by first | rfl | (simp; done) | (simp [*]; done)), H', ⟨Nat.le_refl _⟩, ⟨by (with_reducible repeat (first | apply Kd.R_alloc | apply Kd.R_drewN | apply Kd.R_drew)); exact HO_35.out⟩, ⟨by (with_reducible repeat (first | apply Kd.R_alloc | apply Kd.R_drewN | apply Kd.R_drew)); exact HO391.out⟩, ⟨by exact BK379.out⟩, ⟨by exact BK388.out⟩, ⟨by repeat (first | (with_reducible first | exact HB.out | apply below_alloc | apply pw_below_drewN | apply below_drew1 | refine below_set ?_ GE379.out | refine below_set ?_ GE388.out) | exact HB.out)⟩⟩
                case round =>
                  clear H'
                  try clear c1
                  try clear c2
                  try clear p2
                  try clear p3
                  try clear q3
                  try clear hx3
                  try clear c4
                  try clear c8
                  try clear c9
                  try clear c10
                  try clear c11
                  try clear c19
                  try clear c19b0
                  try clear c20
                  try clear c20b0
                  try clear c21
                  try clear c21b0
                  try clear c23
                  try clear hcz24_0
                  try clear hcz24_1
                  try clear hfz24_0
                  try clear hfz24_1
                  try clear hx387_0
                  try clear hx387_1
                  try clear p2
                  try clear p387
                  try clear q387
                  obtain ⟨x46_2, rfl, HA, HK2, HO_35, HO_44, BK379, BK388, HB⟩ := hrel
                  cases gk with
                  | zero => exact absurd HA.out (by simp [foolscaplaw7_CharsMove.l1])
                  | succ k2 =>
                    have H := HA.out
                    clear HA
                    simp only [foolscaplaw7_CharsMove.l1] at H
                    by_cases c28 : x46_2 < (y389.length : Int)
                    · rw [if_pos c28] at H
                      have c28b0 : decide (x46_2 < (y389.length : Int)) = true := decide_eq_true c28
                      clear c28
                      by_cases c29 : 0 ≤ x46_2
                      · rw [if_pos c29] at H
                        have c29b0 : decide (0 ≤ x46_2) = true := decide_eq_true c29
                        clear c29
                        by_cases c30 : x46_2 < (y389.length : Int)
                        · rw [if_pos c30] at H
                          have c30b0 : decide (x46_2 < (y389.length : Int)) = true := decide_eq_true c30
                          clear c30
                          replace H := Option.bind_eq_some_iff.mp H
                          obtain ⟨⟨t393, t394, t395, t396, t397, t398⟩, A310, H⟩ := H
                          replace H : ((foolscapref5_Left.f k2 l0 ((rd_T24 y384 x37_1).f0) ((rd_T24 y384 x37_1).f1) (rd y389 x46_2)).bind fun bt400 => ((foolscaplaw7_same.f t393 t394 t395 t396 t397 t398 bt400.1 bt400.2.1 bt400.2.2.1 bt400.2.2.2.1 bt400.2.2.2.2.1 bt400.2.2.2.2.2).bind fun t407 => (if t407 = true then ((chars_Right.f k2 l0 ((rd_T24 y384 x37_1).f0) ((rd_T24 y384 x37_1).f1) (rd y389 x46_2) a5).bind fun bt408 => ((foolscapref5_Right.f k2 l0 ((rd_T24 y384 x37_1).f0) ((rd_T24 y384 x37_1).f1) (rd y389 x46_2) a5).bind fun bt414 => ((foolscaplaw7_same.f bt408.1 bt408.2.1 bt408.2.2.1 bt408.2.2.2.1 bt408.2.2.2.2.1 bt408.2.2.2.2.2 bt414.1 bt414.2.1 bt414.2.2.1 bt414.2.2.2.1 bt414.2.2.2.2.1 bt414.2.2.2.2.2).bind fun t420 => (if t420 = true then ((chars_Last.f l0 ((rd_T24 y384 x37_1).f0) ((rd_T24 y384 x37_1).f1) (rd y389 x46_2)).bind fun bt421 => ((foolscapref5_Last.f k2 l0 ((rd_T24 y384 x37_1).f0) ((rd_T24 y384 x37_1).f1) (rd y389 x46_2)).bind fun bt427 => ((foolscaplaw7_same.f bt421.1 bt421.2.1 bt421.2.2.1 bt421.2.2.2.1 bt421.2.2.2.2.1 bt421.2.2.2.2.2 bt427.1 bt427.2.1 bt427.2.2.1 bt427.2.2.2.1 bt427.2.2.2.2.1 bt427.2.2.2.2.2).bind fun t433 => (if t433 = true then ((chars_Column.f l0 ((rd_T24 y384 x37_1).f0) ((rd_T24 y384 x37_1).f1) (rd y389 x46_2)).bind fun bt434 => ((foolscapref5_Column.f l0 ((rd_T24 y384 x37_1).f0) ((rd_T24 y384 x37_1).f1) (rd y389 x46_2)).bind fun bt440 => ((foolscaplaw7_same.f bt434.1 bt434.2.1 bt434.2.2.1 bt434.2.2.2.1 bt434.2.2.2.2.1 bt434.2.2.2.2.2 bt440.1 bt440.2.1 bt440.2.2.1 bt440.2.2.2.1 bt440.2.2.2.2.1 bt440.2.2.2.2.2).bind fun t446 => (if t446 = true then (foolscaplaw7_CharsMove.l1 k2 l0 a4 a5 y384 (y384.length : Int) x37_1 y389 (y389.length : Int) (wrap64 (x46_2 + 1)) ((rd_T24 y384 x37_1).f0) ((rd_T24 y384 x37_1).f1)) else (some false))))) else (some false))))) else (some false))))) else (some false)))) = some r := H
                          have A31 := Aside0.mk A310
                          clear A310
                          replace H := Option.bind_eq_some_iff.mp H
                          obtain ⟨⟨t400, t401, t402, t403, t404, t405⟩, A320, H⟩ := H
                          replace H : ((foolscaplaw7_same.f t393 t394 t395 t396 t397 t398 t400 t401 t402 t403 t404 t405).bind fun t407 => (if t407 = true then ((chars_Right.f k2 l0 ((rd_T24 y384 x37_1).f0) ((rd_T24 y384 x37_1).f1) (rd y389 x46_2) a5).bind fun bt408 => ((foolscapref5_Right.f k2 l0 ((rd_T24 y384 x37_1).f0) ((rd_T24 y384 x37_1).f1) (rd y389 x46_2) a5).bind fun bt414 => ((foolscaplaw7_same.f bt408.1 bt408.2.1 bt408.2.2.1 bt408.2.2.2.1 bt408.2.2.2.2.1 bt408.2.2.2.2.2 bt414.1 bt414.2.1 bt414.2.2.1 bt414.2.2.2.1 bt414.2.2.2.2.1 bt414.2.2.2.2.2).bind fun t420 => (if t420 = true then ((chars_Last.f l0 ((rd_T24 y384 x37_1).f0) ((rd_T24 y384 x37_1).f1) (rd y389 x46_2)).bind fun bt421 => ((foolscapref5_Last.f k2 l0 ((rd_T24 y384 x37_1).f0) ((rd_T24 y384 x37_1).f1) (rd y389 x46_2)).bind fun bt427 => ((foolscaplaw7_same.f bt421.1 bt421.2.1 bt421.2.2.1 bt421.2.2.2.1 bt421.2.2.2.2.1 bt421.2.2.2.2.2 bt427.1 bt427.2.1 bt427.2.2.1 bt427.2.2.2.1 bt427.2.2.2.2.1 bt427.2.2.2.2.2).bind fun t433 => (if t433 = true then ((chars_Column.f l0 ((rd_T24 y384 x37_1).f0) ((rd_T24 y384 x37_1).f1) (rd y389 x46_2)).bind fun bt434 => ((foolscapref5_Column.f l0 ((rd_T24 y384 x37_1).f0) ((rd_T24 y384 x37_1).f1) (rd y389 x46_2)).bind fun bt440 => ((foolscaplaw7_same.f bt434.1 bt434.2.1 bt434.2.2.1 bt434.2.2.2.1 bt434.2.2.2.2.1 bt434.2.2.2.2.2 bt440.1 bt440.2.1 bt440.2.2.1 bt440.2.2.2.1 bt440.2.2.2.2.1 bt440.2.2.2.2.2).bind fun t446 => (if t446 = true then (foolscaplaw7_CharsMove.l1 k2 l0 a4 a5 y384 (y384.length : Int) x37_1 y389 (y389.length : Int) (wrap64 (x46_2 + 1)) ((rd_T24 y384 x37_1).f0) ((rd_T24 y384 x37_1).f1)) else (some false))))) else (some false))))) else (some false))))) else (some false))) = some r := H
                          have A32 := Aside0.mk A320
                          clear A320
                          replace H := Option.bind_eq_some_iff.mp H
                          obtain ⟨t407, A330, H⟩ := H
                          replace H : (if t407 = true then ((chars_Right.f k2 l0 ((rd_T24 y384 x37_1).f0) ((rd_T24 y384 x37_1).f1) (rd y389 x46_2) a5).bind fun bt408 => ((foolscapref5_Right.f k2 l0 ((rd_T24 y384 x37_1).f0) ((rd_T24 y384 x37_1).f1) (rd y389 x46_2) a5).bind fun bt414 => ((foolscaplaw7_same.f bt408.1 bt408.2.1 bt408.2.2.1 bt408.2.2.2.1 bt408.2.2.2.2.1 bt408.2.2.2.2.2 bt414.1 bt414.2.1 bt414.2.2.1 bt414.2.2.2.1 bt414.2.2.2.2.1 bt414.2.2.2.2.2).bind fun t420 => (if t420 = true then ((chars_Last.f l0 ((rd_T24 y384 x37_1).f0) ((rd_T24 y384 x37_1).f1) (rd y389 x46_2)).bind fun bt421 => ((foolscapref5_Last.f k2 l0 ((rd_T24 y384 x37_1).f0) ((rd_T24 y384 x37_1).f1) (rd y389 x46_2)).bind fun bt427 => ((foolscaplaw7_same.f bt421.1 bt421.2.1 bt421.2.2.1 bt421.2.2.2.1 bt421.2.2.2.2.1 bt421.2.2.2.2.2 bt427.1 bt427.2.1 bt427.2.2.1 bt427.2.2.2.1 bt427.2.2.2.2.1 bt427.2.2.2.2.2).bind fun t433 => (if t433 = true then ((chars_Column.f l0 ((rd_T24 y384 x37_1).f0) ((rd_T24 y384 x37_1).f1) (rd y389 x46_2)).bind fun bt434 => ((foolscapref5_Column.f l0 ((rd_T24 y384 x37_1).f0) ((rd_T24 y384 x37_1).f1) (rd y389 x46_2)).bind fun bt440 => ((foolscaplaw7_same.f bt434.1 bt434.2.1 bt434.2.2.1 bt434.2.2.2.1 bt434.2.2.2.2.1 bt434.2.2.2.2.2 bt440.1 bt440.2.1 bt440.2.2.1 bt440.2.2.2.1 bt440.2.2.2.2.1 bt440.2.2.2.2.2).bind fun t446 => (if t446 = true then (foolscaplaw7_CharsMove.l1 k2 l0 a4 a5 y384 (y384.length : Int) x37_1 y389 (y389.length : Int) (wrap64 (x46_2 + 1)) ((rd_T24 y384 x37_1).f0) ((rd_T24 y384 x37_1).f1)) else (some false))))) else (some false))))) else (some false))))) else (some false)) = some r := H
                          have A33 := Aside0.mk A330
                          clear A330
                          by_cases c34 : t407 = true
                          · subst c34
                            have H1 : ((chars_Right.f k2 l0 ((rd_T24 y384 x37_1).f0) ((rd_T24 y384 x37_1).f1) (rd y389 x46_2) a5).bind fun bt408 => ((foolscapref5_Right.f k2 l0 ((rd_T24 y384 x37_1).f0) ((rd_T24 y384 x37_1).f1) (rd y389 x46_2) a5).bind fun bt414 => ((foolscaplaw7_same.f bt408.1 bt408.2.1 bt408.2.2.1 bt408.2.2.2.1 bt408.2.2.2.2.1 bt408.2.2.2.2.2 bt414.1 bt414.2.1 bt414.2.2.1 bt414.2.2.2.1 bt414.2.2.2.2.1 bt414.2.2.2.2.2).bind fun t420 => (if t420 = true then ((chars_Last.f l0 ((rd_T24 y384 x37_1).f0) ((rd_T24 y384 x37_1).f1) (rd y389 x46_2)).bind fun bt421 => ((foolscapref5_Last.f k2 l0 ((rd_T24 y384 x37_1).f0) ((rd_T24 y384 x37_1).f1) (rd y389 x46_2)).bind fun bt427 => ((foolscaplaw7_same.f bt421.1 bt421.2.1 bt421.2.2.1 bt421.2.2.2.1 bt421.2.2.2.2.1 bt421.2.2.2.2.2 bt427.1 bt427.2.1 bt427.2.2.1 bt427.2.2.2.1 bt427.2.2.2.2.1 bt427.2.2.2.2.2).bind fun t433 => (if t433 = true then ((chars_Column.f l0 ((rd_T24 y384 x37_1).f0) ((rd_T24 y384 x37_1).f1) (rd y389 x46_2)).bind fun bt434 => ((foolscapref5_Column.f l0 ((rd_T24 y384 x37_1).f0) ((rd_T24 y384 x37_1).f1) (rd y389 x46_2)).bind fun bt440 => ((foolscaplaw7_same.f bt434.1 bt434.2.1 bt434.2.2.1 bt434.2.2.2.1 bt434.2.2.2.2.1 bt434.2.2.2.2.2 bt440.1 bt440.2.1 bt440.2.2.1 bt440.2.2.2.1 bt440.2.2.2.2.1 bt440.2.2.2.2.2).bind fun t446 => (if t446 = true then (foolscaplaw7_CharsMove.l1 k2 l0 a4 a5 y384 (y384.length : Int) x37_1 y389 (y389.length : Int) (wrap64 (x46_2 + 1)) ((rd_T24 y384 x37_1).f0) ((rd_T24 y384 x37_1).f1)) else (some false))))) else (some false))))) else (some false))))) = some r := by rw [if_pos rfl] at H; exact H
                            clear H
                            have H := H1
                            clear H1
                            replace H := Option.bind_eq_some_iff.mp H
                            obtain ⟨⟨t408, t409, t410, t411, t412, t413⟩, A350, H⟩ := H
                            replace H : ((foolscapref5_Right.f k2 l0 ((rd_T24 y384 x37_1).f0) ((rd_T24 y384 x37_1).f1) (rd y389 x46_2) a5).bind fun bt414 => ((foolscaplaw7_same.f t408 t409 t410 t411 t412 t413 bt414.1 bt414.2.1 bt414.2.2.1 bt414.2.2.2.1 bt414.2.2.2.2.1 bt414.2.2.2.2.2).bind fun t420 => (if t420 = true then ((chars_Last.f l0 ((rd_T24 y384 x37_1).f0) ((rd_T24 y384 x37_1).f1) (rd y389 x46_2)).bind fun bt421 => ((foolscapref5_Last.f k2 l0 ((rd_T24 y384 x37_1).f0) ((rd_T24 y384 x37_1).f1) (rd y389 x46_2)).bind fun bt427 => ((foolscaplaw7_same.f bt421.1 bt421.2.1 bt421.2.2.1 bt421.2.2.2.1 bt421.2.2.2.2.1 bt421.2.2.2.2.2 bt427.1 bt427.2.1 bt427.2.2.1 bt427.2.2.2.1 bt427.2.2.2.2.1 bt427.2.2.2.2.2).bind fun t433 => (if t433 = true then ((chars_Column.f l0 ((rd_T24 y384 x37_1).f0) ((rd_T24 y384 x37_1).f1) (rd y389 x46_2)).bind fun bt434 => ((foolscapref5_Column.f l0 ((rd_T24 y384 x37_1).f0) ((rd_T24 y384 x37_1).f1) (rd y389 x46_2)).bind fun bt440 => ((foolscaplaw7_same.f bt434.1 bt434.2.1 bt434.2.2.1 bt434.2.2.2.1 bt434.2.2.2.2.1 bt434.2.2.2.2.2 bt440.1 bt440.2.1 bt440.2.2.1 bt440.2.2.2.1 bt440.2.2.2.2.1 bt440.2.2.2.2.2).bind fun t446 => (if t446 = true then (foolscaplaw7_CharsMove.l1 k2 l0 a4 a5 y384 (y384.length : Int) x37_1 y389 (y389.length : Int) (wrap64 (x46_2 + 1)) ((rd_T24 y384 x37_1).f0) ((rd_T24 y384 x37_1).f1)) else (some false))))) else (some false))))) else (some false)))) = some r := H
                            have A35 := Aside0.mk A350
                            clear A350
                            replace H := Option.bind_eq_some_iff.mp H
                            obtain ⟨⟨t414, t415, t416, t417, t418, t419⟩, A360, H⟩ := H
                            replace H : ((foolscaplaw7_same.f t408 t409 t410 t411 t412 t413 t414 t415 t416 t417 t418 t419).bind fun t420 => (if t420 = true then ((chars_Last.f l0 ((rd_T24 y384 x37_1).f0) ((rd_T24 y384 x37_1).f1) (rd y389 x46_2)).bind fun bt421 => ((foolscapref5_Last.f k2 l0 ((rd_T24 y384 x37_1).f0) ((rd_T24 y384 x37_1).f1) (rd y389 x46_2)).bind fun bt427 => ((foolscaplaw7_same.f bt421.1 bt421.2.1 bt421.2.2.1 bt421.2.2.2.1 bt421.2.2.2.2.1 bt421.2.2.2.2.2 bt427.1 bt427.2.1 bt427.2.2.1 bt427.2.2.2.1 bt427.2.2.2.2.1 bt427.2.2.2.2.2).bind fun t433 => (if t433 = true then ((chars_Column.f l0 ((rd_T24 y384 x37_1).f0) ((rd_T24 y384 x37_1).f1) (rd y389 x46_2)).bind fun bt434 => ((foolscapref5_Column.f l0 ((rd_T24 y384 x37_1).f0) ((rd_T24 y384 x37_1).f1) (rd y389 x46_2)).bind fun bt440 => ((foolscaplaw7_same.f bt434.1 bt434.2.1 bt434.2.2.1 bt434.2.2.2.1 bt434.2.2.2.2.1 bt434.2.2.2.2.2 bt440.1 bt440.2.1 bt440.2.2.1 bt440.2.2.2.1 bt440.2.2.2.2.1 bt440.2.2.2.2.2).bind fun t446 => (if t446 = true then (foolscaplaw7_CharsMove.l1 k2 l0 a4 a5 y384 (y384.length : Int) x37_1 y389 (y389.length : Int) (wrap64 (x46_2 + 1)) ((rd_T24 y384 x37_1).f0) ((rd_T24 y384 x37_1).f1)) else (some false))))) else (some false))))) else (some false))) = some r := H
                            have A36 := Aside0.mk A360
                            clear A360
                            replace H := Option.bind_eq_some_iff.mp H
                            obtain ⟨t420, A370, H⟩ := H
                            replace H : (if t420 = true then ((chars_Last.f l0 ((rd_T24 y384 x37_1).f0) ((rd_T24 y384 x37_1).f1) (rd y389 x46_2)).bind fun bt421 => ((foolscapref5_Last.f k2 l0 ((rd_T24 y384 x37_1).f0) ((rd_T24 y384 x37_1).f1) (rd y389 x46_2)).bind fun bt427 => ((foolscaplaw7_same.f bt421.1 bt421.2.1 bt421.2.2.1 bt421.2.2.2.1 bt421.2.2.2.2.1 bt421.2.2.2.2.2 bt427.1 bt427.2.1 bt427.2.2.1 bt427.2.2.2.1 bt427.2.2.2.2.1 bt427.2.2.2.2.2).bind fun t433 => (if t433 = true then ((chars_Column.f l0 ((rd_T24 y384 x37_1).f0) ((rd_T24 y384 x37_1).f1) (rd y389 x46_2)).bind fun bt434 => ((foolscapref5_Column.f l0 ((rd_T24 y384 x37_1).f0) ((rd_T24 y384 x37_1).f1) (rd y389 x46_2)).bind fun bt440 => ((foolscaplaw7_same.f bt434.1 bt434.2.1 bt434.2.2.1 bt434.2.2.2.1 bt434.2.2.2.2.1 bt434.2.2.2.2.2 bt440.1 bt440.2.1 bt440.2.2.1 bt440.2.2.2.1 bt440.2.2.2.2.1 bt440.2.2.2.2.2).bind fun t446 => (if t446 = true then (foolscaplaw7_CharsMove.l1 k2 l0 a4 a5 y384 (y384.length : Int) x37_1 y389 (y389.length : Int) (wrap64 (x46_2 + 1)) ((rd_T24 y384 x37_1).f0) ((rd_T24 y384 x37_1).f1)) else (some false))))) else (some false))))) else (some false)) = some r := H
                            have A37 := Aside0.mk A370
                            clear A370
                            by_cases c38 : t420 = true
                            · subst c38
                              have H1 : ((chars_Last.f l0 ((rd_T24 y384 x37_1).f0) ((rd_T24 y384 x37_1).f1) (rd y389 x46_2)).bind fun bt421 => ((foolscapref5_Last.f k2 l0 ((rd_T24 y384 x37_1).f0) ((rd_T24 y384 x37_1).f1) (rd y389 x46_2)).bind fun bt427 => ((foolscaplaw7_same.f bt421.1 bt421.2.1 bt421.2.2.1 bt421.2.2.2.1 bt421.2.2.2.2.1 bt421.2.2.2.2.2 bt427.1 bt427.2.1 bt427.2.2.1 bt427.2.2.2.1 bt427.2.2.2.2.1 bt427.2.2.2.2.2).bind fun t433 => (if t433 = true then ((chars_Column.f l0 ((rd_T24 y384 x37_1).f0) ((rd_T24 y384 x37_1).f1) (rd y389 x46_2)).bind fun bt434 => ((foolscapref5_Column.f l0 ((rd_T24 y384 x37_1).f0) ((rd_T24 y384 x37_1).f1) (rd y389 x46_2)).bind fun bt440 => ((foolscaplaw7_same.f bt434.1 bt434.2.1 bt434.2.2.1 bt434.2.2.2.1 bt434.2.2.2.2.1 bt434.2.2.2.2.2 bt440.1 bt440.2.1 bt440.2.2.1 bt440.2.2.2.1 bt440.2.2.2.2.1 bt440.2.2.2.2.2).bind fun t446 => (if t446 = true then (foolscaplaw7_CharsMove.l1 k2 l0 a4 a5 y384 (y384.length : Int) x37_1 y389 (y389.length : Int) (wrap64 (x46_2 + 1)) ((rd_T24 y384 x37_1).f0) ((rd_T24 y384 x37_1).f1)) else (some false))))) else (some false))))) = some r := by rw [if_pos rfl] at H; exact H
                              clear H
                              have H := H1
                              clear H1
                              replace H := Option.bind_eq_some_iff.mp H
                              obtain ⟨⟨t421, t422, t423, t424, t425, t426⟩, A390, H⟩ := H
                              replace H : ((foolscapref5_Last.f k2 l0 ((rd_T24 y384 x37_1).f0) ((rd_T24 y384 x37_1).f1) (rd y389 x46_2)).bind fun bt427 => ((foolscaplaw7_same.f t421 t422 t423 t424 t425 t426 bt427.1 bt427.2.1 bt427.2.2.1 bt427.2.2.2.1 bt427.2.2.2.2.1 bt427.2.2.2.2.2).bind fun t433 => (if t433 = true then ((chars_Column.f l0 ((rd_T24 y384 x37_1).f0) ((rd_T24 y384 x37_1).f1) (rd y389 x46_2)).bind fun bt434 => ((foolscapref5_Column.f l0 ((rd_T24 y384 x37_1).f0) ((rd_T24 y384 x37_1).f1) (rd y389 x46_2)).bind fun bt440 => ((foolscaplaw7_same.f bt434.1 bt434.2.1 bt434.2.2.1 bt434.2.2.2.1 bt434.2.2.2.2.1 bt434.2.2.2.2.2 bt440.1 bt440.2.1 bt440.2.2.1 bt440.2.2.2.1 bt440.2.2.2.2.1 bt440.2.2.2.2.2).bind fun t446 => (if t446 = true then (foolscaplaw7_CharsMove.l1 k2 l0 a4 a5 y384 (y384.length : Int) x37_1 y389 (y389.length : Int) (wrap64 (x46_2 + 1)) ((rd_T24 y384 x37_1).f0) ((rd_T24 y384 x37_1).f1)) else (some false))))) else (some false)))) = some r := H
                              have A39 := Aside0.mk A390
                              clear A390
                              replace H := Option.bind_eq_some_iff.mp H
                              obtain ⟨⟨t427, t428, t429, t430, t431, t432⟩, A400, H⟩ := H
                              replace H : ((foolscaplaw7_same.f t421 t422 t423 t424 t425 t426 t427 t428 t429 t430 t431 t432).bind fun t433 => (if t433 = true then ((chars_Column.f l0 ((rd_T24 y384 x37_1).f0) ((rd_T24 y384 x37_1).f1) (rd y389 x46_2)).bind fun bt434 => ((foolscapref5_Column.f l0 ((rd_T24 y384 x37_1).f0) ((rd_T24 y384 x37_1).f1) (rd y389 x46_2)).bind fun bt440 => ((foolscaplaw7_same.f bt434.1 bt434.2.1 bt434.2.2.1 bt434.2.2.2.1 bt434.2.2.2.2.1 bt434.2.2.2.2.2 bt440.1 bt440.2.1 bt440.2.2.1 bt440.2.2.2.1 bt440.2.2.2.2.1 bt440.2.2.2.2.2).bind fun t446 => (if t446 = true then (foolscaplaw7_CharsMove.l1 k2 l0 a4 a5 y384 (y384.length : Int) x37_1 y389 (y389.length : Int) (wrap64 (x46_2 + 1)) ((rd_T24 y384 x37_1).f0) ((rd_T24 y384 x37_1).f1)) else (some false))))) else (some false))) = some r := H
                              have A40 := Aside0.mk A400
                              clear A400
                              replace H := Option.bind_eq_some_iff.mp H
                              obtain ⟨t433, A410, H⟩ := H
                              replace H : (if t433 = true then ((chars_Column.f l0 ((rd_T24 y384 x37_1).f0) ((rd_T24 y384 x37_1).f1) (rd y389 x46_2)).bind fun bt434 => ((foolscapref5_Column.f l0 ((rd_T24 y384 x37_1).f0) ((rd_T24 y384 x37_1).f1) (rd y389 x46_2)).bind fun bt440 => ((foolscaplaw7_same.f bt434.1 bt434.2.1 bt434.2.2.1 bt434.2.2.2.1 bt434.2.2.2.2.1 bt434.2.2.2.2.2 bt440.1 bt440.2.1 bt440.2.2.1 bt440.2.2.2.1 bt440.2.2.2.2.1 bt440.2.2.2.2.2).bind fun t446 => (if t446 = true then (foolscaplaw7_CharsMove.l1 k2 l0 a4 a5 y384 (y384.length : Int) x37_1 y389 (y389.length : Int) (wrap64 (x46_2 + 1)) ((rd_T24 y384 x37_1).f0) ((rd_T24 y384 x37_1).f1)) else (some false))))) else (some false)) = some r := H
                              have A41 := Aside0.mk A410
                              clear A410
                              by_cases c42 : t433 = true
                              · subst c42
                                have H1 : ((chars_Column.f l0 ((rd_T24 y384 x37_1).f0) ((rd_T24 y384 x37_1).f1) (rd y389 x46_2)).bind fun bt434 => ((foolscapref5_Column.f l0 ((rd_T24 y384 x37_1).f0) ((rd_T24 y384 x37_1).f1) (rd y389 x46_2)).bind fun bt440 => ((foolscaplaw7_same.f bt434.1 bt434.2.1 bt434.2.2.1 bt434.2.2.2.1 bt434.2.2.2.2.1 bt434.2.2.2.2.2 bt440.1 bt440.2.1 bt440.2.2.1 bt440.2.2.2.1 bt440.2.2.2.2.1 bt440.2.2.2.2.2).bind fun t446 => (if t446 = true then (foolscaplaw7_CharsMove.l1 k2 l0 a4 a5 y384 (y384.length : Int) x37_1 y389 (y389.length : Int) (wrap64 (x46_2 + 1)) ((rd_T24 y384 x37_1).f0) ((rd_T24 y384 x37_1).f1)) else (some false))))) = some r := by rw [if_pos rfl] at H; exact H
                                clear H
                                have H := H1
                                clear H1
                                replace H := Option.bind_eq_some_iff.mp H
                                obtain ⟨⟨t434, t435, t436, t437, t438, t439⟩, A430, H⟩ := H
                                replace H : ((foolscapref5_Column.f l0 ((rd_T24 y384 x37_1).f0) ((rd_T24 y384 x37_1).f1) (rd y389 x46_2)).bind fun bt440 => ((foolscaplaw7_same.f t434 t435 t436 t437 t438 t439 bt440.1 bt440.2.1 bt440.2.2.1 bt440.2.2.2.1 bt440.2.2.2.2.1 bt440.2.2.2.2.2).bind fun t446 => (if t446 = true then (foolscaplaw7_CharsMove.l1 k2 l0 a4 a5 y384 (y384.length : Int) x37_1 y389 (y389.length : Int) (wrap64 (x46_2 + 1)) ((rd_T24 y384 x37_1).f0) ((rd_T24 y384 x37_1).f1)) else (some false)))) = some r := H
                                have A43 := Aside0.mk A430
                                clear A430
                                replace H := Option.bind_eq_some_iff.mp H
                                obtain ⟨⟨t440, t441, t442, t443, t444, t445⟩, A440, H⟩ := H
                                replace H : ((foolscaplaw7_same.f t434 t435 t436 t437 t438 t439 t440 t441 t442 t443 t444 t445).bind fun t446 => (if t446 = true then (foolscaplaw7_CharsMove.l1 k2 l0 a4 a5 y384 (y384.length : Int) x37_1 y389 (y389.length : Int) (wrap64 (x46_2 + 1)) ((rd_T24 y384 x37_1).f0) ((rd_T24 y384 x37_1).f1)) else (some false))) = some r := H
                                have A44 := Aside0.mk A440
                                clear A440
                                replace H := Option.bind_eq_some_iff.mp H
                                obtain ⟨t446, A450, H⟩ := H
                                replace H : (if t446 = true then (foolscaplaw7_CharsMove.l1 k2 l0 a4 a5 y384 (y384.length : Int) x37_1 y389 (y389.length : Int) (wrap64 (x46_2 + 1)) ((rd_T24 y384 x37_1).f0) ((rd_T24 y384 x37_1).f1)) else (some false)) = some r := H
                                have A45 := Aside0.mk A450
                                clear A450
                                by_cases c46 : t446 = true
                                · subst c46
                                  have H1 : (foolscaplaw7_CharsMove.l1 k2 l0 a4 a5 y384 (y384.length : Int) x37_1 y389 (y389.length : Int) (wrap64 (x46_2 + 1)) ((rd_T24 y384 x37_1).f0) ((rd_T24 y384 x37_1).f1)) = some r := by rw [if_pos rfl] at H; exact H
                                  clear H
                                  have H := H1
                                  clear H1
                                  have H' := Aside0.mk H
                                  clear H
                                  have p392 : 0 ≤ (x46_2 : Int) := of_decide_eq_true (by first | (with_reducible assumption) | assumption)
                                  have q392 : x46_2 < (y389.length : Int) := of_decide_eq_true (by first | (with_reducible assumption) | assumption)
                                  obtain ⟨ad392, e392, hx392_0⟩ := Kd.at_int (Kd.R_reads' HO_44.out).2.2 x46_2 p392 q392
                                  cases e392
                                  replace p392 := eq_true p392
                                  replace q392 := eq_true q392
                                  have hnb47 := NB388_379.out
                                  have hnc47 := NB379_388.out
                                  have hcz48_0 : wr.cell? ⟨gb388, 0, none⟩ = some (.int .i64 ((rd_T24 y384 x37_1).f0)) := (blk_cell BK388.out 0).trans rfl
                                  have hcz48_1 : wr.cell? ⟨gb388, 1, none⟩ = some (.int .i64 ((rd_T24 y384 x37_1).f1)) := (blk_cell BK388.out 1).trans rfl
                                  have hfz48_0 := blk_frozen BK388.out 0
                                  have hfz48_1 := blk_frozen BK388.out 1
                                  go_wp2_with (first | ((with_reducible refine gate_callee (f := 15) rfl ?_); refine goesL_ (some 54) rfl rfl Try.func15 (by kernel_rfl) rfl #[.slice A0 l0.length c0, .agg #[.int .i64 ((rd_T24 y384 x37_1).f0), .int .i64 ((rd_T24 y384 x37_1).f1)], .int .i64 (rd y389 x46_2)] rfl (by (try simp only [List.map_toArray, List.map_cons, List.map_nil]); first | done | rfl | (simp only [List.length_drop, List.length_take]; rfl)) ?_; (with_reducible refine (chars_Left.calls _ _ l0 ((rd_T24 y384 x37_1).f0) ((rd_T24 y384 x37_1).f1) (rd y389 x46_2) t393 t394 t395 t396 t397 t398 _ ?side1 ?side2 A31.out).mono ?_); (case side1 => repeat (first | exact (Kd.C_below HR0.out HB.out) | (with_reducible refine Kd.C_alloc ?_ _) | (with_reducible refine Kd.C_drewN ?_ _) | (with_reducible refine Kd.C_drew ?_))); (case side2 => exact HC0.out); rintro e w49 ⟨rfl, hb⟩; refine ⟨_, rfl, ?_⟩; have n0_ := Aside0.mk (Kd.R_below (by (with_reducible repeat (first | apply Kd.R_alloc | apply Kd.R_drewN | apply Kd.R_drew)); exact HO_35.out) hb); have n1_ := Aside0.mk (Kd.R_below (by (with_reducible repeat (first | apply Kd.R_alloc | apply Kd.R_drewN | apply Kd.R_drew)); exact HO_44.out) hb); have n2_ := Aside0.mk (blk_below (g := gb379) (o := .cells #[.int .i64 a1_0, .int .i64 a1_1] 24 (0, 0)) (by exact BK379.out) hb); have n3_ := Aside0.mk (blk_below (g := gb388) (o := .cells #[.int .i64 ((rd_T24 y384 x37_1).f0), .int .i64 ((rd_T24 y384 x37_1).f1)] 24 (0, 0)) (by exact BK388.out) hb); have n4_ := Aside0.mk (below_step (by repeat (first | (with_reducible first | exact HB.out | apply below_alloc | apply pw_below_drewN | apply below_drew1 | refine below_set ?_ GE379.out | refine below_set ?_ GE388.out) | exact HB.out)) hb); clear HO_35; clear HO_44; clear BK379; clear BK388; clear HB; have HO_35 := n0_; have HO_44 := n1_; have BK379 := n2_; have BK388 := n3_; have HB := n4_; clear n0_ n1_ n2_ n3_ n4_; (try clear hb); (try clear hb2); (try clear hk); (try clear hi)) | ((with_reducible refine gate_dst (N := 17) rfl ?_); refine box_event ?hg (N := 17) ?hd (cs := #[.int .i64 0, .int .i64 0, .int .i64 0, .bool false, .int .i64 0]) (t := 33) ?hr ?_; (case hd => rfl); (case hg => rfl); (case hr => first | (go_simp; done) | (go_simp; rfl)); intro gb399 hg w50 hbox hb; have n0_ := Aside0.mk (Kd.R_below (by (with_reducible repeat (first | apply Kd.R_alloc | apply Kd.R_drewN | apply Kd.R_drew)); exact HO_35.out) hb); have n1_ := Aside0.mk (Kd.R_below (by (with_reducible repeat (first | apply Kd.R_alloc | apply Kd.R_drewN | apply Kd.R_drew)); exact HO_44.out) hb); have n2_ := Aside0.mk (blk_below (g := gb379) (o := .cells #[.int .i64 a1_0, .int .i64 a1_1] 24 (0, 0)) (by exact BK379.out) hb); have n3_ := Aside0.mk (blk_below (g := gb388) (o := .cells #[.int .i64 ((rd_T24 y384 x37_1).f0), .int .i64 ((rd_T24 y384 x37_1).f1)] 24 (0, 0)) (by exact BK388.out) hb); have n4_ := Aside0.mk (below_step (by repeat (first | (with_reducible first | exact HB.out | apply below_alloc | apply pw_below_drewN | apply below_drew1 | refine below_set ?_ GE379.out | refine below_set ?_ GE388.out) | exact HB.out)) hb); have n5_ := Aside0.mk (hbox); have n6_ := Aside0.mk ((by rw [hg]; exact (below_size (by repeat (first | (with_reducible first | exact HB.out | apply below_alloc | apply pw_below_drewN | apply below_drew1 | refine below_set ?_ GE379.out | refine below_set ?_ GE388.out) | exact HB.out))) : w.heap.size ≤ gb399)); have n7_ := Aside0.mk ((by rw [hg]; exact (below_size (by repeat (first | (with_reducible first | exact HB.out | apply below_alloc | apply pw_below_drewN | apply below_drew1 | refine below_set ?_ GE379.out | refine below_set ?_ GE388.out) | exact HB.out))) : w.heap.size ≤ gb399)); have n8_ := Aside0.mk ((by rw [hg]; exact Nat.ne_of_lt (blk_lt (g := gb379) (o := .cells #[.int .i64 a1_0, .int .i64 a1_1] 24 (0, 0)) (by exact BK379.out)) : gb379 ≠ gb399)); have n9_ := Aside0.mk ((by rw [hg]; exact Nat.ne_of_gt (blk_lt (g := gb379) (o := .cells #[.int .i64 a1_0, .int .i64 a1_1] 24 (0, 0)) (by exact BK379.out)) : gb399 ≠ gb379)); have n10_ := Aside0.mk ((by rw [hg]; exact Nat.ne_of_lt (blk_lt (g := gb388) (o := .cells #[.int .i64 ((rd_T24 y384 x37_1).f0), .int .i64 ((rd_T24 y384 x37_1).f1)] 24 (0, 0)) (by exact BK388.out)) : gb388 ≠ gb399)); have n11_ := Aside0.mk ((by rw [hg]; exact Nat.ne_of_gt (blk_lt (g := gb388) (o := .cells #[.int .i64 ((rd_T24 y384 x37_1).f0), .int .i64 ((rd_T24 y384 x37_1).f1)] 24 (0, 0)) (by exact BK388.out)) : gb399 ≠ gb388)); clear HO_35; clear HO_44; clear BK379; clear BK388; clear HB; have HO_35 := n0_; have HO_44 := n1_; have BK379 := n2_; have BK388 := n3_; have HB := n4_; have BK399 := n5_; have GW399 := n6_; have GE399 := n7_; have NB379_399 := n8_; have NB399_379 := n9_; have NB388_399 := n10_; have NB399_388 := n11_; clear n0_ n1_ n2_ n3_ n4_ n5_ n6_ n7_ n8_ n9_ n10_ n11_; clear hb hbox hg; have hnb51 := NB399_379.out; have hnc51 := NB379_399.out; have hnb52 := NB399_388.out; have hnc52 := NB388_399.out; have hcz53_0 : w50.cell? ⟨gb399, 0, none⟩ = some (.int .i64 0) := (blk_cell BK399.out 0).trans rfl; have hcz53_1 : w50.cell? ⟨gb399, 1, none⟩ = some (.int .i64 0) := (blk_cell BK399.out 1).trans rfl; have hcz53_2 : w50.cell? ⟨gb399, 2, none⟩ = some (.int .i64 0) := (blk_cell BK399.out 2).trans rfl; have hcz53_3 : w50.cell? ⟨gb399, 3, none⟩ = some (.bool false) := (blk_cell BK399.out 3).trans rfl; have hcz53_4 : w50.cell? ⟨gb399, 4, none⟩ = some (.int .i64 0) := (blk_cell BK399.out 4).trans rfl; have hfz53_0 := blk_frozen BK399.out 0; have hfz53_1 := blk_frozen BK399.out 1; have hfz53_2 := blk_frozen BK399.out 2; have hfz53_3 := blk_frozen BK399.out 3; have hfz53_4 := blk_frozen BK399.out 4; have hcz54_0 : w50.cell? ⟨gb388, 0, none⟩ = some (.int .i64 ((rd_T24 y384 x37_1).f0)) := (blk_cell BK388.out 0).trans rfl; have hcz54_1 : w50.cell? ⟨gb388, 1, none⟩ = some (.int .i64 ((rd_T24 y384 x37_1).f1)) := (blk_cell BK388.out 1).trans rfl; have hfz54_0 := blk_frozen BK388.out 0; have hfz54_1 := blk_frozen BK388.out 1) | ((with_reducible refine gate_callee (f := 16) rfl ?_); refine goesL_ (some 61) rfl rfl Try.func16 (by kernel_rfl) rfl #[.slice A0 l0.length c0, .agg #[.int .i64 ((rd_T24 y384 x37_1).f0), .int .i64 ((rd_T24 y384 x37_1).f1)], .int .i64 (rd y389 x46_2)] rfl (by (try simp only [List.map_toArray, List.map_cons, List.map_nil]); first | done | rfl | (simp only [List.length_drop, List.length_take]; rfl)) ?_; (with_reducible refine (foolscapref5_Left.calls k2 _ _ l0 ((rd_T24 y384 x37_1).f0) ((rd_T24 y384 x37_1).f1) (rd y389 x46_2) t400 t401 t402 t403 t404 t405 _ ?side1 ?side2 A32.out).mono ?_); (case side1 => exact Kd.C_below HR0.out (by repeat (first | (with_reducible first | exact HB.out | apply below_alloc | apply pw_below_drewN | apply below_drew1 | refine below_set ?_ GE379.out | refine below_set ?_ GE388.out | refine below_set ?_ GE399.out) | exact HB.out))); (case side2 => exact HC0.out); rintro e w55 ⟨rfl, hb⟩; refine ⟨_, rfl, ?_⟩; have n0_ := Aside0.mk (Kd.R_below (by (with_reducible repeat (first | apply Kd.R_alloc | apply Kd.R_drewN | apply Kd.R_drew)); exact (Kd.R_mono (Kd.R_far (p := ⟨gb399, 4, none⟩) (Kd.R_far (p := ⟨gb399, 3, none⟩) (Kd.R_far (p := ⟨gb399, 2, none⟩) (Kd.R_far (p := ⟨gb399, 1, none⟩) (Kd.R_far (p := ⟨gb399, 0, none⟩) (Kd.R_types HO_35.out BK399.out (by decide)) (fun _ hk => hk.2) (.int .i64 t393)) (fun _ hk => hk.2) (.int .i64 t394)) (fun _ hk => hk.2) (.int .i64 t395)) (fun _ hk => hk.2) (.bool t396)) (fun _ hk => hk.2) (.int .i64 t397)) (fun _ h_ => h_.1))) hb); have n1_ := Aside0.mk (Kd.R_below (by (with_reducible repeat (first | apply Kd.R_alloc | apply Kd.R_drewN | apply Kd.R_drew)); exact (Kd.R_mono (Kd.R_far (p := ⟨gb399, 4, none⟩) (Kd.R_far (p := ⟨gb399, 3, none⟩) (Kd.R_far (p := ⟨gb399, 2, none⟩) (Kd.R_far (p := ⟨gb399, 1, none⟩) (Kd.R_far (p := ⟨gb399, 0, none⟩) (Kd.R_types HO_44.out BK399.out (by decide)) (fun _ hk => hk.2) (.int .i64 t393)) (fun _ hk => hk.2) (.int .i64 t394)) (fun _ hk => hk.2) (.int .i64 t395)) (fun _ hk => hk.2) (.bool t396)) (fun _ hk => hk.2) (.int .i64 t397)) (fun _ h_ => h_.1))) hb); have n2_ := Aside0.mk (blk_below (g := gb379) (o := .cells #[.int .i64 a1_0, .int .i64 a1_1] 24 (0, 0)) (by refine blk_far ?_ NB379_399.out _; refine blk_far ?_ NB379_399.out _; refine blk_far ?_ NB379_399.out _; refine blk_far ?_ NB379_399.out _; refine blk_far ?_ NB379_399.out _; exact BK379.out) hb); have n3_ := Aside0.mk (blk_below (g := gb388) (o := .cells #[.int .i64 ((rd_T24 y384 x37_1).f0), .int .i64 ((rd_T24 y384 x37_1).f1)] 24 (0, 0)) (by refine blk_far ?_ NB388_399.out _; refine blk_far ?_ NB388_399.out _; refine blk_far ?_ NB388_399.out _; refine blk_far ?_ NB388_399.out _; refine blk_far ?_ NB388_399.out _; exact BK388.out) hb); have n4_ := Aside0.mk (blk_below (g := gb399) (o := .cells #[.int .i64 t393, .int .i64 t394, .int .i64 t395, .bool t396, .int .i64 t397] 33 (0, 0)) (by refine blk_put (cs := #[.int .i64 t393, .int .i64 t394, .int .i64 t395, .bool t396, .int .i64 0]) ?_ 4 _ rfl; refine blk_put (cs := #[.int .i64 t393, .int .i64 t394, .int .i64 t395, .bool false, .int .i64 0]) ?_ 3 _ rfl; refine blk_put (cs := #[.int .i64 t393, .int .i64 t394, .int .i64 0, .bool false, .int .i64 0]) ?_ 2 _ rfl; refine blk_put (cs := #[.int .i64 t393, .int .i64 0, .int .i64 0, .bool false, .int .i64 0]) ?_ 1 _ rfl; refine blk_put (cs := #[.int .i64 0, .int .i64 0, .int .i64 0, .bool false, .int .i64 0]) ?_ 0 _ rfl; exact BK399.out) hb); have n5_ := Aside0.mk (below_step (by repeat (first | (with_reducible first | exact HB.out | apply below_alloc | apply pw_below_drewN | apply below_drew1 | refine below_set ?_ GE379.out | refine below_set ?_ GE388.out | refine below_set ?_ GE399.out) | exact HB.out)) hb); clear HO_35; clear HO_44; clear BK379; clear BK388; clear BK399; clear HB; have HO_35 := n0_; have HO_44 := n1_; have BK379 := n2_; have BK388 := n3_; have BK399 := n4_; have HB := n5_; clear n0_ n1_ n2_ n3_ n4_ n5_; (try clear hb); (try clear hb2); (try clear hk); (try clear hi)) | ((with_reducible refine gate_dst (N := 19) rfl ?_); refine box_event ?hg (N := 19) ?hd (cs := #[.int .i64 0, .int .i64 0, .int .i64 0, .bool false, .int .i64 0]) (t := 33) ?hr ?_; (case hd => rfl); (case hg => rfl); (case hr => first | (go_simp; done) | (go_simp; rfl)); intro gb406 hg w56 hbox hb; have n0_ := Aside0.mk (Kd.R_below (by (with_reducible repeat (first | apply Kd.R_alloc | apply Kd.R_drewN | apply Kd.R_drew)); exact HO_35.out) hb); have n1_ := Aside0.mk (Kd.R_below (by (with_reducible repeat (first | apply Kd.R_alloc | apply Kd.R_drewN | apply Kd.R_drew)); exact HO_44.out) hb); have n2_ := Aside0.mk (blk_below (g := gb379) (o := .cells #[.int .i64 a1_0, .int .i64 a1_1] 24 (0, 0)) (by exact BK379.out) hb); have n3_ := Aside0.mk (blk_below (g := gb388) (o := .cells #[.int .i64 ((rd_T24 y384 x37_1).f0), .int .i64 ((rd_T24 y384 x37_1).f1)] 24 (0, 0)) (by exact BK388.out) hb); have n4_ := Aside0.mk (blk_below (g := gb399) (o := .cells #[.int .i64 t393, .int .i64 t394, .int .i64 t395, .bool t396, .int .i64 t397] 33 (0, 0)) (by exact BK399.out) hb); have n5_ := Aside0.mk (below_step (by repeat (first | (with_reducible first | exact HB.out | apply below_alloc | apply pw_below_drewN | apply below_drew1 | refine below_set ?_ GE379.out | refine below_set ?_ GE388.out | refine below_set ?_ GE399.out) | exact HB.out)) hb); have n6_ := Aside0.mk (hbox); have n7_ := Aside0.mk ((by rw [hg]; exact (below_size (by repeat (first | (with_reducible first | exact HB.out | apply below_alloc | apply pw_below_drewN | apply below_drew1 | refine below_set ?_ GE379.out | refine below_set ?_ GE388.out | refine below_set ?_ GE399.out) | exact HB.out))) : w.heap.size ≤ gb406)); have n8_ := Aside0.mk ((by rw [hg]; exact (below_size (by repeat (first | (with_reducible first | exact HB.out | apply below_alloc | apply pw_below_drewN | apply below_drew1 | refine below_set ?_ GE379.out | refine below_set ?_ GE388.out | refine below_set ?_ GE399.out) | exact HB.out))) : w.heap.size ≤ gb406)); have n9_ := Aside0.mk ((by rw [hg]; exact Nat.ne_of_lt (blk_lt (g := gb379) (o := .cells #[.int .i64 a1_0, .int .i64 a1_1] 24 (0, 0)) (by exact BK379.out)) : gb379 ≠ gb406)); have n10_ := Aside0.mk ((by rw [hg]; exact Nat.ne_of_gt (blk_lt (g := gb379) (o := .cells #[.int .i64 a1_0, .int .i64 a1_1] 24 (0, 0)) (by exact BK379.out)) : gb406 ≠ gb379)); have n11_ := Aside0.mk ((by rw [hg]; exact Nat.ne_of_lt (blk_lt (g := gb388) (o := .cells #[.int .i64 ((rd_T24 y384 x37_1).f0), .int .i64 ((rd_T24 y384 x37_1).f1)] 24 (0, 0)) (by exact BK388.out)) : gb388 ≠ gb406)); have n12_ := Aside0.mk ((by rw [hg]; exact Nat.ne_of_gt (blk_lt (g := gb388) (o := .cells #[.int .i64 ((rd_T24 y384 x37_1).f0), .int .i64 ((rd_T24 y384 x37_1).f1)] 24 (0, 0)) (by exact BK388.out)) : gb406 ≠ gb388)); have n13_ := Aside0.mk ((by rw [hg]; exact Nat.ne_of_lt (blk_lt (g := gb399) (o := .cells #[.int .i64 t393, .int .i64 t394, .int .i64 t395, .bool t396, .int .i64 t397] 33 (0, 0)) (by exact BK399.out)) : gb399 ≠ gb406)); have n14_ := Aside0.mk ((by rw [hg]; exact Nat.ne_of_gt (blk_lt (g := gb399) (o := .cells #[.int .i64 t393, .int .i64 t394, .int .i64 t395, .bool t396, .int .i64 t397] 33 (0, 0)) (by exact BK399.out)) : gb406 ≠ gb399)); clear HO_35; clear HO_44; clear BK379; clear BK388; clear BK399; clear HB; have HO_35 := n0_; have HO_44 := n1_; have BK379 := n2_; have BK388 := n3_; have BK399 := n4_; have HB := n5_; have BK406 := n6_; have GW406 := n7_; have GE406 := n8_; have NB379_406 := n9_; have NB406_379 := n10_; have NB388_406 := n11_; have NB406_388 := n12_; have NB399_406 := n13_; have NB406_399 := n14_; clear n0_ n1_ n2_ n3_ n4_ n5_ n6_ n7_ n8_ n9_ n10_ n11_ n12_ n13_ n14_; clear hb hbox hg; have hnb57 := NB406_379.out; have hnc57 := NB379_406.out; have hnb58 := NB406_388.out; have hnc58 := NB388_406.out; have hnb59 := NB406_399.out; have hnc59 := NB399_406.out; have hcz60_0 : w56.cell? ⟨gb406, 0, none⟩ = some (.int .i64 0) := (blk_cell BK406.out 0).trans rfl; have hcz60_1 : w56.cell? ⟨gb406, 1, none⟩ = some (.int .i64 0) := (blk_cell BK406.out 1).trans rfl; have hcz60_2 : w56.cell? ⟨gb406, 2, none⟩ = some (.int .i64 0) := (blk_cell BK406.out 2).trans rfl; have hcz60_3 : w56.cell? ⟨gb406, 3, none⟩ = some (.bool false) := (blk_cell BK406.out 3).trans rfl; have hcz60_4 : w56.cell? ⟨gb406, 4, none⟩ = some (.int .i64 0) := (blk_cell BK406.out 4).trans rfl; have hfz60_0 := blk_frozen BK406.out 0; have hfz60_1 := blk_frozen BK406.out 1; have hfz60_2 := blk_frozen BK406.out 2; have hfz60_3 := blk_frozen BK406.out 3; have hfz60_4 := blk_frozen BK406.out 4; have hcz61_0 : w56.cell? ⟨gb399, 0, none⟩ = some (.int .i64 t393) := (blk_cell BK399.out 0).trans rfl; have hcz61_1 : w56.cell? ⟨gb399, 1, none⟩ = some (.int .i64 t394) := (blk_cell BK399.out 1).trans rfl; have hcz61_2 : w56.cell? ⟨gb399, 2, none⟩ = some (.int .i64 t395) := (blk_cell BK399.out 2).trans rfl; have hcz61_3 : w56.cell? ⟨gb399, 3, none⟩ = some (.bool t396) := (blk_cell BK399.out 3).trans rfl; have hcz61_4 : w56.cell? ⟨gb399, 4, none⟩ = some (.int .i64 t397) := (blk_cell BK399.out 4).trans rfl; have hfz61_0 := blk_frozen BK399.out 0; have hfz61_1 := blk_frozen BK399.out 1; have hfz61_2 := blk_frozen BK399.out 2; have hfz61_3 := blk_frozen BK399.out 3; have hfz61_4 := blk_frozen BK399.out 4) | ((with_reducible refine gate_callee (f := 14) rfl ?_); refine goesL_ (some 68) rfl rfl Try.func14 (by kernel_rfl) rfl #[.agg #[.int .i64 t393, .int .i64 t394, .int .i64 t395, .bool t396, .int .i64 t397], .bool t398, .agg #[.int .i64 t400, .int .i64 t401, .int .i64 t402, .bool t403, .int .i64 t404], .bool t405] rfl (by (try simp only [List.map_toArray, List.map_cons, List.map_nil]); first | done | rfl | (simp only [List.length_drop, List.length_take]; rfl)) ?_; (with_reducible refine (foolscaplaw7_same.calls t393 t394 t395 t396 t397 t398 t400 t401 t402 t403 t404 t405 true _ A33.out).mono ?_); rintro e w62 ⟨rfl, hb⟩; refine ⟨_, rfl, ?_⟩; have n0_ := Aside0.mk (Kd.R_below (by (with_reducible repeat (first | apply Kd.R_alloc | apply Kd.R_drewN | apply Kd.R_drew)); exact (Kd.R_mono (Kd.R_far (p := ⟨gb406, 4, none⟩) (Kd.R_far (p := ⟨gb406, 3, none⟩) (Kd.R_far (p := ⟨gb406, 2, none⟩) (Kd.R_far (p := ⟨gb406, 1, none⟩) (Kd.R_far (p := ⟨gb406, 0, none⟩) (Kd.R_types HO_35.out BK406.out (by decide)) (fun _ hk => hk.2) (.int .i64 t400)) (fun _ hk => hk.2) (.int .i64 t401)) (fun _ hk => hk.2) (.int .i64 t402)) (fun _ hk => hk.2) (.bool t403)) (fun _ hk => hk.2) (.int .i64 t404)) (fun _ h_ => h_.1))) hb); have n1_ := Aside0.mk (Kd.R_below (by (with_reducible repeat (first | apply Kd.R_alloc | apply Kd.R_drewN | apply Kd.R_drew)); exact (Kd.R_mono (Kd.R_far (p := ⟨gb406, 4, none⟩) (Kd.R_far (p := ⟨gb406, 3, none⟩) (Kd.R_far (p := ⟨gb406, 2, none⟩) (Kd.R_far (p := ⟨gb406, 1, none⟩) (Kd.R_far (p := ⟨gb406, 0, none⟩) (Kd.R_types HO_44.out BK406.out (by decide)) (fun _ hk => hk.2) (.int .i64 t400)) (fun _ hk => hk.2) (.int .i64 t401)) (fun _ hk => hk.2) (.int .i64 t402)) (fun _ hk => hk.2) (.bool t403)) (fun _ hk => hk.2) (.int .i64 t404)) (fun _ h_ => h_.1))) hb); have n2_ := Aside0.mk (blk_below (g := gb379) (o := .cells #[.int .i64 a1_0, .int .i64 a1_1] 24 (0, 0)) (by refine blk_far ?_ NB379_406.out _; refine blk_far ?_ NB379_406.out _; refine blk_far ?_ NB379_406.out _; refine blk_far ?_ NB379_406.out _; refine blk_far ?_ NB379_406.out _; exact BK379.out) hb); have n3_ := Aside0.mk (blk_below (g := gb388) (o := .cells #[.int .i64 ((rd_T24 y384 x37_1).f0), .int .i64 ((rd_T24 y384 x37_1).f1)] 24 (0, 0)) (by refine blk_far ?_ NB388_406.out _; refine blk_far ?_ NB388_406.out _; refine blk_far ?_ NB388_406.out _; refine blk_far ?_ NB388_406.out _; refine blk_far ?_ NB388_406.out _; exact BK388.out) hb); have n4_ := Aside0.mk (blk_below (g := gb399) (o := .cells #[.int .i64 t393, .int .i64 t394, .int .i64 t395, .bool t396, .int .i64 t397] 33 (0, 0)) (by refine blk_far ?_ NB399_406.out _; refine blk_far ?_ NB399_406.out _; refine blk_far ?_ NB399_406.out _; refine blk_far ?_ NB399_406.out _; refine blk_far ?_ NB399_406.out _; exact BK399.out) hb); have n5_ := Aside0.mk (blk_below (g := gb406) (o := .cells #[.int .i64 t400, .int .i64 t401, .int .i64 t402, .bool t403, .int .i64 t404] 33 (0, 0)) (by refine blk_put (cs := #[.int .i64 t400, .int .i64 t401, .int .i64 t402, .bool t403, .int .i64 0]) ?_ 4 _ rfl; refine blk_put (cs := #[.int .i64 t400, .int .i64 t401, .int .i64 t402, .bool false, .int .i64 0]) ?_ 3 _ rfl; refine blk_put (cs := #[.int .i64 t400, .int .i64 t401, .int .i64 0, .bool false, .int .i64 0]) ?_ 2 _ rfl; refine blk_put (cs := #[.int .i64 t400, .int .i64 0, .int .i64 0, .bool false, .int .i64 0]) ?_ 1 _ rfl; refine blk_put (cs := #[.int .i64 0, .int .i64 0, .int .i64 0, .bool false, .int .i64 0]) ?_ 0 _ rfl; exact BK406.out) hb); have n6_ := Aside0.mk (below_step (by repeat (first | (with_reducible first | exact HB.out | apply below_alloc | apply pw_below_drewN | apply below_drew1 | refine below_set ?_ GE379.out | refine below_set ?_ GE388.out | refine below_set ?_ GE399.out | refine below_set ?_ GE406.out) | exact HB.out)) hb); clear HO_35; clear HO_44; clear BK379; clear BK388; clear BK399; clear BK406; clear HB; have HO_35 := n0_; have HO_44 := n1_; have BK379 := n2_; have BK388 := n3_; have BK399 := n4_; have BK406 := n5_; have HB := n6_; clear n0_ n1_ n2_ n3_ n4_ n5_ n6_; (try clear hb); (try clear hb2); (try clear hk); (try clear hi); have hcz63_0 : w62.cell? ⟨gb388, 0, none⟩ = some (.int .i64 ((rd_T24 y384 x37_1).f0)) := (blk_cell BK388.out 0).trans rfl; have hcz63_1 : w62.cell? ⟨gb388, 1, none⟩ = some (.int .i64 ((rd_T24 y384 x37_1).f1)) := (blk_cell BK388.out 1).trans rfl; have hfz63_0 := blk_frozen BK388.out 0; have hfz63_1 := blk_frozen BK388.out 1) | ((with_reducible refine gate_callee (f := 17) rfl ?_); refine goesL_ (some 75) rfl rfl Try.func17 (by kernel_rfl) rfl #[.slice A0 l0.length c0, .agg #[.int .i64 ((rd_T24 y384 x37_1).f0), .int .i64 ((rd_T24 y384 x37_1).f1)], .int .i64 (rd y389 x46_2), .bool a5] rfl (by (try simp only [List.map_toArray, List.map_cons, List.map_nil]); first | done | rfl | (simp only [List.length_drop, List.length_take]; rfl)) ?_; (with_reducible refine (chars_Right.calls k2 _ _ l0 ((rd_T24 y384 x37_1).f0) ((rd_T24 y384 x37_1).f1) (rd y389 x46_2) a5 t408 t409 t410 t411 t412 t413 _ ?side1 ?side2 A35.out).mono ?_); (case side1 => repeat (first | exact (Kd.C_below HR0.out HB.out) | (with_reducible refine Kd.C_alloc ?_ _) | (with_reducible refine Kd.C_drewN ?_ _) | (with_reducible refine Kd.C_drew ?_))); (case side2 => exact HC0.out); rintro e w64 ⟨rfl, hb⟩; refine ⟨_, rfl, ?_⟩; have n0_ := Aside0.mk (Kd.R_below (by (with_reducible repeat (first | apply Kd.R_alloc | apply Kd.R_drewN | apply Kd.R_drew)); exact HO_35.out) hb); have n1_ := Aside0.mk (Kd.R_below (by (with_reducible repeat (first | apply Kd.R_alloc | apply Kd.R_drewN | apply Kd.R_drew)); exact HO_44.out) hb); have n2_ := Aside0.mk (blk_below (g := gb379) (o := .cells #[.int .i64 a1_0, .int .i64 a1_1] 24 (0, 0)) (by exact BK379.out) hb); have n3_ := Aside0.mk (blk_below (g := gb388) (o := .cells #[.int .i64 ((rd_T24 y384 x37_1).f0), .int .i64 ((rd_T24 y384 x37_1).f1)] 24 (0, 0)) (by exact BK388.out) hb); have n4_ := Aside0.mk (blk_below (g := gb399) (o := .cells #[.int .i64 t393, .int .i64 t394, .int .i64 t395, .bool t396, .int .i64 t397] 33 (0, 0)) (by exact BK399.out) hb); have n5_ := Aside0.mk (blk_below (g := gb406) (o := .cells #[.int .i64 t400, .int .i64 t401, .int .i64 t402, .bool t403, .int .i64 t404] 33 (0, 0)) (by exact BK406.out) hb); have n6_ := Aside0.mk (below_step (by repeat (first | (with_reducible first | exact HB.out | apply below_alloc | apply pw_below_drewN | apply below_drew1 | refine below_set ?_ GE379.out | refine below_set ?_ GE388.out | refine below_set ?_ GE399.out | refine below_set ?_ GE406.out) | exact HB.out)) hb); clear HO_35; clear HO_44; clear BK379; clear BK388; clear BK399; clear BK406; clear HB; have HO_35 := n0_; have HO_44 := n1_; have BK379 := n2_; have BK388 := n3_; have BK399 := n4_; have BK406 := n5_; have HB := n6_; clear n0_ n1_ n2_ n3_ n4_ n5_ n6_; (try clear hb); (try clear hb2); (try clear hk); (try clear hi); have hcz65_0 : w64.cell? ⟨gb399, 0, none⟩ = some (.int .i64 t393) := (blk_cell BK399.out 0).trans rfl; have hcz65_1 : w64.cell? ⟨gb399, 1, none⟩ = some (.int .i64 t394) := (blk_cell BK399.out 1).trans rfl; have hcz65_2 : w64.cell? ⟨gb399, 2, none⟩ = some (.int .i64 t395) := (blk_cell BK399.out 2).trans rfl; have hcz65_3 : w64.cell? ⟨gb399, 3, none⟩ = some (.bool t396) := (blk_cell BK399.out 3).trans rfl; have hcz65_4 : w64.cell? ⟨gb399, 4, none⟩ = some (.int .i64 t397) := (blk_cell BK399.out 4).trans rfl; have hfz65_0 := blk_frozen BK399.out 0; have hfz65_1 := blk_frozen BK399.out 1; have hfz65_2 := blk_frozen BK399.out 2; have hfz65_3 := blk_frozen BK399.out 3; have hfz65_4 := blk_frozen BK399.out 4; have hcz66_0 : w64.cell? ⟨gb388, 0, none⟩ = some (.int .i64 ((rd_T24 y384 x37_1).f0)) := (blk_cell BK388.out 0).trans rfl; have hcz66_1 : w64.cell? ⟨gb388, 1, none⟩ = some (.int .i64 ((rd_T24 y384 x37_1).f1)) := (blk_cell BK388.out 1).trans rfl; have hfz66_0 := blk_frozen BK388.out 0; have hfz66_1 := blk_frozen BK388.out 1) | ((with_reducible refine gate_callee (f := 18) rfl ?_); refine goesL_ (some 83) rfl rfl Try.func18 (by kernel_rfl) rfl #[.slice A0 l0.length c0, .agg #[.int .i64 ((rd_T24 y384 x37_1).f0), .int .i64 ((rd_T24 y384 x37_1).f1)], .int .i64 (rd y389 x46_2), .bool a5] rfl (by (try simp only [List.map_toArray, List.map_cons, List.map_nil]); first | done | rfl | (simp only [List.length_drop, List.length_take]; rfl)) ?_; (with_reducible refine (foolscapref5_Right.calls k2 _ _ l0 ((rd_T24 y384 x37_1).f0) ((rd_T24 y384 x37_1).f1) (rd y389 x46_2) a5 t414 t415 t416 t417 t418 t419 _ ?side1 ?side2 A36.out).mono ?_); (case side1 => exact Kd.C_below HR0.out (by repeat (first | (with_reducible first | exact HB.out | apply below_alloc | apply pw_below_drewN | apply below_drew1 | refine below_set ?_ GE379.out | refine below_set ?_ GE388.out | refine below_set ?_ GE399.out | refine below_set ?_ GE406.out) | exact HB.out))); (case side2 => exact HC0.out); rintro e w67 ⟨rfl, hb⟩; refine ⟨_, rfl, ?_⟩; have n0_ := Aside0.mk (Kd.R_below (by (with_reducible repeat (first | apply Kd.R_alloc | apply Kd.R_drewN | apply Kd.R_drew)); exact (Kd.R_mono (Kd.R_far (p := ⟨gb399, 4, none⟩) (Kd.R_far (p := ⟨gb399, 3, none⟩) (Kd.R_far (p := ⟨gb399, 2, none⟩) (Kd.R_far (p := ⟨gb399, 1, none⟩) (Kd.R_far (p := ⟨gb399, 0, none⟩) (Kd.R_types HO_35.out BK399.out (by decide)) (fun _ hk => hk.2) (.int .i64 t408)) (fun _ hk => hk.2) (.int .i64 t409)) (fun _ hk => hk.2) (.int .i64 t410)) (fun _ hk => hk.2) (.bool t411)) (fun _ hk => hk.2) (.int .i64 t412)) (fun _ h_ => h_.1))) hb); have n1_ := Aside0.mk (Kd.R_below (by (with_reducible repeat (first | apply Kd.R_alloc | apply Kd.R_drewN | apply Kd.R_drew)); exact (Kd.R_mono (Kd.R_far (p := ⟨gb399, 4, none⟩) (Kd.R_far (p := ⟨gb399, 3, none⟩) (Kd.R_far (p := ⟨gb399, 2, none⟩) (Kd.R_far (p := ⟨gb399, 1, none⟩) (Kd.R_far (p := ⟨gb399, 0, none⟩) (Kd.R_types HO_44.out BK399.out (by decide)) (fun _ hk => hk.2) (.int .i64 t408)) (fun _ hk => hk.2) (.int .i64 t409)) (fun _ hk => hk.2) (.int .i64 t410)) (fun _ hk => hk.2) (.bool t411)) (fun _ hk => hk.2) (.int .i64 t412)) (fun _ h_ => h_.1))) hb); have n2_ := Aside0.mk (blk_below (g := gb379) (o := .cells #[.int .i64 a1_0, .int .i64 a1_1] 24 (0, 0)) (by refine blk_far ?_ NB379_399.out _; refine blk_far ?_ NB379_399.out _; refine blk_far ?_ NB379_399.out _; refine blk_far ?_ NB379_399.out _; refine blk_far ?_ NB379_399.out _; exact BK379.out) hb); have n3_ := Aside0.mk (blk_below (g := gb388) (o := .cells #[.int .i64 ((rd_T24 y384 x37_1).f0), .int .i64 ((rd_T24 y384 x37_1).f1)] 24 (0, 0)) (by refine blk_far ?_ NB388_399.out _; refine blk_far ?_ NB388_399.out _; refine blk_far ?_ NB388_399.out _; refine blk_far ?_ NB388_399.out _; refine blk_far ?_ NB388_399.out _; exact BK388.out) hb); have n4_ := Aside0.mk (blk_below (g := gb399) (o := .cells #[.int .i64 t408, .int .i64 t409, .int .i64 t410, .bool t411, .int .i64 t412] 33 (0, 0)) (by refine blk_put (cs := #[.int .i64 t408, .int .i64 t409, .int .i64 t410, .bool t411, .int .i64 t397]) ?_ 4 _ rfl; refine blk_put (cs := #[.int .i64 t408, .int .i64 t409, .int .i64 t410, .bool t396, .int .i64 t397]) ?_ 3 _ rfl; refine blk_put (cs := #[.int .i64 t408, .int .i64 t409, .int .i64 t395, .bool t396, .int .i64 t397]) ?_ 2 _ rfl; refine blk_put (cs := #[.int .i64 t408, .int .i64 t394, .int .i64 t395, .bool t396, .int .i64 t397]) ?_ 1 _ rfl; refine blk_put (cs := #[.int .i64 t393, .int .i64 t394, .int .i64 t395, .bool t396, .int .i64 t397]) ?_ 0 _ rfl; exact BK399.out) hb); have n5_ := Aside0.mk (blk_below (g := gb406) (o := .cells #[.int .i64 t400, .int .i64 t401, .int .i64 t402, .bool t403, .int .i64 t404] 33 (0, 0)) (by refine blk_far ?_ NB406_399.out _; refine blk_far ?_ NB406_399.out _; refine blk_far ?_ NB406_399.out _; refine blk_far ?_ NB406_399.out _; refine blk_far ?_ NB406_399.out _; exact BK406.out) hb); have n6_ := Aside0.mk (below_step (by repeat (first | (with_reducible first | exact HB.out | apply below_alloc | apply pw_below_drewN | apply below_drew1 | refine below_set ?_ GE379.out | refine below_set ?_ GE388.out | refine below_set ?_ GE399.out | refine below_set ?_ GE406.out) | exact HB.out)) hb); clear HO_35; clear HO_44; clear BK379; clear BK388; clear BK399; clear BK406; clear HB; have HO_35 := n0_; have HO_44 := n1_; have BK379 := n2_; have BK388 := n3_; have BK399 := n4_; have BK406 := n5_; have HB := n6_; clear n0_ n1_ n2_ n3_ n4_ n5_ n6_; (try clear hb); (try clear hb2); (try clear hk); (try clear hi); have hcz68_0 : w67.cell? ⟨gb406, 0, none⟩ = some (.int .i64 t400) := (blk_cell BK406.out 0).trans rfl; have hcz68_1 : w67.cell? ⟨gb406, 1, none⟩ = some (.int .i64 t401) := (blk_cell BK406.out 1).trans rfl; have hcz68_2 : w67.cell? ⟨gb406, 2, none⟩ = some (.int .i64 t402) := (blk_cell BK406.out 2).trans rfl; have hcz68_3 : w67.cell? ⟨gb406, 3, none⟩ = some (.bool t403) := (blk_cell BK406.out 3).trans rfl; have hcz68_4 : w67.cell? ⟨gb406, 4, none⟩ = some (.int .i64 t404) := (blk_cell BK406.out 4).trans rfl; have hfz68_0 := blk_frozen BK406.out 0; have hfz68_1 := blk_frozen BK406.out 1; have hfz68_2 := blk_frozen BK406.out 2; have hfz68_3 := blk_frozen BK406.out 3; have hfz68_4 := blk_frozen BK406.out 4; have hcz69_0 : w67.cell? ⟨gb399, 0, none⟩ = some (.int .i64 t408) := (blk_cell BK399.out 0).trans rfl; have hcz69_1 : w67.cell? ⟨gb399, 1, none⟩ = some (.int .i64 t409) := (blk_cell BK399.out 1).trans rfl; have hcz69_2 : w67.cell? ⟨gb399, 2, none⟩ = some (.int .i64 t410) := (blk_cell BK399.out 2).trans rfl; have hcz69_3 : w67.cell? ⟨gb399, 3, none⟩ = some (.bool t411) := (blk_cell BK399.out 3).trans rfl; have hcz69_4 : w67.cell? ⟨gb399, 4, none⟩ = some (.int .i64 t412) := (blk_cell BK399.out 4).trans rfl; have hfz69_0 := blk_frozen BK399.out 0; have hfz69_1 := blk_frozen BK399.out 1; have hfz69_2 := blk_frozen BK399.out 2; have hfz69_3 := blk_frozen BK399.out 3; have hfz69_4 := blk_frozen BK399.out 4) | ((with_reducible refine gate_callee (f := 14) rfl ?_); refine goesL_ (some 90) rfl rfl Try.func14 (by kernel_rfl) rfl #[.agg #[.int .i64 t408, .int .i64 t409, .int .i64 t410, .bool t411, .int .i64 t412], .bool t413, .agg #[.int .i64 t414, .int .i64 t415, .int .i64 t416, .bool t417, .int .i64 t418], .bool t419] rfl (by (try simp only [List.map_toArray, List.map_cons, List.map_nil]); first | done | rfl | (simp only [List.length_drop, List.length_take]; rfl)) ?_; (with_reducible refine (foolscaplaw7_same.calls t408 t409 t410 t411 t412 t413 t414 t415 t416 t417 t418 t419 true _ A37.out).mono ?_); rintro e w70 ⟨rfl, hb⟩; refine ⟨_, rfl, ?_⟩; have n0_ := Aside0.mk (Kd.R_below (by (with_reducible repeat (first | apply Kd.R_alloc | apply Kd.R_drewN | apply Kd.R_drew)); exact (Kd.R_mono (Kd.R_far (p := ⟨gb406, 4, none⟩) (Kd.R_far (p := ⟨gb406, 3, none⟩) (Kd.R_far (p := ⟨gb406, 2, none⟩) (Kd.R_far (p := ⟨gb406, 1, none⟩) (Kd.R_far (p := ⟨gb406, 0, none⟩) (Kd.R_types HO_35.out BK406.out (by decide)) (fun _ hk => hk.2) (.int .i64 t414)) (fun _ hk => hk.2) (.int .i64 t415)) (fun _ hk => hk.2) (.int .i64 t416)) (fun _ hk => hk.2) (.bool t417)) (fun _ hk => hk.2) (.int .i64 t418)) (fun _ h_ => h_.1))) hb); have n1_ := Aside0.mk (Kd.R_below (by (with_reducible repeat (first | apply Kd.R_alloc | apply Kd.R_drewN | apply Kd.R_drew)); exact (Kd.R_mono (Kd.R_far (p := ⟨gb406, 4, none⟩) (Kd.R_far (p := ⟨gb406, 3, none⟩) (Kd.R_far (p := ⟨gb406, 2, none⟩) (Kd.R_far (p := ⟨gb406, 1, none⟩) (Kd.R_far (p := ⟨gb406, 0, none⟩) (Kd.R_types HO_44.out BK406.out (by decide)) (fun _ hk => hk.2) (.int .i64 t414)) (fun _ hk => hk.2) (.int .i64 t415)) (fun _ hk => hk.2) (.int .i64 t416)) (fun _ hk => hk.2) (.bool t417)) (fun _ hk => hk.2) (.int .i64 t418)) (fun _ h_ => h_.1))) hb); have n2_ := Aside0.mk (blk_below (g := gb379) (o := .cells #[.int .i64 a1_0, .int .i64 a1_1] 24 (0, 0)) (by refine blk_far ?_ NB379_406.out _; refine blk_far ?_ NB379_406.out _; refine blk_far ?_ NB379_406.out _; refine blk_far ?_ NB379_406.out _; refine blk_far ?_ NB379_406.out _; exact BK379.out) hb); have n3_ := Aside0.mk (blk_below (g := gb388) (o := .cells #[.int .i64 ((rd_T24 y384 x37_1).f0), .int .i64 ((rd_T24 y384 x37_1).f1)] 24 (0, 0)) (by refine blk_far ?_ NB388_406.out _; refine blk_far ?_ NB388_406.out _; refine blk_far ?_ NB388_406.out _; refine blk_far ?_ NB388_406.out _; refine blk_far ?_ NB388_406.out _; exact BK388.out) hb); have n4_ := Aside0.mk (blk_below (g := gb399) (o := .cells #[.int .i64 t408, .int .i64 t409, .int .i64 t410, .bool t411, .int .i64 t412] 33 (0, 0)) (by refine blk_far ?_ NB399_406.out _; refine blk_far ?_ NB399_406.out _; refine blk_far ?_ NB399_406.out _; refine blk_far ?_ NB399_406.out _; refine blk_far ?_ NB399_406.out _; exact BK399.out) hb); have n5_ := Aside0.mk (blk_below (g := gb406) (o := .cells #[.int .i64 t414, .int .i64 t415, .int .i64 t416, .bool t417, .int .i64 t418] 33 (0, 0)) (by refine blk_put (cs := #[.int .i64 t414, .int .i64 t415, .int .i64 t416, .bool t417, .int .i64 t404]) ?_ 4 _ rfl; refine blk_put (cs := #[.int .i64 t414, .int .i64 t415, .int .i64 t416, .bool t403, .int .i64 t404]) ?_ 3 _ rfl; refine blk_put (cs := #[.int .i64 t414, .int .i64 t415, .int .i64 t402, .bool t403, .int .i64 t404]) ?_ 2 _ rfl; refine blk_put (cs := #[.int .i64 t414, .int .i64 t401, .int .i64 t402, .bool t403, .int .i64 t404]) ?_ 1 _ rfl; refine blk_put (cs := #[.int .i64 t400, .int .i64 t401, .int .i64 t402, .bool t403, .int .i64 t404]) ?_ 0 _ rfl; exact BK406.out) hb); have n6_ := Aside0.mk (below_step (by repeat (first | (with_reducible first | exact HB.out | apply below_alloc | apply pw_below_drewN | apply below_drew1 | refine below_set ?_ GE379.out | refine below_set ?_ GE388.out | refine below_set ?_ GE399.out | refine below_set ?_ GE406.out) | exact HB.out)) hb); clear HO_35; clear HO_44; clear BK379; clear BK388; clear BK399; clear BK406; clear HB; have HO_35 := n0_; have HO_44 := n1_; have BK379 := n2_; have BK388 := n3_; have BK399 := n4_; have BK406 := n5_; have HB := n6_; clear n0_ n1_ n2_ n3_ n4_ n5_ n6_; (try clear hb); (try clear hb2); (try clear hk); (try clear hi); have hcz71_0 : w70.cell? ⟨gb388, 0, none⟩ = some (.int .i64 ((rd_T24 y384 x37_1).f0)) := (blk_cell BK388.out 0).trans rfl; have hcz71_1 : w70.cell? ⟨gb388, 1, none⟩ = some (.int .i64 ((rd_T24 y384 x37_1).f1)) := (blk_cell BK388.out 1).trans rfl; have hfz71_0 := blk_frozen BK388.out 0; have hfz71_1 := blk_frozen BK388.out 1) | ((with_reducible refine gate_callee (f := 19) rfl ?_); refine goesL_ (some 96) rfl rfl Try.func19 (by kernel_rfl) rfl #[.slice A0 l0.length c0, .agg #[.int .i64 ((rd_T24 y384 x37_1).f0), .int .i64 ((rd_T24 y384 x37_1).f1)], .int .i64 (rd y389 x46_2)] rfl (by (try simp only [List.map_toArray, List.map_cons, List.map_nil]); first | done | rfl | (simp only [List.length_drop, List.length_take]; rfl)) ?_; (with_reducible refine (chars_Last.calls _ _ l0 ((rd_T24 y384 x37_1).f0) ((rd_T24 y384 x37_1).f1) (rd y389 x46_2) t421 t422 t423 t424 t425 t426 _ ?side1 ?side2 A39.out).mono ?_); (case side1 => repeat (first | exact (Kd.C_below HR0.out HB.out) | (with_reducible refine Kd.C_alloc ?_ _) | (with_reducible refine Kd.C_drewN ?_ _) | (with_reducible refine Kd.C_drew ?_))); (case side2 => exact HC0.out); rintro e w72 ⟨rfl, hb⟩; refine ⟨_, rfl, ?_⟩; have n0_ := Aside0.mk (Kd.R_below (by (with_reducible repeat (first | apply Kd.R_alloc | apply Kd.R_drewN | apply Kd.R_drew)); exact HO_35.out) hb); have n1_ := Aside0.mk (Kd.R_below (by (with_reducible repeat (first | apply Kd.R_alloc | apply Kd.R_drewN | apply Kd.R_drew)); exact HO_44.out) hb); have n2_ := Aside0.mk (blk_below (g := gb379) (o := .cells #[.int .i64 a1_0, .int .i64 a1_1] 24 (0, 0)) (by exact BK379.out) hb); have n3_ := Aside0.mk (blk_below (g := gb388) (o := .cells #[.int .i64 ((rd_T24 y384 x37_1).f0), .int .i64 ((rd_T24 y384 x37_1).f1)] 24 (0, 0)) (by exact BK388.out) hb); have n4_ := Aside0.mk (blk_below (g := gb399) (o := .cells #[.int .i64 t408, .int .i64 t409, .int .i64 t410, .bool t411, .int .i64 t412] 33 (0, 0)) (by exact BK399.out) hb); have n5_ := Aside0.mk (blk_below (g := gb406) (o := .cells #[.int .i64 t414, .int .i64 t415, .int .i64 t416, .bool t417, .int .i64 t418] 33 (0, 0)) (by exact BK406.out) hb); have n6_ := Aside0.mk (below_step (by repeat (first | (with_reducible first | exact HB.out | apply below_alloc | apply pw_below_drewN | apply below_drew1 | refine below_set ?_ GE379.out | refine below_set ?_ GE388.out | refine below_set ?_ GE399.out | refine below_set ?_ GE406.out) | exact HB.out)) hb); clear HO_35; clear HO_44; clear BK379; clear BK388; clear BK399; clear BK406; clear HB; have HO_35 := n0_; have HO_44 := n1_; have BK379 := n2_; have BK388 := n3_; have BK399 := n4_; have BK406 := n5_; have HB := n6_; clear n0_ n1_ n2_ n3_ n4_ n5_ n6_; (try clear hb); (try clear hb2); (try clear hk); (try clear hi); have hcz73_0 : w72.cell? ⟨gb399, 0, none⟩ = some (.int .i64 t408) := (blk_cell BK399.out 0).trans rfl; have hcz73_1 : w72.cell? ⟨gb399, 1, none⟩ = some (.int .i64 t409) := (blk_cell BK399.out 1).trans rfl; have hcz73_2 : w72.cell? ⟨gb399, 2, none⟩ = some (.int .i64 t410) := (blk_cell BK399.out 2).trans rfl; have hcz73_3 : w72.cell? ⟨gb399, 3, none⟩ = some (.bool t411) := (blk_cell BK399.out 3).trans rfl; have hcz73_4 : w72.cell? ⟨gb399, 4, none⟩ = some (.int .i64 t412) := (blk_cell BK399.out 4).trans rfl; have hfz73_0 := blk_frozen BK399.out 0; have hfz73_1 := blk_frozen BK399.out 1; have hfz73_2 := blk_frozen BK399.out 2; have hfz73_3 := blk_frozen BK399.out 3; have hfz73_4 := blk_frozen BK399.out 4; have hcz74_0 : w72.cell? ⟨gb388, 0, none⟩ = some (.int .i64 ((rd_T24 y384 x37_1).f0)) := (blk_cell BK388.out 0).trans rfl; have hcz74_1 : w72.cell? ⟨gb388, 1, none⟩ = some (.int .i64 ((rd_T24 y384 x37_1).f1)) := (blk_cell BK388.out 1).trans rfl; have hfz74_0 := blk_frozen BK388.out 0; have hfz74_1 := blk_frozen BK388.out 1) | ((with_reducible refine gate_callee (f := 20) rfl ?_); refine goesL_ (some 103) rfl rfl Try.func20 (by kernel_rfl) rfl #[.slice A0 l0.length c0, .agg #[.int .i64 ((rd_T24 y384 x37_1).f0), .int .i64 ((rd_T24 y384 x37_1).f1)], .int .i64 (rd y389 x46_2)] rfl (by (try simp only [List.map_toArray, List.map_cons, List.map_nil]); first | done | rfl | (simp only [List.length_drop, List.length_take]; rfl)) ?_; (with_reducible refine (foolscapref5_Last.calls k2 _ _ l0 ((rd_T24 y384 x37_1).f0) ((rd_T24 y384 x37_1).f1) (rd y389 x46_2) t427 t428 t429 t430 t431 t432 _ ?side1 ?side2 A40.out).mono ?_); (case side1 => exact Kd.C_below HR0.out (by repeat (first | (with_reducible first | exact HB.out | apply below_alloc | apply pw_below_drewN | apply below_drew1 | refine below_set ?_ GE379.out | refine below_set ?_ GE388.out | refine below_set ?_ GE399.out | refine below_set ?_ GE406.out) | exact HB.out))); (case side2 => exact HC0.out); rintro e w75 ⟨rfl, hb⟩; refine ⟨_, rfl, ?_⟩; have n0_ := Aside0.mk (Kd.R_below (by (with_reducible repeat (first | apply Kd.R_alloc | apply Kd.R_drewN | apply Kd.R_drew)); exact (Kd.R_mono (Kd.R_far (p := ⟨gb399, 4, none⟩) (Kd.R_far (p := ⟨gb399, 3, none⟩) (Kd.R_far (p := ⟨gb399, 2, none⟩) (Kd.R_far (p := ⟨gb399, 1, none⟩) (Kd.R_far (p := ⟨gb399, 0, none⟩) (Kd.R_types HO_35.out BK399.out (by decide)) (fun _ hk => hk.2) (.int .i64 t421)) (fun _ hk => hk.2) (.int .i64 t422)) (fun _ hk => hk.2) (.int .i64 t423)) (fun _ hk => hk.2) (.bool t424)) (fun _ hk => hk.2) (.int .i64 t425)) (fun _ h_ => h_.1))) hb); have n1_ := Aside0.mk (Kd.R_below (by (with_reducible repeat (first | apply Kd.R_alloc | apply Kd.R_drewN | apply Kd.R_drew)); exact (Kd.R_mono (Kd.R_far (p := ⟨gb399, 4, none⟩) (Kd.R_far (p := ⟨gb399, 3, none⟩) (Kd.R_far (p := ⟨gb399, 2, none⟩) (Kd.R_far (p := ⟨gb399, 1, none⟩) (Kd.R_far (p := ⟨gb399, 0, none⟩) (Kd.R_types HO_44.out BK399.out (by decide)) (fun _ hk => hk.2) (.int .i64 t421)) (fun _ hk => hk.2) (.int .i64 t422)) (fun _ hk => hk.2) (.int .i64 t423)) (fun _ hk => hk.2) (.bool t424)) (fun _ hk => hk.2) (.int .i64 t425)) (fun _ h_ => h_.1))) hb); have n2_ := Aside0.mk (blk_below (g := gb379) (o := .cells #[.int .i64 a1_0, .int .i64 a1_1] 24 (0, 0)) (by refine blk_far ?_ NB379_399.out _; refine blk_far ?_ NB379_399.out _; refine blk_far ?_ NB379_399.out _; refine blk_far ?_ NB379_399.out _; refine blk_far ?_ NB379_399.out _; exact BK379.out) hb); have n3_ := Aside0.mk (blk_below (g := gb388) (o := .cells #[.int .i64 ((rd_T24 y384 x37_1).f0), .int .i64 ((rd_T24 y384 x37_1).f1)] 24 (0, 0)) (by refine blk_far ?_ NB388_399.out _; refine blk_far ?_ NB388_399.out _; refine blk_far ?_ NB388_399.out _; refine blk_far ?_ NB388_399.out _; refine blk_far ?_ NB388_399.out _; exact BK388.out) hb); have n4_ := Aside0.mk (blk_below (g := gb399) (o := .cells #[.int .i64 t421, .int .i64 t422, .int .i64 t423, .bool t424, .int .i64 t425] 33 (0, 0)) (by refine blk_put (cs := #[.int .i64 t421, .int .i64 t422, .int .i64 t423, .bool t424, .int .i64 t412]) ?_ 4 _ rfl; refine blk_put (cs := #[.int .i64 t421, .int .i64 t422, .int .i64 t423, .bool t411, .int .i64 t412]) ?_ 3 _ rfl; refine blk_put (cs := #[.int .i64 t421, .int .i64 t422, .int .i64 t410, .bool t411, .int .i64 t412]) ?_ 2 _ rfl; refine blk_put (cs := #[.int .i64 t421, .int .i64 t409, .int .i64 t410, .bool t411, .int .i64 t412]) ?_ 1 _ rfl; refine blk_put (cs := #[.int .i64 t408, .int .i64 t409, .int .i64 t410, .bool t411, .int .i64 t412]) ?_ 0 _ rfl; exact BK399.out) hb); have n5_ := Aside0.mk (blk_below (g := gb406) (o := .cells #[.int .i64 t414, .int .i64 t415, .int .i64 t416, .bool t417, .int .i64 t418] 33 (0, 0)) (by refine blk_far ?_ NB406_399.out _; refine blk_far ?_ NB406_399.out _; refine blk_far ?_ NB406_399.out _; refine blk_far ?_ NB406_399.out _; refine blk_far ?_ NB406_399.out _; exact BK406.out) hb); have n6_ := Aside0.mk (below_step (by repeat (first | (with_reducible first | exact HB.out | apply below_alloc | apply pw_below_drewN | apply below_drew1 | refine below_set ?_ GE379.out | refine below_set ?_ GE388.out | refine below_set ?_ GE399.out | refine below_set ?_ GE406.out) | exact HB.out)) hb); clear HO_35; clear HO_44; clear BK379; clear BK388; clear BK399; clear BK406; clear HB; have HO_35 := n0_; have HO_44 := n1_; have BK379 := n2_; have BK388 := n3_; have BK399 := n4_; have BK406 := n5_; have HB := n6_; clear n0_ n1_ n2_ n3_ n4_ n5_ n6_; (try clear hb); (try clear hb2); (try clear hk); (try clear hi); have hcz76_0 : w75.cell? ⟨gb406, 0, none⟩ = some (.int .i64 t414) := (blk_cell BK406.out 0).trans rfl; have hcz76_1 : w75.cell? ⟨gb406, 1, none⟩ = some (.int .i64 t415) := (blk_cell BK406.out 1).trans rfl; have hcz76_2 : w75.cell? ⟨gb406, 2, none⟩ = some (.int .i64 t416) := (blk_cell BK406.out 2).trans rfl; have hcz76_3 : w75.cell? ⟨gb406, 3, none⟩ = some (.bool t417) := (blk_cell BK406.out 3).trans rfl; have hcz76_4 : w75.cell? ⟨gb406, 4, none⟩ = some (.int .i64 t418) := (blk_cell BK406.out 4).trans rfl; have hfz76_0 := blk_frozen BK406.out 0; have hfz76_1 := blk_frozen BK406.out 1; have hfz76_2 := blk_frozen BK406.out 2; have hfz76_3 := blk_frozen BK406.out 3; have hfz76_4 := blk_frozen BK406.out 4; have hcz77_0 : w75.cell? ⟨gb399, 0, none⟩ = some (.int .i64 t421) := (blk_cell BK399.out 0).trans rfl; have hcz77_1 : w75.cell? ⟨gb399, 1, none⟩ = some (.int .i64 t422) := (blk_cell BK399.out 1).trans rfl; have hcz77_2 : w75.cell? ⟨gb399, 2, none⟩ = some (.int .i64 t423) := (blk_cell BK399.out 2).trans rfl; have hcz77_3 : w75.cell? ⟨gb399, 3, none⟩ = some (.bool t424) := (blk_cell BK399.out 3).trans rfl; have hcz77_4 : w75.cell? ⟨gb399, 4, none⟩ = some (.int .i64 t425) := (blk_cell BK399.out 4).trans rfl; have hfz77_0 := blk_frozen BK399.out 0; have hfz77_1 := blk_frozen BK399.out 1; have hfz77_2 := blk_frozen BK399.out 2; have hfz77_3 := blk_frozen BK399.out 3; have hfz77_4 := blk_frozen BK399.out 4) | ((with_reducible refine gate_callee (f := 14) rfl ?_); refine goesL_ (some 110) rfl rfl Try.func14 (by kernel_rfl) rfl #[.agg #[.int .i64 t421, .int .i64 t422, .int .i64 t423, .bool t424, .int .i64 t425], .bool t426, .agg #[.int .i64 t427, .int .i64 t428, .int .i64 t429, .bool t430, .int .i64 t431], .bool t432] rfl (by (try simp only [List.map_toArray, List.map_cons, List.map_nil]); first | done | rfl | (simp only [List.length_drop, List.length_take]; rfl)) ?_; (with_reducible refine (foolscaplaw7_same.calls t421 t422 t423 t424 t425 t426 t427 t428 t429 t430 t431 t432 true _ A41.out).mono ?_); rintro e w78 ⟨rfl, hb⟩; refine ⟨_, rfl, ?_⟩; have n0_ := Aside0.mk (Kd.R_below (by (with_reducible repeat (first | apply Kd.R_alloc | apply Kd.R_drewN | apply Kd.R_drew)); exact (Kd.R_mono (Kd.R_far (p := ⟨gb406, 4, none⟩) (Kd.R_far (p := ⟨gb406, 3, none⟩) (Kd.R_far (p := ⟨gb406, 2, none⟩) (Kd.R_far (p := ⟨gb406, 1, none⟩) (Kd.R_far (p := ⟨gb406, 0, none⟩) (Kd.R_types HO_35.out BK406.out (by decide)) (fun _ hk => hk.2) (.int .i64 t427)) (fun _ hk => hk.2) (.int .i64 t428)) (fun _ hk => hk.2) (.int .i64 t429)) (fun _ hk => hk.2) (.bool t430)) (fun _ hk => hk.2) (.int .i64 t431)) (fun _ h_ => h_.1))) hb); have n1_ := Aside0.mk (Kd.R_below (by (with_reducible repeat (first | apply Kd.R_alloc | apply Kd.R_drewN | apply Kd.R_drew)); exact (Kd.R_mono (Kd.R_far (p := ⟨gb406, 4, none⟩) (Kd.R_far (p := ⟨gb406, 3, none⟩) (Kd.R_far (p := ⟨gb406, 2, none⟩) (Kd.R_far (p := ⟨gb406, 1, none⟩) (Kd.R_far (p := ⟨gb406, 0, none⟩) (Kd.R_types HO_44.out BK406.out (by decide)) (fun _ hk => hk.2) (.int .i64 t427)) (fun _ hk => hk.2) (.int .i64 t428)) (fun _ hk => hk.2) (.int .i64 t429)) (fun _ hk => hk.2) (.bool t430)) (fun _ hk => hk.2) (.int .i64 t431)) (fun _ h_ => h_.1))) hb); have n2_ := Aside0.mk (blk_below (g := gb379) (o := .cells #[.int .i64 a1_0, .int .i64 a1_1] 24 (0, 0)) (by refine blk_far ?_ NB379_406.out _; refine blk_far ?_ NB379_406.out _; refine blk_far ?_ NB379_406.out _; refine blk_far ?_ NB379_406.out _; refine blk_far ?_ NB379_406.out _; exact BK379.out) hb); have n3_ := Aside0.mk (blk_below (g := gb388) (o := .cells #[.int .i64 ((rd_T24 y384 x37_1).f0), .int .i64 ((rd_T24 y384 x37_1).f1)] 24 (0, 0)) (by refine blk_far ?_ NB388_406.out _; refine blk_far ?_ NB388_406.out _; refine blk_far ?_ NB388_406.out _; refine blk_far ?_ NB388_406.out _; refine blk_far ?_ NB388_406.out _; exact BK388.out) hb); have n4_ := Aside0.mk (blk_below (g := gb399) (o := .cells #[.int .i64 t421, .int .i64 t422, .int .i64 t423, .bool t424, .int .i64 t425] 33 (0, 0)) (by refine blk_far ?_ NB399_406.out _; refine blk_far ?_ NB399_406.out _; refine blk_far ?_ NB399_406.out _; refine blk_far ?_ NB399_406.out _; refine blk_far ?_ NB399_406.out _; exact BK399.out) hb); have n5_ := Aside0.mk (blk_below (g := gb406) (o := .cells #[.int .i64 t427, .int .i64 t428, .int .i64 t429, .bool t430, .int .i64 t431] 33 (0, 0)) (by refine blk_put (cs := #[.int .i64 t427, .int .i64 t428, .int .i64 t429, .bool t430, .int .i64 t418]) ?_ 4 _ rfl; refine blk_put (cs := #[.int .i64 t427, .int .i64 t428, .int .i64 t429, .bool t417, .int .i64 t418]) ?_ 3 _ rfl; refine blk_put (cs := #[.int .i64 t427, .int .i64 t428, .int .i64 t416, .bool t417, .int .i64 t418]) ?_ 2 _ rfl; refine blk_put (cs := #[.int .i64 t427, .int .i64 t415, .int .i64 t416, .bool t417, .int .i64 t418]) ?_ 1 _ rfl; refine blk_put (cs := #[.int .i64 t414, .int .i64 t415, .int .i64 t416, .bool t417, .int .i64 t418]) ?_ 0 _ rfl; exact BK406.out) hb); have n6_ := Aside0.mk (below_step (by repeat (first | (with_reducible first | exact HB.out | apply below_alloc | apply pw_below_drewN | apply below_drew1 | refine below_set ?_ GE379.out | refine below_set ?_ GE388.out | refine below_set ?_ GE399.out | refine below_set ?_ GE406.out) | exact HB.out)) hb); clear HO_35; clear HO_44; clear BK379; clear BK388; clear BK399; clear BK406; clear HB; have HO_35 := n0_; have HO_44 := n1_; have BK379 := n2_; have BK388 := n3_; have BK399 := n4_; have BK406 := n5_; have HB := n6_; clear n0_ n1_ n2_ n3_ n4_ n5_ n6_; (try clear hb); (try clear hb2); (try clear hk); (try clear hi); have hcz79_0 : w78.cell? ⟨gb388, 0, none⟩ = some (.int .i64 ((rd_T24 y384 x37_1).f0)) := (blk_cell BK388.out 0).trans rfl; have hcz79_1 : w78.cell? ⟨gb388, 1, none⟩ = some (.int .i64 ((rd_T24 y384 x37_1).f1)) := (blk_cell BK388.out 1).trans rfl; have hfz79_0 := blk_frozen BK388.out 0; have hfz79_1 := blk_frozen BK388.out 1) | ((with_reducible refine gate_callee (f := 21) rfl ?_); refine goesL_ (some 116) rfl rfl Try.func21 (by kernel_rfl) rfl #[.slice A0 l0.length c0, .agg #[.int .i64 ((rd_T24 y384 x37_1).f0), .int .i64 ((rd_T24 y384 x37_1).f1)], .int .i64 (rd y389 x46_2)] rfl (by (try simp only [List.map_toArray, List.map_cons, List.map_nil]); first | done | rfl | (simp only [List.length_drop, List.length_take]; rfl)) ?_; (with_reducible refine (chars_Column.calls _ _ l0 ((rd_T24 y384 x37_1).f0) ((rd_T24 y384 x37_1).f1) (rd y389 x46_2) t434 t435 t436 t437 t438 t439 _ ?side1 ?side2 A43.out).mono ?_); (case side1 => repeat (first | exact (Kd.C_below HR0.out HB.out) | (with_reducible refine Kd.C_alloc ?_ _) | (with_reducible refine Kd.C_drewN ?_ _) | (with_reducible refine Kd.C_drew ?_))); (case side2 => exact HC0.out); rintro e w80 ⟨rfl, hb⟩; refine ⟨_, rfl, ?_⟩; have n0_ := Aside0.mk (Kd.R_below (by (with_reducible repeat (first | apply Kd.R_alloc | apply Kd.R_drewN | apply Kd.R_drew)); exact HO_35.out) hb); have n1_ := Aside0.mk (Kd.R_below (by (with_reducible repeat (first | apply Kd.R_alloc | apply Kd.R_drewN | apply Kd.R_drew)); exact HO_44.out) hb); have n2_ := Aside0.mk (blk_below (g := gb379) (o := .cells #[.int .i64 a1_0, .int .i64 a1_1] 24 (0, 0)) (by exact BK379.out) hb); have n3_ := Aside0.mk (blk_below (g := gb388) (o := .cells #[.int .i64 ((rd_T24 y384 x37_1).f0), .int .i64 ((rd_T24 y384 x37_1).f1)] 24 (0, 0)) (by exact BK388.out) hb); have n4_ := Aside0.mk (blk_below (g := gb399) (o := .cells #[.int .i64 t421, .int .i64 t422, .int .i64 t423, .bool t424, .int .i64 t425] 33 (0, 0)) (by exact BK399.out) hb); have n5_ := Aside0.mk (blk_below (g := gb406) (o := .cells #[.int .i64 t427, .int .i64 t428, .int .i64 t429, .bool t430, .int .i64 t431] 33 (0, 0)) (by exact BK406.out) hb); have n6_ := Aside0.mk (below_step (by repeat (first | (with_reducible first | exact HB.out | apply below_alloc | apply pw_below_drewN | apply below_drew1 | refine below_set ?_ GE379.out | refine below_set ?_ GE388.out | refine below_set ?_ GE399.out | refine below_set ?_ GE406.out) | exact HB.out)) hb); clear HO_35; clear HO_44; clear BK379; clear BK388; clear BK399; clear BK406; clear HB; have HO_35 := n0_; have HO_44 := n1_; have BK379 := n2_; have BK388 := n3_; have BK399 := n4_; have BK406 := n5_; have HB := n6_; clear n0_ n1_ n2_ n3_ n4_ n5_ n6_; (try clear hb); (try clear hb2); (try clear hk); (try clear hi); have hcz81_0 : w80.cell? ⟨gb399, 0, none⟩ = some (.int .i64 t421) := (blk_cell BK399.out 0).trans rfl; have hcz81_1 : w80.cell? ⟨gb399, 1, none⟩ = some (.int .i64 t422) := (blk_cell BK399.out 1).trans rfl; have hcz81_2 : w80.cell? ⟨gb399, 2, none⟩ = some (.int .i64 t423) := (blk_cell BK399.out 2).trans rfl; have hcz81_3 : w80.cell? ⟨gb399, 3, none⟩ = some (.bool t424) := (blk_cell BK399.out 3).trans rfl; have hcz81_4 : w80.cell? ⟨gb399, 4, none⟩ = some (.int .i64 t425) := (blk_cell BK399.out 4).trans rfl; have hfz81_0 := blk_frozen BK399.out 0; have hfz81_1 := blk_frozen BK399.out 1; have hfz81_2 := blk_frozen BK399.out 2; have hfz81_3 := blk_frozen BK399.out 3; have hfz81_4 := blk_frozen BK399.out 4; have hcz82_0 : w80.cell? ⟨gb388, 0, none⟩ = some (.int .i64 ((rd_T24 y384 x37_1).f0)) := (blk_cell BK388.out 0).trans rfl; have hcz82_1 : w80.cell? ⟨gb388, 1, none⟩ = some (.int .i64 ((rd_T24 y384 x37_1).f1)) := (blk_cell BK388.out 1).trans rfl; have hfz82_0 := blk_frozen BK388.out 0; have hfz82_1 := blk_frozen BK388.out 1) | ((with_reducible refine gate_callee (f := 22) rfl ?_); refine goesL_ (some 123) rfl rfl Try.func22 (by kernel_rfl) rfl #[.slice A0 l0.length c0, .agg #[.int .i64 ((rd_T24 y384 x37_1).f0), .int .i64 ((rd_T24 y384 x37_1).f1)], .int .i64 (rd y389 x46_2)] rfl (by (try simp only [List.map_toArray, List.map_cons, List.map_nil]); first | done | rfl | (simp only [List.length_drop, List.length_take]; rfl)) ?_; (with_reducible refine (foolscapref5_Column.calls _ _ l0 ((rd_T24 y384 x37_1).f0) ((rd_T24 y384 x37_1).f1) (rd y389 x46_2) t440 t441 t442 t443 t444 t445 _ ?side1 ?side2 A44.out).mono ?_); (case side1 => exact Kd.C_below HR0.out (by repeat (first | (with_reducible first | exact HB.out | apply below_alloc | apply pw_below_drewN | apply below_drew1 | refine below_set ?_ GE379.out | refine below_set ?_ GE388.out | refine below_set ?_ GE399.out | refine below_set ?_ GE406.out) | exact HB.out))); (case side2 => exact HC0.out); rintro e w83 ⟨rfl, hb⟩; refine ⟨_, rfl, ?_⟩; have n0_ := Aside0.mk (Kd.R_below (by (with_reducible repeat (first | apply Kd.R_alloc | apply Kd.R_drewN | apply Kd.R_drew)); exact (Kd.R_mono (Kd.R_far (p := ⟨gb399, 4, none⟩) (Kd.R_far (p := ⟨gb399, 3, none⟩) (Kd.R_far (p := ⟨gb399, 2, none⟩) (Kd.R_far (p := ⟨gb399, 1, none⟩) (Kd.R_far (p := ⟨gb399, 0, none⟩) (Kd.R_types HO_35.out BK399.out (by decide)) (fun _ hk => hk.2) (.int .i64 t434)) (fun _ hk => hk.2) (.int .i64 t435)) (fun _ hk => hk.2) (.int .i64 t436)) (fun _ hk => hk.2) (.bool t437)) (fun _ hk => hk.2) (.int .i64 t438)) (fun _ h_ => h_.1))) hb); have n1_ := Aside0.mk (Kd.R_below (by (with_reducible repeat (first | apply Kd.R_alloc | apply Kd.R_drewN | apply Kd.R_drew)); exact (Kd.R_mono (Kd.R_far (p := ⟨gb399, 4, none⟩) (Kd.R_far (p := ⟨gb399, 3, none⟩) (Kd.R_far (p := ⟨gb399, 2, none⟩) (Kd.R_far (p := ⟨gb399, 1, none⟩) (Kd.R_far (p := ⟨gb399, 0, none⟩) (Kd.R_types HO_44.out BK399.out (by decide)) (fun _ hk => hk.2) (.int .i64 t434)) (fun _ hk => hk.2) (.int .i64 t435)) (fun _ hk => hk.2) (.int .i64 t436)) (fun _ hk => hk.2) (.bool t437)) (fun _ hk => hk.2) (.int .i64 t438)) (fun _ h_ => h_.1))) hb); have n2_ := Aside0.mk (blk_below (g := gb379) (o := .cells #[.int .i64 a1_0, .int .i64 a1_1] 24 (0, 0)) (by refine blk_far ?_ NB379_399.out _; refine blk_far ?_ NB379_399.out _; refine blk_far ?_ NB379_399.out _; refine blk_far ?_ NB379_399.out _; refine blk_far ?_ NB379_399.out _; exact BK379.out) hb); have n3_ := Aside0.mk (blk_below (g := gb388) (o := .cells #[.int .i64 ((rd_T24 y384 x37_1).f0), .int .i64 ((rd_T24 y384 x37_1).f1)] 24 (0, 0)) (by refine blk_far ?_ NB388_399.out _; refine blk_far ?_ NB388_399.out _; refine blk_far ?_ NB388_399.out _; refine blk_far ?_ NB388_399.out _; refine blk_far ?_ NB388_399.out _; exact BK388.out) hb); have n4_ := Aside0.mk (blk_below (g := gb399) (o := .cells #[.int .i64 t434, .int .i64 t435, .int .i64 t436, .bool t437, .int .i64 t438] 33 (0, 0)) (by refine blk_put (cs := #[.int .i64 t434, .int .i64 t435, .int .i64 t436, .bool t437, .int .i64 t425]) ?_ 4 _ rfl; refine blk_put (cs := #[.int .i64 t434, .int .i64 t435, .int .i64 t436, .bool t424, .int .i64 t425]) ?_ 3 _ rfl; refine blk_put (cs := #[.int .i64 t434, .int .i64 t435, .int .i64 t423, .bool t424, .int .i64 t425]) ?_ 2 _ rfl; refine blk_put (cs := #[.int .i64 t434, .int .i64 t422, .int .i64 t423, .bool t424, .int .i64 t425]) ?_ 1 _ rfl; refine blk_put (cs := #[.int .i64 t421, .int .i64 t422, .int .i64 t423, .bool t424, .int .i64 t425]) ?_ 0 _ rfl; exact BK399.out) hb); have n5_ := Aside0.mk (blk_below (g := gb406) (o := .cells #[.int .i64 t427, .int .i64 t428, .int .i64 t429, .bool t430, .int .i64 t431] 33 (0, 0)) (by refine blk_far ?_ NB406_399.out _; refine blk_far ?_ NB406_399.out _; refine blk_far ?_ NB406_399.out _; refine blk_far ?_ NB406_399.out _; refine blk_far ?_ NB406_399.out _; exact BK406.out) hb); have n6_ := Aside0.mk (below_step (by repeat (first | (with_reducible first | exact HB.out | apply below_alloc | apply pw_below_drewN | apply below_drew1 | refine below_set ?_ GE379.out | refine below_set ?_ GE388.out | refine below_set ?_ GE399.out | refine below_set ?_ GE406.out) | exact HB.out)) hb); clear HO_35; clear HO_44; clear BK379; clear BK388; clear BK399; clear BK406; clear HB; have HO_35 := n0_; have HO_44 := n1_; have BK379 := n2_; have BK388 := n3_; have BK399 := n4_; have BK406 := n5_; have HB := n6_; clear n0_ n1_ n2_ n3_ n4_ n5_ n6_; (try clear hb); (try clear hb2); (try clear hk); (try clear hi); have hcz84_0 : w83.cell? ⟨gb406, 0, none⟩ = some (.int .i64 t427) := (blk_cell BK406.out 0).trans rfl; have hcz84_1 : w83.cell? ⟨gb406, 1, none⟩ = some (.int .i64 t428) := (blk_cell BK406.out 1).trans rfl; have hcz84_2 : w83.cell? ⟨gb406, 2, none⟩ = some (.int .i64 t429) := (blk_cell BK406.out 2).trans rfl; have hcz84_3 : w83.cell? ⟨gb406, 3, none⟩ = some (.bool t430) := (blk_cell BK406.out 3).trans rfl; have hcz84_4 : w83.cell? ⟨gb406, 4, none⟩ = some (.int .i64 t431) := (blk_cell BK406.out 4).trans rfl; have hfz84_0 := blk_frozen BK406.out 0; have hfz84_1 := blk_frozen BK406.out 1; have hfz84_2 := blk_frozen BK406.out 2; have hfz84_3 := blk_frozen BK406.out 3; have hfz84_4 := blk_frozen BK406.out 4; have hcz85_0 : w83.cell? ⟨gb399, 0, none⟩ = some (.int .i64 t434) := (blk_cell BK399.out 0).trans rfl; have hcz85_1 : w83.cell? ⟨gb399, 1, none⟩ = some (.int .i64 t435) := (blk_cell BK399.out 1).trans rfl; have hcz85_2 : w83.cell? ⟨gb399, 2, none⟩ = some (.int .i64 t436) := (blk_cell BK399.out 2).trans rfl; have hcz85_3 : w83.cell? ⟨gb399, 3, none⟩ = some (.bool t437) := (blk_cell BK399.out 3).trans rfl; have hcz85_4 : w83.cell? ⟨gb399, 4, none⟩ = some (.int .i64 t438) := (blk_cell BK399.out 4).trans rfl; have hfz85_0 := blk_frozen BK399.out 0; have hfz85_1 := blk_frozen BK399.out 1; have hfz85_2 := blk_frozen BK399.out 2; have hfz85_3 := blk_frozen BK399.out 3; have hfz85_4 := blk_frozen BK399.out 4) | ((with_reducible refine gate_callee (f := 14) rfl ?_); refine goesL_ (some 130) rfl rfl Try.func14 (by kernel_rfl) rfl #[.agg #[.int .i64 t434, .int .i64 t435, .int .i64 t436, .bool t437, .int .i64 t438], .bool t439, .agg #[.int .i64 t440, .int .i64 t441, .int .i64 t442, .bool t443, .int .i64 t444], .bool t445] rfl (by (try simp only [List.map_toArray, List.map_cons, List.map_nil]); first | done | rfl | (simp only [List.length_drop, List.length_take]; rfl)) ?_; (with_reducible refine (foolscaplaw7_same.calls t434 t435 t436 t437 t438 t439 t440 t441 t442 t443 t444 t445 true _ A45.out).mono ?_); rintro e w86 ⟨rfl, hb⟩; refine ⟨_, rfl, ?_⟩; have n0_ := Aside0.mk (Kd.R_below (by (with_reducible repeat (first | apply Kd.R_alloc | apply Kd.R_drewN | apply Kd.R_drew)); exact (Kd.R_mono (Kd.R_far (p := ⟨gb406, 4, none⟩) (Kd.R_far (p := ⟨gb406, 3, none⟩) (Kd.R_far (p := ⟨gb406, 2, none⟩) (Kd.R_far (p := ⟨gb406, 1, none⟩) (Kd.R_far (p := ⟨gb406, 0, none⟩) (Kd.R_types HO_35.out BK406.out (by decide)) (fun _ hk => hk.2) (.int .i64 t440)) (fun _ hk => hk.2) (.int .i64 t441)) (fun _ hk => hk.2) (.int .i64 t442)) (fun _ hk => hk.2) (.bool t443)) (fun _ hk => hk.2) (.int .i64 t444)) (fun _ h_ => h_.1))) hb); have n1_ := Aside0.mk (Kd.R_below (by (with_reducible repeat (first | apply Kd.R_alloc | apply Kd.R_drewN | apply Kd.R_drew)); exact (Kd.R_mono (Kd.R_far (p := ⟨gb406, 4, none⟩) (Kd.R_far (p := ⟨gb406, 3, none⟩) (Kd.R_far (p := ⟨gb406, 2, none⟩) (Kd.R_far (p := ⟨gb406, 1, none⟩) (Kd.R_far (p := ⟨gb406, 0, none⟩) (Kd.R_types HO_44.out BK406.out (by decide)) (fun _ hk => hk.2) (.int .i64 t440)) (fun _ hk => hk.2) (.int .i64 t441)) (fun _ hk => hk.2) (.int .i64 t442)) (fun _ hk => hk.2) (.bool t443)) (fun _ hk => hk.2) (.int .i64 t444)) (fun _ h_ => h_.1))) hb); have n2_ := Aside0.mk (blk_below (g := gb379) (o := .cells #[.int .i64 a1_0, .int .i64 a1_1] 24 (0, 0)) (by refine blk_far ?_ NB379_406.out _; refine blk_far ?_ NB379_406.out _; refine blk_far ?_ NB379_406.out _; refine blk_far ?_ NB379_406.out _; refine blk_far ?_ NB379_406.out _; exact BK379.out) hb); have n3_ := Aside0.mk (blk_below (g := gb388) (o := .cells #[.int .i64 ((rd_T24 y384 x37_1).f0), .int .i64 ((rd_T24 y384 x37_1).f1)] 24 (0, 0)) (by refine blk_far ?_ NB388_406.out _; refine blk_far ?_ NB388_406.out _; refine blk_far ?_ NB388_406.out _; refine blk_far ?_ NB388_406.out _; refine blk_far ?_ NB388_406.out _; exact BK388.out) hb); have n4_ := Aside0.mk (blk_below (g := gb399) (o := .cells #[.int .i64 t434, .int .i64 t435, .int .i64 t436, .bool t437, .int .i64 t438] 33 (0, 0)) (by refine blk_far ?_ NB399_406.out _; refine blk_far ?_ NB399_406.out _; refine blk_far ?_ NB399_406.out _; refine blk_far ?_ NB399_406.out _; refine blk_far ?_ NB399_406.out _; exact BK399.out) hb); have n5_ := Aside0.mk (blk_below (g := gb406) (o := .cells #[.int .i64 t440, .int .i64 t441, .int .i64 t442, .bool t443, .int .i64 t444] 33 (0, 0)) (by refine blk_put (cs := #[.int .i64 t440, .int .i64 t441, .int .i64 t442, .bool t443, .int .i64 t431]) ?_ 4 _ rfl; refine blk_put (cs := #[.int .i64 t440, .int .i64 t441, .int .i64 t442, .bool t430, .int .i64 t431]) ?_ 3 _ rfl; refine blk_put (cs := #[.int .i64 t440, .int .i64 t441, .int .i64 t429, .bool t430, .int .i64 t431]) ?_ 2 _ rfl; refine blk_put (cs := #[.int .i64 t440, .int .i64 t428, .int .i64 t429, .bool t430, .int .i64 t431]) ?_ 1 _ rfl; refine blk_put (cs := #[.int .i64 t427, .int .i64 t428, .int .i64 t429, .bool t430, .int .i64 t431]) ?_ 0 _ rfl; exact BK406.out) hb); have n6_ := Aside0.mk (below_step (by repeat (first | (with_reducible first | exact HB.out | apply below_alloc | apply pw_below_drewN | apply below_drew1 | refine below_set ?_ GE379.out | refine below_set ?_ GE388.out | refine below_set ?_ GE399.out | refine below_set ?_ GE406.out) | exact HB.out)) hb); clear HO_35; clear HO_44; clear BK379; clear BK388; clear BK399; clear BK406; clear HB; have HO_35 := n0_; have HO_44 := n1_; have BK379 := n2_; have BK388 := n3_; have BK399 := n4_; have BK406 := n5_; have HB := n6_; clear n0_ n1_ n2_ n3_ n4_ n5_ n6_; (try clear hb); (try clear hb2); (try clear hk); (try clear hi)))
                                  go_roundg k2
                                  case measure => have := HK1.out; have := HK2.out; omega
                                  case rel => exact ⟨(wrap64 (x46_2 + 1)), (by first | rfl | (simp; done) | (simp [*]; done)), H', ⟨by have := HK1.out; have := HK2.out; omega⟩, ⟨by (with_reducible repeat (first | apply Kd.R_alloc | apply Kd.R_drewN | apply Kd.R_drew)); exact HO_35.out⟩, ⟨by (with_reducible repeat (first | apply Kd.R_alloc | apply Kd.R_drewN | apply Kd.R_drew)); exact HO_44.out⟩, ⟨by exact BK379.out⟩, ⟨by exact BK388.out⟩, ⟨by repeat (first | (with_reducible first | exact HB.out | apply below_alloc | apply pw_below_drewN | apply below_drew1 | refine below_set ?_ GE379.out | refine below_set ?_ GE388.out | refine below_set ?_ GE399.out | refine below_set ?_ GE406.out) | exact HB.out)⟩⟩
                                · replace c46 := Bool.eq_false_iff.mpr c46
                                  subst c46
                                  have H1 : (some false) = some r := by rw [if_neg (show ¬ (false = true) by decide)] at H; exact H
                                  clear H
                                  have H := H1
                                  clear H1
                                  exact absurd ((Option.some.inj H).trans HT.out) (by decide)
                              · replace c42 := Bool.eq_false_iff.mpr c42
                                subst c42
                                have H1 : (some false) = some r := by rw [if_neg (show ¬ (false = true) by decide)] at H; exact H
                                clear H
                                have H := H1
                                clear H1
                                exact absurd ((Option.some.inj H).trans HT.out) (by decide)
                            · replace c38 := Bool.eq_false_iff.mpr c38
                              subst c38
                              have H1 : (some false) = some r := by rw [if_neg (show ¬ (false = true) by decide)] at H; exact H
                              clear H
                              have H := H1
                              clear H1
                              exact absurd ((Option.some.inj H).trans HT.out) (by decide)
                          · replace c34 := Bool.eq_false_iff.mpr c34
                            subst c34
                            have H1 : (some false) = some r := by rw [if_neg (show ¬ (false = true) by decide)] at H; exact H
                            clear H
                            have H := H1
                            clear H1
                            exact absurd ((Option.some.inj H).trans HT.out) (by decide)
                        · rw [if_neg c30] at H
                          exact absurd H (by simp)
                      · rw [if_neg c29] at H
                        exact absurd H (by simp)
                    · rw [if_neg c28] at H
                      have c28b0 : decide (x46_2 < (y389.length : Int)) = false := decide_eq_false c28
                      clear c28
                      replace H := Option.bind_eq_some_iff.mp H
                      obtain ⟨⟨t447, t448, t449, t450, t451, t452⟩, A1990, H⟩ := H
                      replace H : ((foolscapref5_Zero.f l0 ((rd_T24 y384 x37_1).f0) ((rd_T24 y384 x37_1).f1)).bind fun bt454 => ((foolscaplaw7_same.f t447 t448 t449 t450 t451 t452 bt454.1 bt454.2.1 bt454.2.2.1 bt454.2.2.2.1 bt454.2.2.2.2.1 bt454.2.2.2.2.2).bind fun t461 => (if t461 = true then ((chars_First.f k2 l0 ((rd_T24 y384 x37_1).f0) ((rd_T24 y384 x37_1).f1)).bind fun bt462 => ((foolscapref5_FirstOf.f k2 l0 ((rd_T24 y384 x37_1).f0) ((rd_T24 y384 x37_1).f1)).bind fun bt468 => ((foolscaplaw7_same.f bt462.1 bt462.2.1 bt462.2.2.1 bt462.2.2.2.1 bt462.2.2.2.2.1 bt462.2.2.2.2.2 bt468.1 bt468.2.1 bt468.2.2.1 bt468.2.2.2.1 bt468.2.2.2.2.1 bt468.2.2.2.2.2).bind fun t474 => (if t474 = true then (foolscaplaw7_CharsMove.l0 k2 l0 a4 a5 y384 (y384.length : Int) (wrap64 (x37_1 + 1))) else (some false))))) else (some false)))) = some r := H
                      have A199 := Aside0.mk A1990
                      clear A1990
                      replace H := Option.bind_eq_some_iff.mp H
                      obtain ⟨⟨t454, t455, t456, t457, t458, t459⟩, A2000, H⟩ := H
                      replace H : ((foolscaplaw7_same.f t447 t448 t449 t450 t451 t452 t454 t455 t456 t457 t458 t459).bind fun t461 => (if t461 = true then ((chars_First.f k2 l0 ((rd_T24 y384 x37_1).f0) ((rd_T24 y384 x37_1).f1)).bind fun bt462 => ((foolscapref5_FirstOf.f k2 l0 ((rd_T24 y384 x37_1).f0) ((rd_T24 y384 x37_1).f1)).bind fun bt468 => ((foolscaplaw7_same.f bt462.1 bt462.2.1 bt462.2.2.1 bt462.2.2.2.1 bt462.2.2.2.2.1 bt462.2.2.2.2.2 bt468.1 bt468.2.1 bt468.2.2.1 bt468.2.2.2.1 bt468.2.2.2.2.1 bt468.2.2.2.2.2).bind fun t474 => (if t474 = true then (foolscaplaw7_CharsMove.l0 k2 l0 a4 a5 y384 (y384.length : Int) (wrap64 (x37_1 + 1))) else (some false))))) else (some false))) = some r := H
                      have A200 := Aside0.mk A2000
                      clear A2000
                      replace H := Option.bind_eq_some_iff.mp H
                      obtain ⟨t461, A2010, H⟩ := H
                      replace H : (if t461 = true then ((chars_First.f k2 l0 ((rd_T24 y384 x37_1).f0) ((rd_T24 y384 x37_1).f1)).bind fun bt462 => ((foolscapref5_FirstOf.f k2 l0 ((rd_T24 y384 x37_1).f0) ((rd_T24 y384 x37_1).f1)).bind fun bt468 => ((foolscaplaw7_same.f bt462.1 bt462.2.1 bt462.2.2.1 bt462.2.2.2.1 bt462.2.2.2.2.1 bt462.2.2.2.2.2 bt468.1 bt468.2.1 bt468.2.2.1 bt468.2.2.2.1 bt468.2.2.2.2.1 bt468.2.2.2.2.2).bind fun t474 => (if t474 = true then (foolscaplaw7_CharsMove.l0 k2 l0 a4 a5 y384 (y384.length : Int) (wrap64 (x37_1 + 1))) else (some false))))) else (some false)) = some r := H
                      have A201 := Aside0.mk A2010
                      clear A2010
                      by_cases c202 : t461 = true
                      · subst c202
                        have H1 : ((chars_First.f k2 l0 ((rd_T24 y384 x37_1).f0) ((rd_T24 y384 x37_1).f1)).bind fun bt462 => ((foolscapref5_FirstOf.f k2 l0 ((rd_T24 y384 x37_1).f0) ((rd_T24 y384 x37_1).f1)).bind fun bt468 => ((foolscaplaw7_same.f bt462.1 bt462.2.1 bt462.2.2.1 bt462.2.2.2.1 bt462.2.2.2.2.1 bt462.2.2.2.2.2 bt468.1 bt468.2.1 bt468.2.2.1 bt468.2.2.2.1 bt468.2.2.2.2.1 bt468.2.2.2.2.2).bind fun t474 => (if t474 = true then (foolscaplaw7_CharsMove.l0 k2 l0 a4 a5 y384 (y384.length : Int) (wrap64 (x37_1 + 1))) else (some false))))) = some r := by rw [if_pos rfl] at H; exact H
                        clear H
                        have H := H1
                        clear H1
                        replace H := Option.bind_eq_some_iff.mp H
                        obtain ⟨⟨t462, t463, t464, t465, t466, t467⟩, A2030, H⟩ := H
                        replace H : ((foolscapref5_FirstOf.f k2 l0 ((rd_T24 y384 x37_1).f0) ((rd_T24 y384 x37_1).f1)).bind fun bt468 => ((foolscaplaw7_same.f t462 t463 t464 t465 t466 t467 bt468.1 bt468.2.1 bt468.2.2.1 bt468.2.2.2.1 bt468.2.2.2.2.1 bt468.2.2.2.2.2).bind fun t474 => (if t474 = true then (foolscaplaw7_CharsMove.l0 k2 l0 a4 a5 y384 (y384.length : Int) (wrap64 (x37_1 + 1))) else (some false)))) = some r := H
                        have A203 := Aside0.mk A2030
                        clear A2030
                        replace H := Option.bind_eq_some_iff.mp H
                        obtain ⟨⟨t468, t469, t470, t471, t472, t473⟩, A2040, H⟩ := H
                        replace H : ((foolscaplaw7_same.f t462 t463 t464 t465 t466 t467 t468 t469 t470 t471 t472 t473).bind fun t474 => (if t474 = true then (foolscaplaw7_CharsMove.l0 k2 l0 a4 a5 y384 (y384.length : Int) (wrap64 (x37_1 + 1))) else (some false))) = some r := H
                        have A204 := Aside0.mk A2040
                        clear A2040
                        replace H := Option.bind_eq_some_iff.mp H
                        obtain ⟨t474, A2050, H⟩ := H
                        replace H : (if t474 = true then (foolscaplaw7_CharsMove.l0 k2 l0 a4 a5 y384 (y384.length : Int) (wrap64 (x37_1 + 1))) else (some false)) = some r := H
                        have A205 := Aside0.mk A2050
                        clear A2050
                        by_cases c206 : t474 = true
                        · subst c206
                          have H1 : (foolscaplaw7_CharsMove.l0 k2 l0 a4 a5 y384 (y384.length : Int) (wrap64 (x37_1 + 1))) = some r := by rw [if_pos rfl] at H; exact H
                          clear H
                          have H := H1
                          clear H1
                          have H' := Aside0.mk H
                          clear H
                          have hnb207 := NB388_379.out
                          have hnc207 := NB379_388.out
                          have hcz208_0 : wr.cell? ⟨gb388, 0, none⟩ = some (.int .i64 ((rd_T24 y384 x37_1).f0)) := (blk_cell BK388.out 0).trans rfl
                          have hcz208_1 : wr.cell? ⟨gb388, 1, none⟩ = some (.int .i64 ((rd_T24 y384 x37_1).f1)) := (blk_cell BK388.out 1).trans rfl
                          have hfz208_0 := blk_frozen BK388.out 0
                          have hfz208_1 := blk_frozen BK388.out 1
                          go_wp2_with (first | ((with_reducible refine gate_callee (f := 23) rfl ?_); refine goesL_ (some 136) rfl rfl Try.func23 (by kernel_rfl) rfl #[.slice A0 l0.length c0, .agg #[.int .i64 ((rd_T24 y384 x37_1).f0), .int .i64 ((rd_T24 y384 x37_1).f1)]] rfl (by (try simp only [List.map_toArray, List.map_cons, List.map_nil]); first | done | rfl | (simp only [List.length_drop, List.length_take]; rfl)) ?_; (with_reducible refine (chars_Zero.calls _ _ l0 ((rd_T24 y384 x37_1).f0) ((rd_T24 y384 x37_1).f1) t447 t448 t449 t450 t451 t452 _ ?side1 ?side2 A199.out).mono ?_); (case side1 => repeat (first | exact (Kd.C_below HR0.out HB.out) | (with_reducible refine Kd.C_alloc ?_ _) | (with_reducible refine Kd.C_drewN ?_ _) | (with_reducible refine Kd.C_drew ?_))); (case side2 => exact HC0.out); rintro e w209 ⟨rfl, hb⟩; refine ⟨_, rfl, ?_⟩; have n0_ := Aside0.mk (Kd.R_below (by (with_reducible repeat (first | apply Kd.R_alloc | apply Kd.R_drewN | apply Kd.R_drew)); exact HO_35.out) hb); have n1_ := Aside0.mk (Kd.R_below (by (with_reducible repeat (first | apply Kd.R_alloc | apply Kd.R_drewN | apply Kd.R_drew)); exact HO_44.out) hb); have n2_ := Aside0.mk (blk_below (g := gb379) (o := .cells #[.int .i64 a1_0, .int .i64 a1_1] 24 (0, 0)) (by exact BK379.out) hb); have n3_ := Aside0.mk (blk_below (g := gb388) (o := .cells #[.int .i64 ((rd_T24 y384 x37_1).f0), .int .i64 ((rd_T24 y384 x37_1).f1)] 24 (0, 0)) (by exact BK388.out) hb); have n4_ := Aside0.mk (below_step (by repeat (first | (with_reducible first | exact HB.out | apply below_alloc | apply pw_below_drewN | apply below_drew1 | refine below_set ?_ GE379.out | refine below_set ?_ GE388.out) | exact HB.out)) hb); clear HO_35; clear HO_44; clear BK379; clear BK388; clear HB; have HO_35 := n0_; have HO_44 := n1_; have BK379 := n2_; have BK388 := n3_; have HB := n4_; clear n0_ n1_ n2_ n3_ n4_; (try clear hb); (try clear hb2); (try clear hk); (try clear hi)) | ((with_reducible refine gate_dst (N := 21) rfl ?_); refine box_event ?hg (N := 21) ?hd (cs := #[.int .i64 0, .int .i64 0, .int .i64 0, .bool false, .int .i64 0]) (t := 33) ?hr ?_; (case hd => rfl); (case hg => rfl); (case hr => first | (go_simp; done) | (go_simp; rfl)); intro gb453 hg w210 hbox hb; have n0_ := Aside0.mk (Kd.R_below (by (with_reducible repeat (first | apply Kd.R_alloc | apply Kd.R_drewN | apply Kd.R_drew)); exact HO_35.out) hb); have n1_ := Aside0.mk (Kd.R_below (by (with_reducible repeat (first | apply Kd.R_alloc | apply Kd.R_drewN | apply Kd.R_drew)); exact HO_44.out) hb); have n2_ := Aside0.mk (blk_below (g := gb379) (o := .cells #[.int .i64 a1_0, .int .i64 a1_1] 24 (0, 0)) (by exact BK379.out) hb); have n3_ := Aside0.mk (blk_below (g := gb388) (o := .cells #[.int .i64 ((rd_T24 y384 x37_1).f0), .int .i64 ((rd_T24 y384 x37_1).f1)] 24 (0, 0)) (by exact BK388.out) hb); have n4_ := Aside0.mk (below_step (by repeat (first | (with_reducible first | exact HB.out | apply below_alloc | apply pw_below_drewN | apply below_drew1 | refine below_set ?_ GE379.out | refine below_set ?_ GE388.out) | exact HB.out)) hb); have n5_ := Aside0.mk (hbox); have n6_ := Aside0.mk ((by rw [hg]; exact (below_size (by repeat (first | (with_reducible first | exact HB.out | apply below_alloc | apply pw_below_drewN | apply below_drew1 | refine below_set ?_ GE379.out | refine below_set ?_ GE388.out) | exact HB.out))) : w.heap.size ≤ gb453)); have n7_ := Aside0.mk ((by rw [hg]; exact (below_size (by repeat (first | (with_reducible first | exact HB.out | apply below_alloc | apply pw_below_drewN | apply below_drew1 | refine below_set ?_ GE379.out | refine below_set ?_ GE388.out) | exact HB.out))) : w.heap.size ≤ gb453)); have n8_ := Aside0.mk ((by rw [hg]; exact Nat.ne_of_lt (blk_lt (g := gb379) (o := .cells #[.int .i64 a1_0, .int .i64 a1_1] 24 (0, 0)) (by exact BK379.out)) : gb379 ≠ gb453)); have n9_ := Aside0.mk ((by rw [hg]; exact Nat.ne_of_gt (blk_lt (g := gb379) (o := .cells #[.int .i64 a1_0, .int .i64 a1_1] 24 (0, 0)) (by exact BK379.out)) : gb453 ≠ gb379)); have n10_ := Aside0.mk ((by rw [hg]; exact Nat.ne_of_lt (blk_lt (g := gb388) (o := .cells #[.int .i64 ((rd_T24 y384 x37_1).f0), .int .i64 ((rd_T24 y384 x37_1).f1)] 24 (0, 0)) (by exact BK388.out)) : gb388 ≠ gb453)); have n11_ := Aside0.mk ((by rw [hg]; exact Nat.ne_of_gt (blk_lt (g := gb388) (o := .cells #[.int .i64 ((rd_T24 y384 x37_1).f0), .int .i64 ((rd_T24 y384 x37_1).f1)] 24 (0, 0)) (by exact BK388.out)) : gb453 ≠ gb388)); clear HO_35; clear HO_44; clear BK379; clear BK388; clear HB; have HO_35 := n0_; have HO_44 := n1_; have BK379 := n2_; have BK388 := n3_; have HB := n4_; have BK453 := n5_; have GW453 := n6_; have GE453 := n7_; have NB379_453 := n8_; have NB453_379 := n9_; have NB388_453 := n10_; have NB453_388 := n11_; clear n0_ n1_ n2_ n3_ n4_ n5_ n6_ n7_ n8_ n9_ n10_ n11_; clear hb hbox hg; have hnb211 := NB453_379.out; have hnc211 := NB379_453.out; have hnb212 := NB453_388.out; have hnc212 := NB388_453.out; have hcz213_0 : w210.cell? ⟨gb453, 0, none⟩ = some (.int .i64 0) := (blk_cell BK453.out 0).trans rfl; have hcz213_1 : w210.cell? ⟨gb453, 1, none⟩ = some (.int .i64 0) := (blk_cell BK453.out 1).trans rfl; have hcz213_2 : w210.cell? ⟨gb453, 2, none⟩ = some (.int .i64 0) := (blk_cell BK453.out 2).trans rfl; have hcz213_3 : w210.cell? ⟨gb453, 3, none⟩ = some (.bool false) := (blk_cell BK453.out 3).trans rfl; have hcz213_4 : w210.cell? ⟨gb453, 4, none⟩ = some (.int .i64 0) := (blk_cell BK453.out 4).trans rfl; have hfz213_0 := blk_frozen BK453.out 0; have hfz213_1 := blk_frozen BK453.out 1; have hfz213_2 := blk_frozen BK453.out 2; have hfz213_3 := blk_frozen BK453.out 3; have hfz213_4 := blk_frozen BK453.out 4; have hcz214_0 : w210.cell? ⟨gb388, 0, none⟩ = some (.int .i64 ((rd_T24 y384 x37_1).f0)) := (blk_cell BK388.out 0).trans rfl; have hcz214_1 : w210.cell? ⟨gb388, 1, none⟩ = some (.int .i64 ((rd_T24 y384 x37_1).f1)) := (blk_cell BK388.out 1).trans rfl; have hfz214_0 := blk_frozen BK388.out 0; have hfz214_1 := blk_frozen BK388.out 1) | ((with_reducible refine gate_callee (f := 24) rfl ?_); refine goesL_ (some 142) rfl rfl Try.func24 (by kernel_rfl) rfl #[.slice A0 l0.length c0, .agg #[.int .i64 ((rd_T24 y384 x37_1).f0), .int .i64 ((rd_T24 y384 x37_1).f1)]] rfl (by (try simp only [List.map_toArray, List.map_cons, List.map_nil]); first | done | rfl | (simp only [List.length_drop, List.length_take]; rfl)) ?_; (with_reducible refine (foolscapref5_Zero.calls _ _ l0 ((rd_T24 y384 x37_1).f0) ((rd_T24 y384 x37_1).f1) t454 t455 t456 t457 t458 t459 _ ?side1 ?side2 A200.out).mono ?_); (case side1 => exact Kd.C_below HR0.out (by repeat (first | (with_reducible first | exact HB.out | apply below_alloc | apply pw_below_drewN | apply below_drew1 | refine below_set ?_ GE379.out | refine below_set ?_ GE388.out | refine below_set ?_ GE453.out) | exact HB.out))); (case side2 => exact HC0.out); rintro e w215 ⟨rfl, hb⟩; refine ⟨_, rfl, ?_⟩; have n0_ := Aside0.mk (Kd.R_below (by (with_reducible repeat (first | apply Kd.R_alloc | apply Kd.R_drewN | apply Kd.R_drew)); exact (Kd.R_mono (Kd.R_far (p := ⟨gb453, 4, none⟩) (Kd.R_far (p := ⟨gb453, 3, none⟩) (Kd.R_far (p := ⟨gb453, 2, none⟩) (Kd.R_far (p := ⟨gb453, 1, none⟩) (Kd.R_far (p := ⟨gb453, 0, none⟩) (Kd.R_types HO_35.out BK453.out (by decide)) (fun _ hk => hk.2) (.int .i64 t447)) (fun _ hk => hk.2) (.int .i64 t448)) (fun _ hk => hk.2) (.int .i64 t449)) (fun _ hk => hk.2) (.bool t450)) (fun _ hk => hk.2) (.int .i64 t451)) (fun _ h_ => h_.1))) hb); have n1_ := Aside0.mk (Kd.R_below (by (with_reducible repeat (first | apply Kd.R_alloc | apply Kd.R_drewN | apply Kd.R_drew)); exact (Kd.R_mono (Kd.R_far (p := ⟨gb453, 4, none⟩) (Kd.R_far (p := ⟨gb453, 3, none⟩) (Kd.R_far (p := ⟨gb453, 2, none⟩) (Kd.R_far (p := ⟨gb453, 1, none⟩) (Kd.R_far (p := ⟨gb453, 0, none⟩) (Kd.R_types HO_44.out BK453.out (by decide)) (fun _ hk => hk.2) (.int .i64 t447)) (fun _ hk => hk.2) (.int .i64 t448)) (fun _ hk => hk.2) (.int .i64 t449)) (fun _ hk => hk.2) (.bool t450)) (fun _ hk => hk.2) (.int .i64 t451)) (fun _ h_ => h_.1))) hb); have n2_ := Aside0.mk (blk_below (g := gb379) (o := .cells #[.int .i64 a1_0, .int .i64 a1_1] 24 (0, 0)) (by refine blk_far ?_ NB379_453.out _; refine blk_far ?_ NB379_453.out _; refine blk_far ?_ NB379_453.out _; refine blk_far ?_ NB379_453.out _; refine blk_far ?_ NB379_453.out _; exact BK379.out) hb); have n3_ := Aside0.mk (blk_below (g := gb388) (o := .cells #[.int .i64 ((rd_T24 y384 x37_1).f0), .int .i64 ((rd_T24 y384 x37_1).f1)] 24 (0, 0)) (by refine blk_far ?_ NB388_453.out _; refine blk_far ?_ NB388_453.out _; refine blk_far ?_ NB388_453.out _; refine blk_far ?_ NB388_453.out _; refine blk_far ?_ NB388_453.out _; exact BK388.out) hb); have n4_ := Aside0.mk (blk_below (g := gb453) (o := .cells #[.int .i64 t447, .int .i64 t448, .int .i64 t449, .bool t450, .int .i64 t451] 33 (0, 0)) (by refine blk_put (cs := #[.int .i64 t447, .int .i64 t448, .int .i64 t449, .bool t450, .int .i64 0]) ?_ 4 _ rfl; refine blk_put (cs := #[.int .i64 t447, .int .i64 t448, .int .i64 t449, .bool false, .int .i64 0]) ?_ 3 _ rfl; refine blk_put (cs := #[.int .i64 t447, .int .i64 t448, .int .i64 0, .bool false, .int .i64 0]) ?_ 2 _ rfl; refine blk_put (cs := #[.int .i64 t447, .int .i64 0, .int .i64 0, .bool false, .int .i64 0]) ?_ 1 _ rfl; refine blk_put (cs := #[.int .i64 0, .int .i64 0, .int .i64 0, .bool false, .int .i64 0]) ?_ 0 _ rfl; exact BK453.out) hb); have n5_ := Aside0.mk (below_step (by repeat (first | (with_reducible first | exact HB.out | apply below_alloc | apply pw_below_drewN | apply below_drew1 | refine below_set ?_ GE379.out | refine below_set ?_ GE388.out | refine below_set ?_ GE453.out) | exact HB.out)) hb); clear HO_35; clear HO_44; clear BK379; clear BK388; clear BK453; clear HB; have HO_35 := n0_; have HO_44 := n1_; have BK379 := n2_; have BK388 := n3_; have BK453 := n4_; have HB := n5_; clear n0_ n1_ n2_ n3_ n4_ n5_; (try clear hb); (try clear hb2); (try clear hk); (try clear hi)) | ((with_reducible refine gate_dst (N := 23) rfl ?_); refine box_event ?hg (N := 23) ?hd (cs := #[.int .i64 0, .int .i64 0, .int .i64 0, .bool false, .int .i64 0]) (t := 33) ?hr ?_; (case hd => rfl); (case hg => rfl); (case hr => first | (go_simp; done) | (go_simp; rfl)); intro gb460 hg w216 hbox hb; have n0_ := Aside0.mk (Kd.R_below (by (with_reducible repeat (first | apply Kd.R_alloc | apply Kd.R_drewN | apply Kd.R_drew)); exact HO_35.out) hb); have n1_ := Aside0.mk (Kd.R_below (by (with_reducible repeat (first | apply Kd.R_alloc | apply Kd.R_drewN | apply Kd.R_drew)); exact HO_44.out) hb); have n2_ := Aside0.mk (blk_below (g := gb379) (o := .cells #[.int .i64 a1_0, .int .i64 a1_1] 24 (0, 0)) (by exact BK379.out) hb); have n3_ := Aside0.mk (blk_below (g := gb388) (o := .cells #[.int .i64 ((rd_T24 y384 x37_1).f0), .int .i64 ((rd_T24 y384 x37_1).f1)] 24 (0, 0)) (by exact BK388.out) hb); have n4_ := Aside0.mk (blk_below (g := gb453) (o := .cells #[.int .i64 t447, .int .i64 t448, .int .i64 t449, .bool t450, .int .i64 t451] 33 (0, 0)) (by exact BK453.out) hb); have n5_ := Aside0.mk (below_step (by repeat (first | (with_reducible first | exact HB.out | apply below_alloc | apply pw_below_drewN | apply below_drew1 | refine below_set ?_ GE379.out | refine below_set ?_ GE388.out | refine below_set ?_ GE453.out) | exact HB.out)) hb); have n6_ := Aside0.mk (hbox); have n7_ := Aside0.mk ((by rw [hg]; exact (below_size (by repeat (first | (with_reducible first | exact HB.out | apply below_alloc | apply pw_below_drewN | apply below_drew1 | refine below_set ?_ GE379.out | refine below_set ?_ GE388.out | refine below_set ?_ GE453.out) | exact HB.out))) : w.heap.size ≤ gb460)); have n8_ := Aside0.mk ((by rw [hg]; exact (below_size (by repeat (first | (with_reducible first | exact HB.out | apply below_alloc | apply pw_below_drewN | apply below_drew1 | refine below_set ?_ GE379.out | refine below_set ?_ GE388.out | refine below_set ?_ GE453.out) | exact HB.out))) : w.heap.size ≤ gb460)); have n9_ := Aside0.mk ((by rw [hg]; exact Nat.ne_of_lt (blk_lt (g := gb379) (o := .cells #[.int .i64 a1_0, .int .i64 a1_1] 24 (0, 0)) (by exact BK379.out)) : gb379 ≠ gb460)); have n10_ := Aside0.mk ((by rw [hg]; exact Nat.ne_of_gt (blk_lt (g := gb379) (o := .cells #[.int .i64 a1_0, .int .i64 a1_1] 24 (0, 0)) (by exact BK379.out)) : gb460 ≠ gb379)); have n11_ := Aside0.mk ((by rw [hg]; exact Nat.ne_of_lt (blk_lt (g := gb388) (o := .cells #[.int .i64 ((rd_T24 y384 x37_1).f0), .int .i64 ((rd_T24 y384 x37_1).f1)] 24 (0, 0)) (by exact BK388.out)) : gb388 ≠ gb460)); have n12_ := Aside0.mk ((by rw [hg]; exact Nat.ne_of_gt (blk_lt (g := gb388) (o := .cells #[.int .i64 ((rd_T24 y384 x37_1).f0), .int .i64 ((rd_T24 y384 x37_1).f1)] 24 (0, 0)) (by exact BK388.out)) : gb460 ≠ gb388)); have n13_ := Aside0.mk ((by rw [hg]; exact Nat.ne_of_lt (blk_lt (g := gb453) (o := .cells #[.int .i64 t447, .int .i64 t448, .int .i64 t449, .bool t450, .int .i64 t451] 33 (0, 0)) (by exact BK453.out)) : gb453 ≠ gb460)); have n14_ := Aside0.mk ((by rw [hg]; exact Nat.ne_of_gt (blk_lt (g := gb453) (o := .cells #[.int .i64 t447, .int .i64 t448, .int .i64 t449, .bool t450, .int .i64 t451] 33 (0, 0)) (by exact BK453.out)) : gb460 ≠ gb453)); clear HO_35; clear HO_44; clear BK379; clear BK388; clear BK453; clear HB; have HO_35 := n0_; have HO_44 := n1_; have BK379 := n2_; have BK388 := n3_; have BK453 := n4_; have HB := n5_; have BK460 := n6_; have GW460 := n7_; have GE460 := n8_; have NB379_460 := n9_; have NB460_379 := n10_; have NB388_460 := n11_; have NB460_388 := n12_; have NB453_460 := n13_; have NB460_453 := n14_; clear n0_ n1_ n2_ n3_ n4_ n5_ n6_ n7_ n8_ n9_ n10_ n11_ n12_ n13_ n14_; clear hb hbox hg; have hnb217 := NB460_379.out; have hnc217 := NB379_460.out; have hnb218 := NB460_388.out; have hnc218 := NB388_460.out; have hnb219 := NB460_453.out; have hnc219 := NB453_460.out; have hcz220_0 : w216.cell? ⟨gb460, 0, none⟩ = some (.int .i64 0) := (blk_cell BK460.out 0).trans rfl; have hcz220_1 : w216.cell? ⟨gb460, 1, none⟩ = some (.int .i64 0) := (blk_cell BK460.out 1).trans rfl; have hcz220_2 : w216.cell? ⟨gb460, 2, none⟩ = some (.int .i64 0) := (blk_cell BK460.out 2).trans rfl; have hcz220_3 : w216.cell? ⟨gb460, 3, none⟩ = some (.bool false) := (blk_cell BK460.out 3).trans rfl; have hcz220_4 : w216.cell? ⟨gb460, 4, none⟩ = some (.int .i64 0) := (blk_cell BK460.out 4).trans rfl; have hfz220_0 := blk_frozen BK460.out 0; have hfz220_1 := blk_frozen BK460.out 1; have hfz220_2 := blk_frozen BK460.out 2; have hfz220_3 := blk_frozen BK460.out 3; have hfz220_4 := blk_frozen BK460.out 4; have hcz221_0 : w216.cell? ⟨gb453, 0, none⟩ = some (.int .i64 t447) := (blk_cell BK453.out 0).trans rfl; have hcz221_1 : w216.cell? ⟨gb453, 1, none⟩ = some (.int .i64 t448) := (blk_cell BK453.out 1).trans rfl; have hcz221_2 : w216.cell? ⟨gb453, 2, none⟩ = some (.int .i64 t449) := (blk_cell BK453.out 2).trans rfl; have hcz221_3 : w216.cell? ⟨gb453, 3, none⟩ = some (.bool t450) := (blk_cell BK453.out 3).trans rfl; have hcz221_4 : w216.cell? ⟨gb453, 4, none⟩ = some (.int .i64 t451) := (blk_cell BK453.out 4).trans rfl; have hfz221_0 := blk_frozen BK453.out 0; have hfz221_1 := blk_frozen BK453.out 1; have hfz221_2 := blk_frozen BK453.out 2; have hfz221_3 := blk_frozen BK453.out 3; have hfz221_4 := blk_frozen BK453.out 4) | ((with_reducible refine gate_callee (f := 14) rfl ?_); refine goesL_ (some 149) rfl rfl Try.func14 (by kernel_rfl) rfl #[.agg #[.int .i64 t447, .int .i64 t448, .int .i64 t449, .bool t450, .int .i64 t451], .bool t452, .agg #[.int .i64 t454, .int .i64 t455, .int .i64 t456, .bool t457, .int .i64 t458], .bool t459] rfl (by (try simp only [List.map_toArray, List.map_cons, List.map_nil]); first | done | rfl | (simp only [List.length_drop, List.length_take]; rfl)) ?_; (with_reducible refine (foolscaplaw7_same.calls t447 t448 t449 t450 t451 t452 t454 t455 t456 t457 t458 t459 true _ A201.out).mono ?_); rintro e w222 ⟨rfl, hb⟩; refine ⟨_, rfl, ?_⟩; have n0_ := Aside0.mk (Kd.R_below (by (with_reducible repeat (first | apply Kd.R_alloc | apply Kd.R_drewN | apply Kd.R_drew)); exact (Kd.R_mono (Kd.R_far (p := ⟨gb460, 4, none⟩) (Kd.R_far (p := ⟨gb460, 3, none⟩) (Kd.R_far (p := ⟨gb460, 2, none⟩) (Kd.R_far (p := ⟨gb460, 1, none⟩) (Kd.R_far (p := ⟨gb460, 0, none⟩) (Kd.R_types HO_35.out BK460.out (by decide)) (fun _ hk => hk.2) (.int .i64 t454)) (fun _ hk => hk.2) (.int .i64 t455)) (fun _ hk => hk.2) (.int .i64 t456)) (fun _ hk => hk.2) (.bool t457)) (fun _ hk => hk.2) (.int .i64 t458)) (fun _ h_ => h_.1))) hb); have n1_ := Aside0.mk (Kd.R_below (by (with_reducible repeat (first | apply Kd.R_alloc | apply Kd.R_drewN | apply Kd.R_drew)); exact (Kd.R_mono (Kd.R_far (p := ⟨gb460, 4, none⟩) (Kd.R_far (p := ⟨gb460, 3, none⟩) (Kd.R_far (p := ⟨gb460, 2, none⟩) (Kd.R_far (p := ⟨gb460, 1, none⟩) (Kd.R_far (p := ⟨gb460, 0, none⟩) (Kd.R_types HO_44.out BK460.out (by decide)) (fun _ hk => hk.2) (.int .i64 t454)) (fun _ hk => hk.2) (.int .i64 t455)) (fun _ hk => hk.2) (.int .i64 t456)) (fun _ hk => hk.2) (.bool t457)) (fun _ hk => hk.2) (.int .i64 t458)) (fun _ h_ => h_.1))) hb); have n2_ := Aside0.mk (blk_below (g := gb379) (o := .cells #[.int .i64 a1_0, .int .i64 a1_1] 24 (0, 0)) (by refine blk_far ?_ NB379_460.out _; refine blk_far ?_ NB379_460.out _; refine blk_far ?_ NB379_460.out _; refine blk_far ?_ NB379_460.out _; refine blk_far ?_ NB379_460.out _; exact BK379.out) hb); have n3_ := Aside0.mk (blk_below (g := gb388) (o := .cells #[.int .i64 ((rd_T24 y384 x37_1).f0), .int .i64 ((rd_T24 y384 x37_1).f1)] 24 (0, 0)) (by refine blk_far ?_ NB388_460.out _; refine blk_far ?_ NB388_460.out _; refine blk_far ?_ NB388_460.out _; refine blk_far ?_ NB388_460.out _; refine blk_far ?_ NB388_460.out _; exact BK388.out) hb); have n4_ := Aside0.mk (blk_below (g := gb453) (o := .cells #[.int .i64 t447, .int .i64 t448, .int .i64 t449, .bool t450, .int .i64 t451] 33 (0, 0)) (by refine blk_far ?_ NB453_460.out _; refine blk_far ?_ NB453_460.out _; refine blk_far ?_ NB453_460.out _; refine blk_far ?_ NB453_460.out _; refine blk_far ?_ NB453_460.out _; exact BK453.out) hb); have n5_ := Aside0.mk (blk_below (g := gb460) (o := .cells #[.int .i64 t454, .int .i64 t455, .int .i64 t456, .bool t457, .int .i64 t458] 33 (0, 0)) (by refine blk_put (cs := #[.int .i64 t454, .int .i64 t455, .int .i64 t456, .bool t457, .int .i64 0]) ?_ 4 _ rfl; refine blk_put (cs := #[.int .i64 t454, .int .i64 t455, .int .i64 t456, .bool false, .int .i64 0]) ?_ 3 _ rfl; refine blk_put (cs := #[.int .i64 t454, .int .i64 t455, .int .i64 0, .bool false, .int .i64 0]) ?_ 2 _ rfl; refine blk_put (cs := #[.int .i64 t454, .int .i64 0, .int .i64 0, .bool false, .int .i64 0]) ?_ 1 _ rfl; refine blk_put (cs := #[.int .i64 0, .int .i64 0, .int .i64 0, .bool false, .int .i64 0]) ?_ 0 _ rfl; exact BK460.out) hb); have n6_ := Aside0.mk (below_step (by repeat (first | (with_reducible first | exact HB.out | apply below_alloc | apply pw_below_drewN | apply below_drew1 | refine below_set ?_ GE379.out | refine below_set ?_ GE388.out | refine below_set ?_ GE453.out | refine below_set ?_ GE460.out) | exact HB.out)) hb); clear HO_35; clear HO_44; clear BK379; clear BK388; clear BK453; clear BK460; clear HB; have HO_35 := n0_; have HO_44 := n1_; have BK379 := n2_; have BK388 := n3_; have BK453 := n4_; have BK460 := n5_; have HB := n6_; clear n0_ n1_ n2_ n3_ n4_ n5_ n6_; (try clear hb); (try clear hb2); (try clear hk); (try clear hi); have hcz223_0 : w222.cell? ⟨gb388, 0, none⟩ = some (.int .i64 ((rd_T24 y384 x37_1).f0)) := (blk_cell BK388.out 0).trans rfl; have hcz223_1 : w222.cell? ⟨gb388, 1, none⟩ = some (.int .i64 ((rd_T24 y384 x37_1).f1)) := (blk_cell BK388.out 1).trans rfl; have hfz223_0 := blk_frozen BK388.out 0; have hfz223_1 := blk_frozen BK388.out 1) | ((with_reducible refine gate_callee (f := 25) rfl ?_); refine goesL_ (some 154) rfl rfl Try.func25 (by kernel_rfl) rfl #[.slice A0 l0.length c0, .agg #[.int .i64 ((rd_T24 y384 x37_1).f0), .int .i64 ((rd_T24 y384 x37_1).f1)]] rfl (by (try simp only [List.map_toArray, List.map_cons, List.map_nil]); first | done | rfl | (simp only [List.length_drop, List.length_take]; rfl)) ?_; (with_reducible refine (chars_First.calls k2 _ _ l0 ((rd_T24 y384 x37_1).f0) ((rd_T24 y384 x37_1).f1) t462 t463 t464 t465 t466 t467 _ ?side1 ?side2 A203.out).mono ?_); (case side1 => repeat (first | exact (Kd.C_below HR0.out HB.out) | (with_reducible refine Kd.C_alloc ?_ _) | (with_reducible refine Kd.C_drewN ?_ _) | (with_reducible refine Kd.C_drew ?_))); (case side2 => exact HC0.out); rintro e w224 ⟨rfl, hb⟩; refine ⟨_, rfl, ?_⟩; have n0_ := Aside0.mk (Kd.R_below (by (with_reducible repeat (first | apply Kd.R_alloc | apply Kd.R_drewN | apply Kd.R_drew)); exact HO_35.out) hb); have n1_ := Aside0.mk (Kd.R_below (by (with_reducible repeat (first | apply Kd.R_alloc | apply Kd.R_drewN | apply Kd.R_drew)); exact HO_44.out) hb); have n2_ := Aside0.mk (blk_below (g := gb379) (o := .cells #[.int .i64 a1_0, .int .i64 a1_1] 24 (0, 0)) (by exact BK379.out) hb); have n3_ := Aside0.mk (blk_below (g := gb388) (o := .cells #[.int .i64 ((rd_T24 y384 x37_1).f0), .int .i64 ((rd_T24 y384 x37_1).f1)] 24 (0, 0)) (by exact BK388.out) hb); have n4_ := Aside0.mk (blk_below (g := gb453) (o := .cells #[.int .i64 t447, .int .i64 t448, .int .i64 t449, .bool t450, .int .i64 t451] 33 (0, 0)) (by exact BK453.out) hb); have n5_ := Aside0.mk (blk_below (g := gb460) (o := .cells #[.int .i64 t454, .int .i64 t455, .int .i64 t456, .bool t457, .int .i64 t458] 33 (0, 0)) (by exact BK460.out) hb); have n6_ := Aside0.mk (below_step (by repeat (first | (with_reducible first | exact HB.out | apply below_alloc | apply pw_below_drewN | apply below_drew1 | refine below_set ?_ GE379.out | refine below_set ?_ GE388.out | refine below_set ?_ GE453.out | refine below_set ?_ GE460.out) | exact HB.out)) hb); clear HO_35; clear HO_44; clear BK379; clear BK388; clear BK453; clear BK460; clear HB; have HO_35 := n0_; have HO_44 := n1_; have BK379 := n2_; have BK388 := n3_; have BK453 := n4_; have BK460 := n5_; have HB := n6_; clear n0_ n1_ n2_ n3_ n4_ n5_ n6_; (try clear hb); (try clear hb2); (try clear hk); (try clear hi); have hcz225_0 : w224.cell? ⟨gb453, 0, none⟩ = some (.int .i64 t447) := (blk_cell BK453.out 0).trans rfl; have hcz225_1 : w224.cell? ⟨gb453, 1, none⟩ = some (.int .i64 t448) := (blk_cell BK453.out 1).trans rfl; have hcz225_2 : w224.cell? ⟨gb453, 2, none⟩ = some (.int .i64 t449) := (blk_cell BK453.out 2).trans rfl; have hcz225_3 : w224.cell? ⟨gb453, 3, none⟩ = some (.bool t450) := (blk_cell BK453.out 3).trans rfl; have hcz225_4 : w224.cell? ⟨gb453, 4, none⟩ = some (.int .i64 t451) := (blk_cell BK453.out 4).trans rfl; have hfz225_0 := blk_frozen BK453.out 0; have hfz225_1 := blk_frozen BK453.out 1; have hfz225_2 := blk_frozen BK453.out 2; have hfz225_3 := blk_frozen BK453.out 3; have hfz225_4 := blk_frozen BK453.out 4; have hcz226_0 : w224.cell? ⟨gb388, 0, none⟩ = some (.int .i64 ((rd_T24 y384 x37_1).f0)) := (blk_cell BK388.out 0).trans rfl; have hcz226_1 : w224.cell? ⟨gb388, 1, none⟩ = some (.int .i64 ((rd_T24 y384 x37_1).f1)) := (blk_cell BK388.out 1).trans rfl; have hfz226_0 := blk_frozen BK388.out 0; have hfz226_1 := blk_frozen BK388.out 1) | ((with_reducible refine gate_callee (f := 26) rfl ?_); refine goesL_ (some 160) rfl rfl Try.func26 (by kernel_rfl) rfl #[.slice A0 l0.length c0, .agg #[.int .i64 ((rd_T24 y384 x37_1).f0), .int .i64 ((rd_T24 y384 x37_1).f1)]] rfl (by (try simp only [List.map_toArray, List.map_cons, List.map_nil]); first | done | rfl | (simp only [List.length_drop, List.length_take]; rfl)) ?_; (with_reducible refine (foolscapref5_FirstOf.calls k2 _ _ l0 ((rd_T24 y384 x37_1).f0) ((rd_T24 y384 x37_1).f1) t468 t469 t470 t471 t472 t473 _ ?side1 ?side2 A204.out).mono ?_); (case side1 => exact Kd.C_below HR0.out (by repeat (first | (with_reducible first | exact HB.out | apply below_alloc | apply pw_below_drewN | apply below_drew1 | refine below_set ?_ GE379.out | refine below_set ?_ GE388.out | refine below_set ?_ GE453.out | refine below_set ?_ GE460.out) | exact HB.out))); (case side2 => exact HC0.out); rintro e w227 ⟨rfl, hb⟩; refine ⟨_, rfl, ?_⟩; have n0_ := Aside0.mk (Kd.R_below (by (with_reducible repeat (first | apply Kd.R_alloc | apply Kd.R_drewN | apply Kd.R_drew)); exact (Kd.R_mono (Kd.R_far (p := ⟨gb453, 4, none⟩) (Kd.R_far (p := ⟨gb453, 3, none⟩) (Kd.R_far (p := ⟨gb453, 2, none⟩) (Kd.R_far (p := ⟨gb453, 1, none⟩) (Kd.R_far (p := ⟨gb453, 0, none⟩) (Kd.R_types HO_35.out BK453.out (by decide)) (fun _ hk => hk.2) (.int .i64 t462)) (fun _ hk => hk.2) (.int .i64 t463)) (fun _ hk => hk.2) (.int .i64 t464)) (fun _ hk => hk.2) (.bool t465)) (fun _ hk => hk.2) (.int .i64 t466)) (fun _ h_ => h_.1))) hb); have n1_ := Aside0.mk (Kd.R_below (by (with_reducible repeat (first | apply Kd.R_alloc | apply Kd.R_drewN | apply Kd.R_drew)); exact (Kd.R_mono (Kd.R_far (p := ⟨gb453, 4, none⟩) (Kd.R_far (p := ⟨gb453, 3, none⟩) (Kd.R_far (p := ⟨gb453, 2, none⟩) (Kd.R_far (p := ⟨gb453, 1, none⟩) (Kd.R_far (p := ⟨gb453, 0, none⟩) (Kd.R_types HO_44.out BK453.out (by decide)) (fun _ hk => hk.2) (.int .i64 t462)) (fun _ hk => hk.2) (.int .i64 t463)) (fun _ hk => hk.2) (.int .i64 t464)) (fun _ hk => hk.2) (.bool t465)) (fun _ hk => hk.2) (.int .i64 t466)) (fun _ h_ => h_.1))) hb); have n2_ := Aside0.mk (blk_below (g := gb379) (o := .cells #[.int .i64 a1_0, .int .i64 a1_1] 24 (0, 0)) (by refine blk_far ?_ NB379_453.out _; refine blk_far ?_ NB379_453.out _; refine blk_far ?_ NB379_453.out _; refine blk_far ?_ NB379_453.out _; refine blk_far ?_ NB379_453.out _; exact BK379.out) hb); have n3_ := Aside0.mk (blk_below (g := gb388) (o := .cells #[.int .i64 ((rd_T24 y384 x37_1).f0), .int .i64 ((rd_T24 y384 x37_1).f1)] 24 (0, 0)) (by refine blk_far ?_ NB388_453.out _; refine blk_far ?_ NB388_453.out _; refine blk_far ?_ NB388_453.out _; refine blk_far ?_ NB388_453.out _; refine blk_far ?_ NB388_453.out _; exact BK388.out) hb); have n4_ := Aside0.mk (blk_below (g := gb453) (o := .cells #[.int .i64 t462, .int .i64 t463, .int .i64 t464, .bool t465, .int .i64 t466] 33 (0, 0)) (by refine blk_put (cs := #[.int .i64 t462, .int .i64 t463, .int .i64 t464, .bool t465, .int .i64 t451]) ?_ 4 _ rfl; refine blk_put (cs := #[.int .i64 t462, .int .i64 t463, .int .i64 t464, .bool t450, .int .i64 t451]) ?_ 3 _ rfl; refine blk_put (cs := #[.int .i64 t462, .int .i64 t463, .int .i64 t449, .bool t450, .int .i64 t451]) ?_ 2 _ rfl; refine blk_put (cs := #[.int .i64 t462, .int .i64 t448, .int .i64 t449, .bool t450, .int .i64 t451]) ?_ 1 _ rfl; refine blk_put (cs := #[.int .i64 t447, .int .i64 t448, .int .i64 t449, .bool t450, .int .i64 t451]) ?_ 0 _ rfl; exact BK453.out) hb); have n5_ := Aside0.mk (blk_below (g := gb460) (o := .cells #[.int .i64 t454, .int .i64 t455, .int .i64 t456, .bool t457, .int .i64 t458] 33 (0, 0)) (by refine blk_far ?_ NB460_453.out _; refine blk_far ?_ NB460_453.out _; refine blk_far ?_ NB460_453.out _; refine blk_far ?_ NB460_453.out _; refine blk_far ?_ NB460_453.out _; exact BK460.out) hb); have n6_ := Aside0.mk (below_step (by repeat (first | (with_reducible first | exact HB.out | apply below_alloc | apply pw_below_drewN | apply below_drew1 | refine below_set ?_ GE379.out | refine below_set ?_ GE388.out | refine below_set ?_ GE453.out | refine below_set ?_ GE460.out) | exact HB.out)) hb); clear HO_35; clear HO_44; clear BK379; clear BK388; clear BK453; clear BK460; clear HB; have HO_35 := n0_; have HO_44 := n1_; have BK379 := n2_; have BK388 := n3_; have BK453 := n4_; have BK460 := n5_; have HB := n6_; clear n0_ n1_ n2_ n3_ n4_ n5_ n6_; (try clear hb); (try clear hb2); (try clear hk); (try clear hi); have hcz228_0 : w227.cell? ⟨gb460, 0, none⟩ = some (.int .i64 t454) := (blk_cell BK460.out 0).trans rfl; have hcz228_1 : w227.cell? ⟨gb460, 1, none⟩ = some (.int .i64 t455) := (blk_cell BK460.out 1).trans rfl; have hcz228_2 : w227.cell? ⟨gb460, 2, none⟩ = some (.int .i64 t456) := (blk_cell BK460.out 2).trans rfl; have hcz228_3 : w227.cell? ⟨gb460, 3, none⟩ = some (.bool t457) := (blk_cell BK460.out 3).trans rfl; have hcz228_4 : w227.cell? ⟨gb460, 4, none⟩ = some (.int .i64 t458) := (blk_cell BK460.out 4).trans rfl; have hfz228_0 := blk_frozen BK460.out 0; have hfz228_1 := blk_frozen BK460.out 1; have hfz228_2 := blk_frozen BK460.out 2; have hfz228_3 := blk_frozen BK460.out 3; have hfz228_4 := blk_frozen BK460.out 4; have hcz229_0 : w227.cell? ⟨gb453, 0, none⟩ = some (.int .i64 t462) := (blk_cell BK453.out 0).trans rfl; have hcz229_1 : w227.cell? ⟨gb453, 1, none⟩ = some (.int .i64 t463) := (blk_cell BK453.out 1).trans rfl; have hcz229_2 : w227.cell? ⟨gb453, 2, none⟩ = some (.int .i64 t464) := (blk_cell BK453.out 2).trans rfl; have hcz229_3 : w227.cell? ⟨gb453, 3, none⟩ = some (.bool t465) := (blk_cell BK453.out 3).trans rfl; have hcz229_4 : w227.cell? ⟨gb453, 4, none⟩ = some (.int .i64 t466) := (blk_cell BK453.out 4).trans rfl; have hfz229_0 := blk_frozen BK453.out 0; have hfz229_1 := blk_frozen BK453.out 1; have hfz229_2 := blk_frozen BK453.out 2; have hfz229_3 := blk_frozen BK453.out 3; have hfz229_4 := blk_frozen BK453.out 4) | ((with_reducible refine gate_callee (f := 14) rfl ?_); refine goesL_ (some 167) rfl rfl Try.func14 (by kernel_rfl) rfl #[.agg #[.int .i64 t462, .int .i64 t463, .int .i64 t464, .bool t465, .int .i64 t466], .bool t467, .agg #[.int .i64 t468, .int .i64 t469, .int .i64 t470, .bool t471, .int .i64 t472], .bool t473] rfl (by (try simp only [List.map_toArray, List.map_cons, List.map_nil]); first | done | rfl | (simp only [List.length_drop, List.length_take]; rfl)) ?_; (with_reducible refine (foolscaplaw7_same.calls t462 t463 t464 t465 t466 t467 t468 t469 t470 t471 t472 t473 true _ A205.out).mono ?_); rintro e w230 ⟨rfl, hb⟩; refine ⟨_, rfl, ?_⟩; have n0_ := Aside0.mk (Kd.R_below (by (with_reducible repeat (first | apply Kd.R_alloc | apply Kd.R_drewN | apply Kd.R_drew)); exact (Kd.R_mono (Kd.R_far (p := ⟨gb460, 4, none⟩) (Kd.R_far (p := ⟨gb460, 3, none⟩) (Kd.R_far (p := ⟨gb460, 2, none⟩) (Kd.R_far (p := ⟨gb460, 1, none⟩) (Kd.R_far (p := ⟨gb460, 0, none⟩) (Kd.R_types HO_35.out BK460.out (by decide)) (fun _ hk => hk.2) (.int .i64 t468)) (fun _ hk => hk.2) (.int .i64 t469)) (fun _ hk => hk.2) (.int .i64 t470)) (fun _ hk => hk.2) (.bool t471)) (fun _ hk => hk.2) (.int .i64 t472)) (fun _ h_ => h_.1))) hb); have n1_ := Aside0.mk (Kd.R_below (by (with_reducible repeat (first | apply Kd.R_alloc | apply Kd.R_drewN | apply Kd.R_drew)); exact (Kd.R_mono (Kd.R_far (p := ⟨gb460, 4, none⟩) (Kd.R_far (p := ⟨gb460, 3, none⟩) (Kd.R_far (p := ⟨gb460, 2, none⟩) (Kd.R_far (p := ⟨gb460, 1, none⟩) (Kd.R_far (p := ⟨gb460, 0, none⟩) (Kd.R_types HO_44.out BK460.out (by decide)) (fun _ hk => hk.2) (.int .i64 t468)) (fun _ hk => hk.2) (.int .i64 t469)) (fun _ hk => hk.2) (.int .i64 t470)) (fun _ hk => hk.2) (.bool t471)) (fun _ hk => hk.2) (.int .i64 t472)) (fun _ h_ => h_.1))) hb); have n2_ := Aside0.mk (blk_below (g := gb379) (o := .cells #[.int .i64 a1_0, .int .i64 a1_1] 24 (0, 0)) (by refine blk_far ?_ NB379_460.out _; refine blk_far ?_ NB379_460.out _; refine blk_far ?_ NB379_460.out _; refine blk_far ?_ NB379_460.out _; refine blk_far ?_ NB379_460.out _; exact BK379.out) hb); have n3_ := Aside0.mk (blk_below (g := gb388) (o := .cells #[.int .i64 ((rd_T24 y384 x37_1).f0), .int .i64 ((rd_T24 y384 x37_1).f1)] 24 (0, 0)) (by refine blk_far ?_ NB388_460.out _; refine blk_far ?_ NB388_460.out _; refine blk_far ?_ NB388_460.out _; refine blk_far ?_ NB388_460.out _; refine blk_far ?_ NB388_460.out _; exact BK388.out) hb); have n4_ := Aside0.mk (blk_below (g := gb453) (o := .cells #[.int .i64 t462, .int .i64 t463, .int .i64 t464, .bool t465, .int .i64 t466] 33 (0, 0)) (by refine blk_far ?_ NB453_460.out _; refine blk_far ?_ NB453_460.out _; refine blk_far ?_ NB453_460.out _; refine blk_far ?_ NB453_460.out _; refine blk_far ?_ NB453_460.out _; exact BK453.out) hb); have n5_ := Aside0.mk (blk_below (g := gb460) (o := .cells #[.int .i64 t468, .int .i64 t469, .int .i64 t470, .bool t471, .int .i64 t472] 33 (0, 0)) (by refine blk_put (cs := #[.int .i64 t468, .int .i64 t469, .int .i64 t470, .bool t471, .int .i64 t458]) ?_ 4 _ rfl; refine blk_put (cs := #[.int .i64 t468, .int .i64 t469, .int .i64 t470, .bool t457, .int .i64 t458]) ?_ 3 _ rfl; refine blk_put (cs := #[.int .i64 t468, .int .i64 t469, .int .i64 t456, .bool t457, .int .i64 t458]) ?_ 2 _ rfl; refine blk_put (cs := #[.int .i64 t468, .int .i64 t455, .int .i64 t456, .bool t457, .int .i64 t458]) ?_ 1 _ rfl; refine blk_put (cs := #[.int .i64 t454, .int .i64 t455, .int .i64 t456, .bool t457, .int .i64 t458]) ?_ 0 _ rfl; exact BK460.out) hb); have n6_ := Aside0.mk (below_step (by repeat (first | (with_reducible first | exact HB.out | apply below_alloc | apply pw_below_drewN | apply below_drew1 | refine below_set ?_ GE379.out | refine below_set ?_ GE388.out | refine below_set ?_ GE453.out | refine below_set ?_ GE460.out) | exact HB.out)) hb); clear HO_35; clear HO_44; clear BK379; clear BK388; clear BK453; clear BK460; clear HB; have HO_35 := n0_; have HO_44 := n1_; have BK379 := n2_; have BK388 := n3_; have BK453 := n4_; have BK460 := n5_; have HB := n6_; clear n0_ n1_ n2_ n3_ n4_ n5_ n6_; (try clear hb); (try clear hb2); (try clear hk); (try clear hi)))
                          go_roundg k2
                          case measure => have := HK1.out; have := HK2.out; omega
                          case rel => exact ⟨(wrap64 (x37_1 + 1)), (by first | rfl | (simp; done) | (simp [*]; done)), H', ⟨by have := HK1.out; have := HK2.out; omega⟩, ⟨by (with_reducible repeat (first | apply Kd.R_alloc | apply Kd.R_drewN | apply Kd.R_drew)); exact Kd.R_mono HO_35.out (fun _ hk => hk.1)⟩, ⟨by exact BK379.out⟩, ⟨by repeat (first | (with_reducible first | exact HB.out | apply below_alloc | apply pw_below_drewN | apply below_drew1 | refine below_set ?_ GE379.out | refine below_set ?_ GE388.out | refine below_set ?_ GE453.out | refine below_set ?_ GE460.out) | exact HB.out)⟩⟩
                        · replace c206 := Bool.eq_false_iff.mpr c206
                          subst c206
                          have H1 : (some false) = some r := by rw [if_neg (show ¬ (false = true) by decide)] at H; exact H
                          clear H
                          have H := H1
                          clear H1
                          exact absurd ((Option.some.inj H).trans HT.out) (by decide)
                      · replace c202 := Bool.eq_false_iff.mpr c202
                        subst c202
                        have H1 : (some false) = some r := by rw [if_neg (show ¬ (false = true) by decide)] at H; exact H
                        clear H
                        have H := H1
                        clear H1
                        exact absurd ((Option.some.inj H).trans HT.out) (by decide)
              · rw [if_neg c21] at H
                exact absurd H (by simp)
            · rw [if_neg c20] at H
              exact absurd H (by simp)
          · rw [if_neg c19] at H
            have c19b0 : decide (x37_1 < (y384.length : Int)) = false := decide_eq_false c19
            clear c19
            obtain rfl := Option.some.inj H
            go_wp2
            go_ret
            exact ⟨by first | rfl | (simp [errW_none, errW_some] <;> rfl) | (simp [*, errW_none, errW_some] <;> rfl), by repeat (first | (with_reducible first | exact HB.out | apply below_alloc | apply pw_below_drewN | apply below_drew1 | refine below_set ?_ GE379.out) | exact HB.out)⟩
    · replace c10 := Bool.eq_false_iff.mpr c10
      subst c10
      have H1 : (some true) = some r := by rw [if_neg (show ¬ (false = true) by decide)] at H; exact H
      clear H
      have H := H1
      clear H1
      obtain rfl := Option.some.inj H
      go_enter Try.func4, Try.ntmps4
      go_wp2_with (first | ((with_reducible refine gate_dst (N := 7) rfl ?_); refine box_event ?hg (N := 7) ?hd (cs := #[.int .i64 a1_0, .int .i64 a1_1]) (t := 24) ?hr ?_; (case hd => rfl); (case hg => rfl); (case hr => first | (go_simp; done) | (go_simp; rfl)); intro gb379 hg w271 hbox hb; have n0_ := Aside0.mk (below_step (by repeat (first | (with_reducible first | exact HB.out | apply below_alloc | apply pw_below_drewN | apply below_drew1) | exact HB.out)) hb); have n1_ := Aside0.mk (hbox); have n2_ := Aside0.mk ((by rw [hg]; exact (below_size (by repeat (first | (with_reducible first | exact HB.out | apply below_alloc | apply pw_below_drewN | apply below_drew1) | exact HB.out))) : w.heap.size ≤ gb379)); have n3_ := Aside0.mk ((by rw [hg]; exact (below_size (by repeat (first | (with_reducible first | exact HB.out | apply below_alloc | apply pw_below_drewN | apply below_drew1) | exact HB.out))) : w.heap.size ≤ gb379)); clear HB; have HB := n0_; have BK379 := n1_; have GW379 := n2_; have GE379 := n3_; clear n0_ n1_ n2_ n3_; clear hb hbox hg) | ((with_reducible refine gate_callee (f := 9) rfl ?_); refine goesL_ (some 25) rfl rfl Try.func9 (by kernel_rfl) rfl #[] rfl (by (try simp only [List.map_toArray, List.map_cons, List.map_nil]); first | done | rfl | (simp only [List.length_drop, List.length_take]; rfl)) ?_; (with_reducible refine (foolscaplaw7_known.calls k  true _ A7.out rfl).mono ?_); rintro e w272 ⟨rfl, hb⟩; refine ⟨_, rfl, ?_⟩; have n0_ := Aside0.mk (blk_below (g := gb379) (o := .cells #[.int .i64 a1_0, .int .i64 a1_1] 24 (0, 0)) (by exact BK379.out) hb); have n1_ := Aside0.mk (below_step (by repeat (first | (with_reducible first | exact HB.out | apply below_alloc | apply pw_below_drewN | apply below_drew1 | refine below_set ?_ GE379.out) | exact HB.out)) hb); clear BK379; clear HB; have BK379 := n0_; have HB := n1_; clear n0_ n1_; (try clear hb); (try clear hb2); (try clear hk); (try clear hi)) | ((with_reducible refine gate_callee (f := 10) rfl ?_); refine goesL_ (some 28) rfl rfl Try.func10 (by kernel_rfl) rfl #[.slice A0 l0.length c0] rfl (by (try simp only [List.map_toArray, List.map_cons, List.map_nil]); first | done | rfl | (simp only [List.length_drop, List.length_take]; rfl)) ?_; (with_reducible refine (foolscaphelp_Text.calls k _ _ l0 false _ ?side1 ?side2 A9.out).mono ?_); (case side1 => repeat (first | exact (Kd.C_below HR0.out HB.out) | (with_reducible refine Kd.C_alloc ?_ _) | (with_reducible refine Kd.C_drewN ?_ _) | (with_reducible refine Kd.C_drew ?_))); (case side2 => exact HC0.out); rintro e w' ⟨rfl, ⟨nd, rfl⟩⟩; refine ⟨_, rfl, ?_⟩))
      go_ret
      exact ⟨by first | rfl | (simp [errW_none, errW_some] <;> rfl) | (simp [*, errW_none, errW_some] <;> rfl), by repeat (first | (with_reducible first | exact HB.out | apply below_alloc | apply pw_below_drewN | apply below_drew1 | refine below_set ?_ GE379.out) | exact HB.out)⟩
  · replace c8 := Bool.eq_false_iff.mpr c8
    subst c8
    have H1 : (some false) = some r := by rw [if_neg (show ¬ (false = true) by decide)] at H; exact H
    clear H
    have H := H1
    clear H1
    exact absurd ((Option.some.inj H).trans HT.out) (by decide)
end Go.Proofs.Ytdiakjamahdcfaa.V
namespace Go.Proofs.Ytdiakjamahdcfaa.Pure
open Go.RowKit Go.Proofs.Ytdiakjamahdcfaa.V Go.Proofs.YtdiakjamahdcfaaW.PrintWords Go.Proofs.YtdiakjamahdcfaaW.PrintLast Go.Proofs.YtdiakjamahdcfaaW.PrintMore

theorem known_true (k : Nat) (hk : 20 ≤ k) : foolscaplaw7_known.f k = some true := at_rounds foolscaplaw7_known.mono hk (by decide +kernel)

end Go.Proofs.Ytdiakjamahdcfaa.Pure
namespace Go.Proofs.Ytdiakjamahdcfaa.Pure
open Go.RowKit Go.Proofs.Ytdiakjamahdcfaa.V Go.Proofs.YtdiakjamahdcfaaW.PrintWords Go.Proofs.YtdiakjamahdcfaaW.PrintLast Go.Proofs.YtdiakjamahdcfaaW.PrintMore

theorem w64 {x : Int} (h0 : -9223372036854775808 ≤ x) (h1 : x < 9223372036854775808) : wrap64 x = x := by unfold wrap64; omega

def ofS (c : Int) (big : Bool) : Int :=
  if c = 32 ∨ c = 9 then 0 else if big = true then 1
  else if (97 ≤ c ∧ c ≤ 122) ∨ (65 ≤ c ∧ c ≤ 90) ∨ (48 ≤ c ∧ c ≤ 57) ∨ c = 95 ∨ 128 ≤ c then 1 else 2

theorem ofS_else {c : Int} (h1 : ¬ c = 32) (h2 : ¬ c = 9) (b : Bool) : ofS c b = if b = true then 1 else if (97 ≤ c ∧ c ≤ 122) ∨ (65 ≤ c ∧ c ≤ 90) ∨ (48 ≤ c ∧ c ≤ 57) ∨ c = 95 ∨ 128 ≤ c then 1 else 2 := by
  unfold ofS
  rw [if_neg (by omega)]

theorem mn_le {a b : Int} (h : a ≤ b) : mn a b = a := by unfold mn; rw [if_neg (by omega)]
theorem mn_ge {a b : Int} (h : b ≤ a) : mn a b = b := by unfold mn; split <;> omega
theorem mx_le {a b : Int} (h : a ≤ b) : mx a b = b := by unfold mx; split <;> omega
theorem mx_ge {a b : Int} (h : b ≤ a) : mx a b = a := by unfold mx; rw [if_neg (by omega)]

/-- a motion: where to, its way, whether it jumps, what is wanted; is there one? -/
abbrev Mv := Int × Int × Int × Bool × Int × Bool
abbrev no : Mv := (0, 0, 0, false, 0, false)


theorem ln_mem {l : List ByteArray} {j : Int} (h0 : 0 ≤ j) (h1 : j < l.length) : rdOf ByteArray.empty l j ∈ l := by
  unfold rdOf
  rw [List.getD, List.getElem?_eq_getElem (by omega)]
  exact List.getElem_mem _

/-- what 'Text' tells of lines. -/
def Small (l : List ByteArray) : Prop := 0 < l.length ∧ l.length ≤ 40 ∧ ∀ s ∈ l, s.size ≤ 1200

theorem light_l (l : List ByteArray) (hs : ∀ s ∈ l, s.size ≤ 140737488351232) (hl : l.length ≤ 40) (d : Nat) :
    (∀ (k : Nat) (n : Int) (i : Nat), i ≤ l.length → l.length - i = d → 0 ≤ n → n ≤ 1200 → d * 1210 + 1 ≤ k →
      ∃ b, foolscaphelp_Light.l0 k l n (i : Int) = some b ∧ (b = true → ∀ j : Int, (i : Int) ≤ j → j < l.length → (rdOf ByteArray.empty l j).size ≤ 1200)) := by
  induction d with
  | zero =>
    intro k n i hi hd h0 h1 hk
    obtain ⟨k, rfl⟩ : ∃ m, k = m + 1 := ⟨k - 1, by omega⟩
    refine ⟨true, ?_, fun _ j h1 h2 => by omega⟩
    simp only [foolscaphelp_Light.l0]
    rw [if_neg (by omega)]
  | succ d ih =>
    intro k n i hi hd h0 h1 hk
    obtain ⟨k, rfl⟩ : ∃ m, k = m + 1 := ⟨k - 1, by omega⟩
    have hz := hs _ (ln_mem (l := l) (j := i) (by omega) (by omega))
    have e1 : wrap64 (n + ((rdOf ByteArray.empty l i).size : Int)) = n + ((rdOf ByteArray.empty l i).size : Int) := w64 (by omega) (by omega)
    simp only [foolscaphelp_Light.l0]
    rw [if_pos (by omega), if_pos (by omega), e1]
    by_cases hb : n + ((rdOf ByteArray.empty l i).size : Int) > 1200
    · rw [if_pos hb]
      exact ⟨false, rfl, fun h => by cases h⟩
    · rw [if_neg hb]
      obtain ⟨m, hm⟩ : ∃ m, m = d * 1210 + 1 := ⟨_, rfl⟩
      have hmk : (rdOf ByteArray.empty l (i : Int)).size + m + 2 ≤ k := by omega
      rw [← hm] at ih
      clear hm hk
      have inner : ∀ (e : Nat) (k c : Nat), c ≤ (rdOf ByteArray.empty l i).size → (rdOf ByteArray.empty l i).size - c = e → e + m + 2 ≤ k →
          ∃ b, foolscaphelp_Light.l1 k l (n + ((rdOf ByteArray.empty l i).size : Int)) (i : Int) (c : Int) = some b ∧ (b = true → ∀ j : Int, ((i + 1 : Nat) : Int) ≤ j → j < l.length → (rdOf ByteArray.empty l j).size ≤ 1200) := by
        intro e
        induction e with
        | zero =>
          intro k c hc he hk
          obtain ⟨k, rfl⟩ : ∃ m, k = m + 1 := ⟨k - 1, by omega⟩
          simp only [foolscaphelp_Light.l1]
          rw [if_pos (by omega), if_pos (by omega), if_neg (by omega), w64 (by omega) (by omega)]
          exact ih k _ (i + 1) (by omega) (by omega) (by omega) (by omega) (by omega)
        | succ e ih2 =>
          intro k c hc he hk
          obtain ⟨k, rfl⟩ : ∃ m, k = m + 1 := ⟨k - 1, by omega⟩
          simp only [foolscaphelp_Light.l1]
          rw [if_pos (by omega), if_pos (by omega), if_pos (by omega), if_pos (by omega)]
          split
          · exact ⟨false, rfl, fun h => by cases h⟩
          · rw [w64 (by omega) (by omega)]
            exact ih2 k (c + 1) (by omega) (by omega) (by omega)
      obtain ⟨b, hb1, hb2⟩ := inner (rdOf ByteArray.empty l i).size k 0 (Nat.zero_le _) (Nat.sub_zero _) hmk
      refine ⟨b, hb1, fun h j h2 h3 => ?_⟩
      by_cases hj : j = i
      · subst hj
        omega
      · exact hb2 h j (by omega) h3

theorem text_tells (l : List ByteArray) (hs : ∀ s ∈ l, s.size ≤ 140737488351232) (k : Nat) (hk : 50000 ≤ k) :
    ∃ b, foolscaphelp_Text.f k l = some b ∧ (b = true → Small l) := by
  unfold foolscaphelp_Text.f
  by_cases h : (l.length : Int) > 0
  · rw [if_pos h]
    unfold foolscaphelp_Light.f
    by_cases h2 : (l.length : Int) > 40
    · rw [if_pos h2]
      exact ⟨false, rfl, fun h => by cases h⟩
    · rw [if_neg h2]
      obtain ⟨b, hb, hb2⟩ := light_l l hs (by omega) l.length k 0 0 (by omega) (by omega) (by omega) (by omega) (by omega)
      refine ⟨b, by rw [show ((0 : Nat) : Int) = 0 from rfl] at hb; rw [hb]; rfl, fun ht => ⟨by omega, by omega, fun s hs => ?_⟩⟩
      obtain ⟨j, hj, rfl⟩ := List.getElem_of_mem hs
      have := hb2 ht j (by omega) (by omega)
      unfold rdOf at this
      rw [List.getD, List.getElem?_eq_getElem (by omega)] at this
      exact this
  · rw [if_neg h]
    exact ⟨false, rfl, fun h => by cases h⟩

theorem Small.at {l : List ByteArray} (h : Small l) {j : Int} (h0 : 0 ≤ j) (h1 : j < l.length) : (rdOf ByteArray.empty l j).size ≤ 1200 := h.2.2 _ (ln_mem h0 h1)

end Go.Proofs.Ytdiakjamahdcfaa.Pure
namespace Go.Proofs.Ytdiakjamahdcfaa.Pure
open Go.RowKit Go.Proofs.Ytdiakjamahdcfaa.V Go.Proofs.YtdiakjamahdcfaaW.PrintWords Go.Proofs.YtdiakjamahdcfaaW.PrintLast Go.Proofs.YtdiakjamahdcfaaW.PrintMore

/-- is (a, b) a place of the lines? -/
def PlaceP (l : List ByteArray) (a b : Int) : Prop := 0 ≤ a ∧ a < l.length ∧ 0 ≤ b ∧ b ≤ (rdOf ByteArray.empty l a).size
instance (l : List ByteArray) (a b : Int) : Decidable (PlaceP l a b) := by unfold PlaceP; infer_instance

theorem place_class (l : List ByteArray) (a b : Int) : class_Place.f l a b = some (decide (PlaceP l a b)) := by
  unfold class_Place.f
  by_cases h1 : a ≥ 0
  · rw [if_pos h1]
    by_cases h2 : a < l.length
    · rw [if_pos h2]
      by_cases h3 : b ≥ 0
      · rw [if_pos h3, if_pos h1]
        congr 1
        simp only [decide_eq_decide]
        exact ⟨fun h => ⟨h1, h2, h3, h⟩, fun h => h.2.2.2⟩
      · rw [if_neg h3, decide_eq_false (fun h => h3 h.2.2.1)]
    · rw [if_neg h2, decide_eq_false (fun h => h2 h.2.1)]
  · rw [if_neg h1, decide_eq_false (fun h => h1 h.1)]

/-- the place that two numbers name. -/
theorem seat_place {l : List ByteArray} (hl : Small l) (a b : Int) (ha : 0 ≤ a) (ha2 : a ≤ 65535) (hb : 0 ≤ b) (hb2 : b ≤ 65535) :
    ∃ x y, foolscapseat_Place.f l a b = some (x, y) ∧ PlaceP l x y := by
  obtain ⟨h1, h2, h3⟩ := hl
  have e : Int.tmod a l.length = a % l.length := Int.tmod_eq_emod_of_nonneg ha
  have g0 : 0 ≤ a % (l.length : Int) := Int.emod_nonneg _ (by omega)
  have g1 : a % (l.length : Int) < l.length := Int.emod_lt_of_pos _ (by omega)
  have hz := Small.at ⟨h1, h2, h3⟩ g0 g1
  unfold foolscapseat_Place.f
  rw [if_neg (by omega), w64 (x := a) (by omega) (by omega), e, if_pos g0, if_pos g1, w64 (x := b) (by omega) (by omega), w64 (x := ((rdOf ByteArray.empty l (a % (l.length : Int))).size : Int) + 1) (by omega) (by omega), if_neg (by omega)]
  refine ⟨_, _, rfl, g0, g1, ?_, ?_⟩
  · rw [Int.tmod_eq_emod_of_nonneg hb]
    exact Int.emod_nonneg _ (by omega)
  · rw [Int.tmod_eq_emod_of_nonneg hb]
    have := Int.emod_lt_of_pos b (b := ((rdOf ByteArray.empty l (a % (l.length : Int))).size : Int) + 1) (by omega)
    omega

end Go.Proofs.Ytdiakjamahdcfaa.Pure
namespace Go.Proofs.Ytdiakjamahdcfaa.Pure
open Go.RowKit Go.Proofs.Ytdiakjamahdcfaa.V Go.Proofs.YtdiakjamahdcfaaW.PrintWords Go.Proofs.YtdiakjamahdcfaaW.PrintLast Go.Proofs.YtdiakjamahdcfaaW.PrintMore

theorem fails_chars (l : List ByteArray) (a b n : Int) : chars_fails.f l a b n = some (!decide (PlaceP l a b ∧ 1 ≤ n)) := by
  unfold chars_fails.f
  by_cases h1 : n < 1
  · rw [if_pos h1, decide_eq_false (fun h => by omega)]
    rfl
  · rw [if_neg h1, place_class]
    simp only [Option.bind_some]
    by_cases h2 : PlaceP l a b
    · rw [decide_eq_true h2, decide_eq_true ⟨h2, by omega⟩]
    · rw [decide_eq_false h2, decide_eq_false (fun h => h2 h.1)]

end Go.Proofs.Ytdiakjamahdcfaa.Pure
namespace Go.Proofs.Ytdiakjamahdcfaa.Pure
open Go.RowKit Go.Proofs.Ytdiakjamahdcfaa.V Go.Proofs.YtdiakjamahdcfaaW.PrintWords Go.Proofs.YtdiakjamahdcfaaW.PrintLast Go.Proofs.YtdiakjamahdcfaaW.PrintMore

/-- the motion left. -/
def leftS (l : List ByteArray) (p0 p1 n : Int) : Mv := if (PlaceP l p0 p1 ∧ 1 ≤ n) ∧ p1 ≠ 0 then (p0, p1 - mn n p1, 0, false, -1, true) else no
/-- how far right a motion may lead. -/
def edge (l : List ByteArray) (p0 : Int) (past : Bool) : Int := if past = true then (rdOf ByteArray.empty l p0).size else (rdOf ByteArray.empty l p0).size - 1
/-- the motion right. -/
def rightS (l : List ByteArray) (p0 p1 n : Int) (past : Bool) : Mv :=
  if (PlaceP l p0 p1 ∧ 1 ≤ n) ∧ (rdOf ByteArray.empty l p0).size ≠ 0 ∧ p1 < edge l p0 past then (p0, p1 + mn n (edge l p0 past - p1), 0, false, -1, true) else no

theorem left_chars {l : List ByteArray} (hl : Small l) (p0 p1 n : Int) : chars_Left.f l p0 p1 n = some (leftS l p0 p1 n) := by
  unfold chars_Left.f leftS
  rw [fails_chars]
  simp only [Option.bind_some, chars_to.f]
  by_cases hp : PlaceP l p0 p1 ∧ 1 ≤ n
  · rw [decide_eq_true hp, Bool.not_true, if_neg (by decide)]
    by_cases h0 : p1 = 0
    · rw [if_pos h0, if_neg (fun h => h.2 h0)]
    · obtain ⟨⟨a1, a2, a3, a4⟩, h1⟩ := id hp
      have hz := hl.at a1 a2
      have hm : 0 ≤ mn n p1 ∧ mn n p1 ≤ p1 := by unfold mn; split <;> omega
      rw [if_neg h0, if_pos ⟨hp, h0⟩, w64 (by omega) (by omega)]
  · rw [decide_eq_false hp, Bool.not_false, if_pos rfl, if_neg (fun h => hp h.1)]

theorem empty_line (s : ByteArray) : (s.toList == ([] : List UInt8)) = decide (s.size = 0) := by
  have h : s.toList = s.data.toList := ByteArray.toList_eq s
  rw [h]
  have : s.size = s.data.toList.length := by simp
  rw [this]
  cases s.data.toList <;> rfl

theorem right_chars {l : List ByteArray} (hl : Small l) (p0 p1 n : Int) (past : Bool) (k : Nat) (hk : 1 ≤ k) : chars_Right.f k l p0 p1 n past = some (rightS l p0 p1 n past) := by
  obtain ⟨k, rfl⟩ : ∃ m, k = m + 1 := ⟨k - 1, by omega⟩
  unfold chars_Right.f rightS
  rw [fails_chars]
  simp only [Option.bind_some, chars_Right.j0, chars_to.f]
  by_cases hp : PlaceP l p0 p1 ∧ 1 ≤ n
  · rw [decide_eq_true hp, Bool.not_true, if_neg (by decide)]
    obtain ⟨⟨a1, a2, a3, a4⟩, h1⟩ := id hp
    have hz := hl.at a1 a2
    rw [if_pos a1, if_pos a2, empty_line]
    by_cases h0 : (rdOf ByteArray.empty l p0).size = 0
    · rw [decide_eq_true h0, if_pos rfl, if_neg (fun h => h.2.1 h0)]
    · rw [decide_eq_false h0, if_neg (by decide), if_pos a1, if_pos a2, w64 (x := ((rdOf ByteArray.empty l p0).size : Int) - 1) (by omega) (by omega), w64 (x := ((rdOf ByteArray.empty l p0).size : Int) - 1 + 1) (by omega) (by omega)]
      cases past with
      | true =>
        simp only [edge, if_true]
        by_cases h2 : p1 ≥ ((rdOf ByteArray.empty l p0).size : Int) - 1 + 1
        · rw [if_pos h2, if_neg (fun h => by omega)]
        · have hm : 0 ≤ mn n (((rdOf ByteArray.empty l p0).size : Int) - p1) ∧ mn n (((rdOf ByteArray.empty l p0).size : Int) - p1) ≤ ((rdOf ByteArray.empty l p0).size : Int) - p1 := by unfold mn; split <;> omega
          rw [if_neg h2, if_pos ⟨hp, h0, by omega⟩, w64 (x := ((rdOf ByteArray.empty l p0).size : Int) - 1 + 1 - p1) (by omega) (by omega),
            show ((rdOf ByteArray.empty l p0).size : Int) - 1 + 1 - p1 = (rdOf ByteArray.empty l p0).size - p1 by omega, w64 (by omega) (by omega)]
      | false =>
        simp only [edge, Bool.false_eq_true, if_false]
        by_cases h2 : p1 ≥ ((rdOf ByteArray.empty l p0).size : Int) - 1
        · rw [if_pos h2, if_neg (fun h => by omega)]
        · have hm : 0 ≤ mn n (((rdOf ByteArray.empty l p0).size : Int) - 1 - p1) ∧ mn n (((rdOf ByteArray.empty l p0).size : Int) - 1 - p1) ≤ ((rdOf ByteArray.empty l p0).size : Int) - 1 - p1 := by unfold mn; split <;> omega
          rw [if_neg h2, if_pos ⟨hp, h0, by omega⟩, w64 (x := ((rdOf ByteArray.empty l p0).size : Int) - 1 - p1) (by omega) (by omega), w64 (by omega) (by omega)]
  · rw [decide_eq_false hp, Bool.not_false, if_pos rfl, if_pos trivial, if_neg (fun h => hp h.1)]

end Go.Proofs.Ytdiakjamahdcfaa.Pure
namespace Go.Proofs.Ytdiakjamahdcfaa.Pure
open Go.RowKit Go.Proofs.Ytdiakjamahdcfaa.V Go.Proofs.YtdiakjamahdcfaaW.PrintWords Go.Proofs.YtdiakjamahdcfaaW.PrintLast Go.Proofs.YtdiakjamahdcfaaW.PrintMore

/-- the last byte's column. -/
def lastS (l : List ByteArray) (t : Int) : Int := mx (((rdOf ByteArray.empty l t).size : Int) - 1) 0
/-- the motion to a line's end, n - 1 lines below. -/
def endS2 (l : List ByteArray) (p0 p1 n : Int) : Mv := if (PlaceP l p0 p1 ∧ 1 ≤ n) ∧ n ≤ l.length - p0 then (p0 + n - 1, lastS l (p0 + n - 1), 1, false, 1073741824, true) else no
/-- the motion to a column. -/
def columnS (l : List ByteArray) (p0 p1 n : Int) : Mv := if PlaceP l p0 p1 ∧ 1 ≤ n then (p0, mn (mn n 1073741824 - 1) (lastS l p0), 0, false, mn n 1073741824 - 1, true) else no

theorem mn_cap {n : Int} (h : 1 ≤ n) : 1 ≤ mn n 1073741824 ∧ mn n 1073741824 ≤ 1073741824 ∧ mn n 1073741824 ≤ n := by unfold mn; split <;> omega

theorem last_chars {l : List ByteArray} (hl : Small l) (p0 p1 n : Int) : chars_Last.f l p0 p1 n = some (endS2 l p0 p1 n) := by
  unfold chars_Last.f endS2
  rw [fails_chars]
  simp only [Option.bind_some]
  by_cases hp : PlaceP l p0 p1 ∧ 1 ≤ n
  · rw [decide_eq_true hp, Bool.not_true, if_neg (by decide)]
    obtain ⟨⟨a1, a2, a3, a4⟩, h1⟩ := id hp
    have h40 := hl.2.1
    rw [w64 (x := (l.length : Int) - p0) (by omega) (by omega)]
    by_cases h2 : n > l.length - p0
    · rw [if_pos h2, if_neg (fun h => by omega)]
    · have hz := hl.at (j := p0 + n - 1) (by omega) (by omega)
      rw [if_neg h2, w64 (x := p0 + n) (by omega) (by omega), w64 (x := p0 + n - 1) (by omega) (by omega), if_pos (by omega), if_pos (by omega), if_pos ⟨hp, by omega⟩, w64 (by omega) (by omega)]
      rfl
  · rw [decide_eq_false hp, Bool.not_false, if_pos rfl, if_neg (fun h => hp h.1)]

theorem column_chars {l : List ByteArray} (hl : Small l) (p0 p1 n : Int) : chars_Column.f l p0 p1 n = some (columnS l p0 p1 n) := by
  unfold chars_Column.f columnS
  rw [fails_chars]
  simp only [Option.bind_some, chars_to.f]
  by_cases hp : PlaceP l p0 p1 ∧ 1 ≤ n
  · rw [decide_eq_true hp, Bool.not_true, if_neg (by decide), if_pos hp]
    obtain ⟨⟨a1, a2, a3, a4⟩, h1⟩ := hp
    have hz := hl.at a1 a2
    have hc := mn_cap h1
    rw [if_pos a1, if_pos a2, w64 (x := mn n 1073741824 - 1) (by omega) (by omega), w64 (by omega) (by omega)]
    rfl
  · rw [decide_eq_false hp, Bool.not_false, if_pos rfl, if_neg hp]

end Go.Proofs.Ytdiakjamahdcfaa.Pure
namespace Go.Proofs.Ytdiakjamahdcfaa.Pure
open Go.RowKit Go.Proofs.Ytdiakjamahdcfaa.V Go.Proofs.YtdiakjamahdcfaaW.PrintWords Go.Proofs.YtdiakjamahdcfaaW.PrintLast Go.Proofs.YtdiakjamahdcfaaW.PrintMore

theorem of_class (k : Nat) (c : Int) (b : Bool) (hk : 5 ≤ k) : class_Of.f k c b = some (ofS c b) := by
  obtain ⟨k, rfl⟩ : ∃ m, k = m + 1 + 1 + 1 + 1 + 1 := ⟨k - 5, by omega⟩
  unfold class_Of.f
  simp only [class_Of.j0, class_Of.j1, class_Of.j2, class_Of.j3]
  by_cases h1 : c = 32
  · subst h1; simp [ofS]
  · rw [if_neg h1]
    by_cases h2 : c = 9
    · subst h2; simp [ofS]
    · have h3 : (c == 9) = false := by simpa using h2
      rw [ofS_else h1 h2]
      simp only [h3, Bool.false_eq_true, if_false]
      cases b with
      | true => rfl
      | false =>
        simp only [Bool.false_eq_true, if_false]
        (repeat' split) <;> first | rfl | (exfalso; (try simp only [decide_eq_true_eq] at *); omega)

theorem of_ref (k : Nat) (c : Int) (b : Bool) (hk : 1 ≤ k) : foolscapref5_Of.f k c b = some (ofS c b) := by
  obtain ⟨k, rfl⟩ : ∃ m, k = m + 1 := ⟨k - 1, by omega⟩
  unfold foolscapref5_Of.f
  simp only [foolscapref5_Of.j0]
  by_cases h1 : c = 32
  · subst h1; simp [ofS]
  · rw [if_neg h1]
    by_cases h2 : c = 9
    · subst h2; simp [ofS]
    · have h3 : (c == 9) = false := by simpa using h2
      rw [ofS_else h1 h2]
      simp only [h3, Bool.false_eq_true, if_false]
      cases b with
      | true => rfl
      | false =>
        simp only [Bool.false_eq_true, if_false]
        (repeat' split) <;> first | rfl | (exfalso; omega)

/-- the first byte that is no blank, from i on. -/
def firstS (s : ByteArray) (i : Nat) : Int :=
  if i < s.size then (if ofS (bt s i) true = 0 then firstS s (i + 1) else i) else mx ((s.size : Int) - 1) 0
  termination_by s.size - i

theorem first_class_l (s : ByteArray) (hs : s.size ≤ 140737488351232) (d : Nat) : ∀ (k i : Nat), i ≤ s.size → s.size - i = d → d + 6 ≤ k →
    class_First.l0 k s (s.size : Int) (i : Int) = some (firstS s i) := by
  induction d with
  | zero =>
    intro k i hi hd hk
    obtain ⟨k, rfl⟩ : ∃ m, k = m + 1 := ⟨k - 1, by omega⟩
    simp only [class_First.l0]
    unfold firstS
    rw [if_neg (by omega), if_neg (by omega), w64 (by omega) (by omega)]
  | succ d ih =>
    intro k i hi hd hk
    obtain ⟨k, rfl⟩ : ∃ m, k = m + 1 := ⟨k - 1, by omega⟩
    simp only [class_First.l0]
    unfold firstS
    rw [if_pos (by omega), if_pos (by omega), if_pos (by omega), if_pos (by omega), of_class k _ _ (by omega)]
    simp only [Option.bind_some]
    split
    · rw [w64 (by omega) (by omega)]
      exact ih k (i + 1) (by omega) (by omega) (by omega)
    · rfl

theorem first_class (s : ByteArray) (hs : s.size ≤ 140737488351232) (k : Nat) (hk : s.size + 6 ≤ k) : class_First.f k s = some (firstS s 0) := by
  unfold class_First.f
  exact first_class_l s hs s.size k 0 (by omega) (by omega) (by omega)

theorem first_ref_l (s : ByteArray) (hs : s.size ≤ 140737488351232) (d : Nat) : ∀ (k i : Nat), i ≤ s.size → s.size - i = d → d + 6 ≤ k →
    foolscapref5_First.l0 k s (i : Int) = some (firstS s i) := by
  induction d with
  | zero =>
    intro k i hi hd hk
    obtain ⟨k, rfl⟩ : ∃ m, k = m + 1 := ⟨k - 1, by omega⟩
    simp only [foolscapref5_First.l0]
    unfold firstS
    rw [if_neg (by omega), if_neg (by omega), w64 (by omega) (by omega)]
  | succ d ih =>
    intro k i hi hd hk
    obtain ⟨k, rfl⟩ : ∃ m, k = m + 1 := ⟨k - 1, by omega⟩
    simp only [foolscapref5_First.l0]
    unfold firstS
    rw [if_pos (by omega), if_pos (by omega), if_pos (by omega), of_ref k _ _ (by omega)]
    simp only [Option.bind_some]
    split
    · rw [w64 (by omega) (by omega)]
      exact ih k (i + 1) (by omega) (by omega) (by omega)
    · rfl

theorem first_ref (s : ByteArray) (hs : s.size ≤ 140737488351232) (k : Nat) (hk : s.size + 6 ≤ k) : foolscapref5_First.f k s = some (firstS s 0) := by
  unfold foolscapref5_First.f
  exact first_ref_l s hs s.size k 0 (by omega) (by omega) (by omega)



end Go.Proofs.Ytdiakjamahdcfaa.Pure
namespace Go.Proofs.Ytdiakjamahdcfaa.Pure
open Go.RowKit Go.Proofs.Ytdiakjamahdcfaa.V Go.Proofs.YtdiakjamahdcfaaW.PrintWords Go.Proofs.YtdiakjamahdcfaaW.PrintLast Go.Proofs.YtdiakjamahdcfaaW.PrintMore

theorem place_ref (l : List ByteArray) (a b : Int) : foolscapref5_Place.f l a b = some (decide (PlaceP l a b)) := place_class l a b

theorem may_ref (l : List ByteArray) (a b n : Int) : foolscapref5_may.f l a b n = some (decide (PlaceP l a b ∧ 1 ≤ n)) := by
  unfold foolscapref5_may.f
  rw [place_ref]
  simp only [Option.bind_some]
  by_cases h : PlaceP l a b
  · rw [decide_eq_true h, if_pos rfl]
    congr 1
    simp only [decide_eq_decide]
    exact ⟨fun h2 => ⟨h, h2⟩, fun h2 => h2.2⟩
  · rw [decide_eq_false h, if_neg (by decide), decide_eq_false (fun h2 => h h2.1)]


end Go.Proofs.Ytdiakjamahdcfaa.Pure
namespace Go.Proofs.Ytdiakjamahdcfaa.Pure
open Go.RowKit Go.Proofs.Ytdiakjamahdcfaa.V Go.Proofs.YtdiakjamahdcfaaW.PrintWords Go.Proofs.YtdiakjamahdcfaaW.PrintLast Go.Proofs.YtdiakjamahdcfaaW.PrintMore

theorem left_ref {l : List ByteArray} (hl : Small l) (p0 p1 n : Int) (k : Nat) (hk : 1 ≤ k) : foolscapref5_Left.f k l p0 p1 n = some (leftS l p0 p1 n) := by
  obtain ⟨k, rfl⟩ : ∃ m, k = m + 1 := ⟨k - 1, by omega⟩
  unfold foolscapref5_Left.f leftS
  rw [may_ref]
  simp only [Option.bind_some, foolscapref5_Left.j0, foolscapref5_none.f, foolscapref5_capped.f, foolscapref5_to.f]
  by_cases hp : PlaceP l p0 p1 ∧ 1 ≤ n
  · rw [decide_eq_true hp, if_pos rfl]
    by_cases h0 : p1 = 0
    · rw [if_pos (by simpa using h0), if_neg (fun h => h.2 h0)]
    · obtain ⟨⟨a1, a2, a3, a4⟩, h1⟩ := id hp
      have hz := hl.at a1 a2
      rw [if_neg (by simpa using h0), if_pos ⟨hp, h0⟩]
      have e : mx (wrap64 (p1 - mn n 1073741824)) 0 = p1 - mn n p1 := by
        have hc : -1073741825 < p1 - mn n 1073741824 ∧ p1 - mn n 1073741824 < 2000 := by unfold mn; split <;> omega
        rw [w64 (by omega) (by omega)]
        unfold mx mn
        split <;> split <;> split <;> omega
      rw [e]
  · rw [decide_eq_false hp, if_neg (by decide), if_pos trivial, if_neg (fun h => hp h.1)]

theorem right_ref {l : List ByteArray} (hl : Small l) (p0 p1 n : Int) (past : Bool) (k : Nat) (hk : 2 ≤ k) : foolscapref5_Right.f k l p0 p1 n past = some (rightS l p0 p1 n past) := by
  obtain ⟨k, rfl⟩ : ∃ m, k = m + 1 + 1 := ⟨k - 2, by omega⟩
  unfold foolscapref5_Right.f rightS
  rw [may_ref]
  simp only [Option.bind_some, foolscapref5_none.f]
  by_cases hp : PlaceP l p0 p1 ∧ 1 ≤ n
  · rw [decide_eq_true hp, if_pos rfl]
    obtain ⟨⟨a1, a2, a3, a4⟩, h1⟩ := id hp
    have hz := hl.at a1 a2
    rw [if_pos a1, if_pos a2, w64 (x := ((rdOf ByteArray.empty l p0).size : Int) - 1) (by omega) (by omega)]
    have J : ∀ top : Int, top = edge l p0 past → foolscapref5_Right.j0 (k + 1 + 1) l n top p0 p1 = some (if (PlaceP l p0 p1 ∧ 1 ≤ n) ∧ (rdOf ByteArray.empty l p0).size ≠ 0 ∧ p1 < edge l p0 past then (p0, p1 + mn n (edge l p0 past - p1), 0, false, -1, true) else no) := by
      intro top ht
      have htop : top ≤ (rdOf ByteArray.empty l p0).size ∧ ((rdOf ByteArray.empty l p0).size : Int) - 1 ≤ top := by rw [ht]; unfold edge; split <;> omega
      simp only [foolscapref5_Right.j0, foolscapref5_Right.j1, foolscapref5_none.f, foolscapref5_capped.f, foolscapref5_to.f, Option.bind_some]
      rw [if_pos a1, if_pos a2, ← ht]
      by_cases h0 : (rdOf ByteArray.empty l p0).size = 0
      · rw [if_pos (by omega), if_pos trivial, if_neg (fun h => h.2.1 h0)]
      · rw [if_neg (by omega)]
        by_cases h2 : p1 ≥ top
        · rw [decide_eq_true h2, if_pos rfl, if_neg (fun h => by omega)]
        · rw [decide_eq_false h2, if_neg (by decide), if_pos ⟨hp, h0, by omega⟩]
          have e : mn (wrap64 (p1 + mn n 1073741824)) top = p1 + mn n (top - p1) := by
            have hc : 0 ≤ p1 + mn n 1073741824 ∧ p1 + mn n 1073741824 < 2000000000 := by unfold mn; split <;> omega
            rw [w64 (by omega) (by omega)]
            unfold mn
            split <;> split <;> split <;> omega
          rw [e]
    cases past with
    | true => rw [if_pos rfl]; exact J _ rfl
    | false => rw [if_neg (by decide)]; exact J _ rfl
  · rw [decide_eq_false hp, if_neg (by decide), if_neg (fun h => hp h.1)]

theorem last_ref {l : List ByteArray} (hl : Small l) (p0 p1 n : Int) (k : Nat) (hk : 1 ≤ k) : foolscapref5_Last.f k l p0 p1 n = some (endS2 l p0 p1 n) := by
  obtain ⟨k, rfl⟩ : ∃ m, k = m + 1 := ⟨k - 1, by omega⟩
  unfold foolscapref5_Last.f endS2
  rw [may_ref]
  simp only [Option.bind_some, foolscapref5_Last.j0, foolscapref5_none.f, foolscapref5_capped.f, foolscapref5_last.f]
  by_cases hp : PlaceP l p0 p1 ∧ 1 ≤ n
  · rw [decide_eq_true hp, if_pos rfl]
    obtain ⟨⟨a1, a2, a3, a4⟩, h1⟩ := id hp
    have h40 := hl.2.1
    have hc := mn_cap h1
    rw [w64 (x := p0 + mn n 1073741824) (by omega) (by omega), w64 (x := p0 + mn n 1073741824 - 1) (by omega) (by omega)]
    by_cases h2 : n ≤ l.length - p0
    · have hz := hl.at (j := p0 + n - 1) (by omega) (by omega)
      have e : mn n 1073741824 = n := mn_le (by omega)
      rw [e, decide_eq_false (by omega), if_neg (by decide), w64 (x := p0 + n) (by omega) (by omega), w64 (x := p0 + n - 1) (by omega) (by omega), if_pos (by omega), if_pos (by omega), if_pos ⟨hp, h2⟩, w64 (by omega) (by omega)]
      rfl
    · have e : (l.length : Int) - p0 < mn n 1073741824 := by unfold mn; split <;> omega
      rw [decide_eq_true (by omega), if_pos rfl, if_neg (fun h => h2 h.2)]
  · rw [decide_eq_false hp, if_neg (by decide), if_pos trivial, if_neg (fun h => hp h.1)]

theorem column_ref {l : List ByteArray} (hl : Small l) (p0 p1 n : Int) : foolscapref5_Column.f l p0 p1 n = some (columnS l p0 p1 n) := by
  unfold foolscapref5_Column.f columnS
  rw [may_ref]
  simp only [Option.bind_some, foolscapref5_none.f, foolscapref5_capped.f, foolscapref5_last.f]
  by_cases hp : PlaceP l p0 p1 ∧ 1 ≤ n
  · rw [decide_eq_true hp, if_pos rfl, if_pos hp]
    obtain ⟨⟨a1, a2, a3, a4⟩, h1⟩ := hp
    have hz := hl.at a1 a2
    have hc := mn_cap h1
    rw [if_pos a1, if_pos a2, w64 (x := mn n 1073741824 - 1) (by omega) (by omega), w64 (by omega) (by omega)]
    rfl
  · rw [decide_eq_false hp, if_neg (by decide), if_neg hp]

/-- the motion to a column of the same line that is reckoned. -/
def thereS (l : List ByteArray) (p0 p1 c : Int) : Mv := if PlaceP l p0 p1 then (p0, c, 0, false, -1, true) else no

theorem one_more (P : Prop) [Decidable P] : decide (P ∧ (1 : Int) ≤ 1) = decide P := by simp

theorem zero_chars (l : List ByteArray) (p0 p1 : Int) : chars_Zero.f l p0 p1 = some (thereS l p0 p1 0) := by
  unfold chars_Zero.f thereS
  rw [fails_chars]
  simp only [Option.bind_some, chars_to.f]
  by_cases hp : PlaceP l p0 p1
  · rw [decide_eq_true ⟨hp, by omega⟩, Bool.not_true, if_neg (by decide), if_pos hp]
  · rw [decide_eq_false (fun h => hp h.1), Bool.not_false, if_pos rfl, if_neg hp]

theorem zero_ref (l : List ByteArray) (p0 p1 : Int) : foolscapref5_Zero.f l p0 p1 = some (thereS l p0 p1 0) := by
  unfold foolscapref5_Zero.f thereS
  rw [may_ref]
  simp only [Option.bind_some, foolscapref5_none.f, foolscapref5_to.f]
  by_cases hp : PlaceP l p0 p1
  · rw [decide_eq_true ⟨hp, by omega⟩, if_pos rfl, if_pos hp]
  · rw [decide_eq_false (fun h => hp h.1), if_neg (by decide), if_neg hp]

theorem firstof_chars {l : List ByteArray} (hl : Small l) (p0 p1 : Int) (k : Nat) (hk : 1300 ≤ k) : chars_First.f k l p0 p1 = some (thereS l p0 p1 (firstS (rdOf ByteArray.empty l p0) 0)) := by
  unfold chars_First.f thereS
  rw [fails_chars]
  simp only [Option.bind_some, chars_to.f]
  by_cases hp : PlaceP l p0 p1
  · obtain ⟨a1, a2, a3, a4⟩ := id hp
    have hz := hl.at a1 a2
    rw [decide_eq_true ⟨hp, by omega⟩, Bool.not_true, if_neg (by decide), if_pos hp, if_pos a1, if_pos a2, first_class _ (by omega) k (by omega)]
    rfl
  · rw [decide_eq_false (fun h => hp h.1), Bool.not_false, if_pos rfl, if_neg hp]

theorem firstof_ref {l : List ByteArray} (hl : Small l) (p0 p1 : Int) (k : Nat) (hk : 1300 ≤ k) : foolscapref5_FirstOf.f k l p0 p1 = some (thereS l p0 p1 (firstS (rdOf ByteArray.empty l p0) 0)) := by
  unfold foolscapref5_FirstOf.f thereS
  rw [may_ref]
  simp only [Option.bind_some, foolscapref5_none.f, foolscapref5_to.f]
  by_cases hp : PlaceP l p0 p1
  · obtain ⟨a1, a2, a3, a4⟩ := id hp
    have hz := hl.at a1 a2
    rw [decide_eq_true ⟨hp, by omega⟩, if_pos rfl, if_pos hp, if_pos a1, if_pos a2, first_ref _ (by omega) k (by omega)]
    rfl
  · rw [decide_eq_false (fun h => hp h.1), if_neg (by decide), if_neg hp]

theorem same_self (r : Mv) : foolscaplaw7_same.f r.1 r.2.1 r.2.2.1 r.2.2.2.1 r.2.2.2.2.1 r.2.2.2.2.2 r.1 r.2.1 r.2.2.1 r.2.2.2.1 r.2.2.2.2.1 r.2.2.2.2.2 = some true := by
  unfold foolscaplaw7_same.f
  rw [if_pos (by simp)]
  simp

end Go.Proofs.Ytdiakjamahdcfaa.Pure
namespace Go.Proofs.Ytdiakjamahdcfaa.Pure
open Go.RowKit Go.Proofs.Ytdiakjamahdcfaa.V Go.Proofs.YtdiakjamahdcfaaW.PrintWords Go.Proofs.YtdiakjamahdcfaaW.PrintLast Go.Proofs.YtdiakjamahdcfaaW.PrintMore

theorem cmove_l1 {l : List ByteArray} (hl : Small l) (n : Int) (past : Bool) (ps : List S24) (pn pi : Int) (ns : List Int) (ht : ns.length ≤ 100) (p0 p1 : Int) (K : Nat) (hK : 1400 ≤ K)
    (H : ∀ k, K ≤ k → foolscaplaw7_CharsMove.l0 k l n past ps pn (wrap64 (pi + 1)) = some true) (d : Nat) :
    ∀ (k j : Nat), j ≤ ns.length → ns.length - j = d → K + d + 1 ≤ k → foolscaplaw7_CharsMove.l1 k l n past ps pn pi ns (ns.length : Int) (j : Int) p0 p1 = some true := by
  induction d with
  | zero =>
    intro k j hj hd hk
    obtain ⟨k, rfl⟩ : ∃ m, k = m + 1 := ⟨k - 1, by omega⟩
    simp only [foolscaplaw7_CharsMove.l1]
    rw [if_neg (by omega), zero_chars, zero_ref]
    simp only [Option.bind_some]
    rw [same_self]
    simp only [Option.bind_some, if_true]
    rw [firstof_chars hl p0 p1 k (by omega), firstof_ref hl p0 p1 k (by omega)]
    simp only [Option.bind_some]
    rw [same_self]
    simp only [Option.bind_some, if_true]
    exact H k (by omega)
  | succ d ih =>
    intro k j hj hd hk
    obtain ⟨k, rfl⟩ : ∃ m, k = m + 1 := ⟨k - 1, by omega⟩
    simp only [foolscaplaw7_CharsMove.l1]
    rw [if_pos (by omega), if_pos (by omega), if_pos (by omega), left_chars hl, left_ref hl p0 p1 _ k (by omega)]
    simp only [Option.bind_some]
    rw [same_self]
    simp only [Option.bind_some, if_true]
    rw [right_chars hl p0 p1 _ past k (by omega), right_ref hl p0 p1 _ past k (by omega)]
    simp only [Option.bind_some]
    rw [same_self]
    simp only [Option.bind_some, if_true]
    rw [last_chars hl, last_ref hl p0 p1 _ k (by omega)]
    simp only [Option.bind_some]
    rw [same_self]
    simp only [Option.bind_some, if_true]
    rw [column_chars hl, column_ref hl]
    simp only [Option.bind_some]
    rw [same_self]
    simp only [Option.bind_some, if_true]
    rw [w64 (by omega) (by omega)]
    exact ih k (j + 1) (by omega) (by omega) (by omega)

theorem cmove_l0 {l : List ByteArray} (hl : Small l) (n : Int) (past : Bool) (ps : List S24) (ht : ps.length ≤ 100) (d : Nat) :
    ∀ (k j : Nat), j ≤ ps.length → ps.length - j = d → 1400 + 30 * d + 1 ≤ k → foolscaplaw7_CharsMove.l0 k l n past ps (ps.length : Int) (j : Int) = some true := by
  induction d with
  | zero =>
    intro k j hj hd hk
    obtain ⟨k, rfl⟩ : ∃ m, k = m + 1 := ⟨k - 1, by omega⟩
    simp only [foolscaplaw7_CharsMove.l0]
    rw [if_neg (by omega)]
  | succ d ih =>
    intro k j hj hd hk
    obtain ⟨k, rfl⟩ : ∃ m, k = m + 1 := ⟨k - 1, by omega⟩
    simp only [foolscaplaw7_CharsMove.l0]
    rw [if_pos (by omega), if_pos (by omega), if_pos (by omega)]
    simp only [Option.bind_some]
    refine cmove_l1 hl n past ps _ _ [n, Int.tmod n 12] (by simp) _ _ (1400 + 30 * d + 1) (by omega) (fun k hk => ?_) 2 k 0 (by simp) (by simp) (by omega)
    rw [w64 (by omega) (by omega)]
    exact ih k (j + 1) (by omega) (by omega) (by omega)

theorem CharsMove (l0 : List ByteArray) (a1_0 a1_1 : Int) (a2 a3 a4 : Int) (a5 : Bool) (_ : l0.length * 16 ≤ 140737488351232) (hs0 : ∀ s ∈ l0, s.size ≤ 140737488351232) (_ : (Lit.int .i64 a1_0).wf = true) (_ : (Lit.int .i64 a1_1).wf = true)
    (w2 : (Lit.int .u16 a2).wf = true) (w3 : (Lit.int .u16 a3).wf = true) (_ : (Lit.int .i64 a4).wf = true) : ∃ k, foolscaplaw7_CharsMove.f k l0 a1_0 a1_1 a2 a3 a4 a5 = some true := by
  obtain ⟨k, hk⟩ : ∃ k : Nat, 60000 ≤ k := ⟨60000, Nat.le_refl _⟩
  refine ⟨k, ?_⟩
  unfold foolscaplaw7_CharsMove.f
  obtain ⟨b, hb, ht⟩ := text_tells l0 hs0 k (by omega)
  rw [known_true k (by omega)]
  simp only [Option.bind_some, if_true]
  rw [hb]
  simp only [Option.bind_some]
  cases b with
  | false => rfl
  | true =>
    have g2 := bounds_u16 w2
    have g3 := bounds_u16 w3
    obtain ⟨x, y, h1, -⟩ := seat_place (ht rfl) a2 a3 g2.1 g2.2 g3.1 g3.2
    rw [if_pos rfl, h1]
    simp only [Option.bind_some]
    exact cmove_l0 (ht rfl) a4 a5 [⟨a1_0, a1_1⟩, ⟨x, y⟩] (by simp) 2 k 0 (by simp) (by simp) (by omega)

end Go.Proofs.Ytdiakjamahdcfaa.Pure
namespace Go.Proofs.Ytdiakjamahdcfaa.charsMove
open Go.ChangeShapes Go.WideShapes Go.ChangeAt Go.RowKit Go.Proofs.YtdiakjamahdcfaaW.PrintWords
open Go.ChangeMaps (open_string shut_string)
set_option linter.unusedVariables false
theorem own : ownKnob Try.prog.godebug = none := by kernel_rfl
theorem laidOut : laidOutB Try.prog = true := by kernel_rfl
theorem weightsAll_mem {H : Type} {P : Program} {e : TypeId} {n : Nat} : ∀ {l : List (DataW H)} {d : DataW H}, d ∈ l → n ∈ d.weights P e → n ∈ DataW.weightsAll P e l
  | x :: r, d, hd, hn => by
    simp only [DataW.weightsAll, List.mem_append]
    rcases List.mem_cons.1 hd with rfl | h
    · exact Or.inl hn
    · exact Or.inr (weightsAll_mem h hn)
  | [], _, hd, _ => by simp at hd
theorem open_lines {H : Type} {enc : TypeId × Value → H} {P : Program} {W : World} {base : Nat} {held : Bool} {t e : TypeId} {a : Option Addr} {len cap : Nat} {d : DataW H} {ps : List MemPlace} {ts : List TypeId} {ds : List (DataW H)} {j : Nat}
    (hsz : (DataW.weightsEach P ts ds).all (· ≤ reachBytes) = true) (ht : ts[j]? = some t) (hd : ds[j]? = some d) (hu : P.underlying t = some (.slice e)) (he : P.underlying e = some .string) (hc : P.cellsOf e = 1) (hB : P.bytesOf e = 16)
    (h : DataW.Trod enc P W base (fun _ => true) held t (.slice a len cap) d ps) :
    ∃ l : List ByteArray, len = l.length ∧ ReadsOf Value.string ByteArray.empty W a l.length l ∧ l.length ≤ cap ∧ l.length * 16 ≤ 140737488351232 ∧ ∀ s ∈ l, s.size ≤ 140737488351232 := by
  obtain ⟨fuel, hf⟩ := h
  rcases open_strings hu he hc hf with ⟨hcs, _⟩ | ⟨x, l, c, ss, hcs, _, hl, hm, hz, hx, hcell, _⟩
  · simp [Value.cells] at hcs
    obtain ⟨rfl, rfl, rfl⟩ := hcs
    exact ⟨[], rfl, ReadsOf.nil _ _ _, by simp, by simp, by simp⟩
  · simp [Value.cells] at hcs
    obtain ⟨rfl, rfl, rfl⟩ := hcs
    obtain ⟨hx, _⟩ := Prod.mk.inj hx
    subst hx
    have z := sized_slice hsz ht hd hu
    rw [hB] at z
    have hz : ss.length = cap := by simpa using hz
    have hl2 : (ss.take len).length = len := by rw [List.length_take]; omega
    have z1 : (strs (H := H) (ss.take len)).length + (strs (H := H) (ss.drop len)).length = ss.length := by simp only [strs, List.length_map, List.length_take, List.length_drop]; omega
    rw [z1] at z
    have z : ss.length * 16 ≤ 140737488351232 := z
    unfold maxLen at hm
    refine ⟨ss.take len, hl2.symm, ⟨rfl, by omega, fun hn => ⟨x, rfl, fun i hi => ?_⟩⟩, by omega, by omega, fun s hs => ?_⟩
    · rw [hl2] at hi
      rw [hcell i (by omega)]
      simp only [List.getD]
      rw [List.getElem?_take_of_lt hi]
    · have := List.all_eq_true.1 hsz _ (DataW.weights_mem_each ht hd s.data.toList.length (by
        simp only [DataW.weights, hu]
        refine List.mem_cons_of_mem _ (List.mem_append_left _ (weightsAll_mem (d := .lit (.string s.data.toList)) ?_ (by simp [DataW.weights])))
        exact List.mem_map.2 ⟨s, hs, rfl⟩))
      have := of_decide_eq_true this
      rw [Array.length_toList] at this
      exact this
set_option maxRecDepth 100000 in
theorem lifted (os : Os) (started : os.Started) (H : Type) (enc : TypeId × Value → H) :
    ReturnsInHanded {} Try.checked os 4 .any (Rows.charsMoveSpec.pre6 enc Try.prog Try.f4 Rows.charsMoveRow.domain false) (Rows.charsMoveSpec.post enc Try.prog Try.f4 false true false false) := by
  refine returnsInHanded_of_change_sized (C := Try.checked) own started (by kernel_rfl) Try.func4
    (ChangeSpec.witness6 (enc := enc) (C := Try.checked) false ⟨#[], #[.slice none 0 0, .agg #[.int .i64 0, .int .i64 0], .int .u16 0, .int .u16 0, .int .i64 0, .bool false], []⟩ 8 (by kernel_rfl) (by kernel_rfl) (by kernel_rfl) (by kernel_rfl)) ?_
  intro W base args ds gs before hval0 hW hcnd hsz0 _
  have hsz : (DataW.weightsEach Try.prog (Try.f4.params.toList ++ Rows.charsMoveSpec.plain.varTypes Try.prog) (ds ++ gs)).all (· ≤ reachBytes) = true := hsz0
  have hval : ∀ (j : Nat) t v, Try.f4.params[j]? = some t → args[j]? = some v → Value.okWide Try.prog W .any base t v := hval0
  have hW' := hW
  obtain ⟨p, q, hA0, hV, rfl, hfz, hnd⟩ := hW
  have hA : DataW.TrodAll enc Try.prog W 0 (fun _ => true) true Try.f4.params.toList args.toList ds p := hA0
  rw [Try.params4] at hA hval hsz
  obtain ⟨v0, vs0, d0, ds0, p0, q0, hargs, rfl, rfl, h0, r0⟩ := trodAll_cons hA
  obtain ⟨v1, vs1, d1, ds1, p1, q1, rfl, rfl, rfl, h1, r1⟩ := trodAll_cons r0
  obtain ⟨v2, vs2, d2, ds2, p2, q2, rfl, rfl, rfl, h2, r2⟩ := trodAll_cons r1
  obtain ⟨v3, vs3, d3, ds3, p3, q3, rfl, rfl, rfl, h3, r3⟩ := trodAll_cons r2
  obtain ⟨v4, vs4, d4, ds4, p4, q4, rfl, rfl, rfl, h4, r4⟩ := trodAll_cons r3
  obtain ⟨v5, vs5, d5, ds5, p5, q5, rfl, rfl, rfl, h5, r5⟩ := trodAll_cons r4
  obtain ⟨rfl, rfl, rfl⟩ := trodAll_nil r5
  obtain rfl : args = #[v0, v1, v2, v3, v4, v5] := by cases args; simp_all
  obtain ⟨rfl, rfl⟩ := trodVars_none hV
  obtain ⟨a0, len0, cap0, rfl⟩ := okWide_slice Try.underlying22 (hval 0 22 v0 rfl rfl)
  have k0 := h0
  have lt0 : ∀ x ∈ p0, x.block < W.heap.size := by obtain ⟨m, hm⟩ := k0; exact DataW.trod_lt m _ _ _ hm
  obtain ⟨l0, rfl, hr0, hc0, hl0, hs0⟩ := open_lines hsz (j := 0) (t := 22) rfl rfl Try.underlying22 Try.underlying9 (by kernel_rfl) (by kernel_rfl) h0
  have k1 := h1
  have lt1 : ∀ x ∈ p1, x.block < W.heap.size := by obtain ⟨m, hm⟩ := k1; exact DataW.trod_lt m _ _ _ hm
  obtain ⟨c10, c11, y10, y11, m1, rfl, hdd1, hpp1, hy10, hy11⟩ := Go.Joins.open_agg2 Try.underlying24 (by kernel_rfl) (by kernel_rfl) (hval 1 24 v1 rfl rfl) h1
  obtain ⟨a1_0, e10, -, w1_0⟩ := DataW.trod_int Try.underlying3 hy10
  obtain ⟨a1_1, e11, -, w1_1⟩ := DataW.trod_int Try.underlying3 hy11
  simp only [List.cons.injEq, and_true] at e10 e11
  subst e10
  subst e11
  obtain ⟨a2, rfl, rfl, rfl, w2⟩ := open_int Try.underlying25 (hval 2 25 v2 rfl rfl) h2
  obtain ⟨a3, rfl, rfl, rfl, w3⟩ := open_int Try.underlying25 (hval 3 25 v3 rfl rfl) h3
  obtain ⟨a4, rfl, rfl, rfl, w4⟩ := open_int Try.underlying3 (hval 4 3 v4 rfl rfl) h4
  obtain ⟨a5, rfl, rfl, rfl⟩ := open_bool Try.underlying4 (hval 5 4 v5 rfl rfl) h5
  clear hA0 hval0 hsz0 hsz
  obtain ⟨k, h⟩ := Pure.CharsMove l0 a1_0 a1_1 a2 a3 a4 a5 hl0 hs0 w1_0 w1_1 w2 w3 w4
  refine (V.foolscaplaw7_CharsMove.calls k _ _ l0 a1_0 a1_1 a2 a3 a4 a5 true W (Kd.C_of_reads (d := ByteArray.empty) (h1 := fun _ => rfl) hr0) hc0 h rfl).mono fun e W' ⟨he, bel⟩ => ?_
  subst he
  exact ⟨_, rfl, _, _, _, [], _, [], hW', trodAll_mk1 (shut_bool Try.underlying4 _), (trodAll_cons_mk (Below.trod laidOut (by kernel_rfl) (of_decide_eq_true (by kernel_rfl)) k0 bel lt0) (trodAll_cons_mk (Below.trod laidOut (by kernel_rfl) (of_decide_eq_true (by kernel_rfl)) k1 bel lt1) (trodAll_cons_mk (shut_int Try.underlying25 w2) (trodAll_cons_mk (shut_int Try.underlying25 w3) (trodAll_cons_mk (shut_int Try.underlying3 w4) (trodAll_cons_mk (shut_bool Try.underlying4 _) trodAll_mk0)))))), rfl, bel.frame _, fun h => by cases h⟩
theorem over : Rows.charsMoveRow.holds Try.pinned (OpenSpec.ofChange Rows.charsMoveSpec) :=
  OpenClaim.holds_of_wide 4 Try.f4 rfl rfl rfl rfl rfl rfl rfl ⟨rfl, rfl, rfl, rfl, rfl⟩ rfl rfl rfl rfl rfl (by kernel_rfl) Try.func4 (by kernel_rfl)
    (of_decide_eq_true (by kernel_rfl)) (by unfold Func.isWrapper; first | (rw [if_pos (by decide +kernel)]; kernel_rfl) | (rw [if_neg (by decide +kernel)]; exact ⟨rfl, rfl⟩))
    (fun os started H enc _ => lifted os started H enc)
theorem proved : Rows.CharsMoveSaid := over
#print axioms proved
end Go.Proofs.Ytdiakjamahdcfaa.charsMove
namespace Go.Proofs.Ytdiakjamahdcfaa
/-- The row, under a short name, for the claim. -/
theorem charsMove_holds : Rows.CharsMoveSaid := charsMove.proved
end Go.Proofs.Ytdiakjamahdcfaa
