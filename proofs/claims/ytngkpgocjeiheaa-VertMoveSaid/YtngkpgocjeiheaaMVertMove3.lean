/- Texts of the proof of 'VertMove', merged in build order (part 3 of 4). -/
import Derived.Test.YtngkpgocjeiheaaMVertMove2
namespace Go.Proofs.Ytngkpgocjeiheaa.V
open Go.RowKit Go.Proofs.YtngkpgocjeiheaaW.PrintWords Go.Proofs.YtngkpgocjeiheaaW.PrintLast Go.Proofs.YtngkpgocjeiheaaW.PrintMore
attribute [local go_sem] max2_int min2_int max_two min_two max_three min_three max_four min_four   -- for this text's walks alone
set_option linter.unusedVariables false
set_option linter.unusedSimpArgs false

/-! ### vert_Under: function 23 -/
def vert_Under.f (k : Nat) (l0 : List ByteArray) (a1_0 : Int) (a1_1 : Int) (a2 : Int) : Option (Int × Int × Int × Bool × Int × Bool) := if a2 < 1 then (some (0, 0, 0, false, 0, false)) else ((vert_firstBy.f k l0 a1_0 a1_1 (wrap64 (a2 - 1)) false).bind fun bt439 => (some (bt439.1, bt439.2.1, bt439.2.2.1, bt439.2.2.2.1, bt439.2.2.2.2.1, bt439.2.2.2.2.2)))
theorem vert_Under.mono : ∀ a0 a1 a2 a3 k, LeO (vert_Under.f k a0 a1 a2 a3) (vert_Under.f (k + 1) a0 a1 a2 a3) := by
  intro a0 a1 a2 a3 k
  unfold vert_Under.f
  repeat' first
      | (with_reducible exact vert_firstBy.mono _ _ _ _ _ _)
      | (with_reducible exact LeO.refl _)
      | (with_reducible exact LeO.none _)
      | (with_reducible refine LeO.ite ?_ ?_)
      | (with_reducible refine LeO.bind ?_ (fun _ => ?_))
      | exact vert_firstBy.mono _ _ _ _ _ _
      | exact LeO.none _
      | refine LeO.ite ?_ ?_
      | refine LeO.bind ?_ (fun _ => ?_)
set_option maxHeartbeats 8000000 in
set_option maxRecDepth 100000 in
theorem vert_Under.calls (k : Nat) (A0 : Option Addr) (c0 : Nat) (l0 : List ByteArray) (a1_0 : Int) (a1_1 : Int) (a2 : Int) (r1 : Int) (r2 : Int) (r3 : Int) (r4 : Bool) (r5 : Int) (r6 : Bool) (w : World) (hr0 : Kd.C Kd.string w A0 l0.length l0) (hc0 : l0.length ≤ c0) (h : vert_Under.f k l0 a1_0 a1_1 a2 = some (r1, r2, r3, r4, r5, r6)) :
    Calls Try.prog 23 #[.slice A0 l0.length c0, .agg #[.int .i64 a1_0, .int .i64 a1_1], .int .i64 a2] w fun e w' => e = .returned (.tuple #[.agg #[.int .i64 r1, .int .i64 r2, .int .i64 r3, .bool r4, .int .i64 r5], .bool r6]) ∧ Below w.heap.size w w' := by
  have hu24 := Try.underlying24
  have hu33 := Try.underlying33
  have HR0 := Aside0.mk hr0
  have HC0 := Aside0.mk hc0
  clear hr0 hc0
  have HB := Aside0.mk (Below.refl w.heap.size w)
  have H : (if a2 < 1 then (some (0, 0, 0, false, 0, false)) else ((vert_firstBy.f k l0 a1_0 a1_1 (wrap64 (a2 - 1)) false).bind fun bt439 => (some (bt439.1, bt439.2.1, bt439.2.2.1, bt439.2.2.2.1, bt439.2.2.2.2.1, bt439.2.2.2.2.2)))) = some (r1, r2, r3, r4, r5, r6) := h
  clear h
  by_cases c4 : a2 < 1
  · rw [if_pos c4] at H
    have c4b0 : decide (a2 < 1) = true := decide_eq_true c4
    clear c4
    simp only [Option.some.injEq, Prod.mk.injEq] at H
    obtain ⟨rfl, rfl, rfl, rfl, rfl, rfl⟩ := H
    go_enter Try.func23, Try.ntmps23
    go_wp2_with (first | ((with_reducible refine gate_dst (N := 4) rfl ?_); refine box_event ?hg (N := 4) ?hd (cs := #[.int .i64 a1_0, .int .i64 a1_1]) (t := 24) ?hr ?_; (case hd => rfl); (case hg => rfl); (case hr => first | (go_simp; done) | (go_simp; rfl)); intro gb437 hg w5 hbox hb; have n0_ := Aside0.mk (below_step (by repeat (first | (with_reducible first | exact HB.out | apply below_alloc | apply pw_below_drewN | apply below_drew1) | exact HB.out)) hb); have n1_ := Aside0.mk (hbox); have n2_ := Aside0.mk ((by rw [hg]; exact (below_size (by repeat (first | (with_reducible first | exact HB.out | apply below_alloc | apply pw_below_drewN | apply below_drew1) | exact HB.out))) : w.heap.size ≤ gb437)); have n3_ := Aside0.mk ((by rw [hg]; exact (below_size (by repeat (first | (with_reducible first | exact HB.out | apply below_alloc | apply pw_below_drewN | apply below_drew1) | exact HB.out))) : w.heap.size ≤ gb437)); clear HB; have HB := n0_; have BK437 := n1_; have GW437 := n2_; have GE437 := n3_; clear n0_ n1_ n2_ n3_; clear hb hbox hg) | ((with_reducible refine gate_dst (N := 6) rfl ?_); refine box_event ?hg (N := 6) ?hd (cs := #[.int .i64 0, .int .i64 0, .int .i64 0, .bool false, .int .i64 0]) (t := 33) ?hr ?_; (case hd => rfl); (case hg => rfl); (case hr => first | (go_simp; done) | (go_simp; rfl)); intro gb438 hg w6 hbox hb; have n0_ := Aside0.mk (blk_below (g := gb437) (o := .cells #[.int .i64 a1_0, .int .i64 a1_1] 24 (0, 0)) (by (with_reducible repeat (first | refine blk_drewN ?_ _ | refine blk_drew ?_ | refine blk_alloc ?_ _)); exact BK437.out) hb); have n1_ := Aside0.mk (below_step (by repeat (first | (with_reducible first | exact HB.out | apply below_alloc | apply pw_below_drewN | apply below_drew1 | refine below_set ?_ GE437.out) | exact HB.out)) hb); have n2_ := Aside0.mk (hbox); have n3_ := Aside0.mk ((by rw [hg]; exact (below_size (by repeat (first | (with_reducible first | exact HB.out | apply below_alloc | apply pw_below_drewN | apply below_drew1 | refine below_set ?_ GE437.out) | exact HB.out))) : w.heap.size ≤ gb438)); have n4_ := Aside0.mk ((by rw [hg]; exact (below_size (by repeat (first | (with_reducible first | exact HB.out | apply below_alloc | apply pw_below_drewN | apply below_drew1 | refine below_set ?_ GE437.out) | exact HB.out))) : w.heap.size ≤ gb438)); have n5_ := Aside0.mk ((by rw [hg]; exact Nat.ne_of_lt (blk_lt (g := gb437) (o := .cells #[.int .i64 a1_0, .int .i64 a1_1] 24 (0, 0)) (by (with_reducible repeat (first | refine blk_drewN ?_ _ | refine blk_drew ?_ | refine blk_alloc ?_ _)); exact BK437.out)) : gb437 ≠ gb438)); have n6_ := Aside0.mk ((by rw [hg]; exact Nat.ne_of_gt (blk_lt (g := gb437) (o := .cells #[.int .i64 a1_0, .int .i64 a1_1] 24 (0, 0)) (by (with_reducible repeat (first | refine blk_drewN ?_ _ | refine blk_drew ?_ | refine blk_alloc ?_ _)); exact BK437.out)) : gb438 ≠ gb437)); clear BK437; clear HB; have BK437 := n0_; have HB := n1_; have BK438 := n2_; have GW438 := n3_; have GE438 := n4_; have NB437_438 := n5_; have NB438_437 := n6_; clear n0_ n1_ n2_ n3_ n4_ n5_ n6_; clear hb hbox hg; have hnb7 := NB438_437.out; have hnc7 := NB437_438.out; have hcz8_0 : w6.cell? ⟨gb438, 0, none⟩ = some (.int .i64 0) := (blk_cell BK438.out 0).trans rfl; have hcz8_1 : w6.cell? ⟨gb438, 1, none⟩ = some (.int .i64 0) := (blk_cell BK438.out 1).trans rfl; have hcz8_2 : w6.cell? ⟨gb438, 2, none⟩ = some (.int .i64 0) := (blk_cell BK438.out 2).trans rfl; have hcz8_3 : w6.cell? ⟨gb438, 3, none⟩ = some (.bool false) := (blk_cell BK438.out 3).trans rfl; have hcz8_4 : w6.cell? ⟨gb438, 4, none⟩ = some (.int .i64 0) := (blk_cell BK438.out 4).trans rfl; have hfz8_0 := blk_frozen BK438.out 0; have hfz8_1 := blk_frozen BK438.out 1; have hfz8_2 := blk_frozen BK438.out 2; have hfz8_3 := blk_frozen BK438.out 3; have hfz8_4 := blk_frozen BK438.out 4))
    refine bodyPost_ret (results_ct rfl _ _ gb438 33 #[.int .i64 0, .int .i64 0, .int .i64 0, .bool false, .int .i64 0] (0, 0) _ rfl (by (with_reducible repeat (first | refine blk_drewN ?_ _ | refine blk_drew ?_ | refine blk_alloc ?_ _)); refine blk_put (cs := #[.int .i64 0, .int .i64 0, .int .i64 0, .bool false, .int .i64 0]) ?_ 4 _ rfl; (with_reducible repeat (first | refine blk_drewN ?_ _ | refine blk_drew ?_ | refine blk_alloc ?_ _)); refine blk_put (cs := #[.int .i64 0, .int .i64 0, .int .i64 0, .bool false, .int .i64 0]) ?_ 3 _ rfl; (with_reducible repeat (first | refine blk_drewN ?_ _ | refine blk_drew ?_ | refine blk_alloc ?_ _)); refine blk_put (cs := #[.int .i64 0, .int .i64 0, .int .i64 0, .bool false, .int .i64 0]) ?_ 2 _ rfl; (with_reducible repeat (first | refine blk_drewN ?_ _ | refine blk_drew ?_ | refine blk_alloc ?_ _)); refine blk_put (cs := #[.int .i64 0, .int .i64 0, .int .i64 0, .bool false, .int .i64 0]) ?_ 1 _ rfl; (with_reducible repeat (first | refine blk_drewN ?_ _ | refine blk_drew ?_ | refine blk_alloc ?_ _)); refine blk_put (cs := #[.int .i64 0, .int .i64 0, .int .i64 0, .bool false, .int .i64 0]) ?_ 0 _ rfl; (with_reducible repeat (first | refine blk_drewN ?_ _ | refine blk_drew ?_ | refine blk_alloc ?_ _)); exact BK438.out) Try.underlying33 rfl (by kernel_rfl)) rfl ?_
    exact ⟨by first | rfl | (simp [errW_none, errW_some] <;> rfl) | (simp [*, errW_none, errW_some] <;> rfl), by repeat (first | (with_reducible first | exact HB.out | apply below_alloc | apply pw_below_drewN | apply below_drew1 | refine below_set ?_ GE437.out | refine below_set ?_ GE438.out) | exact HB.out)⟩
  · rw [if_neg c4] at H
    have c4b0 : decide (a2 < 1) = false := decide_eq_false c4
    clear c4
    replace H := Option.bind_eq_some_iff.mp H
    obtain ⟨⟨t439, t440, t441, t442, t443, t444⟩, A90, H⟩ := H
    replace H : (some (t439, t440, t441, t442, t443, t444)) = some (r1, r2, r3, r4, r5, r6) := H
    have A9 := Aside0.mk A90
    clear A90
    simp only [Option.some.injEq, Prod.mk.injEq] at H
    obtain ⟨rfl, rfl, rfl, rfl, rfl, rfl⟩ := H
    go_enter Try.func23, Try.ntmps23
    go_wp2_with (first | ((with_reducible refine gate_dst (N := 4) rfl ?_); refine box_event ?hg (N := 4) ?hd (cs := #[.int .i64 a1_0, .int .i64 a1_1]) (t := 24) ?hr ?_; (case hd => rfl); (case hg => rfl); (case hr => first | (go_simp; done) | (go_simp; rfl)); intro gb437 hg w10 hbox hb; have n0_ := Aside0.mk (below_step (by repeat (first | (with_reducible first | exact HB.out | apply below_alloc | apply pw_below_drewN | apply below_drew1) | exact HB.out)) hb); have n1_ := Aside0.mk (hbox); have n2_ := Aside0.mk ((by rw [hg]; exact (below_size (by repeat (first | (with_reducible first | exact HB.out | apply below_alloc | apply pw_below_drewN | apply below_drew1) | exact HB.out))) : w.heap.size ≤ gb437)); have n3_ := Aside0.mk ((by rw [hg]; exact (below_size (by repeat (first | (with_reducible first | exact HB.out | apply below_alloc | apply pw_below_drewN | apply below_drew1) | exact HB.out))) : w.heap.size ≤ gb437)); clear HB; have HB := n0_; have BK437 := n1_; have GW437 := n2_; have GE437 := n3_; clear n0_ n1_ n2_ n3_; clear hb hbox hg) | ((with_reducible refine gate_dst (N := 6) rfl ?_); refine box_event ?hg (N := 6) ?hd (cs := #[.int .i64 0, .int .i64 0, .int .i64 0, .bool false, .int .i64 0]) (t := 33) ?hr ?_; (case hd => rfl); (case hg => rfl); (case hr => first | (go_simp; done) | (go_simp; rfl)); intro gb438 hg w11 hbox hb; have n0_ := Aside0.mk (blk_below (g := gb437) (o := .cells #[.int .i64 a1_0, .int .i64 a1_1] 24 (0, 0)) (by (with_reducible repeat (first | refine blk_drewN ?_ _ | refine blk_drew ?_ | refine blk_alloc ?_ _)); exact BK437.out) hb); have n1_ := Aside0.mk (below_step (by repeat (first | (with_reducible first | exact HB.out | apply below_alloc | apply pw_below_drewN | apply below_drew1 | refine below_set ?_ GE437.out) | exact HB.out)) hb); have n2_ := Aside0.mk (hbox); have n3_ := Aside0.mk ((by rw [hg]; exact (below_size (by repeat (first | (with_reducible first | exact HB.out | apply below_alloc | apply pw_below_drewN | apply below_drew1 | refine below_set ?_ GE437.out) | exact HB.out))) : w.heap.size ≤ gb438)); have n4_ := Aside0.mk ((by rw [hg]; exact (below_size (by repeat (first | (with_reducible first | exact HB.out | apply below_alloc | apply pw_below_drewN | apply below_drew1 | refine below_set ?_ GE437.out) | exact HB.out))) : w.heap.size ≤ gb438)); have n5_ := Aside0.mk ((by rw [hg]; exact Nat.ne_of_lt (blk_lt (g := gb437) (o := .cells #[.int .i64 a1_0, .int .i64 a1_1] 24 (0, 0)) (by (with_reducible repeat (first | refine blk_drewN ?_ _ | refine blk_drew ?_ | refine blk_alloc ?_ _)); exact BK437.out)) : gb437 ≠ gb438)); have n6_ := Aside0.mk ((by rw [hg]; exact Nat.ne_of_gt (blk_lt (g := gb437) (o := .cells #[.int .i64 a1_0, .int .i64 a1_1] 24 (0, 0)) (by (with_reducible repeat (first | refine blk_drewN ?_ _ | refine blk_drew ?_ | refine blk_alloc ?_ _)); exact BK437.out)) : gb438 ≠ gb437)); clear BK437; clear HB; have BK437 := n0_; have HB := n1_; have BK438 := n2_; have GW438 := n3_; have GE438 := n4_; have NB437_438 := n5_; have NB438_437 := n6_; clear n0_ n1_ n2_ n3_ n4_ n5_ n6_; clear hb hbox hg; have hnb12 := NB437_438.out; have hnc12 := NB438_437.out; have hcz13_0 : w11.cell? ⟨gb437, 0, none⟩ = some (.int .i64 a1_0) := (blk_cell BK437.out 0).trans rfl; have hcz13_1 : w11.cell? ⟨gb437, 1, none⟩ = some (.int .i64 a1_1) := (blk_cell BK437.out 1).trans rfl; have hfz13_0 := blk_frozen BK437.out 0; have hfz13_1 := blk_frozen BK437.out 1) | ((with_reducible refine gate_callee (f := 36) rfl ?_); refine goesL_ (some 15) rfl rfl Try.func36 (by kernel_rfl) rfl #[.slice A0 l0.length c0, .agg #[.int .i64 a1_0, .int .i64 a1_1], .int .i64 (wrap64 (a2 - 1)), .bool false] rfl (by (try simp only [List.map_toArray, List.map_cons, List.map_nil]); first | done | rfl | (simp only [List.length_drop, List.length_take]; rfl)) ?_; (with_reducible refine (vert_firstBy.calls k _ _ l0 a1_0 a1_1 (wrap64 (a2 - 1)) false t439 t440 t441 t442 t443 t444 _ ?side1 ?side2 A9.out).mono ?_); (case side1 => repeat (first | exact (Kd.C_below HR0.out HB.out) | (with_reducible refine Kd.C_alloc ?_ _) | (with_reducible refine Kd.C_drewN ?_ _) | (with_reducible refine Kd.C_drew ?_))); (case side2 => exact HC0.out); rintro e w14 ⟨rfl, hb⟩; refine ⟨_, rfl, ?_⟩; have n0_ := Aside0.mk (blk_below (g := gb437) (o := .cells #[.int .i64 a1_0, .int .i64 a1_1] 24 (0, 0)) (by (with_reducible repeat (first | refine blk_drewN ?_ _ | refine blk_drew ?_ | refine blk_alloc ?_ _)); exact BK437.out) hb); have n1_ := Aside0.mk (blk_below (g := gb438) (o := .cells #[.int .i64 0, .int .i64 0, .int .i64 0, .bool false, .int .i64 0] 33 (0, 0)) (by (with_reducible repeat (first | refine blk_drewN ?_ _ | refine blk_drew ?_ | refine blk_alloc ?_ _)); exact BK438.out) hb); have n2_ := Aside0.mk (below_step (by repeat (first | (with_reducible first | exact HB.out | apply below_alloc | apply pw_below_drewN | apply below_drew1 | refine below_set ?_ GE437.out | refine below_set ?_ GE438.out) | exact HB.out)) hb); clear BK437; clear BK438; clear HB; have BK437 := n0_; have BK438 := n1_; have HB := n2_; clear n0_ n1_ n2_; (try clear hb); (try clear hb2); (try clear hk); (try clear hi); have hcz15_0 : w14.cell? ⟨gb438, 0, none⟩ = some (.int .i64 0) := (blk_cell BK438.out 0).trans rfl; have hcz15_1 : w14.cell? ⟨gb438, 1, none⟩ = some (.int .i64 0) := (blk_cell BK438.out 1).trans rfl; have hcz15_2 : w14.cell? ⟨gb438, 2, none⟩ = some (.int .i64 0) := (blk_cell BK438.out 2).trans rfl; have hcz15_3 : w14.cell? ⟨gb438, 3, none⟩ = some (.bool false) := (blk_cell BK438.out 3).trans rfl; have hcz15_4 : w14.cell? ⟨gb438, 4, none⟩ = some (.int .i64 0) := (blk_cell BK438.out 4).trans rfl; have hfz15_0 := blk_frozen BK438.out 0; have hfz15_1 := blk_frozen BK438.out 1; have hfz15_2 := blk_frozen BK438.out 2; have hfz15_3 := blk_frozen BK438.out 3; have hfz15_4 := blk_frozen BK438.out 4))
    refine bodyPost_ret (results_ct rfl _ _ gb438 33 #[.int .i64 t439, .int .i64 t440, .int .i64 t441, .bool t442, .int .i64 t443] (0, 0) _ rfl (by (with_reducible repeat (first | refine blk_drewN ?_ _ | refine blk_drew ?_ | refine blk_alloc ?_ _)); refine blk_put (cs := #[.int .i64 t439, .int .i64 t440, .int .i64 t441, .bool t442, .int .i64 0]) ?_ 4 _ rfl; (with_reducible repeat (first | refine blk_drewN ?_ _ | refine blk_drew ?_ | refine blk_alloc ?_ _)); refine blk_put (cs := #[.int .i64 t439, .int .i64 t440, .int .i64 t441, .bool false, .int .i64 0]) ?_ 3 _ rfl; (with_reducible repeat (first | refine blk_drewN ?_ _ | refine blk_drew ?_ | refine blk_alloc ?_ _)); refine blk_put (cs := #[.int .i64 t439, .int .i64 t440, .int .i64 0, .bool false, .int .i64 0]) ?_ 2 _ rfl; (with_reducible repeat (first | refine blk_drewN ?_ _ | refine blk_drew ?_ | refine blk_alloc ?_ _)); refine blk_put (cs := #[.int .i64 t439, .int .i64 0, .int .i64 0, .bool false, .int .i64 0]) ?_ 1 _ rfl; (with_reducible repeat (first | refine blk_drewN ?_ _ | refine blk_drew ?_ | refine blk_alloc ?_ _)); refine blk_put (cs := #[.int .i64 0, .int .i64 0, .int .i64 0, .bool false, .int .i64 0]) ?_ 0 _ rfl; (with_reducible repeat (first | refine blk_drewN ?_ _ | refine blk_drew ?_ | refine blk_alloc ?_ _)); exact BK438.out) Try.underlying33 rfl (by kernel_rfl)) rfl ?_
    exact ⟨by first | rfl | (simp [errW_none, errW_some] <;> rfl) | (simp [*, errW_none, errW_some] <;> rfl), by repeat (first | (with_reducible first | exact HB.out | apply below_alloc | apply pw_below_drewN | apply below_drew1 | refine below_set ?_ GE437.out | refine below_set ?_ GE438.out) | exact HB.out)⟩

end Go.Proofs.Ytngkpgocjeiheaa.V
namespace Go.Proofs.Ytngkpgocjeiheaa.V
open Go.RowKit Go.Proofs.YtngkpgocjeiheaaW.PrintWords Go.Proofs.YtngkpgocjeiheaaW.PrintLast Go.Proofs.YtngkpgocjeiheaaW.PrintMore
attribute [local go_sem] max2_int min2_int max_two min_two max_three min_three max_four min_four   -- for this text's walks alone
set_option linter.unusedVariables false
set_option linter.unusedSimpArgs false

/-! ### foolscapref5_Under: function 24 -/
def foolscapref5_Under.f (k : Nat) (l0 : List ByteArray) (a1_0 : Int) (a1_1 : Int) (a2 : Int) : Option (Int × Int × Int × Bool × Int × Bool) := (foolscapref5_may.f l0 a1_0 a1_1 a2).bind fun t447 => (if t447 = true then ((foolscapref5_capped.f a2).bind fun t448 => ((foolscapref5_line.f k l0 (wrap64 ((wrap64 (a1_0 + t448)) - 1)) false).bind fun bt449 => (some (bt449.1, bt449.2.1, bt449.2.2.1, bt449.2.2.2.1, bt449.2.2.2.2.1, bt449.2.2.2.2.2)))) else ((foolscapref5_none.f).bind fun bt455 => (some (bt455.1, bt455.2.1, bt455.2.2.1, bt455.2.2.2.1, bt455.2.2.2.2.1, bt455.2.2.2.2.2))))
theorem foolscapref5_Under.mono : ∀ a0 a1 a2 a3 k, LeO (foolscapref5_Under.f k a0 a1 a2 a3) (foolscapref5_Under.f (k + 1) a0 a1 a2 a3) := by
  intro a0 a1 a2 a3 k
  unfold foolscapref5_Under.f
  repeat' first
      | (with_reducible exact foolscapref5_line.mono _ _ _ _)
      | (with_reducible exact LeO.refl _)
      | (with_reducible exact LeO.none _)
      | (with_reducible refine LeO.ite ?_ ?_)
      | (with_reducible refine LeO.bind ?_ (fun _ => ?_))
      | exact foolscapref5_line.mono _ _ _ _
      | exact LeO.none _
      | refine LeO.ite ?_ ?_
      | refine LeO.bind ?_ (fun _ => ?_)
def foolscapref5_Under.T3 : Bool × List (List Nat × List Nat) := (true, [([], []), ([], []), ([1], [1]), ([], []), ([3], [3]), ([2, 4], [2, 4]), ([5], [5]), ([0, 6, 4], [0, 6]), ([7], [7]), ([7], [7]), ([8, 7, 0, 1, 2, 3, 4, 5, 6, 7, 8, 9], [8]), ([9, 10, 0, 1, 2, 3, 4, 5, 6, 7, 8, 9, 10], [9])])
def foolscapref5_Under.B3 : List Nat := [0, 0, 2, 0, 8, 30, 62, 127, 255, 255, 1023, 2047]
theorem foolscapref5_Under.tab3 : rtab .any (opsOf Try.f24 3) = foolscapref5_Under.T3 := by kernel_rfl
theorem foolscapref5_Under.bits3 : waitsOk foolscapref5_Under.T3.2 foolscapref5_Under.B3 = true := by kernel_rfl
set_option maxHeartbeats 8000000 in
set_option maxRecDepth 100000 in
theorem foolscapref5_Under.calls (k : Nat) (A0 : Option Addr) (c0 : Nat) (l0 : List ByteArray) (a1_0 : Int) (a1_1 : Int) (a2 : Int) (r1 : Int) (r2 : Int) (r3 : Int) (r4 : Bool) (r5 : Int) (r6 : Bool) (w : World) (hr0 : Kd.C Kd.string w A0 l0.length l0) (hc0 : l0.length ≤ c0) (h : foolscapref5_Under.f k l0 a1_0 a1_1 a2 = some (r1, r2, r3, r4, r5, r6)) :
    Calls Try.prog 24 #[.slice A0 l0.length c0, .agg #[.int .i64 a1_0, .int .i64 a1_1], .int .i64 a2] w fun e w' => e = .returned (.tuple #[.agg #[.int .i64 r1, .int .i64 r2, .int .i64 r3, .bool r4, .int .i64 r5], .bool r6]) ∧ Below w.heap.size w w' := by
  have hu24 := Try.underlying24
  have hu33 := Try.underlying33
  have HR0 := Aside0.mk hr0
  have HC0 := Aside0.mk hc0
  clear hr0 hc0
  have HB := Aside0.mk (Below.refl w.heap.size w)
  have H : ((foolscapref5_may.f l0 a1_0 a1_1 a2).bind fun t447 => (if t447 = true then ((foolscapref5_capped.f a2).bind fun t448 => ((foolscapref5_line.f k l0 (wrap64 ((wrap64 (a1_0 + t448)) - 1)) false).bind fun bt449 => (some (bt449.1, bt449.2.1, bt449.2.2.1, bt449.2.2.2.1, bt449.2.2.2.2.1, bt449.2.2.2.2.2)))) else ((foolscapref5_none.f).bind fun bt455 => (some (bt455.1, bt455.2.1, bt455.2.2.1, bt455.2.2.2.1, bt455.2.2.2.2.1, bt455.2.2.2.2.2))))) = some (r1, r2, r3, r4, r5, r6) := h
  clear h
  replace H := Option.bind_eq_some_iff.mp H
  obtain ⟨t447, A40, H⟩ := H
  replace H : (if t447 = true then ((foolscapref5_capped.f a2).bind fun t448 => ((foolscapref5_line.f k l0 (wrap64 ((wrap64 (a1_0 + t448)) - 1)) false).bind fun bt449 => (some (bt449.1, bt449.2.1, bt449.2.2.1, bt449.2.2.2.1, bt449.2.2.2.2.1, bt449.2.2.2.2.2)))) else ((foolscapref5_none.f).bind fun bt455 => (some (bt455.1, bt455.2.1, bt455.2.2.1, bt455.2.2.2.1, bt455.2.2.2.2.1, bt455.2.2.2.2.2)))) = some (r1, r2, r3, r4, r5, r6) := H
  have A4 := Aside0.mk A40
  clear A40
  by_cases c5 : t447 = true
  · subst c5
    have H1 : ((foolscapref5_capped.f a2).bind fun t448 => ((foolscapref5_line.f k l0 (wrap64 ((wrap64 (a1_0 + t448)) - 1)) false).bind fun bt449 => (some (bt449.1, bt449.2.1, bt449.2.2.1, bt449.2.2.2.1, bt449.2.2.2.2.1, bt449.2.2.2.2.2)))) = some (r1, r2, r3, r4, r5, r6) := by rw [if_pos rfl] at H; exact H
    clear H
    have H := H1
    clear H1
    replace H := Option.bind_eq_some_iff.mp H
    obtain ⟨t448, A60, H⟩ := H
    replace H : ((foolscapref5_line.f k l0 (wrap64 ((wrap64 (a1_0 + t448)) - 1)) false).bind fun bt449 => (some (bt449.1, bt449.2.1, bt449.2.2.1, bt449.2.2.2.1, bt449.2.2.2.2.1, bt449.2.2.2.2.2))) = some (r1, r2, r3, r4, r5, r6) := H
    have A6 := Aside0.mk A60
    clear A60
    replace H := Option.bind_eq_some_iff.mp H
    obtain ⟨⟨t449, t450, t451, t452, t453, t454⟩, A70, H⟩ := H
    replace H : (some (t449, t450, t451, t452, t453, t454)) = some (r1, r2, r3, r4, r5, r6) := H
    have A7 := Aside0.mk A70
    clear A70
    simp only [Option.some.injEq, Prod.mk.injEq] at H
    obtain ⟨rfl, rfl, rfl, rfl, rfl, rfl⟩ := H
    go_enter Try.func24, Try.ntmps24
    try go_wp2_with (first | ((with_reducible refine gate_dst (N := 4) rfl ?_); refine box_event ?hg (N := 4) ?hd (cs := #[.int .i64 a1_0, .int .i64 a1_1]) (t := 24) ?hr ?_; (case hd => rfl); (case hg => rfl); (case hr => first | (go_simp; done) | (go_simp; rfl)); intro gb445 hg w8 hbox hb; have n0_ := Aside0.mk (below_step (by repeat (first | (with_reducible first | exact HB.out | apply below_alloc | apply pw_below_drewN | apply below_drew1) | exact HB.out)) hb); have n1_ := Aside0.mk (hbox); have n2_ := Aside0.mk ((by rw [hg]; exact (below_size (by repeat (first | (with_reducible first | exact HB.out | apply below_alloc | apply pw_below_drewN | apply below_drew1) | exact HB.out))) : w.heap.size ≤ gb445)); have n3_ := Aside0.mk ((by rw [hg]; exact (below_size (by repeat (first | (with_reducible first | exact HB.out | apply below_alloc | apply pw_below_drewN | apply below_drew1) | exact HB.out))) : w.heap.size ≤ gb445)); clear HB; have HB := n0_; have BK445 := n1_; have GW445 := n2_; have GE445 := n3_; clear n0_ n1_ n2_ n3_; clear hb hbox hg) | ((with_reducible refine gate_dst (N := 6) rfl ?_); refine box_event ?hg (N := 6) ?hd (cs := #[.int .i64 0, .int .i64 0, .int .i64 0, .bool false, .int .i64 0]) (t := 33) ?hr ?_; (case hd => rfl); (case hg => rfl); (case hr => first | (go_simp; done) | (go_simp; rfl)); intro gb446 hg w9 hbox hb; have n0_ := Aside0.mk (blk_below (g := gb445) (o := .cells #[.int .i64 a1_0, .int .i64 a1_1] 24 (0, 0)) (by (with_reducible repeat (first | refine blk_drewN ?_ _ | refine blk_drew ?_ | refine blk_alloc ?_ _)); exact BK445.out) hb); have n1_ := Aside0.mk (below_step (by repeat (first | (with_reducible first | exact HB.out | apply below_alloc | apply pw_below_drewN | apply below_drew1 | refine below_set ?_ GE445.out) | exact HB.out)) hb); have n2_ := Aside0.mk (hbox); have n3_ := Aside0.mk ((by rw [hg]; exact (below_size (by repeat (first | (with_reducible first | exact HB.out | apply below_alloc | apply pw_below_drewN | apply below_drew1 | refine below_set ?_ GE445.out) | exact HB.out))) : w.heap.size ≤ gb446)); have n4_ := Aside0.mk ((by rw [hg]; exact (below_size (by repeat (first | (with_reducible first | exact HB.out | apply below_alloc | apply pw_below_drewN | apply below_drew1 | refine below_set ?_ GE445.out) | exact HB.out))) : w.heap.size ≤ gb446)); have n5_ := Aside0.mk ((by rw [hg]; exact Nat.ne_of_lt (blk_lt (g := gb445) (o := .cells #[.int .i64 a1_0, .int .i64 a1_1] 24 (0, 0)) (by (with_reducible repeat (first | refine blk_drewN ?_ _ | refine blk_drew ?_ | refine blk_alloc ?_ _)); exact BK445.out)) : gb445 ≠ gb446)); have n6_ := Aside0.mk ((by rw [hg]; exact Nat.ne_of_gt (blk_lt (g := gb445) (o := .cells #[.int .i64 a1_0, .int .i64 a1_1] 24 (0, 0)) (by (with_reducible repeat (first | refine blk_drewN ?_ _ | refine blk_drew ?_ | refine blk_alloc ?_ _)); exact BK445.out)) : gb446 ≠ gb445)); clear BK445; clear HB; have BK445 := n0_; have HB := n1_; have BK446 := n2_; have GW446 := n3_; have GE446 := n4_; have NB445_446 := n5_; have NB446_445 := n6_; clear n0_ n1_ n2_ n3_ n4_ n5_ n6_; clear hb hbox hg; have hnb10 := NB445_446.out; have hnc10 := NB446_445.out; have hcz11_0 : w9.cell? ⟨gb445, 0, none⟩ = some (.int .i64 a1_0) := (blk_cell BK445.out 0).trans rfl; have hcz11_1 : w9.cell? ⟨gb445, 1, none⟩ = some (.int .i64 a1_1) := (blk_cell BK445.out 1).trans rfl; have hfz11_0 := blk_frozen BK445.out 0; have hfz11_1 := blk_frozen BK445.out 1) | ((with_reducible refine gate_callee (f := 29) rfl ?_); refine goesL_ (some 11) rfl rfl Try.func29 (by kernel_rfl) rfl #[.slice A0 l0.length c0, .agg #[.int .i64 a1_0, .int .i64 a1_1], .int .i64 a2] rfl (by (try simp only [List.map_toArray, List.map_cons, List.map_nil]); first | done | rfl | (simp only [List.length_drop, List.length_take]; rfl)) ?_; (with_reducible refine (foolscapref5_may.calls _ _ l0 a1_0 a1_1 a2 true _ ?side1 ?side2 A4.out).mono ?_); (case side1 => repeat (first | exact (Kd.C_below HR0.out HB.out) | (with_reducible refine Kd.C_alloc ?_ _) | (with_reducible refine Kd.C_drewN ?_ _) | (with_reducible refine Kd.C_drew ?_))); (case side2 => exact HC0.out); rintro e w12 ⟨rfl, hb⟩; refine ⟨_, rfl, ?_⟩; have n0_ := Aside0.mk (blk_below (g := gb445) (o := .cells #[.int .i64 a1_0, .int .i64 a1_1] 24 (0, 0)) (by (with_reducible repeat (first | refine blk_drewN ?_ _ | refine blk_drew ?_ | refine blk_alloc ?_ _)); exact BK445.out) hb); have n1_ := Aside0.mk (blk_below (g := gb446) (o := .cells #[.int .i64 0, .int .i64 0, .int .i64 0, .bool false, .int .i64 0] 33 (0, 0)) (by (with_reducible repeat (first | refine blk_drewN ?_ _ | refine blk_drew ?_ | refine blk_alloc ?_ _)); exact BK446.out) hb); have n2_ := Aside0.mk (below_step (by repeat (first | (with_reducible first | exact HB.out | apply below_alloc | apply pw_below_drewN | apply below_drew1 | refine below_set ?_ GE445.out | refine below_set ?_ GE446.out) | exact HB.out)) hb); clear BK445; clear BK446; clear HB; have BK445 := n0_; have BK446 := n1_; have HB := n2_; clear n0_ n1_ n2_; (try clear hb); (try clear hb2); (try clear hk); (try clear hi)))
    have n0_ := Aside0.mk (blk_drew BK445.out)
    have n1_ := Aside0.mk (blk_drew BK446.out)
    have n2_ := Aside0.mk (below_drew1 HB.out)
    clear BK445
    clear BK446
    clear HB
    have BK445 := n0_
    have BK446 := n1_
    have HB := n2_
    clear n0_ n1_ n2_
    refine start_ (n := 12) (S := fun w' => w'.cell? ⟨gb445, 0, none⟩ = some (.int .i64 a1_0) ∧ w'.cell? ⟨gb445, 1, none⟩ = some (.int .i64 a1_1)) (ds := []) #[false, false, false, false, false, false, false, false, false, false, false, false] (by kernel_rfl) rfl rfl ⟨(blk_cell BK445.out 0).trans rfl, (blk_cell BK445.out 1).trans rfl⟩ (fun hHeld => ?_); refine with_tabW foolscapref5_Under.tab3 foolscapref5_Under.bits3 (fun HT_ HW_ => ?_)
    generalize w12.drew = w13 at BK445 BK446 HB hHeld ⊢
    refine pure_ (i := 0) (N := some 16) (v := ?_) (a' := ?_) #[true, false, false, false, false, false, false, false, false, false, false, false] rfl rfl (any_of HT_.out (by kernel_rfl)) (fun _ _ _ h => h) (Or.inl ⟨by rfl, ?_⟩) ?_ ?_
    rotate_left
    · intro w'
      go_simp
      with_reducible rfl
    rotate_left
    · simp only [Act.put, List.setIfInBounds_toArray, List.set_cons_zero, List.set_cons_succ, i64_w, i32_w]
      rfl
    refine pure_ (i := 1) (N := some 17) (v := ?_) (a' := ?_) #[true, true, false, false, false, false, false, false, false, false, false, false] rfl rfl (any_of HT_.out (by kernel_rfl)) (fun _ _ _ h => h) (Or.inl ⟨by rfl, ?_⟩) ?_ ?_
    rotate_left
    · intro w'
      go_simp
      with_reducible rfl
    rotate_left
    · simp only [Act.put, List.setIfInBounds_toArray, List.set_cons_zero, List.set_cons_succ, i64_w, i32_w]
      rfl
    refine pure_ (i := 3) (N := some 19) (v := ?_) (a' := ?_) #[true, true, false, true, false, false, false, false, false, false, false, false] rfl rfl (any_of HT_.out (by kernel_rfl)) (fun _ _ _ h => h) (Or.inl ⟨by rfl, ?_⟩) ?_ ?_
    rotate_left
    · intro w'
      go_simp
      with_reducible rfl
    rotate_left
    · simp only [Act.put, List.setIfInBounds_toArray, List.set_cons_zero, List.set_cons_succ, i64_w, i32_w]
      rfl
    refine take_ (i := 2) (N := some 18) (v := ?_) (a' := ?_) #[true, true, true, true, false, false, false, false, false, false, false, false] rfl rfl (take_ofW HT_.out HW_.out (by kernel_rfl)) (fun _ _ _ h => h) (Or.inl ⟨by rfl, ?_⟩) hHeld ?_ ?_
    rotate_left
    · rintro w' ⟨s0, s1⟩
      go_simp
      with_reducible rfl
    rotate_left
    · simp only [Act.put, List.setIfInBounds_toArray, List.set_cons_zero, List.set_cons_succ, i64_w, i32_w]
      rfl
    refine one_ (i := 4) (N := some 20) #[true, true, true, true, true, false, false, false, false, false, false, false] rfl rfl (one_of HT_.out (by kernel_rfl)) (by decide) (fun K hK => ?_)
    refine goes_ Try.func34 (by kernel_rfl) rfl #[.int .i64 a2] (by rfl) rfl rfl (by (try simp only [List.map_toArray, List.map_cons, List.map_nil]); first | done | rfl | (simp only [List.length_drop, List.length_take]; rfl)) ?_
    with_reducible refine (foolscapref5_capped.calls a2 t448 _ A6.out).mono ?_
    rintro e w14 ⟨rfl, hb⟩
    refine ⟨_, rfl, ?_⟩
    have n0_ := Aside0.mk (blk_below (g := gb445) (o := .cells #[.int .i64 a1_0, .int .i64 a1_1] 24 (0, 0)) (by (with_reducible repeat (first | refine blk_drewN ?_ _ | refine blk_drew ?_ | refine blk_alloc ?_ _)); exact BK445.out) hb)
    have n1_ := Aside0.mk (blk_below (g := gb446) (o := .cells #[.int .i64 0, .int .i64 0, .int .i64 0, .bool false, .int .i64 0] 33 (0, 0)) (by (with_reducible repeat (first | refine blk_drewN ?_ _ | refine blk_drew ?_ | refine blk_alloc ?_ _)); exact BK446.out) hb)
    have n2_ := Aside0.mk (below_step (by repeat (first | (with_reducible first | exact HB.out | apply below_alloc | apply pw_below_drewN | apply below_drew1 | refine below_set ?_ GE445.out | refine below_set ?_ GE446.out) | exact HB.out)) hb)
    clear BK445
    clear BK446
    clear HB
    have BK445 := n0_
    have BK446 := n1_
    have HB := n2_
    clear n0_ n1_ n2_
    (try clear hb)
    (try clear hb2)
    (try clear hk)
    (try clear hi)
    refine hK.out _ _ ⟨(blk_cell BK445.out 0).trans rfl, (blk_cell BK445.out 1).trans rfl⟩ (fun hHeld => ?_)
    clear hK K
    refine norm_ (a' := ?_) ?_ ?_
    rotate_left
    · show Act.put _ (some 20) _ = _
      simp only [Act.put, List.setIfInBounds_toArray, List.set_cons_zero, List.set_cons_succ, i64_w, i32_w]
      rfl
    refine pure_ (i := 5) (N := some 21) (v := ?_) (a' := ?_) #[true, true, true, true, true, true, false, false, false, false, false, false] rfl rfl (any_of HT_.out (by kernel_rfl)) (fun _ _ _ h => h) (Or.inl ⟨by rfl, ?_⟩) ?_ ?_
    rotate_left
    · intro w'
      go_simp
      with_reducible rfl
    rotate_left
    · simp only [Act.put, List.setIfInBounds_toArray, List.set_cons_zero, List.set_cons_succ, i64_w, i32_w]
      rfl
    refine pure_ (i := 6) (N := some 22) (v := ?_) (a' := ?_) #[true, true, true, true, true, true, true, false, false, false, false, false] rfl rfl (any_of HT_.out (by kernel_rfl)) (fun _ _ _ h => h) (Or.inl ⟨by rfl, ?_⟩) ?_ ?_
    rotate_left
    · intro w'
      go_simp
      with_reducible rfl
    rotate_left
    · simp only [Act.put, List.setIfInBounds_toArray, List.set_cons_zero, List.set_cons_succ, i64_w, i32_w]
      rfl
    refine one_ (i := 7) (N := some 23) #[true, true, true, true, true, true, true, true, false, false, false, false] rfl rfl (one_of HT_.out (by kernel_rfl)) (by decide) (fun K hK => ?_)
    refine goes_ Try.func31 (by kernel_rfl) rfl #[.slice A0 l0.length c0, .int .i64 (wrap64 ((wrap64 (a1_0 + t448)) - 1)), .bool false] (by rfl) rfl rfl (by (try simp only [List.map_toArray, List.map_cons, List.map_nil]); first | done | rfl | (simp only [List.length_drop, List.length_take]; rfl)) ?_
    with_reducible refine (foolscapref5_line.calls k _ _ l0 (wrap64 ((wrap64 (a1_0 + t448)) - 1)) false t449 t450 t451 t452 t453 t454 _ ?side1 ?side2 A7.out).mono ?_
    (case side1 => repeat (first | exact (Kd.C_below HR0.out HB.out) | (with_reducible refine Kd.C_alloc ?_ _) | (with_reducible refine Kd.C_drewN ?_ _) | (with_reducible refine Kd.C_drew ?_)))
    (case side2 => exact HC0.out)
    rintro e w15 ⟨rfl, hb⟩
    refine ⟨_, rfl, ?_⟩
    have n0_ := Aside0.mk (blk_below (g := gb445) (o := .cells #[.int .i64 a1_0, .int .i64 a1_1] 24 (0, 0)) (by (with_reducible repeat (first | refine blk_drewN ?_ _ | refine blk_drew ?_ | refine blk_alloc ?_ _)); exact BK445.out) hb)
    have n1_ := Aside0.mk (blk_below (g := gb446) (o := .cells #[.int .i64 0, .int .i64 0, .int .i64 0, .bool false, .int .i64 0] 33 (0, 0)) (by (with_reducible repeat (first | refine blk_drewN ?_ _ | refine blk_drew ?_ | refine blk_alloc ?_ _)); exact BK446.out) hb)
    have n2_ := Aside0.mk (below_step (by repeat (first | (with_reducible first | exact HB.out | apply below_alloc | apply pw_below_drewN | apply below_drew1 | refine below_set ?_ GE445.out | refine below_set ?_ GE446.out) | exact HB.out)) hb)
    clear BK445
    clear BK446
    clear HB
    have BK445 := n0_
    have BK446 := n1_
    have HB := n2_
    clear n0_ n1_ n2_
    (try clear hb)
    (try clear hb2)
    (try clear hk)
    (try clear hi)
    refine hK.out _ _ ⟨(blk_cell BK445.out 0).trans rfl, (blk_cell BK445.out 1).trans rfl⟩ (fun hHeld => ?_)
    clear hK K
    refine norm_ (a' := ?_) ?_ ?_
    rotate_left
    · show Act.put _ (some 23) _ = _
      simp only [Act.put, List.setIfInBounds_toArray, List.set_cons_zero, List.set_cons_succ, i64_w, i32_w]
      rfl
    refine pure_ (i := 8) (N := some 24) (v := ?_) (a' := ?_) #[true, true, true, true, true, true, true, true, true, false, false, false] rfl rfl (any_of HT_.out (by kernel_rfl)) (fun _ _ _ h => h) (Or.inl ⟨by rfl, ?_⟩) ?_ ?_
    rotate_left
    · intro w'
      go_simp
      with_reducible rfl
    rotate_left
    · simp only [Act.put, List.setIfInBounds_toArray, List.set_cons_zero, List.set_cons_succ, i64_w, i32_w]
      rfl
    refine pure_ (i := 9) (N := some 25) (v := ?_) (a' := ?_) #[true, true, true, true, true, true, true, true, true, true, false, false] rfl rfl (any_of HT_.out (by kernel_rfl)) (fun _ _ _ h => h) (Or.inl ⟨by rfl, ?_⟩) ?_ ?_
    rotate_left
    · intro w'
      go_simp
      with_reducible rfl
    rotate_left
    · simp only [Act.put, List.setIfInBounds_toArray, List.set_cons_zero, List.set_cons_succ, i64_w, i32_w]
      rfl
    refine one_ (i := 10) (N := none) #[true, true, true, true, true, true, true, true, true, true, true, false] rfl rfl (one_of HT_.out (by kernel_rfl)) (by decide) (fun K hK => ?_)
    have hs16 : w15.cell? ⟨gb446, 0, none⟩ = some (.int .i64 0) := (blk_cell BK446.out 0).trans rfl
    have hfs16 := blk_frozen BK446.out 0
    have hns16_0 := NB445_446.out
    have hms16_0 := NB446_445.out
    have hs17 : w15.cell? ⟨gb446, 1, none⟩ = some (.int .i64 0) := (blk_cell BK446.out 1).trans rfl
    have hfs17 := blk_frozen BK446.out 1
    have hns17_0 := NB445_446.out
    have hms17_0 := NB446_445.out
    have hs18 : w15.cell? ⟨gb446, 2, none⟩ = some (.int .i64 0) := (blk_cell BK446.out 2).trans rfl
    have hfs18 := blk_frozen BK446.out 2
    have hns18_0 := NB445_446.out
    have hms18_0 := NB446_445.out
    have hs19 : w15.cell? ⟨gb446, 3, none⟩ = some (.bool false) := (blk_cell BK446.out 3).trans rfl
    have hfs19 := blk_frozen BK446.out 3
    have hns19_0 := NB445_446.out
    have hms19_0 := NB446_445.out
    have hs20 : w15.cell? ⟨gb446, 4, none⟩ = some (.int .i64 0) := (blk_cell BK446.out 4).trans rfl
    have hfs20 := blk_frozen BK446.out 4
    have hns20_0 := NB445_446.out
    have hms20_0 := NB446_445.out
    refine skip_ (w1 := ?_) (by rfl) rfl ?_ ?_
    rotate_left
    · go_simp
      rfl
    refine hK.out _ _ ⟨((cell_far (p := ⟨gb446, _, none⟩) NB445_446.out _).trans (((cell_far (p := ⟨gb446, _, none⟩) NB445_446.out _).trans (((cell_far (p := ⟨gb446, _, none⟩) NB445_446.out _).trans (((cell_far (p := ⟨gb446, _, none⟩) NB445_446.out _).trans (((cell_far (p := ⟨gb446, _, none⟩) NB445_446.out _).trans (hHeld.1)))))))))), ((cell_far (p := ⟨gb446, _, none⟩) NB445_446.out _).trans (((cell_far (p := ⟨gb446, _, none⟩) NB445_446.out _).trans (((cell_far (p := ⟨gb446, _, none⟩) NB445_446.out _).trans (((cell_far (p := ⟨gb446, _, none⟩) NB445_446.out _).trans (((cell_far (p := ⟨gb446, _, none⟩) NB445_446.out _).trans (hHeld.2))))))))))⟩ (fun hHeld => ?_)
    clear hK K
    refine pure_ (i := 11) (N := some 7) (v := ?_) (a' := ?_) #[true, true, true, true, true, true, true, true, true, true, true, true] rfl rfl (any_of HT_.out (by kernel_rfl)) (fun _ _ _ h => h) (Or.inl ⟨by rfl, ?_⟩) ?_ ?_
    rotate_left
    · intro w'
      go_simp
      with_reducible rfl
    rotate_left
    · simp only [Act.put, List.setIfInBounds_toArray, List.set_cons_zero, List.set_cons_succ, i64_w, i32_w]
      rfl
    refine done_ (done_of HT_.out (by kernel_rfl)) ?_
    try go_wp2
    refine bodyPost_ret (results_ct rfl _ _ gb446 33 #[.int .i64 t449, .int .i64 t450, .int .i64 t451, .bool t452, .int .i64 t453] (0, 0) _ rfl (by (with_reducible repeat (first | refine blk_drewN ?_ _ | refine blk_drew ?_ | refine blk_alloc ?_ _)); refine blk_put (cs := #[.int .i64 t449, .int .i64 t450, .int .i64 t451, .bool t452, .int .i64 0]) ?_ 4 _ rfl; (with_reducible repeat (first | refine blk_drewN ?_ _ | refine blk_drew ?_ | refine blk_alloc ?_ _)); refine blk_put (cs := #[.int .i64 t449, .int .i64 t450, .int .i64 t451, .bool false, .int .i64 0]) ?_ 3 _ rfl; (with_reducible repeat (first | refine blk_drewN ?_ _ | refine blk_drew ?_ | refine blk_alloc ?_ _)); refine blk_put (cs := #[.int .i64 t449, .int .i64 t450, .int .i64 0, .bool false, .int .i64 0]) ?_ 2 _ rfl; (with_reducible repeat (first | refine blk_drewN ?_ _ | refine blk_drew ?_ | refine blk_alloc ?_ _)); refine blk_put (cs := #[.int .i64 t449, .int .i64 0, .int .i64 0, .bool false, .int .i64 0]) ?_ 1 _ rfl; (with_reducible repeat (first | refine blk_drewN ?_ _ | refine blk_drew ?_ | refine blk_alloc ?_ _)); refine blk_put (cs := #[.int .i64 0, .int .i64 0, .int .i64 0, .bool false, .int .i64 0]) ?_ 0 _ rfl; (with_reducible repeat (first | refine blk_drewN ?_ _ | refine blk_drew ?_ | refine blk_alloc ?_ _)); exact BK446.out) Try.underlying33 rfl (by kernel_rfl)) rfl ?_
    exact ⟨by first | rfl | (simp [errW_none, errW_some] <;> rfl) | (simp [*, errW_none, errW_some] <;> rfl), by repeat (first | (with_reducible first | exact HB.out | apply below_alloc | apply pw_below_drewN | apply below_drew1 | refine below_set ?_ GE445.out | refine below_set ?_ GE446.out) | exact HB.out)⟩
  · replace c5 := Bool.eq_false_iff.mpr c5
    subst c5
    have H1 : ((foolscapref5_none.f).bind fun bt455 => (some (bt455.1, bt455.2.1, bt455.2.2.1, bt455.2.2.2.1, bt455.2.2.2.2.1, bt455.2.2.2.2.2))) = some (r1, r2, r3, r4, r5, r6) := by rw [if_neg (show ¬ (false = true) by decide)] at H; exact H
    clear H
    have H := H1
    clear H1
    replace H := Option.bind_eq_some_iff.mp H
    obtain ⟨⟨t455, t456, t457, t458, t459, t460⟩, A210, H⟩ := H
    replace H : (some (t455, t456, t457, t458, t459, t460)) = some (r1, r2, r3, r4, r5, r6) := H
    have A21 := Aside0.mk A210
    clear A210
    simp only [Option.some.injEq, Prod.mk.injEq] at H
    obtain ⟨rfl, rfl, rfl, rfl, rfl, rfl⟩ := H
    go_enter Try.func24, Try.ntmps24
    go_wp2_with (first | ((with_reducible refine gate_dst (N := 4) rfl ?_); refine box_event ?hg (N := 4) ?hd (cs := #[.int .i64 a1_0, .int .i64 a1_1]) (t := 24) ?hr ?_; (case hd => rfl); (case hg => rfl); (case hr => first | (go_simp; done) | (go_simp; rfl)); intro gb445 hg w22 hbox hb; have n0_ := Aside0.mk (below_step (by repeat (first | (with_reducible first | exact HB.out | apply below_alloc | apply pw_below_drewN | apply below_drew1) | exact HB.out)) hb); have n1_ := Aside0.mk (hbox); have n2_ := Aside0.mk ((by rw [hg]; exact (below_size (by repeat (first | (with_reducible first | exact HB.out | apply below_alloc | apply pw_below_drewN | apply below_drew1) | exact HB.out))) : w.heap.size ≤ gb445)); have n3_ := Aside0.mk ((by rw [hg]; exact (below_size (by repeat (first | (with_reducible first | exact HB.out | apply below_alloc | apply pw_below_drewN | apply below_drew1) | exact HB.out))) : w.heap.size ≤ gb445)); clear HB; have HB := n0_; have BK445 := n1_; have GW445 := n2_; have GE445 := n3_; clear n0_ n1_ n2_ n3_; clear hb hbox hg) | ((with_reducible refine gate_dst (N := 6) rfl ?_); refine box_event ?hg (N := 6) ?hd (cs := #[.int .i64 0, .int .i64 0, .int .i64 0, .bool false, .int .i64 0]) (t := 33) ?hr ?_; (case hd => rfl); (case hg => rfl); (case hr => first | (go_simp; done) | (go_simp; rfl)); intro gb446 hg w23 hbox hb; have n0_ := Aside0.mk (blk_below (g := gb445) (o := .cells #[.int .i64 a1_0, .int .i64 a1_1] 24 (0, 0)) (by (with_reducible repeat (first | refine blk_drewN ?_ _ | refine blk_drew ?_ | refine blk_alloc ?_ _)); exact BK445.out) hb); have n1_ := Aside0.mk (below_step (by repeat (first | (with_reducible first | exact HB.out | apply below_alloc | apply pw_below_drewN | apply below_drew1 | refine below_set ?_ GE445.out) | exact HB.out)) hb); have n2_ := Aside0.mk (hbox); have n3_ := Aside0.mk ((by rw [hg]; exact (below_size (by repeat (first | (with_reducible first | exact HB.out | apply below_alloc | apply pw_below_drewN | apply below_drew1 | refine below_set ?_ GE445.out) | exact HB.out))) : w.heap.size ≤ gb446)); have n4_ := Aside0.mk ((by rw [hg]; exact (below_size (by repeat (first | (with_reducible first | exact HB.out | apply below_alloc | apply pw_below_drewN | apply below_drew1 | refine below_set ?_ GE445.out) | exact HB.out))) : w.heap.size ≤ gb446)); have n5_ := Aside0.mk ((by rw [hg]; exact Nat.ne_of_lt (blk_lt (g := gb445) (o := .cells #[.int .i64 a1_0, .int .i64 a1_1] 24 (0, 0)) (by (with_reducible repeat (first | refine blk_drewN ?_ _ | refine blk_drew ?_ | refine blk_alloc ?_ _)); exact BK445.out)) : gb445 ≠ gb446)); have n6_ := Aside0.mk ((by rw [hg]; exact Nat.ne_of_gt (blk_lt (g := gb445) (o := .cells #[.int .i64 a1_0, .int .i64 a1_1] 24 (0, 0)) (by (with_reducible repeat (first | refine blk_drewN ?_ _ | refine blk_drew ?_ | refine blk_alloc ?_ _)); exact BK445.out)) : gb446 ≠ gb445)); clear BK445; clear HB; have BK445 := n0_; have HB := n1_; have BK446 := n2_; have GW446 := n3_; have GE446 := n4_; have NB445_446 := n5_; have NB446_445 := n6_; clear n0_ n1_ n2_ n3_ n4_ n5_ n6_; clear hb hbox hg; have hnb24 := NB445_446.out; have hnc24 := NB446_445.out; have hcz25_0 : w23.cell? ⟨gb445, 0, none⟩ = some (.int .i64 a1_0) := (blk_cell BK445.out 0).trans rfl; have hcz25_1 : w23.cell? ⟨gb445, 1, none⟩ = some (.int .i64 a1_1) := (blk_cell BK445.out 1).trans rfl; have hfz25_0 := blk_frozen BK445.out 0; have hfz25_1 := blk_frozen BK445.out 1) | ((with_reducible refine gate_callee (f := 29) rfl ?_); refine goesL_ (some 11) rfl rfl Try.func29 (by kernel_rfl) rfl #[.slice A0 l0.length c0, .agg #[.int .i64 a1_0, .int .i64 a1_1], .int .i64 a2] rfl (by (try simp only [List.map_toArray, List.map_cons, List.map_nil]); first | done | rfl | (simp only [List.length_drop, List.length_take]; rfl)) ?_; (with_reducible refine (foolscapref5_may.calls _ _ l0 a1_0 a1_1 a2 false _ ?side1 ?side2 A4.out).mono ?_); (case side1 => repeat (first | exact (Kd.C_below HR0.out HB.out) | (with_reducible refine Kd.C_alloc ?_ _) | (with_reducible refine Kd.C_drewN ?_ _) | (with_reducible refine Kd.C_drew ?_))); (case side2 => exact HC0.out); rintro e w26 ⟨rfl, hb⟩; refine ⟨_, rfl, ?_⟩; have n0_ := Aside0.mk (blk_below (g := gb445) (o := .cells #[.int .i64 a1_0, .int .i64 a1_1] 24 (0, 0)) (by (with_reducible repeat (first | refine blk_drewN ?_ _ | refine blk_drew ?_ | refine blk_alloc ?_ _)); exact BK445.out) hb); have n1_ := Aside0.mk (blk_below (g := gb446) (o := .cells #[.int .i64 0, .int .i64 0, .int .i64 0, .bool false, .int .i64 0] 33 (0, 0)) (by (with_reducible repeat (first | refine blk_drewN ?_ _ | refine blk_drew ?_ | refine blk_alloc ?_ _)); exact BK446.out) hb); have n2_ := Aside0.mk (below_step (by repeat (first | (with_reducible first | exact HB.out | apply below_alloc | apply pw_below_drewN | apply below_drew1 | refine below_set ?_ GE445.out | refine below_set ?_ GE446.out) | exact HB.out)) hb); clear BK445; clear BK446; clear HB; have BK445 := n0_; have BK446 := n1_; have HB := n2_; clear n0_ n1_ n2_; (try clear hb); (try clear hb2); (try clear hk); (try clear hi)) | ((with_reducible refine gate_callee (f := 30) rfl ?_); refine goesL_ (some 13) rfl rfl Try.func30 (by kernel_rfl) rfl #[] rfl (by (try simp only [List.map_toArray, List.map_cons, List.map_nil]); first | done | rfl | (simp only [List.length_drop, List.length_take]; rfl)) ?_; (with_reducible refine (foolscapref5_none.calls  t455 t456 t457 t458 t459 t460 _ A21.out).mono ?_); rintro e w27 ⟨rfl, hb⟩; refine ⟨_, rfl, ?_⟩; have n0_ := Aside0.mk (blk_below (g := gb445) (o := .cells #[.int .i64 a1_0, .int .i64 a1_1] 24 (0, 0)) (by (with_reducible repeat (first | refine blk_drewN ?_ _ | refine blk_drew ?_ | refine blk_alloc ?_ _)); exact BK445.out) hb); have n1_ := Aside0.mk (blk_below (g := gb446) (o := .cells #[.int .i64 0, .int .i64 0, .int .i64 0, .bool false, .int .i64 0] 33 (0, 0)) (by (with_reducible repeat (first | refine blk_drewN ?_ _ | refine blk_drew ?_ | refine blk_alloc ?_ _)); exact BK446.out) hb); have n2_ := Aside0.mk (below_step (by repeat (first | (with_reducible first | exact HB.out | apply below_alloc | apply pw_below_drewN | apply below_drew1 | refine below_set ?_ GE445.out | refine below_set ?_ GE446.out) | exact HB.out)) hb); clear BK445; clear BK446; clear HB; have BK445 := n0_; have BK446 := n1_; have HB := n2_; clear n0_ n1_ n2_; (try clear hb); (try clear hb2); (try clear hk); (try clear hi); have hcz28_0 : w27.cell? ⟨gb446, 0, none⟩ = some (.int .i64 0) := (blk_cell BK446.out 0).trans rfl; have hcz28_1 : w27.cell? ⟨gb446, 1, none⟩ = some (.int .i64 0) := (blk_cell BK446.out 1).trans rfl; have hcz28_2 : w27.cell? ⟨gb446, 2, none⟩ = some (.int .i64 0) := (blk_cell BK446.out 2).trans rfl; have hcz28_3 : w27.cell? ⟨gb446, 3, none⟩ = some (.bool false) := (blk_cell BK446.out 3).trans rfl; have hcz28_4 : w27.cell? ⟨gb446, 4, none⟩ = some (.int .i64 0) := (blk_cell BK446.out 4).trans rfl; have hfz28_0 := blk_frozen BK446.out 0; have hfz28_1 := blk_frozen BK446.out 1; have hfz28_2 := blk_frozen BK446.out 2; have hfz28_3 := blk_frozen BK446.out 3; have hfz28_4 := blk_frozen BK446.out 4))
    refine bodyPost_ret (results_ct rfl _ _ gb446 33 #[.int .i64 t455, .int .i64 t456, .int .i64 t457, .bool t458, .int .i64 t459] (0, 0) _ rfl (by (with_reducible repeat (first | refine blk_drewN ?_ _ | refine blk_drew ?_ | refine blk_alloc ?_ _)); refine blk_put (cs := #[.int .i64 t455, .int .i64 t456, .int .i64 t457, .bool t458, .int .i64 0]) ?_ 4 _ rfl; (with_reducible repeat (first | refine blk_drewN ?_ _ | refine blk_drew ?_ | refine blk_alloc ?_ _)); refine blk_put (cs := #[.int .i64 t455, .int .i64 t456, .int .i64 t457, .bool false, .int .i64 0]) ?_ 3 _ rfl; (with_reducible repeat (first | refine blk_drewN ?_ _ | refine blk_drew ?_ | refine blk_alloc ?_ _)); refine blk_put (cs := #[.int .i64 t455, .int .i64 t456, .int .i64 0, .bool false, .int .i64 0]) ?_ 2 _ rfl; (with_reducible repeat (first | refine blk_drewN ?_ _ | refine blk_drew ?_ | refine blk_alloc ?_ _)); refine blk_put (cs := #[.int .i64 t455, .int .i64 0, .int .i64 0, .bool false, .int .i64 0]) ?_ 1 _ rfl; (with_reducible repeat (first | refine blk_drewN ?_ _ | refine blk_drew ?_ | refine blk_alloc ?_ _)); refine blk_put (cs := #[.int .i64 0, .int .i64 0, .int .i64 0, .bool false, .int .i64 0]) ?_ 0 _ rfl; (with_reducible repeat (first | refine blk_drewN ?_ _ | refine blk_drew ?_ | refine blk_alloc ?_ _)); exact BK446.out) Try.underlying33 rfl (by kernel_rfl)) rfl ?_
    exact ⟨by first | rfl | (simp [errW_none, errW_some] <;> rfl) | (simp [*, errW_none, errW_some] <;> rfl), by repeat (first | (with_reducible first | exact HB.out | apply below_alloc | apply pw_below_drewN | apply below_drew1 | refine below_set ?_ GE445.out | refine below_set ?_ GE446.out) | exact HB.out)⟩

end Go.Proofs.Ytngkpgocjeiheaa.V
namespace Go.Proofs.Ytngkpgocjeiheaa.V
open Go.RowKit Go.Proofs.YtngkpgocjeiheaaW.PrintWords Go.Proofs.YtngkpgocjeiheaaW.PrintLast Go.Proofs.YtngkpgocjeiheaaW.PrintMore
attribute [local go_sem] max2_int min2_int max_two min_two max_three min_three max_four min_four   -- for this text's walks alone
set_option linter.unusedVariables false
set_option linter.unusedSimpArgs false

/-! ### foolscapref5_Goto: function 25 -/
def foolscapref5_Goto.f (k : Nat) (l0 : List ByteArray) (a1_0 : Int) (a1_1 : Int) (a2 : Int) : Option (Int × Int × Int × Bool × Int × Bool) := (foolscapref5_may.f l0 a1_0 a1_1 a2).bind fun t463 => (if t463 = true then ((foolscapref5_capped.f a2).bind fun t464 => ((foolscapref5_line.f k l0 (wrap64 (t464 - 1)) true).bind fun bt465 => (some (bt465.1, bt465.2.1, bt465.2.2.1, bt465.2.2.2.1, bt465.2.2.2.2.1, bt465.2.2.2.2.2)))) else ((foolscapref5_none.f).bind fun bt471 => (some (bt471.1, bt471.2.1, bt471.2.2.1, bt471.2.2.2.1, bt471.2.2.2.2.1, bt471.2.2.2.2.2))))
theorem foolscapref5_Goto.mono : ∀ a0 a1 a2 a3 k, LeO (foolscapref5_Goto.f k a0 a1 a2 a3) (foolscapref5_Goto.f (k + 1) a0 a1 a2 a3) := by
  intro a0 a1 a2 a3 k
  unfold foolscapref5_Goto.f
  repeat' first
      | (with_reducible exact foolscapref5_line.mono _ _ _ _)
      | (with_reducible exact LeO.refl _)
      | (with_reducible exact LeO.none _)
      | (with_reducible refine LeO.ite ?_ ?_)
      | (with_reducible refine LeO.bind ?_ (fun _ => ?_))
      | exact foolscapref5_line.mono _ _ _ _
      | exact LeO.none _
      | refine LeO.ite ?_ ?_
      | refine LeO.bind ?_ (fun _ => ?_)
set_option maxHeartbeats 8000000 in
set_option maxRecDepth 100000 in
theorem foolscapref5_Goto.calls (k : Nat) (A0 : Option Addr) (c0 : Nat) (l0 : List ByteArray) (a1_0 : Int) (a1_1 : Int) (a2 : Int) (r1 : Int) (r2 : Int) (r3 : Int) (r4 : Bool) (r5 : Int) (r6 : Bool) (w : World) (hr0 : Kd.C Kd.string w A0 l0.length l0) (hc0 : l0.length ≤ c0) (h : foolscapref5_Goto.f k l0 a1_0 a1_1 a2 = some (r1, r2, r3, r4, r5, r6)) :
    Calls Try.prog 25 #[.slice A0 l0.length c0, .agg #[.int .i64 a1_0, .int .i64 a1_1], .int .i64 a2] w fun e w' => e = .returned (.tuple #[.agg #[.int .i64 r1, .int .i64 r2, .int .i64 r3, .bool r4, .int .i64 r5], .bool r6]) ∧ Below w.heap.size w w' := by
  have hu24 := Try.underlying24
  have hu33 := Try.underlying33
  have HR0 := Aside0.mk hr0
  have HC0 := Aside0.mk hc0
  clear hr0 hc0
  have HB := Aside0.mk (Below.refl w.heap.size w)
  have H : ((foolscapref5_may.f l0 a1_0 a1_1 a2).bind fun t463 => (if t463 = true then ((foolscapref5_capped.f a2).bind fun t464 => ((foolscapref5_line.f k l0 (wrap64 (t464 - 1)) true).bind fun bt465 => (some (bt465.1, bt465.2.1, bt465.2.2.1, bt465.2.2.2.1, bt465.2.2.2.2.1, bt465.2.2.2.2.2)))) else ((foolscapref5_none.f).bind fun bt471 => (some (bt471.1, bt471.2.1, bt471.2.2.1, bt471.2.2.2.1, bt471.2.2.2.2.1, bt471.2.2.2.2.2))))) = some (r1, r2, r3, r4, r5, r6) := h
  clear h
  replace H := Option.bind_eq_some_iff.mp H
  obtain ⟨t463, A40, H⟩ := H
  replace H : (if t463 = true then ((foolscapref5_capped.f a2).bind fun t464 => ((foolscapref5_line.f k l0 (wrap64 (t464 - 1)) true).bind fun bt465 => (some (bt465.1, bt465.2.1, bt465.2.2.1, bt465.2.2.2.1, bt465.2.2.2.2.1, bt465.2.2.2.2.2)))) else ((foolscapref5_none.f).bind fun bt471 => (some (bt471.1, bt471.2.1, bt471.2.2.1, bt471.2.2.2.1, bt471.2.2.2.2.1, bt471.2.2.2.2.2)))) = some (r1, r2, r3, r4, r5, r6) := H
  have A4 := Aside0.mk A40
  clear A40
  by_cases c5 : t463 = true
  · subst c5
    have H1 : ((foolscapref5_capped.f a2).bind fun t464 => ((foolscapref5_line.f k l0 (wrap64 (t464 - 1)) true).bind fun bt465 => (some (bt465.1, bt465.2.1, bt465.2.2.1, bt465.2.2.2.1, bt465.2.2.2.2.1, bt465.2.2.2.2.2)))) = some (r1, r2, r3, r4, r5, r6) := by rw [if_pos rfl] at H; exact H
    clear H
    have H := H1
    clear H1
    replace H := Option.bind_eq_some_iff.mp H
    obtain ⟨t464, A60, H⟩ := H
    replace H : ((foolscapref5_line.f k l0 (wrap64 (t464 - 1)) true).bind fun bt465 => (some (bt465.1, bt465.2.1, bt465.2.2.1, bt465.2.2.2.1, bt465.2.2.2.2.1, bt465.2.2.2.2.2))) = some (r1, r2, r3, r4, r5, r6) := H
    have A6 := Aside0.mk A60
    clear A60
    replace H := Option.bind_eq_some_iff.mp H
    obtain ⟨⟨t465, t466, t467, t468, t469, t470⟩, A70, H⟩ := H
    replace H : (some (t465, t466, t467, t468, t469, t470)) = some (r1, r2, r3, r4, r5, r6) := H
    have A7 := Aside0.mk A70
    clear A70
    simp only [Option.some.injEq, Prod.mk.injEq] at H
    obtain ⟨rfl, rfl, rfl, rfl, rfl, rfl⟩ := H
    go_enter Try.func25, Try.ntmps25
    go_wp2_with (first | ((with_reducible refine gate_dst (N := 4) rfl ?_); refine box_event ?hg (N := 4) ?hd (cs := #[.int .i64 a1_0, .int .i64 a1_1]) (t := 24) ?hr ?_; (case hd => rfl); (case hg => rfl); (case hr => first | (go_simp; done) | (go_simp; rfl)); intro gb461 hg w8 hbox hb; have n0_ := Aside0.mk (below_step (by repeat (first | (with_reducible first | exact HB.out | apply below_alloc | apply pw_below_drewN | apply below_drew1) | exact HB.out)) hb); have n1_ := Aside0.mk (hbox); have n2_ := Aside0.mk ((by rw [hg]; exact (below_size (by repeat (first | (with_reducible first | exact HB.out | apply below_alloc | apply pw_below_drewN | apply below_drew1) | exact HB.out))) : w.heap.size ≤ gb461)); have n3_ := Aside0.mk ((by rw [hg]; exact (below_size (by repeat (first | (with_reducible first | exact HB.out | apply below_alloc | apply pw_below_drewN | apply below_drew1) | exact HB.out))) : w.heap.size ≤ gb461)); clear HB; have HB := n0_; have BK461 := n1_; have GW461 := n2_; have GE461 := n3_; clear n0_ n1_ n2_ n3_; clear hb hbox hg) | ((with_reducible refine gate_dst (N := 6) rfl ?_); refine box_event ?hg (N := 6) ?hd (cs := #[.int .i64 0, .int .i64 0, .int .i64 0, .bool false, .int .i64 0]) (t := 33) ?hr ?_; (case hd => rfl); (case hg => rfl); (case hr => first | (go_simp; done) | (go_simp; rfl)); intro gb462 hg w9 hbox hb; have n0_ := Aside0.mk (blk_below (g := gb461) (o := .cells #[.int .i64 a1_0, .int .i64 a1_1] 24 (0, 0)) (by (with_reducible repeat (first | refine blk_drewN ?_ _ | refine blk_drew ?_ | refine blk_alloc ?_ _)); exact BK461.out) hb); have n1_ := Aside0.mk (below_step (by repeat (first | (with_reducible first | exact HB.out | apply below_alloc | apply pw_below_drewN | apply below_drew1 | refine below_set ?_ GE461.out) | exact HB.out)) hb); have n2_ := Aside0.mk (hbox); have n3_ := Aside0.mk ((by rw [hg]; exact (below_size (by repeat (first | (with_reducible first | exact HB.out | apply below_alloc | apply pw_below_drewN | apply below_drew1 | refine below_set ?_ GE461.out) | exact HB.out))) : w.heap.size ≤ gb462)); have n4_ := Aside0.mk ((by rw [hg]; exact (below_size (by repeat (first | (with_reducible first | exact HB.out | apply below_alloc | apply pw_below_drewN | apply below_drew1 | refine below_set ?_ GE461.out) | exact HB.out))) : w.heap.size ≤ gb462)); have n5_ := Aside0.mk ((by rw [hg]; exact Nat.ne_of_lt (blk_lt (g := gb461) (o := .cells #[.int .i64 a1_0, .int .i64 a1_1] 24 (0, 0)) (by (with_reducible repeat (first | refine blk_drewN ?_ _ | refine blk_drew ?_ | refine blk_alloc ?_ _)); exact BK461.out)) : gb461 ≠ gb462)); have n6_ := Aside0.mk ((by rw [hg]; exact Nat.ne_of_gt (blk_lt (g := gb461) (o := .cells #[.int .i64 a1_0, .int .i64 a1_1] 24 (0, 0)) (by (with_reducible repeat (first | refine blk_drewN ?_ _ | refine blk_drew ?_ | refine blk_alloc ?_ _)); exact BK461.out)) : gb462 ≠ gb461)); clear BK461; clear HB; have BK461 := n0_; have HB := n1_; have BK462 := n2_; have GW462 := n3_; have GE462 := n4_; have NB461_462 := n5_; have NB462_461 := n6_; clear n0_ n1_ n2_ n3_ n4_ n5_ n6_; clear hb hbox hg; have hnb10 := NB461_462.out; have hnc10 := NB462_461.out; have hcz11_0 : w9.cell? ⟨gb461, 0, none⟩ = some (.int .i64 a1_0) := (blk_cell BK461.out 0).trans rfl; have hcz11_1 : w9.cell? ⟨gb461, 1, none⟩ = some (.int .i64 a1_1) := (blk_cell BK461.out 1).trans rfl; have hfz11_0 := blk_frozen BK461.out 0; have hfz11_1 := blk_frozen BK461.out 1) | ((with_reducible refine gate_callee (f := 29) rfl ?_); refine goesL_ (some 11) rfl rfl Try.func29 (by kernel_rfl) rfl #[.slice A0 l0.length c0, .agg #[.int .i64 a1_0, .int .i64 a1_1], .int .i64 a2] rfl (by (try simp only [List.map_toArray, List.map_cons, List.map_nil]); first | done | rfl | (simp only [List.length_drop, List.length_take]; rfl)) ?_; (with_reducible refine (foolscapref5_may.calls _ _ l0 a1_0 a1_1 a2 true _ ?side1 ?side2 A4.out).mono ?_); (case side1 => repeat (first | exact (Kd.C_below HR0.out HB.out) | (with_reducible refine Kd.C_alloc ?_ _) | (with_reducible refine Kd.C_drewN ?_ _) | (with_reducible refine Kd.C_drew ?_))); (case side2 => exact HC0.out); rintro e w12 ⟨rfl, hb⟩; refine ⟨_, rfl, ?_⟩; have n0_ := Aside0.mk (blk_below (g := gb461) (o := .cells #[.int .i64 a1_0, .int .i64 a1_1] 24 (0, 0)) (by (with_reducible repeat (first | refine blk_drewN ?_ _ | refine blk_drew ?_ | refine blk_alloc ?_ _)); exact BK461.out) hb); have n1_ := Aside0.mk (blk_below (g := gb462) (o := .cells #[.int .i64 0, .int .i64 0, .int .i64 0, .bool false, .int .i64 0] 33 (0, 0)) (by (with_reducible repeat (first | refine blk_drewN ?_ _ | refine blk_drew ?_ | refine blk_alloc ?_ _)); exact BK462.out) hb); have n2_ := Aside0.mk (below_step (by repeat (first | (with_reducible first | exact HB.out | apply below_alloc | apply pw_below_drewN | apply below_drew1 | refine below_set ?_ GE461.out | refine below_set ?_ GE462.out) | exact HB.out)) hb); clear BK461; clear BK462; clear HB; have BK461 := n0_; have BK462 := n1_; have HB := n2_; clear n0_ n1_ n2_; (try clear hb); (try clear hb2); (try clear hk); (try clear hi)) | ((with_reducible refine gate_callee (f := 34) rfl ?_); refine goesL_ (some 18) rfl rfl Try.func34 (by kernel_rfl) rfl #[.int .i64 a2] rfl (by (try simp only [List.map_toArray, List.map_cons, List.map_nil]); first | done | rfl | (simp only [List.length_drop, List.length_take]; rfl)) ?_; (with_reducible refine (foolscapref5_capped.calls a2 t464 _ A6.out).mono ?_); rintro e w13 ⟨rfl, hb⟩; refine ⟨_, rfl, ?_⟩; have n0_ := Aside0.mk (blk_below (g := gb461) (o := .cells #[.int .i64 a1_0, .int .i64 a1_1] 24 (0, 0)) (by (with_reducible repeat (first | refine blk_drewN ?_ _ | refine blk_drew ?_ | refine blk_alloc ?_ _)); exact BK461.out) hb); have n1_ := Aside0.mk (blk_below (g := gb462) (o := .cells #[.int .i64 0, .int .i64 0, .int .i64 0, .bool false, .int .i64 0] 33 (0, 0)) (by (with_reducible repeat (first | refine blk_drewN ?_ _ | refine blk_drew ?_ | refine blk_alloc ?_ _)); exact BK462.out) hb); have n2_ := Aside0.mk (below_step (by repeat (first | (with_reducible first | exact HB.out | apply below_alloc | apply pw_below_drewN | apply below_drew1 | refine below_set ?_ GE461.out | refine below_set ?_ GE462.out) | exact HB.out)) hb); clear BK461; clear BK462; clear HB; have BK461 := n0_; have BK462 := n1_; have HB := n2_; clear n0_ n1_ n2_; (try clear hb); (try clear hb2); (try clear hk); (try clear hi)) | ((with_reducible refine gate_callee (f := 31) rfl ?_); refine goesL_ (some 20) rfl rfl Try.func31 (by kernel_rfl) rfl #[.slice A0 l0.length c0, .int .i64 (wrap64 (t464 - 1)), .bool true] rfl (by (try simp only [List.map_toArray, List.map_cons, List.map_nil]); first | done | rfl | (simp only [List.length_drop, List.length_take]; rfl)) ?_; (with_reducible refine (foolscapref5_line.calls k _ _ l0 (wrap64 (t464 - 1)) true t465 t466 t467 t468 t469 t470 _ ?side1 ?side2 A7.out).mono ?_); (case side1 => repeat (first | exact (Kd.C_below HR0.out HB.out) | (with_reducible refine Kd.C_alloc ?_ _) | (with_reducible refine Kd.C_drewN ?_ _) | (with_reducible refine Kd.C_drew ?_))); (case side2 => exact HC0.out); rintro e w14 ⟨rfl, hb⟩; refine ⟨_, rfl, ?_⟩; have n0_ := Aside0.mk (blk_below (g := gb461) (o := .cells #[.int .i64 a1_0, .int .i64 a1_1] 24 (0, 0)) (by (with_reducible repeat (first | refine blk_drewN ?_ _ | refine blk_drew ?_ | refine blk_alloc ?_ _)); exact BK461.out) hb); have n1_ := Aside0.mk (blk_below (g := gb462) (o := .cells #[.int .i64 0, .int .i64 0, .int .i64 0, .bool false, .int .i64 0] 33 (0, 0)) (by (with_reducible repeat (first | refine blk_drewN ?_ _ | refine blk_drew ?_ | refine blk_alloc ?_ _)); exact BK462.out) hb); have n2_ := Aside0.mk (below_step (by repeat (first | (with_reducible first | exact HB.out | apply below_alloc | apply pw_below_drewN | apply below_drew1 | refine below_set ?_ GE461.out | refine below_set ?_ GE462.out) | exact HB.out)) hb); clear BK461; clear BK462; clear HB; have BK461 := n0_; have BK462 := n1_; have HB := n2_; clear n0_ n1_ n2_; (try clear hb); (try clear hb2); (try clear hk); (try clear hi); have hcz15_0 : w14.cell? ⟨gb462, 0, none⟩ = some (.int .i64 0) := (blk_cell BK462.out 0).trans rfl; have hcz15_1 : w14.cell? ⟨gb462, 1, none⟩ = some (.int .i64 0) := (blk_cell BK462.out 1).trans rfl; have hcz15_2 : w14.cell? ⟨gb462, 2, none⟩ = some (.int .i64 0) := (blk_cell BK462.out 2).trans rfl; have hcz15_3 : w14.cell? ⟨gb462, 3, none⟩ = some (.bool false) := (blk_cell BK462.out 3).trans rfl; have hcz15_4 : w14.cell? ⟨gb462, 4, none⟩ = some (.int .i64 0) := (blk_cell BK462.out 4).trans rfl; have hfz15_0 := blk_frozen BK462.out 0; have hfz15_1 := blk_frozen BK462.out 1; have hfz15_2 := blk_frozen BK462.out 2; have hfz15_3 := blk_frozen BK462.out 3; have hfz15_4 := blk_frozen BK462.out 4))
    refine bodyPost_ret (results_ct rfl _ _ gb462 33 #[.int .i64 t465, .int .i64 t466, .int .i64 t467, .bool t468, .int .i64 t469] (0, 0) _ rfl (by (with_reducible repeat (first | refine blk_drewN ?_ _ | refine blk_drew ?_ | refine blk_alloc ?_ _)); refine blk_put (cs := #[.int .i64 t465, .int .i64 t466, .int .i64 t467, .bool t468, .int .i64 0]) ?_ 4 _ rfl; (with_reducible repeat (first | refine blk_drewN ?_ _ | refine blk_drew ?_ | refine blk_alloc ?_ _)); refine blk_put (cs := #[.int .i64 t465, .int .i64 t466, .int .i64 t467, .bool false, .int .i64 0]) ?_ 3 _ rfl; (with_reducible repeat (first | refine blk_drewN ?_ _ | refine blk_drew ?_ | refine blk_alloc ?_ _)); refine blk_put (cs := #[.int .i64 t465, .int .i64 t466, .int .i64 0, .bool false, .int .i64 0]) ?_ 2 _ rfl; (with_reducible repeat (first | refine blk_drewN ?_ _ | refine blk_drew ?_ | refine blk_alloc ?_ _)); refine blk_put (cs := #[.int .i64 t465, .int .i64 0, .int .i64 0, .bool false, .int .i64 0]) ?_ 1 _ rfl; (with_reducible repeat (first | refine blk_drewN ?_ _ | refine blk_drew ?_ | refine blk_alloc ?_ _)); refine blk_put (cs := #[.int .i64 0, .int .i64 0, .int .i64 0, .bool false, .int .i64 0]) ?_ 0 _ rfl; (with_reducible repeat (first | refine blk_drewN ?_ _ | refine blk_drew ?_ | refine blk_alloc ?_ _)); exact BK462.out) Try.underlying33 rfl (by kernel_rfl)) rfl ?_
    exact ⟨by first | rfl | (simp [errW_none, errW_some] <;> rfl) | (simp [*, errW_none, errW_some] <;> rfl), by repeat (first | (with_reducible first | exact HB.out | apply below_alloc | apply pw_below_drewN | apply below_drew1 | refine below_set ?_ GE461.out | refine below_set ?_ GE462.out) | exact HB.out)⟩
  · replace c5 := Bool.eq_false_iff.mpr c5
    subst c5
    have H1 : ((foolscapref5_none.f).bind fun bt471 => (some (bt471.1, bt471.2.1, bt471.2.2.1, bt471.2.2.2.1, bt471.2.2.2.2.1, bt471.2.2.2.2.2))) = some (r1, r2, r3, r4, r5, r6) := by rw [if_neg (show ¬ (false = true) by decide)] at H; exact H
    clear H
    have H := H1
    clear H1
    replace H := Option.bind_eq_some_iff.mp H
    obtain ⟨⟨t471, t472, t473, t474, t475, t476⟩, A160, H⟩ := H
    replace H : (some (t471, t472, t473, t474, t475, t476)) = some (r1, r2, r3, r4, r5, r6) := H
    have A16 := Aside0.mk A160
    clear A160
    simp only [Option.some.injEq, Prod.mk.injEq] at H
    obtain ⟨rfl, rfl, rfl, rfl, rfl, rfl⟩ := H
    go_enter Try.func25, Try.ntmps25
    go_wp2_with (first | ((with_reducible refine gate_dst (N := 4) rfl ?_); refine box_event ?hg (N := 4) ?hd (cs := #[.int .i64 a1_0, .int .i64 a1_1]) (t := 24) ?hr ?_; (case hd => rfl); (case hg => rfl); (case hr => first | (go_simp; done) | (go_simp; rfl)); intro gb461 hg w17 hbox hb; have n0_ := Aside0.mk (below_step (by repeat (first | (with_reducible first | exact HB.out | apply below_alloc | apply pw_below_drewN | apply below_drew1) | exact HB.out)) hb); have n1_ := Aside0.mk (hbox); have n2_ := Aside0.mk ((by rw [hg]; exact (below_size (by repeat (first | (with_reducible first | exact HB.out | apply below_alloc | apply pw_below_drewN | apply below_drew1) | exact HB.out))) : w.heap.size ≤ gb461)); have n3_ := Aside0.mk ((by rw [hg]; exact (below_size (by repeat (first | (with_reducible first | exact HB.out | apply below_alloc | apply pw_below_drewN | apply below_drew1) | exact HB.out))) : w.heap.size ≤ gb461)); clear HB; have HB := n0_; have BK461 := n1_; have GW461 := n2_; have GE461 := n3_; clear n0_ n1_ n2_ n3_; clear hb hbox hg) | ((with_reducible refine gate_dst (N := 6) rfl ?_); refine box_event ?hg (N := 6) ?hd (cs := #[.int .i64 0, .int .i64 0, .int .i64 0, .bool false, .int .i64 0]) (t := 33) ?hr ?_; (case hd => rfl); (case hg => rfl); (case hr => first | (go_simp; done) | (go_simp; rfl)); intro gb462 hg w18 hbox hb; have n0_ := Aside0.mk (blk_below (g := gb461) (o := .cells #[.int .i64 a1_0, .int .i64 a1_1] 24 (0, 0)) (by (with_reducible repeat (first | refine blk_drewN ?_ _ | refine blk_drew ?_ | refine blk_alloc ?_ _)); exact BK461.out) hb); have n1_ := Aside0.mk (below_step (by repeat (first | (with_reducible first | exact HB.out | apply below_alloc | apply pw_below_drewN | apply below_drew1 | refine below_set ?_ GE461.out) | exact HB.out)) hb); have n2_ := Aside0.mk (hbox); have n3_ := Aside0.mk ((by rw [hg]; exact (below_size (by repeat (first | (with_reducible first | exact HB.out | apply below_alloc | apply pw_below_drewN | apply below_drew1 | refine below_set ?_ GE461.out) | exact HB.out))) : w.heap.size ≤ gb462)); have n4_ := Aside0.mk ((by rw [hg]; exact (below_size (by repeat (first | (with_reducible first | exact HB.out | apply below_alloc | apply pw_below_drewN | apply below_drew1 | refine below_set ?_ GE461.out) | exact HB.out))) : w.heap.size ≤ gb462)); have n5_ := Aside0.mk ((by rw [hg]; exact Nat.ne_of_lt (blk_lt (g := gb461) (o := .cells #[.int .i64 a1_0, .int .i64 a1_1] 24 (0, 0)) (by (with_reducible repeat (first | refine blk_drewN ?_ _ | refine blk_drew ?_ | refine blk_alloc ?_ _)); exact BK461.out)) : gb461 ≠ gb462)); have n6_ := Aside0.mk ((by rw [hg]; exact Nat.ne_of_gt (blk_lt (g := gb461) (o := .cells #[.int .i64 a1_0, .int .i64 a1_1] 24 (0, 0)) (by (with_reducible repeat (first | refine blk_drewN ?_ _ | refine blk_drew ?_ | refine blk_alloc ?_ _)); exact BK461.out)) : gb462 ≠ gb461)); clear BK461; clear HB; have BK461 := n0_; have HB := n1_; have BK462 := n2_; have GW462 := n3_; have GE462 := n4_; have NB461_462 := n5_; have NB462_461 := n6_; clear n0_ n1_ n2_ n3_ n4_ n5_ n6_; clear hb hbox hg; have hnb19 := NB461_462.out; have hnc19 := NB462_461.out; have hcz20_0 : w18.cell? ⟨gb461, 0, none⟩ = some (.int .i64 a1_0) := (blk_cell BK461.out 0).trans rfl; have hcz20_1 : w18.cell? ⟨gb461, 1, none⟩ = some (.int .i64 a1_1) := (blk_cell BK461.out 1).trans rfl; have hfz20_0 := blk_frozen BK461.out 0; have hfz20_1 := blk_frozen BK461.out 1) | ((with_reducible refine gate_callee (f := 29) rfl ?_); refine goesL_ (some 11) rfl rfl Try.func29 (by kernel_rfl) rfl #[.slice A0 l0.length c0, .agg #[.int .i64 a1_0, .int .i64 a1_1], .int .i64 a2] rfl (by (try simp only [List.map_toArray, List.map_cons, List.map_nil]); first | done | rfl | (simp only [List.length_drop, List.length_take]; rfl)) ?_; (with_reducible refine (foolscapref5_may.calls _ _ l0 a1_0 a1_1 a2 false _ ?side1 ?side2 A4.out).mono ?_); (case side1 => repeat (first | exact (Kd.C_below HR0.out HB.out) | (with_reducible refine Kd.C_alloc ?_ _) | (with_reducible refine Kd.C_drewN ?_ _) | (with_reducible refine Kd.C_drew ?_))); (case side2 => exact HC0.out); rintro e w21 ⟨rfl, hb⟩; refine ⟨_, rfl, ?_⟩; have n0_ := Aside0.mk (blk_below (g := gb461) (o := .cells #[.int .i64 a1_0, .int .i64 a1_1] 24 (0, 0)) (by (with_reducible repeat (first | refine blk_drewN ?_ _ | refine blk_drew ?_ | refine blk_alloc ?_ _)); exact BK461.out) hb); have n1_ := Aside0.mk (blk_below (g := gb462) (o := .cells #[.int .i64 0, .int .i64 0, .int .i64 0, .bool false, .int .i64 0] 33 (0, 0)) (by (with_reducible repeat (first | refine blk_drewN ?_ _ | refine blk_drew ?_ | refine blk_alloc ?_ _)); exact BK462.out) hb); have n2_ := Aside0.mk (below_step (by repeat (first | (with_reducible first | exact HB.out | apply below_alloc | apply pw_below_drewN | apply below_drew1 | refine below_set ?_ GE461.out | refine below_set ?_ GE462.out) | exact HB.out)) hb); clear BK461; clear BK462; clear HB; have BK461 := n0_; have BK462 := n1_; have HB := n2_; clear n0_ n1_ n2_; (try clear hb); (try clear hb2); (try clear hk); (try clear hi)) | ((with_reducible refine gate_callee (f := 30) rfl ?_); refine goesL_ (some 13) rfl rfl Try.func30 (by kernel_rfl) rfl #[] rfl (by (try simp only [List.map_toArray, List.map_cons, List.map_nil]); first | done | rfl | (simp only [List.length_drop, List.length_take]; rfl)) ?_; (with_reducible refine (foolscapref5_none.calls  t471 t472 t473 t474 t475 t476 _ A16.out).mono ?_); rintro e w22 ⟨rfl, hb⟩; refine ⟨_, rfl, ?_⟩; have n0_ := Aside0.mk (blk_below (g := gb461) (o := .cells #[.int .i64 a1_0, .int .i64 a1_1] 24 (0, 0)) (by (with_reducible repeat (first | refine blk_drewN ?_ _ | refine blk_drew ?_ | refine blk_alloc ?_ _)); exact BK461.out) hb); have n1_ := Aside0.mk (blk_below (g := gb462) (o := .cells #[.int .i64 0, .int .i64 0, .int .i64 0, .bool false, .int .i64 0] 33 (0, 0)) (by (with_reducible repeat (first | refine blk_drewN ?_ _ | refine blk_drew ?_ | refine blk_alloc ?_ _)); exact BK462.out) hb); have n2_ := Aside0.mk (below_step (by repeat (first | (with_reducible first | exact HB.out | apply below_alloc | apply pw_below_drewN | apply below_drew1 | refine below_set ?_ GE461.out | refine below_set ?_ GE462.out) | exact HB.out)) hb); clear BK461; clear BK462; clear HB; have BK461 := n0_; have BK462 := n1_; have HB := n2_; clear n0_ n1_ n2_; (try clear hb); (try clear hb2); (try clear hk); (try clear hi); have hcz23_0 : w22.cell? ⟨gb462, 0, none⟩ = some (.int .i64 0) := (blk_cell BK462.out 0).trans rfl; have hcz23_1 : w22.cell? ⟨gb462, 1, none⟩ = some (.int .i64 0) := (blk_cell BK462.out 1).trans rfl; have hcz23_2 : w22.cell? ⟨gb462, 2, none⟩ = some (.int .i64 0) := (blk_cell BK462.out 2).trans rfl; have hcz23_3 : w22.cell? ⟨gb462, 3, none⟩ = some (.bool false) := (blk_cell BK462.out 3).trans rfl; have hcz23_4 : w22.cell? ⟨gb462, 4, none⟩ = some (.int .i64 0) := (blk_cell BK462.out 4).trans rfl; have hfz23_0 := blk_frozen BK462.out 0; have hfz23_1 := blk_frozen BK462.out 1; have hfz23_2 := blk_frozen BK462.out 2; have hfz23_3 := blk_frozen BK462.out 3; have hfz23_4 := blk_frozen BK462.out 4))
    refine bodyPost_ret (results_ct rfl _ _ gb462 33 #[.int .i64 t471, .int .i64 t472, .int .i64 t473, .bool t474, .int .i64 t475] (0, 0) _ rfl (by (with_reducible repeat (first | refine blk_drewN ?_ _ | refine blk_drew ?_ | refine blk_alloc ?_ _)); refine blk_put (cs := #[.int .i64 t471, .int .i64 t472, .int .i64 t473, .bool t474, .int .i64 0]) ?_ 4 _ rfl; (with_reducible repeat (first | refine blk_drewN ?_ _ | refine blk_drew ?_ | refine blk_alloc ?_ _)); refine blk_put (cs := #[.int .i64 t471, .int .i64 t472, .int .i64 t473, .bool false, .int .i64 0]) ?_ 3 _ rfl; (with_reducible repeat (first | refine blk_drewN ?_ _ | refine blk_drew ?_ | refine blk_alloc ?_ _)); refine blk_put (cs := #[.int .i64 t471, .int .i64 t472, .int .i64 0, .bool false, .int .i64 0]) ?_ 2 _ rfl; (with_reducible repeat (first | refine blk_drewN ?_ _ | refine blk_drew ?_ | refine blk_alloc ?_ _)); refine blk_put (cs := #[.int .i64 t471, .int .i64 0, .int .i64 0, .bool false, .int .i64 0]) ?_ 1 _ rfl; (with_reducible repeat (first | refine blk_drewN ?_ _ | refine blk_drew ?_ | refine blk_alloc ?_ _)); refine blk_put (cs := #[.int .i64 0, .int .i64 0, .int .i64 0, .bool false, .int .i64 0]) ?_ 0 _ rfl; (with_reducible repeat (first | refine blk_drewN ?_ _ | refine blk_drew ?_ | refine blk_alloc ?_ _)); exact BK462.out) Try.underlying33 rfl (by kernel_rfl)) rfl ?_
    exact ⟨by first | rfl | (simp [errW_none, errW_some] <;> rfl) | (simp [*, errW_none, errW_some] <;> rfl), by repeat (first | (with_reducible first | exact HB.out | apply below_alloc | apply pw_below_drewN | apply below_drew1 | refine below_set ?_ GE461.out | refine below_set ?_ GE462.out) | exact HB.out)⟩

end Go.Proofs.Ytngkpgocjeiheaa.V
