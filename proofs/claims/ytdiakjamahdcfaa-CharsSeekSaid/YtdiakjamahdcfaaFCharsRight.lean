-- Laid by this session's regroup.py out of the kit's print of this seat.
import Derived.Test.YtdiakjamahdcfaaVb
import Derived.Test.YtdiakjamahdcfaaFCharsFails
import Derived.Test.YtdiakjamahdcfaaFCharsTo
namespace Go.Proofs.Ytdiakjamahdcfaa.V
open Go.RowKit Go.Proofs.YtdiakjamahdcfaaW.PrintWords Go.Proofs.YtdiakjamahdcfaaW.PrintLast Go.Proofs.YtdiakjamahdcfaaW.PrintMore
attribute [local go_sem] max2_int min2_int max_two min_two max_three min_three max_four min_four   -- for this text's walks alone
set_option linter.unusedVariables false
set_option linter.unusedSimpArgs false
attribute [local go_sem high] eqA33

/-! ### chars_Right: function 17 -/
def chars_Right.j0 : Nat → List ByteArray → Int → Bool → Bool → Int → Int → Option (Int × Int × Int × Bool × Int × Bool)
  | 0, _, _, _, _, _, _ => none
  | k + 1, x0, x2, x3, x22, x129000, x129001 => if x22 = true then (some (0, 0, 0, false, 0, false)) else (if 0 ≤ x129000 then (if x129000 < (x0.length : Int) then (if x3 = true then (if x129001 ≥ (wrap64 ((wrap64 (((rdOf ByteArray.empty x0 x129000).size : Int) - 1)) + 1)) then (some (0, 0, 0, false, 0, false)) else ((chars_to.f x129000 x129001 (wrap64 (x129001 + (mn x2 (wrap64 ((wrap64 ((wrap64 (((rdOf ByteArray.empty x0 x129000).size : Int) - 1)) + 1)) - x129001)))))).bind fun bt133 => (some (bt133.1, bt133.2.1, bt133.2.2.1, bt133.2.2.2.1, bt133.2.2.2.2.1, bt133.2.2.2.2.2)))) else (if x129001 ≥ (wrap64 (((rdOf ByteArray.empty x0 x129000).size : Int) - 1)) then (some (0, 0, 0, false, 0, false)) else ((chars_to.f x129000 x129001 (wrap64 (x129001 + (mn x2 (wrap64 ((wrap64 (((rdOf ByteArray.empty x0 x129000).size : Int) - 1)) - x129001)))))).bind fun bt139 => (some (bt139.1, bt139.2.1, bt139.2.2.1, bt139.2.2.2.1, bt139.2.2.2.2.1, bt139.2.2.2.2.2))))) else (none)) else (none))
def chars_Right.f (k : Nat) (l0 : List ByteArray) (a1_0 : Int) (a1_1 : Int) (a2 : Int) (a3 : Bool) : Option (Int × Int × Int × Bool × Int × Bool) := (chars_fails.f l0 a1_0 a1_1 a2).bind fun t130 => (if t130 = true then (chars_Right.j0 k l0 a2 a3 true a1_0 a1_1) else (if 0 ≤ a1_0 then (if a1_0 < (l0.length : Int) then (chars_Right.j0 k l0 a2 a3 ((rdOf ByteArray.empty l0 a1_0).toList == ([] : List UInt8)) a1_0 a1_1) else (none)) else (none)))
theorem chars_Right.mono_l : ∀ k, (∀ y0 y1 y2 y3 y4 y5, LeO (chars_Right.j0 k y0 y1 y2 y3 y4 y5) (chars_Right.j0 (k + 1) y0 y1 y2 y3 y4 y5))
  | 0 => fun _ _ _ _ _ _ r h => by simp [chars_Right.j0] at h
  | k + 1 => by
    have ih0 := chars_Right.mono_l k
    · intro y0 y1 y2 y3 y4 y5
      unfold chars_Right.j0
      repeat' first
      | (with_reducible exact ih0 _ _ _ _ _ _)
      | (with_reducible exact LeO.refl _)
      | (with_reducible exact LeO.none _)
      | (with_reducible refine LeO.ite ?_ ?_)
      | (with_reducible refine LeO.bind ?_ (fun _ => ?_))
      | exact ih0 _ _ _ _ _ _
      | exact LeO.none _
      | refine LeO.ite ?_ ?_
      | refine LeO.bind ?_ (fun _ => ?_)
theorem chars_Right.mono : ∀ a0 a1 a2 a3 a4 k, LeO (chars_Right.f k a0 a1 a2 a3 a4) (chars_Right.f (k + 1) a0 a1 a2 a3 a4) := by
  intro a0 a1 a2 a3 a4 k
  have ih0 := chars_Right.mono_l k
  unfold chars_Right.f
  repeat' first
      | (with_reducible exact ih0 _ _ _ _ _ _)
      | (with_reducible exact LeO.refl _)
      | (with_reducible exact LeO.none _)
      | (with_reducible refine LeO.ite ?_ ?_)
      | (with_reducible refine LeO.bind ?_ (fun _ => ?_))
      | exact ih0 _ _ _ _ _ _
      | exact LeO.none _
      | refine LeO.ite ?_ ?_
      | refine LeO.bind ?_ (fun _ => ?_)
set_option maxHeartbeats 8000000 in
set_option maxRecDepth 100000 in
theorem chars_Right.calls (k : Nat) (A0 : Option Addr) (c0 : Nat) (l0 : List ByteArray) (a1_0 : Int) (a1_1 : Int) (a2 : Int) (a3 : Bool) (r1 : Int) (r2 : Int) (r3 : Int) (r4 : Bool) (r5 : Int) (r6 : Bool) (w : World) (hr0 : Kd.C Kd.string w A0 l0.length l0) (hc0 : l0.length ≤ c0) (h : chars_Right.f k l0 a1_0 a1_1 a2 a3 = some (r1, r2, r3, r4, r5, r6)) :
    Calls Try.prog 17 #[.slice A0 l0.length c0, .agg #[.int .i64 a1_0, .int .i64 a1_1], .int .i64 a2, .bool a3] w fun e w' => e = .returned (.tuple #[.agg #[.int .i64 r1, .int .i64 r2, .int .i64 r3, .bool r4, .int .i64 r5], .bool r6]) ∧ Below w.heap.size w w' := by
  have hu24 := Try.underlying24
  have hu33 := Try.underlying33
  have HR0 := Aside0.mk hr0
  have HC0 := Aside0.mk hc0
  clear hr0 hc0
  have HB := Aside0.mk (Below.refl w.heap.size w)
  have H : ((chars_fails.f l0 a1_0 a1_1 a2).bind fun t130 => (if t130 = true then (chars_Right.j0 k l0 a2 a3 true a1_0 a1_1) else (if 0 ≤ a1_0 then (if a1_0 < (l0.length : Int) then (chars_Right.j0 k l0 a2 a3 ((rdOf ByteArray.empty l0 a1_0).toList == ([] : List UInt8)) a1_0 a1_1) else (none)) else (none)))) = some (r1, r2, r3, r4, r5, r6) := h
  clear h
  have HC5 := Aside0.mk H
  clear H
  go_enter Try.func17, Try.ntmps17
  go_upto_region 1 with (first | ((with_reducible refine gate_dst (N := 5) rfl ?_); refine box_event ?hg (N := 5) ?hd (cs := #[.int .i64 a1_0, .int .i64 a1_1]) (t := 24) ?hr ?_; (case hd => rfl); (case hg => rfl); (case hr => first | (go_simp; done) | (go_simp; rfl)); intro gb128 hg w6 hbox hb; have n0_ := Aside0.mk (below_step (by repeat (first | (with_reducible first | exact HB.out | apply below_alloc | apply pw_below_drewN | apply below_drew1) | exact HB.out)) hb); have n1_ := Aside0.mk (hbox); have n2_ := Aside0.mk ((by rw [hg]; exact (below_size (by repeat (first | (with_reducible first | exact HB.out | apply below_alloc | apply pw_below_drewN | apply below_drew1) | exact HB.out))) : w.heap.size ≤ gb128)); have n3_ := Aside0.mk ((by rw [hg]; exact (below_size (by repeat (first | (with_reducible first | exact HB.out | apply below_alloc | apply pw_below_drewN | apply below_drew1) | exact HB.out))) : w.heap.size ≤ gb128)); clear HB; have HB := n0_; have BK128 := n1_; have GW128 := n2_; have GE128 := n3_; clear n0_ n1_ n2_ n3_; clear hb hbox hg) | ((with_reducible refine gate_dst (N := 8) rfl ?_); refine box_event ?hg (N := 8) ?hd (cs := #[.int .i64 0, .int .i64 0, .int .i64 0, .bool false, .int .i64 0]) (t := 33) ?hr ?_; (case hd => rfl); (case hg => rfl); (case hr => first | (go_simp; done) | (go_simp; rfl)); intro gb129 hg w7 hbox hb; have n0_ := Aside0.mk (blk_below (g := gb128) (o := .cells #[.int .i64 a1_0, .int .i64 a1_1] 24 (0, 0)) (by (with_reducible repeat (first | refine blk_drewN ?_ _ | refine blk_drew ?_ | refine blk_alloc ?_ _)); exact BK128.out) hb); have n1_ := Aside0.mk (below_step (by repeat (first | (with_reducible first | exact HB.out | apply below_alloc | apply pw_below_drewN | apply below_drew1 | refine below_set ?_ GE128.out) | exact HB.out)) hb); have n2_ := Aside0.mk (hbox); have n3_ := Aside0.mk ((by rw [hg]; exact (below_size (by repeat (first | (with_reducible first | exact HB.out | apply below_alloc | apply pw_below_drewN | apply below_drew1 | refine below_set ?_ GE128.out) | exact HB.out))) : w.heap.size ≤ gb129)); have n4_ := Aside0.mk ((by rw [hg]; exact (below_size (by repeat (first | (with_reducible first | exact HB.out | apply below_alloc | apply pw_below_drewN | apply below_drew1 | refine below_set ?_ GE128.out) | exact HB.out))) : w.heap.size ≤ gb129)); have n5_ := Aside0.mk ((by rw [hg]; exact Nat.ne_of_lt (blk_lt (g := gb128) (o := .cells #[.int .i64 a1_0, .int .i64 a1_1] 24 (0, 0)) (by (with_reducible repeat (first | refine blk_drewN ?_ _ | refine blk_drew ?_ | refine blk_alloc ?_ _)); exact BK128.out)) : gb128 ≠ gb129)); have n6_ := Aside0.mk ((by rw [hg]; exact Nat.ne_of_gt (blk_lt (g := gb128) (o := .cells #[.int .i64 a1_0, .int .i64 a1_1] 24 (0, 0)) (by (with_reducible repeat (first | refine blk_drewN ?_ _ | refine blk_drew ?_ | refine blk_alloc ?_ _)); exact BK128.out)) : gb129 ≠ gb128)); clear BK128; clear HB; have BK128 := n0_; have HB := n1_; have BK129 := n2_; have GW129 := n3_; have GE129 := n4_; have NB128_129 := n5_; have NB129_128 := n6_; clear n0_ n1_ n2_ n3_ n4_ n5_ n6_; clear hb hbox hg))
  (try simp only [Act.put, List.setIfInBounds_toArray, List.set_cons_zero, List.set_cons_succ])
  go_cut [22] (fun v22 wc => ∃ (kq : Nat) (x22_4 : Bool), v22 = .bool x22_4 ∧ Aside0 (chars_Right.j0 kq l0 a2 a3 x22_4 a1_0 a1_1 = some (r1, r2, r3, r4, r5, r6)) ∧ Aside0 (kq ≤ k) ∧ Aside0 (wc.heap[gb128]? = some (.cells #[.int .i64 a1_0, .int .i64 a1_1] 24 (0, 0))) ∧ Aside0 (wc.heap[gb129]? = some (.cells #[.int .i64 0, .int .i64 0, .int .i64 0, .bool false, .int .i64 0] 33 (0, 0))) ∧ Aside0 (Below w.heap.size w wc))
  case first =>
    have H := HC5.out
    clear HC5
    replace H := Option.bind_eq_some_iff.mp H
    obtain ⟨t130, A80, H⟩ := H
    replace H : (if t130 = true then (chars_Right.j0 k l0 a2 a3 true a1_0 a1_1) else (if 0 ≤ a1_0 then (if a1_0 < (l0.length : Int) then (chars_Right.j0 k l0 a2 a3 ((rdOf ByteArray.empty l0 a1_0).toList == ([] : List UInt8)) a1_0 a1_1) else (none)) else (none))) = some (r1, r2, r3, r4, r5, r6) := H
    have A8 := Aside0.mk A80
    clear A80
    by_cases c9 : t130 = true
    · subst c9
      have H1 : (chars_Right.j0 k l0 a2 a3 true a1_0 a1_1) = some (r1, r2, r3, r4, r5, r6) := by rw [if_pos rfl] at H; exact H
      clear H
      have H := H1
      clear H1
      have H' := Aside0.mk H
      clear H
      have hnb10 := NB128_129.out
      have hnc10 := NB129_128.out
      have hcz11_0 : w7.cell? ⟨gb128, 0, none⟩ = some (.int .i64 a1_0) := (blk_cell BK128.out 0).trans rfl
      have hcz11_1 : w7.cell? ⟨gb128, 1, none⟩ = some (.int .i64 a1_1) := (blk_cell BK128.out 1).trans rfl
      have hfz11_0 := blk_frozen BK128.out 0
      have hfz11_1 := blk_frozen BK128.out 1
      go_wp2_with (first | ((with_reducible refine gate_callee (f := 28) rfl ?_); refine goesL_ (some 14) rfl rfl Try.func28 (by kernel_rfl) rfl #[.slice A0 l0.length c0, .agg #[.int .i64 a1_0, .int .i64 a1_1], .int .i64 a2] rfl (by (try simp only [List.map_toArray, List.map_cons, List.map_nil]); first | done | rfl | (simp only [List.length_drop, List.length_take]; rfl)) ?_; (with_reducible refine (chars_fails.calls _ _ l0 a1_0 a1_1 a2 true _ ?side1 ?side2 A8.out).mono ?_); (case side1 => repeat (first | exact (Kd.C_below HR0.out HB.out) | (with_reducible refine Kd.C_alloc ?_ _) | (with_reducible refine Kd.C_drewN ?_ _) | (with_reducible refine Kd.C_drew ?_))); (case side2 => exact HC0.out); rintro e w12 ⟨rfl, hb⟩; refine ⟨_, rfl, ?_⟩; have n0_ := Aside0.mk (blk_below (g := gb128) (o := .cells #[.int .i64 a1_0, .int .i64 a1_1] 24 (0, 0)) (by (with_reducible repeat (first | refine blk_drewN ?_ _ | refine blk_drew ?_ | refine blk_alloc ?_ _)); exact BK128.out) hb); have n1_ := Aside0.mk (blk_below (g := gb129) (o := .cells #[.int .i64 0, .int .i64 0, .int .i64 0, .bool false, .int .i64 0] 33 (0, 0)) (by (with_reducible repeat (first | refine blk_drewN ?_ _ | refine blk_drew ?_ | refine blk_alloc ?_ _)); exact BK129.out) hb); have n2_ := Aside0.mk (below_step (by repeat (first | (with_reducible first | exact HB.out | apply below_alloc | apply pw_below_drewN | apply below_drew1 | refine below_set ?_ GE128.out | refine below_set ?_ GE129.out) | exact HB.out)) hb); clear BK128; clear BK129; clear HB; have BK128 := n0_; have BK129 := n1_; have HB := n2_; clear n0_ n1_ n2_; (try clear hb); (try clear hb2); (try clear hk); (try clear hi)))
      go_meet
      case rel => exact ⟨_, (true), (by first | rfl | (simp; done) | (simp [*]; done)), H', ⟨by first | omega | exact Nat.le_refl _⟩, ⟨by (with_reducible repeat (first | refine blk_drewN ?_ _ | refine blk_drew ?_ | refine blk_alloc ?_ _)); exact BK128.out⟩, ⟨by (with_reducible repeat (first | refine blk_drewN ?_ _ | refine blk_drew ?_ | refine blk_alloc ?_ _)); exact BK129.out⟩, ⟨by repeat (first | (with_reducible first | exact HB.out | apply below_alloc | apply pw_below_drewN | apply below_drew1 | refine below_set ?_ GE128.out | refine below_set ?_ GE129.out) | exact HB.out)⟩⟩
    · replace c9 := Bool.eq_false_iff.mpr c9
      subst c9
      have H1 : (if 0 ≤ a1_0 then (if a1_0 < (l0.length : Int) then (chars_Right.j0 k l0 a2 a3 ((rdOf ByteArray.empty l0 a1_0).toList == ([] : List UInt8)) a1_0 a1_1) else (none)) else (none)) = some (r1, r2, r3, r4, r5, r6) := by rw [if_neg (show ¬ (false = true) by decide)] at H; exact H
      clear H
      have H := H1
      clear H1
      by_cases c13 : 0 ≤ a1_0
      · rw [if_pos c13] at H
        have c13b0 : decide (0 ≤ a1_0) = true := decide_eq_true c13
        clear c13
        (first | rw [c13b0] | (simp only [i64_w, i32_w]; rw [c13b0]) | skip)
        by_cases c14 : a1_0 < (l0.length : Int)
        · rw [if_pos c14] at H
          have c14b0 : decide (a1_0 < (l0.length : Int)) = true := decide_eq_true c14
          clear c14
          have H' := Aside0.mk H
          clear H
          have hnb15 := NB128_129.out
          have hnc15 := NB129_128.out
          have hcz16_0 : w7.cell? ⟨gb128, 0, none⟩ = some (.int .i64 a1_0) := (blk_cell BK128.out 0).trans rfl
          have hcz16_1 : w7.cell? ⟨gb128, 1, none⟩ = some (.int .i64 a1_1) := (blk_cell BK128.out 1).trans rfl
          have hfz16_0 := blk_frozen BK128.out 0
          have hfz16_1 := blk_frozen BK128.out 1
          go_wp2_with (first | ((with_reducible refine gate_callee (f := 28) rfl ?_); refine goesL_ (some 14) rfl rfl Try.func28 (by kernel_rfl) rfl #[.slice A0 l0.length c0, .agg #[.int .i64 a1_0, .int .i64 a1_1], .int .i64 a2] rfl (by (try simp only [List.map_toArray, List.map_cons, List.map_nil]); first | done | rfl | (simp only [List.length_drop, List.length_take]; rfl)) ?_; (with_reducible refine (chars_fails.calls _ _ l0 a1_0 a1_1 a2 false _ ?side1 ?side2 A8.out).mono ?_); (case side1 => repeat (first | exact (Kd.C_below HR0.out HB.out) | (with_reducible refine Kd.C_alloc ?_ _) | (with_reducible refine Kd.C_drewN ?_ _) | (with_reducible refine Kd.C_drew ?_))); (case side2 => exact HC0.out); rintro e w17 ⟨rfl, hb⟩; refine ⟨_, rfl, ?_⟩; have n0_ := Aside0.mk (blk_below (g := gb128) (o := .cells #[.int .i64 a1_0, .int .i64 a1_1] 24 (0, 0)) (by (with_reducible repeat (first | refine blk_drewN ?_ _ | refine blk_drew ?_ | refine blk_alloc ?_ _)); exact BK128.out) hb); have n1_ := Aside0.mk (blk_below (g := gb129) (o := .cells #[.int .i64 0, .int .i64 0, .int .i64 0, .bool false, .int .i64 0] 33 (0, 0)) (by (with_reducible repeat (first | refine blk_drewN ?_ _ | refine blk_drew ?_ | refine blk_alloc ?_ _)); exact BK129.out) hb); have n2_ := Aside0.mk (below_step (by repeat (first | (with_reducible first | exact HB.out | apply below_alloc | apply pw_below_drewN | apply below_drew1 | refine below_set ?_ GE128.out | refine below_set ?_ GE129.out) | exact HB.out)) hb); clear BK128; clear BK129; clear HB; have BK128 := n0_; have BK129 := n1_; have HB := n2_; clear n0_ n1_ n2_; (try clear hb); (try clear hb2); (try clear hk); (try clear hi); have hcz18_0 : w17.cell? ⟨gb128, 0, none⟩ = some (.int .i64 a1_0) := (blk_cell BK128.out 0).trans rfl; have hcz18_1 : w17.cell? ⟨gb128, 1, none⟩ = some (.int .i64 a1_1) := (blk_cell BK128.out 1).trans rfl; have hfz18_0 := blk_frozen BK128.out 0; have hfz18_1 := blk_frozen BK128.out 1; have p131 : 0 ≤ (a1_0 : Int) := of_decide_eq_true (by first | (with_reducible assumption) | assumption); have q131 : a1_0 < (l0.length : Int) := of_decide_eq_true (by first | (with_reducible assumption) | assumption); obtain ⟨ad131, e131, hx131_0⟩ := Kd.at_string HR0.out a1_0 p131 q131; cases e131; replace hx131_0 := (HB.out.cell (World.block_lt_of_cell? w _ hx131_0)).trans hx131_0; replace p131 := eq_true p131; replace q131 := eq_true q131))
          go_meet
          case rel => exact ⟨_, (((rdOf ByteArray.empty l0 a1_0).toList == ([] : List UInt8))), (by first | rfl | (simp; done) | (simp [*]; done)), H', ⟨by first | omega | exact Nat.le_refl _⟩, ⟨by (with_reducible repeat (first | refine blk_drewN ?_ _ | refine blk_drew ?_ | refine blk_alloc ?_ _)); exact BK128.out⟩, ⟨by (with_reducible repeat (first | refine blk_drewN ?_ _ | refine blk_drew ?_ | refine blk_alloc ?_ _)); exact BK129.out⟩, ⟨by repeat (first | (with_reducible first | exact HB.out | apply below_alloc | apply pw_below_drewN | apply below_drew1 | refine below_set ?_ GE128.out | refine below_set ?_ GE129.out) | exact HB.out)⟩⟩
        · rw [if_neg c14] at H
          exact absurd H (by simp)
      · rw [if_neg c13] at H
        exact absurd H (by simp)
  case rest =>
    clear HC5
    try clear c1
    try clear p1
    try clear q1
    try clear hx1
    try clear c2
    try clear p2
    try clear c9
    try clear c10
    try clear c13
    try clear c13b0
    try clear p13
    try clear q13
    try clear hx13
    try clear c14
    try clear c14b0
    try clear c15
    try clear c17
    try clear hcz11_0
    try clear hcz11_1
    try clear hcz16_0
    try clear hcz16_1
    try clear hcz18_0
    try clear hcz18_1
    try clear hfz11_0
    try clear hfz11_1
    try clear hfz16_0
    try clear hfz16_1
    try clear hfz18_0
    try clear hfz18_1
    try clear hx131_0
    try clear p131
    try clear q131
    obtain ⟨kq, x22_4, rfl, HA, HJ4, BK128, BK129, HB⟩ := hcut
    cases kq with
    | zero => exact absurd HA.out (by simp [chars_Right.j0])
    | succ kj4 =>
      have H := HA.out
      clear HA
      simp only [chars_Right.j0] at H
      by_cases c19 : x22_4 = true
      · subst c19
        have H1 : (some (0, 0, 0, false, 0, false)) = some (r1, r2, r3, r4, r5, r6) := by rw [if_pos rfl] at H; exact H
        clear H
        have H := H1
        clear H1
        simp only [Option.some.injEq, Prod.mk.injEq] at H
        obtain ⟨rfl, rfl, rfl, rfl, rfl, rfl⟩ := H
        have hnb20 := NB129_128.out
        have hnc20 := NB128_129.out
        have hcz21_0 : wc.cell? ⟨gb129, 0, none⟩ = some (.int .i64 0) := (blk_cell BK129.out 0).trans rfl
        have hcz21_1 : wc.cell? ⟨gb129, 1, none⟩ = some (.int .i64 0) := (blk_cell BK129.out 1).trans rfl
        have hcz21_2 : wc.cell? ⟨gb129, 2, none⟩ = some (.int .i64 0) := (blk_cell BK129.out 2).trans rfl
        have hcz21_3 : wc.cell? ⟨gb129, 3, none⟩ = some (.bool false) := (blk_cell BK129.out 3).trans rfl
        have hcz21_4 : wc.cell? ⟨gb129, 4, none⟩ = some (.int .i64 0) := (blk_cell BK129.out 4).trans rfl
        have hfz21_0 := blk_frozen BK129.out 0
        have hfz21_1 := blk_frozen BK129.out 1
        have hfz21_2 := blk_frozen BK129.out 2
        have hfz21_3 := blk_frozen BK129.out 3
        have hfz21_4 := blk_frozen BK129.out 4
        go_wp2
        refine bodyPost_ret (results_ct rfl _ _ gb129 33 #[.int .i64 0, .int .i64 0, .int .i64 0, .bool false, .int .i64 0] (0, 0) _ rfl (by (with_reducible repeat (first | refine blk_drewN ?_ _ | refine blk_drew ?_ | refine blk_alloc ?_ _)); refine blk_put (cs := #[.int .i64 0, .int .i64 0, .int .i64 0, .bool false, .int .i64 0]) ?_ 4 _ rfl; (with_reducible repeat (first | refine blk_drewN ?_ _ | refine blk_drew ?_ | refine blk_alloc ?_ _)); refine blk_put (cs := #[.int .i64 0, .int .i64 0, .int .i64 0, .bool false, .int .i64 0]) ?_ 3 _ rfl; (with_reducible repeat (first | refine blk_drewN ?_ _ | refine blk_drew ?_ | refine blk_alloc ?_ _)); refine blk_put (cs := #[.int .i64 0, .int .i64 0, .int .i64 0, .bool false, .int .i64 0]) ?_ 2 _ rfl; (with_reducible repeat (first | refine blk_drewN ?_ _ | refine blk_drew ?_ | refine blk_alloc ?_ _)); refine blk_put (cs := #[.int .i64 0, .int .i64 0, .int .i64 0, .bool false, .int .i64 0]) ?_ 1 _ rfl; (with_reducible repeat (first | refine blk_drewN ?_ _ | refine blk_drew ?_ | refine blk_alloc ?_ _)); refine blk_put (cs := #[.int .i64 0, .int .i64 0, .int .i64 0, .bool false, .int .i64 0]) ?_ 0 _ rfl; (with_reducible repeat (first | refine blk_drewN ?_ _ | refine blk_drew ?_ | refine blk_alloc ?_ _)); exact BK129.out) Try.underlying33 rfl (by kernel_rfl)) rfl ?_
        exact ⟨by first | rfl | (simp [errW_none, errW_some] <;> rfl) | (simp [*, errW_none, errW_some] <;> rfl), by repeat (first | (with_reducible first | exact HB.out | apply below_alloc | apply pw_below_drewN | apply below_drew1 | refine below_set ?_ GE128.out | refine below_set ?_ GE129.out) | exact HB.out)⟩
      · replace c19 := Bool.eq_false_iff.mpr c19
        subst c19
        have H1 : (if 0 ≤ a1_0 then (if a1_0 < (l0.length : Int) then (if a3 = true then (if a1_1 ≥ (wrap64 ((wrap64 (((rdOf ByteArray.empty l0 a1_0).size : Int) - 1)) + 1)) then (some (0, 0, 0, false, 0, false)) else ((chars_to.f a1_0 a1_1 (wrap64 (a1_1 + (mn a2 (wrap64 ((wrap64 ((wrap64 (((rdOf ByteArray.empty l0 a1_0).size : Int) - 1)) + 1)) - a1_1)))))).bind fun bt133 => (some (bt133.1, bt133.2.1, bt133.2.2.1, bt133.2.2.2.1, bt133.2.2.2.2.1, bt133.2.2.2.2.2)))) else (if a1_1 ≥ (wrap64 (((rdOf ByteArray.empty l0 a1_0).size : Int) - 1)) then (some (0, 0, 0, false, 0, false)) else ((chars_to.f a1_0 a1_1 (wrap64 (a1_1 + (mn a2 (wrap64 ((wrap64 (((rdOf ByteArray.empty l0 a1_0).size : Int) - 1)) - a1_1)))))).bind fun bt139 => (some (bt139.1, bt139.2.1, bt139.2.2.1, bt139.2.2.2.1, bt139.2.2.2.2.1, bt139.2.2.2.2.2))))) else (none)) else (none)) = some (r1, r2, r3, r4, r5, r6) := by rw [if_neg (show ¬ (false = true) by decide)] at H; exact H
        clear H
        have H := H1
        clear H1
        by_cases c22 : 0 ≤ a1_0
        · rw [if_pos c22] at H
          have c22b0 : decide (0 ≤ a1_0) = true := decide_eq_true c22
          clear c22
          by_cases c23 : a1_0 < (l0.length : Int)
          · rw [if_pos c23] at H
            have c23b0 : decide (a1_0 < (l0.length : Int)) = true := decide_eq_true c23
            clear c23
            by_cases c24 : a3 = true
            · subst c24
              have H1 : (if a1_1 ≥ (wrap64 ((wrap64 (((rdOf ByteArray.empty l0 a1_0).size : Int) - 1)) + 1)) then (some (0, 0, 0, false, 0, false)) else ((chars_to.f a1_0 a1_1 (wrap64 (a1_1 + (mn a2 (wrap64 ((wrap64 ((wrap64 (((rdOf ByteArray.empty l0 a1_0).size : Int) - 1)) + 1)) - a1_1)))))).bind fun bt133 => (some (bt133.1, bt133.2.1, bt133.2.2.1, bt133.2.2.2.1, bt133.2.2.2.2.1, bt133.2.2.2.2.2)))) = some (r1, r2, r3, r4, r5, r6) := by rw [if_pos rfl] at H; exact H
              clear H
              have H := H1
              clear H1
              by_cases c25 : a1_1 ≥ (wrap64 ((wrap64 (((rdOf ByteArray.empty l0 a1_0).size : Int) - 1)) + 1))
              · rw [if_pos c25] at H
                have c25b0 : decide ((wrap64 ((wrap64 (((rdOf ByteArray.empty l0 a1_0).size : Int) - 1)) + 1)) ≤ a1_1) = true := decide_eq_true c25
                clear c25
                simp only [Option.some.injEq, Prod.mk.injEq] at H
                obtain ⟨rfl, rfl, rfl, rfl, rfl, rfl⟩ := H
                have hnb26 := NB128_129.out
                have hnc26 := NB129_128.out
                have hcz27_0 : wc.cell? ⟨gb128, 0, none⟩ = some (.int .i64 a1_0) := (blk_cell BK128.out 0).trans rfl
                have hcz27_1 : wc.cell? ⟨gb128, 1, none⟩ = some (.int .i64 a1_1) := (blk_cell BK128.out 1).trans rfl
                have hfz27_0 := blk_frozen BK128.out 0
                have hfz27_1 := blk_frozen BK128.out 1
                have p132 : 0 ≤ (a1_0 : Int) := of_decide_eq_true (by first | (with_reducible assumption) | assumption)
                have q132 : a1_0 < (l0.length : Int) := of_decide_eq_true (by first | (with_reducible assumption) | assumption)
                obtain ⟨ad132, e132, hx132_0⟩ := Kd.at_string HR0.out a1_0 p132 q132
                cases e132
                replace hx132_0 := (HB.out.cell (World.block_lt_of_cell? w _ hx132_0)).trans hx132_0
                replace p132 := eq_true p132
                replace q132 := eq_true q132
                have hcz28_0 : wc.cell? ⟨gb129, 0, none⟩ = some (.int .i64 0) := (blk_cell BK129.out 0).trans rfl
                have hcz28_1 : wc.cell? ⟨gb129, 1, none⟩ = some (.int .i64 0) := (blk_cell BK129.out 1).trans rfl
                have hcz28_2 : wc.cell? ⟨gb129, 2, none⟩ = some (.int .i64 0) := (blk_cell BK129.out 2).trans rfl
                have hcz28_3 : wc.cell? ⟨gb129, 3, none⟩ = some (.bool false) := (blk_cell BK129.out 3).trans rfl
                have hcz28_4 : wc.cell? ⟨gb129, 4, none⟩ = some (.int .i64 0) := (blk_cell BK129.out 4).trans rfl
                have hfz28_0 := blk_frozen BK129.out 0
                have hfz28_1 := blk_frozen BK129.out 1
                have hfz28_2 := blk_frozen BK129.out 2
                have hfz28_3 := blk_frozen BK129.out 3
                have hfz28_4 := blk_frozen BK129.out 4
                go_wp2
                refine bodyPost_ret (results_ct rfl _ _ gb129 33 #[.int .i64 0, .int .i64 0, .int .i64 0, .bool false, .int .i64 0] (0, 0) _ rfl (by (with_reducible repeat (first | refine blk_drewN ?_ _ | refine blk_drew ?_ | refine blk_alloc ?_ _)); refine blk_put (cs := #[.int .i64 0, .int .i64 0, .int .i64 0, .bool false, .int .i64 0]) ?_ 4 _ rfl; (with_reducible repeat (first | refine blk_drewN ?_ _ | refine blk_drew ?_ | refine blk_alloc ?_ _)); refine blk_put (cs := #[.int .i64 0, .int .i64 0, .int .i64 0, .bool false, .int .i64 0]) ?_ 3 _ rfl; (with_reducible repeat (first | refine blk_drewN ?_ _ | refine blk_drew ?_ | refine blk_alloc ?_ _)); refine blk_put (cs := #[.int .i64 0, .int .i64 0, .int .i64 0, .bool false, .int .i64 0]) ?_ 2 _ rfl; (with_reducible repeat (first | refine blk_drewN ?_ _ | refine blk_drew ?_ | refine blk_alloc ?_ _)); refine blk_put (cs := #[.int .i64 0, .int .i64 0, .int .i64 0, .bool false, .int .i64 0]) ?_ 1 _ rfl; (with_reducible repeat (first | refine blk_drewN ?_ _ | refine blk_drew ?_ | refine blk_alloc ?_ _)); refine blk_put (cs := #[.int .i64 0, .int .i64 0, .int .i64 0, .bool false, .int .i64 0]) ?_ 0 _ rfl; (with_reducible repeat (first | refine blk_drewN ?_ _ | refine blk_drew ?_ | refine blk_alloc ?_ _)); exact BK129.out) Try.underlying33 rfl (by kernel_rfl)) rfl ?_
                exact ⟨by first | rfl | (simp [errW_none, errW_some] <;> rfl) | (simp [*, errW_none, errW_some] <;> rfl), by repeat (first | (with_reducible first | exact HB.out | apply below_alloc | apply pw_below_drewN | apply below_drew1 | refine below_set ?_ GE128.out | refine below_set ?_ GE129.out) | exact HB.out)⟩
              · rw [if_neg c25] at H
                have c25b0 : decide ((wrap64 ((wrap64 (((rdOf ByteArray.empty l0 a1_0).size : Int) - 1)) + 1)) ≤ a1_1) = false := decide_eq_false c25
                clear c25
                obtain ⟨ji29, hji29⟩ : ∃ j_ : Int, (mn a2 (wrap64 ((wrap64 ((wrap64 (((rdOf ByteArray.empty l0 a1_0).size : Int) - 1)) + 1)) - a1_1))) = j_ := ⟨_, rfl⟩
                replace H : ((chars_to.f a1_0 a1_1 (wrap64 (a1_1 + (ji29)))).bind fun bt133 => (some (bt133.1, bt133.2.1, bt133.2.2.1, bt133.2.2.2.1, bt133.2.2.2.2.1, bt133.2.2.2.2.2))) = some (r1, r2, r3, r4, r5, r6) := by first | (rw [hji29] at H; exact H) | (simp only [hji29] at H ⊢; exact H)
                have hji29_ : (if (wrap64 ((wrap64 ((wrap64 (((rdOf ByteArray.empty l0 a1_0).size : Int) - 1)) + 1)) - a1_1)) < a2 then (wrap64 ((wrap64 ((wrap64 (((rdOf ByteArray.empty l0 a1_0).size : Int) - 1)) + 1)) - a1_1)) else a2) = ji29 := hji29
                replace H := Option.bind_eq_some_iff.mp H
                obtain ⟨⟨t133, t134, t135, t136, t137, t138⟩, A300, H⟩ := H
                replace H : (some (t133, t134, t135, t136, t137, t138)) = some (r1, r2, r3, r4, r5, r6) := H
                have A30 := Aside0.mk A300
                clear A300
                simp only [Option.some.injEq, Prod.mk.injEq] at H
                obtain ⟨rfl, rfl, rfl, rfl, rfl, rfl⟩ := H
                have hnb31 := NB128_129.out
                have hnc31 := NB129_128.out
                have hcz32_0 : wc.cell? ⟨gb128, 0, none⟩ = some (.int .i64 a1_0) := (blk_cell BK128.out 0).trans rfl
                have hcz32_1 : wc.cell? ⟨gb128, 1, none⟩ = some (.int .i64 a1_1) := (blk_cell BK128.out 1).trans rfl
                have hfz32_0 := blk_frozen BK128.out 0
                have hfz32_1 := blk_frozen BK128.out 1
                have p132 : 0 ≤ (a1_0 : Int) := of_decide_eq_true (by first | (with_reducible assumption) | assumption)
                have q132 : a1_0 < (l0.length : Int) := of_decide_eq_true (by first | (with_reducible assumption) | assumption)
                obtain ⟨ad132, e132, hx132_0⟩ := Kd.at_string HR0.out a1_0 p132 q132
                cases e132
                replace hx132_0 := (HB.out.cell (World.block_lt_of_cell? w _ hx132_0)).trans hx132_0
                replace p132 := eq_true p132
                replace q132 := eq_true q132
                go_wp2_with (first | ((with_reducible refine gate_callee (f := 30) rfl ?_); refine goesL_ (some 49) rfl rfl Try.func30 (by kernel_rfl) rfl #[.agg #[.int .i64 a1_0, .int .i64 a1_1], .int .i64 (wrap64 (a1_1 + (ji29)))] rfl (by (try simp only [List.map_toArray, List.map_cons, List.map_nil]); first | done | (simp only [hji29]; rfl) | rfl | (simp only [List.length_drop, List.length_take]; rfl)) ?_; (with_reducible refine (chars_to.calls a1_0 a1_1 (wrap64 (a1_1 + (ji29))) t133 t134 t135 t136 t137 t138 _ A30.out).mono ?_); rintro e w33 ⟨rfl, hb⟩; refine ⟨_, rfl, ?_⟩; have n0_ := Aside0.mk (blk_below (g := gb128) (o := .cells #[.int .i64 a1_0, .int .i64 a1_1] 24 (0, 0)) (by (with_reducible repeat (first | refine blk_drewN ?_ _ | refine blk_drew ?_ | refine blk_alloc ?_ _)); exact BK128.out) hb); have n1_ := Aside0.mk (blk_below (g := gb129) (o := .cells #[.int .i64 0, .int .i64 0, .int .i64 0, .bool false, .int .i64 0] 33 (0, 0)) (by (with_reducible repeat (first | refine blk_drewN ?_ _ | refine blk_drew ?_ | refine blk_alloc ?_ _)); exact BK129.out) hb); have n2_ := Aside0.mk (below_step (by repeat (first | (with_reducible first | exact HB.out | apply below_alloc | apply pw_below_drewN | apply below_drew1 | refine below_set ?_ GE128.out | refine below_set ?_ GE129.out) | exact HB.out)) hb); clear BK128; clear BK129; clear HB; have BK128 := n0_; have BK129 := n1_; have HB := n2_; clear n0_ n1_ n2_; (try clear hb); (try clear hb2); (try clear hk); (try clear hi); have hcz34_0 : w33.cell? ⟨gb129, 0, none⟩ = some (.int .i64 0) := (blk_cell BK129.out 0).trans rfl; have hcz34_1 : w33.cell? ⟨gb129, 1, none⟩ = some (.int .i64 0) := (blk_cell BK129.out 1).trans rfl; have hcz34_2 : w33.cell? ⟨gb129, 2, none⟩ = some (.int .i64 0) := (blk_cell BK129.out 2).trans rfl; have hcz34_3 : w33.cell? ⟨gb129, 3, none⟩ = some (.bool false) := (blk_cell BK129.out 3).trans rfl; have hcz34_4 : w33.cell? ⟨gb129, 4, none⟩ = some (.int .i64 0) := (blk_cell BK129.out 4).trans rfl; have hfz34_0 := blk_frozen BK129.out 0; have hfz34_1 := blk_frozen BK129.out 1; have hfz34_2 := blk_frozen BK129.out 2; have hfz34_3 := blk_frozen BK129.out 3; have hfz34_4 := blk_frozen BK129.out 4))
                refine bodyPost_ret (results_ct rfl _ _ gb129 33 #[.int .i64 t133, .int .i64 t134, .int .i64 t135, .bool t136, .int .i64 t137] (0, 0) _ rfl (by (with_reducible repeat (first | refine blk_drewN ?_ _ | refine blk_drew ?_ | refine blk_alloc ?_ _)); refine blk_put (cs := #[.int .i64 t133, .int .i64 t134, .int .i64 t135, .bool t136, .int .i64 0]) ?_ 4 _ rfl; (with_reducible repeat (first | refine blk_drewN ?_ _ | refine blk_drew ?_ | refine blk_alloc ?_ _)); refine blk_put (cs := #[.int .i64 t133, .int .i64 t134, .int .i64 t135, .bool false, .int .i64 0]) ?_ 3 _ rfl; (with_reducible repeat (first | refine blk_drewN ?_ _ | refine blk_drew ?_ | refine blk_alloc ?_ _)); refine blk_put (cs := #[.int .i64 t133, .int .i64 t134, .int .i64 0, .bool false, .int .i64 0]) ?_ 2 _ rfl; (with_reducible repeat (first | refine blk_drewN ?_ _ | refine blk_drew ?_ | refine blk_alloc ?_ _)); refine blk_put (cs := #[.int .i64 t133, .int .i64 0, .int .i64 0, .bool false, .int .i64 0]) ?_ 1 _ rfl; (with_reducible repeat (first | refine blk_drewN ?_ _ | refine blk_drew ?_ | refine blk_alloc ?_ _)); refine blk_put (cs := #[.int .i64 0, .int .i64 0, .int .i64 0, .bool false, .int .i64 0]) ?_ 0 _ rfl; (with_reducible repeat (first | refine blk_drewN ?_ _ | refine blk_drew ?_ | refine blk_alloc ?_ _)); exact BK129.out) Try.underlying33 rfl (by kernel_rfl)) rfl ?_
                exact ⟨by first | rfl | (simp [errW_none, errW_some] <;> rfl) | (simp only [← hji29]; first | rfl | (simp [errW_none, errW_some] <;> rfl)) | (simp [*, errW_none, errW_some] <;> rfl), by repeat (first | (with_reducible first | exact HB.out | apply below_alloc | apply pw_below_drewN | apply below_drew1 | refine below_set ?_ GE128.out | refine below_set ?_ GE129.out) | exact HB.out)⟩
            · replace c24 := Bool.eq_false_iff.mpr c24
              subst c24
              have H1 : (if a1_1 ≥ (wrap64 (((rdOf ByteArray.empty l0 a1_0).size : Int) - 1)) then (some (0, 0, 0, false, 0, false)) else ((chars_to.f a1_0 a1_1 (wrap64 (a1_1 + (mn a2 (wrap64 ((wrap64 (((rdOf ByteArray.empty l0 a1_0).size : Int) - 1)) - a1_1)))))).bind fun bt139 => (some (bt139.1, bt139.2.1, bt139.2.2.1, bt139.2.2.2.1, bt139.2.2.2.2.1, bt139.2.2.2.2.2)))) = some (r1, r2, r3, r4, r5, r6) := by rw [if_neg (show ¬ (false = true) by decide)] at H; exact H
              clear H
              have H := H1
              clear H1
              by_cases c35 : a1_1 ≥ (wrap64 (((rdOf ByteArray.empty l0 a1_0).size : Int) - 1))
              · rw [if_pos c35] at H
                have c35b0 : decide ((wrap64 (((rdOf ByteArray.empty l0 a1_0).size : Int) - 1)) ≤ a1_1) = true := decide_eq_true c35
                clear c35
                simp only [Option.some.injEq, Prod.mk.injEq] at H
                obtain ⟨rfl, rfl, rfl, rfl, rfl, rfl⟩ := H
                have hnb36 := NB128_129.out
                have hnc36 := NB129_128.out
                have hcz37_0 : wc.cell? ⟨gb128, 0, none⟩ = some (.int .i64 a1_0) := (blk_cell BK128.out 0).trans rfl
                have hcz37_1 : wc.cell? ⟨gb128, 1, none⟩ = some (.int .i64 a1_1) := (blk_cell BK128.out 1).trans rfl
                have hfz37_0 := blk_frozen BK128.out 0
                have hfz37_1 := blk_frozen BK128.out 1
                have p132 : 0 ≤ (a1_0 : Int) := of_decide_eq_true (by first | (with_reducible assumption) | assumption)
                have q132 : a1_0 < (l0.length : Int) := of_decide_eq_true (by first | (with_reducible assumption) | assumption)
                obtain ⟨ad132, e132, hx132_0⟩ := Kd.at_string HR0.out a1_0 p132 q132
                cases e132
                replace hx132_0 := (HB.out.cell (World.block_lt_of_cell? w _ hx132_0)).trans hx132_0
                replace p132 := eq_true p132
                replace q132 := eq_true q132
                have hcz38_0 : wc.cell? ⟨gb129, 0, none⟩ = some (.int .i64 0) := (blk_cell BK129.out 0).trans rfl
                have hcz38_1 : wc.cell? ⟨gb129, 1, none⟩ = some (.int .i64 0) := (blk_cell BK129.out 1).trans rfl
                have hcz38_2 : wc.cell? ⟨gb129, 2, none⟩ = some (.int .i64 0) := (blk_cell BK129.out 2).trans rfl
                have hcz38_3 : wc.cell? ⟨gb129, 3, none⟩ = some (.bool false) := (blk_cell BK129.out 3).trans rfl
                have hcz38_4 : wc.cell? ⟨gb129, 4, none⟩ = some (.int .i64 0) := (blk_cell BK129.out 4).trans rfl
                have hfz38_0 := blk_frozen BK129.out 0
                have hfz38_1 := blk_frozen BK129.out 1
                have hfz38_2 := blk_frozen BK129.out 2
                have hfz38_3 := blk_frozen BK129.out 3
                have hfz38_4 := blk_frozen BK129.out 4
                go_wp2
                refine bodyPost_ret (results_ct rfl _ _ gb129 33 #[.int .i64 0, .int .i64 0, .int .i64 0, .bool false, .int .i64 0] (0, 0) _ rfl (by (with_reducible repeat (first | refine blk_drewN ?_ _ | refine blk_drew ?_ | refine blk_alloc ?_ _)); refine blk_put (cs := #[.int .i64 0, .int .i64 0, .int .i64 0, .bool false, .int .i64 0]) ?_ 4 _ rfl; (with_reducible repeat (first | refine blk_drewN ?_ _ | refine blk_drew ?_ | refine blk_alloc ?_ _)); refine blk_put (cs := #[.int .i64 0, .int .i64 0, .int .i64 0, .bool false, .int .i64 0]) ?_ 3 _ rfl; (with_reducible repeat (first | refine blk_drewN ?_ _ | refine blk_drew ?_ | refine blk_alloc ?_ _)); refine blk_put (cs := #[.int .i64 0, .int .i64 0, .int .i64 0, .bool false, .int .i64 0]) ?_ 2 _ rfl; (with_reducible repeat (first | refine blk_drewN ?_ _ | refine blk_drew ?_ | refine blk_alloc ?_ _)); refine blk_put (cs := #[.int .i64 0, .int .i64 0, .int .i64 0, .bool false, .int .i64 0]) ?_ 1 _ rfl; (with_reducible repeat (first | refine blk_drewN ?_ _ | refine blk_drew ?_ | refine blk_alloc ?_ _)); refine blk_put (cs := #[.int .i64 0, .int .i64 0, .int .i64 0, .bool false, .int .i64 0]) ?_ 0 _ rfl; (with_reducible repeat (first | refine blk_drewN ?_ _ | refine blk_drew ?_ | refine blk_alloc ?_ _)); exact BK129.out) Try.underlying33 rfl (by kernel_rfl)) rfl ?_
                exact ⟨by first | rfl | (simp [errW_none, errW_some] <;> rfl) | (simp [*, errW_none, errW_some] <;> rfl), by repeat (first | (with_reducible first | exact HB.out | apply below_alloc | apply pw_below_drewN | apply below_drew1 | refine below_set ?_ GE128.out | refine below_set ?_ GE129.out) | exact HB.out)⟩
              · rw [if_neg c35] at H
                have c35b0 : decide ((wrap64 (((rdOf ByteArray.empty l0 a1_0).size : Int) - 1)) ≤ a1_1) = false := decide_eq_false c35
                clear c35
                obtain ⟨ji39, hji39⟩ : ∃ j_ : Int, (mn a2 (wrap64 ((wrap64 (((rdOf ByteArray.empty l0 a1_0).size : Int) - 1)) - a1_1))) = j_ := ⟨_, rfl⟩
                replace H : ((chars_to.f a1_0 a1_1 (wrap64 (a1_1 + (ji39)))).bind fun bt139 => (some (bt139.1, bt139.2.1, bt139.2.2.1, bt139.2.2.2.1, bt139.2.2.2.2.1, bt139.2.2.2.2.2))) = some (r1, r2, r3, r4, r5, r6) := by first | (rw [hji39] at H; exact H) | (simp only [hji39] at H ⊢; exact H)
                have hji39_ : (if (wrap64 ((wrap64 (((rdOf ByteArray.empty l0 a1_0).size : Int) - 1)) - a1_1)) < a2 then (wrap64 ((wrap64 (((rdOf ByteArray.empty l0 a1_0).size : Int) - 1)) - a1_1)) else a2) = ji39 := hji39
                replace H := Option.bind_eq_some_iff.mp H
                obtain ⟨⟨t139, t140, t141, t142, t143, t144⟩, A400, H⟩ := H
                replace H : (some (t139, t140, t141, t142, t143, t144)) = some (r1, r2, r3, r4, r5, r6) := H
                have A40 := Aside0.mk A400
                clear A400
                simp only [Option.some.injEq, Prod.mk.injEq] at H
                obtain ⟨rfl, rfl, rfl, rfl, rfl, rfl⟩ := H
                have hnb41 := NB128_129.out
                have hnc41 := NB129_128.out
                have hcz42_0 : wc.cell? ⟨gb128, 0, none⟩ = some (.int .i64 a1_0) := (blk_cell BK128.out 0).trans rfl
                have hcz42_1 : wc.cell? ⟨gb128, 1, none⟩ = some (.int .i64 a1_1) := (blk_cell BK128.out 1).trans rfl
                have hfz42_0 := blk_frozen BK128.out 0
                have hfz42_1 := blk_frozen BK128.out 1
                have p132 : 0 ≤ (a1_0 : Int) := of_decide_eq_true (by first | (with_reducible assumption) | assumption)
                have q132 : a1_0 < (l0.length : Int) := of_decide_eq_true (by first | (with_reducible assumption) | assumption)
                obtain ⟨ad132, e132, hx132_0⟩ := Kd.at_string HR0.out a1_0 p132 q132
                cases e132
                replace hx132_0 := (HB.out.cell (World.block_lt_of_cell? w _ hx132_0)).trans hx132_0
                replace p132 := eq_true p132
                replace q132 := eq_true q132
                go_wp2_with (first | ((with_reducible refine gate_callee (f := 30) rfl ?_); refine goesL_ (some 49) rfl rfl Try.func30 (by kernel_rfl) rfl #[.agg #[.int .i64 a1_0, .int .i64 a1_1], .int .i64 (wrap64 (a1_1 + (ji39)))] rfl (by (try simp only [List.map_toArray, List.map_cons, List.map_nil]); first | done | (simp only [hji39]; rfl) | rfl | (simp only [List.length_drop, List.length_take]; rfl)) ?_; (with_reducible refine (chars_to.calls a1_0 a1_1 (wrap64 (a1_1 + (ji39))) t139 t140 t141 t142 t143 t144 _ A40.out).mono ?_); rintro e w43 ⟨rfl, hb⟩; refine ⟨_, rfl, ?_⟩; have n0_ := Aside0.mk (blk_below (g := gb128) (o := .cells #[.int .i64 a1_0, .int .i64 a1_1] 24 (0, 0)) (by (with_reducible repeat (first | refine blk_drewN ?_ _ | refine blk_drew ?_ | refine blk_alloc ?_ _)); exact BK128.out) hb); have n1_ := Aside0.mk (blk_below (g := gb129) (o := .cells #[.int .i64 0, .int .i64 0, .int .i64 0, .bool false, .int .i64 0] 33 (0, 0)) (by (with_reducible repeat (first | refine blk_drewN ?_ _ | refine blk_drew ?_ | refine blk_alloc ?_ _)); exact BK129.out) hb); have n2_ := Aside0.mk (below_step (by repeat (first | (with_reducible first | exact HB.out | apply below_alloc | apply pw_below_drewN | apply below_drew1 | refine below_set ?_ GE128.out | refine below_set ?_ GE129.out) | exact HB.out)) hb); clear BK128; clear BK129; clear HB; have BK128 := n0_; have BK129 := n1_; have HB := n2_; clear n0_ n1_ n2_; (try clear hb); (try clear hb2); (try clear hk); (try clear hi); have hcz44_0 : w43.cell? ⟨gb129, 0, none⟩ = some (.int .i64 0) := (blk_cell BK129.out 0).trans rfl; have hcz44_1 : w43.cell? ⟨gb129, 1, none⟩ = some (.int .i64 0) := (blk_cell BK129.out 1).trans rfl; have hcz44_2 : w43.cell? ⟨gb129, 2, none⟩ = some (.int .i64 0) := (blk_cell BK129.out 2).trans rfl; have hcz44_3 : w43.cell? ⟨gb129, 3, none⟩ = some (.bool false) := (blk_cell BK129.out 3).trans rfl; have hcz44_4 : w43.cell? ⟨gb129, 4, none⟩ = some (.int .i64 0) := (blk_cell BK129.out 4).trans rfl; have hfz44_0 := blk_frozen BK129.out 0; have hfz44_1 := blk_frozen BK129.out 1; have hfz44_2 := blk_frozen BK129.out 2; have hfz44_3 := blk_frozen BK129.out 3; have hfz44_4 := blk_frozen BK129.out 4))
                refine bodyPost_ret (results_ct rfl _ _ gb129 33 #[.int .i64 t139, .int .i64 t140, .int .i64 t141, .bool t142, .int .i64 t143] (0, 0) _ rfl (by (with_reducible repeat (first | refine blk_drewN ?_ _ | refine blk_drew ?_ | refine blk_alloc ?_ _)); refine blk_put (cs := #[.int .i64 t139, .int .i64 t140, .int .i64 t141, .bool t142, .int .i64 0]) ?_ 4 _ rfl; (with_reducible repeat (first | refine blk_drewN ?_ _ | refine blk_drew ?_ | refine blk_alloc ?_ _)); refine blk_put (cs := #[.int .i64 t139, .int .i64 t140, .int .i64 t141, .bool false, .int .i64 0]) ?_ 3 _ rfl; (with_reducible repeat (first | refine blk_drewN ?_ _ | refine blk_drew ?_ | refine blk_alloc ?_ _)); refine blk_put (cs := #[.int .i64 t139, .int .i64 t140, .int .i64 0, .bool false, .int .i64 0]) ?_ 2 _ rfl; (with_reducible repeat (first | refine blk_drewN ?_ _ | refine blk_drew ?_ | refine blk_alloc ?_ _)); refine blk_put (cs := #[.int .i64 t139, .int .i64 0, .int .i64 0, .bool false, .int .i64 0]) ?_ 1 _ rfl; (with_reducible repeat (first | refine blk_drewN ?_ _ | refine blk_drew ?_ | refine blk_alloc ?_ _)); refine blk_put (cs := #[.int .i64 0, .int .i64 0, .int .i64 0, .bool false, .int .i64 0]) ?_ 0 _ rfl; (with_reducible repeat (first | refine blk_drewN ?_ _ | refine blk_drew ?_ | refine blk_alloc ?_ _)); exact BK129.out) Try.underlying33 rfl (by kernel_rfl)) rfl ?_
                exact ⟨by first | rfl | (simp [errW_none, errW_some] <;> rfl) | (simp only [← hji39]; first | rfl | (simp [errW_none, errW_some] <;> rfl)) | (simp [*, errW_none, errW_some] <;> rfl), by repeat (first | (with_reducible first | exact HB.out | apply below_alloc | apply pw_below_drewN | apply below_drew1 | refine below_set ?_ GE128.out | refine below_set ?_ GE129.out) | exact HB.out)⟩
          · rw [if_neg c23] at H
            exact absurd H (by simp)
        · rw [if_neg c22] at H
          exact absurd H (by simp)

end Go.Proofs.Ytdiakjamahdcfaa.V
