-- The contract of a function, out of the kit's print, changed by this session (fixfirst.py): the print's own walk timed out at its end.
import Derived.Test.YtngkpgocjeiheaaVb
import Derived.Test.YtngkpgocjeiheaaFClassPlace
import Derived.Test.YtngkpgocjeiheaaFVertFirst
namespace Go.Proofs.Ytngkpgocjeiheaa.V
open Go.RowKit Go.Proofs.YtngkpgocjeiheaaW.PrintWords Go.Proofs.YtngkpgocjeiheaaW.PrintLast Go.Proofs.YtngkpgocjeiheaaW.PrintMore
attribute [local go_sem] max2_int min2_int max_two min_two max_three min_three max_four min_four   -- for this text's walks alone
set_option linter.unusedVariables false
set_option linter.unusedSimpArgs false

/-! ### vert_Screen: function 11 -/
def vert_Screen.j0 : Nat → List ByteArray → Int → Int → Int → Bool → Option (Int × Int × Int × Bool × Int × Bool)
  | 0, _, _, _, _, _ => none
  | k + 1, x0, x2, x3, x4, x30 => if x30 = true then (some (0, 0, 0, false, 0, false)) else (if x3 = 72 then ((vert_first.f k x0 (wrap64 (x2 + (wrap64 ((mn x4 (mn 10 (wrap64 ((x0.length : Int) - x2)))) - 1))))).bind fun bt110 => (some (bt110.1, bt110.2.1, bt110.2.2.1, true, bt110.2.2.2.2, true))) else (if x3 = 76 then ((vert_first.f k x0 (wrap64 (x2 + (wrap64 ((mn 10 (wrap64 ((x0.length : Int) - x2))) - (mn x4 (mn 10 (wrap64 ((x0.length : Int) - x2))))))))).bind fun bt116 => (some (bt116.1, bt116.2.1, bt116.2.2.1, true, bt116.2.2.2.2, true))) else (if x3 = 77 then ((vert_first.f k x0 (wrap64 (x2 + (wrap64 (Int.tdiv (wrap64 ((mn 10 (wrap64 ((x0.length : Int) - x2))) - 1)) 2))))).bind fun bt122 => (some (bt122.1, bt122.2.1, bt122.2.2.1, true, bt122.2.2.2.2, true))) else (some (0, 0, 0, false, 0, false)))))
def vert_Screen.f (k : Nat) (l0 : List ByteArray) (a1_0 : Int) (a1_1 : Int) (a2 : Int) (a3 : Int) (a4 : Int) : Option (Int × Int × Int × Bool × Int × Bool) := if a4 < 1 then (vert_Screen.j0 k l0 (mx a2 0) a3 a4 true) else ((class_Place.f l0 a1_0 a1_1).bind fun t109 => (if t109 = true then (vert_Screen.j0 k l0 (mx a2 0) a3 a4 (decide ((mx a2 0) ≥ (l0.length : Int)))) else (vert_Screen.j0 k l0 (mx a2 0) a3 a4 true)))
theorem vert_Screen.mono_l : ∀ k, (∀ y0 y1 y2 y3 y4, LeO (vert_Screen.j0 k y0 y1 y2 y3 y4) (vert_Screen.j0 (k + 1) y0 y1 y2 y3 y4))
  | 0 => fun _ _ _ _ _ r h => by simp [vert_Screen.j0] at h
  | k + 1 => by
    have ih0 := vert_Screen.mono_l k
    · intro y0 y1 y2 y3 y4
      unfold vert_Screen.j0
      repeat' first
      | (with_reducible exact ih0 _ _ _ _ _)
      | (with_reducible exact vert_first.mono _ _ _)
      | (with_reducible exact LeO.refl _)
      | (with_reducible exact LeO.none _)
      | (with_reducible refine LeO.ite ?_ ?_)
      | (with_reducible refine LeO.bind ?_ (fun _ => ?_))
      | exact ih0 _ _ _ _ _
      | exact vert_first.mono _ _ _
      | exact LeO.none _
      | refine LeO.ite ?_ ?_
      | refine LeO.bind ?_ (fun _ => ?_)
theorem vert_Screen.mono : ∀ a0 a1 a2 a3 a4 a5 k, LeO (vert_Screen.f k a0 a1 a2 a3 a4 a5) (vert_Screen.f (k + 1) a0 a1 a2 a3 a4 a5) := by
  intro a0 a1 a2 a3 a4 a5 k
  have ih0 := vert_Screen.mono_l k
  unfold vert_Screen.f
  repeat' first
      | (with_reducible exact ih0 _ _ _ _ _)
      | (with_reducible exact vert_first.mono _ _ _)
      | (with_reducible exact LeO.refl _)
      | (with_reducible exact LeO.none _)
      | (with_reducible refine LeO.ite ?_ ?_)
      | (with_reducible refine LeO.bind ?_ (fun _ => ?_))
      | exact ih0 _ _ _ _ _
      | exact vert_first.mono _ _ _
      | exact LeO.none _
      | refine LeO.ite ?_ ?_
      | refine LeO.bind ?_ (fun _ => ?_)
set_option maxHeartbeats 8000000 in
set_option maxRecDepth 100000 in
theorem vert_Screen.calls (k : Nat) (A0 : Option Addr) (c0 : Nat) (l0 : List ByteArray) (a1_0 : Int) (a1_1 : Int) (a2 : Int) (a3 : Int) (a4 : Int) (r1 : Int) (r2 : Int) (r3 : Int) (r4 : Bool) (r5 : Int) (r6 : Bool) (w : World) (hr0 : Kd.C Kd.string w A0 l0.length l0) (hc0 : l0.length ≤ c0) (h : vert_Screen.f k l0 a1_0 a1_1 a2 a3 a4 = some (r1, r2, r3, r4, r5, r6)) :
    Calls Try.prog 11 #[.slice A0 l0.length c0, .agg #[.int .i64 a1_0, .int .i64 a1_1], .int .i64 a2, .int .u8 a3, .int .i64 a4] w fun e w' => e = .returned (.tuple #[.agg #[.int .i64 r1, .int .i64 r2, .int .i64 r3, .bool r4, .int .i64 r5], .bool r6]) ∧ Below w.heap.size w w' := by
  have hu24 := Try.underlying24
  have hu33 := Try.underlying33
  have HR0 := Aside0.mk hr0
  have HC0 := Aside0.mk hc0
  clear hr0 hc0
  have HB := Aside0.mk (Below.refl w.heap.size w)
  have H : (if a4 < 1 then (vert_Screen.j0 k l0 (mx a2 0) a3 a4 true) else ((class_Place.f l0 a1_0 a1_1).bind fun t109 => (if t109 = true then (vert_Screen.j0 k l0 (mx a2 0) a3 a4 (decide ((mx a2 0) ≥ (l0.length : Int)))) else (vert_Screen.j0 k l0 (mx a2 0) a3 a4 true)))) = some (r1, r2, r3, r4, r5, r6) := h
  clear h
  obtain ⟨ji6, hji6⟩ : ∃ j_ : Int, (mx a2 0) = j_ := ⟨_, rfl⟩
  replace H : (if a4 < 1 then (vert_Screen.j0 k l0 ji6 a3 a4 true) else ((class_Place.f l0 a1_0 a1_1).bind fun t109 => (if t109 = true then (vert_Screen.j0 k l0 ji6 a3 a4 (decide ((ji6) ≥ (l0.length : Int)))) else (vert_Screen.j0 k l0 ji6 a3 a4 true)))) = some (r1, r2, r3, r4, r5, r6) := by first | (rw [hji6] at H; exact H) | (simp only [hji6] at H ⊢; exact H)
  (try (have hji6l : 0 ≤ ji6 := by (rw [← hji6]; unfold mx; (repeat' split) <;> omega)))
  (try (have hji6m : 0 ≤ ji6 := by omega))
  have hji6_ : (if a2 < 0 then 0 else a2) = ji6 := hji6
  have HC7 := Aside0.mk H
  clear H
  go_enter Try.func11, Try.ntmps11
  go_upto_region 2 with (first | ((with_reducible refine gate_dst (N := 6) rfl ?_); (try (refine gate_guard (by rfl) ?_; dsimp only)); refine box_event ?hg (N := 6) ?hd (cs := #[.int .i64 a1_0, .int .i64 a1_1]) (t := 24) ?hr ?_; (case hd => rfl); (case hg => rfl); (case hr => first | (go_simp; done) | (go_simp; rfl)); intro gb107 hg w8 hbox hb; have n0_ := Aside0.mk (below_step (by repeat (first | (with_reducible first | exact HB.out | apply below_alloc | apply pw_below_drewN | apply below_drew1) | exact HB.out)) hb); have n1_ := Aside0.mk (hbox); have n2_ := Aside0.mk ((by rw [hg]; exact (below_size (by repeat (first | (with_reducible first | exact HB.out | apply below_alloc | apply pw_below_drewN | apply below_drew1) | exact HB.out))) : w.heap.size ≤ gb107)); have n3_ := Aside0.mk ((by rw [hg]; exact (below_size (by repeat (first | (with_reducible first | exact HB.out | apply below_alloc | apply pw_below_drewN | apply below_drew1) | exact HB.out))) : w.heap.size ≤ gb107)); clear HB; have HB := n0_; have BK107 := n1_; have GW107 := n2_; have GE107 := n3_; clear n0_ n1_ n2_ n3_; clear hb hbox hg) | ((with_reducible refine gate_dst (N := 10) rfl ?_); (try (refine gate_guard (by rfl) ?_; dsimp only)); refine box_event ?hg (N := 10) ?hd (cs := #[.int .i64 0, .int .i64 0, .int .i64 0, .bool false, .int .i64 0]) (t := 33) ?hr ?_; (case hd => rfl); (case hg => rfl); (case hr => first | (go_simp; done) | (go_simp; rfl)); intro gb108 hg w9 hbox hb; have n0_ := Aside0.mk (blk_below (g := gb107) (o := .cells #[.int .i64 a1_0, .int .i64 a1_1] 24 (0, 0)) (by (with_reducible repeat (first | refine blk_drewN ?_ _ | refine blk_drew ?_ | refine blk_alloc ?_ _)); exact BK107.out) hb); have n1_ := Aside0.mk (below_step (by repeat (first | (with_reducible first | exact HB.out | apply below_alloc | apply pw_below_drewN | apply below_drew1 | refine below_set ?_ GE107.out) | exact HB.out)) hb); have n2_ := Aside0.mk (hbox); have n3_ := Aside0.mk ((by rw [hg]; exact (below_size (by repeat (first | (with_reducible first | exact HB.out | apply below_alloc | apply pw_below_drewN | apply below_drew1 | refine below_set ?_ GE107.out) | exact HB.out))) : w.heap.size ≤ gb108)); have n4_ := Aside0.mk ((by rw [hg]; exact (below_size (by repeat (first | (with_reducible first | exact HB.out | apply below_alloc | apply pw_below_drewN | apply below_drew1 | refine below_set ?_ GE107.out) | exact HB.out))) : w.heap.size ≤ gb108)); have n5_ := Aside0.mk ((by rw [hg]; exact Nat.ne_of_lt (blk_lt (g := gb107) (o := .cells #[.int .i64 a1_0, .int .i64 a1_1] 24 (0, 0)) (by (with_reducible repeat (first | refine blk_drewN ?_ _ | refine blk_drew ?_ | refine blk_alloc ?_ _)); exact BK107.out)) : gb107 ≠ gb108)); have n6_ := Aside0.mk ((by rw [hg]; exact Nat.ne_of_gt (blk_lt (g := gb107) (o := .cells #[.int .i64 a1_0, .int .i64 a1_1] 24 (0, 0)) (by (with_reducible repeat (first | refine blk_drewN ?_ _ | refine blk_drew ?_ | refine blk_alloc ?_ _)); exact BK107.out)) : gb108 ≠ gb107)); clear BK107; clear HB; have BK107 := n0_; have HB := n1_; have BK108 := n2_; have GW108 := n3_; have GE108 := n4_; have NB107_108 := n5_; have NB108_107 := n6_; clear n0_ n1_ n2_ n3_ n4_ n5_ n6_; clear hb hbox hg))
  (try simp only [Act.put, List.setIfInBounds_toArray, List.set_cons_zero, List.set_cons_succ])
  go_cut [30] (fun v30 wc => ∃ (kq : Nat) (x30_6 : Bool), v30 = .bool x30_6 ∧ Aside0 (vert_Screen.j0 kq l0 ji6 a3 a4 x30_6 = some (r1, r2, r3, r4, r5, r6)) ∧ Aside0 (kq ≤ k) ∧ Aside0 (wc.heap[gb107]? = some (.cells #[.int .i64 a1_0, .int .i64 a1_1] 24 (0, 0))) ∧ Aside0 (wc.heap[gb108]? = some (.cells #[.int .i64 0, .int .i64 0, .int .i64 0, .bool false, .int .i64 0] 33 (0, 0))) ∧ Aside0 (Below w.heap.size w wc))
  case first =>
    have H := HC7.out
    clear HC7
    by_cases c10 : a4 < 1
    · rw [if_pos c10] at H
      have c10b0 : decide (a4 < 1) = true := decide_eq_true c10
      clear c10
      (first | rw [c10b0] | (simp only [i64_w, i32_w]; rw [c10b0]) | skip)
      have H' := Aside0.mk H
      clear H
      go_wp2
      go_meet
      case rel => exact ⟨_, (true), (by first | rfl | (simp; done) | (simp [*]; done)), H', ⟨by first | omega | exact Nat.le_refl _⟩, ⟨by (with_reducible repeat (first | refine blk_drewN ?_ _ | refine blk_drew ?_ | refine blk_alloc ?_ _)); exact BK107.out⟩, ⟨by (with_reducible repeat (first | refine blk_drewN ?_ _ | refine blk_drew ?_ | refine blk_alloc ?_ _)); exact BK108.out⟩, ⟨by repeat (first | (with_reducible first | exact HB.out | apply below_alloc | apply pw_below_drewN | apply below_drew1 | refine below_set ?_ GE107.out | refine below_set ?_ GE108.out) | exact HB.out)⟩⟩
    · rw [if_neg c10] at H
      have c10b0 : decide (a4 < 1) = false := decide_eq_false c10
      clear c10
      (first | rw [c10b0] | (simp only [i64_w, i32_w]; rw [c10b0]) | skip)
      replace H := Option.bind_eq_some_iff.mp H
      obtain ⟨t109, A110, H⟩ := H
      replace H : (if t109 = true then (vert_Screen.j0 k l0 ji6 a3 a4 (decide ((ji6) ≥ (l0.length : Int)))) else (vert_Screen.j0 k l0 ji6 a3 a4 true)) = some (r1, r2, r3, r4, r5, r6) := H
      have A11 := Aside0.mk A110
      clear A110
      by_cases c12 : t109 = true
      · subst c12
        have H1 : (vert_Screen.j0 k l0 ji6 a3 a4 (decide ((ji6) ≥ (l0.length : Int)))) = some (r1, r2, r3, r4, r5, r6) := by rw [if_pos rfl] at H; exact H
        clear H
        have H := H1
        clear H1
        have H' := Aside0.mk H
        clear H
        have hnb13 := NB107_108.out
        have hnc13 := NB108_107.out
        have hcz14_0 : w9.cell? ⟨gb107, 0, none⟩ = some (.int .i64 a1_0) := (blk_cell BK107.out 0).trans rfl
        have hcz14_1 : w9.cell? ⟨gb107, 1, none⟩ = some (.int .i64 a1_1) := (blk_cell BK107.out 1).trans rfl
        have hfz14_0 := blk_frozen BK107.out 0
        have hfz14_1 := blk_frozen BK107.out 1
        go_wp2_with (first | (go_at_call 27; (with_reducible refine (class_Place.calls _ _ l0 a1_0 a1_1 true _ ?side1 ?side2 A11.out).mono ?_); (case side1 => repeat (first | exact (Kd.C_below HR0.out HB.out) | (with_reducible refine Kd.C_alloc ?_ _) | (with_reducible refine Kd.C_drewN ?_ _) | (with_reducible refine Kd.C_drew ?_))); (case side2 => exact HC0.out); rintro e w15 ⟨rfl, hb⟩; have n0_ := Aside0.mk (blk_below (g := gb107) (o := .cells #[.int .i64 a1_0, .int .i64 a1_1] 24 (0, 0)) (by (with_reducible repeat (first | refine blk_drewN ?_ _ | refine blk_drew ?_ | refine blk_alloc ?_ _)); exact BK107.out) hb); have n1_ := Aside0.mk (blk_below (g := gb108) (o := .cells #[.int .i64 0, .int .i64 0, .int .i64 0, .bool false, .int .i64 0] 33 (0, 0)) (by (with_reducible repeat (first | refine blk_drewN ?_ _ | refine blk_drew ?_ | refine blk_alloc ?_ _)); exact BK108.out) hb); have n2_ := Aside0.mk (below_step (by repeat (first | (with_reducible first | exact HB.out | apply below_alloc | apply pw_below_drewN | apply below_drew1 | refine below_set ?_ GE107.out | refine below_set ?_ GE108.out) | exact HB.out)) hb); clear BK107; clear BK108; clear HB; have BK107 := n0_; have BK108 := n1_; have HB := n2_; clear n0_ n1_ n2_; (try clear hb); (try clear hb2); (try clear hk); (try clear hi)))
        go_meet
        case rel => exact ⟨_, (decide ((ji6) ≥ (l0.length : Int))), (by first | rfl | (simp; done) | (simp only [← hji6] <;> (first | rfl | simp)) | (simp [*]; done)), H', ⟨by first | omega | exact Nat.le_refl _⟩, ⟨by (with_reducible repeat (first | refine blk_drewN ?_ _ | refine blk_drew ?_ | refine blk_alloc ?_ _)); exact BK107.out⟩, ⟨by (with_reducible repeat (first | refine blk_drewN ?_ _ | refine blk_drew ?_ | refine blk_alloc ?_ _)); exact BK108.out⟩, ⟨by repeat (first | (with_reducible first | exact HB.out | apply below_alloc | apply pw_below_drewN | apply below_drew1 | refine below_set ?_ GE107.out | refine below_set ?_ GE108.out) | exact HB.out)⟩⟩
      · replace c12 := Bool.eq_false_iff.mpr c12
        subst c12
        have H1 : (vert_Screen.j0 k l0 ji6 a3 a4 true) = some (r1, r2, r3, r4, r5, r6) := by rw [if_neg (show ¬ (false = true) by decide)] at H; exact H
        clear H
        have H := H1
        clear H1
        have H' := Aside0.mk H
        clear H
        have hnb16 := NB107_108.out
        have hnc16 := NB108_107.out
        have hcz17_0 : w9.cell? ⟨gb107, 0, none⟩ = some (.int .i64 a1_0) := (blk_cell BK107.out 0).trans rfl
        have hcz17_1 : w9.cell? ⟨gb107, 1, none⟩ = some (.int .i64 a1_1) := (blk_cell BK107.out 1).trans rfl
        have hfz17_0 := blk_frozen BK107.out 0
        have hfz17_1 := blk_frozen BK107.out 1
        go_wp2_with (first | (go_at_call 27; (with_reducible refine (class_Place.calls _ _ l0 a1_0 a1_1 false _ ?side1 ?side2 A11.out).mono ?_); (case side1 => repeat (first | exact (Kd.C_below HR0.out HB.out) | (with_reducible refine Kd.C_alloc ?_ _) | (with_reducible refine Kd.C_drewN ?_ _) | (with_reducible refine Kd.C_drew ?_))); (case side2 => exact HC0.out); rintro e w18 ⟨rfl, hb⟩; have n0_ := Aside0.mk (blk_below (g := gb107) (o := .cells #[.int .i64 a1_0, .int .i64 a1_1] 24 (0, 0)) (by (with_reducible repeat (first | refine blk_drewN ?_ _ | refine blk_drew ?_ | refine blk_alloc ?_ _)); exact BK107.out) hb); have n1_ := Aside0.mk (blk_below (g := gb108) (o := .cells #[.int .i64 0, .int .i64 0, .int .i64 0, .bool false, .int .i64 0] 33 (0, 0)) (by (with_reducible repeat (first | refine blk_drewN ?_ _ | refine blk_drew ?_ | refine blk_alloc ?_ _)); exact BK108.out) hb); have n2_ := Aside0.mk (below_step (by repeat (first | (with_reducible first | exact HB.out | apply below_alloc | apply pw_below_drewN | apply below_drew1 | refine below_set ?_ GE107.out | refine below_set ?_ GE108.out) | exact HB.out)) hb); clear BK107; clear BK108; clear HB; have BK107 := n0_; have BK108 := n1_; have HB := n2_; clear n0_ n1_ n2_; (try clear hb); (try clear hb2); (try clear hk); (try clear hi)))
        go_meet
        case rel => exact ⟨_, (true), (by first | rfl | (simp; done) | (simp [*]; done)), H', ⟨by first | omega | exact Nat.le_refl _⟩, ⟨by (with_reducible repeat (first | refine blk_drewN ?_ _ | refine blk_drew ?_ | refine blk_alloc ?_ _)); exact BK107.out⟩, ⟨by (with_reducible repeat (first | refine blk_drewN ?_ _ | refine blk_drew ?_ | refine blk_alloc ?_ _)); exact BK108.out⟩, ⟨by repeat (first | (with_reducible first | exact HB.out | apply below_alloc | apply pw_below_drewN | apply below_drew1 | refine below_set ?_ GE107.out | refine below_set ?_ GE108.out) | exact HB.out)⟩⟩
  case rest =>
    clear HC7
    try clear c1
    try clear p2
    try clear c10
    try clear c10b0
    try clear c11
    try clear c12
    try clear c13
    try clear c16
    try clear hcz14_0
    try clear hcz14_1
    try clear hcz17_0
    try clear hcz17_1
    try clear hfz14_0
    try clear hfz14_1
    try clear hfz17_0
    try clear hfz17_1
    obtain ⟨kq, x30_6, rfl, HA, HJ6, BK107, BK108, HB⟩ := hcut
    cases kq with
    | zero => exact absurd HA.out (by simp [vert_Screen.j0])
    | succ kj6 =>
      have H := HA.out
      clear HA
      simp only [vert_Screen.j0] at H
      by_cases c19 : x30_6 = true
      · subst c19
        have H1 : (some (0, 0, 0, false, 0, false)) = some (r1, r2, r3, r4, r5, r6) := by rw [if_pos rfl] at H; exact H
        clear H
        have H := H1
        clear H1
        simp only [Option.some.injEq, Prod.mk.injEq] at H
        obtain ⟨rfl, rfl, rfl, rfl, rfl, rfl⟩ := H
        have hnb20 := NB108_107.out
        have hnc20 := NB107_108.out
        have hcz21_0 : wc.cell? ⟨gb108, 0, none⟩ = some (.int .i64 0) := (blk_cell BK108.out 0).trans rfl
        have hcz21_1 : wc.cell? ⟨gb108, 1, none⟩ = some (.int .i64 0) := (blk_cell BK108.out 1).trans rfl
        have hcz21_2 : wc.cell? ⟨gb108, 2, none⟩ = some (.int .i64 0) := (blk_cell BK108.out 2).trans rfl
        have hcz21_3 : wc.cell? ⟨gb108, 3, none⟩ = some (.bool false) := (blk_cell BK108.out 3).trans rfl
        have hcz21_4 : wc.cell? ⟨gb108, 4, none⟩ = some (.int .i64 0) := (blk_cell BK108.out 4).trans rfl
        have hfz21_0 := blk_frozen BK108.out 0
        have hfz21_1 := blk_frozen BK108.out 1
        have hfz21_2 := blk_frozen BK108.out 2
        have hfz21_3 := blk_frozen BK108.out 3
        have hfz21_4 := blk_frozen BK108.out 4
        go_wp2
        refine bodyPost_ret (results_ct rfl _ _ gb108 33 #[.int .i64 0, .int .i64 0, .int .i64 0, .bool false, .int .i64 0] (0, 0) _ rfl (by (with_reducible repeat (first | refine blk_drewN ?_ _ | refine blk_drew ?_ | refine blk_alloc ?_ _)); refine blk_put (cs := #[.int .i64 0, .int .i64 0, .int .i64 0, .bool false, .int .i64 0]) ?_ 4 _ rfl; (with_reducible repeat (first | refine blk_drewN ?_ _ | refine blk_drew ?_ | refine blk_alloc ?_ _)); refine blk_put (cs := #[.int .i64 0, .int .i64 0, .int .i64 0, .bool false, .int .i64 0]) ?_ 3 _ rfl; (with_reducible repeat (first | refine blk_drewN ?_ _ | refine blk_drew ?_ | refine blk_alloc ?_ _)); refine blk_put (cs := #[.int .i64 0, .int .i64 0, .int .i64 0, .bool false, .int .i64 0]) ?_ 2 _ rfl; (with_reducible repeat (first | refine blk_drewN ?_ _ | refine blk_drew ?_ | refine blk_alloc ?_ _)); refine blk_put (cs := #[.int .i64 0, .int .i64 0, .int .i64 0, .bool false, .int .i64 0]) ?_ 1 _ rfl; (with_reducible repeat (first | refine blk_drewN ?_ _ | refine blk_drew ?_ | refine blk_alloc ?_ _)); refine blk_put (cs := #[.int .i64 0, .int .i64 0, .int .i64 0, .bool false, .int .i64 0]) ?_ 0 _ rfl; (with_reducible repeat (first | refine blk_drewN ?_ _ | refine blk_drew ?_ | refine blk_alloc ?_ _)); exact BK108.out) Try.underlying33 rfl (by kernel_rfl)) rfl ?_
        exact ⟨by first | rfl | (simp [errW_none, errW_some] <;> rfl) | (simp only [← hji6]; first | rfl | (simp [errW_none, errW_some] <;> rfl)) | (simp [*, errW_none, errW_some] <;> rfl), by repeat (first | (with_reducible first | exact HB.out | apply below_alloc | apply pw_below_drewN | apply below_drew1 | refine below_set ?_ GE107.out | refine below_set ?_ GE108.out) | exact HB.out)⟩
      · replace c19 := Bool.eq_false_iff.mpr c19
        subst c19
        have H1 : (if a3 = 72 then ((vert_first.f kj6 l0 (wrap64 (ji6 + (wrap64 ((mn a4 (mn 10 (wrap64 ((l0.length : Int) - ji6)))) - 1))))).bind fun bt110 => (some (bt110.1, bt110.2.1, bt110.2.2.1, true, bt110.2.2.2.2, true))) else (if a3 = 76 then ((vert_first.f kj6 l0 (wrap64 (ji6 + (wrap64 ((mn 10 (wrap64 ((l0.length : Int) - ji6))) - (mn a4 (mn 10 (wrap64 ((l0.length : Int) - ji6))))))))).bind fun bt116 => (some (bt116.1, bt116.2.1, bt116.2.2.1, true, bt116.2.2.2.2, true))) else (if a3 = 77 then ((vert_first.f kj6 l0 (wrap64 (ji6 + (wrap64 (Int.tdiv (wrap64 ((mn 10 (wrap64 ((l0.length : Int) - ji6))) - 1)) 2))))).bind fun bt122 => (some (bt122.1, bt122.2.1, bt122.2.2.1, true, bt122.2.2.2.2, true))) else (some (0, 0, 0, false, 0, false))))) = some (r1, r2, r3, r4, r5, r6) := by rw [if_neg (show ¬ (false = true) by decide)] at H; exact H
        clear H
        have H := H1
        clear H1
        obtain ⟨ji22, hji22⟩ : ∃ j_ : Int, (mn 10 (wrap64 ((l0.length : Int) - ji6))) = j_ := ⟨_, rfl⟩
        replace H : (if a3 = 72 then ((vert_first.f kj6 l0 (wrap64 (ji6 + (wrap64 ((mn a4 (ji22)) - 1))))).bind fun bt110 => (some (bt110.1, bt110.2.1, bt110.2.2.1, true, bt110.2.2.2.2, true))) else (if a3 = 76 then ((vert_first.f kj6 l0 (wrap64 (ji6 + (wrap64 ((ji22) - (mn a4 (ji22))))))).bind fun bt116 => (some (bt116.1, bt116.2.1, bt116.2.2.1, true, bt116.2.2.2.2, true))) else (if a3 = 77 then ((vert_first.f kj6 l0 (wrap64 (ji6 + (wrap64 (Int.tdiv (wrap64 ((ji22) - 1)) 2))))).bind fun bt122 => (some (bt122.1, bt122.2.1, bt122.2.2.1, true, bt122.2.2.2.2, true))) else (some (0, 0, 0, false, 0, false))))) = some (r1, r2, r3, r4, r5, r6) := by first | (rw [hji22] at H; exact H) | (simp only [hji22] at H ⊢; exact H)
        have hji22_ : (if (wrap64 ((l0.length : Int) - ji6)) < 10 then (wrap64 ((l0.length : Int) - ji6)) else 10) = ji22 := hji22
        obtain ⟨ji23, hji23⟩ : ∃ j_ : Int, (mn a4 (ji22)) = j_ := ⟨_, rfl⟩
        replace H : (if a3 = 72 then ((vert_first.f kj6 l0 (wrap64 (ji6 + (wrap64 ((ji23) - 1))))).bind fun bt110 => (some (bt110.1, bt110.2.1, bt110.2.2.1, true, bt110.2.2.2.2, true))) else (if a3 = 76 then ((vert_first.f kj6 l0 (wrap64 (ji6 + (wrap64 ((ji22) - (ji23)))))).bind fun bt116 => (some (bt116.1, bt116.2.1, bt116.2.2.1, true, bt116.2.2.2.2, true))) else (if a3 = 77 then ((vert_first.f kj6 l0 (wrap64 (ji6 + (wrap64 (Int.tdiv (wrap64 ((ji22) - 1)) 2))))).bind fun bt122 => (some (bt122.1, bt122.2.1, bt122.2.2.1, true, bt122.2.2.2.2, true))) else (some (0, 0, 0, false, 0, false))))) = some (r1, r2, r3, r4, r5, r6) := by first | (rw [hji23] at H; exact H) | (simp only [hji23] at H ⊢; exact H)
        have hji23_ : (if (ji22) < a4 then (ji22) else a4) = ji23 := hji23
        by_cases c24 : a3 = 72
        · rw [if_pos c24] at H
          have c24b0 : (a3 == 72) = true := beq_iff_eq.mpr c24
          have c24b1 : (a3 != 72) = false := bne_eq_false_iff_eq.mpr c24
          clear c24
          replace H := Option.bind_eq_some_iff.mp H
          obtain ⟨⟨t110, t111, t112, t113, t114⟩, A250, H⟩ := H
          replace H : (some (t110, t111, t112, true, t114, true)) = some (r1, r2, r3, r4, r5, r6) := H
          have A25 := Aside0.mk A250
          clear A250
          simp only [Option.some.injEq, Prod.mk.injEq] at H
          obtain ⟨rfl, rfl, rfl, rfl, rfl, rfl⟩ := H
          go_wp2_with (first | (go_at_call 28; (with_reducible refine (vert_first.calls kj6 _ _ l0 (wrap64 (ji6 + (wrap64 ((ji23) - 1)))) t110 t111 t112 t113 t114 _ ?side1 ?side2 A25.out).mono ?_); (case side1 => repeat (first | exact (Kd.C_below HR0.out HB.out) | (with_reducible refine Kd.C_alloc ?_ _) | (with_reducible refine Kd.C_drewN ?_ _) | (with_reducible refine Kd.C_drew ?_))); (case side2 => exact HC0.out); rintro e w26 ⟨rfl, hb⟩; have n0_ := Aside0.mk (blk_below (g := gb107) (o := .cells #[.int .i64 a1_0, .int .i64 a1_1] 24 (0, 0)) (by (with_reducible repeat (first | refine blk_drewN ?_ _ | refine blk_drew ?_ | refine blk_alloc ?_ _)); exact BK107.out) hb); have n1_ := Aside0.mk (blk_below (g := gb108) (o := .cells #[.int .i64 0, .int .i64 0, .int .i64 0, .bool false, .int .i64 0] 33 (0, 0)) (by (with_reducible repeat (first | refine blk_drewN ?_ _ | refine blk_drew ?_ | refine blk_alloc ?_ _)); exact BK108.out) hb); have n2_ := Aside0.mk (below_step (by repeat (first | (with_reducible first | exact HB.out | apply below_alloc | apply pw_below_drewN | apply below_drew1 | refine below_set ?_ GE107.out | refine below_set ?_ GE108.out) | exact HB.out)) hb); clear BK107; clear BK108; clear HB; have BK107 := n0_; have BK108 := n1_; have HB := n2_; clear n0_ n1_ n2_; (try clear hb); (try clear hb2); (try clear hk); (try clear hi); have hcz32_0 : w26.cell? ⟨gb108, 0, none⟩ = some (.int .i64 0) := (blk_cell BK108.out 0).trans rfl; have hfcz32_0 := blk_frozen BK108.out 0; have hltgb108 := blk_lt BK108.out; have hcz32_1 : w26.cell? ⟨gb108, 1, none⟩ = some (.int .i64 0) := (blk_cell BK108.out 1).trans rfl; have hfcz32_1 := blk_frozen BK108.out 1; have hcz32_2 : w26.cell? ⟨gb108, 2, none⟩ = some (.int .i64 0) := (blk_cell BK108.out 2).trans rfl; have hfcz32_2 := blk_frozen BK108.out 2; have hcz32_3 : w26.cell? ⟨gb108, 3, none⟩ = some (.bool false) := (blk_cell BK108.out 3).trans rfl; have hfcz32_3 := blk_frozen BK108.out 3; have hcz32_4 : w26.cell? ⟨gb108, 4, none⟩ = some (.int .i64 0) := (blk_cell BK108.out 4).trans rfl; have hfcz32_4 := blk_frozen BK108.out 4))
          refine bodyPost_ret (results_ct rfl _ _ gb108 33 #[.int .i64 t110, .int .i64 t111, .int .i64 t112, .bool true, .int .i64 t114] (0, 0) _ rfl (by (with_reducible repeat (first | refine blk_drewN ?_ _ | refine blk_drew ?_ | refine blk_alloc ?_ _)); refine blk_put (cs := #[.int .i64 t110, .int .i64 t111, .int .i64 t112, .bool true, .int .i64 0]) ?_ 4 _ rfl; (with_reducible repeat (first | refine blk_drewN ?_ _ | refine blk_drew ?_ | refine blk_alloc ?_ _)); refine blk_put (cs := #[.int .i64 t110, .int .i64 t111, .int .i64 t112, .bool false, .int .i64 0]) ?_ 3 _ rfl; (with_reducible repeat (first | refine blk_drewN ?_ _ | refine blk_drew ?_ | refine blk_alloc ?_ _)); refine blk_put (cs := #[.int .i64 t110, .int .i64 t111, .int .i64 0, .bool false, .int .i64 0]) ?_ 2 _ rfl; (with_reducible repeat (first | refine blk_drewN ?_ _ | refine blk_drew ?_ | refine blk_alloc ?_ _)); refine blk_put (cs := #[.int .i64 t110, .int .i64 0, .int .i64 0, .bool false, .int .i64 0]) ?_ 1 _ rfl; (with_reducible repeat (first | refine blk_drewN ?_ _ | refine blk_drew ?_ | refine blk_alloc ?_ _)); refine blk_put (cs := #[.int .i64 0, .int .i64 0, .int .i64 0, .bool false, .int .i64 0]) ?_ 0 _ rfl; (with_reducible repeat (first | refine blk_drewN ?_ _ | refine blk_drew ?_ | refine blk_alloc ?_ _)); exact BK108.out) Try.underlying33 rfl (by kernel_rfl)) rfl ?_
          exact ⟨by first | rfl | (simp [errW_none, errW_some] <;> rfl) | (simp only [← hji6, ← hji22, ← hji23]; first | rfl | (simp [errW_none, errW_some] <;> rfl)) | (simp [*, errW_none, errW_some] <;> rfl), by repeat (first | (with_reducible first | exact HB.out | apply below_alloc | apply pw_below_drewN | apply below_drew1 | refine below_set ?_ GE107.out | refine below_set ?_ GE108.out) | exact HB.out)⟩
        · rw [if_neg c24] at H
          have c24b0 : (a3 == 72) = false := beq_eq_false_iff_ne.mpr c24
          have c24b1 : (a3 != 72) = true := bne_iff_ne.mpr c24
          by_cases c33 : a3 = 76
          · rw [if_pos c33] at H
            have c33b0 : (a3 == 76) = true := beq_iff_eq.mpr c33
            have c33b1 : (a3 != 76) = false := bne_eq_false_iff_eq.mpr c33
            clear c33
            replace H := Option.bind_eq_some_iff.mp H
            obtain ⟨⟨t116, t117, t118, t119, t120⟩, A340, H⟩ := H
            replace H : (some (t116, t117, t118, true, t120, true)) = some (r1, r2, r3, r4, r5, r6) := H
            have A34 := Aside0.mk A340
            clear A340
            simp only [Option.some.injEq, Prod.mk.injEq] at H
            obtain ⟨rfl, rfl, rfl, rfl, rfl, rfl⟩ := H
            go_wp2_with (first | (go_at_call 28; (with_reducible refine (vert_first.calls kj6 _ _ l0 (wrap64 (ji6 + (wrap64 ((ji22) - (ji23))))) t116 t117 t118 t119 t120 _ ?side1 ?side2 A34.out).mono ?_); (case side1 => repeat (first | exact (Kd.C_below HR0.out HB.out) | (with_reducible refine Kd.C_alloc ?_ _) | (with_reducible refine Kd.C_drewN ?_ _) | (with_reducible refine Kd.C_drew ?_))); (case side2 => exact HC0.out); rintro e w35 ⟨rfl, hb⟩; have n0_ := Aside0.mk (blk_below (g := gb107) (o := .cells #[.int .i64 a1_0, .int .i64 a1_1] 24 (0, 0)) (by (with_reducible repeat (first | refine blk_drewN ?_ _ | refine blk_drew ?_ | refine blk_alloc ?_ _)); exact BK107.out) hb); have n1_ := Aside0.mk (blk_below (g := gb108) (o := .cells #[.int .i64 0, .int .i64 0, .int .i64 0, .bool false, .int .i64 0] 33 (0, 0)) (by (with_reducible repeat (first | refine blk_drewN ?_ _ | refine blk_drew ?_ | refine blk_alloc ?_ _)); exact BK108.out) hb); have n2_ := Aside0.mk (below_step (by repeat (first | (with_reducible first | exact HB.out | apply below_alloc | apply pw_below_drewN | apply below_drew1 | refine below_set ?_ GE107.out | refine below_set ?_ GE108.out) | exact HB.out)) hb); clear BK107; clear BK108; clear HB; have BK107 := n0_; have BK108 := n1_; have HB := n2_; clear n0_ n1_ n2_; (try clear hb); (try clear hb2); (try clear hk); (try clear hi); have hcz41_0 : w35.cell? ⟨gb108, 0, none⟩ = some (.int .i64 0) := (blk_cell BK108.out 0).trans rfl; have hfcz41_0 := blk_frozen BK108.out 0; have hltgb108 := blk_lt BK108.out; have hcz41_1 : w35.cell? ⟨gb108, 1, none⟩ = some (.int .i64 0) := (blk_cell BK108.out 1).trans rfl; have hfcz41_1 := blk_frozen BK108.out 1; have hcz41_2 : w35.cell? ⟨gb108, 2, none⟩ = some (.int .i64 0) := (blk_cell BK108.out 2).trans rfl; have hfcz41_2 := blk_frozen BK108.out 2; have hcz41_3 : w35.cell? ⟨gb108, 3, none⟩ = some (.bool false) := (blk_cell BK108.out 3).trans rfl; have hfcz41_3 := blk_frozen BK108.out 3; have hcz41_4 : w35.cell? ⟨gb108, 4, none⟩ = some (.int .i64 0) := (blk_cell BK108.out 4).trans rfl; have hfcz41_4 := blk_frozen BK108.out 4))
            refine bodyPost_ret (results_ct rfl _ _ gb108 33 #[.int .i64 t116, .int .i64 t117, .int .i64 t118, .bool true, .int .i64 t120] (0, 0) _ rfl (by (with_reducible repeat (first | refine blk_drewN ?_ _ | refine blk_drew ?_ | refine blk_alloc ?_ _)); refine blk_put (cs := #[.int .i64 t116, .int .i64 t117, .int .i64 t118, .bool true, .int .i64 0]) ?_ 4 _ rfl; (with_reducible repeat (first | refine blk_drewN ?_ _ | refine blk_drew ?_ | refine blk_alloc ?_ _)); refine blk_put (cs := #[.int .i64 t116, .int .i64 t117, .int .i64 t118, .bool false, .int .i64 0]) ?_ 3 _ rfl; (with_reducible repeat (first | refine blk_drewN ?_ _ | refine blk_drew ?_ | refine blk_alloc ?_ _)); refine blk_put (cs := #[.int .i64 t116, .int .i64 t117, .int .i64 0, .bool false, .int .i64 0]) ?_ 2 _ rfl; (with_reducible repeat (first | refine blk_drewN ?_ _ | refine blk_drew ?_ | refine blk_alloc ?_ _)); refine blk_put (cs := #[.int .i64 t116, .int .i64 0, .int .i64 0, .bool false, .int .i64 0]) ?_ 1 _ rfl; (with_reducible repeat (first | refine blk_drewN ?_ _ | refine blk_drew ?_ | refine blk_alloc ?_ _)); refine blk_put (cs := #[.int .i64 0, .int .i64 0, .int .i64 0, .bool false, .int .i64 0]) ?_ 0 _ rfl; (with_reducible repeat (first | refine blk_drewN ?_ _ | refine blk_drew ?_ | refine blk_alloc ?_ _)); exact BK108.out) Try.underlying33 rfl (by kernel_rfl)) rfl ?_
            exact ⟨by first | rfl | (simp [errW_none, errW_some] <;> rfl) | (simp only [← hji6, ← hji22, ← hji23]; first | rfl | (simp [errW_none, errW_some] <;> rfl)) | (simp [*, errW_none, errW_some] <;> rfl), by repeat (first | (with_reducible first | exact HB.out | apply below_alloc | apply pw_below_drewN | apply below_drew1 | refine below_set ?_ GE107.out | refine below_set ?_ GE108.out) | exact HB.out)⟩
          · rw [if_neg c33] at H
            have c33b0 : (a3 == 76) = false := beq_eq_false_iff_ne.mpr c33
            have c33b1 : (a3 != 76) = true := bne_iff_ne.mpr c33
            by_cases c42 : a3 = 77
            · rw [if_pos c42] at H
              have c42b0 : (a3 == 77) = true := beq_iff_eq.mpr c42
              have c42b1 : (a3 != 77) = false := bne_eq_false_iff_eq.mpr c42
              clear c42
              replace H := Option.bind_eq_some_iff.mp H
              obtain ⟨⟨t122, t123, t124, t125, t126⟩, A430, H⟩ := H
              replace H : (some (t122, t123, t124, true, t126, true)) = some (r1, r2, r3, r4, r5, r6) := H
              have A43 := Aside0.mk A430
              clear A430
              simp only [Option.some.injEq, Prod.mk.injEq] at H
              obtain ⟨rfl, rfl, rfl, rfl, rfl, rfl⟩ := H
              go_wp2_with (first | (go_at_call 28; (with_reducible refine (vert_first.calls kj6 _ _ l0 (wrap64 (ji6 + (wrap64 (Int.tdiv (wrap64 ((ji22) - 1)) 2)))) t122 t123 t124 t125 t126 _ ?side1 ?side2 A43.out).mono ?_); (case side1 => repeat (first | exact (Kd.C_below HR0.out HB.out) | (with_reducible refine Kd.C_alloc ?_ _) | (with_reducible refine Kd.C_drewN ?_ _) | (with_reducible refine Kd.C_drew ?_))); (case side2 => exact HC0.out); rintro e w44 ⟨rfl, hb⟩; have n0_ := Aside0.mk (blk_below (g := gb107) (o := .cells #[.int .i64 a1_0, .int .i64 a1_1] 24 (0, 0)) (by (with_reducible repeat (first | refine blk_drewN ?_ _ | refine blk_drew ?_ | refine blk_alloc ?_ _)); exact BK107.out) hb); have n1_ := Aside0.mk (blk_below (g := gb108) (o := .cells #[.int .i64 0, .int .i64 0, .int .i64 0, .bool false, .int .i64 0] 33 (0, 0)) (by (with_reducible repeat (first | refine blk_drewN ?_ _ | refine blk_drew ?_ | refine blk_alloc ?_ _)); exact BK108.out) hb); have n2_ := Aside0.mk (below_step (by repeat (first | (with_reducible first | exact HB.out | apply below_alloc | apply pw_below_drewN | apply below_drew1 | refine below_set ?_ GE107.out | refine below_set ?_ GE108.out) | exact HB.out)) hb); clear BK107; clear BK108; clear HB; have BK107 := n0_; have BK108 := n1_; have HB := n2_; clear n0_ n1_ n2_; (try clear hb); (try clear hb2); (try clear hk); (try clear hi); have hcz50_0 : w44.cell? ⟨gb108, 0, none⟩ = some (.int .i64 0) := (blk_cell BK108.out 0).trans rfl; have hfcz50_0 := blk_frozen BK108.out 0; have hltgb108 := blk_lt BK108.out; have hcz50_1 : w44.cell? ⟨gb108, 1, none⟩ = some (.int .i64 0) := (blk_cell BK108.out 1).trans rfl; have hfcz50_1 := blk_frozen BK108.out 1; have hcz50_2 : w44.cell? ⟨gb108, 2, none⟩ = some (.int .i64 0) := (blk_cell BK108.out 2).trans rfl; have hfcz50_2 := blk_frozen BK108.out 2; have hcz50_3 : w44.cell? ⟨gb108, 3, none⟩ = some (.bool false) := (blk_cell BK108.out 3).trans rfl; have hfcz50_3 := blk_frozen BK108.out 3; have hcz50_4 : w44.cell? ⟨gb108, 4, none⟩ = some (.int .i64 0) := (blk_cell BK108.out 4).trans rfl; have hfcz50_4 := blk_frozen BK108.out 4))
              refine bodyPost_ret (results_ct rfl _ _ gb108 33 #[.int .i64 t122, .int .i64 t123, .int .i64 t124, .bool true, .int .i64 t126] (0, 0) _ rfl (by (with_reducible repeat (first | refine blk_drewN ?_ _ | refine blk_drew ?_ | refine blk_alloc ?_ _)); refine blk_put (cs := #[.int .i64 t122, .int .i64 t123, .int .i64 t124, .bool true, .int .i64 0]) ?_ 4 _ rfl; (with_reducible repeat (first | refine blk_drewN ?_ _ | refine blk_drew ?_ | refine blk_alloc ?_ _)); refine blk_put (cs := #[.int .i64 t122, .int .i64 t123, .int .i64 t124, .bool false, .int .i64 0]) ?_ 3 _ rfl; (with_reducible repeat (first | refine blk_drewN ?_ _ | refine blk_drew ?_ | refine blk_alloc ?_ _)); refine blk_put (cs := #[.int .i64 t122, .int .i64 t123, .int .i64 0, .bool false, .int .i64 0]) ?_ 2 _ rfl; (with_reducible repeat (first | refine blk_drewN ?_ _ | refine blk_drew ?_ | refine blk_alloc ?_ _)); refine blk_put (cs := #[.int .i64 t122, .int .i64 0, .int .i64 0, .bool false, .int .i64 0]) ?_ 1 _ rfl; (with_reducible repeat (first | refine blk_drewN ?_ _ | refine blk_drew ?_ | refine blk_alloc ?_ _)); refine blk_put (cs := #[.int .i64 0, .int .i64 0, .int .i64 0, .bool false, .int .i64 0]) ?_ 0 _ rfl; (with_reducible repeat (first | refine blk_drewN ?_ _ | refine blk_drew ?_ | refine blk_alloc ?_ _)); exact BK108.out) Try.underlying33 rfl (by kernel_rfl)) rfl ?_
              exact ⟨by first | rfl | (simp [errW_none, errW_some] <;> rfl) | (simp only [← hji6, ← hji22, ← hji23]; first | rfl | (simp [errW_none, errW_some] <;> rfl)) | (simp [*, errW_none, errW_some] <;> rfl), by repeat (first | (with_reducible first | exact HB.out | apply below_alloc | apply pw_below_drewN | apply below_drew1 | refine below_set ?_ GE107.out | refine below_set ?_ GE108.out) | exact HB.out)⟩
            · rw [if_neg c42] at H
              have c42b0 : (a3 == 77) = false := beq_eq_false_iff_ne.mpr c42
              have c42b1 : (a3 != 77) = true := bne_iff_ne.mpr c42
              simp only [Option.some.injEq, Prod.mk.injEq] at H
              obtain ⟨rfl, rfl, rfl, rfl, rfl, rfl⟩ := H
              have hnb51 := NB108_107.out
              have hnc51 := NB107_108.out
              have hcz52_0 : wc.cell? ⟨gb108, 0, none⟩ = some (.int .i64 0) := (blk_cell BK108.out 0).trans rfl
              have hcz52_1 : wc.cell? ⟨gb108, 1, none⟩ = some (.int .i64 0) := (blk_cell BK108.out 1).trans rfl
              have hcz52_2 : wc.cell? ⟨gb108, 2, none⟩ = some (.int .i64 0) := (blk_cell BK108.out 2).trans rfl
              have hcz52_3 : wc.cell? ⟨gb108, 3, none⟩ = some (.bool false) := (blk_cell BK108.out 3).trans rfl
              have hcz52_4 : wc.cell? ⟨gb108, 4, none⟩ = some (.int .i64 0) := (blk_cell BK108.out 4).trans rfl
              have hfz52_0 := blk_frozen BK108.out 0
              have hfz52_1 := blk_frozen BK108.out 1
              have hfz52_2 := blk_frozen BK108.out 2
              have hfz52_3 := blk_frozen BK108.out 3
              have hfz52_4 := blk_frozen BK108.out 4
              go_wp2
              refine bodyPost_ret (results_ct rfl _ _ gb108 33 #[.int .i64 0, .int .i64 0, .int .i64 0, .bool false, .int .i64 0] (0, 0) _ rfl (by (with_reducible repeat (first | refine blk_drewN ?_ _ | refine blk_drew ?_ | refine blk_alloc ?_ _)); refine blk_put (cs := #[.int .i64 0, .int .i64 0, .int .i64 0, .bool false, .int .i64 0]) ?_ 4 _ rfl; (with_reducible repeat (first | refine blk_drewN ?_ _ | refine blk_drew ?_ | refine blk_alloc ?_ _)); refine blk_put (cs := #[.int .i64 0, .int .i64 0, .int .i64 0, .bool false, .int .i64 0]) ?_ 3 _ rfl; (with_reducible repeat (first | refine blk_drewN ?_ _ | refine blk_drew ?_ | refine blk_alloc ?_ _)); refine blk_put (cs := #[.int .i64 0, .int .i64 0, .int .i64 0, .bool false, .int .i64 0]) ?_ 2 _ rfl; (with_reducible repeat (first | refine blk_drewN ?_ _ | refine blk_drew ?_ | refine blk_alloc ?_ _)); refine blk_put (cs := #[.int .i64 0, .int .i64 0, .int .i64 0, .bool false, .int .i64 0]) ?_ 1 _ rfl; (with_reducible repeat (first | refine blk_drewN ?_ _ | refine blk_drew ?_ | refine blk_alloc ?_ _)); refine blk_put (cs := #[.int .i64 0, .int .i64 0, .int .i64 0, .bool false, .int .i64 0]) ?_ 0 _ rfl; (with_reducible repeat (first | refine blk_drewN ?_ _ | refine blk_drew ?_ | refine blk_alloc ?_ _)); exact BK108.out) Try.underlying33 rfl (by kernel_rfl)) rfl ?_
              exact ⟨by first | rfl | (simp [errW_none, errW_some] <;> rfl) | (simp only [← hji6, ← hji22, ← hji23]; first | rfl | (simp [errW_none, errW_some] <;> rfl)) | (simp [*, errW_none, errW_some] <;> rfl), by repeat (first | (with_reducible first | exact HB.out | apply below_alloc | apply pw_below_drewN | apply below_drew1 | refine below_set ?_ GE107.out | refine below_set ?_ GE108.out) | exact HB.out)⟩

end Go.Proofs.Ytngkpgocjeiheaa.V
