/- Texts of the proof of 'CharsMove', merged in build order (part 2 of 4). -/
import Derived.Test.YtdiakjamahdcfaaMCharsMove1
namespace Go.Proofs.Ytdiakjamahdcfaa.V
open Go.RowKit Go.Proofs.YtdiakjamahdcfaaW.PrintWords Go.Proofs.YtdiakjamahdcfaaW.PrintLast Go.Proofs.YtdiakjamahdcfaaW.PrintMore
attribute [local go_sem] max2_int min2_int max_two min_two max_three min_three max_four min_four   -- for this text's walks alone
set_option linter.unusedVariables false
set_option linter.unusedSimpArgs false
attribute [local go_sem high] eqA33

/-! ### foolscaphelp_Text: function 10 -/
def foolscaphelp_Text.f (k : Nat) (l0 : List ByteArray) : Option (Bool) := if (l0.length : Int) > 0 then ((foolscaphelp_Light.f k l0).bind fun t183 => (some t183)) else (some false)
theorem foolscaphelp_Text.mono : ∀ a0 k, LeO (foolscaphelp_Text.f k a0) (foolscaphelp_Text.f (k + 1) a0) := by
  intro a0 k
  unfold foolscaphelp_Text.f
  repeat' first
      | (with_reducible exact foolscaphelp_Light.mono _ _)
      | (with_reducible exact LeO.refl _)
      | (with_reducible exact LeO.none _)
      | (with_reducible refine LeO.ite ?_ ?_)
      | (with_reducible refine LeO.bind ?_ (fun _ => ?_))
      | exact foolscaphelp_Light.mono _ _
      | exact LeO.none _
      | refine LeO.ite ?_ ?_
      | refine LeO.bind ?_ (fun _ => ?_)
set_option maxHeartbeats 8000000 in
set_option maxRecDepth 100000 in
theorem foolscaphelp_Text.calls (k : Nat) (A0 : Option Addr) (c0 : Nat) (l0 : List ByteArray) (r : Bool) (w : World) (hr0 : Kd.C Kd.string w A0 l0.length l0) (hc0 : l0.length ≤ c0) (h : foolscaphelp_Text.f k l0 = some r) :
    Calls Try.prog 10 #[.slice A0 l0.length c0] w fun e w' => e = .returned (.bool r) ∧ Drawn0 w w' := by
  have HR0 := Aside0.mk hr0
  have HC0 := Aside0.mk hc0
  clear hr0 hc0
  have H : (if (l0.length : Int) > 0 then ((foolscaphelp_Light.f k l0).bind fun t183 => (some t183)) else (some false)) = some r := h
  clear h
  by_cases c2 : (l0.length : Int) > 0
  · rw [if_pos c2] at H
    have c2b0 : decide (0 < (l0.length : Int)) = true := decide_eq_true c2
    have c2b1 : decide (0 < l0.length) = true := decide_eq_true (by omega)
    clear c2
    replace H := Option.bind_eq_some_iff.mp H
    obtain ⟨t183, A30, H⟩ := H
    replace H : (some t183) = some r := H
    have A3 := Aside0.mk A30
    clear A30
    obtain rfl := Option.some.inj H
    go_enter Try.func10, Try.ntmps10
    go_wp2_with (first | (go_at_call 27; (with_reducible refine (foolscaphelp_Light.calls k _ _ l0 t183 _ ?side1 ?side2 A3.out).mono ?_); (case side1 => repeat (first | exact HR0.out | (with_reducible refine Kd.C_alloc ?_ _) | (with_reducible refine Kd.C_drewN ?_ _) | (with_reducible refine Kd.C_drew ?_))); (case side2 => exact HC0.out); rintro e w' ⟨rfl, ⟨nd, rfl⟩⟩))
    go_ret
    exact ⟨by first | rfl | (simp; done) | (simp [*]; done), by repeat (first | exact Drawn0.refl _ | apply Drawn0.step)⟩
  · rw [if_neg c2] at H
    have c2b0 : decide (0 < (l0.length : Int)) = false := decide_eq_false c2
    have c2b1 : decide (0 < l0.length) = false := decide_eq_false (by omega)
    clear c2
    obtain rfl := Option.some.inj H
    go_enter Try.func10, Try.ntmps10
    go_wp2
    go_ret
    exact ⟨by first | rfl | (simp; done) | (simp [*]; done), by repeat (first | exact Drawn0.refl _ | apply Drawn0.step)⟩

end Go.Proofs.Ytdiakjamahdcfaa.V
namespace Go.Proofs.Ytdiakjamahdcfaa.V
open Go.RowKit Go.Proofs.YtdiakjamahdcfaaW.PrintWords Go.Proofs.YtdiakjamahdcfaaW.PrintLast Go.Proofs.YtdiakjamahdcfaaW.PrintMore
attribute [local go_sem] max2_int min2_int max_two min_two max_three min_three max_four min_four   -- for this text's walks alone
set_option linter.unusedVariables false
set_option linter.unusedSimpArgs false

/-! ### foolscapseat_Place: function 11 -/
def foolscapseat_Place.f (l0 : List ByteArray) (a1 : Int) (a2 : Int) : Option (Int × Int) := if (l0.length : Int) = 0 then (none) else (if 0 ≤ (Int.tmod (wrap64 (a1)) (l0.length : Int)) then (if (Int.tmod (wrap64 (a1)) (l0.length : Int)) < (l0.length : Int) then (if (wrap64 (((rdOf ByteArray.empty l0 (Int.tmod (wrap64 (a1)) (l0.length : Int))).size : Int) + 1)) = 0 then (none) else (some (Int.tmod (wrap64 (a1)) (l0.length : Int), Int.tmod (wrap64 (a2)) (wrap64 (((rdOf ByteArray.empty l0 (Int.tmod (wrap64 (a1)) (l0.length : Int))).size : Int) + 1))))) else (none)) else (none))
set_option maxHeartbeats 8000000 in
set_option maxRecDepth 100000 in
theorem foolscapseat_Place.calls (A0 : Option Addr) (c0 : Nat) (l0 : List ByteArray) (a1 : Int) (a2 : Int) (r1 : Int) (r2 : Int) (w : World) (hr0 : Kd.C Kd.string w A0 l0.length l0) (hc0 : l0.length ≤ c0) (h : foolscapseat_Place.f l0 a1 a2 = some (r1, r2)) :
    Calls Try.prog 11 #[.slice A0 l0.length c0, .int .u16 a1, .int .u16 a2] w fun e w' => e = .returned (.agg #[.int .i64 r1, .int .i64 r2]) ∧ Below w.heap.size w w' := by
  have hu24 := Try.underlying24
  have HR0 := Aside0.mk hr0
  have HC0 := Aside0.mk hc0
  clear hr0 hc0
  have HB := Aside0.mk (Below.refl w.heap.size w)
  have H : (if (l0.length : Int) = 0 then (none) else (if 0 ≤ (Int.tmod (wrap64 (a1)) (l0.length : Int)) then (if (Int.tmod (wrap64 (a1)) (l0.length : Int)) < (l0.length : Int) then (if (wrap64 (((rdOf ByteArray.empty l0 (Int.tmod (wrap64 (a1)) (l0.length : Int))).size : Int) + 1)) = 0 then (none) else (some (Int.tmod (wrap64 (a1)) (l0.length : Int), Int.tmod (wrap64 (a2)) (wrap64 (((rdOf ByteArray.empty l0 (Int.tmod (wrap64 (a1)) (l0.length : Int))).size : Int) + 1))))) else (none)) else (none))) = some (r1, r2) := h
  clear h
  by_cases c4 : (l0.length : Int) = 0
  · rw [if_pos c4] at H
    exact absurd H (by simp)
  · rw [if_neg c4] at H
    have c4b0 : ((l0.length : Int) == 0) = false := beq_eq_false_iff_ne.mpr c4
    have c4b1 : ((l0.length : Int) != 0) = true := bne_iff_ne.mpr c4
    have c4b2 : ¬ (l0 = []) := fun h_ => c4 (by rw [h_]; rfl)
    obtain ⟨ji5, hji5⟩ : ∃ j_ : Int, (Int.tmod (wrap64 (a1)) (l0.length : Int)) = j_ := ⟨_, rfl⟩
    replace H : (if 0 ≤ (ji5) then (if (ji5) < (l0.length : Int) then (if (wrap64 (((rdOf ByteArray.empty l0 (ji5)).size : Int) + 1)) = 0 then (none) else (some (ji5, Int.tmod (wrap64 (a2)) (wrap64 (((rdOf ByteArray.empty l0 (ji5)).size : Int) + 1))))) else (none)) else (none)) = some (r1, r2) := by first | (rw [hji5] at H; exact H) | (simp only [hji5] at H ⊢; exact H)
    by_cases c6 : 0 ≤ (ji5)
    · rw [if_pos c6] at H
      have c6b0 : decide (0 ≤ (ji5)) = true := decide_eq_true c6
      clear c6
      by_cases c7 : (ji5) < (l0.length : Int)
      · rw [if_pos c7] at H
        have c7b0 : decide ((ji5) < (l0.length : Int)) = true := decide_eq_true c7
        clear c7
        by_cases c8 : (wrap64 (((rdOf ByteArray.empty l0 (ji5)).size : Int) + 1)) = 0
        · rw [if_pos c8] at H
          exact absurd H (by simp)
        · rw [if_neg c8] at H
          have c8b0 : ((wrap64 (((rdOf ByteArray.empty l0 (ji5)).size : Int) + 1)) == 0) = false := beq_eq_false_iff_ne.mpr c8
          have c8b1 : ((wrap64 (((rdOf ByteArray.empty l0 (ji5)).size : Int) + 1)) != 0) = true := bne_iff_ne.mpr c8
          simp only [Option.some.injEq, Prod.mk.injEq] at H
          obtain ⟨rfl, rfl⟩ := H
          go_enter Try.func11, Try.ntmps11
          go_wp2_with (first | ((with_reducible refine gate_dst (N := 6) rfl ?_); refine box_event ?hg (N := 6) ?hd (cs := #[.int .i64 0, .int .i64 0]) (t := 24) ?hr ?_; (case hd => rfl); (case hg => rfl); (case hr => first | (go_simp; done) | (go_simp; rfl)); intro gb184 hg w9 hbox hb; have n0_ := Aside0.mk (below_step (by repeat (first | (with_reducible first | exact HB.out | apply below_alloc | apply pw_below_drewN | apply below_drew1) | exact HB.out)) hb); have n1_ := Aside0.mk (hbox); have n2_ := Aside0.mk ((by rw [hg]; exact (below_size (by repeat (first | (with_reducible first | exact HB.out | apply below_alloc | apply pw_below_drewN | apply below_drew1) | exact HB.out))) : w.heap.size ≤ gb184)); have n3_ := Aside0.mk ((by rw [hg]; exact (below_size (by repeat (first | (with_reducible first | exact HB.out | apply below_alloc | apply pw_below_drewN | apply below_drew1) | exact HB.out))) : w.heap.size ≤ gb184)); clear HB; have HB := n0_; have BK184 := n1_; have GW184 := n2_; have GE184 := n3_; clear n0_ n1_ n2_ n3_; clear hb hbox hg; have p185 : 0 ≤ ((ji5) : Int) := of_decide_eq_true (by first | (with_reducible assumption) | assumption); have q185 : (ji5) < (l0.length : Int) := of_decide_eq_true (by first | (with_reducible assumption) | assumption); obtain ⟨ad185, e185, hx185_0⟩ := Kd.at_string HR0.out (ji5) p185 q185; cases e185; replace hx185_0 := (HB.out.cell (World.block_lt_of_cell? w _ hx185_0)).trans hx185_0; replace p185 := eq_true p185; replace q185 := eq_true q185; have hcz10_0 : w9.cell? ⟨gb184, 0, none⟩ = some (.int .i64 0) := (blk_cell BK184.out 0).trans rfl; have hcz10_1 : w9.cell? ⟨gb184, 1, none⟩ = some (.int .i64 0) := (blk_cell BK184.out 1).trans rfl; have hfz10_0 := blk_frozen BK184.out 0; have hfz10_1 := blk_frozen BK184.out 1))
          refine bodyPost_ret (results_cell_row rfl _ _ gb184 24 #[.int .i64 ji5, .int .i64 (Int.tmod (wrap64 (a2)) (wrap64 (((rdOf ByteArray.empty l0 (ji5)).size : Int) + 1)))] (0, 0) _ rfl (by (with_reducible repeat (first | refine blk_drewN ?_ _ | refine blk_drew ?_ | refine blk_alloc ?_ _)); refine blk_put (cs := #[.int .i64 ji5, .int .i64 0]) ?_ 1 _ rfl; (with_reducible repeat (first | refine blk_drewN ?_ _ | refine blk_drew ?_ | refine blk_alloc ?_ _)); refine blk_put (cs := #[.int .i64 0, .int .i64 0]) ?_ 0 _ rfl; (with_reducible repeat (first | refine blk_drewN ?_ _ | refine blk_drew ?_ | refine blk_alloc ?_ _)); exact BK184.out) Try.underlying24 rfl (by kernel_rfl)) rfl ?_
          exact ⟨by first | rfl | (simp [errW_none, errW_some] <;> rfl) | (simp only [← hji5]; first | rfl | (simp [errW_none, errW_some] <;> rfl)) | (simp [*, errW_none, errW_some] <;> rfl), by repeat (first | (with_reducible first | exact HB.out | apply below_alloc | apply pw_below_drewN | apply below_drew1 | refine below_set ?_ GE184.out) | exact HB.out)⟩
      · rw [if_neg c7] at H
        exact absurd H (by simp)
    · rw [if_neg c6] at H
      exact absurd H (by simp)

end Go.Proofs.Ytdiakjamahdcfaa.V
namespace Go.Proofs.Ytdiakjamahdcfaa.V
open Go.RowKit Go.Proofs.YtdiakjamahdcfaaW.PrintWords Go.Proofs.YtdiakjamahdcfaaW.PrintLast Go.Proofs.YtdiakjamahdcfaaW.PrintMore
attribute [local go_sem] max2_int min2_int max_two min_two max_three min_three max_four min_four   -- for this text's walks alone
set_option linter.unusedVariables false
set_option linter.unusedSimpArgs false
attribute [local go_sem high] eqA33

/-! ### foolscaplaw7_same: function 14 -/
def foolscaplaw7_same.f (a0_0 : Int) (a0_1 : Int) (a0_2 : Int) (a0_3 : Bool) (a0_4 : Int) (a1 : Bool) (a2_0 : Int) (a2_1 : Int) (a2_2 : Int) (a2_3 : Bool) (a2_4 : Int) (a3 : Bool) : Option (Bool) := if ((a0_0 == a2_0 && (a0_1 == a2_1)) && (a0_2 == a2_2 && (a0_3 == a2_3 && (a0_4 == a2_4)))) = true then (some (a1 == a3)) else (some false)
set_option maxHeartbeats 8000000 in
set_option maxRecDepth 100000 in
theorem foolscaplaw7_same.calls (a0_0 : Int) (a0_1 : Int) (a0_2 : Int) (a0_3 : Bool) (a0_4 : Int) (a1 : Bool) (a2_0 : Int) (a2_1 : Int) (a2_2 : Int) (a2_3 : Bool) (a2_4 : Int) (a3 : Bool) (r : Bool) (w : World) (h : foolscaplaw7_same.f a0_0 a0_1 a0_2 a0_3 a0_4 a1 a2_0 a2_1 a2_2 a2_3 a2_4 a3 = some r) :
    Calls Try.prog 14 #[.agg #[.int .i64 a0_0, .int .i64 a0_1, .int .i64 a0_2, .bool a0_3, .int .i64 a0_4], .bool a1, .agg #[.int .i64 a2_0, .int .i64 a2_1, .int .i64 a2_2, .bool a2_3, .int .i64 a2_4], .bool a3] w fun e w' => e = .returned (.bool r) ∧ Below w.heap.size w w' := by
  have hu33 := Try.underlying33
  have HB := Aside0.mk (Below.refl w.heap.size w)
  have H : (if ((a0_0 == a2_0 && (a0_1 == a2_1)) && (a0_2 == a2_2 && (a0_3 == a2_3 && (a0_4 == a2_4)))) = true then (some (a1 == a3)) else (some false)) = some r := h
  clear h
  by_cases c5 : ((a0_0 == a2_0 && (a0_1 == a2_1)) && (a0_2 == a2_2 && (a0_3 == a2_3 && (a0_4 == a2_4)))) = true
  · rw [if_pos c5] at H
    have c5b0 : ((a0_0 == a2_0 && (a0_1 == a2_1)) && (a0_2 == a2_2 && (a0_3 == a2_3 && (a0_4 == a2_4)))) = true := c5
    clear c5
    obtain rfl := Option.some.inj H
    go_enter Try.func14, Try.ntmps14
    go_wp2_with (first | ((with_reducible refine gate_dst (N := 4) rfl ?_); refine box_event ?hg (N := 4) ?hd (cs := #[.int .i64 a0_0, .int .i64 a0_1, .int .i64 a0_2, .bool a0_3, .int .i64 a0_4]) (t := 33) ?hr ?_; (case hd => rfl); (case hg => rfl); (case hr => first | (go_simp; done) | (go_simp; rfl)); intro gb215 hg w6 hbox hb; have n0_ := Aside0.mk (below_step (by repeat (first | (with_reducible first | exact HB.out | apply below_alloc | apply pw_below_drewN | apply below_drew1) | exact HB.out)) hb); have n1_ := Aside0.mk (hbox); have n2_ := Aside0.mk ((by rw [hg]; exact (below_size (by repeat (first | (with_reducible first | exact HB.out | apply below_alloc | apply pw_below_drewN | apply below_drew1) | exact HB.out))) : w.heap.size ≤ gb215)); have n3_ := Aside0.mk ((by rw [hg]; exact (below_size (by repeat (first | (with_reducible first | exact HB.out | apply below_alloc | apply pw_below_drewN | apply below_drew1) | exact HB.out))) : w.heap.size ≤ gb215)); clear HB; have HB := n0_; have BK215 := n1_; have GW215 := n2_; have GE215 := n3_; clear n0_ n1_ n2_ n3_; clear hb hbox hg) | ((with_reducible refine gate_dst (N := 6) rfl ?_); refine box_event ?hg (N := 6) ?hd (cs := #[.int .i64 a2_0, .int .i64 a2_1, .int .i64 a2_2, .bool a2_3, .int .i64 a2_4]) (t := 33) ?hr ?_; (case hd => rfl); (case hg => rfl); (case hr => first | (go_simp; done) | (go_simp; rfl)); intro gb216 hg w7 hbox hb; have n0_ := Aside0.mk (blk_below (g := gb215) (o := .cells #[.int .i64 a0_0, .int .i64 a0_1, .int .i64 a0_2, .bool a0_3, .int .i64 a0_4] 33 (0, 0)) (by (with_reducible repeat (first | refine blk_drewN ?_ _ | refine blk_drew ?_ | refine blk_alloc ?_ _)); exact BK215.out) hb); have n1_ := Aside0.mk (below_step (by repeat (first | (with_reducible first | exact HB.out | apply below_alloc | apply pw_below_drewN | apply below_drew1 | refine below_set ?_ GE215.out) | exact HB.out)) hb); have n2_ := Aside0.mk (hbox); have n3_ := Aside0.mk ((by rw [hg]; exact (below_size (by repeat (first | (with_reducible first | exact HB.out | apply below_alloc | apply pw_below_drewN | apply below_drew1 | refine below_set ?_ GE215.out) | exact HB.out))) : w.heap.size ≤ gb216)); have n4_ := Aside0.mk ((by rw [hg]; exact (below_size (by repeat (first | (with_reducible first | exact HB.out | apply below_alloc | apply pw_below_drewN | apply below_drew1 | refine below_set ?_ GE215.out) | exact HB.out))) : w.heap.size ≤ gb216)); have n5_ := Aside0.mk ((by rw [hg]; exact Nat.ne_of_lt (blk_lt (g := gb215) (o := .cells #[.int .i64 a0_0, .int .i64 a0_1, .int .i64 a0_2, .bool a0_3, .int .i64 a0_4] 33 (0, 0)) (by (with_reducible repeat (first | refine blk_drewN ?_ _ | refine blk_drew ?_ | refine blk_alloc ?_ _)); exact BK215.out)) : gb215 ≠ gb216)); have n6_ := Aside0.mk ((by rw [hg]; exact Nat.ne_of_gt (blk_lt (g := gb215) (o := .cells #[.int .i64 a0_0, .int .i64 a0_1, .int .i64 a0_2, .bool a0_3, .int .i64 a0_4] 33 (0, 0)) (by (with_reducible repeat (first | refine blk_drewN ?_ _ | refine blk_drew ?_ | refine blk_alloc ?_ _)); exact BK215.out)) : gb216 ≠ gb215)); clear BK215; clear HB; have BK215 := n0_; have HB := n1_; have BK216 := n2_; have GW216 := n3_; have GE216 := n4_; have NB215_216 := n5_; have NB216_215 := n6_; clear n0_ n1_ n2_ n3_ n4_ n5_ n6_; clear hb hbox hg; have hnb8 := NB215_216.out; have hnc8 := NB216_215.out; have hcz9_0 : w7.cell? ⟨gb215, 0, none⟩ = some (.int .i64 a0_0) := (blk_cell BK215.out 0).trans rfl; have hcz9_1 : w7.cell? ⟨gb215, 1, none⟩ = some (.int .i64 a0_1) := (blk_cell BK215.out 1).trans rfl; have hcz9_2 : w7.cell? ⟨gb215, 2, none⟩ = some (.int .i64 a0_2) := (blk_cell BK215.out 2).trans rfl; have hcz9_3 : w7.cell? ⟨gb215, 3, none⟩ = some (.bool a0_3) := (blk_cell BK215.out 3).trans rfl; have hcz9_4 : w7.cell? ⟨gb215, 4, none⟩ = some (.int .i64 a0_4) := (blk_cell BK215.out 4).trans rfl; have hfz9_0 := blk_frozen BK215.out 0; have hfz9_1 := blk_frozen BK215.out 1; have hfz9_2 := blk_frozen BK215.out 2; have hfz9_3 := blk_frozen BK215.out 3; have hfz9_4 := blk_frozen BK215.out 4; have hcz10_0 : w7.cell? ⟨gb216, 0, none⟩ = some (.int .i64 a2_0) := (blk_cell BK216.out 0).trans rfl; have hcz10_1 : w7.cell? ⟨gb216, 1, none⟩ = some (.int .i64 a2_1) := (blk_cell BK216.out 1).trans rfl; have hcz10_2 : w7.cell? ⟨gb216, 2, none⟩ = some (.int .i64 a2_2) := (blk_cell BK216.out 2).trans rfl; have hcz10_3 : w7.cell? ⟨gb216, 3, none⟩ = some (.bool a2_3) := (blk_cell BK216.out 3).trans rfl; have hcz10_4 : w7.cell? ⟨gb216, 4, none⟩ = some (.int .i64 a2_4) := (blk_cell BK216.out 4).trans rfl; have hfz10_0 := blk_frozen BK216.out 0; have hfz10_1 := blk_frozen BK216.out 1; have hfz10_2 := blk_frozen BK216.out 2; have hfz10_3 := blk_frozen BK216.out 3; have hfz10_4 := blk_frozen BK216.out 4))
    go_ret
    exact ⟨by first | rfl | (simp [errW_none, errW_some] <;> rfl) | (simp [*, errW_none, errW_some] <;> rfl), by repeat (first | (with_reducible first | exact HB.out | apply below_alloc | apply pw_below_drewN | apply below_drew1 | refine below_set ?_ GE215.out | refine below_set ?_ GE216.out) | exact HB.out)⟩
  · rw [if_neg c5] at H
    have c5b0 : ((a0_0 == a2_0 && (a0_1 == a2_1)) && (a0_2 == a2_2 && (a0_3 == a2_3 && (a0_4 == a2_4)))) = false := by simpa using c5
    clear c5
    obtain rfl := Option.some.inj H
    go_enter Try.func14, Try.ntmps14
    go_wp2_with (first | ((with_reducible refine gate_dst (N := 4) rfl ?_); refine box_event ?hg (N := 4) ?hd (cs := #[.int .i64 a0_0, .int .i64 a0_1, .int .i64 a0_2, .bool a0_3, .int .i64 a0_4]) (t := 33) ?hr ?_; (case hd => rfl); (case hg => rfl); (case hr => first | (go_simp; done) | (go_simp; rfl)); intro gb215 hg w11 hbox hb; have n0_ := Aside0.mk (below_step (by repeat (first | (with_reducible first | exact HB.out | apply below_alloc | apply pw_below_drewN | apply below_drew1) | exact HB.out)) hb); have n1_ := Aside0.mk (hbox); have n2_ := Aside0.mk ((by rw [hg]; exact (below_size (by repeat (first | (with_reducible first | exact HB.out | apply below_alloc | apply pw_below_drewN | apply below_drew1) | exact HB.out))) : w.heap.size ≤ gb215)); have n3_ := Aside0.mk ((by rw [hg]; exact (below_size (by repeat (first | (with_reducible first | exact HB.out | apply below_alloc | apply pw_below_drewN | apply below_drew1) | exact HB.out))) : w.heap.size ≤ gb215)); clear HB; have HB := n0_; have BK215 := n1_; have GW215 := n2_; have GE215 := n3_; clear n0_ n1_ n2_ n3_; clear hb hbox hg) | ((with_reducible refine gate_dst (N := 6) rfl ?_); refine box_event ?hg (N := 6) ?hd (cs := #[.int .i64 a2_0, .int .i64 a2_1, .int .i64 a2_2, .bool a2_3, .int .i64 a2_4]) (t := 33) ?hr ?_; (case hd => rfl); (case hg => rfl); (case hr => first | (go_simp; done) | (go_simp; rfl)); intro gb216 hg w12 hbox hb; have n0_ := Aside0.mk (blk_below (g := gb215) (o := .cells #[.int .i64 a0_0, .int .i64 a0_1, .int .i64 a0_2, .bool a0_3, .int .i64 a0_4] 33 (0, 0)) (by (with_reducible repeat (first | refine blk_drewN ?_ _ | refine blk_drew ?_ | refine blk_alloc ?_ _)); exact BK215.out) hb); have n1_ := Aside0.mk (below_step (by repeat (first | (with_reducible first | exact HB.out | apply below_alloc | apply pw_below_drewN | apply below_drew1 | refine below_set ?_ GE215.out) | exact HB.out)) hb); have n2_ := Aside0.mk (hbox); have n3_ := Aside0.mk ((by rw [hg]; exact (below_size (by repeat (first | (with_reducible first | exact HB.out | apply below_alloc | apply pw_below_drewN | apply below_drew1 | refine below_set ?_ GE215.out) | exact HB.out))) : w.heap.size ≤ gb216)); have n4_ := Aside0.mk ((by rw [hg]; exact (below_size (by repeat (first | (with_reducible first | exact HB.out | apply below_alloc | apply pw_below_drewN | apply below_drew1 | refine below_set ?_ GE215.out) | exact HB.out))) : w.heap.size ≤ gb216)); have n5_ := Aside0.mk ((by rw [hg]; exact Nat.ne_of_lt (blk_lt (g := gb215) (o := .cells #[.int .i64 a0_0, .int .i64 a0_1, .int .i64 a0_2, .bool a0_3, .int .i64 a0_4] 33 (0, 0)) (by (with_reducible repeat (first | refine blk_drewN ?_ _ | refine blk_drew ?_ | refine blk_alloc ?_ _)); exact BK215.out)) : gb215 ≠ gb216)); have n6_ := Aside0.mk ((by rw [hg]; exact Nat.ne_of_gt (blk_lt (g := gb215) (o := .cells #[.int .i64 a0_0, .int .i64 a0_1, .int .i64 a0_2, .bool a0_3, .int .i64 a0_4] 33 (0, 0)) (by (with_reducible repeat (first | refine blk_drewN ?_ _ | refine blk_drew ?_ | refine blk_alloc ?_ _)); exact BK215.out)) : gb216 ≠ gb215)); clear BK215; clear HB; have BK215 := n0_; have HB := n1_; have BK216 := n2_; have GW216 := n3_; have GE216 := n4_; have NB215_216 := n5_; have NB216_215 := n6_; clear n0_ n1_ n2_ n3_ n4_ n5_ n6_; clear hb hbox hg; have hnb13 := NB215_216.out; have hnc13 := NB216_215.out; have hcz14_0 : w12.cell? ⟨gb215, 0, none⟩ = some (.int .i64 a0_0) := (blk_cell BK215.out 0).trans rfl; have hcz14_1 : w12.cell? ⟨gb215, 1, none⟩ = some (.int .i64 a0_1) := (blk_cell BK215.out 1).trans rfl; have hcz14_2 : w12.cell? ⟨gb215, 2, none⟩ = some (.int .i64 a0_2) := (blk_cell BK215.out 2).trans rfl; have hcz14_3 : w12.cell? ⟨gb215, 3, none⟩ = some (.bool a0_3) := (blk_cell BK215.out 3).trans rfl; have hcz14_4 : w12.cell? ⟨gb215, 4, none⟩ = some (.int .i64 a0_4) := (blk_cell BK215.out 4).trans rfl; have hfz14_0 := blk_frozen BK215.out 0; have hfz14_1 := blk_frozen BK215.out 1; have hfz14_2 := blk_frozen BK215.out 2; have hfz14_3 := blk_frozen BK215.out 3; have hfz14_4 := blk_frozen BK215.out 4; have hcz15_0 : w12.cell? ⟨gb216, 0, none⟩ = some (.int .i64 a2_0) := (blk_cell BK216.out 0).trans rfl; have hcz15_1 : w12.cell? ⟨gb216, 1, none⟩ = some (.int .i64 a2_1) := (blk_cell BK216.out 1).trans rfl; have hcz15_2 : w12.cell? ⟨gb216, 2, none⟩ = some (.int .i64 a2_2) := (blk_cell BK216.out 2).trans rfl; have hcz15_3 : w12.cell? ⟨gb216, 3, none⟩ = some (.bool a2_3) := (blk_cell BK216.out 3).trans rfl; have hcz15_4 : w12.cell? ⟨gb216, 4, none⟩ = some (.int .i64 a2_4) := (blk_cell BK216.out 4).trans rfl; have hfz15_0 := blk_frozen BK216.out 0; have hfz15_1 := blk_frozen BK216.out 1; have hfz15_2 := blk_frozen BK216.out 2; have hfz15_3 := blk_frozen BK216.out 3; have hfz15_4 := blk_frozen BK216.out 4))
    go_ret
    exact ⟨by first | rfl | (simp [errW_none, errW_some] <;> rfl) | (simp [*, errW_none, errW_some] <;> rfl), by repeat (first | (with_reducible first | exact HB.out | apply below_alloc | apply pw_below_drewN | apply below_drew1 | refine below_set ?_ GE215.out | refine below_set ?_ GE216.out) | exact HB.out)⟩

end Go.Proofs.Ytdiakjamahdcfaa.V
namespace Go.Proofs.Ytdiakjamahdcfaa.V
open Go.RowKit Go.Proofs.YtdiakjamahdcfaaW.PrintWords Go.Proofs.YtdiakjamahdcfaaW.PrintLast Go.Proofs.YtdiakjamahdcfaaW.PrintMore
attribute [local go_sem] max2_int min2_int max_two min_two max_three min_three max_four min_four   -- for this text's walks alone
set_option linter.unusedVariables false
set_option linter.unusedSimpArgs false

/-! ### foolscapref5_Place: function 39 -/
def foolscapref5_Place.f (l0 : List ByteArray) (a1_0 : Int) (a1_1 : Int) : Option (Bool) := if a1_0 ≥ 0 then (if a1_0 < (l0.length : Int) then (if a1_1 ≥ 0 then (if 0 ≤ a1_0 then (some (decide (a1_1 ≤ ((rdOf ByteArray.empty l0 a1_0).size : Int)))) else (none)) else (some false)) else (some false)) else (some false)
set_option maxHeartbeats 8000000 in
set_option maxRecDepth 100000 in
theorem foolscapref5_Place.calls (A0 : Option Addr) (c0 : Nat) (l0 : List ByteArray) (a1_0 : Int) (a1_1 : Int) (r : Bool) (w : World) (hr0 : Kd.C Kd.string w A0 l0.length l0) (hc0 : l0.length ≤ c0) (h : foolscapref5_Place.f l0 a1_0 a1_1 = some r) :
    Calls Try.prog 39 #[.slice A0 l0.length c0, .agg #[.int .i64 a1_0, .int .i64 a1_1]] w fun e w' => e = .returned (.bool r) ∧ Below w.heap.size w w' := by
  have hu24 := Try.underlying24
  have HR0 := Aside0.mk hr0
  have HC0 := Aside0.mk hc0
  clear hr0 hc0
  have HB := Aside0.mk (Below.refl w.heap.size w)
  have H : (if a1_0 ≥ 0 then (if a1_0 < (l0.length : Int) then (if a1_1 ≥ 0 then (if 0 ≤ a1_0 then (some (decide (a1_1 ≤ ((rdOf ByteArray.empty l0 a1_0).size : Int)))) else (none)) else (some false)) else (some false)) else (some false)) = some r := h
  clear h
  by_cases c3 : a1_0 ≥ 0
  · rw [if_pos c3] at H
    have c3b0 : decide (0 ≤ a1_0) = true := decide_eq_true c3
    clear c3
    by_cases c4 : a1_0 < (l0.length : Int)
    · rw [if_pos c4] at H
      have c4b0 : decide (a1_0 < (l0.length : Int)) = true := decide_eq_true c4
      clear c4
      by_cases c5 : a1_1 ≥ 0
      · rw [if_pos c5] at H
        have c5b0 : decide (0 ≤ a1_1) = true := decide_eq_true c5
        clear c5
        by_cases c6 : 0 ≤ a1_0
        · rw [if_pos c6] at H
          have c6b0 : decide (0 ≤ a1_0) = true := decide_eq_true c6
          clear c6
          obtain rfl := Option.some.inj H
          go_enter Try.func39, Try.ntmps39
          go_wp2_with (first | ((with_reducible refine gate_dst (N := 3) rfl ?_); (try (refine gate_guard (by rfl) ?_; dsimp only)); refine box_event ?hg (N := 3) ?hd (cs := #[.int .i64 a1_0, .int .i64 a1_1]) (t := 24) ?hr ?_; (case hd => rfl); (case hg => rfl); (case hr => first | (go_simp; done) | (go_simp; rfl)); intro gb186 hg w7 hbox hb; have n0_ := Aside0.mk (below_step (by repeat (first | (with_reducible first | exact HB.out | apply below_alloc | apply pw_below_drewN | apply below_drew1) | exact HB.out)) hb); have n1_ := Aside0.mk (hbox); have n2_ := Aside0.mk ((by rw [hg]; exact (below_size (by repeat (first | (with_reducible first | exact HB.out | apply below_alloc | apply pw_below_drewN | apply below_drew1) | exact HB.out))) : w.heap.size ≤ gb186)); have n3_ := Aside0.mk ((by rw [hg]; exact (below_size (by repeat (first | (with_reducible first | exact HB.out | apply below_alloc | apply pw_below_drewN | apply below_drew1) | exact HB.out))) : w.heap.size ≤ gb186)); clear HB; have HB := n0_; have BK186 := n1_; have GW186 := n2_; have GE186 := n3_; clear n0_ n1_ n2_ n3_; clear hb hbox hg; have hcz8_0 : w7.cell? ⟨gb186, 0, none⟩ = some (.int .i64 a1_0) := (blk_cell BK186.out 0).trans rfl; have hcz8_1 : w7.cell? ⟨gb186, 1, none⟩ = some (.int .i64 a1_1) := (blk_cell BK186.out 1).trans rfl; have hfz8_0 := blk_frozen BK186.out 0; have hfz8_1 := blk_frozen BK186.out 1; have p187 : 0 ≤ (a1_0 : Int) := of_decide_eq_true (by first | (with_reducible assumption) | assumption); have q187 : a1_0 < (l0.length : Int) := of_decide_eq_true (by first | (with_reducible assumption) | assumption); obtain ⟨ad187, e187, hx187_0⟩ := Kd.at_string HR0.out a1_0 p187 q187; cases e187; replace hx187_0 := (HB.out.cell (World.block_lt_of_cell? w _ hx187_0)).trans hx187_0; replace p187 := eq_true p187; replace q187 := eq_true q187))
          repeat (go_quiet (first | ((with_reducible refine gate_dst (N := 3) rfl ?_); (try (refine gate_guard (by rfl) ?_; dsimp only)); refine box_event ?hg (N := 3) ?hd (cs := #[.int .i64 a1_0, .int .i64 a1_1]) (t := 24) ?hr ?_; (case hd => rfl); (case hg => rfl); (case hr => first | (go_simp; done) | (go_simp; rfl)); intro gb186 hg w7 hbox hb; have n0_ := Aside0.mk (below_step (by repeat (first | (with_reducible first | exact HB.out | apply below_alloc | apply pw_below_drewN | apply below_drew1) | exact HB.out)) hb); have n1_ := Aside0.mk (hbox); have n2_ := Aside0.mk ((by rw [hg]; exact (below_size (by repeat (first | (with_reducible first | exact HB.out | apply below_alloc | apply pw_below_drewN | apply below_drew1) | exact HB.out))) : w.heap.size ≤ gb186)); have n3_ := Aside0.mk ((by rw [hg]; exact (below_size (by repeat (first | (with_reducible first | exact HB.out | apply below_alloc | apply pw_below_drewN | apply below_drew1) | exact HB.out))) : w.heap.size ≤ gb186)); clear HB; have HB := n0_; have BK186 := n1_; have GW186 := n2_; have GE186 := n3_; clear n0_ n1_ n2_ n3_; clear hb hbox hg; have hcz8_0 : w7.cell? ⟨gb186, 0, none⟩ = some (.int .i64 a1_0) := (blk_cell BK186.out 0).trans rfl; have hcz8_1 : w7.cell? ⟨gb186, 1, none⟩ = some (.int .i64 a1_1) := (blk_cell BK186.out 1).trans rfl; have hfz8_0 := blk_frozen BK186.out 0; have hfz8_1 := blk_frozen BK186.out 1; have p187 : 0 ≤ (a1_0 : Int) := of_decide_eq_true (by first | (with_reducible assumption) | assumption); have q187 : a1_0 < (l0.length : Int) := of_decide_eq_true (by first | (with_reducible assumption) | assumption); obtain ⟨ad187, e187, hx187_0⟩ := Kd.at_string HR0.out a1_0 p187 q187; cases e187; replace hx187_0 := (HB.out.cell (World.block_lt_of_cell? w _ hx187_0)).trans hx187_0; replace p187 := eq_true p187; replace q187 := eq_true q187)); try go_wp2_with (first | ((with_reducible refine gate_dst (N := 3) rfl ?_); (try (refine gate_guard (by rfl) ?_; dsimp only)); refine box_event ?hg (N := 3) ?hd (cs := #[.int .i64 a1_0, .int .i64 a1_1]) (t := 24) ?hr ?_; (case hd => rfl); (case hg => rfl); (case hr => first | (go_simp; done) | (go_simp; rfl)); intro gb186 hg w7 hbox hb; have n0_ := Aside0.mk (below_step (by repeat (first | (with_reducible first | exact HB.out | apply below_alloc | apply pw_below_drewN | apply below_drew1) | exact HB.out)) hb); have n1_ := Aside0.mk (hbox); have n2_ := Aside0.mk ((by rw [hg]; exact (below_size (by repeat (first | (with_reducible first | exact HB.out | apply below_alloc | apply pw_below_drewN | apply below_drew1) | exact HB.out))) : w.heap.size ≤ gb186)); have n3_ := Aside0.mk ((by rw [hg]; exact (below_size (by repeat (first | (with_reducible first | exact HB.out | apply below_alloc | apply pw_below_drewN | apply below_drew1) | exact HB.out))) : w.heap.size ≤ gb186)); clear HB; have HB := n0_; have BK186 := n1_; have GW186 := n2_; have GE186 := n3_; clear n0_ n1_ n2_ n3_; clear hb hbox hg; have hcz8_0 : w7.cell? ⟨gb186, 0, none⟩ = some (.int .i64 a1_0) := (blk_cell BK186.out 0).trans rfl; have hcz8_1 : w7.cell? ⟨gb186, 1, none⟩ = some (.int .i64 a1_1) := (blk_cell BK186.out 1).trans rfl; have hfz8_0 := blk_frozen BK186.out 0; have hfz8_1 := blk_frozen BK186.out 1; have p187 : 0 ≤ (a1_0 : Int) := of_decide_eq_true (by first | (with_reducible assumption) | assumption); have q187 : a1_0 < (l0.length : Int) := of_decide_eq_true (by first | (with_reducible assumption) | assumption); obtain ⟨ad187, e187, hx187_0⟩ := Kd.at_string HR0.out a1_0 p187 q187; cases e187; replace hx187_0 := (HB.out.cell (World.block_lt_of_cell? w _ hx187_0)).trans hx187_0; replace p187 := eq_true p187; replace q187 := eq_true q187)))
          go_ret
          exact ⟨by first | rfl | (simp [errW_none, errW_some] <;> rfl) | (simp [*, errW_none, errW_some] <;> rfl), by repeat (first | (with_reducible first | exact HB.out | apply below_alloc | apply pw_below_drewN | apply below_drew1 | refine below_set ?_ GE186.out) | exact HB.out)⟩
        · rw [if_neg c6] at H
          exact absurd H (by simp)
      · rw [if_neg c5] at H
        have c5b0 : decide (0 ≤ a1_1) = false := decide_eq_false c5
        clear c5
        obtain rfl := Option.some.inj H
        go_enter Try.func39, Try.ntmps39
        go_wp2_with (first | ((with_reducible refine gate_dst (N := 3) rfl ?_); (try (refine gate_guard (by rfl) ?_; dsimp only)); refine box_event ?hg (N := 3) ?hd (cs := #[.int .i64 a1_0, .int .i64 a1_1]) (t := 24) ?hr ?_; (case hd => rfl); (case hg => rfl); (case hr => first | (go_simp; done) | (go_simp; rfl)); intro gb186 hg w9 hbox hb; have n0_ := Aside0.mk (below_step (by repeat (first | (with_reducible first | exact HB.out | apply below_alloc | apply pw_below_drewN | apply below_drew1) | exact HB.out)) hb); have n1_ := Aside0.mk (hbox); have n2_ := Aside0.mk ((by rw [hg]; exact (below_size (by repeat (first | (with_reducible first | exact HB.out | apply below_alloc | apply pw_below_drewN | apply below_drew1) | exact HB.out))) : w.heap.size ≤ gb186)); have n3_ := Aside0.mk ((by rw [hg]; exact (below_size (by repeat (first | (with_reducible first | exact HB.out | apply below_alloc | apply pw_below_drewN | apply below_drew1) | exact HB.out))) : w.heap.size ≤ gb186)); clear HB; have HB := n0_; have BK186 := n1_; have GW186 := n2_; have GE186 := n3_; clear n0_ n1_ n2_ n3_; clear hb hbox hg; have hcz10_0 : w9.cell? ⟨gb186, 0, none⟩ = some (.int .i64 a1_0) := (blk_cell BK186.out 0).trans rfl; have hcz10_1 : w9.cell? ⟨gb186, 1, none⟩ = some (.int .i64 a1_1) := (blk_cell BK186.out 1).trans rfl; have hfz10_0 := blk_frozen BK186.out 0; have hfz10_1 := blk_frozen BK186.out 1))
        repeat (go_quiet (first | ((with_reducible refine gate_dst (N := 3) rfl ?_); (try (refine gate_guard (by rfl) ?_; dsimp only)); refine box_event ?hg (N := 3) ?hd (cs := #[.int .i64 a1_0, .int .i64 a1_1]) (t := 24) ?hr ?_; (case hd => rfl); (case hg => rfl); (case hr => first | (go_simp; done) | (go_simp; rfl)); intro gb186 hg w9 hbox hb; have n0_ := Aside0.mk (below_step (by repeat (first | (with_reducible first | exact HB.out | apply below_alloc | apply pw_below_drewN | apply below_drew1) | exact HB.out)) hb); have n1_ := Aside0.mk (hbox); have n2_ := Aside0.mk ((by rw [hg]; exact (below_size (by repeat (first | (with_reducible first | exact HB.out | apply below_alloc | apply pw_below_drewN | apply below_drew1) | exact HB.out))) : w.heap.size ≤ gb186)); have n3_ := Aside0.mk ((by rw [hg]; exact (below_size (by repeat (first | (with_reducible first | exact HB.out | apply below_alloc | apply pw_below_drewN | apply below_drew1) | exact HB.out))) : w.heap.size ≤ gb186)); clear HB; have HB := n0_; have BK186 := n1_; have GW186 := n2_; have GE186 := n3_; clear n0_ n1_ n2_ n3_; clear hb hbox hg; have hcz10_0 : w9.cell? ⟨gb186, 0, none⟩ = some (.int .i64 a1_0) := (blk_cell BK186.out 0).trans rfl; have hcz10_1 : w9.cell? ⟨gb186, 1, none⟩ = some (.int .i64 a1_1) := (blk_cell BK186.out 1).trans rfl; have hfz10_0 := blk_frozen BK186.out 0; have hfz10_1 := blk_frozen BK186.out 1)); try go_wp2_with (first | ((with_reducible refine gate_dst (N := 3) rfl ?_); (try (refine gate_guard (by rfl) ?_; dsimp only)); refine box_event ?hg (N := 3) ?hd (cs := #[.int .i64 a1_0, .int .i64 a1_1]) (t := 24) ?hr ?_; (case hd => rfl); (case hg => rfl); (case hr => first | (go_simp; done) | (go_simp; rfl)); intro gb186 hg w9 hbox hb; have n0_ := Aside0.mk (below_step (by repeat (first | (with_reducible first | exact HB.out | apply below_alloc | apply pw_below_drewN | apply below_drew1) | exact HB.out)) hb); have n1_ := Aside0.mk (hbox); have n2_ := Aside0.mk ((by rw [hg]; exact (below_size (by repeat (first | (with_reducible first | exact HB.out | apply below_alloc | apply pw_below_drewN | apply below_drew1) | exact HB.out))) : w.heap.size ≤ gb186)); have n3_ := Aside0.mk ((by rw [hg]; exact (below_size (by repeat (first | (with_reducible first | exact HB.out | apply below_alloc | apply pw_below_drewN | apply below_drew1) | exact HB.out))) : w.heap.size ≤ gb186)); clear HB; have HB := n0_; have BK186 := n1_; have GW186 := n2_; have GE186 := n3_; clear n0_ n1_ n2_ n3_; clear hb hbox hg; have hcz10_0 : w9.cell? ⟨gb186, 0, none⟩ = some (.int .i64 a1_0) := (blk_cell BK186.out 0).trans rfl; have hcz10_1 : w9.cell? ⟨gb186, 1, none⟩ = some (.int .i64 a1_1) := (blk_cell BK186.out 1).trans rfl; have hfz10_0 := blk_frozen BK186.out 0; have hfz10_1 := blk_frozen BK186.out 1)))
        go_ret
        exact ⟨by first | rfl | (simp [errW_none, errW_some] <;> rfl) | (simp [*, errW_none, errW_some] <;> rfl), by repeat (first | (with_reducible first | exact HB.out | apply below_alloc | apply pw_below_drewN | apply below_drew1 | refine below_set ?_ GE186.out) | exact HB.out)⟩
    · rw [if_neg c4] at H
      have c4b0 : decide (a1_0 < (l0.length : Int)) = false := decide_eq_false c4
      clear c4
      obtain rfl := Option.some.inj H
      go_enter Try.func39, Try.ntmps39
      go_wp2_with (first | ((with_reducible refine gate_dst (N := 3) rfl ?_); (try (refine gate_guard (by rfl) ?_; dsimp only)); refine box_event ?hg (N := 3) ?hd (cs := #[.int .i64 a1_0, .int .i64 a1_1]) (t := 24) ?hr ?_; (case hd => rfl); (case hg => rfl); (case hr => first | (go_simp; done) | (go_simp; rfl)); intro gb186 hg w11 hbox hb; have n0_ := Aside0.mk (below_step (by repeat (first | (with_reducible first | exact HB.out | apply below_alloc | apply pw_below_drewN | apply below_drew1) | exact HB.out)) hb); have n1_ := Aside0.mk (hbox); have n2_ := Aside0.mk ((by rw [hg]; exact (below_size (by repeat (first | (with_reducible first | exact HB.out | apply below_alloc | apply pw_below_drewN | apply below_drew1) | exact HB.out))) : w.heap.size ≤ gb186)); have n3_ := Aside0.mk ((by rw [hg]; exact (below_size (by repeat (first | (with_reducible first | exact HB.out | apply below_alloc | apply pw_below_drewN | apply below_drew1) | exact HB.out))) : w.heap.size ≤ gb186)); clear HB; have HB := n0_; have BK186 := n1_; have GW186 := n2_; have GE186 := n3_; clear n0_ n1_ n2_ n3_; clear hb hbox hg; have hcz12_0 : w11.cell? ⟨gb186, 0, none⟩ = some (.int .i64 a1_0) := (blk_cell BK186.out 0).trans rfl; have hcz12_1 : w11.cell? ⟨gb186, 1, none⟩ = some (.int .i64 a1_1) := (blk_cell BK186.out 1).trans rfl; have hfz12_0 := blk_frozen BK186.out 0; have hfz12_1 := blk_frozen BK186.out 1))
      repeat (go_quiet (first | ((with_reducible refine gate_dst (N := 3) rfl ?_); (try (refine gate_guard (by rfl) ?_; dsimp only)); refine box_event ?hg (N := 3) ?hd (cs := #[.int .i64 a1_0, .int .i64 a1_1]) (t := 24) ?hr ?_; (case hd => rfl); (case hg => rfl); (case hr => first | (go_simp; done) | (go_simp; rfl)); intro gb186 hg w11 hbox hb; have n0_ := Aside0.mk (below_step (by repeat (first | (with_reducible first | exact HB.out | apply below_alloc | apply pw_below_drewN | apply below_drew1) | exact HB.out)) hb); have n1_ := Aside0.mk (hbox); have n2_ := Aside0.mk ((by rw [hg]; exact (below_size (by repeat (first | (with_reducible first | exact HB.out | apply below_alloc | apply pw_below_drewN | apply below_drew1) | exact HB.out))) : w.heap.size ≤ gb186)); have n3_ := Aside0.mk ((by rw [hg]; exact (below_size (by repeat (first | (with_reducible first | exact HB.out | apply below_alloc | apply pw_below_drewN | apply below_drew1) | exact HB.out))) : w.heap.size ≤ gb186)); clear HB; have HB := n0_; have BK186 := n1_; have GW186 := n2_; have GE186 := n3_; clear n0_ n1_ n2_ n3_; clear hb hbox hg; have hcz12_0 : w11.cell? ⟨gb186, 0, none⟩ = some (.int .i64 a1_0) := (blk_cell BK186.out 0).trans rfl; have hcz12_1 : w11.cell? ⟨gb186, 1, none⟩ = some (.int .i64 a1_1) := (blk_cell BK186.out 1).trans rfl; have hfz12_0 := blk_frozen BK186.out 0; have hfz12_1 := blk_frozen BK186.out 1)); try go_wp2_with (first | ((with_reducible refine gate_dst (N := 3) rfl ?_); (try (refine gate_guard (by rfl) ?_; dsimp only)); refine box_event ?hg (N := 3) ?hd (cs := #[.int .i64 a1_0, .int .i64 a1_1]) (t := 24) ?hr ?_; (case hd => rfl); (case hg => rfl); (case hr => first | (go_simp; done) | (go_simp; rfl)); intro gb186 hg w11 hbox hb; have n0_ := Aside0.mk (below_step (by repeat (first | (with_reducible first | exact HB.out | apply below_alloc | apply pw_below_drewN | apply below_drew1) | exact HB.out)) hb); have n1_ := Aside0.mk (hbox); have n2_ := Aside0.mk ((by rw [hg]; exact (below_size (by repeat (first | (with_reducible first | exact HB.out | apply below_alloc | apply pw_below_drewN | apply below_drew1) | exact HB.out))) : w.heap.size ≤ gb186)); have n3_ := Aside0.mk ((by rw [hg]; exact (below_size (by repeat (first | (with_reducible first | exact HB.out | apply below_alloc | apply pw_below_drewN | apply below_drew1) | exact HB.out))) : w.heap.size ≤ gb186)); clear HB; have HB := n0_; have BK186 := n1_; have GW186 := n2_; have GE186 := n3_; clear n0_ n1_ n2_ n3_; clear hb hbox hg; have hcz12_0 : w11.cell? ⟨gb186, 0, none⟩ = some (.int .i64 a1_0) := (blk_cell BK186.out 0).trans rfl; have hcz12_1 : w11.cell? ⟨gb186, 1, none⟩ = some (.int .i64 a1_1) := (blk_cell BK186.out 1).trans rfl; have hfz12_0 := blk_frozen BK186.out 0; have hfz12_1 := blk_frozen BK186.out 1)))
      go_ret
      exact ⟨by first | rfl | (simp [errW_none, errW_some] <;> rfl) | (simp [*, errW_none, errW_some] <;> rfl), by repeat (first | (with_reducible first | exact HB.out | apply below_alloc | apply pw_below_drewN | apply below_drew1 | refine below_set ?_ GE186.out) | exact HB.out)⟩
  · rw [if_neg c3] at H
    have c3b0 : decide (0 ≤ a1_0) = false := decide_eq_false c3
    clear c3
    obtain rfl := Option.some.inj H
    go_enter Try.func39, Try.ntmps39
    go_wp2_with (first | ((with_reducible refine gate_dst (N := 3) rfl ?_); (try (refine gate_guard (by rfl) ?_; dsimp only)); refine box_event ?hg (N := 3) ?hd (cs := #[.int .i64 a1_0, .int .i64 a1_1]) (t := 24) ?hr ?_; (case hd => rfl); (case hg => rfl); (case hr => first | (go_simp; done) | (go_simp; rfl)); intro gb186 hg w13 hbox hb; have n0_ := Aside0.mk (below_step (by repeat (first | (with_reducible first | exact HB.out | apply below_alloc | apply pw_below_drewN | apply below_drew1) | exact HB.out)) hb); have n1_ := Aside0.mk (hbox); have n2_ := Aside0.mk ((by rw [hg]; exact (below_size (by repeat (first | (with_reducible first | exact HB.out | apply below_alloc | apply pw_below_drewN | apply below_drew1) | exact HB.out))) : w.heap.size ≤ gb186)); have n3_ := Aside0.mk ((by rw [hg]; exact (below_size (by repeat (first | (with_reducible first | exact HB.out | apply below_alloc | apply pw_below_drewN | apply below_drew1) | exact HB.out))) : w.heap.size ≤ gb186)); clear HB; have HB := n0_; have BK186 := n1_; have GW186 := n2_; have GE186 := n3_; clear n0_ n1_ n2_ n3_; clear hb hbox hg; have hcz14_0 : w13.cell? ⟨gb186, 0, none⟩ = some (.int .i64 a1_0) := (blk_cell BK186.out 0).trans rfl; have hcz14_1 : w13.cell? ⟨gb186, 1, none⟩ = some (.int .i64 a1_1) := (blk_cell BK186.out 1).trans rfl; have hfz14_0 := blk_frozen BK186.out 0; have hfz14_1 := blk_frozen BK186.out 1))
    repeat (go_quiet (first | ((with_reducible refine gate_dst (N := 3) rfl ?_); (try (refine gate_guard (by rfl) ?_; dsimp only)); refine box_event ?hg (N := 3) ?hd (cs := #[.int .i64 a1_0, .int .i64 a1_1]) (t := 24) ?hr ?_; (case hd => rfl); (case hg => rfl); (case hr => first | (go_simp; done) | (go_simp; rfl)); intro gb186 hg w13 hbox hb; have n0_ := Aside0.mk (below_step (by repeat (first | (with_reducible first | exact HB.out | apply below_alloc | apply pw_below_drewN | apply below_drew1) | exact HB.out)) hb); have n1_ := Aside0.mk (hbox); have n2_ := Aside0.mk ((by rw [hg]; exact (below_size (by repeat (first | (with_reducible first | exact HB.out | apply below_alloc | apply pw_below_drewN | apply below_drew1) | exact HB.out))) : w.heap.size ≤ gb186)); have n3_ := Aside0.mk ((by rw [hg]; exact (below_size (by repeat (first | (with_reducible first | exact HB.out | apply below_alloc | apply pw_below_drewN | apply below_drew1) | exact HB.out))) : w.heap.size ≤ gb186)); clear HB; have HB := n0_; have BK186 := n1_; have GW186 := n2_; have GE186 := n3_; clear n0_ n1_ n2_ n3_; clear hb hbox hg; have hcz14_0 : w13.cell? ⟨gb186, 0, none⟩ = some (.int .i64 a1_0) := (blk_cell BK186.out 0).trans rfl; have hcz14_1 : w13.cell? ⟨gb186, 1, none⟩ = some (.int .i64 a1_1) := (blk_cell BK186.out 1).trans rfl; have hfz14_0 := blk_frozen BK186.out 0; have hfz14_1 := blk_frozen BK186.out 1)); try go_wp2_with (first | ((with_reducible refine gate_dst (N := 3) rfl ?_); (try (refine gate_guard (by rfl) ?_; dsimp only)); refine box_event ?hg (N := 3) ?hd (cs := #[.int .i64 a1_0, .int .i64 a1_1]) (t := 24) ?hr ?_; (case hd => rfl); (case hg => rfl); (case hr => first | (go_simp; done) | (go_simp; rfl)); intro gb186 hg w13 hbox hb; have n0_ := Aside0.mk (below_step (by repeat (first | (with_reducible first | exact HB.out | apply below_alloc | apply pw_below_drewN | apply below_drew1) | exact HB.out)) hb); have n1_ := Aside0.mk (hbox); have n2_ := Aside0.mk ((by rw [hg]; exact (below_size (by repeat (first | (with_reducible first | exact HB.out | apply below_alloc | apply pw_below_drewN | apply below_drew1) | exact HB.out))) : w.heap.size ≤ gb186)); have n3_ := Aside0.mk ((by rw [hg]; exact (below_size (by repeat (first | (with_reducible first | exact HB.out | apply below_alloc | apply pw_below_drewN | apply below_drew1) | exact HB.out))) : w.heap.size ≤ gb186)); clear HB; have HB := n0_; have BK186 := n1_; have GW186 := n2_; have GE186 := n3_; clear n0_ n1_ n2_ n3_; clear hb hbox hg; have hcz14_0 : w13.cell? ⟨gb186, 0, none⟩ = some (.int .i64 a1_0) := (blk_cell BK186.out 0).trans rfl; have hcz14_1 : w13.cell? ⟨gb186, 1, none⟩ = some (.int .i64 a1_1) := (blk_cell BK186.out 1).trans rfl; have hfz14_0 := blk_frozen BK186.out 0; have hfz14_1 := blk_frozen BK186.out 1)))
    go_ret
    exact ⟨by first | rfl | (simp [errW_none, errW_some] <;> rfl) | (simp [*, errW_none, errW_some] <;> rfl), by repeat (first | (with_reducible first | exact HB.out | apply below_alloc | apply pw_below_drewN | apply below_drew1 | refine below_set ?_ GE186.out) | exact HB.out)⟩

end Go.Proofs.Ytdiakjamahdcfaa.V
namespace Go.Proofs.Ytdiakjamahdcfaa.V
open Go.RowKit Go.Proofs.YtdiakjamahdcfaaW.PrintWords Go.Proofs.YtdiakjamahdcfaaW.PrintLast Go.Proofs.YtdiakjamahdcfaaW.PrintMore
attribute [local go_sem] max2_int min2_int max_two min_two max_three min_three max_four min_four   -- for this text's walks alone
set_option linter.unusedVariables false
set_option linter.unusedSimpArgs false

/-! ### foolscapref5_may: function 31 -/
def foolscapref5_may.f (l0 : List ByteArray) (a1_0 : Int) (a1_1 : Int) (a2 : Int) : Option (Bool) := (foolscapref5_Place.f l0 a1_0 a1_1).bind fun t189 => (if t189 = true then (some (decide (a2 ≥ 1))) else (some false))
set_option maxHeartbeats 8000000 in
set_option maxRecDepth 100000 in
theorem foolscapref5_may.calls (A0 : Option Addr) (c0 : Nat) (l0 : List ByteArray) (a1_0 : Int) (a1_1 : Int) (a2 : Int) (r : Bool) (w : World) (hr0 : Kd.C Kd.string w A0 l0.length l0) (hc0 : l0.length ≤ c0) (h : foolscapref5_may.f l0 a1_0 a1_1 a2 = some r) :
    Calls Try.prog 31 #[.slice A0 l0.length c0, .agg #[.int .i64 a1_0, .int .i64 a1_1], .int .i64 a2] w fun e w' => e = .returned (.bool r) ∧ Below w.heap.size w w' := by
  have hu24 := Try.underlying24
  have HR0 := Aside0.mk hr0
  have HC0 := Aside0.mk hc0
  clear hr0 hc0
  have HB := Aside0.mk (Below.refl w.heap.size w)
  have H : ((foolscapref5_Place.f l0 a1_0 a1_1).bind fun t189 => (if t189 = true then (some (decide (a2 ≥ 1))) else (some false))) = some r := h
  clear h
  replace H := Option.bind_eq_some_iff.mp H
  obtain ⟨t189, A40, H⟩ := H
  replace H : (if t189 = true then (some (decide (a2 ≥ 1))) else (some false)) = some r := H
  have A4 := Aside0.mk A40
  clear A40
  by_cases c5 : t189 = true
  · subst c5
    have H1 : (some (decide (a2 ≥ 1))) = some r := by rw [if_pos rfl] at H; exact H
    clear H
    have H := H1
    clear H1
    obtain rfl := Option.some.inj H
    go_enter Try.func31, Try.ntmps31
    go_wp2_with (first | ((with_reducible refine gate_dst (N := 4) rfl ?_); refine box_event ?hg (N := 4) ?hd (cs := #[.int .i64 a1_0, .int .i64 a1_1]) (t := 24) ?hr ?_; (case hd => rfl); (case hg => rfl); (case hr => first | (go_simp; done) | (go_simp; rfl)); intro gb188 hg w6 hbox hb; have n0_ := Aside0.mk (below_step (by repeat (first | (with_reducible first | exact HB.out | apply below_alloc | apply pw_below_drewN | apply below_drew1) | exact HB.out)) hb); have n1_ := Aside0.mk (hbox); have n2_ := Aside0.mk ((by rw [hg]; exact (below_size (by repeat (first | (with_reducible first | exact HB.out | apply below_alloc | apply pw_below_drewN | apply below_drew1) | exact HB.out))) : w.heap.size ≤ gb188)); have n3_ := Aside0.mk ((by rw [hg]; exact (below_size (by repeat (first | (with_reducible first | exact HB.out | apply below_alloc | apply pw_below_drewN | apply below_drew1) | exact HB.out))) : w.heap.size ≤ gb188)); clear HB; have HB := n0_; have BK188 := n1_; have GW188 := n2_; have GE188 := n3_; clear n0_ n1_ n2_ n3_; clear hb hbox hg; have hcz7_0 : w6.cell? ⟨gb188, 0, none⟩ = some (.int .i64 a1_0) := (blk_cell BK188.out 0).trans rfl; have hcz7_1 : w6.cell? ⟨gb188, 1, none⟩ = some (.int .i64 a1_1) := (blk_cell BK188.out 1).trans rfl; have hfz7_0 := blk_frozen BK188.out 0; have hfz7_1 := blk_frozen BK188.out 1) | ((with_reducible refine gate_callee (f := 39) rfl ?_); refine goesL_ (some 9) rfl rfl Try.func39 (by kernel_rfl) rfl #[.slice A0 l0.length c0, .agg #[.int .i64 a1_0, .int .i64 a1_1]] rfl (by (try simp only [List.map_toArray, List.map_cons, List.map_nil]); first | done | rfl | (simp only [List.length_drop, List.length_take]; rfl)) ?_; (with_reducible refine (foolscapref5_Place.calls _ _ l0 a1_0 a1_1 true _ ?side1 ?side2 A4.out).mono ?_); (case side1 => repeat (first | exact (Kd.C_below HR0.out HB.out) | (with_reducible refine Kd.C_alloc ?_ _) | (with_reducible refine Kd.C_drewN ?_ _) | (with_reducible refine Kd.C_drew ?_))); (case side2 => exact HC0.out); rintro e w8 ⟨rfl, hb⟩; refine ⟨_, rfl, ?_⟩; have n0_ := Aside0.mk (blk_below (g := gb188) (o := .cells #[.int .i64 a1_0, .int .i64 a1_1] 24 (0, 0)) (by (with_reducible repeat (first | refine blk_drewN ?_ _ | refine blk_drew ?_ | refine blk_alloc ?_ _)); exact BK188.out) hb); have n1_ := Aside0.mk (below_step (by repeat (first | (with_reducible first | exact HB.out | apply below_alloc | apply pw_below_drewN | apply below_drew1 | refine below_set ?_ GE188.out) | exact HB.out)) hb); clear BK188; clear HB; have BK188 := n0_; have HB := n1_; clear n0_ n1_; (try clear hb); (try clear hb2); (try clear hk); (try clear hi)))
    go_ret
    exact ⟨by first | rfl | (simp [errW_none, errW_some] <;> rfl) | (simp [*, errW_none, errW_some] <;> rfl), by repeat (first | (with_reducible first | exact HB.out | apply below_alloc | apply pw_below_drewN | apply below_drew1 | refine below_set ?_ GE188.out) | exact HB.out)⟩
  · replace c5 := Bool.eq_false_iff.mpr c5
    subst c5
    have H1 : (some false) = some r := by rw [if_neg (show ¬ (false = true) by decide)] at H; exact H
    clear H
    have H := H1
    clear H1
    obtain rfl := Option.some.inj H
    go_enter Try.func31, Try.ntmps31
    go_wp2_with (first | ((with_reducible refine gate_dst (N := 4) rfl ?_); refine box_event ?hg (N := 4) ?hd (cs := #[.int .i64 a1_0, .int .i64 a1_1]) (t := 24) ?hr ?_; (case hd => rfl); (case hg => rfl); (case hr => first | (go_simp; done) | (go_simp; rfl)); intro gb188 hg w9 hbox hb; have n0_ := Aside0.mk (below_step (by repeat (first | (with_reducible first | exact HB.out | apply below_alloc | apply pw_below_drewN | apply below_drew1) | exact HB.out)) hb); have n1_ := Aside0.mk (hbox); have n2_ := Aside0.mk ((by rw [hg]; exact (below_size (by repeat (first | (with_reducible first | exact HB.out | apply below_alloc | apply pw_below_drewN | apply below_drew1) | exact HB.out))) : w.heap.size ≤ gb188)); have n3_ := Aside0.mk ((by rw [hg]; exact (below_size (by repeat (first | (with_reducible first | exact HB.out | apply below_alloc | apply pw_below_drewN | apply below_drew1) | exact HB.out))) : w.heap.size ≤ gb188)); clear HB; have HB := n0_; have BK188 := n1_; have GW188 := n2_; have GE188 := n3_; clear n0_ n1_ n2_ n3_; clear hb hbox hg; have hcz10_0 : w9.cell? ⟨gb188, 0, none⟩ = some (.int .i64 a1_0) := (blk_cell BK188.out 0).trans rfl; have hcz10_1 : w9.cell? ⟨gb188, 1, none⟩ = some (.int .i64 a1_1) := (blk_cell BK188.out 1).trans rfl; have hfz10_0 := blk_frozen BK188.out 0; have hfz10_1 := blk_frozen BK188.out 1) | ((with_reducible refine gate_callee (f := 39) rfl ?_); refine goesL_ (some 9) rfl rfl Try.func39 (by kernel_rfl) rfl #[.slice A0 l0.length c0, .agg #[.int .i64 a1_0, .int .i64 a1_1]] rfl (by (try simp only [List.map_toArray, List.map_cons, List.map_nil]); first | done | rfl | (simp only [List.length_drop, List.length_take]; rfl)) ?_; (with_reducible refine (foolscapref5_Place.calls _ _ l0 a1_0 a1_1 false _ ?side1 ?side2 A4.out).mono ?_); (case side1 => repeat (first | exact (Kd.C_below HR0.out HB.out) | (with_reducible refine Kd.C_alloc ?_ _) | (with_reducible refine Kd.C_drewN ?_ _) | (with_reducible refine Kd.C_drew ?_))); (case side2 => exact HC0.out); rintro e w11 ⟨rfl, hb⟩; refine ⟨_, rfl, ?_⟩; have n0_ := Aside0.mk (blk_below (g := gb188) (o := .cells #[.int .i64 a1_0, .int .i64 a1_1] 24 (0, 0)) (by (with_reducible repeat (first | refine blk_drewN ?_ _ | refine blk_drew ?_ | refine blk_alloc ?_ _)); exact BK188.out) hb); have n1_ := Aside0.mk (below_step (by repeat (first | (with_reducible first | exact HB.out | apply below_alloc | apply pw_below_drewN | apply below_drew1 | refine below_set ?_ GE188.out) | exact HB.out)) hb); clear BK188; clear HB; have BK188 := n0_; have HB := n1_; clear n0_ n1_; (try clear hb); (try clear hb2); (try clear hk); (try clear hi)))
    go_ret
    exact ⟨by first | rfl | (simp [errW_none, errW_some] <;> rfl) | (simp [*, errW_none, errW_some] <;> rfl), by repeat (first | (with_reducible first | exact HB.out | apply below_alloc | apply pw_below_drewN | apply below_drew1 | refine below_set ?_ GE188.out) | exact HB.out)⟩

end Go.Proofs.Ytdiakjamahdcfaa.V
namespace Go.Proofs.Ytdiakjamahdcfaa.V
open Go.RowKit Go.Proofs.YtdiakjamahdcfaaW.PrintWords Go.Proofs.YtdiakjamahdcfaaW.PrintLast Go.Proofs.YtdiakjamahdcfaaW.PrintMore
attribute [local go_sem] max2_int min2_int max_two min_two max_three min_three max_four min_four   -- for this text's walks alone
set_option linter.unusedVariables false
set_option linter.unusedSimpArgs false

/-! ### foolscapref5_none: function 32 -/
def foolscapref5_none.f  : Option (Int × Int × Int × Bool × Int × Bool) := some (0, 0, 0, false, 0, false)
set_option maxHeartbeats 8000000 in
set_option maxRecDepth 100000 in
theorem foolscapref5_none.calls  (r1 : Int) (r2 : Int) (r3 : Int) (r4 : Bool) (r5 : Int) (r6 : Bool) (w : World) (h : foolscapref5_none.f  = some (r1, r2, r3, r4, r5, r6)) :
    Calls Try.prog 32 #[] w fun e w' => e = .returned (.tuple #[.agg #[.int .i64 r1, .int .i64 r2, .int .i64 r3, .bool r4, .int .i64 r5], .bool r6]) ∧ Below w.heap.size w w' := by
  have hu33 := Try.underlying33
  have HB := Aside0.mk (Below.refl w.heap.size w)
  have H : (some (0, 0, 0, false, 0, false)) = some (r1, r2, r3, r4, r5, r6) := h
  clear h
  simp only [Option.some.injEq, Prod.mk.injEq] at H
  obtain ⟨rfl, rfl, rfl, rfl, rfl, rfl⟩ := H
  go_enter Try.func32, Try.ntmps32
  go_wp2_with (first | ((with_reducible refine gate_dst (N := 0) rfl ?_); refine box_event ?hg (N := 0) ?hd (cs := #[.int .i64 0, .int .i64 0, .int .i64 0, .bool false, .int .i64 0]) (t := 33) ?hr ?_; (case hd => rfl); (case hg => rfl); (case hr => first | (go_simp; done) | (go_simp; rfl)); intro gb190 hg w1 hbox hb; have n0_ := Aside0.mk (below_step (by repeat (first | (with_reducible first | exact HB.out | apply below_alloc | apply pw_below_drewN | apply below_drew1) | exact HB.out)) hb); have n1_ := Aside0.mk (hbox); have n2_ := Aside0.mk ((by rw [hg]; exact (below_size (by repeat (first | (with_reducible first | exact HB.out | apply below_alloc | apply pw_below_drewN | apply below_drew1) | exact HB.out))) : w.heap.size ≤ gb190)); have n3_ := Aside0.mk ((by rw [hg]; exact (below_size (by repeat (first | (with_reducible first | exact HB.out | apply below_alloc | apply pw_below_drewN | apply below_drew1) | exact HB.out))) : w.heap.size ≤ gb190)); clear HB; have HB := n0_; have BK190 := n1_; have GW190 := n2_; have GE190 := n3_; clear n0_ n1_ n2_ n3_; clear hb hbox hg; have hcz2_0 : w1.cell? ⟨gb190, 0, none⟩ = some (.int .i64 0) := (blk_cell BK190.out 0).trans rfl; have hcz2_1 : w1.cell? ⟨gb190, 1, none⟩ = some (.int .i64 0) := (blk_cell BK190.out 1).trans rfl; have hcz2_2 : w1.cell? ⟨gb190, 2, none⟩ = some (.int .i64 0) := (blk_cell BK190.out 2).trans rfl; have hcz2_3 : w1.cell? ⟨gb190, 3, none⟩ = some (.bool false) := (blk_cell BK190.out 3).trans rfl; have hcz2_4 : w1.cell? ⟨gb190, 4, none⟩ = some (.int .i64 0) := (blk_cell BK190.out 4).trans rfl; have hfz2_0 := blk_frozen BK190.out 0; have hfz2_1 := blk_frozen BK190.out 1; have hfz2_2 := blk_frozen BK190.out 2; have hfz2_3 := blk_frozen BK190.out 3; have hfz2_4 := blk_frozen BK190.out 4))
  refine bodyPost_ret (results_ct rfl _ _ gb190 33 #[.int .i64 0, .int .i64 0, .int .i64 0, .bool false, .int .i64 0] (0, 0) _ rfl (by refine blk_put (cs := #[.int .i64 0, .int .i64 0, .int .i64 0, .bool false, .int .i64 0]) ?_ 4 _ rfl; refine blk_put (cs := #[.int .i64 0, .int .i64 0, .int .i64 0, .bool false, .int .i64 0]) ?_ 3 _ rfl; refine blk_put (cs := #[.int .i64 0, .int .i64 0, .int .i64 0, .bool false, .int .i64 0]) ?_ 2 _ rfl; refine blk_put (cs := #[.int .i64 0, .int .i64 0, .int .i64 0, .bool false, .int .i64 0]) ?_ 1 _ rfl; refine blk_put (cs := #[.int .i64 0, .int .i64 0, .int .i64 0, .bool false, .int .i64 0]) ?_ 0 _ rfl; exact BK190.out) Try.underlying33 rfl (by kernel_rfl)) rfl ?_
  exact ⟨by first | rfl | (simp [errW_none, errW_some] <;> rfl) | (simp [*, errW_none, errW_some] <;> rfl), by repeat (first | (with_reducible first | exact HB.out | apply below_alloc | apply pw_below_drewN | apply below_drew1 | refine below_set ?_ GE190.out) | exact HB.out)⟩

end Go.Proofs.Ytdiakjamahdcfaa.V
namespace Go.Proofs.Ytdiakjamahdcfaa.V
open Go.RowKit Go.Proofs.YtdiakjamahdcfaaW.PrintWords Go.Proofs.YtdiakjamahdcfaaW.PrintLast Go.Proofs.YtdiakjamahdcfaaW.PrintMore
attribute [local go_sem] max2_int min2_int max_two min_two max_three min_three max_four min_four   -- for this text's walks alone
set_option linter.unusedVariables false
set_option linter.unusedSimpArgs false

/-! ### foolscapref5_to: function 33 -/
def foolscapref5_to.f (a0 : Int) (a1 : Int) : Option (Int × Int × Int × Bool × Int × Bool) := some (a0, a1, 0, false, (-1), true)
set_option maxHeartbeats 8000000 in
set_option maxRecDepth 100000 in
theorem foolscapref5_to.calls (a0 : Int) (a1 : Int) (r1 : Int) (r2 : Int) (r3 : Int) (r4 : Bool) (r5 : Int) (r6 : Bool) (w : World) (h : foolscapref5_to.f a0 a1 = some (r1, r2, r3, r4, r5, r6)) :
    Calls Try.prog 33 #[.int .i64 a0, .int .i64 a1] w fun e w' => e = .returned (.tuple #[.agg #[.int .i64 r1, .int .i64 r2, .int .i64 r3, .bool r4, .int .i64 r5], .bool r6]) ∧ Below w.heap.size w w' := by
  have hu33 := Try.underlying33
  have hu24 := Try.underlying24
  have HB := Aside0.mk (Below.refl w.heap.size w)
  have H : (some (a0, a1, 0, false, (-1), true)) = some (r1, r2, r3, r4, r5, r6) := h
  clear h
  simp only [Option.some.injEq, Prod.mk.injEq] at H
  obtain ⟨rfl, rfl, rfl, rfl, rfl, rfl⟩ := H
  go_enter Try.func33, Try.ntmps33
  go_wp2_with (first | ((with_reducible refine gate_dst (N := 4) rfl ?_); refine box_event ?hg (N := 4) ?hd (cs := #[.int .i64 0, .int .i64 0, .int .i64 0, .bool false, .int .i64 0]) (t := 33) ?hr ?_; (case hd => rfl); (case hg => rfl); (case hr => first | (go_simp; done) | (go_simp; rfl)); intro gb191 hg w3 hbox hb; have n0_ := Aside0.mk (below_step (by repeat (first | (with_reducible first | exact HB.out | apply below_alloc | apply pw_below_drewN | apply below_drew1) | exact HB.out)) hb); have n1_ := Aside0.mk (hbox); have n2_ := Aside0.mk ((by rw [hg]; exact (below_size (by repeat (first | (with_reducible first | exact HB.out | apply below_alloc | apply pw_below_drewN | apply below_drew1) | exact HB.out))) : w.heap.size ≤ gb191)); have n3_ := Aside0.mk ((by rw [hg]; exact (below_size (by repeat (first | (with_reducible first | exact HB.out | apply below_alloc | apply pw_below_drewN | apply below_drew1) | exact HB.out))) : w.heap.size ≤ gb191)); clear HB; have HB := n0_; have BK191 := n1_; have GW191 := n2_; have GE191 := n3_; clear n0_ n1_ n2_ n3_; clear hb hbox hg; have hcz4_0 : w3.cell? ⟨gb191, 0, none⟩ = some (.int .i64 0) := (blk_cell BK191.out 0).trans rfl; have hcz4_1 : w3.cell? ⟨gb191, 1, none⟩ = some (.int .i64 0) := (blk_cell BK191.out 1).trans rfl; have hcz4_2 : w3.cell? ⟨gb191, 2, none⟩ = some (.int .i64 0) := (blk_cell BK191.out 2).trans rfl; have hcz4_3 : w3.cell? ⟨gb191, 3, none⟩ = some (.bool false) := (blk_cell BK191.out 3).trans rfl; have hcz4_4 : w3.cell? ⟨gb191, 4, none⟩ = some (.int .i64 0) := (blk_cell BK191.out 4).trans rfl; have hfz4_0 := blk_frozen BK191.out 0; have hfz4_1 := blk_frozen BK191.out 1; have hfz4_2 := blk_frozen BK191.out 2; have hfz4_3 := blk_frozen BK191.out 3; have hfz4_4 := blk_frozen BK191.out 4))
  refine bodyPost_ret (results_ct rfl _ _ gb191 33 #[.int .i64 a0, .int .i64 a1, .int .i64 0, .bool false, .int .i64 (-1)] (0, 0) _ rfl (by refine blk_put (cs := #[.int .i64 a0, .int .i64 a1, .int .i64 0, .bool false, .int .i64 0]) ?_ 4 _ rfl; refine blk_put (cs := #[.int .i64 a0, .int .i64 a1, .int .i64 0, .bool false, .int .i64 0]) ?_ 3 _ rfl; refine blk_put (cs := #[.int .i64 a0, .int .i64 a1, .int .i64 0, .bool false, .int .i64 0]) ?_ 2 _ rfl; refine blk_put (cs := #[.int .i64 a0, .int .i64 0, .int .i64 0, .bool false, .int .i64 0]) ?_ 1 _ rfl; refine blk_put (cs := #[.int .i64 0, .int .i64 0, .int .i64 0, .bool false, .int .i64 0]) ?_ 0 _ rfl; exact BK191.out) Try.underlying33 rfl (by kernel_rfl)) rfl ?_
  exact ⟨by first | rfl | (simp [errW_none, errW_some] <;> rfl) | (simp [*, errW_none, errW_some] <;> rfl), by repeat (first | (with_reducible first | exact HB.out | apply below_alloc | apply pw_below_drewN | apply below_drew1 | refine below_set ?_ GE191.out) | exact HB.out)⟩

end Go.Proofs.Ytdiakjamahdcfaa.V
namespace Go.Proofs.Ytdiakjamahdcfaa.V
open Go.RowKit Go.Proofs.YtdiakjamahdcfaaW.PrintWords Go.Proofs.YtdiakjamahdcfaaW.PrintLast Go.Proofs.YtdiakjamahdcfaaW.PrintMore
attribute [local go_sem] max2_int min2_int max_two min_two max_three min_three max_four min_four   -- for this text's walks alone
set_option linter.unusedVariables false
set_option linter.unusedSimpArgs false
attribute [local go_sem high] eqA33

/-! ### foolscapref5_capped: function 34 -/
def foolscapref5_capped.f (a0 : Int) : Option (Int) := some (mn a0 1073741824)
set_option maxHeartbeats 8000000 in
set_option maxRecDepth 100000 in
theorem foolscapref5_capped.calls (a0 : Int) (r : Int) (w : World) (h : foolscapref5_capped.f a0 = some r) :
    Calls Try.prog 34 #[.int .i64 a0] w fun e w' => e = .returned (.int .i64 r) ∧ Below w.heap.size w w' := by
  have HB := Aside0.mk (Below.refl w.heap.size w)
  have H : (some (mn a0 1073741824)) = some r := h
  clear h
  obtain ⟨ji2, hji2⟩ : ∃ j_ : Int, (mn a0 1073741824) = j_ := ⟨_, rfl⟩
  replace H : (some ji2) = some r := by first | (rw [hji2] at H; exact H) | (simp only [hji2] at H ⊢; exact H)
  (try (have hji2h : ji2 ≤ 1073741824 := by (rw [← hji2]; unfold mn; (repeat' split) <;> omega)))
  (try (have hji2g : ji2 ≤ 64 := by omega))
  have hji2_ : (if 1073741824 < a0 then 1073741824 else a0) = ji2 := hji2
  obtain rfl := Option.some.inj H
  go_enter Try.func34, Try.ntmps34
  go_wp2
  go_ret
  exact ⟨by first | rfl | (simp [errW_none, errW_some] <;> rfl) | (simp only [← hji2]; first | rfl | (simp [errW_none, errW_some] <;> rfl)) | (simp [*, errW_none, errW_some] <;> rfl), by repeat (first | (with_reducible first | exact HB.out | apply below_alloc | apply pw_below_drewN | apply below_drew1) | exact HB.out)⟩

end Go.Proofs.Ytdiakjamahdcfaa.V
namespace Go.Proofs.Ytdiakjamahdcfaa.V
open Go.RowKit Go.Proofs.YtdiakjamahdcfaaW.PrintWords Go.Proofs.YtdiakjamahdcfaaW.PrintLast Go.Proofs.YtdiakjamahdcfaaW.PrintMore
attribute [local go_sem] max2_int min2_int max_two min_two max_three min_three max_four min_four   -- for this text's walks alone
set_option linter.unusedVariables false
set_option linter.unusedSimpArgs false

/-! ### foolscapref5_Left: function 16 -/
def foolscapref5_Left.j0 : Nat → Int → Bool → Int → Int → Option (Int × Int × Int × Bool × Int × Bool)
  | 0, _, _, _, _ => none
  | k + 1, x2, x17, x251000, x251001 => if x17 = true then ((foolscapref5_none.f).bind fun bt253 => (some (bt253.1, bt253.2.1, bt253.2.2.1, bt253.2.2.2.1, bt253.2.2.2.2.1, bt253.2.2.2.2.2))) else ((foolscapref5_capped.f x2).bind fun t259 => ((foolscapref5_to.f x251000 (mx (wrap64 (x251001 - t259)) 0)).bind fun bt260 => (some (bt260.1, bt260.2.1, bt260.2.2.1, bt260.2.2.2.1, bt260.2.2.2.2.1, bt260.2.2.2.2.2))))
def foolscapref5_Left.f (k : Nat) (l0 : List ByteArray) (a1_0 : Int) (a1_1 : Int) (a2 : Int) : Option (Int × Int × Int × Bool × Int × Bool) := (foolscapref5_may.f l0 a1_0 a1_1 a2).bind fun t252 => (if t252 = true then (foolscapref5_Left.j0 k a2 (a1_1 == 0) a1_0 a1_1) else (foolscapref5_Left.j0 k a2 true a1_0 a1_1))
theorem foolscapref5_Left.mono_l : ∀ k, (∀ y0 y1 y2 y3, LeO (foolscapref5_Left.j0 k y0 y1 y2 y3) (foolscapref5_Left.j0 (k + 1) y0 y1 y2 y3))
  | 0 => fun _ _ _ _ r h => by simp [foolscapref5_Left.j0] at h
  | k + 1 => by
    have ih0 := foolscapref5_Left.mono_l k
    · intro y0 y1 y2 y3
      unfold foolscapref5_Left.j0
      repeat' first
      | (with_reducible exact ih0 _ _ _ _)
      | (with_reducible exact LeO.refl _)
      | (with_reducible exact LeO.none _)
      | (with_reducible refine LeO.ite ?_ ?_)
      | (with_reducible refine LeO.bind ?_ (fun _ => ?_))
      | exact ih0 _ _ _ _
      | exact LeO.none _
      | refine LeO.ite ?_ ?_
      | refine LeO.bind ?_ (fun _ => ?_)
theorem foolscapref5_Left.mono : ∀ a0 a1 a2 a3 k, LeO (foolscapref5_Left.f k a0 a1 a2 a3) (foolscapref5_Left.f (k + 1) a0 a1 a2 a3) := by
  intro a0 a1 a2 a3 k
  have ih0 := foolscapref5_Left.mono_l k
  unfold foolscapref5_Left.f
  repeat' first
      | (with_reducible exact ih0 _ _ _ _)
      | (with_reducible exact LeO.refl _)
      | (with_reducible exact LeO.none _)
      | (with_reducible refine LeO.ite ?_ ?_)
      | (with_reducible refine LeO.bind ?_ (fun _ => ?_))
      | exact ih0 _ _ _ _
      | exact LeO.none _
      | refine LeO.ite ?_ ?_
      | refine LeO.bind ?_ (fun _ => ?_)
def foolscapref5_Left.T3 : Bool × List (List Nat × List Nat) := (true, [([], []), ([0], [0]), ([], []), ([2], [2]), ([], []), ([4], [4]), ([3, 5], [3, 5]), ([6], [6]), ([1, 7, 5], [1, 7]), ([8], [8]), ([8], [8]), ([9, 8, 0, 1, 2, 3, 4, 5, 6, 7, 8, 9, 10], [9]), ([10, 11, 0, 1, 2, 3, 4, 5, 6, 7, 8, 9, 10, 11], [10])])
def foolscapref5_Left.B3 : List Nat := [0, 1, 0, 4, 0, 16, 60, 124, 255, 511, 511, 2047, 4095]
theorem foolscapref5_Left.tab3 : rtab .any (opsOf Try.f16 3) = foolscapref5_Left.T3 := by kernel_rfl
theorem foolscapref5_Left.bits3 : waitsOk foolscapref5_Left.T3.2 foolscapref5_Left.B3 = true := by kernel_rfl
set_option maxHeartbeats 8000000 in
set_option maxRecDepth 100000 in
theorem foolscapref5_Left.calls (k : Nat) (A0 : Option Addr) (c0 : Nat) (l0 : List ByteArray) (a1_0 : Int) (a1_1 : Int) (a2 : Int) (r1 : Int) (r2 : Int) (r3 : Int) (r4 : Bool) (r5 : Int) (r6 : Bool) (w : World) (hr0 : Kd.C Kd.string w A0 l0.length l0) (hc0 : l0.length ≤ c0) (h : foolscapref5_Left.f k l0 a1_0 a1_1 a2 = some (r1, r2, r3, r4, r5, r6)) :
    Calls Try.prog 16 #[.slice A0 l0.length c0, .agg #[.int .i64 a1_0, .int .i64 a1_1], .int .i64 a2] w fun e w' => e = .returned (.tuple #[.agg #[.int .i64 r1, .int .i64 r2, .int .i64 r3, .bool r4, .int .i64 r5], .bool r6]) ∧ Below w.heap.size w w' := by
  have hu24 := Try.underlying24
  have hu33 := Try.underlying33
  have HR0 := Aside0.mk hr0
  have HC0 := Aside0.mk hc0
  clear hr0 hc0
  have HB := Aside0.mk (Below.refl w.heap.size w)
  have H : ((foolscapref5_may.f l0 a1_0 a1_1 a2).bind fun t252 => (if t252 = true then (foolscapref5_Left.j0 k a2 (a1_1 == 0) a1_0 a1_1) else (foolscapref5_Left.j0 k a2 true a1_0 a1_1))) = some (r1, r2, r3, r4, r5, r6) := h
  clear h
  have HC4 := Aside0.mk H
  clear H
  go_enter Try.func16, Try.ntmps16
  go_upto_region 1 with (first | ((with_reducible refine gate_dst (N := 4) rfl ?_); refine box_event ?hg (N := 4) ?hd (cs := #[.int .i64 a1_0, .int .i64 a1_1]) (t := 24) ?hr ?_; (case hd => rfl); (case hg => rfl); (case hr => first | (go_simp; done) | (go_simp; rfl)); intro gb250 hg w5 hbox hb; have n0_ := Aside0.mk (below_step (by repeat (first | (with_reducible first | exact HB.out | apply below_alloc | apply pw_below_drewN | apply below_drew1) | exact HB.out)) hb); have n1_ := Aside0.mk (hbox); have n2_ := Aside0.mk ((by rw [hg]; exact (below_size (by repeat (first | (with_reducible first | exact HB.out | apply below_alloc | apply pw_below_drewN | apply below_drew1) | exact HB.out))) : w.heap.size ≤ gb250)); have n3_ := Aside0.mk ((by rw [hg]; exact (below_size (by repeat (first | (with_reducible first | exact HB.out | apply below_alloc | apply pw_below_drewN | apply below_drew1) | exact HB.out))) : w.heap.size ≤ gb250)); clear HB; have HB := n0_; have BK250 := n1_; have GW250 := n2_; have GE250 := n3_; clear n0_ n1_ n2_ n3_; clear hb hbox hg) | ((with_reducible refine gate_dst (N := 6) rfl ?_); refine box_event ?hg (N := 6) ?hd (cs := #[.int .i64 0, .int .i64 0, .int .i64 0, .bool false, .int .i64 0]) (t := 33) ?hr ?_; (case hd => rfl); (case hg => rfl); (case hr => first | (go_simp; done) | (go_simp; rfl)); intro gb251 hg w6 hbox hb; have n0_ := Aside0.mk (blk_below (g := gb250) (o := .cells #[.int .i64 a1_0, .int .i64 a1_1] 24 (0, 0)) (by exact BK250.out) hb); have n1_ := Aside0.mk (below_step (by repeat (first | (with_reducible first | exact HB.out | apply below_alloc | apply pw_below_drewN | apply below_drew1 | refine below_set ?_ GE250.out) | exact HB.out)) hb); have n2_ := Aside0.mk (hbox); have n3_ := Aside0.mk ((by rw [hg]; exact (below_size (by repeat (first | (with_reducible first | exact HB.out | apply below_alloc | apply pw_below_drewN | apply below_drew1 | refine below_set ?_ GE250.out) | exact HB.out))) : w.heap.size ≤ gb251)); have n4_ := Aside0.mk ((by rw [hg]; exact (below_size (by repeat (first | (with_reducible first | exact HB.out | apply below_alloc | apply pw_below_drewN | apply below_drew1 | refine below_set ?_ GE250.out) | exact HB.out))) : w.heap.size ≤ gb251)); have n5_ := Aside0.mk ((by rw [hg]; exact Nat.ne_of_lt (blk_lt (g := gb250) (o := .cells #[.int .i64 a1_0, .int .i64 a1_1] 24 (0, 0)) (by exact BK250.out)) : gb250 ≠ gb251)); have n6_ := Aside0.mk ((by rw [hg]; exact Nat.ne_of_gt (blk_lt (g := gb250) (o := .cells #[.int .i64 a1_0, .int .i64 a1_1] 24 (0, 0)) (by exact BK250.out)) : gb251 ≠ gb250)); clear BK250; clear HB; have BK250 := n0_; have HB := n1_; have BK251 := n2_; have GW251 := n3_; have GE251 := n4_; have NB250_251 := n5_; have NB251_250 := n6_; clear n0_ n1_ n2_ n3_ n4_ n5_ n6_; clear hb hbox hg))
  (try simp only [Act.put, List.setIfInBounds_toArray, List.set_cons_zero, List.set_cons_succ])
  go_cut [17] (fun v17 wc => ∃ (kq : Nat) (x17_3 : Bool), v17 = .bool x17_3 ∧ Aside0 (foolscapref5_Left.j0 kq a2 x17_3 a1_0 a1_1 = some (r1, r2, r3, r4, r5, r6)) ∧ Aside0 (kq ≤ k) ∧ Aside0 (wc.heap[gb250]? = some (.cells #[.int .i64 a1_0, .int .i64 a1_1] 24 (0, 0))) ∧ Aside0 (wc.heap[gb251]? = some (.cells #[.int .i64 0, .int .i64 0, .int .i64 0, .bool false, .int .i64 0] 33 (0, 0))) ∧ Aside0 (Below w.heap.size w wc))
  case first =>
    have H := HC4.out
    clear HC4
    replace H := Option.bind_eq_some_iff.mp H
    obtain ⟨t252, A70, H⟩ := H
    replace H : (if t252 = true then (foolscapref5_Left.j0 k a2 (a1_1 == 0) a1_0 a1_1) else (foolscapref5_Left.j0 k a2 true a1_0 a1_1)) = some (r1, r2, r3, r4, r5, r6) := H
    have A7 := Aside0.mk A70
    clear A70
    by_cases c8 : t252 = true
    · subst c8
      have H1 : (foolscapref5_Left.j0 k a2 (a1_1 == 0) a1_0 a1_1) = some (r1, r2, r3, r4, r5, r6) := by rw [if_pos rfl] at H; exact H
      clear H
      have H := H1
      clear H1
      have H' := Aside0.mk H
      clear H
      have hnb9 := NB250_251.out
      have hnc9 := NB251_250.out
      have hcz10_0 : w6.cell? ⟨gb250, 0, none⟩ = some (.int .i64 a1_0) := (blk_cell BK250.out 0).trans rfl
      have hcz10_1 : w6.cell? ⟨gb250, 1, none⟩ = some (.int .i64 a1_1) := (blk_cell BK250.out 1).trans rfl
      have hfz10_0 := blk_frozen BK250.out 0
      have hfz10_1 := blk_frozen BK250.out 1
      go_wp2_with (first | ((with_reducible refine gate_callee (f := 31) rfl ?_); refine goesL_ (some 11) rfl rfl Try.func31 (by kernel_rfl) rfl #[.slice A0 l0.length c0, .agg #[.int .i64 a1_0, .int .i64 a1_1], .int .i64 a2] rfl (by (try simp only [List.map_toArray, List.map_cons, List.map_nil]); first | done | rfl | (simp only [List.length_drop, List.length_take]; rfl)) ?_; (with_reducible refine (foolscapref5_may.calls _ _ l0 a1_0 a1_1 a2 true _ ?side1 ?side2 A7.out).mono ?_); (case side1 => repeat (first | exact (Kd.C_below HR0.out HB.out) | (with_reducible refine Kd.C_alloc ?_ _) | (with_reducible refine Kd.C_drewN ?_ _) | (with_reducible refine Kd.C_drew ?_))); (case side2 => exact HC0.out); rintro e w11 ⟨rfl, hb⟩; refine ⟨_, rfl, ?_⟩; have n0_ := Aside0.mk (blk_below (g := gb250) (o := .cells #[.int .i64 a1_0, .int .i64 a1_1] 24 (0, 0)) (by exact BK250.out) hb); have n1_ := Aside0.mk (blk_below (g := gb251) (o := .cells #[.int .i64 0, .int .i64 0, .int .i64 0, .bool false, .int .i64 0] 33 (0, 0)) (by exact BK251.out) hb); have n2_ := Aside0.mk (below_step (by repeat (first | (with_reducible first | exact HB.out | apply below_alloc | apply pw_below_drewN | apply below_drew1 | refine below_set ?_ GE250.out | refine below_set ?_ GE251.out) | exact HB.out)) hb); clear BK250; clear BK251; clear HB; have BK250 := n0_; have BK251 := n1_; have HB := n2_; clear n0_ n1_ n2_; (try clear hb); (try clear hb2); (try clear hk); (try clear hi); have hcz12_0 : w11.cell? ⟨gb250, 0, none⟩ = some (.int .i64 a1_0) := (blk_cell BK250.out 0).trans rfl; have hcz12_1 : w11.cell? ⟨gb250, 1, none⟩ = some (.int .i64 a1_1) := (blk_cell BK250.out 1).trans rfl; have hfz12_0 := blk_frozen BK250.out 0; have hfz12_1 := blk_frozen BK250.out 1))
      go_meet
      case rel => exact ⟨_, ((a1_1 == 0)), (by first | rfl | (simp; done) | (simp [*]; done)), H', ⟨by first | omega | exact Nat.le_refl _⟩, ⟨by exact BK250.out⟩, ⟨by exact BK251.out⟩, ⟨by repeat (first | (with_reducible first | exact HB.out | apply below_alloc | apply pw_below_drewN | apply below_drew1 | refine below_set ?_ GE250.out | refine below_set ?_ GE251.out) | exact HB.out)⟩⟩
    · replace c8 := Bool.eq_false_iff.mpr c8
      subst c8
      have H1 : (foolscapref5_Left.j0 k a2 true a1_0 a1_1) = some (r1, r2, r3, r4, r5, r6) := by rw [if_neg (show ¬ (false = true) by decide)] at H; exact H
      clear H
      have H := H1
      clear H1
      have H' := Aside0.mk H
      clear H
      have hnb13 := NB250_251.out
      have hnc13 := NB251_250.out
      have hcz14_0 : w6.cell? ⟨gb250, 0, none⟩ = some (.int .i64 a1_0) := (blk_cell BK250.out 0).trans rfl
      have hcz14_1 : w6.cell? ⟨gb250, 1, none⟩ = some (.int .i64 a1_1) := (blk_cell BK250.out 1).trans rfl
      have hfz14_0 := blk_frozen BK250.out 0
      have hfz14_1 := blk_frozen BK250.out 1
      go_wp2_with (first | ((with_reducible refine gate_callee (f := 31) rfl ?_); refine goesL_ (some 11) rfl rfl Try.func31 (by kernel_rfl) rfl #[.slice A0 l0.length c0, .agg #[.int .i64 a1_0, .int .i64 a1_1], .int .i64 a2] rfl (by (try simp only [List.map_toArray, List.map_cons, List.map_nil]); first | done | rfl | (simp only [List.length_drop, List.length_take]; rfl)) ?_; (with_reducible refine (foolscapref5_may.calls _ _ l0 a1_0 a1_1 a2 false _ ?side1 ?side2 A7.out).mono ?_); (case side1 => repeat (first | exact (Kd.C_below HR0.out HB.out) | (with_reducible refine Kd.C_alloc ?_ _) | (with_reducible refine Kd.C_drewN ?_ _) | (with_reducible refine Kd.C_drew ?_))); (case side2 => exact HC0.out); rintro e w15 ⟨rfl, hb⟩; refine ⟨_, rfl, ?_⟩; have n0_ := Aside0.mk (blk_below (g := gb250) (o := .cells #[.int .i64 a1_0, .int .i64 a1_1] 24 (0, 0)) (by exact BK250.out) hb); have n1_ := Aside0.mk (blk_below (g := gb251) (o := .cells #[.int .i64 0, .int .i64 0, .int .i64 0, .bool false, .int .i64 0] 33 (0, 0)) (by exact BK251.out) hb); have n2_ := Aside0.mk (below_step (by repeat (first | (with_reducible first | exact HB.out | apply below_alloc | apply pw_below_drewN | apply below_drew1 | refine below_set ?_ GE250.out | refine below_set ?_ GE251.out) | exact HB.out)) hb); clear BK250; clear BK251; clear HB; have BK250 := n0_; have BK251 := n1_; have HB := n2_; clear n0_ n1_ n2_; (try clear hb); (try clear hb2); (try clear hk); (try clear hi)))
      go_meet
      case rel => exact ⟨_, (true), (by first | rfl | (simp; done) | (simp [*]; done)), H', ⟨by first | omega | exact Nat.le_refl _⟩, ⟨by exact BK250.out⟩, ⟨by exact BK251.out⟩, ⟨by repeat (first | (with_reducible first | exact HB.out | apply below_alloc | apply pw_below_drewN | apply below_drew1 | refine below_set ?_ GE250.out | refine below_set ?_ GE251.out) | exact HB.out)⟩⟩
  case rest =>
    clear HC4
    try clear c1
    try clear p2
    try clear c3
    try clear c8
    try clear c9
    try clear c13
    try clear hcz10_0
    try clear hcz10_1
    try clear hcz12_0
    try clear hcz12_1
    try clear hcz14_0
    try clear hcz14_1
    try clear hfz10_0
    try clear hfz10_1
    try clear hfz12_0
    try clear hfz12_1
    try clear hfz14_0
    try clear hfz14_1
    obtain ⟨kq, x17_3, rfl, HA, HJ3, BK250, BK251, HB⟩ := hcut
    cases kq with
    | zero => exact absurd HA.out (by simp [foolscapref5_Left.j0])
    | succ kj3 =>
      have H := HA.out
      clear HA
      simp only [foolscapref5_Left.j0] at H
      by_cases c16 : x17_3 = true
      · subst c16
        have H1 : ((foolscapref5_none.f).bind fun bt253 => (some (bt253.1, bt253.2.1, bt253.2.2.1, bt253.2.2.2.1, bt253.2.2.2.2.1, bt253.2.2.2.2.2))) = some (r1, r2, r3, r4, r5, r6) := by rw [if_pos rfl] at H; exact H
        clear H
        have H := H1
        clear H1
        replace H := Option.bind_eq_some_iff.mp H
        obtain ⟨⟨t253, t254, t255, t256, t257, t258⟩, A170, H⟩ := H
        replace H : (some (t253, t254, t255, t256, t257, t258)) = some (r1, r2, r3, r4, r5, r6) := H
        have A17 := Aside0.mk A170
        clear A170
        simp only [Option.some.injEq, Prod.mk.injEq] at H
        obtain ⟨rfl, rfl, rfl, rfl, rfl, rfl⟩ := H
        go_wp2_with (first | ((with_reducible refine gate_callee (f := 32) rfl ?_); refine goesL_ (some 18) rfl rfl Try.func32 (by kernel_rfl) rfl #[] rfl (by (try simp only [List.map_toArray, List.map_cons, List.map_nil]); first | done | rfl | (simp only [List.length_drop, List.length_take]; rfl)) ?_; (with_reducible refine (foolscapref5_none.calls  t253 t254 t255 t256 t257 t258 _ A17.out).mono ?_); rintro e w18 ⟨rfl, hb⟩; refine ⟨_, rfl, ?_⟩; have n0_ := Aside0.mk (blk_below (g := gb250) (o := .cells #[.int .i64 a1_0, .int .i64 a1_1] 24 (0, 0)) (by exact BK250.out) hb); have n1_ := Aside0.mk (blk_below (g := gb251) (o := .cells #[.int .i64 0, .int .i64 0, .int .i64 0, .bool false, .int .i64 0] 33 (0, 0)) (by exact BK251.out) hb); have n2_ := Aside0.mk (below_step (by repeat (first | (with_reducible first | exact HB.out | apply below_alloc | apply pw_below_drewN | apply below_drew1 | refine below_set ?_ GE250.out | refine below_set ?_ GE251.out) | exact HB.out)) hb); clear BK250; clear BK251; clear HB; have BK250 := n0_; have BK251 := n1_; have HB := n2_; clear n0_ n1_ n2_; (try clear hb); (try clear hb2); (try clear hk); (try clear hi); have hnb19 := NB251_250.out; have hnc19 := NB250_251.out; have hcz20_0 : w18.cell? ⟨gb251, 0, none⟩ = some (.int .i64 0) := (blk_cell BK251.out 0).trans rfl; have hcz20_1 : w18.cell? ⟨gb251, 1, none⟩ = some (.int .i64 0) := (blk_cell BK251.out 1).trans rfl; have hcz20_2 : w18.cell? ⟨gb251, 2, none⟩ = some (.int .i64 0) := (blk_cell BK251.out 2).trans rfl; have hcz20_3 : w18.cell? ⟨gb251, 3, none⟩ = some (.bool false) := (blk_cell BK251.out 3).trans rfl; have hcz20_4 : w18.cell? ⟨gb251, 4, none⟩ = some (.int .i64 0) := (blk_cell BK251.out 4).trans rfl; have hfz20_0 := blk_frozen BK251.out 0; have hfz20_1 := blk_frozen BK251.out 1; have hfz20_2 := blk_frozen BK251.out 2; have hfz20_3 := blk_frozen BK251.out 3; have hfz20_4 := blk_frozen BK251.out 4))
        refine bodyPost_ret (results_ct rfl _ _ gb251 33 #[.int .i64 t253, .int .i64 t254, .int .i64 t255, .bool t256, .int .i64 t257] (0, 0) _ rfl (by refine blk_put (cs := #[.int .i64 t253, .int .i64 t254, .int .i64 t255, .bool t256, .int .i64 0]) ?_ 4 _ rfl; refine blk_put (cs := #[.int .i64 t253, .int .i64 t254, .int .i64 t255, .bool false, .int .i64 0]) ?_ 3 _ rfl; refine blk_put (cs := #[.int .i64 t253, .int .i64 t254, .int .i64 0, .bool false, .int .i64 0]) ?_ 2 _ rfl; refine blk_put (cs := #[.int .i64 t253, .int .i64 0, .int .i64 0, .bool false, .int .i64 0]) ?_ 1 _ rfl; refine blk_put (cs := #[.int .i64 0, .int .i64 0, .int .i64 0, .bool false, .int .i64 0]) ?_ 0 _ rfl; exact BK251.out) Try.underlying33 rfl (by kernel_rfl)) rfl ?_
        exact ⟨by first | rfl | (simp [errW_none, errW_some] <;> rfl) | (simp [*, errW_none, errW_some] <;> rfl), by repeat (first | (with_reducible first | exact HB.out | apply below_alloc | apply pw_below_drewN | apply below_drew1 | refine below_set ?_ GE250.out | refine below_set ?_ GE251.out) | exact HB.out)⟩
      · replace c16 := Bool.eq_false_iff.mpr c16
        subst c16
        have H1 : ((foolscapref5_capped.f a2).bind fun t259 => ((foolscapref5_to.f a1_0 (mx (wrap64 (a1_1 - t259)) 0)).bind fun bt260 => (some (bt260.1, bt260.2.1, bt260.2.2.1, bt260.2.2.2.1, bt260.2.2.2.2.1, bt260.2.2.2.2.2)))) = some (r1, r2, r3, r4, r5, r6) := by rw [if_neg (show ¬ (false = true) by decide)] at H; exact H
        clear H
        have H := H1
        clear H1
        replace H := Option.bind_eq_some_iff.mp H
        obtain ⟨t259, A210, H⟩ := H
        replace H : ((foolscapref5_to.f a1_0 (mx (wrap64 (a1_1 - t259)) 0)).bind fun bt260 => (some (bt260.1, bt260.2.1, bt260.2.2.1, bt260.2.2.2.1, bt260.2.2.2.2.1, bt260.2.2.2.2.2))) = some (r1, r2, r3, r4, r5, r6) := H
        have A21 := Aside0.mk A210
        clear A210
        obtain ⟨ji22, hji22⟩ : ∃ j_ : Int, (mx (wrap64 (a1_1 - t259)) 0) = j_ := ⟨_, rfl⟩
        replace H : ((foolscapref5_to.f a1_0 (ji22)).bind fun bt260 => (some (bt260.1, bt260.2.1, bt260.2.2.1, bt260.2.2.2.1, bt260.2.2.2.2.1, bt260.2.2.2.2.2))) = some (r1, r2, r3, r4, r5, r6) := by first | (rw [hji22] at H; exact H) | (simp only [hji22] at H ⊢; exact H)
        (try rw [hji22] at A21)
        have hji22_ : (if (wrap64 (a1_1 - t259)) < 0 then 0 else (wrap64 (a1_1 - t259))) = ji22 := hji22
        replace H := Option.bind_eq_some_iff.mp H
        obtain ⟨⟨t260, t261, t262, t263, t264, t265⟩, A230, H⟩ := H
        replace H : (some (t260, t261, t262, t263, t264, t265)) = some (r1, r2, r3, r4, r5, r6) := H
        have A23 := Aside0.mk A230
        clear A230
        simp only [Option.some.injEq, Prod.mk.injEq] at H
        obtain ⟨rfl, rfl, rfl, rfl, rfl, rfl⟩ := H
        try go_wp2
        have n0_ := Aside0.mk (blk_drew BK250.out)
        have n1_ := Aside0.mk (blk_drew BK251.out)
        have n2_ := Aside0.mk (below_drew1 HB.out)
        clear BK250
        clear BK251
        clear HB
        have BK250 := n0_
        have BK251 := n1_
        have HB := n2_
        clear n0_ n1_ n2_
        refine start_ (n := 13) (S := fun w' => w'.cell? ⟨gb250, 0, none⟩ = some (.int .i64 a1_0) ∧ w'.cell? ⟨gb250, 1, none⟩ = some (.int .i64 a1_1)) (ds := []) #[false, false, false, false, false, false, false, false, false, false, false, false, false] (by kernel_rfl) rfl rfl ⟨(blk_cell BK250.out 0).trans rfl, (blk_cell BK250.out 1).trans rfl⟩ (fun hHeld => ?_); refine with_tabW foolscapref5_Left.tab3 foolscapref5_Left.bits3 (fun HT_ HW_ => ?_)
        generalize wc.drew = w24 at BK250 BK251 HB hHeld ⊢
        refine pure_ (i := 0) (N := some 21) (v := ?_) (a' := ?_) #[true, false, false, false, false, false, false, false, false, false, false, false, false] rfl rfl (any_of HT_.out (by kernel_rfl)) (fun _ _ _ h => h) (Or.inl ⟨by rfl, ?_⟩) ?_ ?_
        rotate_left
        · intro w'
          go_simp
          with_reducible rfl
        rotate_left
        · simp only [Act.put, List.setIfInBounds_toArray, List.set_cons_zero, List.set_cons_succ, i64_w, i32_w]
          rfl
        refine pure_ (i := 2) (N := some 23) (v := ?_) (a' := ?_) #[true, false, true, false, false, false, false, false, false, false, false, false, false] rfl rfl (any_of HT_.out (by kernel_rfl)) (fun _ _ _ h => h) (Or.inl ⟨by rfl, ?_⟩) ?_ ?_
        rotate_left
        · intro w'
          go_simp
          with_reducible rfl
        rotate_left
        · simp only [Act.put, List.setIfInBounds_toArray, List.set_cons_zero, List.set_cons_succ, i64_w, i32_w]
          rfl
        refine pure_ (i := 4) (N := some 25) (v := ?_) (a' := ?_) #[true, false, true, false, true, false, false, false, false, false, false, false, false] rfl rfl (any_of HT_.out (by kernel_rfl)) (fun _ _ _ h => h) (Or.inl ⟨by rfl, ?_⟩) ?_ ?_
        rotate_left
        · intro w'
          go_simp
          with_reducible rfl
        rotate_left
        · simp only [Act.put, List.setIfInBounds_toArray, List.set_cons_zero, List.set_cons_succ, i64_w, i32_w]
          rfl
        refine take_ (i := 1) (N := some 22) (v := ?_) (a' := ?_) #[true, true, true, false, true, false, false, false, false, false, false, false, false] rfl rfl (take_ofW HT_.out HW_.out (by kernel_rfl)) (fun _ _ _ h => h) (Or.inl ⟨by rfl, ?_⟩) hHeld ?_ ?_
        rotate_left
        · rintro w' ⟨s0, s1⟩
          go_simp
          with_reducible rfl
        rotate_left
        · simp only [Act.put, List.setIfInBounds_toArray, List.set_cons_zero, List.set_cons_succ, i64_w, i32_w]
          rfl
        refine take_ (i := 3) (N := some 24) (v := ?_) (a' := ?_) #[true, true, true, true, true, false, false, false, false, false, false, false, false] rfl rfl (take_ofW HT_.out HW_.out (by kernel_rfl)) (fun _ _ _ h => h) (Or.inl ⟨by rfl, ?_⟩) hHeld ?_ ?_
        rotate_left
        · rintro w' ⟨s0, s1⟩
          go_simp
          with_reducible rfl
        rotate_left
        · simp only [Act.put, List.setIfInBounds_toArray, List.set_cons_zero, List.set_cons_succ, i64_w, i32_w]
          rfl
        refine one_ (i := 5) (N := some 26) #[true, true, true, true, true, true, false, false, false, false, false, false, false] rfl rfl (one_of HT_.out (by kernel_rfl)) (by decide) (fun K hK => ?_)
        refine goes_ Try.func34 (by kernel_rfl) rfl #[.int .i64 a2] (by rfl) rfl rfl (by (try simp only [List.map_toArray, List.map_cons, List.map_nil]); first | done | rfl | (simp only [List.length_drop, List.length_take]; rfl)) ?_
        with_reducible refine (foolscapref5_capped.calls a2 t259 _ A21.out).mono ?_
        rintro e w25 ⟨rfl, hb⟩
        refine ⟨_, rfl, ?_⟩
        have n0_ := Aside0.mk (blk_below (g := gb250) (o := .cells #[.int .i64 a1_0, .int .i64 a1_1] 24 (0, 0)) (by exact BK250.out) hb)
        have n1_ := Aside0.mk (blk_below (g := gb251) (o := .cells #[.int .i64 0, .int .i64 0, .int .i64 0, .bool false, .int .i64 0] 33 (0, 0)) (by exact BK251.out) hb)
        have n2_ := Aside0.mk (below_step (by repeat (first | (with_reducible first | exact HB.out | apply below_alloc | apply pw_below_drewN | apply below_drew1 | refine below_set ?_ GE250.out | refine below_set ?_ GE251.out) | exact HB.out)) hb)
        clear BK250
        clear BK251
        clear HB
        have BK250 := n0_
        have BK251 := n1_
        have HB := n2_
        clear n0_ n1_ n2_
        (try clear hb)
        (try clear hb2)
        (try clear hk)
        (try clear hi)
        refine hK.out _ _ ⟨(blk_cell BK250.out 0).trans rfl, (blk_cell BK250.out 1).trans rfl⟩ (fun hHeld => ?_)
        clear hK K
        refine norm_ (a' := ?_) ?_ ?_
        rotate_left
        · show Act.put _ (some 26) _ = _
          simp only [Act.put, List.setIfInBounds_toArray, List.set_cons_zero, List.set_cons_succ, i64_w, i32_w]
          rfl
        refine pure_ (i := 6) (N := some 27) (v := ?_) (a' := ?_) #[true, true, true, true, true, true, true, false, false, false, false, false, false] rfl rfl (any_of HT_.out (by kernel_rfl)) (fun _ _ _ h => h) (Or.inl ⟨by rfl, ?_⟩) ?_ ?_
        rotate_left
        · intro w'
          go_simp
          with_reducible rfl
        rotate_left
        · simp only [Act.put, List.setIfInBounds_toArray, List.set_cons_zero, List.set_cons_succ, i64_w, i32_w]
          rfl
        refine pure_ (i := 7) (N := some 28) (v := ?_) (a' := ?_) #[true, true, true, true, true, true, true, true, false, false, false, false, false] rfl rfl (any_of HT_.out (by kernel_rfl)) (fun _ _ _ h => h) (Or.inl ⟨by rfl, ?_⟩) ?_ ?_
        rotate_left
        · intro w'
          go_simp
          with_reducible rfl
        rotate_left
        · simp only [Act.put, List.setIfInBounds_toArray, List.set_cons_zero, List.set_cons_succ, i64_w, i32_w]
          rfl
        refine one_ (i := 8) (N := some 29) #[true, true, true, true, true, true, true, true, true, false, false, false, false] rfl rfl (one_of HT_.out (by kernel_rfl)) (by decide) (fun K hK => ?_)
        refine goes_ Try.func33 (by kernel_rfl) rfl #[.int .i64 a1_0, .int .i64 ji22] (by rfl) rfl rfl (by (try simp only [List.map_toArray, List.map_cons, List.map_nil]); first | done | (simp only [hji22]; rfl) | rfl | (simp only [List.length_drop, List.length_take]; rfl)) ?_
        with_reducible refine (foolscapref5_to.calls a1_0 ji22 t260 t261 t262 t263 t264 t265 _ A23.out).mono ?_
        rintro e w26 ⟨rfl, hb⟩
        refine ⟨_, rfl, ?_⟩
        have n0_ := Aside0.mk (blk_below (g := gb250) (o := .cells #[.int .i64 a1_0, .int .i64 a1_1] 24 (0, 0)) (by exact BK250.out) hb)
        have n1_ := Aside0.mk (blk_below (g := gb251) (o := .cells #[.int .i64 0, .int .i64 0, .int .i64 0, .bool false, .int .i64 0] 33 (0, 0)) (by exact BK251.out) hb)
        have n2_ := Aside0.mk (below_step (by repeat (first | (with_reducible first | exact HB.out | apply below_alloc | apply pw_below_drewN | apply below_drew1 | refine below_set ?_ GE250.out | refine below_set ?_ GE251.out) | exact HB.out)) hb)
        clear BK250
        clear BK251
        clear HB
        have BK250 := n0_
        have BK251 := n1_
        have HB := n2_
        clear n0_ n1_ n2_
        (try clear hb)
        (try clear hb2)
        (try clear hk)
        (try clear hi)
        refine hK.out _ _ ⟨(blk_cell BK250.out 0).trans rfl, (blk_cell BK250.out 1).trans rfl⟩ (fun hHeld => ?_)
        clear hK K
        refine norm_ (a' := ?_) ?_ ?_
        rotate_left
        · show Act.put _ (some 29) _ = _
          simp only [Act.put, List.setIfInBounds_toArray, List.set_cons_zero, List.set_cons_succ, i64_w, i32_w]
          rfl
        refine pure_ (i := 9) (N := some 30) (v := ?_) (a' := ?_) #[true, true, true, true, true, true, true, true, true, true, false, false, false] rfl rfl (any_of HT_.out (by kernel_rfl)) (fun _ _ _ h => h) (Or.inl ⟨by rfl, ?_⟩) ?_ ?_
        rotate_left
        · intro w'
          go_simp
          with_reducible rfl
        rotate_left
        · simp only [Act.put, List.setIfInBounds_toArray, List.set_cons_zero, List.set_cons_succ, i64_w, i32_w]
          rfl
        refine pure_ (i := 10) (N := some 31) (v := ?_) (a' := ?_) #[true, true, true, true, true, true, true, true, true, true, true, false, false] rfl rfl (any_of HT_.out (by kernel_rfl)) (fun _ _ _ h => h) (Or.inl ⟨by rfl, ?_⟩) ?_ ?_
        rotate_left
        · intro w'
          go_simp
          with_reducible rfl
        rotate_left
        · simp only [Act.put, List.setIfInBounds_toArray, List.set_cons_zero, List.set_cons_succ, i64_w, i32_w]
          rfl
        refine one_ (i := 11) (N := none) #[true, true, true, true, true, true, true, true, true, true, true, true, false] rfl rfl (one_of HT_.out (by kernel_rfl)) (by decide) (fun K hK => ?_)
        have hs27 : w26.cell? ⟨gb251, 0, none⟩ = some (.int .i64 0) := (blk_cell BK251.out 0).trans rfl
        have hfs27 := blk_frozen BK251.out 0
        have hns27_0 := NB250_251.out
        have hms27_0 := NB251_250.out
        have hs28 : w26.cell? ⟨gb251, 1, none⟩ = some (.int .i64 0) := (blk_cell BK251.out 1).trans rfl
        have hfs28 := blk_frozen BK251.out 1
        have hns28_0 := NB250_251.out
        have hms28_0 := NB251_250.out
        have hs29 : w26.cell? ⟨gb251, 2, none⟩ = some (.int .i64 0) := (blk_cell BK251.out 2).trans rfl
        have hfs29 := blk_frozen BK251.out 2
        have hns29_0 := NB250_251.out
        have hms29_0 := NB251_250.out
        have hs30 : w26.cell? ⟨gb251, 3, none⟩ = some (.bool false) := (blk_cell BK251.out 3).trans rfl
        have hfs30 := blk_frozen BK251.out 3
        have hns30_0 := NB250_251.out
        have hms30_0 := NB251_250.out
        have hs31 : w26.cell? ⟨gb251, 4, none⟩ = some (.int .i64 0) := (blk_cell BK251.out 4).trans rfl
        have hfs31 := blk_frozen BK251.out 4
        have hns31_0 := NB250_251.out
        have hms31_0 := NB251_250.out
        refine skip_ (w1 := ?_) (by rfl) rfl ?_ ?_
        rotate_left
        · go_simp
          rfl
        refine hK.out _ _ ⟨((cell_far (p := ⟨gb251, _, none⟩) NB250_251.out _).trans (((cell_far (p := ⟨gb251, _, none⟩) NB250_251.out _).trans (((cell_far (p := ⟨gb251, _, none⟩) NB250_251.out _).trans (((cell_far (p := ⟨gb251, _, none⟩) NB250_251.out _).trans (((cell_far (p := ⟨gb251, _, none⟩) NB250_251.out _).trans (hHeld.1)))))))))), ((cell_far (p := ⟨gb251, _, none⟩) NB250_251.out _).trans (((cell_far (p := ⟨gb251, _, none⟩) NB250_251.out _).trans (((cell_far (p := ⟨gb251, _, none⟩) NB250_251.out _).trans (((cell_far (p := ⟨gb251, _, none⟩) NB250_251.out _).trans (((cell_far (p := ⟨gb251, _, none⟩) NB250_251.out _).trans (hHeld.2))))))))))⟩ (fun hHeld => ?_)
        clear hK K
        refine pure_ (i := 12) (N := some 7) (v := ?_) (a' := ?_) #[true, true, true, true, true, true, true, true, true, true, true, true, true] rfl rfl (any_of HT_.out (by kernel_rfl)) (fun _ _ _ h => h) (Or.inl ⟨by rfl, ?_⟩) ?_ ?_
        rotate_left
        · intro w'
          go_simp
          with_reducible rfl
        rotate_left
        · simp only [Act.put, List.setIfInBounds_toArray, List.set_cons_zero, List.set_cons_succ, i64_w, i32_w]
          rfl
        refine done_ (done_of HT_.out (by kernel_rfl)) ?_
        try go_wp2
        refine bodyPost_ret (results_ct rfl _ _ gb251 33 #[.int .i64 t260, .int .i64 t261, .int .i64 t262, .bool t263, .int .i64 t264] (0, 0) _ rfl (by refine blk_put (cs := #[.int .i64 t260, .int .i64 t261, .int .i64 t262, .bool t263, .int .i64 0]) ?_ 4 _ rfl; refine blk_put (cs := #[.int .i64 t260, .int .i64 t261, .int .i64 t262, .bool false, .int .i64 0]) ?_ 3 _ rfl; refine blk_put (cs := #[.int .i64 t260, .int .i64 t261, .int .i64 0, .bool false, .int .i64 0]) ?_ 2 _ rfl; refine blk_put (cs := #[.int .i64 t260, .int .i64 0, .int .i64 0, .bool false, .int .i64 0]) ?_ 1 _ rfl; refine blk_put (cs := #[.int .i64 0, .int .i64 0, .int .i64 0, .bool false, .int .i64 0]) ?_ 0 _ rfl; exact BK251.out) Try.underlying33 rfl (by kernel_rfl)) rfl ?_
        exact ⟨by first | rfl | (simp [errW_none, errW_some] <;> rfl) | (simp only [← hji22]; first | rfl | (simp [errW_none, errW_some] <;> rfl)) | (simp [*, errW_none, errW_some] <;> rfl), by repeat (first | (with_reducible first | exact HB.out | apply below_alloc | apply pw_below_drewN | apply below_drew1 | refine below_set ?_ GE250.out | refine below_set ?_ GE251.out) | exact HB.out)⟩

end Go.Proofs.Ytdiakjamahdcfaa.V
namespace Go.Proofs.Ytdiakjamahdcfaa.V
open Go.RowKit Go.Proofs.YtdiakjamahdcfaaW.PrintWords Go.Proofs.YtdiakjamahdcfaaW.PrintLast Go.Proofs.YtdiakjamahdcfaaW.PrintMore
attribute [local go_sem] max2_int min2_int max_two min_two max_three min_three max_four min_four   -- for this text's walks alone
set_option linter.unusedVariables false
set_option linter.unusedSimpArgs false

/-! ### foolscapref5_Right: function 18 -/
mutual
def foolscapref5_Right.j0 : Nat → List ByteArray → Int → Int → Int → Int → Option (Int × Int × Int × Bool × Int × Bool)
  | 0, _, _, _, _, _ => none
  | k + 1, x0, x2, x10, x267000, x267001 => if 0 ≤ x267000 then (if x267000 < (x0.length : Int) then (if ((rdOf ByteArray.empty x0 x267000).size : Int) = 0 then (foolscapref5_Right.j1 k x2 x10 true x267000 x267001) else (foolscapref5_Right.j1 k x2 x10 (decide (x267001 ≥ x10)) x267000 x267001)) else (none)) else (none)
def foolscapref5_Right.j1 : Nat → Int → Int → Bool → Int → Int → Option (Int × Int × Int × Bool × Int × Bool)
  | 0, _, _, _, _, _ => none
  | k + 1, x2, x10, x41, x267000, x267001 => if x41 = true then ((foolscapref5_none.f).bind fun bt277 => (some (bt277.1, bt277.2.1, bt277.2.2.1, bt277.2.2.2.1, bt277.2.2.2.2.1, bt277.2.2.2.2.2))) else ((foolscapref5_capped.f x2).bind fun t283 => ((foolscapref5_to.f x267000 (mn (wrap64 (x267001 + t283)) x10)).bind fun bt284 => (some (bt284.1, bt284.2.1, bt284.2.2.1, bt284.2.2.2.1, bt284.2.2.2.2.1, bt284.2.2.2.2.2))))
end
def foolscapref5_Right.f (k : Nat) (l0 : List ByteArray) (a1_0 : Int) (a1_1 : Int) (a2 : Int) (a3 : Bool) : Option (Int × Int × Int × Bool × Int × Bool) := (foolscapref5_may.f l0 a1_0 a1_1 a2).bind fun t268 => (if t268 = true then (if 0 ≤ a1_0 then (if a1_0 < (l0.length : Int) then (if a3 = true then (foolscapref5_Right.j0 k l0 a2 ((rdOf ByteArray.empty l0 a1_0).size : Int) a1_0 a1_1) else (foolscapref5_Right.j0 k l0 a2 (wrap64 (((rdOf ByteArray.empty l0 a1_0).size : Int) - 1)) a1_0 a1_1)) else (none)) else (none)) else ((foolscapref5_none.f).bind fun bt269 => (some (bt269.1, bt269.2.1, bt269.2.2.1, bt269.2.2.2.1, bt269.2.2.2.2.1, bt269.2.2.2.2.2))))
theorem foolscapref5_Right.mono_l : ∀ k, (∀ y0 y1 y2 y3 y4, LeO (foolscapref5_Right.j0 k y0 y1 y2 y3 y4) (foolscapref5_Right.j0 (k + 1) y0 y1 y2 y3 y4)) ∧ (∀ y0 y1 y2 y3 y4, LeO (foolscapref5_Right.j1 k y0 y1 y2 y3 y4) (foolscapref5_Right.j1 (k + 1) y0 y1 y2 y3 y4))
  | 0 => ⟨fun _ _ _ _ _ r h => by simp [foolscapref5_Right.j0] at h, fun _ _ _ _ _ r h => by simp [foolscapref5_Right.j1] at h⟩
  | k + 1 => by
    obtain ⟨ih0, ih1⟩ := foolscapref5_Right.mono_l k
    refine ⟨?_, ?_⟩
    · intro y0 y1 y2 y3 y4
      unfold foolscapref5_Right.j0
      repeat' first
      | (with_reducible exact ih0 _ _ _ _ _)
      | (with_reducible exact ih1 _ _ _ _ _)
      | (with_reducible exact LeO.refl _)
      | (with_reducible exact LeO.none _)
      | (with_reducible refine LeO.ite ?_ ?_)
      | (with_reducible refine LeO.bind ?_ (fun _ => ?_))
      | exact ih0 _ _ _ _ _
      | exact ih1 _ _ _ _ _
      | exact LeO.none _
      | refine LeO.ite ?_ ?_
      | refine LeO.bind ?_ (fun _ => ?_)
    · intro y0 y1 y2 y3 y4
      unfold foolscapref5_Right.j1
      repeat' first
      | (with_reducible exact ih0 _ _ _ _ _)
      | (with_reducible exact ih1 _ _ _ _ _)
      | (with_reducible exact LeO.refl _)
      | (with_reducible exact LeO.none _)
      | (with_reducible refine LeO.ite ?_ ?_)
      | (with_reducible refine LeO.bind ?_ (fun _ => ?_))
      | exact ih0 _ _ _ _ _
      | exact ih1 _ _ _ _ _
      | exact LeO.none _
      | refine LeO.ite ?_ ?_
      | refine LeO.bind ?_ (fun _ => ?_)
theorem foolscapref5_Right.mono : ∀ a0 a1 a2 a3 a4 k, LeO (foolscapref5_Right.f k a0 a1 a2 a3 a4) (foolscapref5_Right.f (k + 1) a0 a1 a2 a3 a4) := by
  intro a0 a1 a2 a3 a4 k
  obtain ⟨ih0, ih1⟩ := foolscapref5_Right.mono_l k
  unfold foolscapref5_Right.f
  repeat' first
      | (with_reducible exact ih0 _ _ _ _ _)
      | (with_reducible exact ih1 _ _ _ _ _)
      | (with_reducible exact LeO.refl _)
      | (with_reducible exact LeO.none _)
      | (with_reducible refine LeO.ite ?_ ?_)
      | (with_reducible refine LeO.bind ?_ (fun _ => ?_))
      | exact ih0 _ _ _ _ _
      | exact ih1 _ _ _ _ _
      | exact LeO.none _
      | refine LeO.ite ?_ ?_
      | refine LeO.bind ?_ (fun _ => ?_)
def foolscapref5_Right.T8 : Bool × List (List Nat × List Nat) := (true, [([], []), ([0], [0]), ([], []), ([2], [2]), ([], []), ([4], [4]), ([3, 5], [3, 5]), ([], []), ([6, 7], [6, 7]), ([1, 8, 5], [1, 8]), ([9], [9]), ([9], [9]), ([10, 9, 0, 1, 2, 3, 4, 5, 6, 7, 8, 9, 10, 11], [10]), ([11, 12, 0, 1, 2, 3, 4, 5, 6, 7, 8, 9, 10, 11, 12], [11])])
def foolscapref5_Right.B8 : List Nat := [0, 1, 0, 4, 0, 16, 60, 0, 252, 511, 1023, 1023, 4095, 8191]
theorem foolscapref5_Right.tab8 : rtab .any (opsOf Try.f18 8) = foolscapref5_Right.T8 := by kernel_rfl
theorem foolscapref5_Right.bits8 : waitsOk foolscapref5_Right.T8.2 foolscapref5_Right.B8 = true := by kernel_rfl
set_option maxHeartbeats 8000000 in
set_option maxRecDepth 100000 in
theorem foolscapref5_Right.calls (k : Nat) (A0 : Option Addr) (c0 : Nat) (l0 : List ByteArray) (a1_0 : Int) (a1_1 : Int) (a2 : Int) (a3 : Bool) (r1 : Int) (r2 : Int) (r3 : Int) (r4 : Bool) (r5 : Int) (r6 : Bool) (w : World) (hr0 : Kd.C Kd.string w A0 l0.length l0) (hc0 : l0.length ≤ c0) (h : foolscapref5_Right.f k l0 a1_0 a1_1 a2 a3 = some (r1, r2, r3, r4, r5, r6)) :
    Calls Try.prog 18 #[.slice A0 l0.length c0, .agg #[.int .i64 a1_0, .int .i64 a1_1], .int .i64 a2, .bool a3] w fun e w' => e = .returned (.tuple #[.agg #[.int .i64 r1, .int .i64 r2, .int .i64 r3, .bool r4, .int .i64 r5], .bool r6]) ∧ Below w.heap.size w w' := by
  have hu24 := Try.underlying24
  have hu33 := Try.underlying33
  have HR0 := Aside0.mk hr0
  have HC0 := Aside0.mk hc0
  clear hr0 hc0
  have HB := Aside0.mk (Below.refl w.heap.size w)
  have H : ((foolscapref5_may.f l0 a1_0 a1_1 a2).bind fun t268 => (if t268 = true then (if 0 ≤ a1_0 then (if a1_0 < (l0.length : Int) then (if a3 = true then (foolscapref5_Right.j0 k l0 a2 ((rdOf ByteArray.empty l0 a1_0).size : Int) a1_0 a1_1) else (foolscapref5_Right.j0 k l0 a2 (wrap64 (((rdOf ByteArray.empty l0 a1_0).size : Int) - 1)) a1_0 a1_1)) else (none)) else (none)) else ((foolscapref5_none.f).bind fun bt269 => (some (bt269.1, bt269.2.1, bt269.2.2.1, bt269.2.2.2.1, bt269.2.2.2.2.1, bt269.2.2.2.2.2))))) = some (r1, r2, r3, r4, r5, r6) := h
  clear h
  replace H := Option.bind_eq_some_iff.mp H
  obtain ⟨t268, A50, H⟩ := H
  replace H : (if t268 = true then (if 0 ≤ a1_0 then (if a1_0 < (l0.length : Int) then (if a3 = true then (foolscapref5_Right.j0 k l0 a2 ((rdOf ByteArray.empty l0 a1_0).size : Int) a1_0 a1_1) else (foolscapref5_Right.j0 k l0 a2 (wrap64 (((rdOf ByteArray.empty l0 a1_0).size : Int) - 1)) a1_0 a1_1)) else (none)) else (none)) else ((foolscapref5_none.f).bind fun bt269 => (some (bt269.1, bt269.2.1, bt269.2.2.1, bt269.2.2.2.1, bt269.2.2.2.2.1, bt269.2.2.2.2.2)))) = some (r1, r2, r3, r4, r5, r6) := H
  have A5 := Aside0.mk A50
  clear A50
  by_cases c6 : t268 = true
  · subst c6
    have H1 : (if 0 ≤ a1_0 then (if a1_0 < (l0.length : Int) then (if a3 = true then (foolscapref5_Right.j0 k l0 a2 ((rdOf ByteArray.empty l0 a1_0).size : Int) a1_0 a1_1) else (foolscapref5_Right.j0 k l0 a2 (wrap64 (((rdOf ByteArray.empty l0 a1_0).size : Int) - 1)) a1_0 a1_1)) else (none)) else (none)) = some (r1, r2, r3, r4, r5, r6) := by rw [if_pos rfl] at H; exact H
    clear H
    have H := H1
    clear H1
    by_cases c7 : 0 ≤ a1_0
    · rw [if_pos c7] at H
      have c7b0 : decide (0 ≤ a1_0) = true := decide_eq_true c7
      clear c7
      by_cases c8 : a1_0 < (l0.length : Int)
      · rw [if_pos c8] at H
        have c8b0 : decide (a1_0 < (l0.length : Int)) = true := decide_eq_true c8
        clear c8
        have HC9 := Aside0.mk H
        clear H
        go_enter Try.func18, Try.ntmps18
        go_upto_if 26 with (first | ((with_reducible refine gate_dst (N := 5) rfl ?_); refine box_event ?hg (N := 5) ?hd (cs := #[.int .i64 a1_0, .int .i64 a1_1]) (t := 24) ?hr ?_; (case hd => rfl); (case hg => rfl); (case hr => first | (go_simp; done) | (go_simp; rfl)); intro gb266 hg w10 hbox hb; have n0_ := Aside0.mk (below_step (by repeat (first | (with_reducible first | exact HB.out | apply below_alloc | apply pw_below_drewN | apply below_drew1) | exact HB.out)) hb); have n1_ := Aside0.mk (hbox); have n2_ := Aside0.mk ((by rw [hg]; exact (below_size (by repeat (first | (with_reducible first | exact HB.out | apply below_alloc | apply pw_below_drewN | apply below_drew1) | exact HB.out))) : w.heap.size ≤ gb266)); have n3_ := Aside0.mk ((by rw [hg]; exact (below_size (by repeat (first | (with_reducible first | exact HB.out | apply below_alloc | apply pw_below_drewN | apply below_drew1) | exact HB.out))) : w.heap.size ≤ gb266)); clear HB; have HB := n0_; have BK266 := n1_; have GW266 := n2_; have GE266 := n3_; clear n0_ n1_ n2_ n3_; clear hb hbox hg) | ((with_reducible refine gate_dst (N := 8) rfl ?_); refine box_event ?hg (N := 8) ?hd (cs := #[.int .i64 0, .int .i64 0, .int .i64 0, .bool false, .int .i64 0]) (t := 33) ?hr ?_; (case hd => rfl); (case hg => rfl); (case hr => first | (go_simp; done) | (go_simp; rfl)); intro gb267 hg w11 hbox hb; have n0_ := Aside0.mk (blk_below (g := gb266) (o := .cells #[.int .i64 a1_0, .int .i64 a1_1] 24 (0, 0)) (by exact BK266.out) hb); have n1_ := Aside0.mk (below_step (by repeat (first | (with_reducible first | exact HB.out | apply below_alloc | apply pw_below_drewN | apply below_drew1 | refine below_set ?_ GE266.out) | exact HB.out)) hb); have n2_ := Aside0.mk (hbox); have n3_ := Aside0.mk ((by rw [hg]; exact (below_size (by repeat (first | (with_reducible first | exact HB.out | apply below_alloc | apply pw_below_drewN | apply below_drew1 | refine below_set ?_ GE266.out) | exact HB.out))) : w.heap.size ≤ gb267)); have n4_ := Aside0.mk ((by rw [hg]; exact (below_size (by repeat (first | (with_reducible first | exact HB.out | apply below_alloc | apply pw_below_drewN | apply below_drew1 | refine below_set ?_ GE266.out) | exact HB.out))) : w.heap.size ≤ gb267)); have n5_ := Aside0.mk ((by rw [hg]; exact Nat.ne_of_lt (blk_lt (g := gb266) (o := .cells #[.int .i64 a1_0, .int .i64 a1_1] 24 (0, 0)) (by exact BK266.out)) : gb266 ≠ gb267)); have n6_ := Aside0.mk ((by rw [hg]; exact Nat.ne_of_gt (blk_lt (g := gb266) (o := .cells #[.int .i64 a1_0, .int .i64 a1_1] 24 (0, 0)) (by exact BK266.out)) : gb267 ≠ gb266)); clear BK266; clear HB; have BK266 := n0_; have HB := n1_; have BK267 := n2_; have GW267 := n3_; have GE267 := n4_; have NB266_267 := n5_; have NB267_266 := n6_; clear n0_ n1_ n2_ n3_ n4_ n5_ n6_; clear hb hbox hg; have hnb12 := NB266_267.out; have hnc12 := NB267_266.out; have hcz13_0 : w11.cell? ⟨gb266, 0, none⟩ = some (.int .i64 a1_0) := (blk_cell BK266.out 0).trans rfl; have hcz13_1 : w11.cell? ⟨gb266, 1, none⟩ = some (.int .i64 a1_1) := (blk_cell BK266.out 1).trans rfl; have hfz13_0 := blk_frozen BK266.out 0; have hfz13_1 := blk_frozen BK266.out 1) | ((with_reducible refine gate_callee (f := 31) rfl ?_); refine goesL_ (some 14) rfl rfl Try.func31 (by kernel_rfl) rfl #[.slice A0 l0.length c0, .agg #[.int .i64 a1_0, .int .i64 a1_1], .int .i64 a2] rfl (by (try simp only [List.map_toArray, List.map_cons, List.map_nil]); first | done | rfl | (simp only [List.length_drop, List.length_take]; rfl)) ?_; (with_reducible refine (foolscapref5_may.calls _ _ l0 a1_0 a1_1 a2 true _ ?side1 ?side2 A5.out).mono ?_); (case side1 => repeat (first | exact (Kd.C_below HR0.out HB.out) | (with_reducible refine Kd.C_alloc ?_ _) | (with_reducible refine Kd.C_drewN ?_ _) | (with_reducible refine Kd.C_drew ?_))); (case side2 => exact HC0.out); rintro e w14 ⟨rfl, hb⟩; refine ⟨_, rfl, ?_⟩; have n0_ := Aside0.mk (blk_below (g := gb266) (o := .cells #[.int .i64 a1_0, .int .i64 a1_1] 24 (0, 0)) (by exact BK266.out) hb); have n1_ := Aside0.mk (blk_below (g := gb267) (o := .cells #[.int .i64 0, .int .i64 0, .int .i64 0, .bool false, .int .i64 0] 33 (0, 0)) (by exact BK267.out) hb); have n2_ := Aside0.mk (below_step (by repeat (first | (with_reducible first | exact HB.out | apply below_alloc | apply pw_below_drewN | apply below_drew1 | refine below_set ?_ GE266.out | refine below_set ?_ GE267.out) | exact HB.out)) hb); clear BK266; clear BK267; clear HB; have BK266 := n0_; have BK267 := n1_; have HB := n2_; clear n0_ n1_ n2_; (try clear hb); (try clear hb2); (try clear hk); (try clear hi); have hcz15_0 : w14.cell? ⟨gb266, 0, none⟩ = some (.int .i64 a1_0) := (blk_cell BK266.out 0).trans rfl; have hcz15_1 : w14.cell? ⟨gb266, 1, none⟩ = some (.int .i64 a1_1) := (blk_cell BK266.out 1).trans rfl; have hfz15_0 := blk_frozen BK266.out 0; have hfz15_1 := blk_frozen BK266.out 1; have p275 : 0 ≤ (a1_0 : Int) := of_decide_eq_true (by first | (with_reducible assumption) | assumption); have q275 : a1_0 < (l0.length : Int) := of_decide_eq_true (by first | (with_reducible assumption) | assumption); obtain ⟨ad275, e275, hx275_0⟩ := Kd.at_string HR0.out a1_0 p275 q275; cases e275; replace hx275_0 := (HB.out.cell (World.block_lt_of_cell? w _ hx275_0)).trans hx275_0; replace p275 := eq_true p275; replace q275 := eq_true q275))
        (try simp only [Act.put, List.setIfInBounds_toArray, List.set_cons_zero, List.set_cons_succ])
        go_cut [10] (fun v10 wc => ∃ (kq : Nat) (x10_8 : Int), v10 = .int .i64 x10_8 ∧ Aside0 (foolscapref5_Right.j0 kq l0 a2 x10_8 a1_0 a1_1 = some (r1, r2, r3, r4, r5, r6)) ∧ Aside0 (kq ≤ k) ∧ Aside0 (wc.heap[gb266]? = some (.cells #[.int .i64 a1_0, .int .i64 a1_1] 24 (0, 0))) ∧ Aside0 (wc.heap[gb267]? = some (.cells #[.int .i64 0, .int .i64 0, .int .i64 0, .bool false, .int .i64 0] 33 (0, 0))) ∧ Aside0 (Below w.heap.size w wc))
        case first =>
          have H := HC9.out
          clear HC9
          by_cases c16 : a3 = true
          · subst c16
            have H1 : (foolscapref5_Right.j0 k l0 a2 ((rdOf ByteArray.empty l0 a1_0).size : Int) a1_0 a1_1) = some (r1, r2, r3, r4, r5, r6) := by rw [if_pos rfl] at H; exact H
            clear H
            have H := H1
            clear H1
            have H' := Aside0.mk H
            clear H
            go_wp2
            go_meet
            case rel => exact ⟨_, (((rdOf ByteArray.empty l0 a1_0).size : Int)), (by first | rfl | (simp; done) | (simp [*]; done)), H', ⟨by first | omega | exact Nat.le_refl _⟩, ⟨by exact BK266.out⟩, ⟨by exact BK267.out⟩, ⟨by repeat (first | (with_reducible first | exact HB.out | apply below_alloc | apply pw_below_drewN | apply below_drew1 | refine below_set ?_ GE266.out | refine below_set ?_ GE267.out) | exact HB.out)⟩⟩
          · replace c16 := Bool.eq_false_iff.mpr c16
            subst c16
            have H1 : (foolscapref5_Right.j0 k l0 a2 (wrap64 (((rdOf ByteArray.empty l0 a1_0).size : Int) - 1)) a1_0 a1_1) = some (r1, r2, r3, r4, r5, r6) := by rw [if_neg (show ¬ (false = true) by decide)] at H; exact H
            clear H
            have H := H1
            clear H1
            have H' := Aside0.mk H
            clear H
            go_wp2
            go_meet
            case rel => exact ⟨_, (wrap64 (((rdOf ByteArray.empty l0 a1_0).size : Int) - 1)), (by first | rfl | (simp; done) | (simp [*]; done)), H', ⟨by first | omega | exact Nat.le_refl _⟩, ⟨by exact BK266.out⟩, ⟨by exact BK267.out⟩, ⟨by repeat (first | (with_reducible first | exact HB.out | apply below_alloc | apply pw_below_drewN | apply below_drew1 | refine below_set ?_ GE266.out | refine below_set ?_ GE267.out) | exact HB.out)⟩⟩
        case rest =>
          clear HC9
          try clear c1
          try clear p2
          try clear q2
          try clear hx2
          try clear c3
          try clear c6
          try clear p6
          try clear c7
          try clear c7b0
          try clear c8
          try clear c8b0
          try clear c12
          try clear c16
          try clear hcz13_0
          try clear hcz13_1
          try clear hcz15_0
          try clear hcz15_1
          try clear hfz13_0
          try clear hfz13_1
          try clear hfz15_0
          try clear hfz15_1
          try clear hx275_0
          try clear p275
          try clear q275
          obtain ⟨kq, x10_8, rfl, HA, HJ8, BK266, BK267, HB⟩ := hcut
          cases kq with
          | zero => exact absurd HA.out (by simp [foolscapref5_Right.j0])
          | succ kj8 =>
            have H := HA.out
            clear HA
            simp only [foolscapref5_Right.j0] at H
            have HC17 := Aside0.mk H
            clear H
            go_upto_region 6 with (fail)
            go_cut [41] (fun v41 wc => ∃ (kq : Nat) (x41_16 : Bool), v41 = .bool x41_16 ∧ Aside0 (foolscapref5_Right.j1 kq a2 x10_8 x41_16 a1_0 a1_1 = some (r1, r2, r3, r4, r5, r6)) ∧ Aside0 (kq ≤ kj8) ∧ Aside0 (wc.heap[gb266]? = some (.cells #[.int .i64 a1_0, .int .i64 a1_1] 24 (0, 0))) ∧ Aside0 (wc.heap[gb267]? = some (.cells #[.int .i64 0, .int .i64 0, .int .i64 0, .bool false, .int .i64 0] 33 (0, 0))) ∧ Aside0 (Below w.heap.size w wc))
            case first =>
              have H := HC17.out
              clear HC17
              by_cases c18 : 0 ≤ a1_0
              · rw [if_pos c18] at H
                have c18b0 : decide (0 ≤ a1_0) = true := decide_eq_true c18
                clear c18
                (first | rw [c18b0] | (simp only [i64_w, i32_w]; rw [c18b0]) | skip)
                by_cases c19 : a1_0 < (l0.length : Int)
                · rw [if_pos c19] at H
                  have c19b0 : decide (a1_0 < (l0.length : Int)) = true := decide_eq_true c19
                  clear c19
                  by_cases c20 : ((rdOf ByteArray.empty l0 a1_0).size : Int) = 0
                  · rw [if_pos c20] at H
                    have c20b0 : (((rdOf ByteArray.empty l0 a1_0).size : Int) == 0) = true := beq_iff_eq.mpr c20
                    have c20b1 : (((rdOf ByteArray.empty l0 a1_0).size : Int) != 0) = false := bne_eq_false_iff_eq.mpr c20
                    clear c20
                    have H' := Aside0.mk H
                    clear H
                    have hnb21 := NB266_267.out
                    have hnc21 := NB267_266.out
                    have hcz22_0 : wc.cell? ⟨gb266, 0, none⟩ = some (.int .i64 a1_0) := (blk_cell BK266.out 0).trans rfl
                    have hcz22_1 : wc.cell? ⟨gb266, 1, none⟩ = some (.int .i64 a1_1) := (blk_cell BK266.out 1).trans rfl
                    have hfz22_0 := blk_frozen BK266.out 0
                    have hfz22_1 := blk_frozen BK266.out 1
                    have p276 : 0 ≤ (a1_0 : Int) := of_decide_eq_true (by first | (with_reducible assumption) | assumption)
                    have q276 : a1_0 < (l0.length : Int) := of_decide_eq_true (by first | (with_reducible assumption) | assumption)
                    obtain ⟨ad276, e276, hx276_0⟩ := Kd.at_string HR0.out a1_0 p276 q276
                    obtain rfl : ad275 = ad276 := (by injection e276)
                    replace hx276_0 := (HB.out.cell (World.block_lt_of_cell? w _ hx276_0)).trans hx276_0
                    replace p276 := eq_true p276
                    replace q276 := eq_true q276
                    go_wp2
                    go_meet
                    case rel => exact ⟨_, (true), (by first | rfl | (simp; done) | (simp [*]; done)), H', ⟨by have := HJ8.out; first | omega | exact Nat.le_refl _⟩, ⟨by exact BK266.out⟩, ⟨by exact BK267.out⟩, ⟨by repeat (first | (with_reducible first | exact HB.out | apply below_alloc | apply pw_below_drewN | apply below_drew1 | refine below_set ?_ GE266.out | refine below_set ?_ GE267.out) | exact HB.out)⟩⟩
                  · rw [if_neg c20] at H
                    have c20b0 : (((rdOf ByteArray.empty l0 a1_0).size : Int) == 0) = false := beq_eq_false_iff_ne.mpr c20
                    have c20b1 : (((rdOf ByteArray.empty l0 a1_0).size : Int) != 0) = true := bne_iff_ne.mpr c20
                    have H' := Aside0.mk H
                    clear H
                    have hnb23 := NB266_267.out
                    have hnc23 := NB267_266.out
                    have hcz24_0 : wc.cell? ⟨gb266, 0, none⟩ = some (.int .i64 a1_0) := (blk_cell BK266.out 0).trans rfl
                    have hcz24_1 : wc.cell? ⟨gb266, 1, none⟩ = some (.int .i64 a1_1) := (blk_cell BK266.out 1).trans rfl
                    have hfz24_0 := blk_frozen BK266.out 0
                    have hfz24_1 := blk_frozen BK266.out 1
                    have p276 : 0 ≤ (a1_0 : Int) := of_decide_eq_true (by first | (with_reducible assumption) | assumption)
                    have q276 : a1_0 < (l0.length : Int) := of_decide_eq_true (by first | (with_reducible assumption) | assumption)
                    obtain ⟨ad276, e276, hx276_0⟩ := Kd.at_string HR0.out a1_0 p276 q276
                    obtain rfl : ad275 = ad276 := (by injection e276)
                    replace hx276_0 := (HB.out.cell (World.block_lt_of_cell? w _ hx276_0)).trans hx276_0
                    replace p276 := eq_true p276
                    replace q276 := eq_true q276
                    go_wp2
                    go_meet
                    case rel => exact ⟨_, (decide (a1_1 ≥ x10_8)), (by first | rfl | (simp; done) | (simp [*]; done)), H', ⟨by have := HJ8.out; first | omega | exact Nat.le_refl _⟩, ⟨by exact BK266.out⟩, ⟨by exact BK267.out⟩, ⟨by repeat (first | (with_reducible first | exact HB.out | apply below_alloc | apply pw_below_drewN | apply below_drew1 | refine below_set ?_ GE266.out | refine below_set ?_ GE267.out) | exact HB.out)⟩⟩
                · rw [if_neg c19] at H
                  exact absurd H (by simp)
              · rw [if_neg c18] at H
                exact absurd H (by simp)
            case rest =>
              clear HC17
              try clear c1
              try clear c2
              try clear p2
              try clear q2
              try clear hx2
              try clear c3
              try clear c6
              try clear p6
              try clear c7
              try clear c7b0
              try clear c8
              try clear c8b0
              try clear c12
              try clear c16
              try clear c18
              try clear c18b0
              try clear c19
              try clear c19b0
              try clear c20
              try clear c20b0
              try clear c20b1
              try clear c21
              try clear c23
              try clear hcz13_0
              try clear hcz13_1
              try clear hcz15_0
              try clear hcz15_1
              try clear hcz22_0
              try clear hcz22_1
              try clear hcz24_0
              try clear hcz24_1
              try clear hfz13_0
              try clear hfz13_1
              try clear hfz15_0
              try clear hfz15_1
              try clear hfz22_0
              try clear hfz22_1
              try clear hfz24_0
              try clear hfz24_1
              try clear hx275_0
              try clear hx276_0
              try clear p2
              try clear p275
              try clear p276
              try clear p6
              try clear q2
              try clear q275
              try clear q276
              obtain ⟨kq, x41_16, rfl, HA, HJ16, BK266, BK267, HB⟩ := hcut
              cases kq with
              | zero => exact absurd HA.out (by simp [foolscapref5_Right.j1])
              | succ kj16 =>
                have H := HA.out
                clear HA
                simp only [foolscapref5_Right.j1] at H
                by_cases c25 : x41_16 = true
                · subst c25
                  have H1 : ((foolscapref5_none.f).bind fun bt277 => (some (bt277.1, bt277.2.1, bt277.2.2.1, bt277.2.2.2.1, bt277.2.2.2.2.1, bt277.2.2.2.2.2))) = some (r1, r2, r3, r4, r5, r6) := by rw [if_pos rfl] at H; exact H
                  clear H
                  have H := H1
                  clear H1
                  replace H := Option.bind_eq_some_iff.mp H
                  obtain ⟨⟨t277, t278, t279, t280, t281, t282⟩, A260, H⟩ := H
                  replace H : (some (t277, t278, t279, t280, t281, t282)) = some (r1, r2, r3, r4, r5, r6) := H
                  have A26 := Aside0.mk A260
                  clear A260
                  simp only [Option.some.injEq, Prod.mk.injEq] at H
                  obtain ⟨rfl, rfl, rfl, rfl, rfl, rfl⟩ := H
                  go_wp2_with (first | ((with_reducible refine gate_callee (f := 32) rfl ?_); refine goesL_ (some 42) rfl rfl Try.func32 (by kernel_rfl) rfl #[] rfl (by (try simp only [List.map_toArray, List.map_cons, List.map_nil]); first | done | rfl | (simp only [List.length_drop, List.length_take]; rfl)) ?_; (with_reducible refine (foolscapref5_none.calls  t277 t278 t279 t280 t281 t282 _ A26.out).mono ?_); rintro e w27 ⟨rfl, hb⟩; refine ⟨_, rfl, ?_⟩; have n0_ := Aside0.mk (blk_below (g := gb266) (o := .cells #[.int .i64 a1_0, .int .i64 a1_1] 24 (0, 0)) (by exact BK266.out) hb); have n1_ := Aside0.mk (blk_below (g := gb267) (o := .cells #[.int .i64 0, .int .i64 0, .int .i64 0, .bool false, .int .i64 0] 33 (0, 0)) (by exact BK267.out) hb); have n2_ := Aside0.mk (below_step (by repeat (first | (with_reducible first | exact HB.out | apply below_alloc | apply pw_below_drewN | apply below_drew1 | refine below_set ?_ GE266.out | refine below_set ?_ GE267.out) | exact HB.out)) hb); clear BK266; clear BK267; clear HB; have BK266 := n0_; have BK267 := n1_; have HB := n2_; clear n0_ n1_ n2_; (try clear hb); (try clear hb2); (try clear hk); (try clear hi); have hnb28 := NB267_266.out; have hnc28 := NB266_267.out; have hcz29_0 : w27.cell? ⟨gb267, 0, none⟩ = some (.int .i64 0) := (blk_cell BK267.out 0).trans rfl; have hcz29_1 : w27.cell? ⟨gb267, 1, none⟩ = some (.int .i64 0) := (blk_cell BK267.out 1).trans rfl; have hcz29_2 : w27.cell? ⟨gb267, 2, none⟩ = some (.int .i64 0) := (blk_cell BK267.out 2).trans rfl; have hcz29_3 : w27.cell? ⟨gb267, 3, none⟩ = some (.bool false) := (blk_cell BK267.out 3).trans rfl; have hcz29_4 : w27.cell? ⟨gb267, 4, none⟩ = some (.int .i64 0) := (blk_cell BK267.out 4).trans rfl; have hfz29_0 := blk_frozen BK267.out 0; have hfz29_1 := blk_frozen BK267.out 1; have hfz29_2 := blk_frozen BK267.out 2; have hfz29_3 := blk_frozen BK267.out 3; have hfz29_4 := blk_frozen BK267.out 4))
                  refine bodyPost_ret (results_ct rfl _ _ gb267 33 #[.int .i64 t277, .int .i64 t278, .int .i64 t279, .bool t280, .int .i64 t281] (0, 0) _ rfl (by refine blk_put (cs := #[.int .i64 t277, .int .i64 t278, .int .i64 t279, .bool t280, .int .i64 0]) ?_ 4 _ rfl; refine blk_put (cs := #[.int .i64 t277, .int .i64 t278, .int .i64 t279, .bool false, .int .i64 0]) ?_ 3 _ rfl; refine blk_put (cs := #[.int .i64 t277, .int .i64 t278, .int .i64 0, .bool false, .int .i64 0]) ?_ 2 _ rfl; refine blk_put (cs := #[.int .i64 t277, .int .i64 0, .int .i64 0, .bool false, .int .i64 0]) ?_ 1 _ rfl; refine blk_put (cs := #[.int .i64 0, .int .i64 0, .int .i64 0, .bool false, .int .i64 0]) ?_ 0 _ rfl; exact BK267.out) Try.underlying33 rfl (by kernel_rfl)) rfl ?_
                  exact ⟨by first | rfl | (simp [errW_none, errW_some] <;> rfl) | (simp [*, errW_none, errW_some] <;> rfl), by repeat (first | (with_reducible first | exact HB.out | apply below_alloc | apply pw_below_drewN | apply below_drew1 | refine below_set ?_ GE266.out | refine below_set ?_ GE267.out) | exact HB.out)⟩
                · replace c25 := Bool.eq_false_iff.mpr c25
                  subst c25
                  have H1 : ((foolscapref5_capped.f a2).bind fun t283 => ((foolscapref5_to.f a1_0 (mn (wrap64 (a1_1 + t283)) x10_8)).bind fun bt284 => (some (bt284.1, bt284.2.1, bt284.2.2.1, bt284.2.2.2.1, bt284.2.2.2.2.1, bt284.2.2.2.2.2)))) = some (r1, r2, r3, r4, r5, r6) := by rw [if_neg (show ¬ (false = true) by decide)] at H; exact H
                  clear H
                  have H := H1
                  clear H1
                  replace H := Option.bind_eq_some_iff.mp H
                  obtain ⟨t283, A300, H⟩ := H
                  replace H : ((foolscapref5_to.f a1_0 (mn (wrap64 (a1_1 + t283)) x10_8)).bind fun bt284 => (some (bt284.1, bt284.2.1, bt284.2.2.1, bt284.2.2.2.1, bt284.2.2.2.2.1, bt284.2.2.2.2.2))) = some (r1, r2, r3, r4, r5, r6) := H
                  have A30 := Aside0.mk A300
                  clear A300
                  obtain ⟨ji31, hji31⟩ : ∃ j_ : Int, (mn (wrap64 (a1_1 + t283)) x10_8) = j_ := ⟨_, rfl⟩
                  replace H : ((foolscapref5_to.f a1_0 (ji31)).bind fun bt284 => (some (bt284.1, bt284.2.1, bt284.2.2.1, bt284.2.2.2.1, bt284.2.2.2.2.1, bt284.2.2.2.2.2))) = some (r1, r2, r3, r4, r5, r6) := by first | (rw [hji31] at H; exact H) | (simp only [hji31] at H ⊢; exact H)
                  (try rw [hji31] at A30)
                  have hji31_ : (if x10_8 < (wrap64 (a1_1 + t283)) then x10_8 else (wrap64 (a1_1 + t283))) = ji31 := hji31
                  replace H := Option.bind_eq_some_iff.mp H
                  obtain ⟨⟨t284, t285, t286, t287, t288, t289⟩, A320, H⟩ := H
                  replace H : (some (t284, t285, t286, t287, t288, t289)) = some (r1, r2, r3, r4, r5, r6) := H
                  have A32 := Aside0.mk A320
                  clear A320
                  simp only [Option.some.injEq, Prod.mk.injEq] at H
                  obtain ⟨rfl, rfl, rfl, rfl, rfl, rfl⟩ := H
                  try go_wp2
                  have n0_ := Aside0.mk (blk_drew BK266.out)
                  have n1_ := Aside0.mk (blk_drew BK267.out)
                  have n2_ := Aside0.mk (below_drew1 HB.out)
                  clear BK266
                  clear BK267
                  clear HB
                  have BK266 := n0_
                  have BK267 := n1_
                  have HB := n2_
                  clear n0_ n1_ n2_
                  refine start_ (n := 14) (S := fun w' => w'.cell? ⟨gb266, 0, none⟩ = some (.int .i64 a1_0) ∧ w'.cell? ⟨gb266, 1, none⟩ = some (.int .i64 a1_1)) (ds := []) #[false, false, false, false, false, false, false, false, false, false, false, false, false, false] (by kernel_rfl) rfl rfl ⟨(blk_cell BK266.out 0).trans rfl, (blk_cell BK266.out 1).trans rfl⟩ (fun hHeld => ?_); refine with_tabW foolscapref5_Right.tab8 foolscapref5_Right.bits8 (fun HT_ HW_ => ?_)
                  generalize wc.drew = w33 at BK266 BK267 HB hHeld ⊢
                  refine pure_ (i := 0) (N := some 45) (v := ?_) (a' := ?_) #[true, false, false, false, false, false, false, false, false, false, false, false, false, false] rfl rfl (any_of HT_.out (by kernel_rfl)) (fun _ _ _ h => h) (Or.inl ⟨by rfl, ?_⟩) ?_ ?_
                  rotate_left
                  · intro w'
                    go_simp
                    with_reducible rfl
                  rotate_left
                  · simp only [Act.put, List.setIfInBounds_toArray, List.set_cons_zero, List.set_cons_succ, i64_w, i32_w]
                    rfl
                  refine pure_ (i := 2) (N := some 47) (v := ?_) (a' := ?_) #[true, false, true, false, false, false, false, false, false, false, false, false, false, false] rfl rfl (any_of HT_.out (by kernel_rfl)) (fun _ _ _ h => h) (Or.inl ⟨by rfl, ?_⟩) ?_ ?_
                  rotate_left
                  · intro w'
                    go_simp
                    with_reducible rfl
                  rotate_left
                  · simp only [Act.put, List.setIfInBounds_toArray, List.set_cons_zero, List.set_cons_succ, i64_w, i32_w]
                    rfl
                  refine pure_ (i := 4) (N := some 49) (v := ?_) (a' := ?_) #[true, false, true, false, true, false, false, false, false, false, false, false, false, false] rfl rfl (any_of HT_.out (by kernel_rfl)) (fun _ _ _ h => h) (Or.inl ⟨by rfl, ?_⟩) ?_ ?_
                  rotate_left
                  · intro w'
                    go_simp
                    with_reducible rfl
                  rotate_left
                  · simp only [Act.put, List.setIfInBounds_toArray, List.set_cons_zero, List.set_cons_succ, i64_w, i32_w]
                    rfl
                  refine pure_ (i := 7) (N := some 52) (v := ?_) (a' := ?_) #[true, false, true, false, true, false, false, true, false, false, false, false, false, false] rfl rfl (any_of HT_.out (by kernel_rfl)) (fun _ _ _ h => h) (Or.inl ⟨by rfl, ?_⟩) ?_ ?_
                  rotate_left
                  · intro w'
                    go_simp
                    with_reducible rfl
                  rotate_left
                  · simp only [Act.put, List.setIfInBounds_toArray, List.set_cons_zero, List.set_cons_succ, i64_w, i32_w]
                    rfl
                  refine take_ (i := 1) (N := some 46) (v := ?_) (a' := ?_) #[true, true, true, false, true, false, false, true, false, false, false, false, false, false] rfl rfl (take_ofW HT_.out HW_.out (by kernel_rfl)) (fun _ _ _ h => h) (Or.inl ⟨by rfl, ?_⟩) hHeld ?_ ?_
                  rotate_left
                  · rintro w' ⟨s0, s1⟩
                    go_simp
                    with_reducible rfl
                  rotate_left
                  · simp only [Act.put, List.setIfInBounds_toArray, List.set_cons_zero, List.set_cons_succ, i64_w, i32_w]
                    rfl
                  refine take_ (i := 3) (N := some 48) (v := ?_) (a' := ?_) #[true, true, true, true, true, false, false, true, false, false, false, false, false, false] rfl rfl (take_ofW HT_.out HW_.out (by kernel_rfl)) (fun _ _ _ h => h) (Or.inl ⟨by rfl, ?_⟩) hHeld ?_ ?_
                  rotate_left
                  · rintro w' ⟨s0, s1⟩
                    go_simp
                    with_reducible rfl
                  rotate_left
                  · simp only [Act.put, List.setIfInBounds_toArray, List.set_cons_zero, List.set_cons_succ, i64_w, i32_w]
                    rfl
                  refine one_ (i := 5) (N := some 50) #[true, true, true, true, true, true, false, true, false, false, false, false, false, false] rfl rfl (one_of HT_.out (by kernel_rfl)) (by decide) (fun K hK => ?_)
                  refine goes_ Try.func34 (by kernel_rfl) rfl #[.int .i64 a2] (by rfl) rfl rfl (by (try simp only [List.map_toArray, List.map_cons, List.map_nil]); first | done | rfl | (simp only [List.length_drop, List.length_take]; rfl)) ?_
                  with_reducible refine (foolscapref5_capped.calls a2 t283 _ A30.out).mono ?_
                  rintro e w34 ⟨rfl, hb⟩
                  refine ⟨_, rfl, ?_⟩
                  have n0_ := Aside0.mk (blk_below (g := gb266) (o := .cells #[.int .i64 a1_0, .int .i64 a1_1] 24 (0, 0)) (by exact BK266.out) hb)
                  have n1_ := Aside0.mk (blk_below (g := gb267) (o := .cells #[.int .i64 0, .int .i64 0, .int .i64 0, .bool false, .int .i64 0] 33 (0, 0)) (by exact BK267.out) hb)
                  have n2_ := Aside0.mk (below_step (by repeat (first | (with_reducible first | exact HB.out | apply below_alloc | apply pw_below_drewN | apply below_drew1 | refine below_set ?_ GE266.out | refine below_set ?_ GE267.out) | exact HB.out)) hb)
                  clear BK266
                  clear BK267
                  clear HB
                  have BK266 := n0_
                  have BK267 := n1_
                  have HB := n2_
                  clear n0_ n1_ n2_
                  (try clear hb)
                  (try clear hb2)
                  (try clear hk)
                  (try clear hi)
                  refine hK.out _ _ ⟨(blk_cell BK266.out 0).trans rfl, (blk_cell BK266.out 1).trans rfl⟩ (fun hHeld => ?_)
                  clear hK K
                  refine norm_ (a' := ?_) ?_ ?_
                  rotate_left
                  · show Act.put _ (some 50) _ = _
                    simp only [Act.put, List.setIfInBounds_toArray, List.set_cons_zero, List.set_cons_succ, i64_w, i32_w]
                    rfl
                  refine pure_ (i := 6) (N := some 51) (v := ?_) (a' := ?_) #[true, true, true, true, true, true, true, true, false, false, false, false, false, false] rfl rfl (any_of HT_.out (by kernel_rfl)) (fun _ _ _ h => h) (Or.inl ⟨by rfl, ?_⟩) ?_ ?_
                  rotate_left
                  · intro w'
                    go_simp
                    with_reducible rfl
                  rotate_left
                  · simp only [Act.put, List.setIfInBounds_toArray, List.set_cons_zero, List.set_cons_succ, i64_w, i32_w]
                    rfl
                  refine pure_ (i := 8) (N := some 53) (v := ?_) (a' := ?_) #[true, true, true, true, true, true, true, true, true, false, false, false, false, false] rfl rfl (any_of HT_.out (by kernel_rfl)) (fun _ _ _ h => h) (Or.inl ⟨by rfl, ?_⟩) ?_ ?_
                  rotate_left
                  · intro w'
                    go_simp
                    with_reducible rfl
                  rotate_left
                  · simp only [Act.put, List.setIfInBounds_toArray, List.set_cons_zero, List.set_cons_succ, i64_w, i32_w]
                    rfl
                  refine one_ (i := 9) (N := some 54) #[true, true, true, true, true, true, true, true, true, true, false, false, false, false] rfl rfl (one_of HT_.out (by kernel_rfl)) (by decide) (fun K hK => ?_)
                  refine goes_ Try.func33 (by kernel_rfl) rfl #[.int .i64 a1_0, .int .i64 ji31] (by rfl) rfl rfl (by (try simp only [List.map_toArray, List.map_cons, List.map_nil]); first | done | (simp only [hji31]; rfl) | rfl | (simp only [List.length_drop, List.length_take]; rfl)) ?_
                  with_reducible refine (foolscapref5_to.calls a1_0 ji31 t284 t285 t286 t287 t288 t289 _ A32.out).mono ?_
                  rintro e w35 ⟨rfl, hb⟩
                  refine ⟨_, rfl, ?_⟩
                  have n0_ := Aside0.mk (blk_below (g := gb266) (o := .cells #[.int .i64 a1_0, .int .i64 a1_1] 24 (0, 0)) (by exact BK266.out) hb)
                  have n1_ := Aside0.mk (blk_below (g := gb267) (o := .cells #[.int .i64 0, .int .i64 0, .int .i64 0, .bool false, .int .i64 0] 33 (0, 0)) (by exact BK267.out) hb)
                  have n2_ := Aside0.mk (below_step (by repeat (first | (with_reducible first | exact HB.out | apply below_alloc | apply pw_below_drewN | apply below_drew1 | refine below_set ?_ GE266.out | refine below_set ?_ GE267.out) | exact HB.out)) hb)
                  clear BK266
                  clear BK267
                  clear HB
                  have BK266 := n0_
                  have BK267 := n1_
                  have HB := n2_
                  clear n0_ n1_ n2_
                  (try clear hb)
                  (try clear hb2)
                  (try clear hk)
                  (try clear hi)
                  refine hK.out _ _ ⟨(blk_cell BK266.out 0).trans rfl, (blk_cell BK266.out 1).trans rfl⟩ (fun hHeld => ?_)
                  clear hK K
                  refine norm_ (a' := ?_) ?_ ?_
                  rotate_left
                  · show Act.put _ (some 54) _ = _
                    simp only [Act.put, List.setIfInBounds_toArray, List.set_cons_zero, List.set_cons_succ, i64_w, i32_w]
                    rfl
                  refine pure_ (i := 10) (N := some 55) (v := ?_) (a' := ?_) #[true, true, true, true, true, true, true, true, true, true, true, false, false, false] rfl rfl (any_of HT_.out (by kernel_rfl)) (fun _ _ _ h => h) (Or.inl ⟨by rfl, ?_⟩) ?_ ?_
                  rotate_left
                  · intro w'
                    go_simp
                    with_reducible rfl
                  rotate_left
                  · simp only [Act.put, List.setIfInBounds_toArray, List.set_cons_zero, List.set_cons_succ, i64_w, i32_w]
                    rfl
                  refine pure_ (i := 11) (N := some 56) (v := ?_) (a' := ?_) #[true, true, true, true, true, true, true, true, true, true, true, true, false, false] rfl rfl (any_of HT_.out (by kernel_rfl)) (fun _ _ _ h => h) (Or.inl ⟨by rfl, ?_⟩) ?_ ?_
                  rotate_left
                  · intro w'
                    go_simp
                    with_reducible rfl
                  rotate_left
                  · simp only [Act.put, List.setIfInBounds_toArray, List.set_cons_zero, List.set_cons_succ, i64_w, i32_w]
                    rfl
                  refine one_ (i := 12) (N := none) #[true, true, true, true, true, true, true, true, true, true, true, true, true, false] rfl rfl (one_of HT_.out (by kernel_rfl)) (by decide) (fun K hK => ?_)
                  have hs36 : w35.cell? ⟨gb267, 0, none⟩ = some (.int .i64 0) := (blk_cell BK267.out 0).trans rfl
                  have hfs36 := blk_frozen BK267.out 0
                  have hns36_0 := NB266_267.out
                  have hms36_0 := NB267_266.out
                  have hs37 : w35.cell? ⟨gb267, 1, none⟩ = some (.int .i64 0) := (blk_cell BK267.out 1).trans rfl
                  have hfs37 := blk_frozen BK267.out 1
                  have hns37_0 := NB266_267.out
                  have hms37_0 := NB267_266.out
                  have hs38 : w35.cell? ⟨gb267, 2, none⟩ = some (.int .i64 0) := (blk_cell BK267.out 2).trans rfl
                  have hfs38 := blk_frozen BK267.out 2
                  have hns38_0 := NB266_267.out
                  have hms38_0 := NB267_266.out
                  have hs39 : w35.cell? ⟨gb267, 3, none⟩ = some (.bool false) := (blk_cell BK267.out 3).trans rfl
                  have hfs39 := blk_frozen BK267.out 3
                  have hns39_0 := NB266_267.out
                  have hms39_0 := NB267_266.out
                  have hs40 : w35.cell? ⟨gb267, 4, none⟩ = some (.int .i64 0) := (blk_cell BK267.out 4).trans rfl
                  have hfs40 := blk_frozen BK267.out 4
                  have hns40_0 := NB266_267.out
                  have hms40_0 := NB267_266.out
                  refine skip_ (w1 := ?_) (by rfl) rfl ?_ ?_
                  rotate_left
                  · go_simp
                    rfl
                  refine hK.out _ _ ⟨((cell_far (p := ⟨gb267, _, none⟩) NB266_267.out _).trans (((cell_far (p := ⟨gb267, _, none⟩) NB266_267.out _).trans (((cell_far (p := ⟨gb267, _, none⟩) NB266_267.out _).trans (((cell_far (p := ⟨gb267, _, none⟩) NB266_267.out _).trans (((cell_far (p := ⟨gb267, _, none⟩) NB266_267.out _).trans (hHeld.1)))))))))), ((cell_far (p := ⟨gb267, _, none⟩) NB266_267.out _).trans (((cell_far (p := ⟨gb267, _, none⟩) NB266_267.out _).trans (((cell_far (p := ⟨gb267, _, none⟩) NB266_267.out _).trans (((cell_far (p := ⟨gb267, _, none⟩) NB266_267.out _).trans (((cell_far (p := ⟨gb267, _, none⟩) NB266_267.out _).trans (hHeld.2))))))))))⟩ (fun hHeld => ?_)
                  clear hK K
                  refine pure_ (i := 13) (N := some 9) (v := ?_) (a' := ?_) #[true, true, true, true, true, true, true, true, true, true, true, true, true, true] rfl rfl (any_of HT_.out (by kernel_rfl)) (fun _ _ _ h => h) (Or.inl ⟨by rfl, ?_⟩) ?_ ?_
                  rotate_left
                  · intro w'
                    go_simp
                    with_reducible rfl
                  rotate_left
                  · simp only [Act.put, List.setIfInBounds_toArray, List.set_cons_zero, List.set_cons_succ, i64_w, i32_w]
                    rfl
                  refine done_ (done_of HT_.out (by kernel_rfl)) ?_
                  try go_wp2
                  refine bodyPost_ret (results_ct rfl _ _ gb267 33 #[.int .i64 t284, .int .i64 t285, .int .i64 t286, .bool t287, .int .i64 t288] (0, 0) _ rfl (by refine blk_put (cs := #[.int .i64 t284, .int .i64 t285, .int .i64 t286, .bool t287, .int .i64 0]) ?_ 4 _ rfl; refine blk_put (cs := #[.int .i64 t284, .int .i64 t285, .int .i64 t286, .bool false, .int .i64 0]) ?_ 3 _ rfl; refine blk_put (cs := #[.int .i64 t284, .int .i64 t285, .int .i64 0, .bool false, .int .i64 0]) ?_ 2 _ rfl; refine blk_put (cs := #[.int .i64 t284, .int .i64 0, .int .i64 0, .bool false, .int .i64 0]) ?_ 1 _ rfl; refine blk_put (cs := #[.int .i64 0, .int .i64 0, .int .i64 0, .bool false, .int .i64 0]) ?_ 0 _ rfl; exact BK267.out) Try.underlying33 rfl (by kernel_rfl)) rfl ?_
                  exact ⟨by first | rfl | (simp [errW_none, errW_some] <;> rfl) | (simp only [← hji31]; first | rfl | (simp [errW_none, errW_some] <;> rfl)) | (simp [*, errW_none, errW_some] <;> rfl), by repeat (first | (with_reducible first | exact HB.out | apply below_alloc | apply pw_below_drewN | apply below_drew1 | refine below_set ?_ GE266.out | refine below_set ?_ GE267.out) | exact HB.out)⟩
      · rw [if_neg c8] at H
        exact absurd H (by simp)
    · rw [if_neg c7] at H
      exact absurd H (by simp)
  · replace c6 := Bool.eq_false_iff.mpr c6
    subst c6
    have H1 : ((foolscapref5_none.f).bind fun bt269 => (some (bt269.1, bt269.2.1, bt269.2.2.1, bt269.2.2.2.1, bt269.2.2.2.2.1, bt269.2.2.2.2.2))) = some (r1, r2, r3, r4, r5, r6) := by rw [if_neg (show ¬ (false = true) by decide)] at H; exact H
    clear H
    have H := H1
    clear H1
    replace H := Option.bind_eq_some_iff.mp H
    obtain ⟨⟨t269, t270, t271, t272, t273, t274⟩, A410, H⟩ := H
    replace H : (some (t269, t270, t271, t272, t273, t274)) = some (r1, r2, r3, r4, r5, r6) := H
    have A41 := Aside0.mk A410
    clear A410
    simp only [Option.some.injEq, Prod.mk.injEq] at H
    obtain ⟨rfl, rfl, rfl, rfl, rfl, rfl⟩ := H
    go_enter Try.func18, Try.ntmps18
    go_wp2_with (first | ((with_reducible refine gate_dst (N := 5) rfl ?_); refine box_event ?hg (N := 5) ?hd (cs := #[.int .i64 a1_0, .int .i64 a1_1]) (t := 24) ?hr ?_; (case hd => rfl); (case hg => rfl); (case hr => first | (go_simp; done) | (go_simp; rfl)); intro gb266 hg w42 hbox hb; have n0_ := Aside0.mk (below_step (by repeat (first | (with_reducible first | exact HB.out | apply below_alloc | apply pw_below_drewN | apply below_drew1) | exact HB.out)) hb); have n1_ := Aside0.mk (hbox); have n2_ := Aside0.mk ((by rw [hg]; exact (below_size (by repeat (first | (with_reducible first | exact HB.out | apply below_alloc | apply pw_below_drewN | apply below_drew1) | exact HB.out))) : w.heap.size ≤ gb266)); have n3_ := Aside0.mk ((by rw [hg]; exact (below_size (by repeat (first | (with_reducible first | exact HB.out | apply below_alloc | apply pw_below_drewN | apply below_drew1) | exact HB.out))) : w.heap.size ≤ gb266)); clear HB; have HB := n0_; have BK266 := n1_; have GW266 := n2_; have GE266 := n3_; clear n0_ n1_ n2_ n3_; clear hb hbox hg) | ((with_reducible refine gate_dst (N := 8) rfl ?_); refine box_event ?hg (N := 8) ?hd (cs := #[.int .i64 0, .int .i64 0, .int .i64 0, .bool false, .int .i64 0]) (t := 33) ?hr ?_; (case hd => rfl); (case hg => rfl); (case hr => first | (go_simp; done) | (go_simp; rfl)); intro gb267 hg w43 hbox hb; have n0_ := Aside0.mk (blk_below (g := gb266) (o := .cells #[.int .i64 a1_0, .int .i64 a1_1] 24 (0, 0)) (by exact BK266.out) hb); have n1_ := Aside0.mk (below_step (by repeat (first | (with_reducible first | exact HB.out | apply below_alloc | apply pw_below_drewN | apply below_drew1 | refine below_set ?_ GE266.out) | exact HB.out)) hb); have n2_ := Aside0.mk (hbox); have n3_ := Aside0.mk ((by rw [hg]; exact (below_size (by repeat (first | (with_reducible first | exact HB.out | apply below_alloc | apply pw_below_drewN | apply below_drew1 | refine below_set ?_ GE266.out) | exact HB.out))) : w.heap.size ≤ gb267)); have n4_ := Aside0.mk ((by rw [hg]; exact (below_size (by repeat (first | (with_reducible first | exact HB.out | apply below_alloc | apply pw_below_drewN | apply below_drew1 | refine below_set ?_ GE266.out) | exact HB.out))) : w.heap.size ≤ gb267)); have n5_ := Aside0.mk ((by rw [hg]; exact Nat.ne_of_lt (blk_lt (g := gb266) (o := .cells #[.int .i64 a1_0, .int .i64 a1_1] 24 (0, 0)) (by exact BK266.out)) : gb266 ≠ gb267)); have n6_ := Aside0.mk ((by rw [hg]; exact Nat.ne_of_gt (blk_lt (g := gb266) (o := .cells #[.int .i64 a1_0, .int .i64 a1_1] 24 (0, 0)) (by exact BK266.out)) : gb267 ≠ gb266)); clear BK266; clear HB; have BK266 := n0_; have HB := n1_; have BK267 := n2_; have GW267 := n3_; have GE267 := n4_; have NB266_267 := n5_; have NB267_266 := n6_; clear n0_ n1_ n2_ n3_ n4_ n5_ n6_; clear hb hbox hg; have hnb44 := NB266_267.out; have hnc44 := NB267_266.out; have hcz45_0 : w43.cell? ⟨gb266, 0, none⟩ = some (.int .i64 a1_0) := (blk_cell BK266.out 0).trans rfl; have hcz45_1 : w43.cell? ⟨gb266, 1, none⟩ = some (.int .i64 a1_1) := (blk_cell BK266.out 1).trans rfl; have hfz45_0 := blk_frozen BK266.out 0; have hfz45_1 := blk_frozen BK266.out 1) | ((with_reducible refine gate_callee (f := 31) rfl ?_); refine goesL_ (some 14) rfl rfl Try.func31 (by kernel_rfl) rfl #[.slice A0 l0.length c0, .agg #[.int .i64 a1_0, .int .i64 a1_1], .int .i64 a2] rfl (by (try simp only [List.map_toArray, List.map_cons, List.map_nil]); first | done | rfl | (simp only [List.length_drop, List.length_take]; rfl)) ?_; (with_reducible refine (foolscapref5_may.calls _ _ l0 a1_0 a1_1 a2 false _ ?side1 ?side2 A5.out).mono ?_); (case side1 => repeat (first | exact (Kd.C_below HR0.out HB.out) | (with_reducible refine Kd.C_alloc ?_ _) | (with_reducible refine Kd.C_drewN ?_ _) | (with_reducible refine Kd.C_drew ?_))); (case side2 => exact HC0.out); rintro e w46 ⟨rfl, hb⟩; refine ⟨_, rfl, ?_⟩; have n0_ := Aside0.mk (blk_below (g := gb266) (o := .cells #[.int .i64 a1_0, .int .i64 a1_1] 24 (0, 0)) (by exact BK266.out) hb); have n1_ := Aside0.mk (blk_below (g := gb267) (o := .cells #[.int .i64 0, .int .i64 0, .int .i64 0, .bool false, .int .i64 0] 33 (0, 0)) (by exact BK267.out) hb); have n2_ := Aside0.mk (below_step (by repeat (first | (with_reducible first | exact HB.out | apply below_alloc | apply pw_below_drewN | apply below_drew1 | refine below_set ?_ GE266.out | refine below_set ?_ GE267.out) | exact HB.out)) hb); clear BK266; clear BK267; clear HB; have BK266 := n0_; have BK267 := n1_; have HB := n2_; clear n0_ n1_ n2_; (try clear hb); (try clear hb2); (try clear hk); (try clear hi)) | ((with_reducible refine gate_callee (f := 32) rfl ?_); refine goesL_ (some 16) rfl rfl Try.func32 (by kernel_rfl) rfl #[] rfl (by (try simp only [List.map_toArray, List.map_cons, List.map_nil]); first | done | rfl | (simp only [List.length_drop, List.length_take]; rfl)) ?_; (with_reducible refine (foolscapref5_none.calls  t269 t270 t271 t272 t273 t274 _ A41.out).mono ?_); rintro e w47 ⟨rfl, hb⟩; refine ⟨_, rfl, ?_⟩; have n0_ := Aside0.mk (blk_below (g := gb266) (o := .cells #[.int .i64 a1_0, .int .i64 a1_1] 24 (0, 0)) (by exact BK266.out) hb); have n1_ := Aside0.mk (blk_below (g := gb267) (o := .cells #[.int .i64 0, .int .i64 0, .int .i64 0, .bool false, .int .i64 0] 33 (0, 0)) (by exact BK267.out) hb); have n2_ := Aside0.mk (below_step (by repeat (first | (with_reducible first | exact HB.out | apply below_alloc | apply pw_below_drewN | apply below_drew1 | refine below_set ?_ GE266.out | refine below_set ?_ GE267.out) | exact HB.out)) hb); clear BK266; clear BK267; clear HB; have BK266 := n0_; have BK267 := n1_; have HB := n2_; clear n0_ n1_ n2_; (try clear hb); (try clear hb2); (try clear hk); (try clear hi); have hcz48_0 : w47.cell? ⟨gb267, 0, none⟩ = some (.int .i64 0) := (blk_cell BK267.out 0).trans rfl; have hcz48_1 : w47.cell? ⟨gb267, 1, none⟩ = some (.int .i64 0) := (blk_cell BK267.out 1).trans rfl; have hcz48_2 : w47.cell? ⟨gb267, 2, none⟩ = some (.int .i64 0) := (blk_cell BK267.out 2).trans rfl; have hcz48_3 : w47.cell? ⟨gb267, 3, none⟩ = some (.bool false) := (blk_cell BK267.out 3).trans rfl; have hcz48_4 : w47.cell? ⟨gb267, 4, none⟩ = some (.int .i64 0) := (blk_cell BK267.out 4).trans rfl; have hfz48_0 := blk_frozen BK267.out 0; have hfz48_1 := blk_frozen BK267.out 1; have hfz48_2 := blk_frozen BK267.out 2; have hfz48_3 := blk_frozen BK267.out 3; have hfz48_4 := blk_frozen BK267.out 4))
    refine bodyPost_ret (results_ct rfl _ _ gb267 33 #[.int .i64 t269, .int .i64 t270, .int .i64 t271, .bool t272, .int .i64 t273] (0, 0) _ rfl (by refine blk_put (cs := #[.int .i64 t269, .int .i64 t270, .int .i64 t271, .bool t272, .int .i64 0]) ?_ 4 _ rfl; refine blk_put (cs := #[.int .i64 t269, .int .i64 t270, .int .i64 t271, .bool false, .int .i64 0]) ?_ 3 _ rfl; refine blk_put (cs := #[.int .i64 t269, .int .i64 t270, .int .i64 0, .bool false, .int .i64 0]) ?_ 2 _ rfl; refine blk_put (cs := #[.int .i64 t269, .int .i64 0, .int .i64 0, .bool false, .int .i64 0]) ?_ 1 _ rfl; refine blk_put (cs := #[.int .i64 0, .int .i64 0, .int .i64 0, .bool false, .int .i64 0]) ?_ 0 _ rfl; exact BK267.out) Try.underlying33 rfl (by kernel_rfl)) rfl ?_
    exact ⟨by first | rfl | (simp [errW_none, errW_some] <;> rfl) | (simp [*, errW_none, errW_some] <;> rfl), by repeat (first | (with_reducible first | exact HB.out | apply below_alloc | apply pw_below_drewN | apply below_drew1 | refine below_set ?_ GE266.out | refine below_set ?_ GE267.out) | exact HB.out)⟩

end Go.Proofs.Ytdiakjamahdcfaa.V
namespace Go.Proofs.Ytdiakjamahdcfaa.V
open Go.RowKit Go.Proofs.YtdiakjamahdcfaaW.PrintWords Go.Proofs.YtdiakjamahdcfaaW.PrintLast Go.Proofs.YtdiakjamahdcfaaW.PrintMore
attribute [local go_sem] max2_int min2_int max_two min_two max_three min_three max_four min_four   -- for this text's walks alone
set_option linter.unusedVariables false
set_option linter.unusedSimpArgs false

/-! ### foolscapref5_last: function 35 -/
def foolscapref5_last.f (a0 : ByteArray) : Option (Int) := some (mx (wrap64 ((a0.size : Int) - 1)) 0)
set_option maxHeartbeats 8000000 in
set_option maxRecDepth 100000 in
theorem foolscapref5_last.calls (a0 : ByteArray) (r : Int) (w : World) (h : foolscapref5_last.f a0 = some r) :
    Calls Try.prog 35 #[.string a0] w fun e w' => e = .returned (.int .i64 r) ∧ Below w.heap.size w w' := by
  have HB := Aside0.mk (Below.refl w.heap.size w)
  have H : (some (mx (wrap64 ((a0.size : Int) - 1)) 0)) = some r := h
  clear h
  obtain ⟨ji2, hji2⟩ : ∃ j_ : Int, (mx (wrap64 ((a0.size : Int) - 1)) 0) = j_ := ⟨_, rfl⟩
  replace H : (some ji2) = some r := by first | (rw [hji2] at H; exact H) | (simp only [hji2] at H ⊢; exact H)
  (try (have hji2l : 0 ≤ ji2 := by (rw [← hji2]; unfold mx; (repeat' split) <;> omega)))
  (try (have hji2m : 0 ≤ ji2 := by omega))
  have hji2_ : (if (wrap64 ((a0.size : Int) - 1)) < 0 then 0 else (wrap64 ((a0.size : Int) - 1))) = ji2 := hji2
  obtain rfl := Option.some.inj H
  go_enter Try.func35, Try.ntmps35
  go_wp2
  go_ret
  exact ⟨by first | rfl | (simp [errW_none, errW_some] <;> rfl) | (simp only [← hji2]; first | rfl | (simp [errW_none, errW_some] <;> rfl)) | (simp [*, errW_none, errW_some] <;> rfl), by repeat (first | (with_reducible first | exact HB.out | apply below_alloc | apply pw_below_drewN | apply below_drew1) | exact HB.out)⟩

end Go.Proofs.Ytdiakjamahdcfaa.V
namespace Go.Proofs.Ytdiakjamahdcfaa.V
open Go.RowKit Go.Proofs.YtdiakjamahdcfaaW.PrintWords Go.Proofs.YtdiakjamahdcfaaW.PrintLast Go.Proofs.YtdiakjamahdcfaaW.PrintMore
attribute [local go_sem] max2_int min2_int max_two min_two max_three min_three max_four min_four   -- for this text's walks alone
set_option linter.unusedVariables false
set_option linter.unusedSimpArgs false

/-! ### foolscapref5_Last: function 20 -/
def foolscapref5_Last.j0 : Nat → List ByteArray → Int → Bool → Int → Int → Option (Int × Int × Int × Bool × Int × Bool)
  | 0, _, _, _, _, _ => none
  | k + 1, x0, x2, x24, x291000, x291001 => if x24 = true then ((foolscapref5_none.f).bind fun bt294 => (some (bt294.1, bt294.2.1, bt294.2.2.1, bt294.2.2.2.1, bt294.2.2.2.2.1, bt294.2.2.2.2.2))) else (if 0 ≤ (wrap64 ((wrap64 (x291000 + x2)) - 1)) then (if (wrap64 ((wrap64 (x291000 + x2)) - 1)) < (x0.length : Int) then ((foolscapref5_last.f (rdOf ByteArray.empty x0 (wrap64 ((wrap64 (x291000 + x2)) - 1)))).bind fun t301 => (some (wrap64 ((wrap64 (x291000 + x2)) - 1), t301, 1, false, 1073741824, true))) else (none)) else (none))
def foolscapref5_Last.f (k : Nat) (l0 : List ByteArray) (a1_0 : Int) (a1_1 : Int) (a2 : Int) : Option (Int × Int × Int × Bool × Int × Bool) := (foolscapref5_may.f l0 a1_0 a1_1 a2).bind fun t292 => (if t292 = true then ((foolscapref5_capped.f a2).bind fun t293 => (foolscapref5_Last.j0 k l0 a2 (decide ((wrap64 ((wrap64 (a1_0 + t293)) - 1)) ≥ (l0.length : Int))) a1_0 a1_1)) else (foolscapref5_Last.j0 k l0 a2 true a1_0 a1_1))
theorem foolscapref5_Last.mono_l : ∀ k, (∀ y0 y1 y2 y3 y4, LeO (foolscapref5_Last.j0 k y0 y1 y2 y3 y4) (foolscapref5_Last.j0 (k + 1) y0 y1 y2 y3 y4))
  | 0 => fun _ _ _ _ _ r h => by simp [foolscapref5_Last.j0] at h
  | k + 1 => by
    have ih0 := foolscapref5_Last.mono_l k
    · intro y0 y1 y2 y3 y4
      unfold foolscapref5_Last.j0
      repeat' first
      | (with_reducible exact ih0 _ _ _ _ _)
      | (with_reducible exact LeO.refl _)
      | (with_reducible exact LeO.none _)
      | (with_reducible refine LeO.ite ?_ ?_)
      | (with_reducible refine LeO.bind ?_ (fun _ => ?_))
      | exact ih0 _ _ _ _ _
      | exact LeO.none _
      | refine LeO.ite ?_ ?_
      | refine LeO.bind ?_ (fun _ => ?_)
theorem foolscapref5_Last.mono : ∀ a0 a1 a2 a3 k, LeO (foolscapref5_Last.f k a0 a1 a2 a3) (foolscapref5_Last.f (k + 1) a0 a1 a2 a3) := by
  intro a0 a1 a2 a3 k
  have ih0 := foolscapref5_Last.mono_l k
  unfold foolscapref5_Last.f
  repeat' first
      | (with_reducible exact ih0 _ _ _ _ _)
      | (with_reducible exact LeO.refl _)
      | (with_reducible exact LeO.none _)
      | (with_reducible refine LeO.ite ?_ ?_)
      | (with_reducible refine LeO.bind ?_ (fun _ => ?_))
      | exact ih0 _ _ _ _ _
      | exact LeO.none _
      | refine LeO.ite ?_ ?_
      | refine LeO.bind ?_ (fun _ => ?_)
def foolscapref5_Last.T1 : Bool × List (List Nat × List Nat) := (true, [([], []), ([], []), ([], []), ([0, 1, 2], [0, 1, 2]), ([3], [3]), ([4, 3], [4]), ([5], [5]), ([6, 5], [5, 6]), ([5], [5]), ([8, 5, 5], [5, 8]), ([7, 9, 5], [5, 7, 9]), ([10, 5], [5, 10]), ([5], [5]), ([12, 5], [5, 12]), ([11, 13, 5], [5, 11, 13]), ([5, 14], [5, 14])])
def foolscapref5_Last.B1 : List Nat := [0, 0, 0, 7, 15, 31, 63, 127, 63, 319, 1023, 2047, 63, 4159, 16383, 32767]
theorem foolscapref5_Last.tab1 : rtab .any (opsOf Try.f20 1) = foolscapref5_Last.T1 := by kernel_rfl
theorem foolscapref5_Last.bits1 : waitsOk foolscapref5_Last.T1.2 foolscapref5_Last.B1 = true := by kernel_rfl
set_option maxHeartbeats 8000000 in
set_option maxRecDepth 100000 in
theorem foolscapref5_Last.calls (k : Nat) (A0 : Option Addr) (c0 : Nat) (l0 : List ByteArray) (a1_0 : Int) (a1_1 : Int) (a2 : Int) (r1 : Int) (r2 : Int) (r3 : Int) (r4 : Bool) (r5 : Int) (r6 : Bool) (w : World) (hr0 : Kd.C Kd.string w A0 l0.length l0) (hc0 : l0.length ≤ c0) (h : foolscapref5_Last.f k l0 a1_0 a1_1 a2 = some (r1, r2, r3, r4, r5, r6)) :
    Calls Try.prog 20 #[.slice A0 l0.length c0, .agg #[.int .i64 a1_0, .int .i64 a1_1], .int .i64 a2] w fun e w' => e = .returned (.tuple #[.agg #[.int .i64 r1, .int .i64 r2, .int .i64 r3, .bool r4, .int .i64 r5], .bool r6]) ∧ Below w.heap.size w w' := by
  have hu24 := Try.underlying24
  have hu33 := Try.underlying33
  have HR0 := Aside0.mk hr0
  have HC0 := Aside0.mk hc0
  clear hr0 hc0
  have HB := Aside0.mk (Below.refl w.heap.size w)
  have H : ((foolscapref5_may.f l0 a1_0 a1_1 a2).bind fun t292 => (if t292 = true then ((foolscapref5_capped.f a2).bind fun t293 => (foolscapref5_Last.j0 k l0 a2 (decide ((wrap64 ((wrap64 (a1_0 + t293)) - 1)) ≥ (l0.length : Int))) a1_0 a1_1)) else (foolscapref5_Last.j0 k l0 a2 true a1_0 a1_1))) = some (r1, r2, r3, r4, r5, r6) := h
  clear h
  have HC4 := Aside0.mk H
  clear H
  go_enter Try.func20, Try.ntmps20
  go_upto_region 1 with (first | ((with_reducible refine gate_dst (N := 4) rfl ?_); (try (refine gate_guard (by rfl) ?_; dsimp only)); refine box_event ?hg (N := 4) ?hd (cs := #[.int .i64 a1_0, .int .i64 a1_1]) (t := 24) ?hr ?_; (case hd => rfl); (case hg => rfl); (case hr => first | (go_simp; done) | (go_simp; rfl)); intro gb290 hg w5 hbox hb; have n0_ := Aside0.mk (below_step (by repeat (first | (with_reducible first | exact HB.out | apply below_alloc | apply pw_below_drewN | apply below_drew1) | exact HB.out)) hb); have n1_ := Aside0.mk (hbox); have n2_ := Aside0.mk ((by rw [hg]; exact (below_size (by repeat (first | (with_reducible first | exact HB.out | apply below_alloc | apply pw_below_drewN | apply below_drew1) | exact HB.out))) : w.heap.size ≤ gb290)); have n3_ := Aside0.mk ((by rw [hg]; exact (below_size (by repeat (first | (with_reducible first | exact HB.out | apply below_alloc | apply pw_below_drewN | apply below_drew1) | exact HB.out))) : w.heap.size ≤ gb290)); clear HB; have HB := n0_; have BK290 := n1_; have GW290 := n2_; have GE290 := n3_; clear n0_ n1_ n2_ n3_; clear hb hbox hg) | ((with_reducible refine gate_dst (N := 6) rfl ?_); (try (refine gate_guard (by rfl) ?_; dsimp only)); refine box_event ?hg (N := 6) ?hd (cs := #[.int .i64 0, .int .i64 0, .int .i64 0, .bool false, .int .i64 0]) (t := 33) ?hr ?_; (case hd => rfl); (case hg => rfl); (case hr => first | (go_simp; done) | (go_simp; rfl)); intro gb291 hg w6 hbox hb; have n0_ := Aside0.mk (blk_below (g := gb290) (o := .cells #[.int .i64 a1_0, .int .i64 a1_1] 24 (0, 0)) (by exact BK290.out) hb); have n1_ := Aside0.mk (below_step (by repeat (first | (with_reducible first | exact HB.out | apply below_alloc | apply pw_below_drewN | apply below_drew1 | refine below_set ?_ GE290.out) | exact HB.out)) hb); have n2_ := Aside0.mk (hbox); have n3_ := Aside0.mk ((by rw [hg]; exact (below_size (by repeat (first | (with_reducible first | exact HB.out | apply below_alloc | apply pw_below_drewN | apply below_drew1 | refine below_set ?_ GE290.out) | exact HB.out))) : w.heap.size ≤ gb291)); have n4_ := Aside0.mk ((by rw [hg]; exact (below_size (by repeat (first | (with_reducible first | exact HB.out | apply below_alloc | apply pw_below_drewN | apply below_drew1 | refine below_set ?_ GE290.out) | exact HB.out))) : w.heap.size ≤ gb291)); have n5_ := Aside0.mk ((by rw [hg]; exact Nat.ne_of_lt (blk_lt (g := gb290) (o := .cells #[.int .i64 a1_0, .int .i64 a1_1] 24 (0, 0)) (by exact BK290.out)) : gb290 ≠ gb291)); have n6_ := Aside0.mk ((by rw [hg]; exact Nat.ne_of_gt (blk_lt (g := gb290) (o := .cells #[.int .i64 a1_0, .int .i64 a1_1] 24 (0, 0)) (by exact BK290.out)) : gb291 ≠ gb290)); clear BK290; clear HB; have BK290 := n0_; have HB := n1_; have BK291 := n2_; have GW291 := n3_; have GE291 := n4_; have NB290_291 := n5_; have NB291_290 := n6_; clear n0_ n1_ n2_ n3_ n4_ n5_ n6_; clear hb hbox hg))
  (try simp only [Act.put, List.setIfInBounds_toArray, List.set_cons_zero, List.set_cons_succ])
  go_cut [24] (fun v24 wc => ∃ (kq : Nat) (x24_3 : Bool), v24 = .bool x24_3 ∧ Aside0 (foolscapref5_Last.j0 kq l0 a2 x24_3 a1_0 a1_1 = some (r1, r2, r3, r4, r5, r6)) ∧ Aside0 (kq ≤ k) ∧ Aside0 (wc.heap[gb290]? = some (.cells #[.int .i64 a1_0, .int .i64 a1_1] 24 (0, 0))) ∧ Aside0 (wc.heap[gb291]? = some (.cells #[.int .i64 0, .int .i64 0, .int .i64 0, .bool false, .int .i64 0] 33 (0, 0))) ∧ Aside0 (Below w.heap.size w wc))
  case first =>
    have H := HC4.out
    clear HC4
    replace H := Option.bind_eq_some_iff.mp H
    obtain ⟨t292, A70, H⟩ := H
    replace H : (if t292 = true then ((foolscapref5_capped.f a2).bind fun t293 => (foolscapref5_Last.j0 k l0 a2 (decide ((wrap64 ((wrap64 (a1_0 + t293)) - 1)) ≥ (l0.length : Int))) a1_0 a1_1)) else (foolscapref5_Last.j0 k l0 a2 true a1_0 a1_1)) = some (r1, r2, r3, r4, r5, r6) := H
    have A7 := Aside0.mk A70
    clear A70
    by_cases c8 : t292 = true
    · subst c8
      have H1 : ((foolscapref5_capped.f a2).bind fun t293 => (foolscapref5_Last.j0 k l0 a2 (decide ((wrap64 ((wrap64 (a1_0 + t293)) - 1)) ≥ (l0.length : Int))) a1_0 a1_1)) = some (r1, r2, r3, r4, r5, r6) := by rw [if_pos rfl] at H; exact H
      clear H
      have H := H1
      clear H1
      replace H := Option.bind_eq_some_iff.mp H
      obtain ⟨t293, A90, H⟩ := H
      replace H : (foolscapref5_Last.j0 k l0 a2 (decide ((wrap64 ((wrap64 (a1_0 + t293)) - 1)) ≥ (l0.length : Int))) a1_0 a1_1) = some (r1, r2, r3, r4, r5, r6) := H
      have A9 := Aside0.mk A90
      clear A90
      have H' := Aside0.mk H
      clear H
      try go_wp2
      have n0_ := Aside0.mk (blk_drew BK290.out)
      have n1_ := Aside0.mk (blk_drew BK291.out)
      have n2_ := Aside0.mk (below_drew1 HB.out)
      clear BK290
      clear BK291
      clear HB
      have BK290 := n0_
      have BK291 := n1_
      have HB := n2_
      clear n0_ n1_ n2_
      refine start_ (n := 16) (S := fun w' => w'.cell? ⟨gb290, 0, none⟩ = some (.int .i64 a1_0) ∧ w'.cell? ⟨gb290, 1, none⟩ = some (.int .i64 a1_1)) (ds := []) #[false, false, false, false, false, false, false, false, false, false, false, false, false, false, false, false] (by kernel_rfl) rfl rfl ⟨(blk_cell BK290.out 0).trans rfl, (blk_cell BK290.out 1).trans rfl⟩ (fun hHeld => ?_); refine with_tabW foolscapref5_Last.tab1 foolscapref5_Last.bits1 (fun HT_ HW_ => ?_)
      generalize w6.drew = w10 at BK290 BK291 HB hHeld ⊢
      refine pure_ (i := 0) (N := some 9) (v := ?_) (a' := ?_) #[true, false, false, false, false, false, false, false, false, false, false, false, false, false, false, false] rfl rfl (any_of HT_.out (by kernel_rfl)) (fun _ _ _ h => h) (Or.inl ⟨by rfl, ?_⟩) ?_ ?_
      rotate_left
      · intro w'
        go_simp
        with_reducible rfl
      rotate_left
      · simp only [Act.put, List.setIfInBounds_toArray, List.set_cons_zero, List.set_cons_succ, i64_w, i32_w]
        rfl
      refine pure_ (i := 2) (N := some 11) (v := ?_) (a' := ?_) #[true, false, true, false, false, false, false, false, false, false, false, false, false, false, false, false] rfl rfl (any_of HT_.out (by kernel_rfl)) (fun _ _ _ h => h) (Or.inl ⟨by rfl, ?_⟩) ?_ ?_
      rotate_left
      · intro w'
        go_simp
        with_reducible rfl
      rotate_left
      · simp only [Act.put, List.setIfInBounds_toArray, List.set_cons_zero, List.set_cons_succ, i64_w, i32_w]
        rfl
      refine take_ (i := 1) (N := some 10) (v := ?_) (a' := ?_) #[true, true, true, false, false, false, false, false, false, false, false, false, false, false, false, false] rfl rfl (take_ofW HT_.out HW_.out (by kernel_rfl)) (fun _ _ _ h => h) (Or.inl ⟨by rfl, ?_⟩) hHeld ?_ ?_
      rotate_left
      · rintro w' ⟨s0, s1⟩
        go_simp
        with_reducible rfl
      rotate_left
      · simp only [Act.put, List.setIfInBounds_toArray, List.set_cons_zero, List.set_cons_succ, i64_w, i32_w]
        rfl
      refine one_ (i := 3) (N := some 12) #[true, true, true, true, false, false, false, false, false, false, false, false, false, false, false, false] rfl rfl (one_of HT_.out (by kernel_rfl)) (by decide) (fun K hK => ?_)
      refine goes_ Try.func31 (by kernel_rfl) rfl #[.slice A0 l0.length c0, .agg #[.int .i64 a1_0, .int .i64 a1_1], .int .i64 a2] (by rfl) rfl rfl (by (try simp only [List.map_toArray, List.map_cons, List.map_nil]); first | done | rfl | (simp only [List.length_drop, List.length_take]; rfl)) ?_
      with_reducible refine (foolscapref5_may.calls _ _ l0 a1_0 a1_1 a2 true _ ?side1 ?side2 A7.out).mono ?_
      (case side1 => repeat (first | exact (Kd.C_below HR0.out HB.out) | (with_reducible refine Kd.C_alloc ?_ _) | (with_reducible refine Kd.C_drewN ?_ _) | (with_reducible refine Kd.C_drew ?_)))
      (case side2 => exact HC0.out)
      rintro e w11 ⟨rfl, hb⟩
      refine ⟨_, rfl, ?_⟩
      have n0_ := Aside0.mk (blk_below (g := gb290) (o := .cells #[.int .i64 a1_0, .int .i64 a1_1] 24 (0, 0)) (by exact BK290.out) hb)
      have n1_ := Aside0.mk (blk_below (g := gb291) (o := .cells #[.int .i64 0, .int .i64 0, .int .i64 0, .bool false, .int .i64 0] 33 (0, 0)) (by exact BK291.out) hb)
      have n2_ := Aside0.mk (below_step (by repeat (first | (with_reducible first | exact HB.out | apply below_alloc | apply pw_below_drewN | apply below_drew1 | refine below_set ?_ GE290.out | refine below_set ?_ GE291.out) | exact HB.out)) hb)
      clear BK290
      clear BK291
      clear HB
      have BK290 := n0_
      have BK291 := n1_
      have HB := n2_
      clear n0_ n1_ n2_
      (try clear hb)
      (try clear hb2)
      (try clear hk)
      (try clear hi)
      refine hK.out _ _ ⟨(blk_cell BK290.out 0).trans rfl, (blk_cell BK290.out 1).trans rfl⟩ (fun hHeld => ?_)
      clear hK K
      refine norm_ (a' := ?_) ?_ ?_
      rotate_left
      · show Act.put _ (some 12) _ = _
        simp only [Act.put, List.setIfInBounds_toArray, List.set_cons_zero, List.set_cons_succ, i64_w, i32_w]
        rfl
      refine pure_ (i := 4) (N := some 13) (v := ?_) (a' := ?_) #[true, true, true, true, true, false, false, false, false, false, false, false, false, false, false, false] rfl rfl (any_of HT_.out (by kernel_rfl)) (fun _ _ _ h => h) (Or.inl ⟨by rfl, ?_⟩) ?_ ?_
      rotate_left
      · intro w'
        go_simp
        with_reducible rfl
      rotate_left
      · simp only [Act.put, List.setIfInBounds_toArray, List.set_cons_zero, List.set_cons_succ, i64_w, i32_w]
        rfl
      refine pure_ (i := 5) (N := some 14) (v := ?_) (a' := ?_) #[true, true, true, true, true, true, false, false, false, false, false, false, false, false, false, false] rfl rfl (any_of HT_.out (by kernel_rfl)) (fun _ _ _ h => h) (Or.inl ⟨by rfl, ?_⟩) ?_ ?_
      rotate_left
      · intro w'
        go_simp
        with_reducible rfl
      rotate_left
      · simp only [Act.put, List.setIfInBounds_toArray, List.set_cons_zero, List.set_cons_succ, i64_w, i32_w]
        rfl
      refine pure_ (i := 6) (N := some 15) (v := ?_) (a' := ?_) #[true, true, true, true, true, true, true, false, false, false, false, false, false, false, false, false] rfl rfl (any_of HT_.out (by kernel_rfl)) (fun _ _ _ h => h) (Or.inl ⟨by rfl, ?_⟩) ?_ ?_
      rotate_left
      · intro w'
        go_simp
        with_reducible rfl
      rotate_left
      · simp only [Act.put, List.setIfInBounds_toArray, List.set_cons_zero, List.set_cons_succ, i64_w, i32_w]
        rfl
      refine pure_ (i := 8) (N := some 17) (v := ?_) (a' := ?_) #[true, true, true, true, true, true, true, false, true, false, false, false, false, false, false, false] rfl rfl (any_of HT_.out (by kernel_rfl)) (fun _ _ _ h => h) (Or.inl ⟨by rfl, ?_⟩) ?_ ?_
      rotate_left
      · intro w'
        go_simp
        with_reducible rfl
      rotate_left
      · simp only [Act.put, List.setIfInBounds_toArray, List.set_cons_zero, List.set_cons_succ, i64_w, i32_w]
        rfl
      refine pure_ (i := 12) (N := some 21) (v := ?_) (a' := ?_) #[true, true, true, true, true, true, true, false, true, false, false, false, true, false, false, false] rfl rfl (any_of HT_.out (by kernel_rfl)) (fun _ _ _ h => h) (Or.inl ⟨by rfl, ?_⟩) ?_ ?_
      rotate_left
      · intro w'
        go_simp
        with_reducible rfl
      rotate_left
      · simp only [Act.put, List.setIfInBounds_toArray, List.set_cons_zero, List.set_cons_succ, i64_w, i32_w]
        rfl
      refine pure_ (i := 13) (N := some 22) (v := ?_) (a' := ?_) #[true, true, true, true, true, true, true, false, true, false, false, false, true, true, false, false] rfl rfl (any_of HT_.out (by kernel_rfl)) (fun _ _ _ h => h) (Or.inl ⟨by rfl, ?_⟩) ?_ ?_
      rotate_left
      · intro w'
        go_simp
        with_reducible rfl
      rotate_left
      · simp only [Act.put, List.setIfInBounds_toArray, List.set_cons_zero, List.set_cons_succ, i64_w, i32_w]
        rfl
      refine take_ (i := 7) (N := some 16) (v := ?_) (a' := ?_) #[true, true, true, true, true, true, true, true, true, false, false, false, true, true, false, false] rfl rfl (take_ofW HT_.out HW_.out (by kernel_rfl)) (fun _ _ _ h => h) (Or.inl ⟨by rfl, ?_⟩) hHeld ?_ ?_
      rotate_left
      · rintro w' ⟨s0, s1⟩
        go_simp
        with_reducible rfl
      rotate_left
      · simp only [Act.put, List.setIfInBounds_toArray, List.set_cons_zero, List.set_cons_succ, i64_w, i32_w]
        rfl
      refine one_ (i := 9) (N := some 18) #[true, true, true, true, true, true, true, true, true, true, false, false, true, true, false, false] rfl rfl (one_of HT_.out (by kernel_rfl)) (by decide) (fun K hK => ?_)
      refine goes_ Try.func34 (by kernel_rfl) rfl #[.int .i64 a2] (by rfl) rfl rfl (by (try simp only [List.map_toArray, List.map_cons, List.map_nil]); first | done | rfl | (simp only [List.length_drop, List.length_take]; rfl)) ?_
      with_reducible refine (foolscapref5_capped.calls a2 t293 _ A9.out).mono ?_
      rintro e w12 ⟨rfl, hb⟩
      refine ⟨_, rfl, ?_⟩
      have n0_ := Aside0.mk (blk_below (g := gb290) (o := .cells #[.int .i64 a1_0, .int .i64 a1_1] 24 (0, 0)) (by exact BK290.out) hb)
      have n1_ := Aside0.mk (blk_below (g := gb291) (o := .cells #[.int .i64 0, .int .i64 0, .int .i64 0, .bool false, .int .i64 0] 33 (0, 0)) (by exact BK291.out) hb)
      have n2_ := Aside0.mk (below_step (by repeat (first | (with_reducible first | exact HB.out | apply below_alloc | apply pw_below_drewN | apply below_drew1 | refine below_set ?_ GE290.out | refine below_set ?_ GE291.out) | exact HB.out)) hb)
      clear BK290
      clear BK291
      clear HB
      have BK290 := n0_
      have BK291 := n1_
      have HB := n2_
      clear n0_ n1_ n2_
      (try clear hb)
      (try clear hb2)
      (try clear hk)
      (try clear hi)
      refine hK.out _ _ ⟨(blk_cell BK290.out 0).trans rfl, (blk_cell BK290.out 1).trans rfl⟩ (fun hHeld => ?_)
      clear hK K
      refine norm_ (a' := ?_) ?_ ?_
      rotate_left
      · show Act.put _ (some 18) _ = _
        simp only [Act.put, List.setIfInBounds_toArray, List.set_cons_zero, List.set_cons_succ, i64_w, i32_w]
        rfl
      refine pure_ (i := 10) (N := some 19) (v := ?_) (a' := ?_) #[true, true, true, true, true, true, true, true, true, true, true, false, true, true, false, false] rfl rfl (any_of HT_.out (by kernel_rfl)) (fun _ _ _ h => h) (Or.inl ⟨by rfl, ?_⟩) ?_ ?_
      rotate_left
      · intro w'
        go_simp
        with_reducible rfl
      rotate_left
      · simp only [Act.put, List.setIfInBounds_toArray, List.set_cons_zero, List.set_cons_succ, i64_w, i32_w]
        rfl
      refine pure_ (i := 11) (N := some 20) (v := ?_) (a' := ?_) #[true, true, true, true, true, true, true, true, true, true, true, true, true, true, false, false] rfl rfl (any_of HT_.out (by kernel_rfl)) (fun _ _ _ h => h) (Or.inl ⟨by rfl, ?_⟩) ?_ ?_
      rotate_left
      · intro w'
        go_simp
        with_reducible rfl
      rotate_left
      · simp only [Act.put, List.setIfInBounds_toArray, List.set_cons_zero, List.set_cons_succ, i64_w, i32_w]
        rfl
      refine pure_ (i := 14) (N := some 23) (v := ?_) (a' := ?_) #[true, true, true, true, true, true, true, true, true, true, true, true, true, true, true, false] rfl rfl (any_of HT_.out (by kernel_rfl)) (fun _ _ _ h => h) (Or.inl ⟨by rfl, ?_⟩) ?_ ?_
      rotate_left
      · intro w'
        go_simp
        with_reducible rfl
      rotate_left
      · simp only [Act.put, List.setIfInBounds_toArray, List.set_cons_zero, List.set_cons_succ, i64_w, i32_w]
        rfl
      refine pure_ (i := 15) (N := some 24) (v := ?_) (a' := ?_) #[true, true, true, true, true, true, true, true, true, true, true, true, true, true, true, true] rfl rfl (any_of HT_.out (by kernel_rfl)) (fun _ _ _ h => h) (Or.inl ⟨by rfl, ?_⟩) ?_ ?_
      rotate_left
      · intro w'
        go_simp
        with_reducible rfl
      rotate_left
      · simp only [Act.put, List.setIfInBounds_toArray, List.set_cons_zero, List.set_cons_succ, i64_w, i32_w]
        rfl
      refine done_ (done_of HT_.out (by kernel_rfl)) ?_
      try go_wp2
      go_meet
      case rel => exact ⟨_, (decide ((wrap64 ((wrap64 (a1_0 + t293)) - 1)) ≥ (l0.length : Int))), (by first | rfl | (simp; done) | (simp [*]; done)), H', ⟨by first | omega | exact Nat.le_refl _⟩, ⟨by exact BK290.out⟩, ⟨by exact BK291.out⟩, ⟨by repeat (first | (with_reducible first | exact HB.out | apply below_alloc | apply pw_below_drewN | apply below_drew1 | refine below_set ?_ GE290.out | refine below_set ?_ GE291.out) | exact HB.out)⟩⟩
    · replace c8 := Bool.eq_false_iff.mpr c8
      subst c8
      have H1 : (foolscapref5_Last.j0 k l0 a2 true a1_0 a1_1) = some (r1, r2, r3, r4, r5, r6) := by rw [if_neg (show ¬ (false = true) by decide)] at H; exact H
      clear H
      have H := H1
      clear H1
      have H' := Aside0.mk H
      clear H
      try go_wp2
      have n0_ := Aside0.mk (blk_drew BK290.out)
      have n1_ := Aside0.mk (blk_drew BK291.out)
      have n2_ := Aside0.mk (below_drew1 HB.out)
      clear BK290
      clear BK291
      clear HB
      have BK290 := n0_
      have BK291 := n1_
      have HB := n2_
      clear n0_ n1_ n2_
      refine start_ (n := 16) (S := fun w' => w'.cell? ⟨gb290, 0, none⟩ = some (.int .i64 a1_0) ∧ w'.cell? ⟨gb290, 1, none⟩ = some (.int .i64 a1_1)) (ds := []) #[false, false, false, false, false, false, false, false, false, false, false, false, false, false, false, false] (by kernel_rfl) rfl rfl ⟨(blk_cell BK290.out 0).trans rfl, (blk_cell BK290.out 1).trans rfl⟩ (fun hHeld => ?_); refine with_tabW foolscapref5_Last.tab1 foolscapref5_Last.bits1 (fun HT_ HW_ => ?_)
      generalize w6.drew = w13 at BK290 BK291 HB hHeld ⊢
      refine pure_ (i := 0) (N := some 9) (v := ?_) (a' := ?_) #[true, false, false, false, false, false, false, false, false, false, false, false, false, false, false, false] rfl rfl (any_of HT_.out (by kernel_rfl)) (fun _ _ _ h => h) (Or.inl ⟨by rfl, ?_⟩) ?_ ?_
      rotate_left
      · intro w'
        go_simp
        with_reducible rfl
      rotate_left
      · simp only [Act.put, List.setIfInBounds_toArray, List.set_cons_zero, List.set_cons_succ, i64_w, i32_w]
        rfl
      refine pure_ (i := 2) (N := some 11) (v := ?_) (a' := ?_) #[true, false, true, false, false, false, false, false, false, false, false, false, false, false, false, false] rfl rfl (any_of HT_.out (by kernel_rfl)) (fun _ _ _ h => h) (Or.inl ⟨by rfl, ?_⟩) ?_ ?_
      rotate_left
      · intro w'
        go_simp
        with_reducible rfl
      rotate_left
      · simp only [Act.put, List.setIfInBounds_toArray, List.set_cons_zero, List.set_cons_succ, i64_w, i32_w]
        rfl
      refine take_ (i := 1) (N := some 10) (v := ?_) (a' := ?_) #[true, true, true, false, false, false, false, false, false, false, false, false, false, false, false, false] rfl rfl (take_ofW HT_.out HW_.out (by kernel_rfl)) (fun _ _ _ h => h) (Or.inl ⟨by rfl, ?_⟩) hHeld ?_ ?_
      rotate_left
      · rintro w' ⟨s0, s1⟩
        go_simp
        with_reducible rfl
      rotate_left
      · simp only [Act.put, List.setIfInBounds_toArray, List.set_cons_zero, List.set_cons_succ, i64_w, i32_w]
        rfl
      refine one_ (i := 3) (N := some 12) #[true, true, true, true, false, false, false, false, false, false, false, false, false, false, false, false] rfl rfl (one_of HT_.out (by kernel_rfl)) (by decide) (fun K hK => ?_)
      refine goes_ Try.func31 (by kernel_rfl) rfl #[.slice A0 l0.length c0, .agg #[.int .i64 a1_0, .int .i64 a1_1], .int .i64 a2] (by rfl) rfl rfl (by (try simp only [List.map_toArray, List.map_cons, List.map_nil]); first | done | rfl | (simp only [List.length_drop, List.length_take]; rfl)) ?_
      with_reducible refine (foolscapref5_may.calls _ _ l0 a1_0 a1_1 a2 false _ ?side1 ?side2 A7.out).mono ?_
      (case side1 => repeat (first | exact (Kd.C_below HR0.out HB.out) | (with_reducible refine Kd.C_alloc ?_ _) | (with_reducible refine Kd.C_drewN ?_ _) | (with_reducible refine Kd.C_drew ?_)))
      (case side2 => exact HC0.out)
      rintro e w14 ⟨rfl, hb⟩
      refine ⟨_, rfl, ?_⟩
      have n0_ := Aside0.mk (blk_below (g := gb290) (o := .cells #[.int .i64 a1_0, .int .i64 a1_1] 24 (0, 0)) (by exact BK290.out) hb)
      have n1_ := Aside0.mk (blk_below (g := gb291) (o := .cells #[.int .i64 0, .int .i64 0, .int .i64 0, .bool false, .int .i64 0] 33 (0, 0)) (by exact BK291.out) hb)
      have n2_ := Aside0.mk (below_step (by repeat (first | (with_reducible first | exact HB.out | apply below_alloc | apply pw_below_drewN | apply below_drew1 | refine below_set ?_ GE290.out | refine below_set ?_ GE291.out) | exact HB.out)) hb)
      clear BK290
      clear BK291
      clear HB
      have BK290 := n0_
      have BK291 := n1_
      have HB := n2_
      clear n0_ n1_ n2_
      (try clear hb)
      (try clear hb2)
      (try clear hk)
      (try clear hi)
      refine hK.out _ _ ⟨(blk_cell BK290.out 0).trans rfl, (blk_cell BK290.out 1).trans rfl⟩ (fun hHeld => ?_)
      clear hK K
      refine norm_ (a' := ?_) ?_ ?_
      rotate_left
      · show Act.put _ (some 12) _ = _
        simp only [Act.put, List.setIfInBounds_toArray, List.set_cons_zero, List.set_cons_succ, i64_w, i32_w]
        rfl
      refine pure_ (i := 4) (N := some 13) (v := ?_) (a' := ?_) #[true, true, true, true, true, false, false, false, false, false, false, false, false, false, false, false] rfl rfl (any_of HT_.out (by kernel_rfl)) (fun _ _ _ h => h) (Or.inl ⟨by rfl, ?_⟩) ?_ ?_
      rotate_left
      · intro w'
        go_simp
        with_reducible rfl
      rotate_left
      · simp only [Act.put, List.setIfInBounds_toArray, List.set_cons_zero, List.set_cons_succ, i64_w, i32_w]
        rfl
      refine pure_ (i := 5) (N := some 14) (v := ?_) (a' := ?_) #[true, true, true, true, true, true, false, false, false, false, false, false, false, false, false, false] rfl rfl (any_of HT_.out (by kernel_rfl)) (fun _ _ _ h => h) (Or.inl ⟨by rfl, ?_⟩) ?_ ?_
      rotate_left
      · intro w'
        go_simp
        with_reducible rfl
      rotate_left
      · simp only [Act.put, List.setIfInBounds_toArray, List.set_cons_zero, List.set_cons_succ, i64_w, i32_w]
        rfl
      refine pure_ (i := 6) (N := some 15) (v := undef) (a' := ?_) #[true, true, true, true, true, true, true, false, false, false, false, false, false, false, false, false] rfl rfl (any_of HT_.out (by kernel_rfl)) (fun _ _ _ h => h) (Or.inr ⟨by rfl, rfl⟩) ?_ ?_
      rotate_left
      · simp only [Act.put, List.setIfInBounds_toArray, List.set_cons_zero, List.set_cons_succ, i64_w, i32_w]
        rfl
      refine pure_ (i := 7) (N := some 16) (v := undef) (a' := ?_) #[true, true, true, true, true, true, true, true, false, false, false, false, false, false, false, false] rfl rfl (any_of HT_.out (by kernel_rfl)) (fun _ _ _ h => h) (Or.inr ⟨by rfl, rfl⟩) ?_ ?_
      rotate_left
      · simp only [Act.put, List.setIfInBounds_toArray, List.set_cons_zero, List.set_cons_succ, i64_w, i32_w]
        rfl
      refine pure_ (i := 8) (N := some 17) (v := undef) (a' := ?_) #[true, true, true, true, true, true, true, true, true, false, false, false, false, false, false, false] rfl rfl (any_of HT_.out (by kernel_rfl)) (fun _ _ _ h => h) (Or.inr ⟨by rfl, rfl⟩) ?_ ?_
      rotate_left
      · simp only [Act.put, List.setIfInBounds_toArray, List.set_cons_zero, List.set_cons_succ, i64_w, i32_w]
        rfl
      refine pure_ (i := 9) (N := some 18) (v := undef) (a' := ?_) #[true, true, true, true, true, true, true, true, true, true, false, false, false, false, false, false] rfl rfl (any_of HT_.out (by kernel_rfl)) (fun _ _ _ h => h) (Or.inr ⟨by rfl, rfl⟩) ?_ ?_
      rotate_left
      · simp only [Act.put, List.setIfInBounds_toArray, List.set_cons_zero, List.set_cons_succ, i64_w, i32_w]
        rfl
      refine pure_ (i := 10) (N := some 19) (v := undef) (a' := ?_) #[true, true, true, true, true, true, true, true, true, true, true, false, false, false, false, false] rfl rfl (any_of HT_.out (by kernel_rfl)) (fun _ _ _ h => h) (Or.inr ⟨by rfl, rfl⟩) ?_ ?_
      rotate_left
      · simp only [Act.put, List.setIfInBounds_toArray, List.set_cons_zero, List.set_cons_succ, i64_w, i32_w]
        rfl
      refine pure_ (i := 11) (N := some 20) (v := undef) (a' := ?_) #[true, true, true, true, true, true, true, true, true, true, true, true, false, false, false, false] rfl rfl (any_of HT_.out (by kernel_rfl)) (fun _ _ _ h => h) (Or.inr ⟨by rfl, rfl⟩) ?_ ?_
      rotate_left
      · simp only [Act.put, List.setIfInBounds_toArray, List.set_cons_zero, List.set_cons_succ, i64_w, i32_w]
        rfl
      refine pure_ (i := 12) (N := some 21) (v := undef) (a' := ?_) #[true, true, true, true, true, true, true, true, true, true, true, true, true, false, false, false] rfl rfl (any_of HT_.out (by kernel_rfl)) (fun _ _ _ h => h) (Or.inr ⟨by rfl, rfl⟩) ?_ ?_
      rotate_left
      · simp only [Act.put, List.setIfInBounds_toArray, List.set_cons_zero, List.set_cons_succ, i64_w, i32_w]
        rfl
      refine pure_ (i := 13) (N := some 22) (v := undef) (a' := ?_) #[true, true, true, true, true, true, true, true, true, true, true, true, true, true, false, false] rfl rfl (any_of HT_.out (by kernel_rfl)) (fun _ _ _ h => h) (Or.inr ⟨by rfl, rfl⟩) ?_ ?_
      rotate_left
      · simp only [Act.put, List.setIfInBounds_toArray, List.set_cons_zero, List.set_cons_succ, i64_w, i32_w]
        rfl
      refine pure_ (i := 14) (N := some 23) (v := undef) (a' := ?_) #[true, true, true, true, true, true, true, true, true, true, true, true, true, true, true, false] rfl rfl (any_of HT_.out (by kernel_rfl)) (fun _ _ _ h => h) (Or.inr ⟨by rfl, rfl⟩) ?_ ?_
      rotate_left
      · simp only [Act.put, List.setIfInBounds_toArray, List.set_cons_zero, List.set_cons_succ, i64_w, i32_w]
        rfl
      refine pure_ (i := 15) (N := some 24) (v := ?_) (a' := ?_) #[true, true, true, true, true, true, true, true, true, true, true, true, true, true, true, true] rfl rfl (any_of HT_.out (by kernel_rfl)) (fun _ _ _ h => h) (Or.inl ⟨by rfl, ?_⟩) ?_ ?_
      rotate_left
      · intro w'
        go_simp
        with_reducible rfl
      rotate_left
      · simp only [Act.put, List.setIfInBounds_toArray, List.set_cons_zero, List.set_cons_succ, i64_w, i32_w]
        rfl
      refine done_ (done_of HT_.out (by kernel_rfl)) ?_
      try go_wp2
      go_meet
      case rel => exact ⟨_, (true), (by first | rfl | (simp; done) | (simp [*]; done)), H', ⟨by first | omega | exact Nat.le_refl _⟩, ⟨by exact BK290.out⟩, ⟨by exact BK291.out⟩, ⟨by repeat (first | (with_reducible first | exact HB.out | apply below_alloc | apply pw_below_drewN | apply below_drew1 | refine below_set ?_ GE290.out | refine below_set ?_ GE291.out) | exact HB.out)⟩⟩
  case rest =>
    clear HC4
    try clear c2
    try clear p2
    try clear c3
    try clear p6
    try clear c8
    obtain ⟨kq, x24_3, rfl, HA, HJ3, BK290, BK291, HB⟩ := hcut
    cases kq with
    | zero => exact absurd HA.out (by simp [foolscapref5_Last.j0])
    | succ kj3 =>
      have H := HA.out
      clear HA
      simp only [foolscapref5_Last.j0] at H
      by_cases c15 : x24_3 = true
      · subst c15
        have H1 : ((foolscapref5_none.f).bind fun bt294 => (some (bt294.1, bt294.2.1, bt294.2.2.1, bt294.2.2.2.1, bt294.2.2.2.2.1, bt294.2.2.2.2.2))) = some (r1, r2, r3, r4, r5, r6) := by rw [if_pos rfl] at H; exact H
        clear H
        have H := H1
        clear H1
        replace H := Option.bind_eq_some_iff.mp H
        obtain ⟨⟨t294, t295, t296, t297, t298, t299⟩, A160, H⟩ := H
        replace H : (some (t294, t295, t296, t297, t298, t299)) = some (r1, r2, r3, r4, r5, r6) := H
        have A16 := Aside0.mk A160
        clear A160
        simp only [Option.some.injEq, Prod.mk.injEq] at H
        obtain ⟨rfl, rfl, rfl, rfl, rfl, rfl⟩ := H
        go_wp2_with (first | ((with_reducible refine gate_callee (f := 32) rfl ?_); refine goesL_ (some 25) rfl rfl Try.func32 (by kernel_rfl) rfl #[] rfl (by (try simp only [List.map_toArray, List.map_cons, List.map_nil]); first | done | rfl | (simp only [List.length_drop, List.length_take]; rfl)) ?_; (with_reducible refine (foolscapref5_none.calls  t294 t295 t296 t297 t298 t299 _ A16.out).mono ?_); rintro e w17 ⟨rfl, hb⟩; refine ⟨_, rfl, ?_⟩; have n0_ := Aside0.mk (blk_below (g := gb290) (o := .cells #[.int .i64 a1_0, .int .i64 a1_1] 24 (0, 0)) (by exact BK290.out) hb); have n1_ := Aside0.mk (blk_below (g := gb291) (o := .cells #[.int .i64 0, .int .i64 0, .int .i64 0, .bool false, .int .i64 0] 33 (0, 0)) (by exact BK291.out) hb); have n2_ := Aside0.mk (below_step (by repeat (first | (with_reducible first | exact HB.out | apply below_alloc | apply pw_below_drewN | apply below_drew1 | refine below_set ?_ GE290.out | refine below_set ?_ GE291.out) | exact HB.out)) hb); clear BK290; clear BK291; clear HB; have BK290 := n0_; have BK291 := n1_; have HB := n2_; clear n0_ n1_ n2_; (try clear hb); (try clear hb2); (try clear hk); (try clear hi); have hnb18 := NB291_290.out; have hnc18 := NB290_291.out; have hcz19_0 : w17.cell? ⟨gb291, 0, none⟩ = some (.int .i64 0) := (blk_cell BK291.out 0).trans rfl; have hcz19_1 : w17.cell? ⟨gb291, 1, none⟩ = some (.int .i64 0) := (blk_cell BK291.out 1).trans rfl; have hcz19_2 : w17.cell? ⟨gb291, 2, none⟩ = some (.int .i64 0) := (blk_cell BK291.out 2).trans rfl; have hcz19_3 : w17.cell? ⟨gb291, 3, none⟩ = some (.bool false) := (blk_cell BK291.out 3).trans rfl; have hcz19_4 : w17.cell? ⟨gb291, 4, none⟩ = some (.int .i64 0) := (blk_cell BK291.out 4).trans rfl; have hfz19_0 := blk_frozen BK291.out 0; have hfz19_1 := blk_frozen BK291.out 1; have hfz19_2 := blk_frozen BK291.out 2; have hfz19_3 := blk_frozen BK291.out 3; have hfz19_4 := blk_frozen BK291.out 4))
        refine bodyPost_ret (results_ct rfl _ _ gb291 33 #[.int .i64 t294, .int .i64 t295, .int .i64 t296, .bool t297, .int .i64 t298] (0, 0) _ rfl (by refine blk_put (cs := #[.int .i64 t294, .int .i64 t295, .int .i64 t296, .bool t297, .int .i64 0]) ?_ 4 _ rfl; refine blk_put (cs := #[.int .i64 t294, .int .i64 t295, .int .i64 t296, .bool false, .int .i64 0]) ?_ 3 _ rfl; refine blk_put (cs := #[.int .i64 t294, .int .i64 t295, .int .i64 0, .bool false, .int .i64 0]) ?_ 2 _ rfl; refine blk_put (cs := #[.int .i64 t294, .int .i64 0, .int .i64 0, .bool false, .int .i64 0]) ?_ 1 _ rfl; refine blk_put (cs := #[.int .i64 0, .int .i64 0, .int .i64 0, .bool false, .int .i64 0]) ?_ 0 _ rfl; exact BK291.out) Try.underlying33 rfl (by kernel_rfl)) rfl ?_
        exact ⟨by first | rfl | (simp [errW_none, errW_some] <;> rfl) | (simp [*, errW_none, errW_some] <;> rfl), by repeat (first | (with_reducible first | exact HB.out | apply below_alloc | apply pw_below_drewN | apply below_drew1 | refine below_set ?_ GE290.out | refine below_set ?_ GE291.out) | exact HB.out)⟩
      · replace c15 := Bool.eq_false_iff.mpr c15
        subst c15
        have H1 : (if 0 ≤ (wrap64 ((wrap64 (a1_0 + a2)) - 1)) then (if (wrap64 ((wrap64 (a1_0 + a2)) - 1)) < (l0.length : Int) then ((foolscapref5_last.f (rdOf ByteArray.empty l0 (wrap64 ((wrap64 (a1_0 + a2)) - 1)))).bind fun t301 => (some (wrap64 ((wrap64 (a1_0 + a2)) - 1), t301, 1, false, 1073741824, true))) else (none)) else (none)) = some (r1, r2, r3, r4, r5, r6) := by rw [if_neg (show ¬ (false = true) by decide)] at H; exact H
        clear H
        have H := H1
        clear H1
        obtain ⟨ji20, hji20⟩ : ∃ j_ : Int, (wrap64 ((wrap64 (a1_0 + a2)) - 1)) = j_ := ⟨_, rfl⟩
        replace H : (if 0 ≤ (ji20) then (if (ji20) < (l0.length : Int) then ((foolscapref5_last.f (rdOf ByteArray.empty l0 (ji20))).bind fun t301 => (some (ji20, t301, 1, false, 1073741824, true))) else (none)) else (none)) = some (r1, r2, r3, r4, r5, r6) := by first | (rw [hji20] at H; exact H) | (simp only [hji20] at H ⊢; exact H)
        have hji20w : (IntKind.i64.wrap ((wrap64 (a1_0 + a2)) - 1)) = ji20 := (i64_w _).trans hji20
        by_cases c21 : 0 ≤ (ji20)
        · rw [if_pos c21] at H
          have c21b0 : decide (0 ≤ (ji20)) = true := decide_eq_true c21
          clear c21
          by_cases c22 : (ji20) < (l0.length : Int)
          · rw [if_pos c22] at H
            have c22b0 : decide ((ji20) < (l0.length : Int)) = true := decide_eq_true c22
            clear c22
            replace H := Option.bind_eq_some_iff.mp H
            obtain ⟨t301, A230, H⟩ := H
            replace H : (some (ji20, t301, 1, false, 1073741824, true)) = some (r1, r2, r3, r4, r5, r6) := H
            have A23 := Aside0.mk A230
            clear A230
            simp only [Option.some.injEq, Prod.mk.injEq] at H
            obtain ⟨rfl, rfl, rfl, rfl, rfl, rfl⟩ := H
            have hnb24 := NB290_291.out
            have hnc24 := NB291_290.out
            have hcz25_0 : wc.cell? ⟨gb290, 0, none⟩ = some (.int .i64 a1_0) := (blk_cell BK290.out 0).trans rfl
            have hcz25_1 : wc.cell? ⟨gb290, 1, none⟩ = some (.int .i64 a1_1) := (blk_cell BK290.out 1).trans rfl
            have hfz25_0 := blk_frozen BK290.out 0
            have hfz25_1 := blk_frozen BK290.out 1
            have p300 : 0 ≤ ((ji20) : Int) := of_decide_eq_true (by first | (with_reducible assumption) | assumption)
            have q300 : (ji20) < (l0.length : Int) := of_decide_eq_true (by first | (with_reducible assumption) | assumption)
            obtain ⟨ad300, e300, hx300_0⟩ := Kd.at_string HR0.out (ji20) p300 q300
            cases e300
            replace hx300_0 := (HB.out.cell (World.block_lt_of_cell? w _ hx300_0)).trans hx300_0
            replace p300 := eq_true p300
            replace q300 := eq_true q300
            go_wp2_with (first | ((with_reducible refine gate_callee (f := 35) rfl ?_); refine goesL_ (some 38) rfl rfl Try.func35 (by kernel_rfl) rfl #[.string (rdOf ByteArray.empty l0 (ji20))] rfl (by (try simp only [List.map_toArray, List.map_cons, List.map_nil]); first | done | (simp only [hji20]; rfl) | rfl | (simp only [List.length_drop, List.length_take]; rfl)) ?_; (with_reducible refine (foolscapref5_last.calls (rdOf ByteArray.empty l0 (ji20)) t301 _ A23.out).mono ?_); rintro e w26 ⟨rfl, hb⟩; refine ⟨_, rfl, ?_⟩; have n0_ := Aside0.mk (blk_below (g := gb290) (o := .cells #[.int .i64 a1_0, .int .i64 a1_1] 24 (0, 0)) (by exact BK290.out) hb); have n1_ := Aside0.mk (blk_below (g := gb291) (o := .cells #[.int .i64 0, .int .i64 0, .int .i64 0, .bool false, .int .i64 0] 33 (0, 0)) (by exact BK291.out) hb); have n2_ := Aside0.mk (below_step (by repeat (first | (with_reducible first | exact HB.out | apply below_alloc | apply pw_below_drewN | apply below_drew1 | refine below_set ?_ GE290.out | refine below_set ?_ GE291.out) | exact HB.out)) hb); clear BK290; clear BK291; clear HB; have BK290 := n0_; have BK291 := n1_; have HB := n2_; clear n0_ n1_ n2_; (try clear hb); (try clear hb2); (try clear hk); (try clear hi); have hcz27_0 : w26.cell? ⟨gb291, 0, none⟩ = some (.int .i64 0) := (blk_cell BK291.out 0).trans rfl; have hcz27_1 : w26.cell? ⟨gb291, 1, none⟩ = some (.int .i64 0) := (blk_cell BK291.out 1).trans rfl; have hcz27_2 : w26.cell? ⟨gb291, 2, none⟩ = some (.int .i64 0) := (blk_cell BK291.out 2).trans rfl; have hcz27_3 : w26.cell? ⟨gb291, 3, none⟩ = some (.bool false) := (blk_cell BK291.out 3).trans rfl; have hcz27_4 : w26.cell? ⟨gb291, 4, none⟩ = some (.int .i64 0) := (blk_cell BK291.out 4).trans rfl; have hfz27_0 := blk_frozen BK291.out 0; have hfz27_1 := blk_frozen BK291.out 1; have hfz27_2 := blk_frozen BK291.out 2; have hfz27_3 := blk_frozen BK291.out 3; have hfz27_4 := blk_frozen BK291.out 4))
            refine bodyPost_ret (results_ct rfl _ _ gb291 33 #[.int .i64 ji20, .int .i64 t301, .int .i64 1, .bool false, .int .i64 1073741824] (0, 0) _ rfl (by refine blk_put (cs := #[.int .i64 ji20, .int .i64 t301, .int .i64 1, .bool false, .int .i64 0]) ?_ 4 _ rfl; refine blk_put (cs := #[.int .i64 ji20, .int .i64 t301, .int .i64 1, .bool false, .int .i64 0]) ?_ 3 _ rfl; refine blk_put (cs := #[.int .i64 ji20, .int .i64 t301, .int .i64 0, .bool false, .int .i64 0]) ?_ 2 _ rfl; refine blk_put (cs := #[.int .i64 ji20, .int .i64 0, .int .i64 0, .bool false, .int .i64 0]) ?_ 1 _ rfl; refine blk_put (cs := #[.int .i64 0, .int .i64 0, .int .i64 0, .bool false, .int .i64 0]) ?_ 0 _ rfl; exact BK291.out) Try.underlying33 rfl (by kernel_rfl)) rfl ?_
            exact ⟨by first | rfl | (simp [errW_none, errW_some] <;> rfl) | (simp only [← hji20]; first | rfl | (simp [errW_none, errW_some] <;> rfl)) | (simp [*, errW_none, errW_some] <;> rfl), by repeat (first | (with_reducible first | exact HB.out | apply below_alloc | apply pw_below_drewN | apply below_drew1 | refine below_set ?_ GE290.out | refine below_set ?_ GE291.out) | exact HB.out)⟩
          · rw [if_neg c22] at H
            exact absurd H (by simp)
        · rw [if_neg c21] at H
          exact absurd H (by simp)

end Go.Proofs.Ytdiakjamahdcfaa.V
namespace Go.Proofs.Ytdiakjamahdcfaa.V
open Go.RowKit Go.Proofs.YtdiakjamahdcfaaW.PrintWords Go.Proofs.YtdiakjamahdcfaaW.PrintLast Go.Proofs.YtdiakjamahdcfaaW.PrintMore
attribute [local go_sem] max2_int min2_int max_two min_two max_three min_three max_four min_four   -- for this text's walks alone
set_option linter.unusedVariables false
set_option linter.unusedSimpArgs false

/-! ### chars_Column: function 21 -/
def chars_Column.f (l0 : List ByteArray) (a1_0 : Int) (a1_1 : Int) (a2 : Int) : Option (Int × Int × Int × Bool × Int × Bool) := (chars_fails.f l0 a1_0 a1_1 a2).bind fun t304 => (if t304 = true then (some (0, 0, 0, false, 0, false)) else (if 0 ≤ a1_0 then (if a1_0 < (l0.length : Int) then ((chars_to.f a1_0 a1_1 (mn (wrap64 ((mn a2 1073741824) - 1)) (mx (wrap64 (((rdOf ByteArray.empty l0 a1_0).size : Int) - 1)) 0))).bind fun bt306 => (some (bt306.1, bt306.2.1, bt306.2.2.1, bt306.2.2.2.1, wrap64 ((mn a2 1073741824) - 1), bt306.2.2.2.2.2))) else (none)) else (none)))
def chars_Column.T4 : Bool × List (List Nat × List Nat) := (true, [([], []), ([], []), ([1], [1]), ([], []), ([], []), ([4], [4]), ([3, 5], [3, 5]), ([6], [6]), ([7], [7]), ([8], [8]), ([9], [9]), ([2, 10], [2, 10]), ([0, 11], [0, 11]), ([12], [12]), ([13], [13]), ([13], [13]), ([], []), ([16, 14, 12, 0, 1, 2, 3, 4, 5, 6, 7, 8, 9, 10, 11, 12, 13, 14, 16], [14, 16]), ([15, 17, 0, 1, 2, 3, 4, 5, 6, 7, 8, 9, 10, 11, 12, 13, 14, 15, 16, 17], [15])])
def chars_Column.B4 : List Nat := [0, 0, 2, 0, 0, 16, 56, 120, 248, 504, 1016, 2046, 4095, 8191, 16383, 16383, 0, 98303, 262143]
theorem chars_Column.tab4 : rtab .any (opsOf Try.f21 4) = chars_Column.T4 := by kernel_rfl
theorem chars_Column.bits4 : waitsOk chars_Column.T4.2 chars_Column.B4 = true := by kernel_rfl
set_option maxHeartbeats 8000000 in
set_option maxRecDepth 100000 in
theorem chars_Column.calls (A0 : Option Addr) (c0 : Nat) (l0 : List ByteArray) (a1_0 : Int) (a1_1 : Int) (a2 : Int) (r1 : Int) (r2 : Int) (r3 : Int) (r4 : Bool) (r5 : Int) (r6 : Bool) (w : World) (hr0 : Kd.C Kd.string w A0 l0.length l0) (hc0 : l0.length ≤ c0) (h : chars_Column.f l0 a1_0 a1_1 a2 = some (r1, r2, r3, r4, r5, r6)) :
    Calls Try.prog 21 #[.slice A0 l0.length c0, .agg #[.int .i64 a1_0, .int .i64 a1_1], .int .i64 a2] w fun e w' => e = .returned (.tuple #[.agg #[.int .i64 r1, .int .i64 r2, .int .i64 r3, .bool r4, .int .i64 r5], .bool r6]) ∧ Below w.heap.size w w' := by
  have hu24 := Try.underlying24
  have hu33 := Try.underlying33
  have HR0 := Aside0.mk hr0
  have HC0 := Aside0.mk hc0
  clear hr0 hc0
  have HB := Aside0.mk (Below.refl w.heap.size w)
  have H : ((chars_fails.f l0 a1_0 a1_1 a2).bind fun t304 => (if t304 = true then (some (0, 0, 0, false, 0, false)) else (if 0 ≤ a1_0 then (if a1_0 < (l0.length : Int) then ((chars_to.f a1_0 a1_1 (mn (wrap64 ((mn a2 1073741824) - 1)) (mx (wrap64 (((rdOf ByteArray.empty l0 a1_0).size : Int) - 1)) 0))).bind fun bt306 => (some (bt306.1, bt306.2.1, bt306.2.2.1, bt306.2.2.2.1, wrap64 ((mn a2 1073741824) - 1), bt306.2.2.2.2.2))) else (none)) else (none)))) = some (r1, r2, r3, r4, r5, r6) := h
  clear h
  replace H := Option.bind_eq_some_iff.mp H
  obtain ⟨t304, A40, H⟩ := H
  replace H : (if t304 = true then (some (0, 0, 0, false, 0, false)) else (if 0 ≤ a1_0 then (if a1_0 < (l0.length : Int) then ((chars_to.f a1_0 a1_1 (mn (wrap64 ((mn a2 1073741824) - 1)) (mx (wrap64 (((rdOf ByteArray.empty l0 a1_0).size : Int) - 1)) 0))).bind fun bt306 => (some (bt306.1, bt306.2.1, bt306.2.2.1, bt306.2.2.2.1, wrap64 ((mn a2 1073741824) - 1), bt306.2.2.2.2.2))) else (none)) else (none))) = some (r1, r2, r3, r4, r5, r6) := H
  have A4 := Aside0.mk A40
  clear A40
  by_cases c5 : t304 = true
  · subst c5
    have H1 : (some (0, 0, 0, false, 0, false)) = some (r1, r2, r3, r4, r5, r6) := by rw [if_pos rfl] at H; exact H
    clear H
    have H := H1
    clear H1
    simp only [Option.some.injEq, Prod.mk.injEq] at H
    obtain ⟨rfl, rfl, rfl, rfl, rfl, rfl⟩ := H
    go_enter Try.func21, Try.ntmps21
    go_wp2_with (first | ((with_reducible refine gate_dst (N := 4) rfl ?_); refine box_event ?hg (N := 4) ?hd (cs := #[.int .i64 a1_0, .int .i64 a1_1]) (t := 24) ?hr ?_; (case hd => rfl); (case hg => rfl); (case hr => first | (go_simp; done) | (go_simp; rfl)); intro gb302 hg w6 hbox hb; have n0_ := Aside0.mk (below_step (by repeat (first | (with_reducible first | exact HB.out | apply below_alloc | apply pw_below_drewN | apply below_drew1) | exact HB.out)) hb); have n1_ := Aside0.mk (hbox); have n2_ := Aside0.mk ((by rw [hg]; exact (below_size (by repeat (first | (with_reducible first | exact HB.out | apply below_alloc | apply pw_below_drewN | apply below_drew1) | exact HB.out))) : w.heap.size ≤ gb302)); have n3_ := Aside0.mk ((by rw [hg]; exact (below_size (by repeat (first | (with_reducible first | exact HB.out | apply below_alloc | apply pw_below_drewN | apply below_drew1) | exact HB.out))) : w.heap.size ≤ gb302)); clear HB; have HB := n0_; have BK302 := n1_; have GW302 := n2_; have GE302 := n3_; clear n0_ n1_ n2_ n3_; clear hb hbox hg) | ((with_reducible refine gate_dst (N := 6) rfl ?_); refine box_event ?hg (N := 6) ?hd (cs := #[.int .i64 0, .int .i64 0, .int .i64 0, .bool false, .int .i64 0]) (t := 33) ?hr ?_; (case hd => rfl); (case hg => rfl); (case hr => first | (go_simp; done) | (go_simp; rfl)); intro gb303 hg w7 hbox hb; have n0_ := Aside0.mk (blk_below (g := gb302) (o := .cells #[.int .i64 a1_0, .int .i64 a1_1] 24 (0, 0)) (by exact BK302.out) hb); have n1_ := Aside0.mk (below_step (by repeat (first | (with_reducible first | exact HB.out | apply below_alloc | apply pw_below_drewN | apply below_drew1 | refine below_set ?_ GE302.out) | exact HB.out)) hb); have n2_ := Aside0.mk (hbox); have n3_ := Aside0.mk ((by rw [hg]; exact (below_size (by repeat (first | (with_reducible first | exact HB.out | apply below_alloc | apply pw_below_drewN | apply below_drew1 | refine below_set ?_ GE302.out) | exact HB.out))) : w.heap.size ≤ gb303)); have n4_ := Aside0.mk ((by rw [hg]; exact (below_size (by repeat (first | (with_reducible first | exact HB.out | apply below_alloc | apply pw_below_drewN | apply below_drew1 | refine below_set ?_ GE302.out) | exact HB.out))) : w.heap.size ≤ gb303)); have n5_ := Aside0.mk ((by rw [hg]; exact Nat.ne_of_lt (blk_lt (g := gb302) (o := .cells #[.int .i64 a1_0, .int .i64 a1_1] 24 (0, 0)) (by exact BK302.out)) : gb302 ≠ gb303)); have n6_ := Aside0.mk ((by rw [hg]; exact Nat.ne_of_gt (blk_lt (g := gb302) (o := .cells #[.int .i64 a1_0, .int .i64 a1_1] 24 (0, 0)) (by exact BK302.out)) : gb303 ≠ gb302)); clear BK302; clear HB; have BK302 := n0_; have HB := n1_; have BK303 := n2_; have GW303 := n3_; have GE303 := n4_; have NB302_303 := n5_; have NB303_302 := n6_; clear n0_ n1_ n2_ n3_ n4_ n5_ n6_; clear hb hbox hg; have hnb8 := NB302_303.out; have hnc8 := NB303_302.out; have hcz9_0 : w7.cell? ⟨gb302, 0, none⟩ = some (.int .i64 a1_0) := (blk_cell BK302.out 0).trans rfl; have hcz9_1 : w7.cell? ⟨gb302, 1, none⟩ = some (.int .i64 a1_1) := (blk_cell BK302.out 1).trans rfl; have hfz9_0 := blk_frozen BK302.out 0; have hfz9_1 := blk_frozen BK302.out 1) | ((with_reducible refine gate_callee (f := 28) rfl ?_); refine goesL_ (some 13) rfl rfl Try.func28 (by kernel_rfl) rfl #[.slice A0 l0.length c0, .agg #[.int .i64 a1_0, .int .i64 a1_1], .int .i64 a2] rfl (by (try simp only [List.map_toArray, List.map_cons, List.map_nil]); first | done | rfl | (simp only [List.length_drop, List.length_take]; rfl)) ?_; (with_reducible refine (chars_fails.calls _ _ l0 a1_0 a1_1 a2 true _ ?side1 ?side2 A4.out).mono ?_); (case side1 => repeat (first | exact (Kd.C_below HR0.out HB.out) | (with_reducible refine Kd.C_alloc ?_ _) | (with_reducible refine Kd.C_drewN ?_ _) | (with_reducible refine Kd.C_drew ?_))); (case side2 => exact HC0.out); rintro e w10 ⟨rfl, hb⟩; refine ⟨_, rfl, ?_⟩; have n0_ := Aside0.mk (blk_below (g := gb302) (o := .cells #[.int .i64 a1_0, .int .i64 a1_1] 24 (0, 0)) (by exact BK302.out) hb); have n1_ := Aside0.mk (blk_below (g := gb303) (o := .cells #[.int .i64 0, .int .i64 0, .int .i64 0, .bool false, .int .i64 0] 33 (0, 0)) (by exact BK303.out) hb); have n2_ := Aside0.mk (below_step (by repeat (first | (with_reducible first | exact HB.out | apply below_alloc | apply pw_below_drewN | apply below_drew1 | refine below_set ?_ GE302.out | refine below_set ?_ GE303.out) | exact HB.out)) hb); clear BK302; clear BK303; clear HB; have BK302 := n0_; have BK303 := n1_; have HB := n2_; clear n0_ n1_ n2_; (try clear hb); (try clear hb2); (try clear hk); (try clear hi); have hcz11_0 : w10.cell? ⟨gb303, 0, none⟩ = some (.int .i64 0) := (blk_cell BK303.out 0).trans rfl; have hcz11_1 : w10.cell? ⟨gb303, 1, none⟩ = some (.int .i64 0) := (blk_cell BK303.out 1).trans rfl; have hcz11_2 : w10.cell? ⟨gb303, 2, none⟩ = some (.int .i64 0) := (blk_cell BK303.out 2).trans rfl; have hcz11_3 : w10.cell? ⟨gb303, 3, none⟩ = some (.bool false) := (blk_cell BK303.out 3).trans rfl; have hcz11_4 : w10.cell? ⟨gb303, 4, none⟩ = some (.int .i64 0) := (blk_cell BK303.out 4).trans rfl; have hfz11_0 := blk_frozen BK303.out 0; have hfz11_1 := blk_frozen BK303.out 1; have hfz11_2 := blk_frozen BK303.out 2; have hfz11_3 := blk_frozen BK303.out 3; have hfz11_4 := blk_frozen BK303.out 4))
    refine bodyPost_ret (results_ct rfl _ _ gb303 33 #[.int .i64 0, .int .i64 0, .int .i64 0, .bool false, .int .i64 0] (0, 0) _ rfl (by refine blk_put (cs := #[.int .i64 0, .int .i64 0, .int .i64 0, .bool false, .int .i64 0]) ?_ 4 _ rfl; refine blk_put (cs := #[.int .i64 0, .int .i64 0, .int .i64 0, .bool false, .int .i64 0]) ?_ 3 _ rfl; refine blk_put (cs := #[.int .i64 0, .int .i64 0, .int .i64 0, .bool false, .int .i64 0]) ?_ 2 _ rfl; refine blk_put (cs := #[.int .i64 0, .int .i64 0, .int .i64 0, .bool false, .int .i64 0]) ?_ 1 _ rfl; refine blk_put (cs := #[.int .i64 0, .int .i64 0, .int .i64 0, .bool false, .int .i64 0]) ?_ 0 _ rfl; exact BK303.out) Try.underlying33 rfl (by kernel_rfl)) rfl ?_
    exact ⟨by first | rfl | (simp [errW_none, errW_some] <;> rfl) | (simp [*, errW_none, errW_some] <;> rfl), by repeat (first | (with_reducible first | exact HB.out | apply below_alloc | apply pw_below_drewN | apply below_drew1 | refine below_set ?_ GE302.out | refine below_set ?_ GE303.out) | exact HB.out)⟩
  · replace c5 := Bool.eq_false_iff.mpr c5
    subst c5
    have H1 : (if 0 ≤ a1_0 then (if a1_0 < (l0.length : Int) then ((chars_to.f a1_0 a1_1 (mn (wrap64 ((mn a2 1073741824) - 1)) (mx (wrap64 (((rdOf ByteArray.empty l0 a1_0).size : Int) - 1)) 0))).bind fun bt306 => (some (bt306.1, bt306.2.1, bt306.2.2.1, bt306.2.2.2.1, wrap64 ((mn a2 1073741824) - 1), bt306.2.2.2.2.2))) else (none)) else (none)) = some (r1, r2, r3, r4, r5, r6) := by rw [if_neg (show ¬ (false = true) by decide)] at H; exact H
    clear H
    have H := H1
    clear H1
    obtain ⟨ji12, hji12⟩ : ∃ j_ : Int, (mn a2 1073741824) = j_ := ⟨_, rfl⟩
    replace H : (if 0 ≤ a1_0 then (if a1_0 < (l0.length : Int) then ((chars_to.f a1_0 a1_1 (mn (wrap64 ((ji12) - 1)) (mx (wrap64 (((rdOf ByteArray.empty l0 a1_0).size : Int) - 1)) 0))).bind fun bt306 => (some (bt306.1, bt306.2.1, bt306.2.2.1, bt306.2.2.2.1, wrap64 ((ji12) - 1), bt306.2.2.2.2.2))) else (none)) else (none)) = some (r1, r2, r3, r4, r5, r6) := by first | (rw [hji12] at H; exact H) | (simp only [hji12] at H ⊢; exact H)
    (try rw [hji12] at A4)
    (try (have hji12h : ji12 ≤ 1073741824 := by (rw [← hji12]; unfold mn; (repeat' split) <;> omega)))
    (try (have hji12g : ji12 ≤ 64 := by omega))
    have hji12_ : (if 1073741824 < a2 then 1073741824 else a2) = ji12 := hji12
    by_cases c13 : 0 ≤ a1_0
    · rw [if_pos c13] at H
      have c13b0 : decide (0 ≤ a1_0) = true := decide_eq_true c13
      clear c13
      by_cases c14 : a1_0 < (l0.length : Int)
      · rw [if_pos c14] at H
        have c14b0 : decide (a1_0 < (l0.length : Int)) = true := decide_eq_true c14
        clear c14
        obtain ⟨ji15, hji15⟩ : ∃ j_ : Int, (mx (wrap64 (((rdOf ByteArray.empty l0 a1_0).size : Int) - 1)) 0) = j_ := ⟨_, rfl⟩
        replace H : ((chars_to.f a1_0 a1_1 (mn (wrap64 ((ji12) - 1)) (ji15))).bind fun bt306 => (some (bt306.1, bt306.2.1, bt306.2.2.1, bt306.2.2.2.1, wrap64 ((ji12) - 1), bt306.2.2.2.2.2))) = some (r1, r2, r3, r4, r5, r6) := by first | (rw [hji15] at H; exact H) | (simp only [hji15] at H ⊢; exact H)
        (try rw [hji15] at A4)
        (try (have hji15l : 0 ≤ ji15 := by (rw [← hji15]; unfold mx; (repeat' split) <;> omega)))
        (try (have hji15m : 0 ≤ ji15 := by omega))
        have hji15_ : (if (wrap64 (((rdOf ByteArray.empty l0 a1_0).size : Int) - 1)) < 0 then 0 else (wrap64 (((rdOf ByteArray.empty l0 a1_0).size : Int) - 1))) = ji15 := hji15
        obtain ⟨ji16, hji16⟩ : ∃ j_ : Int, (mn (wrap64 ((ji12) - 1)) (ji15)) = j_ := ⟨_, rfl⟩
        replace H : ((chars_to.f a1_0 a1_1 (ji16)).bind fun bt306 => (some (bt306.1, bt306.2.1, bt306.2.2.1, bt306.2.2.2.1, wrap64 ((ji12) - 1), bt306.2.2.2.2.2))) = some (r1, r2, r3, r4, r5, r6) := by first | (rw [hji16] at H; exact H) | (simp only [hji16] at H ⊢; exact H)
        (try rw [hji16] at A4)
        have hji16_ : (if (ji15) < (wrap64 ((ji12) - 1)) then (ji15) else (wrap64 ((ji12) - 1))) = ji16 := hji16
        replace H := Option.bind_eq_some_iff.mp H
        obtain ⟨⟨t306, t307, t308, t309, t310, t311⟩, A170, H⟩ := H
        replace H : (some (t306, t307, t308, t309, wrap64 ((ji12) - 1), t311)) = some (r1, r2, r3, r4, r5, r6) := H
        have A17 := Aside0.mk A170
        clear A170
        simp only [Option.some.injEq, Prod.mk.injEq] at H
        obtain ⟨rfl, rfl, rfl, rfl, rfl, rfl⟩ := H
        go_enter Try.func21, Try.ntmps21
        try go_wp2_with (first | ((with_reducible refine gate_dst (N := 4) rfl ?_); refine box_event ?hg (N := 4) ?hd (cs := #[.int .i64 a1_0, .int .i64 a1_1]) (t := 24) ?hr ?_; (case hd => rfl); (case hg => rfl); (case hr => first | (go_simp; done) | (go_simp; rfl)); intro gb302 hg w18 hbox hb; have n0_ := Aside0.mk (below_step (by repeat (first | (with_reducible first | exact HB.out | apply below_alloc | apply pw_below_drewN | apply below_drew1) | exact HB.out)) hb); have n1_ := Aside0.mk (hbox); have n2_ := Aside0.mk ((by rw [hg]; exact (below_size (by repeat (first | (with_reducible first | exact HB.out | apply below_alloc | apply pw_below_drewN | apply below_drew1) | exact HB.out))) : w.heap.size ≤ gb302)); have n3_ := Aside0.mk ((by rw [hg]; exact (below_size (by repeat (first | (with_reducible first | exact HB.out | apply below_alloc | apply pw_below_drewN | apply below_drew1) | exact HB.out))) : w.heap.size ≤ gb302)); clear HB; have HB := n0_; have BK302 := n1_; have GW302 := n2_; have GE302 := n3_; clear n0_ n1_ n2_ n3_; clear hb hbox hg) | ((with_reducible refine gate_dst (N := 6) rfl ?_); refine box_event ?hg (N := 6) ?hd (cs := #[.int .i64 0, .int .i64 0, .int .i64 0, .bool false, .int .i64 0]) (t := 33) ?hr ?_; (case hd => rfl); (case hg => rfl); (case hr => first | (go_simp; done) | (go_simp; rfl)); intro gb303 hg w19 hbox hb; have n0_ := Aside0.mk (blk_below (g := gb302) (o := .cells #[.int .i64 a1_0, .int .i64 a1_1] 24 (0, 0)) (by exact BK302.out) hb); have n1_ := Aside0.mk (below_step (by repeat (first | (with_reducible first | exact HB.out | apply below_alloc | apply pw_below_drewN | apply below_drew1 | refine below_set ?_ GE302.out) | exact HB.out)) hb); have n2_ := Aside0.mk (hbox); have n3_ := Aside0.mk ((by rw [hg]; exact (below_size (by repeat (first | (with_reducible first | exact HB.out | apply below_alloc | apply pw_below_drewN | apply below_drew1 | refine below_set ?_ GE302.out) | exact HB.out))) : w.heap.size ≤ gb303)); have n4_ := Aside0.mk ((by rw [hg]; exact (below_size (by repeat (first | (with_reducible first | exact HB.out | apply below_alloc | apply pw_below_drewN | apply below_drew1 | refine below_set ?_ GE302.out) | exact HB.out))) : w.heap.size ≤ gb303)); have n5_ := Aside0.mk ((by rw [hg]; exact Nat.ne_of_lt (blk_lt (g := gb302) (o := .cells #[.int .i64 a1_0, .int .i64 a1_1] 24 (0, 0)) (by exact BK302.out)) : gb302 ≠ gb303)); have n6_ := Aside0.mk ((by rw [hg]; exact Nat.ne_of_gt (blk_lt (g := gb302) (o := .cells #[.int .i64 a1_0, .int .i64 a1_1] 24 (0, 0)) (by exact BK302.out)) : gb303 ≠ gb302)); clear BK302; clear HB; have BK302 := n0_; have HB := n1_; have BK303 := n2_; have GW303 := n3_; have GE303 := n4_; have NB302_303 := n5_; have NB303_302 := n6_; clear n0_ n1_ n2_ n3_ n4_ n5_ n6_; clear hb hbox hg; have hnb20 := NB302_303.out; have hnc20 := NB303_302.out; have hcz21_0 : w19.cell? ⟨gb302, 0, none⟩ = some (.int .i64 a1_0) := (blk_cell BK302.out 0).trans rfl; have hcz21_1 : w19.cell? ⟨gb302, 1, none⟩ = some (.int .i64 a1_1) := (blk_cell BK302.out 1).trans rfl; have hfz21_0 := blk_frozen BK302.out 0; have hfz21_1 := blk_frozen BK302.out 1) | ((with_reducible refine gate_callee (f := 28) rfl ?_); refine goesL_ (some 13) rfl rfl Try.func28 (by kernel_rfl) rfl #[.slice A0 l0.length c0, .agg #[.int .i64 a1_0, .int .i64 a1_1], .int .i64 a2] rfl (by (try simp only [List.map_toArray, List.map_cons, List.map_nil]); first | done | rfl | (simp only [List.length_drop, List.length_take]; rfl)) ?_; (with_reducible refine (chars_fails.calls _ _ l0 a1_0 a1_1 a2 false _ ?side1 ?side2 A4.out).mono ?_); (case side1 => repeat (first | exact (Kd.C_below HR0.out HB.out) | (with_reducible refine Kd.C_alloc ?_ _) | (with_reducible refine Kd.C_drewN ?_ _) | (with_reducible refine Kd.C_drew ?_))); (case side2 => exact HC0.out); rintro e w22 ⟨rfl, hb⟩; refine ⟨_, rfl, ?_⟩; have n0_ := Aside0.mk (blk_below (g := gb302) (o := .cells #[.int .i64 a1_0, .int .i64 a1_1] 24 (0, 0)) (by exact BK302.out) hb); have n1_ := Aside0.mk (blk_below (g := gb303) (o := .cells #[.int .i64 0, .int .i64 0, .int .i64 0, .bool false, .int .i64 0] 33 (0, 0)) (by exact BK303.out) hb); have n2_ := Aside0.mk (below_step (by repeat (first | (with_reducible first | exact HB.out | apply below_alloc | apply pw_below_drewN | apply below_drew1 | refine below_set ?_ GE302.out | refine below_set ?_ GE303.out) | exact HB.out)) hb); clear BK302; clear BK303; clear HB; have BK302 := n0_; have BK303 := n1_; have HB := n2_; clear n0_ n1_ n2_; (try clear hb); (try clear hb2); (try clear hk); (try clear hi)))
        have n0_ := Aside0.mk (blk_drew BK302.out)
        have n1_ := Aside0.mk (blk_drew BK303.out)
        have n2_ := Aside0.mk (below_drew1 HB.out)
        clear BK302
        clear BK303
        clear HB
        have BK302 := n0_
        have BK303 := n1_
        have HB := n2_
        clear n0_ n1_ n2_
        have p305 : 0 ≤ (a1_0 : Int) := of_decide_eq_true (by first | (with_reducible assumption) | assumption)
        have q305 : a1_0 < (l0.length : Int) := of_decide_eq_true (by first | (with_reducible assumption) | assumption)
        obtain ⟨ad305, e305, hx305_0⟩ := Kd.at_string HR0.out a1_0 p305 q305
        have hw305_0 := hx305_0
        cases e305
        replace hx305_0 := (HB.out.cell (World.block_lt_of_cell? w _ hx305_0)).trans hx305_0
        replace p305 := eq_true p305
        replace q305 := eq_true q305
        refine start_ (n := 19) (S := fun w' => w'.cell? ⟨gb302, 0, none⟩ = some (.int .i64 a1_0) ∧ w'.cell? ⟨gb302, 1, none⟩ = some (.int .i64 a1_1) ∧ w'.cell? (ad305.add (a1_0).toNat) = some (.string (rdOf ByteArray.empty l0 a1_0))) (ds := []) #[false, false, false, false, false, false, false, false, false, false, false, false, false, false, false, false, false, false, false] (by kernel_rfl) rfl rfl ⟨(blk_cell BK302.out 0).trans rfl, (blk_cell BK302.out 1).trans rfl, ((HB.out.cell (World.block_lt_of_cell? w _ hw305_0)).trans hw305_0)⟩ (fun hHeld => ?_); refine with_tabW chars_Column.tab4 chars_Column.bits4 (fun HT_ HW_ => ?_)
        generalize w22.drew = w23 at BK302 BK303 HB hx305_0 hHeld ⊢
        refine pure_ (i := 1) (N := some 19) (v := ?_) (a' := ?_) #[false, true, false, false, false, false, false, false, false, false, false, false, false, false, false, false, false, false, false] rfl rfl (any_of HT_.out (by kernel_rfl)) (fun _ _ _ h => h) (Or.inl ⟨by rfl, ?_⟩) ?_ ?_
        rotate_left
        · intro w'
          go_simp
          with_reducible rfl
        rotate_left
        · simp only [Act.put, List.setIfInBounds_toArray, List.set_cons_zero, List.set_cons_succ, i64_w, i32_w]
          rfl
        refine pure_ (i := 2) (N := some 20) (v := ?_) (a' := ?_) #[false, true, true, false, false, false, false, false, false, false, false, false, false, false, false, false, false, false, false] rfl rfl (any_of HT_.out (by kernel_rfl)) (fun _ _ _ h => h) (Or.inl ⟨by rfl, ?_⟩) ?_ ?_
        rotate_left
        · intro w'
          go_simp
          with_reducible rfl
        rotate_left
        · simp only [Act.put, List.setIfInBounds_toArray, List.set_cons_zero, List.set_cons_succ, i64_w, i32_w]
          rfl
        refine pure_ (i := 3) (N := some 21) (v := ?_) (a' := ?_) #[false, true, true, true, false, false, false, false, false, false, false, false, false, false, false, false, false, false, false] rfl rfl (any_of HT_.out (by kernel_rfl)) (fun _ _ _ h => h) (Or.inl ⟨by rfl, ?_⟩) ?_ ?_
        rotate_left
        · intro w'
          go_simp
          with_reducible rfl
        rotate_left
        · simp only [Act.put, List.setIfInBounds_toArray, List.set_cons_zero, List.set_cons_succ, i64_w, i32_w]
          rfl
        refine pure_ (i := 4) (N := some 22) (v := ?_) (a' := ?_) #[false, true, true, true, true, false, false, false, false, false, false, false, false, false, false, false, false, false, false] rfl rfl (any_of HT_.out (by kernel_rfl)) (fun _ _ _ h => h) (Or.inl ⟨by rfl, ?_⟩) ?_ ?_
        rotate_left
        · intro w'
          go_simp
          with_reducible rfl
        rotate_left
        · simp only [Act.put, List.setIfInBounds_toArray, List.set_cons_zero, List.set_cons_succ, i64_w, i32_w]
          rfl
        refine take_ (i := 0) (N := some 18) (v := ?_) (a' := ?_) #[true, true, true, true, true, false, false, false, false, false, false, false, false, false, false, false, false, false, false] rfl rfl (take_ofW HT_.out HW_.out (by kernel_rfl)) (fun _ _ _ h => h) (Or.inl ⟨by rfl, ?_⟩) hHeld ?_ ?_
        rotate_left
        · rintro w' ⟨s0, s1, s2⟩
          go_simp
          with_reducible rfl
        rotate_left
        · simp only [Act.put, List.setIfInBounds_toArray, List.set_cons_zero, List.set_cons_succ, i64_w, i32_w]
          rfl
        refine take_ (i := 5) (N := some 23) (v := ?_) (a' := ?_) #[true, true, true, true, true, true, false, false, false, false, false, false, false, false, false, false, false, false, false] rfl rfl (take_ofW HT_.out HW_.out (by kernel_rfl)) (fun _ _ _ h => h) (Or.inl ⟨by rfl, ?_⟩) hHeld ?_ ?_
        rotate_left
        · rintro w' ⟨s0, s1, s2⟩
          go_simp
          with_reducible rfl
        rotate_left
        · simp only [Act.put, List.setIfInBounds_toArray, List.set_cons_zero, List.set_cons_succ, i64_w, i32_w]
          rfl
        refine pure_ (i := 6) (N := some 24) (v := ?_) (a' := ?_) #[true, true, true, true, true, true, true, false, false, false, false, false, false, false, false, false, false, false, false] rfl rfl (any_of HT_.out (by kernel_rfl)) (fun _ _ _ h => h) (Or.inl ⟨by rfl, ?_⟩) ?_ ?_
        rotate_left
        · intro w'
          go_simp
          with_reducible rfl
        rotate_left
        · simp only [Act.put, List.setIfInBounds_toArray, List.set_cons_zero, List.set_cons_succ, i64_w, i32_w]
          rfl
        refine take_ (i := 7) (N := some 25) (v := ?_) (a' := ?_) #[true, true, true, true, true, true, true, true, false, false, false, false, false, false, false, false, false, false, false] rfl rfl (take_ofW HT_.out HW_.out (by kernel_rfl)) (fun _ _ _ h => h) (Or.inl ⟨by rfl, ?_⟩) hHeld ?_ ?_
        rotate_left
        · rintro w' ⟨s0, s1, s2⟩
          go_simp
          with_reducible rfl
        rotate_left
        · simp only [Act.put, List.setIfInBounds_toArray, List.set_cons_zero, List.set_cons_succ, i64_w, i32_w]
          rfl
        refine pure_ (i := 8) (N := some 26) (v := ?_) (a' := ?_) #[true, true, true, true, true, true, true, true, true, false, false, false, false, false, false, false, false, false, false] rfl rfl (any_of HT_.out (by kernel_rfl)) (fun _ _ _ h => h) (Or.inl ⟨by rfl, ?_⟩) ?_ ?_
        rotate_left
        · intro w'
          go_simp
          with_reducible rfl
        rotate_left
        · simp only [Act.put, List.setIfInBounds_toArray, List.set_cons_zero, List.set_cons_succ, i64_w, i32_w]
          rfl
        refine pure_ (i := 9) (N := some 27) (v := ?_) (a' := ?_) #[true, true, true, true, true, true, true, true, true, true, false, false, false, false, false, false, false, false, false] rfl rfl (any_of HT_.out (by kernel_rfl)) (fun _ _ _ h => h) (Or.inl ⟨by rfl, ?_⟩) ?_ ?_
        rotate_left
        · intro w'
          go_simp
          with_reducible rfl
        rotate_left
        · simp only [Act.put, List.setIfInBounds_toArray, List.set_cons_zero, List.set_cons_succ, i64_w, i32_w]
          rfl
        refine pure_ (i := 10) (N := some 28) (v := ?_) (a' := ?_) #[true, true, true, true, true, true, true, true, true, true, true, false, false, false, false, false, false, false, false] rfl rfl (any_of HT_.out (by kernel_rfl)) (fun _ _ _ h => h) (Or.inl ⟨by rfl, ?_⟩) ?_ ?_
        rotate_left
        · intro w'
          go_simp
          with_reducible rfl
        rotate_left
        · simp only [Act.put, List.setIfInBounds_toArray, List.set_cons_zero, List.set_cons_succ, i64_w, i32_w]
          rfl
        refine pure_ (i := 11) (N := some 29) (v := ?_) (a' := ?_) #[true, true, true, true, true, true, true, true, true, true, true, true, false, false, false, false, false, false, false] rfl rfl (any_of HT_.out (by kernel_rfl)) (fun _ _ _ h => h) (Or.inl ⟨by rfl, ?_⟩) ?_ ?_
        rotate_left
        · intro w'
          go_simp
          with_reducible rfl
        rotate_left
        · simp only [Act.put, List.setIfInBounds_toArray, List.set_cons_zero, List.set_cons_succ, i64_w, i32_w]
          rfl
        refine join_ (σ := Nat) 2 #[true, true, true, true, true, true, true, true, true, true, true, true, true, true, true, true, true, false, false] (fun s_ => [(30, .tuple #[.agg #[.int .i64 t306, .int .i64 t307, .int .i64 t308, .bool t309, .int .i64 t310], .bool t311]), (8, .pointer (some ⟨s_, 0, none⟩)), (17, .tuple #[.agg #[.int .i64 t306, .int .i64 t307, .int .i64 t308, .bool t309, .int .i64 t310], .bool t311]), (31, .agg #[.int .i64 t306, .int .i64 t307, .int .i64 t308, .bool t309, .int .i64 t310]), (32, .bool t311)]) (fun s_ w' => (w'.cell? ⟨gb302, 0, none⟩ = some (.int .i64 a1_0) ∧ w'.cell? ⟨gb302, 1, none⟩ = some (.int .i64 a1_1) ∧ w'.cell? (ad305.add (a1_0).toNat) = some (.string (rdOf ByteArray.empty l0 a1_0))) ∧ (w'.heap[gb302]? = some (.cells #[.int .i64 a1_0, .int .i64 a1_1] 24 (0, 0))) ∧ (w'.heap[gb303]? = some (.cells #[.int .i64 0, .int .i64 0, .int .i64 0, .bool false, .int .i64 0] 33 (0, 0))) ∧ (w'.heap[s_]? = some (.cells #[.int .i64 0, .int .i64 0, .int .i64 0, .bool false, .int .i64 0] 33 (0, 0))) ∧ (w.heap.size ≤ s_) ∧ (w.heap.size ≤ s_) ∧ (gb302 ≠ s_) ∧ (s_ ≠ gb302) ∧ (gb303 ≠ s_) ∧ (s_ ≠ gb303) ∧ (Below w.heap.size w w')) ?_ ?_
        rotate_left
        · intro hCont
          refine two_ (i := 12) (j := 16) (Ni := some 30) (Nj := some 8) #[true, true, true, true, true, true, true, true, true, true, true, true, true, false, false, false, false, false, false] #[true, true, true, true, true, true, true, true, true, true, true, true, false, false, false, false, true, false, false] rfl rfl rfl rfl (two_of HT_.out (by kernel_rfl)) (by decide) (by decide) (fun K hK => ?_) (fun K hK => ?_)
          · skip
            refine goes_ Try.func30 (by kernel_rfl) rfl #[.agg #[.int .i64 a1_0, .int .i64 a1_1], .int .i64 ji16] (by rfl) rfl rfl (by (try simp only [List.map_toArray, List.map_cons, List.map_nil]); first | done | (simp only [hji16]; rfl) | rfl | (simp only [List.length_drop, List.length_take]; rfl)) ?_
            with_reducible refine (chars_to.calls a1_0 a1_1 ji16 t306 t307 t308 t309 t310 t311 _ A17.out).mono ?_
            rintro e w24 ⟨rfl, hb⟩
            refine ⟨_, rfl, ?_⟩
            have n0_ := Aside0.mk (blk_below (g := gb302) (o := .cells #[.int .i64 a1_0, .int .i64 a1_1] 24 (0, 0)) (by exact BK302.out) hb)
            have n1_ := Aside0.mk (blk_below (g := gb303) (o := .cells #[.int .i64 0, .int .i64 0, .int .i64 0, .bool false, .int .i64 0] 33 (0, 0)) (by exact BK303.out) hb)
            have n2_ := Aside0.mk (below_step (by repeat (first | (with_reducible first | exact HB.out | apply below_alloc | apply pw_below_drewN | apply below_drew1 | refine below_set ?_ GE302.out | refine below_set ?_ GE303.out) | exact HB.out)) hb)
            clear BK302
            clear BK303
            clear HB
            have BK302 := n0_
            have BK303 := n1_
            have HB := n2_
            clear n0_ n1_ n2_
            (try clear hb)
            (try clear hb2)
            (try clear hk)
            (try clear hi)
            refine hK.out _ _ ⟨(blk_cell BK302.out 0).trans rfl, (blk_cell BK302.out 1).trans rfl, ((HB.out.cell (World.block_lt_of_cell? w _ hw305_0)).trans hw305_0)⟩ (fun hHeld => ?_)
            clear hK K
            refine norm_ (a' := ?_) ?_ ?_
            rotate_left
            · show Act.put _ (some 30) _ = _
              simp only [Act.put, List.setIfInBounds_toArray, List.set_cons_zero, List.set_cons_succ, i64_w, i32_w]
              rfl
            refine pure_ (i := 13) (N := some 17) (v := ?_) (a' := ?_) #[true, true, true, true, true, true, true, true, true, true, true, true, true, true, false, false, false, false, false] rfl rfl (any_of HT_.out (by kernel_rfl)) (fun _ _ _ h => h) (Or.inl ⟨by rfl, ?_⟩) ?_ ?_
            rotate_left
            · intro w'
              go_simp
              with_reducible rfl
            rotate_left
            · simp only [Act.put, List.setIfInBounds_toArray, List.set_cons_zero, List.set_cons_succ, i64_w, i32_w]
              rfl
            refine pure_ (i := 14) (N := some 31) (v := ?_) (a' := ?_) #[true, true, true, true, true, true, true, true, true, true, true, true, true, true, true, false, false, false, false] rfl rfl (any_of HT_.out (by kernel_rfl)) (fun _ _ _ h => h) (Or.inl ⟨by rfl, ?_⟩) ?_ ?_
            rotate_left
            · intro w'
              go_simp
              with_reducible rfl
            rotate_left
            · simp only [Act.put, List.setIfInBounds_toArray, List.set_cons_zero, List.set_cons_succ, i64_w, i32_w]
              rfl
            refine pure_ (i := 15) (N := some 32) (v := ?_) (a' := ?_) #[true, true, true, true, true, true, true, true, true, true, true, true, true, true, true, true, false, false, false] rfl rfl (any_of HT_.out (by kernel_rfl)) (fun _ _ _ h => h) (Or.inl ⟨by rfl, ?_⟩) ?_ ?_
            rotate_left
            · intro w'
              go_simp
              with_reducible rfl
            rotate_left
            · simp only [Act.put, List.setIfInBounds_toArray, List.set_cons_zero, List.set_cons_succ, i64_w, i32_w]
              rfl
            refine one_ (i := 16) (N := some 8) #[true, true, true, true, true, true, true, true, true, true, true, true, true, true, true, true, true, false, false] rfl rfl (one_of HT_.out (by kernel_rfl)) (by decide) (fun K hK => ?_)
            refine box_step ?hg (N := 8) ?hd (cs := #[.int .i64 0, .int .i64 0, .int .i64 0, .bool false, .int .i64 0]) (t := 33) ?hr ?_; (case hd => rfl); (case hg => rfl); (case hr => first | (go_simp; done) | (go_simp; rfl))
            intro gb312 hg w25 hbox hb
            have n0_ := Aside0.mk (blk_below (g := gb302) (o := .cells #[.int .i64 a1_0, .int .i64 a1_1] 24 (0, 0)) (by exact BK302.out) hb)
            have n1_ := Aside0.mk (blk_below (g := gb303) (o := .cells #[.int .i64 0, .int .i64 0, .int .i64 0, .bool false, .int .i64 0] 33 (0, 0)) (by exact BK303.out) hb)
            have n2_ := Aside0.mk (below_step (by repeat (first | (with_reducible first | exact HB.out | apply below_alloc | apply pw_below_drewN | apply below_drew1 | refine below_set ?_ GE302.out | refine below_set ?_ GE303.out) | exact HB.out)) hb)
            have n3_ := Aside0.mk (hbox)
            have n4_ := Aside0.mk ((by rw [hg]; exact (below_size (by repeat (first | (with_reducible first | exact HB.out | apply below_alloc | apply pw_below_drewN | apply below_drew1 | refine below_set ?_ GE302.out | refine below_set ?_ GE303.out) | exact HB.out))) : w.heap.size ≤ gb312))
            have n5_ := Aside0.mk ((by rw [hg]; exact (below_size (by repeat (first | (with_reducible first | exact HB.out | apply below_alloc | apply pw_below_drewN | apply below_drew1 | refine below_set ?_ GE302.out | refine below_set ?_ GE303.out) | exact HB.out))) : w.heap.size ≤ gb312))
            have n6_ := Aside0.mk ((by rw [hg]; exact Nat.ne_of_lt (blk_lt (g := gb302) (o := .cells #[.int .i64 a1_0, .int .i64 a1_1] 24 (0, 0)) (by exact BK302.out)) : gb302 ≠ gb312))
            have n7_ := Aside0.mk ((by rw [hg]; exact Nat.ne_of_gt (blk_lt (g := gb302) (o := .cells #[.int .i64 a1_0, .int .i64 a1_1] 24 (0, 0)) (by exact BK302.out)) : gb312 ≠ gb302))
            have n8_ := Aside0.mk ((by rw [hg]; exact Nat.ne_of_lt (blk_lt (g := gb303) (o := .cells #[.int .i64 0, .int .i64 0, .int .i64 0, .bool false, .int .i64 0] 33 (0, 0)) (by exact BK303.out)) : gb303 ≠ gb312))
            have n9_ := Aside0.mk ((by rw [hg]; exact Nat.ne_of_gt (blk_lt (g := gb303) (o := .cells #[.int .i64 0, .int .i64 0, .int .i64 0, .bool false, .int .i64 0] 33 (0, 0)) (by exact BK303.out)) : gb312 ≠ gb303))
            clear BK302
            clear BK303
            clear HB
            have BK302 := n0_
            have BK303 := n1_
            have HB := n2_
            have BK312 := n3_
            have GW312 := n4_
            have GE312 := n5_
            have NB302_312 := n6_
            have NB312_302 := n7_
            have NB303_312 := n8_
            have NB312_303 := n9_
            clear n0_ n1_ n2_ n3_ n4_ n5_ n6_ n7_ n8_ n9_
            clear hb hbox hg
            refine hK.out _ _ ⟨(blk_cell BK302.out 0).trans rfl, (blk_cell BK302.out 1).trans rfl, ((HB.out.cell (World.block_lt_of_cell? w _ hw305_0)).trans hw305_0)⟩ (fun hHeld => ?_)
            clear hK K
            refine norm_ (a' := ?_) ?_ ?_
            rotate_left
            · show Act.put _ (some 8) _ = _
              simp only [Act.put, List.setIfInBounds_toArray, List.set_cons_zero, List.set_cons_succ, i64_w, i32_w]
              rfl
            exact norm_ (by simp only [putAll, Act.put, List.setIfInBounds_toArray, List.set_cons_zero, List.set_cons_succ]) (hCont (gb312) _ ⟨hHeld, (by exact BK302.out), (by exact BK303.out), (by exact BK312.out), GW312.out, GE312.out, NB302_312.out, NB312_302.out, NB303_312.out, NB312_303.out, (by repeat (first | (with_reducible first | exact HB.out | apply below_alloc | apply pw_below_drewN | apply below_drew1 | refine below_set ?_ GE302.out | refine below_set ?_ GE303.out | refine below_set ?_ GE312.out) | exact HB.out))⟩)
          · skip
            refine box_step ?hg (N := 8) ?hd (cs := #[.int .i64 0, .int .i64 0, .int .i64 0, .bool false, .int .i64 0]) (t := 33) ?hr ?_; (case hd => rfl); (case hg => rfl); (case hr => first | (go_simp; done) | (go_simp; rfl))
            intro gb312 hg w24 hbox hb
            have n0_ := Aside0.mk (blk_below (g := gb302) (o := .cells #[.int .i64 a1_0, .int .i64 a1_1] 24 (0, 0)) (by exact BK302.out) hb)
            have n1_ := Aside0.mk (blk_below (g := gb303) (o := .cells #[.int .i64 0, .int .i64 0, .int .i64 0, .bool false, .int .i64 0] 33 (0, 0)) (by exact BK303.out) hb)
            have n2_ := Aside0.mk (below_step (by repeat (first | (with_reducible first | exact HB.out | apply below_alloc | apply pw_below_drewN | apply below_drew1 | refine below_set ?_ GE302.out | refine below_set ?_ GE303.out) | exact HB.out)) hb)
            have n3_ := Aside0.mk (hbox)
            have n4_ := Aside0.mk ((by rw [hg]; exact (below_size (by repeat (first | (with_reducible first | exact HB.out | apply below_alloc | apply pw_below_drewN | apply below_drew1 | refine below_set ?_ GE302.out | refine below_set ?_ GE303.out) | exact HB.out))) : w.heap.size ≤ gb312))
            have n5_ := Aside0.mk ((by rw [hg]; exact (below_size (by repeat (first | (with_reducible first | exact HB.out | apply below_alloc | apply pw_below_drewN | apply below_drew1 | refine below_set ?_ GE302.out | refine below_set ?_ GE303.out) | exact HB.out))) : w.heap.size ≤ gb312))
            have n6_ := Aside0.mk ((by rw [hg]; exact Nat.ne_of_lt (blk_lt (g := gb302) (o := .cells #[.int .i64 a1_0, .int .i64 a1_1] 24 (0, 0)) (by exact BK302.out)) : gb302 ≠ gb312))
            have n7_ := Aside0.mk ((by rw [hg]; exact Nat.ne_of_gt (blk_lt (g := gb302) (o := .cells #[.int .i64 a1_0, .int .i64 a1_1] 24 (0, 0)) (by exact BK302.out)) : gb312 ≠ gb302))
            have n8_ := Aside0.mk ((by rw [hg]; exact Nat.ne_of_lt (blk_lt (g := gb303) (o := .cells #[.int .i64 0, .int .i64 0, .int .i64 0, .bool false, .int .i64 0] 33 (0, 0)) (by exact BK303.out)) : gb303 ≠ gb312))
            have n9_ := Aside0.mk ((by rw [hg]; exact Nat.ne_of_gt (blk_lt (g := gb303) (o := .cells #[.int .i64 0, .int .i64 0, .int .i64 0, .bool false, .int .i64 0] 33 (0, 0)) (by exact BK303.out)) : gb312 ≠ gb303))
            clear BK302
            clear BK303
            clear HB
            have BK302 := n0_
            have BK303 := n1_
            have HB := n2_
            have BK312 := n3_
            have GW312 := n4_
            have GE312 := n5_
            have NB302_312 := n6_
            have NB312_302 := n7_
            have NB303_312 := n8_
            have NB312_303 := n9_
            clear n0_ n1_ n2_ n3_ n4_ n5_ n6_ n7_ n8_ n9_
            clear hb hbox hg
            refine hK.out _ _ ⟨(blk_cell BK302.out 0).trans rfl, (blk_cell BK302.out 1).trans rfl, ((HB.out.cell (World.block_lt_of_cell? w _ hw305_0)).trans hw305_0)⟩ (fun hHeld => ?_)
            clear hK K
            refine norm_ (a' := ?_) ?_ ?_
            rotate_left
            · show Act.put _ (some 8) _ = _
              simp only [Act.put, List.setIfInBounds_toArray, List.set_cons_zero, List.set_cons_succ, i64_w, i32_w]
              rfl
            refine one_ (i := 12) (N := some 30) #[true, true, true, true, true, true, true, true, true, true, true, true, true, false, false, false, true, false, false] rfl rfl (one_of HT_.out (by kernel_rfl)) (by decide) (fun K hK => ?_)
            refine goes_ Try.func30 (by kernel_rfl) rfl #[.agg #[.int .i64 a1_0, .int .i64 a1_1], .int .i64 ji16] (by rfl) rfl rfl (by (try simp only [List.map_toArray, List.map_cons, List.map_nil]); first | done | (simp only [hji16]; rfl) | rfl | (simp only [List.length_drop, List.length_take]; rfl)) ?_
            with_reducible refine (chars_to.calls a1_0 a1_1 ji16 t306 t307 t308 t309 t310 t311 _ A17.out).mono ?_
            rintro e w25 ⟨rfl, hb⟩
            refine ⟨_, rfl, ?_⟩
            have n0_ := Aside0.mk (blk_below (g := gb302) (o := .cells #[.int .i64 a1_0, .int .i64 a1_1] 24 (0, 0)) (by exact BK302.out) hb)
            have n1_ := Aside0.mk (blk_below (g := gb303) (o := .cells #[.int .i64 0, .int .i64 0, .int .i64 0, .bool false, .int .i64 0] 33 (0, 0)) (by exact BK303.out) hb)
            have n2_ := Aside0.mk (blk_below (g := gb312) (o := .cells #[.int .i64 0, .int .i64 0, .int .i64 0, .bool false, .int .i64 0] 33 (0, 0)) (by exact BK312.out) hb)
            have n3_ := Aside0.mk (below_step (by repeat (first | (with_reducible first | exact HB.out | apply below_alloc | apply pw_below_drewN | apply below_drew1 | refine below_set ?_ GE302.out | refine below_set ?_ GE303.out | refine below_set ?_ GE312.out) | exact HB.out)) hb)
            clear BK302
            clear BK303
            clear BK312
            clear HB
            have BK302 := n0_
            have BK303 := n1_
            have BK312 := n2_
            have HB := n3_
            clear n0_ n1_ n2_ n3_
            (try clear hb)
            (try clear hb2)
            (try clear hk)
            (try clear hi)
            refine hK.out _ _ ⟨(blk_cell BK302.out 0).trans rfl, (blk_cell BK302.out 1).trans rfl, ((HB.out.cell (World.block_lt_of_cell? w _ hw305_0)).trans hw305_0)⟩ (fun hHeld => ?_)
            clear hK K
            refine norm_ (a' := ?_) ?_ ?_
            rotate_left
            · show Act.put _ (some 30) _ = _
              simp only [Act.put, List.setIfInBounds_toArray, List.set_cons_zero, List.set_cons_succ, i64_w, i32_w]
              rfl
            refine pure_ (i := 13) (N := some 17) (v := ?_) (a' := ?_) #[true, true, true, true, true, true, true, true, true, true, true, true, true, true, false, false, true, false, false] rfl rfl (any_of HT_.out (by kernel_rfl)) (fun _ _ _ h => h) (Or.inl ⟨by rfl, ?_⟩) ?_ ?_
            rotate_left
            · intro w'
              go_simp
              with_reducible rfl
            rotate_left
            · simp only [Act.put, List.setIfInBounds_toArray, List.set_cons_zero, List.set_cons_succ, i64_w, i32_w]
              rfl
            refine pure_ (i := 14) (N := some 31) (v := ?_) (a' := ?_) #[true, true, true, true, true, true, true, true, true, true, true, true, true, true, true, false, true, false, false] rfl rfl (any_of HT_.out (by kernel_rfl)) (fun _ _ _ h => h) (Or.inl ⟨by rfl, ?_⟩) ?_ ?_
            rotate_left
            · intro w'
              go_simp
              with_reducible rfl
            rotate_left
            · simp only [Act.put, List.setIfInBounds_toArray, List.set_cons_zero, List.set_cons_succ, i64_w, i32_w]
              rfl
            refine pure_ (i := 15) (N := some 32) (v := ?_) (a' := ?_) #[true, true, true, true, true, true, true, true, true, true, true, true, true, true, true, true, true, false, false] rfl rfl (any_of HT_.out (by kernel_rfl)) (fun _ _ _ h => h) (Or.inl ⟨by rfl, ?_⟩) ?_ ?_
            rotate_left
            · intro w'
              go_simp
              with_reducible rfl
            rotate_left
            · simp only [Act.put, List.setIfInBounds_toArray, List.set_cons_zero, List.set_cons_succ, i64_w, i32_w]
              rfl
            exact norm_ (by simp only [putAll, Act.put, List.setIfInBounds_toArray, List.set_cons_zero, List.set_cons_succ]) (hCont (gb312) _ ⟨hHeld, (by exact BK302.out), (by exact BK303.out), (by exact BK312.out), GW312.out, GE312.out, NB302_312.out, NB312_302.out, NB303_312.out, NB312_303.out, (by repeat (first | (with_reducible first | exact HB.out | apply below_alloc | apply pw_below_drewN | apply below_drew1 | refine below_set ?_ GE302.out | refine below_set ?_ GE303.out | refine below_set ?_ GE312.out) | exact HB.out))⟩)
        rintro gb312 w26 ⟨hS_, h0_, h1_, h2_, h3_, h4_, h5_, h6_, h7_, h8_, h9_⟩
        have n0_ : Aside0 (w26.heap[gb302]? = some (.cells #[.int .i64 a1_0, .int .i64 a1_1] 24 (0, 0))) := ⟨h0_⟩
        have n1_ : Aside0 (w26.heap[gb303]? = some (.cells #[.int .i64 0, .int .i64 0, .int .i64 0, .bool false, .int .i64 0] 33 (0, 0))) := ⟨h1_⟩
        have n2_ : Aside0 (w26.heap[gb312]? = some (.cells #[.int .i64 0, .int .i64 0, .int .i64 0, .bool false, .int .i64 0] 33 (0, 0))) := ⟨h2_⟩
        have n3_ : Aside0 (w.heap.size ≤ gb312) := ⟨h3_⟩
        have n4_ : Aside0 (w.heap.size ≤ gb312) := ⟨h4_⟩
        have n5_ : Aside0 (gb302 ≠ gb312) := ⟨h5_⟩
        have n6_ : Aside0 (gb312 ≠ gb302) := ⟨h6_⟩
        have n7_ : Aside0 (gb303 ≠ gb312) := ⟨h7_⟩
        have n8_ : Aside0 (gb312 ≠ gb303) := ⟨h8_⟩
        have n9_ : Aside0 (Below w.heap.size w w26) := ⟨h9_⟩
        clear BK302
        clear BK303
        clear HB
        clear h0_ h1_ h2_ h3_ h4_ h5_ h6_ h7_ h8_ h9_
        have BK302 := n0_
        have BK303 := n1_
        have BK312 := n2_
        have GW312 := n3_
        have GE312 := n4_
        have NB302_312 := n5_
        have NB312_302 := n6_
        have NB303_312 := n7_
        have NB312_303 := n8_
        have HB := n9_
        clear n0_ n1_ n2_ n3_ n4_ n5_ n6_ n7_ n8_ n9_
        have hHeld : w26.cell? ⟨gb302, 0, none⟩ = some (.int .i64 a1_0) ∧ w26.cell? ⟨gb302, 1, none⟩ = some (.int .i64 a1_1) ∧ w26.cell? (ad305.add (a1_0).toNat) = some (.string (rdOf ByteArray.empty l0 a1_0)) := hS_
        refine norm_ (a' := ?_) ?_ ?_
        rotate_left
        · simp only [putAll, Act.put, List.setIfInBounds_toArray, List.set_cons_zero, List.set_cons_succ]
          rfl
        refine one_ (i := 17) (N := none) #[true, true, true, true, true, true, true, true, true, true, true, true, true, true, true, true, true, true, false] rfl rfl (one_of HT_.out (by kernel_rfl)) (by decide) (fun K hK => ?_)
        have hs27 : w26.cell? ⟨gb312, 0, none⟩ = some (.int .i64 0) := (blk_cell BK312.out 0).trans rfl
        have hfs27 := blk_frozen BK312.out 0
        have hns27_0 := NB302_312.out
        have hns27_1 := NB303_312.out
        have hms27_0 := NB312_302.out
        have hms27_1 := NB312_303.out
        have hs28 : w26.cell? ⟨gb312, 1, none⟩ = some (.int .i64 0) := (blk_cell BK312.out 1).trans rfl
        have hfs28 := blk_frozen BK312.out 1
        have hns28_0 := NB302_312.out
        have hns28_1 := NB303_312.out
        have hms28_0 := NB312_302.out
        have hms28_1 := NB312_303.out
        have hs29 : w26.cell? ⟨gb312, 2, none⟩ = some (.int .i64 0) := (blk_cell BK312.out 2).trans rfl
        have hfs29 := blk_frozen BK312.out 2
        have hns29_0 := NB302_312.out
        have hns29_1 := NB303_312.out
        have hms29_0 := NB312_302.out
        have hms29_1 := NB312_303.out
        have hs30 : w26.cell? ⟨gb312, 3, none⟩ = some (.bool false) := (blk_cell BK312.out 3).trans rfl
        have hfs30 := blk_frozen BK312.out 3
        have hns30_0 := NB302_312.out
        have hns30_1 := NB303_312.out
        have hms30_0 := NB312_302.out
        have hms30_1 := NB312_303.out
        have hs31 : w26.cell? ⟨gb312, 4, none⟩ = some (.int .i64 0) := (blk_cell BK312.out 4).trans rfl
        have hfs31 := blk_frozen BK312.out 4
        have hns31_0 := NB302_312.out
        have hns31_1 := NB303_312.out
        have hms31_0 := NB312_302.out
        have hms31_1 := NB312_303.out
        refine skip_ (w1 := ?_) (by rfl) rfl ?_ ?_
        rotate_left
        · go_simp
          rfl
        refine hK.out _ _ ⟨((cell_far (p := ⟨gb312, _, none⟩) NB302_312.out _).trans (((cell_far (p := ⟨gb312, _, none⟩) NB302_312.out _).trans (((cell_far (p := ⟨gb312, _, none⟩) NB302_312.out _).trans (((cell_far (p := ⟨gb312, _, none⟩) NB302_312.out _).trans (((cell_far (p := ⟨gb312, _, none⟩) NB302_312.out _).trans (hHeld.1)))))))))), ((cell_far (p := ⟨gb312, _, none⟩) NB302_312.out _).trans (((cell_far (p := ⟨gb312, _, none⟩) NB302_312.out _).trans (((cell_far (p := ⟨gb312, _, none⟩) NB302_312.out _).trans (((cell_far (p := ⟨gb312, _, none⟩) NB302_312.out _).trans (((cell_far (p := ⟨gb312, _, none⟩) NB302_312.out _).trans (hHeld.2.1)))))))))), ((cell_far (p := ⟨gb312, _, none⟩) (by first | exact Nat.ne_of_lt (Nat.lt_of_lt_of_le (by have := World.block_lt_of_cell? _ _ hw305_0; first | rwa [add_block] at this | exact this) GW312.out) | (rw [add_block]; exact Nat.ne_of_lt (Nat.lt_of_lt_of_le (by have := World.block_lt_of_cell? _ _ hw305_0; first | rwa [add_block] at this | exact this) GW312.out)) | (show (Addr.add _ _).block ≠ _; rw [add_block]; exact Nat.ne_of_lt (Nat.lt_of_lt_of_le (by have := World.block_lt_of_cell? _ _ hw305_0; first | rwa [add_block] at this | exact this) GW312.out)) | (dsimp only; exact Nat.ne_of_lt (Nat.lt_of_lt_of_le (by have := World.block_lt_of_cell? _ _ hw305_0; first | rwa [add_block] at this | exact this) GW312.out))) _).trans (((cell_far (p := ⟨gb312, _, none⟩) (by first | exact Nat.ne_of_lt (Nat.lt_of_lt_of_le (by have := World.block_lt_of_cell? _ _ hw305_0; first | rwa [add_block] at this | exact this) GW312.out) | (rw [add_block]; exact Nat.ne_of_lt (Nat.lt_of_lt_of_le (by have := World.block_lt_of_cell? _ _ hw305_0; first | rwa [add_block] at this | exact this) GW312.out)) | (show (Addr.add _ _).block ≠ _; rw [add_block]; exact Nat.ne_of_lt (Nat.lt_of_lt_of_le (by have := World.block_lt_of_cell? _ _ hw305_0; first | rwa [add_block] at this | exact this) GW312.out)) | (dsimp only; exact Nat.ne_of_lt (Nat.lt_of_lt_of_le (by have := World.block_lt_of_cell? _ _ hw305_0; first | rwa [add_block] at this | exact this) GW312.out))) _).trans (((cell_far (p := ⟨gb312, _, none⟩) (by first | exact Nat.ne_of_lt (Nat.lt_of_lt_of_le (by have := World.block_lt_of_cell? _ _ hw305_0; first | rwa [add_block] at this | exact this) GW312.out) | (rw [add_block]; exact Nat.ne_of_lt (Nat.lt_of_lt_of_le (by have := World.block_lt_of_cell? _ _ hw305_0; first | rwa [add_block] at this | exact this) GW312.out)) | (show (Addr.add _ _).block ≠ _; rw [add_block]; exact Nat.ne_of_lt (Nat.lt_of_lt_of_le (by have := World.block_lt_of_cell? _ _ hw305_0; first | rwa [add_block] at this | exact this) GW312.out)) | (dsimp only; exact Nat.ne_of_lt (Nat.lt_of_lt_of_le (by have := World.block_lt_of_cell? _ _ hw305_0; first | rwa [add_block] at this | exact this) GW312.out))) _).trans (((cell_far (p := ⟨gb312, _, none⟩) (by first | exact Nat.ne_of_lt (Nat.lt_of_lt_of_le (by have := World.block_lt_of_cell? _ _ hw305_0; first | rwa [add_block] at this | exact this) GW312.out) | (rw [add_block]; exact Nat.ne_of_lt (Nat.lt_of_lt_of_le (by have := World.block_lt_of_cell? _ _ hw305_0; first | rwa [add_block] at this | exact this) GW312.out)) | (show (Addr.add _ _).block ≠ _; rw [add_block]; exact Nat.ne_of_lt (Nat.lt_of_lt_of_le (by have := World.block_lt_of_cell? _ _ hw305_0; first | rwa [add_block] at this | exact this) GW312.out)) | (dsimp only; exact Nat.ne_of_lt (Nat.lt_of_lt_of_le (by have := World.block_lt_of_cell? _ _ hw305_0; first | rwa [add_block] at this | exact this) GW312.out))) _).trans (((cell_far (p := ⟨gb312, _, none⟩) (by first | exact Nat.ne_of_lt (Nat.lt_of_lt_of_le (by have := World.block_lt_of_cell? _ _ hw305_0; first | rwa [add_block] at this | exact this) GW312.out) | (rw [add_block]; exact Nat.ne_of_lt (Nat.lt_of_lt_of_le (by have := World.block_lt_of_cell? _ _ hw305_0; first | rwa [add_block] at this | exact this) GW312.out)) | (show (Addr.add _ _).block ≠ _; rw [add_block]; exact Nat.ne_of_lt (Nat.lt_of_lt_of_le (by have := World.block_lt_of_cell? _ _ hw305_0; first | rwa [add_block] at this | exact this) GW312.out)) | (dsimp only; exact Nat.ne_of_lt (Nat.lt_of_lt_of_le (by have := World.block_lt_of_cell? _ _ hw305_0; first | rwa [add_block] at this | exact this) GW312.out))) _).trans (hHeld.2.2))))))))))⟩ (fun hHeld => ?_)
        clear hK K
        refine pure_ (i := 18) (N := some 9) (v := ?_) (a' := ?_) #[true, true, true, true, true, true, true, true, true, true, true, true, true, true, true, true, true, true, true] rfl rfl (any_of HT_.out (by kernel_rfl)) (fun _ _ _ h => h) (Or.inl ⟨by rfl, ?_⟩) ?_ ?_
        rotate_left
        · intro w'
          go_simp
          with_reducible rfl
        rotate_left
        · simp only [Act.put, List.setIfInBounds_toArray, List.set_cons_zero, List.set_cons_succ, i64_w, i32_w]
          rfl
        refine done_ (done_of HT_.out (by kernel_rfl)) ?_
        have hnb32 := NB312_302.out
        have hnc32 := NB302_312.out
        have hnb33 := NB312_303.out
        have hnc33 := NB303_312.out
        obtain ⟨w30, hw30⟩ : ∃ W : World, (((((w26.setCell ⟨gb312, 0, none⟩ (.int .i64 t306)).setCell ⟨gb312, 1, none⟩ (.int .i64 t307)).setCell ⟨gb312, 2, none⟩ (.int .i64 t308)).setCell ⟨gb312, 3, none⟩ (.bool t309)).setCell ⟨gb312, 4, none⟩ (.int .i64 t310)) = W := ⟨_, rfl⟩
        rw [hw30]
        have n0_ := Aside0.mk (show w30.heap[gb312]? = some (.cells #[.int .i64 t306, .int .i64 t307, .int .i64 t308, .bool t309, .int .i64 t310] 33 (0, 0)) by rw [← hw30]; refine blk_put (cs := #[.int .i64 t306, .int .i64 t307, .int .i64 t308, .bool t309, .int .i64 0]) ?_ 4 _ rfl; refine blk_put (cs := #[.int .i64 t306, .int .i64 t307, .int .i64 t308, .bool false, .int .i64 0]) ?_ 3 _ rfl; refine blk_put (cs := #[.int .i64 t306, .int .i64 t307, .int .i64 0, .bool false, .int .i64 0]) ?_ 2 _ rfl; refine blk_put (cs := #[.int .i64 t306, .int .i64 0, .int .i64 0, .bool false, .int .i64 0]) ?_ 1 _ rfl; refine blk_put (cs := #[.int .i64 0, .int .i64 0, .int .i64 0, .bool false, .int .i64 0]) ?_ 0 _ rfl; exact BK312.out)
        have n1_ := Aside0.mk (show w30.heap[gb303]? = some (.cells #[.int .i64 0, .int .i64 0, .int .i64 0, .bool false, .int .i64 0] 33 (0, 0)) by rw [← hw30]; exact (blk_far (blk_far (blk_far (blk_far (blk_far BK303.out NB303_312.out _) NB303_312.out _) NB303_312.out _) NB303_312.out _) NB303_312.out _))
        have n2_ := Aside0.mk (show Below w.heap.size w w30 by rw [← hw30]; exact (below_set (below_set (below_set (below_set (below_set HB.out GE312.out) GE312.out) GE312.out) GE312.out) GE312.out))
        clear hw30 BK312 BK303 HB
        have BK312 := n0_
        have BK303 := n1_
        have HB := n2_
        clear n0_ n1_ n2_
        have hcz34_0 : w30.cell? ⟨gb312, 0, none⟩ = some (.int .i64 t306) := (blk_cell BK312.out 0).trans rfl
        have hcz34_1 : w30.cell? ⟨gb312, 1, none⟩ = some (.int .i64 t307) := (blk_cell BK312.out 1).trans rfl
        have hcz34_2 : w30.cell? ⟨gb312, 2, none⟩ = some (.int .i64 t308) := (blk_cell BK312.out 2).trans rfl
        have hcz34_3 : w30.cell? ⟨gb312, 3, none⟩ = some (.bool t309) := (blk_cell BK312.out 3).trans rfl
        have hcz34_4 : w30.cell? ⟨gb312, 4, none⟩ = some (.int .i64 t310) := (blk_cell BK312.out 4).trans rfl
        have hfz34_0 := blk_frozen BK312.out 0
        have hfz34_1 := blk_frozen BK312.out 1
        have hfz34_2 := blk_frozen BK312.out 2
        have hfz34_3 := blk_frozen BK312.out 3
        have hfz34_4 := blk_frozen BK312.out 4
        have hcz35_0 : w30.cell? ⟨gb303, 0, none⟩ = some (.int .i64 0) := (blk_cell BK303.out 0).trans rfl
        have hcz35_1 : w30.cell? ⟨gb303, 1, none⟩ = some (.int .i64 0) := (blk_cell BK303.out 1).trans rfl
        have hcz35_2 : w30.cell? ⟨gb303, 2, none⟩ = some (.int .i64 0) := (blk_cell BK303.out 2).trans rfl
        have hcz35_3 : w30.cell? ⟨gb303, 3, none⟩ = some (.bool false) := (blk_cell BK303.out 3).trans rfl
        have hcz35_4 : w30.cell? ⟨gb303, 4, none⟩ = some (.int .i64 0) := (blk_cell BK303.out 4).trans rfl
        have hfz35_0 := blk_frozen BK303.out 0
        have hfz35_1 := blk_frozen BK303.out 1
        have hfz35_2 := blk_frozen BK303.out 2
        have hfz35_3 := blk_frozen BK303.out 3
        have hfz35_4 := blk_frozen BK303.out 4
        go_wp2
        refine bodyPost_ret (results_ct rfl _ _ gb303 33 #[.int .i64 t306, .int .i64 t307, .int .i64 t308, .bool t309, .int .i64 (wrap64 ((ji12) - 1))] (0, 0) _ rfl (by refine blk_put (cs := #[.int .i64 t306, .int .i64 t307, .int .i64 t308, .bool t309, .int .i64 0]) ?_ 4 _ rfl; refine blk_put (cs := #[.int .i64 t306, .int .i64 t307, .int .i64 t308, .bool false, .int .i64 0]) ?_ 3 _ rfl; refine blk_put (cs := #[.int .i64 t306, .int .i64 t307, .int .i64 0, .bool false, .int .i64 0]) ?_ 2 _ rfl; refine blk_put (cs := #[.int .i64 t306, .int .i64 0, .int .i64 0, .bool false, .int .i64 0]) ?_ 1 _ rfl; refine blk_put (cs := #[.int .i64 0, .int .i64 0, .int .i64 0, .bool false, .int .i64 0]) ?_ 0 _ rfl; refine blk_far ?_ NB303_312.out _; exact BK303.out) Try.underlying33 rfl (by kernel_rfl)) rfl ?_
        exact ⟨by first | rfl | (simp [errW_none, errW_some] <;> rfl) | (simp only [← hji12, ← hji15, ← hji16]; first | rfl | (simp [errW_none, errW_some] <;> rfl)) | (simp [*, errW_none, errW_some] <;> rfl), by repeat (first | (with_reducible first | exact HB.out | apply below_alloc | apply pw_below_drewN | apply below_drew1 | refine below_set ?_ GE302.out | refine below_set ?_ GE303.out | refine below_set ?_ GE312.out) | exact HB.out)⟩
      · rw [if_neg c14] at H
        exact absurd H (by simp)
    · rw [if_neg c13] at H
      exact absurd H (by simp)

end Go.Proofs.Ytdiakjamahdcfaa.V
