/- Texts of the proof of 'CharsMove', merged in build order (part 3 of 4). -/
import Derived.Test.YtdiakjamahdcfaaMCharsMove2
namespace Go.Proofs.Ytdiakjamahdcfaa.V
open Go.RowKit Go.Proofs.YtdiakjamahdcfaaW.PrintWords Go.Proofs.YtdiakjamahdcfaaW.PrintLast Go.Proofs.YtdiakjamahdcfaaW.PrintMore
attribute [local go_sem] max2_int min2_int max_two min_two max_three min_three max_four min_four   -- for this text's walks alone
set_option linter.unusedVariables false
set_option linter.unusedSimpArgs false

/-! ### foolscapref5_Column: function 22 -/
def foolscapref5_Column.f (l0 : List ByteArray) (a1_0 : Int) (a1_1 : Int) (a2 : Int) : Option (Int × Int × Int × Bool × Int × Bool) := (foolscapref5_may.f l0 a1_0 a1_1 a2).bind fun t315 => (if t315 = true then ((foolscapref5_capped.f a2).bind fun t316 => (if 0 ≤ a1_0 then (if a1_0 < (l0.length : Int) then ((foolscapref5_last.f (rdOf ByteArray.empty l0 a1_0)).bind fun t318 => (some (a1_0, mn (wrap64 (t316 - 1)) t318, 0, false, wrap64 (t316 - 1), true))) else (none)) else (none))) else ((foolscapref5_none.f).bind fun bt319 => (some (bt319.1, bt319.2.1, bt319.2.2.1, bt319.2.2.2.1, bt319.2.2.2.2.1, bt319.2.2.2.2.2))))
def foolscapref5_Column.T4 : Bool × List (List Nat × List Nat) := (true, [([], []), ([0], [0]), ([], []), ([2], [2]), ([], []), ([], []), ([5], [5]), ([4, 6], [4, 6]), ([7], [7]), ([8], [8]), ([3, 9], [3, 9]), ([1, 10], [1, 10]), ([], []), ([12], [12]), ([11, 13], [11, 13]), ([14, 9, 0, 1, 2, 3, 4, 5, 6, 7, 8, 9, 10, 11, 12, 13, 14], [14]), ([15, 0, 1, 2, 3, 4, 5, 6, 7, 8, 9, 10, 11, 12, 13, 14, 15], [])])
def foolscapref5_Column.B4 : List Nat := [0, 1, 0, 4, 0, 0, 32, 112, 240, 496, 1020, 2047, 0, 4096, 16383, 32767, 65535]
theorem foolscapref5_Column.tab4 : rtab .any (opsOf Try.f22 4) = foolscapref5_Column.T4 := by kernel_rfl
theorem foolscapref5_Column.bits4 : waitsOk foolscapref5_Column.T4.2 foolscapref5_Column.B4 = true := by kernel_rfl
set_option maxHeartbeats 8000000 in
set_option maxRecDepth 100000 in
theorem foolscapref5_Column.calls (A0 : Option Addr) (c0 : Nat) (l0 : List ByteArray) (a1_0 : Int) (a1_1 : Int) (a2 : Int) (r1 : Int) (r2 : Int) (r3 : Int) (r4 : Bool) (r5 : Int) (r6 : Bool) (w : World) (hr0 : Kd.C Kd.string w A0 l0.length l0) (hc0 : l0.length ≤ c0) (h : foolscapref5_Column.f l0 a1_0 a1_1 a2 = some (r1, r2, r3, r4, r5, r6)) :
    Calls Try.prog 22 #[.slice A0 l0.length c0, .agg #[.int .i64 a1_0, .int .i64 a1_1], .int .i64 a2] w fun e w' => e = .returned (.tuple #[.agg #[.int .i64 r1, .int .i64 r2, .int .i64 r3, .bool r4, .int .i64 r5], .bool r6]) ∧ Below w.heap.size w w' := by
  have hu24 := Try.underlying24
  have hu33 := Try.underlying33
  have HR0 := Aside0.mk hr0
  have HC0 := Aside0.mk hc0
  clear hr0 hc0
  have HB := Aside0.mk (Below.refl w.heap.size w)
  have H : ((foolscapref5_may.f l0 a1_0 a1_1 a2).bind fun t315 => (if t315 = true then ((foolscapref5_capped.f a2).bind fun t316 => (if 0 ≤ a1_0 then (if a1_0 < (l0.length : Int) then ((foolscapref5_last.f (rdOf ByteArray.empty l0 a1_0)).bind fun t318 => (some (a1_0, mn (wrap64 (t316 - 1)) t318, 0, false, wrap64 (t316 - 1), true))) else (none)) else (none))) else ((foolscapref5_none.f).bind fun bt319 => (some (bt319.1, bt319.2.1, bt319.2.2.1, bt319.2.2.2.1, bt319.2.2.2.2.1, bt319.2.2.2.2.2))))) = some (r1, r2, r3, r4, r5, r6) := h
  clear h
  replace H := Option.bind_eq_some_iff.mp H
  obtain ⟨t315, A40, H⟩ := H
  replace H : (if t315 = true then ((foolscapref5_capped.f a2).bind fun t316 => (if 0 ≤ a1_0 then (if a1_0 < (l0.length : Int) then ((foolscapref5_last.f (rdOf ByteArray.empty l0 a1_0)).bind fun t318 => (some (a1_0, mn (wrap64 (t316 - 1)) t318, 0, false, wrap64 (t316 - 1), true))) else (none)) else (none))) else ((foolscapref5_none.f).bind fun bt319 => (some (bt319.1, bt319.2.1, bt319.2.2.1, bt319.2.2.2.1, bt319.2.2.2.2.1, bt319.2.2.2.2.2)))) = some (r1, r2, r3, r4, r5, r6) := H
  have A4 := Aside0.mk A40
  clear A40
  by_cases c5 : t315 = true
  · subst c5
    have H1 : ((foolscapref5_capped.f a2).bind fun t316 => (if 0 ≤ a1_0 then (if a1_0 < (l0.length : Int) then ((foolscapref5_last.f (rdOf ByteArray.empty l0 a1_0)).bind fun t318 => (some (a1_0, mn (wrap64 (t316 - 1)) t318, 0, false, wrap64 (t316 - 1), true))) else (none)) else (none))) = some (r1, r2, r3, r4, r5, r6) := by rw [if_pos rfl] at H; exact H
    clear H
    have H := H1
    clear H1
    replace H := Option.bind_eq_some_iff.mp H
    obtain ⟨t316, A60, H⟩ := H
    replace H : (if 0 ≤ a1_0 then (if a1_0 < (l0.length : Int) then ((foolscapref5_last.f (rdOf ByteArray.empty l0 a1_0)).bind fun t318 => (some (a1_0, mn (wrap64 (t316 - 1)) t318, 0, false, wrap64 (t316 - 1), true))) else (none)) else (none)) = some (r1, r2, r3, r4, r5, r6) := H
    have A6 := Aside0.mk A60
    clear A60
    by_cases c7 : 0 ≤ a1_0
    · rw [if_pos c7] at H
      have c7b0 : decide (0 ≤ a1_0) = true := decide_eq_true c7
      clear c7
      by_cases c8 : a1_0 < (l0.length : Int)
      · rw [if_pos c8] at H
        have c8b0 : decide (a1_0 < (l0.length : Int)) = true := decide_eq_true c8
        clear c8
        replace H := Option.bind_eq_some_iff.mp H
        obtain ⟨t318, A90, H⟩ := H
        replace H : (some (a1_0, mn (wrap64 (t316 - 1)) t318, 0, false, wrap64 (t316 - 1), true)) = some (r1, r2, r3, r4, r5, r6) := H
        have A9 := Aside0.mk A90
        clear A90
        obtain ⟨ji10, hji10⟩ : ∃ j_ : Int, (mn (wrap64 (t316 - 1)) t318) = j_ := ⟨_, rfl⟩
        replace H : (some (a1_0, ji10, 0, false, wrap64 (t316 - 1), true)) = some (r1, r2, r3, r4, r5, r6) := by first | (rw [hji10] at H; exact H) | (simp only [hji10] at H ⊢; exact H)
        (try rw [hji10] at A4)
        (try rw [hji10] at A6)
        (try rw [hji10] at A9)
        have hji10_ : (if t318 < (wrap64 (t316 - 1)) then t318 else (wrap64 (t316 - 1))) = ji10 := hji10
        simp only [Option.some.injEq, Prod.mk.injEq] at H
        obtain ⟨rfl, rfl, rfl, rfl, rfl, rfl⟩ := H
        go_enter Try.func22, Try.ntmps22
        try go_wp2_with (first | ((with_reducible refine gate_dst (N := 4) rfl ?_); refine box_event ?hg (N := 4) ?hd (cs := #[.int .i64 a1_0, .int .i64 a1_1]) (t := 24) ?hr ?_; (case hd => rfl); (case hg => rfl); (case hr => first | (go_simp; done) | (go_simp; rfl)); intro gb313 hg w11 hbox hb; have n0_ := Aside0.mk (below_step (by repeat (first | (with_reducible first | exact HB.out | apply below_alloc | apply pw_below_drewN | apply below_drew1) | exact HB.out)) hb); have n1_ := Aside0.mk (hbox); have n2_ := Aside0.mk ((by rw [hg]; exact (below_size (by repeat (first | (with_reducible first | exact HB.out | apply below_alloc | apply pw_below_drewN | apply below_drew1) | exact HB.out))) : w.heap.size ≤ gb313)); have n3_ := Aside0.mk ((by rw [hg]; exact (below_size (by repeat (first | (with_reducible first | exact HB.out | apply below_alloc | apply pw_below_drewN | apply below_drew1) | exact HB.out))) : w.heap.size ≤ gb313)); clear HB; have HB := n0_; have BK313 := n1_; have GW313 := n2_; have GE313 := n3_; clear n0_ n1_ n2_ n3_; clear hb hbox hg) | ((with_reducible refine gate_dst (N := 6) rfl ?_); refine box_event ?hg (N := 6) ?hd (cs := #[.int .i64 0, .int .i64 0, .int .i64 0, .bool false, .int .i64 0]) (t := 33) ?hr ?_; (case hd => rfl); (case hg => rfl); (case hr => first | (go_simp; done) | (go_simp; rfl)); intro gb314 hg w12 hbox hb; have n0_ := Aside0.mk (blk_below (g := gb313) (o := .cells #[.int .i64 a1_0, .int .i64 a1_1] 24 (0, 0)) (by exact BK313.out) hb); have n1_ := Aside0.mk (below_step (by repeat (first | (with_reducible first | exact HB.out | apply below_alloc | apply pw_below_drewN | apply below_drew1 | refine below_set ?_ GE313.out) | exact HB.out)) hb); have n2_ := Aside0.mk (hbox); have n3_ := Aside0.mk ((by rw [hg]; exact (below_size (by repeat (first | (with_reducible first | exact HB.out | apply below_alloc | apply pw_below_drewN | apply below_drew1 | refine below_set ?_ GE313.out) | exact HB.out))) : w.heap.size ≤ gb314)); have n4_ := Aside0.mk ((by rw [hg]; exact (below_size (by repeat (first | (with_reducible first | exact HB.out | apply below_alloc | apply pw_below_drewN | apply below_drew1 | refine below_set ?_ GE313.out) | exact HB.out))) : w.heap.size ≤ gb314)); have n5_ := Aside0.mk ((by rw [hg]; exact Nat.ne_of_lt (blk_lt (g := gb313) (o := .cells #[.int .i64 a1_0, .int .i64 a1_1] 24 (0, 0)) (by exact BK313.out)) : gb313 ≠ gb314)); have n6_ := Aside0.mk ((by rw [hg]; exact Nat.ne_of_gt (blk_lt (g := gb313) (o := .cells #[.int .i64 a1_0, .int .i64 a1_1] 24 (0, 0)) (by exact BK313.out)) : gb314 ≠ gb313)); clear BK313; clear HB; have BK313 := n0_; have HB := n1_; have BK314 := n2_; have GW314 := n3_; have GE314 := n4_; have NB313_314 := n5_; have NB314_313 := n6_; clear n0_ n1_ n2_ n3_ n4_ n5_ n6_; clear hb hbox hg; have hnb13 := NB313_314.out; have hnc13 := NB314_313.out; have hcz14_0 : w12.cell? ⟨gb313, 0, none⟩ = some (.int .i64 a1_0) := (blk_cell BK313.out 0).trans rfl; have hcz14_1 : w12.cell? ⟨gb313, 1, none⟩ = some (.int .i64 a1_1) := (blk_cell BK313.out 1).trans rfl; have hfz14_0 := blk_frozen BK313.out 0; have hfz14_1 := blk_frozen BK313.out 1) | ((with_reducible refine gate_callee (f := 31) rfl ?_); refine goesL_ (some 11) rfl rfl Try.func31 (by kernel_rfl) rfl #[.slice A0 l0.length c0, .agg #[.int .i64 a1_0, .int .i64 a1_1], .int .i64 a2] rfl (by (try simp only [List.map_toArray, List.map_cons, List.map_nil]); first | done | rfl | (simp only [List.length_drop, List.length_take]; rfl)) ?_; (with_reducible refine (foolscapref5_may.calls _ _ l0 a1_0 a1_1 a2 true _ ?side1 ?side2 A4.out).mono ?_); (case side1 => repeat (first | exact (Kd.C_below HR0.out HB.out) | (with_reducible refine Kd.C_alloc ?_ _) | (with_reducible refine Kd.C_drewN ?_ _) | (with_reducible refine Kd.C_drew ?_))); (case side2 => exact HC0.out); rintro e w15 ⟨rfl, hb⟩; refine ⟨_, rfl, ?_⟩; have n0_ := Aside0.mk (blk_below (g := gb313) (o := .cells #[.int .i64 a1_0, .int .i64 a1_1] 24 (0, 0)) (by exact BK313.out) hb); have n1_ := Aside0.mk (blk_below (g := gb314) (o := .cells #[.int .i64 0, .int .i64 0, .int .i64 0, .bool false, .int .i64 0] 33 (0, 0)) (by exact BK314.out) hb); have n2_ := Aside0.mk (below_step (by repeat (first | (with_reducible first | exact HB.out | apply below_alloc | apply pw_below_drewN | apply below_drew1 | refine below_set ?_ GE313.out | refine below_set ?_ GE314.out) | exact HB.out)) hb); clear BK313; clear BK314; clear HB; have BK313 := n0_; have BK314 := n1_; have HB := n2_; clear n0_ n1_ n2_; (try clear hb); (try clear hb2); (try clear hk); (try clear hi)) | ((with_reducible refine gate_callee (f := 34) rfl ?_); refine goesL_ (some 17) rfl rfl Try.func34 (by kernel_rfl) rfl #[.int .i64 a2] rfl (by (try simp only [List.map_toArray, List.map_cons, List.map_nil]); first | done | rfl | (simp only [List.length_drop, List.length_take]; rfl)) ?_; (with_reducible refine (foolscapref5_capped.calls a2 t316 _ A6.out).mono ?_); rintro e w16 ⟨rfl, hb⟩; refine ⟨_, rfl, ?_⟩; have n0_ := Aside0.mk (blk_below (g := gb313) (o := .cells #[.int .i64 a1_0, .int .i64 a1_1] 24 (0, 0)) (by exact BK313.out) hb); have n1_ := Aside0.mk (blk_below (g := gb314) (o := .cells #[.int .i64 0, .int .i64 0, .int .i64 0, .bool false, .int .i64 0] 33 (0, 0)) (by exact BK314.out) hb); have n2_ := Aside0.mk (below_step (by repeat (first | (with_reducible first | exact HB.out | apply below_alloc | apply pw_below_drewN | apply below_drew1 | refine below_set ?_ GE313.out | refine below_set ?_ GE314.out) | exact HB.out)) hb); clear BK313; clear BK314; clear HB; have BK313 := n0_; have BK314 := n1_; have HB := n2_; clear n0_ n1_ n2_; (try clear hb); (try clear hb2); (try clear hk); (try clear hi)))
        have n0_ := Aside0.mk (blk_drew BK313.out)
        have n1_ := Aside0.mk (blk_drew BK314.out)
        have n2_ := Aside0.mk (below_drew1 HB.out)
        clear BK313
        clear BK314
        clear HB
        have BK313 := n0_
        have BK314 := n1_
        have HB := n2_
        clear n0_ n1_ n2_
        have p317 : 0 ≤ (a1_0 : Int) := of_decide_eq_true (by first | (with_reducible assumption) | assumption)
        have q317 : a1_0 < (l0.length : Int) := of_decide_eq_true (by first | (with_reducible assumption) | assumption)
        obtain ⟨ad317, e317, hx317_0⟩ := Kd.at_string HR0.out a1_0 p317 q317
        have hw317_0 := hx317_0
        cases e317
        replace hx317_0 := (HB.out.cell (World.block_lt_of_cell? w _ hx317_0)).trans hx317_0
        replace p317 := eq_true p317
        replace q317 := eq_true q317
        refine start_ (n := 17) (S := fun w' => w'.cell? ⟨gb313, 0, none⟩ = some (.int .i64 a1_0) ∧ w'.cell? ⟨gb313, 1, none⟩ = some (.int .i64 a1_1) ∧ w'.cell? (ad317.add (a1_0).toNat) = some (.string (rdOf ByteArray.empty l0 a1_0))) (ds := []) #[false, false, false, false, false, false, false, false, false, false, false, false, false, false, false, false, false] (by kernel_rfl) rfl rfl ⟨(blk_cell BK313.out 0).trans rfl, (blk_cell BK313.out 1).trans rfl, ((HB.out.cell (World.block_lt_of_cell? w _ hw317_0)).trans hw317_0)⟩ (fun hHeld => ?_); refine with_tabW foolscapref5_Column.tab4 foolscapref5_Column.bits4 (fun HT_ HW_ => ?_)
        generalize w16.drew = w17 at BK313 BK314 HB hx317_0 hHeld ⊢
        refine pure_ (i := 0) (N := some 18) (v := ?_) (a' := ?_) #[true, false, false, false, false, false, false, false, false, false, false, false, false, false, false, false, false] rfl rfl (any_of HT_.out (by kernel_rfl)) (fun _ _ _ h => h) (Or.inl ⟨by rfl, ?_⟩) ?_ ?_
        rotate_left
        · intro w'
          go_simp
          with_reducible rfl
        rotate_left
        · simp only [Act.put, List.setIfInBounds_toArray, List.set_cons_zero, List.set_cons_succ, i64_w, i32_w]
          rfl
        refine pure_ (i := 2) (N := some 20) (v := ?_) (a' := ?_) #[true, false, true, false, false, false, false, false, false, false, false, false, false, false, false, false, false] rfl rfl (any_of HT_.out (by kernel_rfl)) (fun _ _ _ h => h) (Or.inl ⟨by rfl, ?_⟩) ?_ ?_
        rotate_left
        · intro w'
          go_simp
          with_reducible rfl
        rotate_left
        · simp only [Act.put, List.setIfInBounds_toArray, List.set_cons_zero, List.set_cons_succ, i64_w, i32_w]
          rfl
        refine pure_ (i := 3) (N := some 21) (v := ?_) (a' := ?_) #[true, false, true, true, false, false, false, false, false, false, false, false, false, false, false, false, false] rfl rfl (any_of HT_.out (by kernel_rfl)) (fun _ _ _ h => h) (Or.inl ⟨by rfl, ?_⟩) ?_ ?_
        rotate_left
        · intro w'
          go_simp
          with_reducible rfl
        rotate_left
        · simp only [Act.put, List.setIfInBounds_toArray, List.set_cons_zero, List.set_cons_succ, i64_w, i32_w]
          rfl
        refine pure_ (i := 4) (N := some 22) (v := ?_) (a' := ?_) #[true, false, true, true, true, false, false, false, false, false, false, false, false, false, false, false, false] rfl rfl (any_of HT_.out (by kernel_rfl)) (fun _ _ _ h => h) (Or.inl ⟨by rfl, ?_⟩) ?_ ?_
        rotate_left
        · intro w'
          go_simp
          with_reducible rfl
        rotate_left
        · simp only [Act.put, List.setIfInBounds_toArray, List.set_cons_zero, List.set_cons_succ, i64_w, i32_w]
          rfl
        refine pure_ (i := 5) (N := some 23) (v := ?_) (a' := ?_) #[true, false, true, true, true, true, false, false, false, false, false, false, false, false, false, false, false] rfl rfl (any_of HT_.out (by kernel_rfl)) (fun _ _ _ h => h) (Or.inl ⟨by rfl, ?_⟩) ?_ ?_
        rotate_left
        · intro w'
          go_simp
          with_reducible rfl
        rotate_left
        · simp only [Act.put, List.setIfInBounds_toArray, List.set_cons_zero, List.set_cons_succ, i64_w, i32_w]
          rfl
        refine pure_ (i := 12) (N := some 30) (v := ?_) (a' := ?_) #[true, false, true, true, true, true, false, false, false, false, false, false, true, false, false, false, false] rfl rfl (any_of HT_.out (by kernel_rfl)) (fun _ _ _ h => h) (Or.inl ⟨by rfl, ?_⟩) ?_ ?_
        rotate_left
        · intro w'
          go_simp
          with_reducible rfl
        rotate_left
        · simp only [Act.put, List.setIfInBounds_toArray, List.set_cons_zero, List.set_cons_succ, i64_w, i32_w]
          rfl
        refine pure_ (i := 13) (N := some 31) (v := ?_) (a' := ?_) #[true, false, true, true, true, true, false, false, false, false, false, false, true, true, false, false, false] rfl rfl (any_of HT_.out (by kernel_rfl)) (fun _ _ _ h => h) (Or.inl ⟨by rfl, ?_⟩) ?_ ?_
        rotate_left
        · intro w'
          go_simp
          with_reducible rfl
        rotate_left
        · simp only [Act.put, List.setIfInBounds_toArray, List.set_cons_zero, List.set_cons_succ, i64_w, i32_w]
          rfl
        refine take_ (i := 1) (N := some 19) (v := ?_) (a' := ?_) #[true, true, true, true, true, true, false, false, false, false, false, false, true, true, false, false, false] rfl rfl (take_ofW HT_.out HW_.out (by kernel_rfl)) (fun _ _ _ h => h) (Or.inl ⟨by rfl, ?_⟩) hHeld ?_ ?_
        rotate_left
        · rintro w' ⟨s0, s1, s2⟩
          go_simp
          with_reducible rfl
        rotate_left
        · simp only [Act.put, List.setIfInBounds_toArray, List.set_cons_zero, List.set_cons_succ, i64_w, i32_w]
          rfl
        refine take_ (i := 6) (N := some 24) (v := ?_) (a' := ?_) #[true, true, true, true, true, true, true, false, false, false, false, false, true, true, false, false, false] rfl rfl (take_ofW HT_.out HW_.out (by kernel_rfl)) (fun _ _ _ h => h) (Or.inl ⟨by rfl, ?_⟩) hHeld ?_ ?_
        rotate_left
        · rintro w' ⟨s0, s1, s2⟩
          go_simp
          with_reducible rfl
        rotate_left
        · simp only [Act.put, List.setIfInBounds_toArray, List.set_cons_zero, List.set_cons_succ, i64_w, i32_w]
          rfl
        refine pure_ (i := 7) (N := some 25) (v := ?_) (a' := ?_) #[true, true, true, true, true, true, true, true, false, false, false, false, true, true, false, false, false] rfl rfl (any_of HT_.out (by kernel_rfl)) (fun _ _ _ h => h) (Or.inl ⟨by rfl, ?_⟩) ?_ ?_
        rotate_left
        · intro w'
          go_simp
          with_reducible rfl
        rotate_left
        · simp only [Act.put, List.setIfInBounds_toArray, List.set_cons_zero, List.set_cons_succ, i64_w, i32_w]
          rfl
        refine take_ (i := 8) (N := some 26) (v := ?_) (a' := ?_) #[true, true, true, true, true, true, true, true, true, false, false, false, true, true, false, false, false] rfl rfl (take_ofW HT_.out HW_.out (by kernel_rfl)) (fun _ _ _ h => h) (Or.inl ⟨by rfl, ?_⟩) hHeld ?_ ?_
        rotate_left
        · rintro w' ⟨s0, s1, s2⟩
          go_simp
          with_reducible rfl
        rotate_left
        · simp only [Act.put, List.setIfInBounds_toArray, List.set_cons_zero, List.set_cons_succ, i64_w, i32_w]
          rfl
        refine one_ (i := 9) (N := some 27) #[true, true, true, true, true, true, true, true, true, true, false, false, true, true, false, false, false] rfl rfl (one_of HT_.out (by kernel_rfl)) (by decide) (fun K hK => ?_)
        refine goes_ Try.func35 (by kernel_rfl) rfl #[.string (rdOf ByteArray.empty l0 a1_0)] (by rfl) rfl rfl (by (try simp only [List.map_toArray, List.map_cons, List.map_nil]); first | done | rfl | (simp only [List.length_drop, List.length_take]; rfl)) ?_
        with_reducible refine (foolscapref5_last.calls (rdOf ByteArray.empty l0 a1_0) t318 _ A9.out).mono ?_
        rintro e w18 ⟨rfl, hb⟩
        refine ⟨_, rfl, ?_⟩
        have n0_ := Aside0.mk (blk_below (g := gb313) (o := .cells #[.int .i64 a1_0, .int .i64 a1_1] 24 (0, 0)) (by exact BK313.out) hb)
        have n1_ := Aside0.mk (blk_below (g := gb314) (o := .cells #[.int .i64 0, .int .i64 0, .int .i64 0, .bool false, .int .i64 0] 33 (0, 0)) (by exact BK314.out) hb)
        have n2_ := Aside0.mk (below_step (by repeat (first | (with_reducible first | exact HB.out | apply below_alloc | apply pw_below_drewN | apply below_drew1 | refine below_set ?_ GE313.out | refine below_set ?_ GE314.out) | exact HB.out)) hb)
        clear BK313
        clear BK314
        clear HB
        have BK313 := n0_
        have BK314 := n1_
        have HB := n2_
        clear n0_ n1_ n2_
        (try clear hb)
        (try clear hb2)
        (try clear hk)
        (try clear hi)
        refine hK.out _ _ ⟨(blk_cell BK313.out 0).trans rfl, (blk_cell BK313.out 1).trans rfl, ((HB.out.cell (World.block_lt_of_cell? w _ hw317_0)).trans hw317_0)⟩ (fun hHeld => ?_)
        clear hK K
        refine norm_ (a' := ?_) ?_ ?_
        rotate_left
        · show Act.put _ (some 27) _ = _
          simp only [Act.put, List.setIfInBounds_toArray, List.set_cons_zero, List.set_cons_succ, i64_w, i32_w]
          rfl
        refine pure_ (i := 10) (N := some 28) (v := ?_) (a' := ?_) #[true, true, true, true, true, true, true, true, true, true, true, false, true, true, false, false, false] rfl rfl (any_of HT_.out (by kernel_rfl)) (fun _ _ _ h => h) (Or.inl ⟨by rfl, ?_⟩) ?_ ?_
        rotate_left
        · intro w'
          go_simp
          with_reducible rfl
        rotate_left
        · simp only [Act.put, List.setIfInBounds_toArray, List.set_cons_zero, List.set_cons_succ, i64_w, i32_w]
          rfl
        refine pure_ (i := 11) (N := some 29) (v := ?_) (a' := ?_) #[true, true, true, true, true, true, true, true, true, true, true, true, true, true, false, false, false] rfl rfl (any_of HT_.out (by kernel_rfl)) (fun _ _ _ h => h) (Or.inl ⟨by rfl, ?_⟩) ?_ ?_
        rotate_left
        · intro w'
          go_simp
          with_reducible rfl
        rotate_left
        · simp only [Act.put, List.setIfInBounds_toArray, List.set_cons_zero, List.set_cons_succ, i64_w, i32_w]
          rfl
        refine pure_ (i := 14) (N := some 32) (v := ?_) (a' := ?_) #[true, true, true, true, true, true, true, true, true, true, true, true, true, true, true, false, false] rfl rfl (any_of HT_.out (by kernel_rfl)) (fun _ _ _ h => h) (Or.inl ⟨by rfl, ?_⟩) ?_ ?_
        rotate_left
        · intro w'
          go_simp
          with_reducible rfl
        rotate_left
        · simp only [Act.put, List.setIfInBounds_toArray, List.set_cons_zero, List.set_cons_succ, i64_w, i32_w]
          rfl
        refine one_ (i := 15) (N := none) #[true, true, true, true, true, true, true, true, true, true, true, true, true, true, true, true, false] rfl rfl (one_of HT_.out (by kernel_rfl)) (by decide) (fun K hK => ?_)
        have hs19 : w18.cell? ⟨gb314, 0, none⟩ = some (.int .i64 0) := (blk_cell BK314.out 0).trans rfl
        have hfs19 := blk_frozen BK314.out 0
        have hns19_0 := NB313_314.out
        have hms19_0 := NB314_313.out
        have hs20 : w18.cell? ⟨gb314, 1, none⟩ = some (.int .i64 0) := (blk_cell BK314.out 1).trans rfl
        have hfs20 := blk_frozen BK314.out 1
        have hns20_0 := NB313_314.out
        have hms20_0 := NB314_313.out
        have hs21 : w18.cell? ⟨gb314, 2, none⟩ = some (.int .i64 0) := (blk_cell BK314.out 2).trans rfl
        have hfs21 := blk_frozen BK314.out 2
        have hns21_0 := NB313_314.out
        have hms21_0 := NB314_313.out
        have hs22 : w18.cell? ⟨gb314, 3, none⟩ = some (.bool false) := (blk_cell BK314.out 3).trans rfl
        have hfs22 := blk_frozen BK314.out 3
        have hns22_0 := NB313_314.out
        have hms22_0 := NB314_313.out
        have hs23 : w18.cell? ⟨gb314, 4, none⟩ = some (.int .i64 0) := (blk_cell BK314.out 4).trans rfl
        have hfs23 := blk_frozen BK314.out 4
        have hns23_0 := NB313_314.out
        have hms23_0 := NB314_313.out
        refine skip_ (w1 := ?_) (by rfl) rfl ?_ ?_
        rotate_left
        · go_simp
          rfl
        refine hK.out _ _ ⟨((cell_far (p := ⟨gb314, _, none⟩) NB313_314.out _).trans (((cell_far (p := ⟨gb314, _, none⟩) NB313_314.out _).trans (((cell_far (p := ⟨gb314, _, none⟩) NB313_314.out _).trans (((cell_far (p := ⟨gb314, _, none⟩) NB313_314.out _).trans (((cell_far (p := ⟨gb314, _, none⟩) NB313_314.out _).trans (hHeld.1)))))))))), ((cell_far (p := ⟨gb314, _, none⟩) NB313_314.out _).trans (((cell_far (p := ⟨gb314, _, none⟩) NB313_314.out _).trans (((cell_far (p := ⟨gb314, _, none⟩) NB313_314.out _).trans (((cell_far (p := ⟨gb314, _, none⟩) NB313_314.out _).trans (((cell_far (p := ⟨gb314, _, none⟩) NB313_314.out _).trans (hHeld.2.1)))))))))), ((cell_far (p := ⟨gb314, _, none⟩) (by first | exact Nat.ne_of_lt (Nat.lt_of_lt_of_le (by have := World.block_lt_of_cell? _ _ hw317_0; first | rwa [add_block] at this | exact this) GW314.out) | (rw [add_block]; exact Nat.ne_of_lt (Nat.lt_of_lt_of_le (by have := World.block_lt_of_cell? _ _ hw317_0; first | rwa [add_block] at this | exact this) GW314.out)) | (show (Addr.add _ _).block ≠ _; rw [add_block]; exact Nat.ne_of_lt (Nat.lt_of_lt_of_le (by have := World.block_lt_of_cell? _ _ hw317_0; first | rwa [add_block] at this | exact this) GW314.out)) | (dsimp only; exact Nat.ne_of_lt (Nat.lt_of_lt_of_le (by have := World.block_lt_of_cell? _ _ hw317_0; first | rwa [add_block] at this | exact this) GW314.out))) _).trans (((cell_far (p := ⟨gb314, _, none⟩) (by first | exact Nat.ne_of_lt (Nat.lt_of_lt_of_le (by have := World.block_lt_of_cell? _ _ hw317_0; first | rwa [add_block] at this | exact this) GW314.out) | (rw [add_block]; exact Nat.ne_of_lt (Nat.lt_of_lt_of_le (by have := World.block_lt_of_cell? _ _ hw317_0; first | rwa [add_block] at this | exact this) GW314.out)) | (show (Addr.add _ _).block ≠ _; rw [add_block]; exact Nat.ne_of_lt (Nat.lt_of_lt_of_le (by have := World.block_lt_of_cell? _ _ hw317_0; first | rwa [add_block] at this | exact this) GW314.out)) | (dsimp only; exact Nat.ne_of_lt (Nat.lt_of_lt_of_le (by have := World.block_lt_of_cell? _ _ hw317_0; first | rwa [add_block] at this | exact this) GW314.out))) _).trans (((cell_far (p := ⟨gb314, _, none⟩) (by first | exact Nat.ne_of_lt (Nat.lt_of_lt_of_le (by have := World.block_lt_of_cell? _ _ hw317_0; first | rwa [add_block] at this | exact this) GW314.out) | (rw [add_block]; exact Nat.ne_of_lt (Nat.lt_of_lt_of_le (by have := World.block_lt_of_cell? _ _ hw317_0; first | rwa [add_block] at this | exact this) GW314.out)) | (show (Addr.add _ _).block ≠ _; rw [add_block]; exact Nat.ne_of_lt (Nat.lt_of_lt_of_le (by have := World.block_lt_of_cell? _ _ hw317_0; first | rwa [add_block] at this | exact this) GW314.out)) | (dsimp only; exact Nat.ne_of_lt (Nat.lt_of_lt_of_le (by have := World.block_lt_of_cell? _ _ hw317_0; first | rwa [add_block] at this | exact this) GW314.out))) _).trans (((cell_far (p := ⟨gb314, _, none⟩) (by first | exact Nat.ne_of_lt (Nat.lt_of_lt_of_le (by have := World.block_lt_of_cell? _ _ hw317_0; first | rwa [add_block] at this | exact this) GW314.out) | (rw [add_block]; exact Nat.ne_of_lt (Nat.lt_of_lt_of_le (by have := World.block_lt_of_cell? _ _ hw317_0; first | rwa [add_block] at this | exact this) GW314.out)) | (show (Addr.add _ _).block ≠ _; rw [add_block]; exact Nat.ne_of_lt (Nat.lt_of_lt_of_le (by have := World.block_lt_of_cell? _ _ hw317_0; first | rwa [add_block] at this | exact this) GW314.out)) | (dsimp only; exact Nat.ne_of_lt (Nat.lt_of_lt_of_le (by have := World.block_lt_of_cell? _ _ hw317_0; first | rwa [add_block] at this | exact this) GW314.out))) _).trans (((cell_far (p := ⟨gb314, _, none⟩) (by first | exact Nat.ne_of_lt (Nat.lt_of_lt_of_le (by have := World.block_lt_of_cell? _ _ hw317_0; first | rwa [add_block] at this | exact this) GW314.out) | (rw [add_block]; exact Nat.ne_of_lt (Nat.lt_of_lt_of_le (by have := World.block_lt_of_cell? _ _ hw317_0; first | rwa [add_block] at this | exact this) GW314.out)) | (show (Addr.add _ _).block ≠ _; rw [add_block]; exact Nat.ne_of_lt (Nat.lt_of_lt_of_le (by have := World.block_lt_of_cell? _ _ hw317_0; first | rwa [add_block] at this | exact this) GW314.out)) | (dsimp only; exact Nat.ne_of_lt (Nat.lt_of_lt_of_le (by have := World.block_lt_of_cell? _ _ hw317_0; first | rwa [add_block] at this | exact this) GW314.out))) _).trans (hHeld.2.2))))))))))⟩ (fun hHeld => ?_)
        clear hK K
        refine pure_ (i := 16) (N := some 7) (v := ?_) (a' := ?_) #[true, true, true, true, true, true, true, true, true, true, true, true, true, true, true, true, true] rfl rfl (any_of HT_.out (by kernel_rfl)) (fun _ _ _ h => h) (Or.inl ⟨by rfl, ?_⟩) ?_ ?_
        rotate_left
        · intro w'
          go_simp
          with_reducible rfl
        rotate_left
        · simp only [Act.put, List.setIfInBounds_toArray, List.set_cons_zero, List.set_cons_succ, i64_w, i32_w]
          rfl
        refine done_ (done_of HT_.out (by kernel_rfl)) ?_
        try go_wp2
        refine bodyPost_ret (results_ct rfl _ _ gb314 33 #[.int .i64 a1_0, .int .i64 ji10, .int .i64 0, .bool false, .int .i64 (wrap64 (t316 - 1))] (0, 0) _ rfl (by refine blk_put (cs := #[.int .i64 a1_0, .int .i64 ji10, .int .i64 0, .bool false, .int .i64 0]) ?_ 4 _ rfl; refine blk_put (cs := #[.int .i64 a1_0, .int .i64 ji10, .int .i64 0, .bool false, .int .i64 0]) ?_ 3 _ rfl; refine blk_put (cs := #[.int .i64 a1_0, .int .i64 ji10, .int .i64 0, .bool false, .int .i64 0]) ?_ 2 _ rfl; refine blk_put (cs := #[.int .i64 a1_0, .int .i64 0, .int .i64 0, .bool false, .int .i64 0]) ?_ 1 _ rfl; refine blk_put (cs := #[.int .i64 0, .int .i64 0, .int .i64 0, .bool false, .int .i64 0]) ?_ 0 _ rfl; exact BK314.out) Try.underlying33 rfl (by kernel_rfl)) rfl ?_
        exact ⟨by first | rfl | (simp [errW_none, errW_some] <;> rfl) | (simp only [← hji10]; first | rfl | (simp [errW_none, errW_some] <;> rfl)) | (simp [*, errW_none, errW_some] <;> rfl), by repeat (first | (with_reducible first | exact HB.out | apply below_alloc | apply pw_below_drewN | apply below_drew1 | refine below_set ?_ GE313.out | refine below_set ?_ GE314.out) | exact HB.out)⟩
      · rw [if_neg c8] at H
        exact absurd H (by simp)
    · rw [if_neg c7] at H
      exact absurd H (by simp)
  · replace c5 := Bool.eq_false_iff.mpr c5
    subst c5
    have H1 : ((foolscapref5_none.f).bind fun bt319 => (some (bt319.1, bt319.2.1, bt319.2.2.1, bt319.2.2.2.1, bt319.2.2.2.2.1, bt319.2.2.2.2.2))) = some (r1, r2, r3, r4, r5, r6) := by rw [if_neg (show ¬ (false = true) by decide)] at H; exact H
    clear H
    have H := H1
    clear H1
    replace H := Option.bind_eq_some_iff.mp H
    obtain ⟨⟨t319, t320, t321, t322, t323, t324⟩, A240, H⟩ := H
    replace H : (some (t319, t320, t321, t322, t323, t324)) = some (r1, r2, r3, r4, r5, r6) := H
    have A24 := Aside0.mk A240
    clear A240
    simp only [Option.some.injEq, Prod.mk.injEq] at H
    obtain ⟨rfl, rfl, rfl, rfl, rfl, rfl⟩ := H
    go_enter Try.func22, Try.ntmps22
    go_wp2_with (first | ((with_reducible refine gate_dst (N := 4) rfl ?_); refine box_event ?hg (N := 4) ?hd (cs := #[.int .i64 a1_0, .int .i64 a1_1]) (t := 24) ?hr ?_; (case hd => rfl); (case hg => rfl); (case hr => first | (go_simp; done) | (go_simp; rfl)); intro gb313 hg w25 hbox hb; have n0_ := Aside0.mk (below_step (by repeat (first | (with_reducible first | exact HB.out | apply below_alloc | apply pw_below_drewN | apply below_drew1) | exact HB.out)) hb); have n1_ := Aside0.mk (hbox); have n2_ := Aside0.mk ((by rw [hg]; exact (below_size (by repeat (first | (with_reducible first | exact HB.out | apply below_alloc | apply pw_below_drewN | apply below_drew1) | exact HB.out))) : w.heap.size ≤ gb313)); have n3_ := Aside0.mk ((by rw [hg]; exact (below_size (by repeat (first | (with_reducible first | exact HB.out | apply below_alloc | apply pw_below_drewN | apply below_drew1) | exact HB.out))) : w.heap.size ≤ gb313)); clear HB; have HB := n0_; have BK313 := n1_; have GW313 := n2_; have GE313 := n3_; clear n0_ n1_ n2_ n3_; clear hb hbox hg) | ((with_reducible refine gate_dst (N := 6) rfl ?_); refine box_event ?hg (N := 6) ?hd (cs := #[.int .i64 0, .int .i64 0, .int .i64 0, .bool false, .int .i64 0]) (t := 33) ?hr ?_; (case hd => rfl); (case hg => rfl); (case hr => first | (go_simp; done) | (go_simp; rfl)); intro gb314 hg w26 hbox hb; have n0_ := Aside0.mk (blk_below (g := gb313) (o := .cells #[.int .i64 a1_0, .int .i64 a1_1] 24 (0, 0)) (by exact BK313.out) hb); have n1_ := Aside0.mk (below_step (by repeat (first | (with_reducible first | exact HB.out | apply below_alloc | apply pw_below_drewN | apply below_drew1 | refine below_set ?_ GE313.out) | exact HB.out)) hb); have n2_ := Aside0.mk (hbox); have n3_ := Aside0.mk ((by rw [hg]; exact (below_size (by repeat (first | (with_reducible first | exact HB.out | apply below_alloc | apply pw_below_drewN | apply below_drew1 | refine below_set ?_ GE313.out) | exact HB.out))) : w.heap.size ≤ gb314)); have n4_ := Aside0.mk ((by rw [hg]; exact (below_size (by repeat (first | (with_reducible first | exact HB.out | apply below_alloc | apply pw_below_drewN | apply below_drew1 | refine below_set ?_ GE313.out) | exact HB.out))) : w.heap.size ≤ gb314)); have n5_ := Aside0.mk ((by rw [hg]; exact Nat.ne_of_lt (blk_lt (g := gb313) (o := .cells #[.int .i64 a1_0, .int .i64 a1_1] 24 (0, 0)) (by exact BK313.out)) : gb313 ≠ gb314)); have n6_ := Aside0.mk ((by rw [hg]; exact Nat.ne_of_gt (blk_lt (g := gb313) (o := .cells #[.int .i64 a1_0, .int .i64 a1_1] 24 (0, 0)) (by exact BK313.out)) : gb314 ≠ gb313)); clear BK313; clear HB; have BK313 := n0_; have HB := n1_; have BK314 := n2_; have GW314 := n3_; have GE314 := n4_; have NB313_314 := n5_; have NB314_313 := n6_; clear n0_ n1_ n2_ n3_ n4_ n5_ n6_; clear hb hbox hg; have hnb27 := NB313_314.out; have hnc27 := NB314_313.out; have hcz28_0 : w26.cell? ⟨gb313, 0, none⟩ = some (.int .i64 a1_0) := (blk_cell BK313.out 0).trans rfl; have hcz28_1 : w26.cell? ⟨gb313, 1, none⟩ = some (.int .i64 a1_1) := (blk_cell BK313.out 1).trans rfl; have hfz28_0 := blk_frozen BK313.out 0; have hfz28_1 := blk_frozen BK313.out 1) | ((with_reducible refine gate_callee (f := 31) rfl ?_); refine goesL_ (some 11) rfl rfl Try.func31 (by kernel_rfl) rfl #[.slice A0 l0.length c0, .agg #[.int .i64 a1_0, .int .i64 a1_1], .int .i64 a2] rfl (by (try simp only [List.map_toArray, List.map_cons, List.map_nil]); first | done | rfl | (simp only [List.length_drop, List.length_take]; rfl)) ?_; (with_reducible refine (foolscapref5_may.calls _ _ l0 a1_0 a1_1 a2 false _ ?side1 ?side2 A4.out).mono ?_); (case side1 => repeat (first | exact (Kd.C_below HR0.out HB.out) | (with_reducible refine Kd.C_alloc ?_ _) | (with_reducible refine Kd.C_drewN ?_ _) | (with_reducible refine Kd.C_drew ?_))); (case side2 => exact HC0.out); rintro e w29 ⟨rfl, hb⟩; refine ⟨_, rfl, ?_⟩; have n0_ := Aside0.mk (blk_below (g := gb313) (o := .cells #[.int .i64 a1_0, .int .i64 a1_1] 24 (0, 0)) (by exact BK313.out) hb); have n1_ := Aside0.mk (blk_below (g := gb314) (o := .cells #[.int .i64 0, .int .i64 0, .int .i64 0, .bool false, .int .i64 0] 33 (0, 0)) (by exact BK314.out) hb); have n2_ := Aside0.mk (below_step (by repeat (first | (with_reducible first | exact HB.out | apply below_alloc | apply pw_below_drewN | apply below_drew1 | refine below_set ?_ GE313.out | refine below_set ?_ GE314.out) | exact HB.out)) hb); clear BK313; clear BK314; clear HB; have BK313 := n0_; have BK314 := n1_; have HB := n2_; clear n0_ n1_ n2_; (try clear hb); (try clear hb2); (try clear hk); (try clear hi)) | ((with_reducible refine gate_callee (f := 32) rfl ?_); refine goesL_ (some 13) rfl rfl Try.func32 (by kernel_rfl) rfl #[] rfl (by (try simp only [List.map_toArray, List.map_cons, List.map_nil]); first | done | rfl | (simp only [List.length_drop, List.length_take]; rfl)) ?_; (with_reducible refine (foolscapref5_none.calls  t319 t320 t321 t322 t323 t324 _ A24.out).mono ?_); rintro e w30 ⟨rfl, hb⟩; refine ⟨_, rfl, ?_⟩; have n0_ := Aside0.mk (blk_below (g := gb313) (o := .cells #[.int .i64 a1_0, .int .i64 a1_1] 24 (0, 0)) (by exact BK313.out) hb); have n1_ := Aside0.mk (blk_below (g := gb314) (o := .cells #[.int .i64 0, .int .i64 0, .int .i64 0, .bool false, .int .i64 0] 33 (0, 0)) (by exact BK314.out) hb); have n2_ := Aside0.mk (below_step (by repeat (first | (with_reducible first | exact HB.out | apply below_alloc | apply pw_below_drewN | apply below_drew1 | refine below_set ?_ GE313.out | refine below_set ?_ GE314.out) | exact HB.out)) hb); clear BK313; clear BK314; clear HB; have BK313 := n0_; have BK314 := n1_; have HB := n2_; clear n0_ n1_ n2_; (try clear hb); (try clear hb2); (try clear hk); (try clear hi); have hcz31_0 : w30.cell? ⟨gb314, 0, none⟩ = some (.int .i64 0) := (blk_cell BK314.out 0).trans rfl; have hcz31_1 : w30.cell? ⟨gb314, 1, none⟩ = some (.int .i64 0) := (blk_cell BK314.out 1).trans rfl; have hcz31_2 : w30.cell? ⟨gb314, 2, none⟩ = some (.int .i64 0) := (blk_cell BK314.out 2).trans rfl; have hcz31_3 : w30.cell? ⟨gb314, 3, none⟩ = some (.bool false) := (blk_cell BK314.out 3).trans rfl; have hcz31_4 : w30.cell? ⟨gb314, 4, none⟩ = some (.int .i64 0) := (blk_cell BK314.out 4).trans rfl; have hfz31_0 := blk_frozen BK314.out 0; have hfz31_1 := blk_frozen BK314.out 1; have hfz31_2 := blk_frozen BK314.out 2; have hfz31_3 := blk_frozen BK314.out 3; have hfz31_4 := blk_frozen BK314.out 4))
    refine bodyPost_ret (results_ct rfl _ _ gb314 33 #[.int .i64 t319, .int .i64 t320, .int .i64 t321, .bool t322, .int .i64 t323] (0, 0) _ rfl (by refine blk_put (cs := #[.int .i64 t319, .int .i64 t320, .int .i64 t321, .bool t322, .int .i64 0]) ?_ 4 _ rfl; refine blk_put (cs := #[.int .i64 t319, .int .i64 t320, .int .i64 t321, .bool false, .int .i64 0]) ?_ 3 _ rfl; refine blk_put (cs := #[.int .i64 t319, .int .i64 t320, .int .i64 0, .bool false, .int .i64 0]) ?_ 2 _ rfl; refine blk_put (cs := #[.int .i64 t319, .int .i64 0, .int .i64 0, .bool false, .int .i64 0]) ?_ 1 _ rfl; refine blk_put (cs := #[.int .i64 0, .int .i64 0, .int .i64 0, .bool false, .int .i64 0]) ?_ 0 _ rfl; exact BK314.out) Try.underlying33 rfl (by kernel_rfl)) rfl ?_
    exact ⟨by first | rfl | (simp [errW_none, errW_some] <;> rfl) | (simp [*, errW_none, errW_some] <;> rfl), by repeat (first | (with_reducible first | exact HB.out | apply below_alloc | apply pw_below_drewN | apply below_drew1 | refine below_set ?_ GE313.out | refine below_set ?_ GE314.out) | exact HB.out)⟩

end Go.Proofs.Ytdiakjamahdcfaa.V
namespace Go.Proofs.Ytdiakjamahdcfaa.V
open Go.RowKit Go.Proofs.YtdiakjamahdcfaaW.PrintWords Go.Proofs.YtdiakjamahdcfaaW.PrintLast Go.Proofs.YtdiakjamahdcfaaW.PrintMore
attribute [local go_sem] max2_int min2_int max_two min_two max_three min_three max_four min_four   -- for this text's walks alone
set_option linter.unusedVariables false
set_option linter.unusedSimpArgs false

/-! ### chars_Zero: function 23 -/
def chars_Zero.f (l0 : List ByteArray) (a1_0 : Int) (a1_1 : Int) : Option (Int × Int × Int × Bool × Int × Bool) := (chars_fails.f l0 a1_0 a1_1 1).bind fun t327 => (if t327 = true then (some (0, 0, 0, false, 0, false)) else ((chars_to.f a1_0 a1_1 0).bind fun bt328 => (some (bt328.1, bt328.2.1, bt328.2.2.1, bt328.2.2.2.1, bt328.2.2.2.2.1, bt328.2.2.2.2.2))))
set_option maxHeartbeats 8000000 in
set_option maxRecDepth 100000 in
theorem chars_Zero.calls (A0 : Option Addr) (c0 : Nat) (l0 : List ByteArray) (a1_0 : Int) (a1_1 : Int) (r1 : Int) (r2 : Int) (r3 : Int) (r4 : Bool) (r5 : Int) (r6 : Bool) (w : World) (hr0 : Kd.C Kd.string w A0 l0.length l0) (hc0 : l0.length ≤ c0) (h : chars_Zero.f l0 a1_0 a1_1 = some (r1, r2, r3, r4, r5, r6)) :
    Calls Try.prog 23 #[.slice A0 l0.length c0, .agg #[.int .i64 a1_0, .int .i64 a1_1]] w fun e w' => e = .returned (.tuple #[.agg #[.int .i64 r1, .int .i64 r2, .int .i64 r3, .bool r4, .int .i64 r5], .bool r6]) ∧ Below w.heap.size w w' := by
  have hu24 := Try.underlying24
  have hu33 := Try.underlying33
  have HR0 := Aside0.mk hr0
  have HC0 := Aside0.mk hc0
  clear hr0 hc0
  have HB := Aside0.mk (Below.refl w.heap.size w)
  have H : ((chars_fails.f l0 a1_0 a1_1 1).bind fun t327 => (if t327 = true then (some (0, 0, 0, false, 0, false)) else ((chars_to.f a1_0 a1_1 0).bind fun bt328 => (some (bt328.1, bt328.2.1, bt328.2.2.1, bt328.2.2.2.1, bt328.2.2.2.2.1, bt328.2.2.2.2.2))))) = some (r1, r2, r3, r4, r5, r6) := h
  clear h
  replace H := Option.bind_eq_some_iff.mp H
  obtain ⟨t327, A30, H⟩ := H
  replace H : (if t327 = true then (some (0, 0, 0, false, 0, false)) else ((chars_to.f a1_0 a1_1 0).bind fun bt328 => (some (bt328.1, bt328.2.1, bt328.2.2.1, bt328.2.2.2.1, bt328.2.2.2.2.1, bt328.2.2.2.2.2)))) = some (r1, r2, r3, r4, r5, r6) := H
  have A3 := Aside0.mk A30
  clear A30
  by_cases c4 : t327 = true
  · subst c4
    have H1 : (some (0, 0, 0, false, 0, false)) = some (r1, r2, r3, r4, r5, r6) := by rw [if_pos rfl] at H; exact H
    clear H
    have H := H1
    clear H1
    simp only [Option.some.injEq, Prod.mk.injEq] at H
    obtain ⟨rfl, rfl, rfl, rfl, rfl, rfl⟩ := H
    go_enter Try.func23, Try.ntmps23
    go_wp2_with (first | ((with_reducible refine gate_dst (N := 3) rfl ?_); refine box_event ?hg (N := 3) ?hd (cs := #[.int .i64 a1_0, .int .i64 a1_1]) (t := 24) ?hr ?_; (case hd => rfl); (case hg => rfl); (case hr => first | (go_simp; done) | (go_simp; rfl)); intro gb325 hg w5 hbox hb; have n0_ := Aside0.mk (below_step (by repeat (first | (with_reducible first | exact HB.out | apply below_alloc | apply pw_below_drewN | apply below_drew1) | exact HB.out)) hb); have n1_ := Aside0.mk (hbox); have n2_ := Aside0.mk ((by rw [hg]; exact (below_size (by repeat (first | (with_reducible first | exact HB.out | apply below_alloc | apply pw_below_drewN | apply below_drew1) | exact HB.out))) : w.heap.size ≤ gb325)); have n3_ := Aside0.mk ((by rw [hg]; exact (below_size (by repeat (first | (with_reducible first | exact HB.out | apply below_alloc | apply pw_below_drewN | apply below_drew1) | exact HB.out))) : w.heap.size ≤ gb325)); clear HB; have HB := n0_; have BK325 := n1_; have GW325 := n2_; have GE325 := n3_; clear n0_ n1_ n2_ n3_; clear hb hbox hg) | ((with_reducible refine gate_dst (N := 4) rfl ?_); refine box_event ?hg (N := 4) ?hd (cs := #[.int .i64 0, .int .i64 0, .int .i64 0, .bool false, .int .i64 0]) (t := 33) ?hr ?_; (case hd => rfl); (case hg => rfl); (case hr => first | (go_simp; done) | (go_simp; rfl)); intro gb326 hg w6 hbox hb; have n0_ := Aside0.mk (blk_below (g := gb325) (o := .cells #[.int .i64 a1_0, .int .i64 a1_1] 24 (0, 0)) (by exact BK325.out) hb); have n1_ := Aside0.mk (below_step (by repeat (first | (with_reducible first | exact HB.out | apply below_alloc | apply pw_below_drewN | apply below_drew1 | refine below_set ?_ GE325.out) | exact HB.out)) hb); have n2_ := Aside0.mk (hbox); have n3_ := Aside0.mk ((by rw [hg]; exact (below_size (by repeat (first | (with_reducible first | exact HB.out | apply below_alloc | apply pw_below_drewN | apply below_drew1 | refine below_set ?_ GE325.out) | exact HB.out))) : w.heap.size ≤ gb326)); have n4_ := Aside0.mk ((by rw [hg]; exact (below_size (by repeat (first | (with_reducible first | exact HB.out | apply below_alloc | apply pw_below_drewN | apply below_drew1 | refine below_set ?_ GE325.out) | exact HB.out))) : w.heap.size ≤ gb326)); have n5_ := Aside0.mk ((by rw [hg]; exact Nat.ne_of_lt (blk_lt (g := gb325) (o := .cells #[.int .i64 a1_0, .int .i64 a1_1] 24 (0, 0)) (by exact BK325.out)) : gb325 ≠ gb326)); have n6_ := Aside0.mk ((by rw [hg]; exact Nat.ne_of_gt (blk_lt (g := gb325) (o := .cells #[.int .i64 a1_0, .int .i64 a1_1] 24 (0, 0)) (by exact BK325.out)) : gb326 ≠ gb325)); clear BK325; clear HB; have BK325 := n0_; have HB := n1_; have BK326 := n2_; have GW326 := n3_; have GE326 := n4_; have NB325_326 := n5_; have NB326_325 := n6_; clear n0_ n1_ n2_ n3_ n4_ n5_ n6_; clear hb hbox hg; have hnb7 := NB325_326.out; have hnc7 := NB326_325.out; have hcz8_0 : w6.cell? ⟨gb325, 0, none⟩ = some (.int .i64 a1_0) := (blk_cell BK325.out 0).trans rfl; have hcz8_1 : w6.cell? ⟨gb325, 1, none⟩ = some (.int .i64 a1_1) := (blk_cell BK325.out 1).trans rfl; have hfz8_0 := blk_frozen BK325.out 0; have hfz8_1 := blk_frozen BK325.out 1) | ((with_reducible refine gate_callee (f := 28) rfl ?_); refine goesL_ (some 8) rfl rfl Try.func28 (by kernel_rfl) rfl #[.slice A0 l0.length c0, .agg #[.int .i64 a1_0, .int .i64 a1_1], .int .i64 1] rfl (by (try simp only [List.map_toArray, List.map_cons, List.map_nil]); first | done | rfl | (simp only [List.length_drop, List.length_take]; rfl)) ?_; (with_reducible refine (chars_fails.calls _ _ l0 a1_0 a1_1 1 true _ ?side1 ?side2 A3.out).mono ?_); (case side1 => repeat (first | exact (Kd.C_below HR0.out HB.out) | (with_reducible refine Kd.C_alloc ?_ _) | (with_reducible refine Kd.C_drewN ?_ _) | (with_reducible refine Kd.C_drew ?_))); (case side2 => exact HC0.out); rintro e w9 ⟨rfl, hb⟩; refine ⟨_, rfl, ?_⟩; have n0_ := Aside0.mk (blk_below (g := gb325) (o := .cells #[.int .i64 a1_0, .int .i64 a1_1] 24 (0, 0)) (by exact BK325.out) hb); have n1_ := Aside0.mk (blk_below (g := gb326) (o := .cells #[.int .i64 0, .int .i64 0, .int .i64 0, .bool false, .int .i64 0] 33 (0, 0)) (by exact BK326.out) hb); have n2_ := Aside0.mk (below_step (by repeat (first | (with_reducible first | exact HB.out | apply below_alloc | apply pw_below_drewN | apply below_drew1 | refine below_set ?_ GE325.out | refine below_set ?_ GE326.out) | exact HB.out)) hb); clear BK325; clear BK326; clear HB; have BK325 := n0_; have BK326 := n1_; have HB := n2_; clear n0_ n1_ n2_; (try clear hb); (try clear hb2); (try clear hk); (try clear hi); have hcz10_0 : w9.cell? ⟨gb326, 0, none⟩ = some (.int .i64 0) := (blk_cell BK326.out 0).trans rfl; have hcz10_1 : w9.cell? ⟨gb326, 1, none⟩ = some (.int .i64 0) := (blk_cell BK326.out 1).trans rfl; have hcz10_2 : w9.cell? ⟨gb326, 2, none⟩ = some (.int .i64 0) := (blk_cell BK326.out 2).trans rfl; have hcz10_3 : w9.cell? ⟨gb326, 3, none⟩ = some (.bool false) := (blk_cell BK326.out 3).trans rfl; have hcz10_4 : w9.cell? ⟨gb326, 4, none⟩ = some (.int .i64 0) := (blk_cell BK326.out 4).trans rfl; have hfz10_0 := blk_frozen BK326.out 0; have hfz10_1 := blk_frozen BK326.out 1; have hfz10_2 := blk_frozen BK326.out 2; have hfz10_3 := blk_frozen BK326.out 3; have hfz10_4 := blk_frozen BK326.out 4))
    refine bodyPost_ret (results_ct rfl _ _ gb326 33 #[.int .i64 0, .int .i64 0, .int .i64 0, .bool false, .int .i64 0] (0, 0) _ rfl (by refine blk_put (cs := #[.int .i64 0, .int .i64 0, .int .i64 0, .bool false, .int .i64 0]) ?_ 4 _ rfl; refine blk_put (cs := #[.int .i64 0, .int .i64 0, .int .i64 0, .bool false, .int .i64 0]) ?_ 3 _ rfl; refine blk_put (cs := #[.int .i64 0, .int .i64 0, .int .i64 0, .bool false, .int .i64 0]) ?_ 2 _ rfl; refine blk_put (cs := #[.int .i64 0, .int .i64 0, .int .i64 0, .bool false, .int .i64 0]) ?_ 1 _ rfl; refine blk_put (cs := #[.int .i64 0, .int .i64 0, .int .i64 0, .bool false, .int .i64 0]) ?_ 0 _ rfl; exact BK326.out) Try.underlying33 rfl (by kernel_rfl)) rfl ?_
    exact ⟨by first | rfl | (simp [errW_none, errW_some] <;> rfl) | (simp [*, errW_none, errW_some] <;> rfl), by repeat (first | (with_reducible first | exact HB.out | apply below_alloc | apply pw_below_drewN | apply below_drew1 | refine below_set ?_ GE325.out | refine below_set ?_ GE326.out) | exact HB.out)⟩
  · replace c4 := Bool.eq_false_iff.mpr c4
    subst c4
    have H1 : ((chars_to.f a1_0 a1_1 0).bind fun bt328 => (some (bt328.1, bt328.2.1, bt328.2.2.1, bt328.2.2.2.1, bt328.2.2.2.2.1, bt328.2.2.2.2.2))) = some (r1, r2, r3, r4, r5, r6) := by rw [if_neg (show ¬ (false = true) by decide)] at H; exact H
    clear H
    have H := H1
    clear H1
    replace H := Option.bind_eq_some_iff.mp H
    obtain ⟨⟨t328, t329, t330, t331, t332, t333⟩, A110, H⟩ := H
    replace H : (some (t328, t329, t330, t331, t332, t333)) = some (r1, r2, r3, r4, r5, r6) := H
    have A11 := Aside0.mk A110
    clear A110
    simp only [Option.some.injEq, Prod.mk.injEq] at H
    obtain ⟨rfl, rfl, rfl, rfl, rfl, rfl⟩ := H
    go_enter Try.func23, Try.ntmps23
    go_wp2_with (first | ((with_reducible refine gate_dst (N := 3) rfl ?_); refine box_event ?hg (N := 3) ?hd (cs := #[.int .i64 a1_0, .int .i64 a1_1]) (t := 24) ?hr ?_; (case hd => rfl); (case hg => rfl); (case hr => first | (go_simp; done) | (go_simp; rfl)); intro gb325 hg w12 hbox hb; have n0_ := Aside0.mk (below_step (by repeat (first | (with_reducible first | exact HB.out | apply below_alloc | apply pw_below_drewN | apply below_drew1) | exact HB.out)) hb); have n1_ := Aside0.mk (hbox); have n2_ := Aside0.mk ((by rw [hg]; exact (below_size (by repeat (first | (with_reducible first | exact HB.out | apply below_alloc | apply pw_below_drewN | apply below_drew1) | exact HB.out))) : w.heap.size ≤ gb325)); have n3_ := Aside0.mk ((by rw [hg]; exact (below_size (by repeat (first | (with_reducible first | exact HB.out | apply below_alloc | apply pw_below_drewN | apply below_drew1) | exact HB.out))) : w.heap.size ≤ gb325)); clear HB; have HB := n0_; have BK325 := n1_; have GW325 := n2_; have GE325 := n3_; clear n0_ n1_ n2_ n3_; clear hb hbox hg) | ((with_reducible refine gate_dst (N := 4) rfl ?_); refine box_event ?hg (N := 4) ?hd (cs := #[.int .i64 0, .int .i64 0, .int .i64 0, .bool false, .int .i64 0]) (t := 33) ?hr ?_; (case hd => rfl); (case hg => rfl); (case hr => first | (go_simp; done) | (go_simp; rfl)); intro gb326 hg w13 hbox hb; have n0_ := Aside0.mk (blk_below (g := gb325) (o := .cells #[.int .i64 a1_0, .int .i64 a1_1] 24 (0, 0)) (by exact BK325.out) hb); have n1_ := Aside0.mk (below_step (by repeat (first | (with_reducible first | exact HB.out | apply below_alloc | apply pw_below_drewN | apply below_drew1 | refine below_set ?_ GE325.out) | exact HB.out)) hb); have n2_ := Aside0.mk (hbox); have n3_ := Aside0.mk ((by rw [hg]; exact (below_size (by repeat (first | (with_reducible first | exact HB.out | apply below_alloc | apply pw_below_drewN | apply below_drew1 | refine below_set ?_ GE325.out) | exact HB.out))) : w.heap.size ≤ gb326)); have n4_ := Aside0.mk ((by rw [hg]; exact (below_size (by repeat (first | (with_reducible first | exact HB.out | apply below_alloc | apply pw_below_drewN | apply below_drew1 | refine below_set ?_ GE325.out) | exact HB.out))) : w.heap.size ≤ gb326)); have n5_ := Aside0.mk ((by rw [hg]; exact Nat.ne_of_lt (blk_lt (g := gb325) (o := .cells #[.int .i64 a1_0, .int .i64 a1_1] 24 (0, 0)) (by exact BK325.out)) : gb325 ≠ gb326)); have n6_ := Aside0.mk ((by rw [hg]; exact Nat.ne_of_gt (blk_lt (g := gb325) (o := .cells #[.int .i64 a1_0, .int .i64 a1_1] 24 (0, 0)) (by exact BK325.out)) : gb326 ≠ gb325)); clear BK325; clear HB; have BK325 := n0_; have HB := n1_; have BK326 := n2_; have GW326 := n3_; have GE326 := n4_; have NB325_326 := n5_; have NB326_325 := n6_; clear n0_ n1_ n2_ n3_ n4_ n5_ n6_; clear hb hbox hg; have hnb14 := NB325_326.out; have hnc14 := NB326_325.out; have hcz15_0 : w13.cell? ⟨gb325, 0, none⟩ = some (.int .i64 a1_0) := (blk_cell BK325.out 0).trans rfl; have hcz15_1 : w13.cell? ⟨gb325, 1, none⟩ = some (.int .i64 a1_1) := (blk_cell BK325.out 1).trans rfl; have hfz15_0 := blk_frozen BK325.out 0; have hfz15_1 := blk_frozen BK325.out 1) | ((with_reducible refine gate_callee (f := 28) rfl ?_); refine goesL_ (some 8) rfl rfl Try.func28 (by kernel_rfl) rfl #[.slice A0 l0.length c0, .agg #[.int .i64 a1_0, .int .i64 a1_1], .int .i64 1] rfl (by (try simp only [List.map_toArray, List.map_cons, List.map_nil]); first | done | rfl | (simp only [List.length_drop, List.length_take]; rfl)) ?_; (with_reducible refine (chars_fails.calls _ _ l0 a1_0 a1_1 1 false _ ?side1 ?side2 A3.out).mono ?_); (case side1 => repeat (first | exact (Kd.C_below HR0.out HB.out) | (with_reducible refine Kd.C_alloc ?_ _) | (with_reducible refine Kd.C_drewN ?_ _) | (with_reducible refine Kd.C_drew ?_))); (case side2 => exact HC0.out); rintro e w16 ⟨rfl, hb⟩; refine ⟨_, rfl, ?_⟩; have n0_ := Aside0.mk (blk_below (g := gb325) (o := .cells #[.int .i64 a1_0, .int .i64 a1_1] 24 (0, 0)) (by exact BK325.out) hb); have n1_ := Aside0.mk (blk_below (g := gb326) (o := .cells #[.int .i64 0, .int .i64 0, .int .i64 0, .bool false, .int .i64 0] 33 (0, 0)) (by exact BK326.out) hb); have n2_ := Aside0.mk (below_step (by repeat (first | (with_reducible first | exact HB.out | apply below_alloc | apply pw_below_drewN | apply below_drew1 | refine below_set ?_ GE325.out | refine below_set ?_ GE326.out) | exact HB.out)) hb); clear BK325; clear BK326; clear HB; have BK325 := n0_; have BK326 := n1_; have HB := n2_; clear n0_ n1_ n2_; (try clear hb); (try clear hb2); (try clear hk); (try clear hi); have hcz17_0 : w16.cell? ⟨gb325, 0, none⟩ = some (.int .i64 a1_0) := (blk_cell BK325.out 0).trans rfl; have hcz17_1 : w16.cell? ⟨gb325, 1, none⟩ = some (.int .i64 a1_1) := (blk_cell BK325.out 1).trans rfl; have hfz17_0 := blk_frozen BK325.out 0; have hfz17_1 := blk_frozen BK325.out 1) | ((with_reducible refine gate_callee (f := 30) rfl ?_); refine goesL_ (some 11) rfl rfl Try.func30 (by kernel_rfl) rfl #[.agg #[.int .i64 a1_0, .int .i64 a1_1], .int .i64 0] rfl (by (try simp only [List.map_toArray, List.map_cons, List.map_nil]); first | done | rfl | (simp only [List.length_drop, List.length_take]; rfl)) ?_; (with_reducible refine (chars_to.calls a1_0 a1_1 0 t328 t329 t330 t331 t332 t333 _ A11.out).mono ?_); rintro e w18 ⟨rfl, hb⟩; refine ⟨_, rfl, ?_⟩; have n0_ := Aside0.mk (blk_below (g := gb325) (o := .cells #[.int .i64 a1_0, .int .i64 a1_1] 24 (0, 0)) (by exact BK325.out) hb); have n1_ := Aside0.mk (blk_below (g := gb326) (o := .cells #[.int .i64 0, .int .i64 0, .int .i64 0, .bool false, .int .i64 0] 33 (0, 0)) (by exact BK326.out) hb); have n2_ := Aside0.mk (below_step (by repeat (first | (with_reducible first | exact HB.out | apply below_alloc | apply pw_below_drewN | apply below_drew1 | refine below_set ?_ GE325.out | refine below_set ?_ GE326.out) | exact HB.out)) hb); clear BK325; clear BK326; clear HB; have BK325 := n0_; have BK326 := n1_; have HB := n2_; clear n0_ n1_ n2_; (try clear hb); (try clear hb2); (try clear hk); (try clear hi); have hcz19_0 : w18.cell? ⟨gb326, 0, none⟩ = some (.int .i64 0) := (blk_cell BK326.out 0).trans rfl; have hcz19_1 : w18.cell? ⟨gb326, 1, none⟩ = some (.int .i64 0) := (blk_cell BK326.out 1).trans rfl; have hcz19_2 : w18.cell? ⟨gb326, 2, none⟩ = some (.int .i64 0) := (blk_cell BK326.out 2).trans rfl; have hcz19_3 : w18.cell? ⟨gb326, 3, none⟩ = some (.bool false) := (blk_cell BK326.out 3).trans rfl; have hcz19_4 : w18.cell? ⟨gb326, 4, none⟩ = some (.int .i64 0) := (blk_cell BK326.out 4).trans rfl; have hfz19_0 := blk_frozen BK326.out 0; have hfz19_1 := blk_frozen BK326.out 1; have hfz19_2 := blk_frozen BK326.out 2; have hfz19_3 := blk_frozen BK326.out 3; have hfz19_4 := blk_frozen BK326.out 4))
    refine bodyPost_ret (results_ct rfl _ _ gb326 33 #[.int .i64 t328, .int .i64 t329, .int .i64 t330, .bool t331, .int .i64 t332] (0, 0) _ rfl (by refine blk_put (cs := #[.int .i64 t328, .int .i64 t329, .int .i64 t330, .bool t331, .int .i64 0]) ?_ 4 _ rfl; refine blk_put (cs := #[.int .i64 t328, .int .i64 t329, .int .i64 t330, .bool false, .int .i64 0]) ?_ 3 _ rfl; refine blk_put (cs := #[.int .i64 t328, .int .i64 t329, .int .i64 0, .bool false, .int .i64 0]) ?_ 2 _ rfl; refine blk_put (cs := #[.int .i64 t328, .int .i64 0, .int .i64 0, .bool false, .int .i64 0]) ?_ 1 _ rfl; refine blk_put (cs := #[.int .i64 0, .int .i64 0, .int .i64 0, .bool false, .int .i64 0]) ?_ 0 _ rfl; exact BK326.out) Try.underlying33 rfl (by kernel_rfl)) rfl ?_
    exact ⟨by first | rfl | (simp [errW_none, errW_some] <;> rfl) | (simp [*, errW_none, errW_some] <;> rfl), by repeat (first | (with_reducible first | exact HB.out | apply below_alloc | apply pw_below_drewN | apply below_drew1 | refine below_set ?_ GE325.out | refine below_set ?_ GE326.out) | exact HB.out)⟩

end Go.Proofs.Ytdiakjamahdcfaa.V
namespace Go.Proofs.Ytdiakjamahdcfaa.V
open Go.RowKit Go.Proofs.YtdiakjamahdcfaaW.PrintWords Go.Proofs.YtdiakjamahdcfaaW.PrintLast Go.Proofs.YtdiakjamahdcfaaW.PrintMore
attribute [local go_sem] max2_int min2_int max_two min_two max_three min_three max_four min_four   -- for this text's walks alone
set_option linter.unusedVariables false
set_option linter.unusedSimpArgs false

/-! ### foolscapref5_Zero: function 24 -/
def foolscapref5_Zero.f (l0 : List ByteArray) (a1_0 : Int) (a1_1 : Int) : Option (Int × Int × Int × Bool × Int × Bool) := (foolscapref5_may.f l0 a1_0 a1_1 1).bind fun t336 => (if t336 = true then ((foolscapref5_to.f a1_0 0).bind fun bt337 => (some (bt337.1, bt337.2.1, bt337.2.2.1, bt337.2.2.2.1, bt337.2.2.2.2.1, bt337.2.2.2.2.2))) else ((foolscapref5_none.f).bind fun bt343 => (some (bt343.1, bt343.2.1, bt343.2.2.1, bt343.2.2.2.1, bt343.2.2.2.2.1, bt343.2.2.2.2.2))))
set_option maxHeartbeats 8000000 in
set_option maxRecDepth 100000 in
theorem foolscapref5_Zero.calls (A0 : Option Addr) (c0 : Nat) (l0 : List ByteArray) (a1_0 : Int) (a1_1 : Int) (r1 : Int) (r2 : Int) (r3 : Int) (r4 : Bool) (r5 : Int) (r6 : Bool) (w : World) (hr0 : Kd.C Kd.string w A0 l0.length l0) (hc0 : l0.length ≤ c0) (h : foolscapref5_Zero.f l0 a1_0 a1_1 = some (r1, r2, r3, r4, r5, r6)) :
    Calls Try.prog 24 #[.slice A0 l0.length c0, .agg #[.int .i64 a1_0, .int .i64 a1_1]] w fun e w' => e = .returned (.tuple #[.agg #[.int .i64 r1, .int .i64 r2, .int .i64 r3, .bool r4, .int .i64 r5], .bool r6]) ∧ Below w.heap.size w w' := by
  have hu24 := Try.underlying24
  have hu33 := Try.underlying33
  have HR0 := Aside0.mk hr0
  have HC0 := Aside0.mk hc0
  clear hr0 hc0
  have HB := Aside0.mk (Below.refl w.heap.size w)
  have H : ((foolscapref5_may.f l0 a1_0 a1_1 1).bind fun t336 => (if t336 = true then ((foolscapref5_to.f a1_0 0).bind fun bt337 => (some (bt337.1, bt337.2.1, bt337.2.2.1, bt337.2.2.2.1, bt337.2.2.2.2.1, bt337.2.2.2.2.2))) else ((foolscapref5_none.f).bind fun bt343 => (some (bt343.1, bt343.2.1, bt343.2.2.1, bt343.2.2.2.1, bt343.2.2.2.2.1, bt343.2.2.2.2.2))))) = some (r1, r2, r3, r4, r5, r6) := h
  clear h
  replace H := Option.bind_eq_some_iff.mp H
  obtain ⟨t336, A30, H⟩ := H
  replace H : (if t336 = true then ((foolscapref5_to.f a1_0 0).bind fun bt337 => (some (bt337.1, bt337.2.1, bt337.2.2.1, bt337.2.2.2.1, bt337.2.2.2.2.1, bt337.2.2.2.2.2))) else ((foolscapref5_none.f).bind fun bt343 => (some (bt343.1, bt343.2.1, bt343.2.2.1, bt343.2.2.2.1, bt343.2.2.2.2.1, bt343.2.2.2.2.2)))) = some (r1, r2, r3, r4, r5, r6) := H
  have A3 := Aside0.mk A30
  clear A30
  by_cases c4 : t336 = true
  · subst c4
    have H1 : ((foolscapref5_to.f a1_0 0).bind fun bt337 => (some (bt337.1, bt337.2.1, bt337.2.2.1, bt337.2.2.2.1, bt337.2.2.2.2.1, bt337.2.2.2.2.2))) = some (r1, r2, r3, r4, r5, r6) := by rw [if_pos rfl] at H; exact H
    clear H
    have H := H1
    clear H1
    replace H := Option.bind_eq_some_iff.mp H
    obtain ⟨⟨t337, t338, t339, t340, t341, t342⟩, A50, H⟩ := H
    replace H : (some (t337, t338, t339, t340, t341, t342)) = some (r1, r2, r3, r4, r5, r6) := H
    have A5 := Aside0.mk A50
    clear A50
    simp only [Option.some.injEq, Prod.mk.injEq] at H
    obtain ⟨rfl, rfl, rfl, rfl, rfl, rfl⟩ := H
    go_enter Try.func24, Try.ntmps24
    go_wp2_with (first | ((with_reducible refine gate_dst (N := 3) rfl ?_); refine box_event ?hg (N := 3) ?hd (cs := #[.int .i64 a1_0, .int .i64 a1_1]) (t := 24) ?hr ?_; (case hd => rfl); (case hg => rfl); (case hr => first | (go_simp; done) | (go_simp; rfl)); intro gb334 hg w6 hbox hb; have n0_ := Aside0.mk (below_step (by repeat (first | (with_reducible first | exact HB.out | apply below_alloc | apply pw_below_drewN | apply below_drew1) | exact HB.out)) hb); have n1_ := Aside0.mk (hbox); have n2_ := Aside0.mk ((by rw [hg]; exact (below_size (by repeat (first | (with_reducible first | exact HB.out | apply below_alloc | apply pw_below_drewN | apply below_drew1) | exact HB.out))) : w.heap.size ≤ gb334)); have n3_ := Aside0.mk ((by rw [hg]; exact (below_size (by repeat (first | (with_reducible first | exact HB.out | apply below_alloc | apply pw_below_drewN | apply below_drew1) | exact HB.out))) : w.heap.size ≤ gb334)); clear HB; have HB := n0_; have BK334 := n1_; have GW334 := n2_; have GE334 := n3_; clear n0_ n1_ n2_ n3_; clear hb hbox hg) | ((with_reducible refine gate_dst (N := 4) rfl ?_); refine box_event ?hg (N := 4) ?hd (cs := #[.int .i64 0, .int .i64 0, .int .i64 0, .bool false, .int .i64 0]) (t := 33) ?hr ?_; (case hd => rfl); (case hg => rfl); (case hr => first | (go_simp; done) | (go_simp; rfl)); intro gb335 hg w7 hbox hb; have n0_ := Aside0.mk (blk_below (g := gb334) (o := .cells #[.int .i64 a1_0, .int .i64 a1_1] 24 (0, 0)) (by exact BK334.out) hb); have n1_ := Aside0.mk (below_step (by repeat (first | (with_reducible first | exact HB.out | apply below_alloc | apply pw_below_drewN | apply below_drew1 | refine below_set ?_ GE334.out) | exact HB.out)) hb); have n2_ := Aside0.mk (hbox); have n3_ := Aside0.mk ((by rw [hg]; exact (below_size (by repeat (first | (with_reducible first | exact HB.out | apply below_alloc | apply pw_below_drewN | apply below_drew1 | refine below_set ?_ GE334.out) | exact HB.out))) : w.heap.size ≤ gb335)); have n4_ := Aside0.mk ((by rw [hg]; exact (below_size (by repeat (first | (with_reducible first | exact HB.out | apply below_alloc | apply pw_below_drewN | apply below_drew1 | refine below_set ?_ GE334.out) | exact HB.out))) : w.heap.size ≤ gb335)); have n5_ := Aside0.mk ((by rw [hg]; exact Nat.ne_of_lt (blk_lt (g := gb334) (o := .cells #[.int .i64 a1_0, .int .i64 a1_1] 24 (0, 0)) (by exact BK334.out)) : gb334 ≠ gb335)); have n6_ := Aside0.mk ((by rw [hg]; exact Nat.ne_of_gt (blk_lt (g := gb334) (o := .cells #[.int .i64 a1_0, .int .i64 a1_1] 24 (0, 0)) (by exact BK334.out)) : gb335 ≠ gb334)); clear BK334; clear HB; have BK334 := n0_; have HB := n1_; have BK335 := n2_; have GW335 := n3_; have GE335 := n4_; have NB334_335 := n5_; have NB335_334 := n6_; clear n0_ n1_ n2_ n3_ n4_ n5_ n6_; clear hb hbox hg; have hnb8 := NB334_335.out; have hnc8 := NB335_334.out; have hcz9_0 : w7.cell? ⟨gb334, 0, none⟩ = some (.int .i64 a1_0) := (blk_cell BK334.out 0).trans rfl; have hcz9_1 : w7.cell? ⟨gb334, 1, none⟩ = some (.int .i64 a1_1) := (blk_cell BK334.out 1).trans rfl; have hfz9_0 := blk_frozen BK334.out 0; have hfz9_1 := blk_frozen BK334.out 1) | ((with_reducible refine gate_callee (f := 31) rfl ?_); refine goesL_ (some 8) rfl rfl Try.func31 (by kernel_rfl) rfl #[.slice A0 l0.length c0, .agg #[.int .i64 a1_0, .int .i64 a1_1], .int .i64 1] rfl (by (try simp only [List.map_toArray, List.map_cons, List.map_nil]); first | done | rfl | (simp only [List.length_drop, List.length_take]; rfl)) ?_; (with_reducible refine (foolscapref5_may.calls _ _ l0 a1_0 a1_1 1 true _ ?side1 ?side2 A3.out).mono ?_); (case side1 => repeat (first | exact (Kd.C_below HR0.out HB.out) | (with_reducible refine Kd.C_alloc ?_ _) | (with_reducible refine Kd.C_drewN ?_ _) | (with_reducible refine Kd.C_drew ?_))); (case side2 => exact HC0.out); rintro e w10 ⟨rfl, hb⟩; refine ⟨_, rfl, ?_⟩; have n0_ := Aside0.mk (blk_below (g := gb334) (o := .cells #[.int .i64 a1_0, .int .i64 a1_1] 24 (0, 0)) (by exact BK334.out) hb); have n1_ := Aside0.mk (blk_below (g := gb335) (o := .cells #[.int .i64 0, .int .i64 0, .int .i64 0, .bool false, .int .i64 0] 33 (0, 0)) (by exact BK335.out) hb); have n2_ := Aside0.mk (below_step (by repeat (first | (with_reducible first | exact HB.out | apply below_alloc | apply pw_below_drewN | apply below_drew1 | refine below_set ?_ GE334.out | refine below_set ?_ GE335.out) | exact HB.out)) hb); clear BK334; clear BK335; clear HB; have BK334 := n0_; have BK335 := n1_; have HB := n2_; clear n0_ n1_ n2_; (try clear hb); (try clear hb2); (try clear hk); (try clear hi); have hcz11_0 : w10.cell? ⟨gb334, 0, none⟩ = some (.int .i64 a1_0) := (blk_cell BK334.out 0).trans rfl; have hcz11_1 : w10.cell? ⟨gb334, 1, none⟩ = some (.int .i64 a1_1) := (blk_cell BK334.out 1).trans rfl; have hfz11_0 := blk_frozen BK334.out 0; have hfz11_1 := blk_frozen BK334.out 1) | ((with_reducible refine gate_callee (f := 33) rfl ?_); refine goesL_ (some 15) rfl rfl Try.func33 (by kernel_rfl) rfl #[.int .i64 a1_0, .int .i64 0] rfl (by (try simp only [List.map_toArray, List.map_cons, List.map_nil]); first | done | rfl | (simp only [List.length_drop, List.length_take]; rfl)) ?_; (with_reducible refine (foolscapref5_to.calls a1_0 0 t337 t338 t339 t340 t341 t342 _ A5.out).mono ?_); rintro e w12 ⟨rfl, hb⟩; refine ⟨_, rfl, ?_⟩; have n0_ := Aside0.mk (blk_below (g := gb334) (o := .cells #[.int .i64 a1_0, .int .i64 a1_1] 24 (0, 0)) (by exact BK334.out) hb); have n1_ := Aside0.mk (blk_below (g := gb335) (o := .cells #[.int .i64 0, .int .i64 0, .int .i64 0, .bool false, .int .i64 0] 33 (0, 0)) (by exact BK335.out) hb); have n2_ := Aside0.mk (below_step (by repeat (first | (with_reducible first | exact HB.out | apply below_alloc | apply pw_below_drewN | apply below_drew1 | refine below_set ?_ GE334.out | refine below_set ?_ GE335.out) | exact HB.out)) hb); clear BK334; clear BK335; clear HB; have BK334 := n0_; have BK335 := n1_; have HB := n2_; clear n0_ n1_ n2_; (try clear hb); (try clear hb2); (try clear hk); (try clear hi); have hcz13_0 : w12.cell? ⟨gb335, 0, none⟩ = some (.int .i64 0) := (blk_cell BK335.out 0).trans rfl; have hcz13_1 : w12.cell? ⟨gb335, 1, none⟩ = some (.int .i64 0) := (blk_cell BK335.out 1).trans rfl; have hcz13_2 : w12.cell? ⟨gb335, 2, none⟩ = some (.int .i64 0) := (blk_cell BK335.out 2).trans rfl; have hcz13_3 : w12.cell? ⟨gb335, 3, none⟩ = some (.bool false) := (blk_cell BK335.out 3).trans rfl; have hcz13_4 : w12.cell? ⟨gb335, 4, none⟩ = some (.int .i64 0) := (blk_cell BK335.out 4).trans rfl; have hfz13_0 := blk_frozen BK335.out 0; have hfz13_1 := blk_frozen BK335.out 1; have hfz13_2 := blk_frozen BK335.out 2; have hfz13_3 := blk_frozen BK335.out 3; have hfz13_4 := blk_frozen BK335.out 4))
    refine bodyPost_ret (results_ct rfl _ _ gb335 33 #[.int .i64 t337, .int .i64 t338, .int .i64 t339, .bool t340, .int .i64 t341] (0, 0) _ rfl (by refine blk_put (cs := #[.int .i64 t337, .int .i64 t338, .int .i64 t339, .bool t340, .int .i64 0]) ?_ 4 _ rfl; refine blk_put (cs := #[.int .i64 t337, .int .i64 t338, .int .i64 t339, .bool false, .int .i64 0]) ?_ 3 _ rfl; refine blk_put (cs := #[.int .i64 t337, .int .i64 t338, .int .i64 0, .bool false, .int .i64 0]) ?_ 2 _ rfl; refine blk_put (cs := #[.int .i64 t337, .int .i64 0, .int .i64 0, .bool false, .int .i64 0]) ?_ 1 _ rfl; refine blk_put (cs := #[.int .i64 0, .int .i64 0, .int .i64 0, .bool false, .int .i64 0]) ?_ 0 _ rfl; exact BK335.out) Try.underlying33 rfl (by kernel_rfl)) rfl ?_
    exact ⟨by first | rfl | (simp [errW_none, errW_some] <;> rfl) | (simp [*, errW_none, errW_some] <;> rfl), by repeat (first | (with_reducible first | exact HB.out | apply below_alloc | apply pw_below_drewN | apply below_drew1 | refine below_set ?_ GE334.out | refine below_set ?_ GE335.out) | exact HB.out)⟩
  · replace c4 := Bool.eq_false_iff.mpr c4
    subst c4
    have H1 : ((foolscapref5_none.f).bind fun bt343 => (some (bt343.1, bt343.2.1, bt343.2.2.1, bt343.2.2.2.1, bt343.2.2.2.2.1, bt343.2.2.2.2.2))) = some (r1, r2, r3, r4, r5, r6) := by rw [if_neg (show ¬ (false = true) by decide)] at H; exact H
    clear H
    have H := H1
    clear H1
    replace H := Option.bind_eq_some_iff.mp H
    obtain ⟨⟨t343, t344, t345, t346, t347, t348⟩, A140, H⟩ := H
    replace H : (some (t343, t344, t345, t346, t347, t348)) = some (r1, r2, r3, r4, r5, r6) := H
    have A14 := Aside0.mk A140
    clear A140
    simp only [Option.some.injEq, Prod.mk.injEq] at H
    obtain ⟨rfl, rfl, rfl, rfl, rfl, rfl⟩ := H
    go_enter Try.func24, Try.ntmps24
    go_wp2_with (first | ((with_reducible refine gate_dst (N := 3) rfl ?_); refine box_event ?hg (N := 3) ?hd (cs := #[.int .i64 a1_0, .int .i64 a1_1]) (t := 24) ?hr ?_; (case hd => rfl); (case hg => rfl); (case hr => first | (go_simp; done) | (go_simp; rfl)); intro gb334 hg w15 hbox hb; have n0_ := Aside0.mk (below_step (by repeat (first | (with_reducible first | exact HB.out | apply below_alloc | apply pw_below_drewN | apply below_drew1) | exact HB.out)) hb); have n1_ := Aside0.mk (hbox); have n2_ := Aside0.mk ((by rw [hg]; exact (below_size (by repeat (first | (with_reducible first | exact HB.out | apply below_alloc | apply pw_below_drewN | apply below_drew1) | exact HB.out))) : w.heap.size ≤ gb334)); have n3_ := Aside0.mk ((by rw [hg]; exact (below_size (by repeat (first | (with_reducible first | exact HB.out | apply below_alloc | apply pw_below_drewN | apply below_drew1) | exact HB.out))) : w.heap.size ≤ gb334)); clear HB; have HB := n0_; have BK334 := n1_; have GW334 := n2_; have GE334 := n3_; clear n0_ n1_ n2_ n3_; clear hb hbox hg) | ((with_reducible refine gate_dst (N := 4) rfl ?_); refine box_event ?hg (N := 4) ?hd (cs := #[.int .i64 0, .int .i64 0, .int .i64 0, .bool false, .int .i64 0]) (t := 33) ?hr ?_; (case hd => rfl); (case hg => rfl); (case hr => first | (go_simp; done) | (go_simp; rfl)); intro gb335 hg w16 hbox hb; have n0_ := Aside0.mk (blk_below (g := gb334) (o := .cells #[.int .i64 a1_0, .int .i64 a1_1] 24 (0, 0)) (by exact BK334.out) hb); have n1_ := Aside0.mk (below_step (by repeat (first | (with_reducible first | exact HB.out | apply below_alloc | apply pw_below_drewN | apply below_drew1 | refine below_set ?_ GE334.out) | exact HB.out)) hb); have n2_ := Aside0.mk (hbox); have n3_ := Aside0.mk ((by rw [hg]; exact (below_size (by repeat (first | (with_reducible first | exact HB.out | apply below_alloc | apply pw_below_drewN | apply below_drew1 | refine below_set ?_ GE334.out) | exact HB.out))) : w.heap.size ≤ gb335)); have n4_ := Aside0.mk ((by rw [hg]; exact (below_size (by repeat (first | (with_reducible first | exact HB.out | apply below_alloc | apply pw_below_drewN | apply below_drew1 | refine below_set ?_ GE334.out) | exact HB.out))) : w.heap.size ≤ gb335)); have n5_ := Aside0.mk ((by rw [hg]; exact Nat.ne_of_lt (blk_lt (g := gb334) (o := .cells #[.int .i64 a1_0, .int .i64 a1_1] 24 (0, 0)) (by exact BK334.out)) : gb334 ≠ gb335)); have n6_ := Aside0.mk ((by rw [hg]; exact Nat.ne_of_gt (blk_lt (g := gb334) (o := .cells #[.int .i64 a1_0, .int .i64 a1_1] 24 (0, 0)) (by exact BK334.out)) : gb335 ≠ gb334)); clear BK334; clear HB; have BK334 := n0_; have HB := n1_; have BK335 := n2_; have GW335 := n3_; have GE335 := n4_; have NB334_335 := n5_; have NB335_334 := n6_; clear n0_ n1_ n2_ n3_ n4_ n5_ n6_; clear hb hbox hg; have hnb17 := NB334_335.out; have hnc17 := NB335_334.out; have hcz18_0 : w16.cell? ⟨gb334, 0, none⟩ = some (.int .i64 a1_0) := (blk_cell BK334.out 0).trans rfl; have hcz18_1 : w16.cell? ⟨gb334, 1, none⟩ = some (.int .i64 a1_1) := (blk_cell BK334.out 1).trans rfl; have hfz18_0 := blk_frozen BK334.out 0; have hfz18_1 := blk_frozen BK334.out 1) | ((with_reducible refine gate_callee (f := 31) rfl ?_); refine goesL_ (some 8) rfl rfl Try.func31 (by kernel_rfl) rfl #[.slice A0 l0.length c0, .agg #[.int .i64 a1_0, .int .i64 a1_1], .int .i64 1] rfl (by (try simp only [List.map_toArray, List.map_cons, List.map_nil]); first | done | rfl | (simp only [List.length_drop, List.length_take]; rfl)) ?_; (with_reducible refine (foolscapref5_may.calls _ _ l0 a1_0 a1_1 1 false _ ?side1 ?side2 A3.out).mono ?_); (case side1 => repeat (first | exact (Kd.C_below HR0.out HB.out) | (with_reducible refine Kd.C_alloc ?_ _) | (with_reducible refine Kd.C_drewN ?_ _) | (with_reducible refine Kd.C_drew ?_))); (case side2 => exact HC0.out); rintro e w19 ⟨rfl, hb⟩; refine ⟨_, rfl, ?_⟩; have n0_ := Aside0.mk (blk_below (g := gb334) (o := .cells #[.int .i64 a1_0, .int .i64 a1_1] 24 (0, 0)) (by exact BK334.out) hb); have n1_ := Aside0.mk (blk_below (g := gb335) (o := .cells #[.int .i64 0, .int .i64 0, .int .i64 0, .bool false, .int .i64 0] 33 (0, 0)) (by exact BK335.out) hb); have n2_ := Aside0.mk (below_step (by repeat (first | (with_reducible first | exact HB.out | apply below_alloc | apply pw_below_drewN | apply below_drew1 | refine below_set ?_ GE334.out | refine below_set ?_ GE335.out) | exact HB.out)) hb); clear BK334; clear BK335; clear HB; have BK334 := n0_; have BK335 := n1_; have HB := n2_; clear n0_ n1_ n2_; (try clear hb); (try clear hb2); (try clear hk); (try clear hi)) | ((with_reducible refine gate_callee (f := 32) rfl ?_); refine goesL_ (some 10) rfl rfl Try.func32 (by kernel_rfl) rfl #[] rfl (by (try simp only [List.map_toArray, List.map_cons, List.map_nil]); first | done | rfl | (simp only [List.length_drop, List.length_take]; rfl)) ?_; (with_reducible refine (foolscapref5_none.calls  t343 t344 t345 t346 t347 t348 _ A14.out).mono ?_); rintro e w20 ⟨rfl, hb⟩; refine ⟨_, rfl, ?_⟩; have n0_ := Aside0.mk (blk_below (g := gb334) (o := .cells #[.int .i64 a1_0, .int .i64 a1_1] 24 (0, 0)) (by exact BK334.out) hb); have n1_ := Aside0.mk (blk_below (g := gb335) (o := .cells #[.int .i64 0, .int .i64 0, .int .i64 0, .bool false, .int .i64 0] 33 (0, 0)) (by exact BK335.out) hb); have n2_ := Aside0.mk (below_step (by repeat (first | (with_reducible first | exact HB.out | apply below_alloc | apply pw_below_drewN | apply below_drew1 | refine below_set ?_ GE334.out | refine below_set ?_ GE335.out) | exact HB.out)) hb); clear BK334; clear BK335; clear HB; have BK334 := n0_; have BK335 := n1_; have HB := n2_; clear n0_ n1_ n2_; (try clear hb); (try clear hb2); (try clear hk); (try clear hi); have hcz21_0 : w20.cell? ⟨gb335, 0, none⟩ = some (.int .i64 0) := (blk_cell BK335.out 0).trans rfl; have hcz21_1 : w20.cell? ⟨gb335, 1, none⟩ = some (.int .i64 0) := (blk_cell BK335.out 1).trans rfl; have hcz21_2 : w20.cell? ⟨gb335, 2, none⟩ = some (.int .i64 0) := (blk_cell BK335.out 2).trans rfl; have hcz21_3 : w20.cell? ⟨gb335, 3, none⟩ = some (.bool false) := (blk_cell BK335.out 3).trans rfl; have hcz21_4 : w20.cell? ⟨gb335, 4, none⟩ = some (.int .i64 0) := (blk_cell BK335.out 4).trans rfl; have hfz21_0 := blk_frozen BK335.out 0; have hfz21_1 := blk_frozen BK335.out 1; have hfz21_2 := blk_frozen BK335.out 2; have hfz21_3 := blk_frozen BK335.out 3; have hfz21_4 := blk_frozen BK335.out 4))
    refine bodyPost_ret (results_ct rfl _ _ gb335 33 #[.int .i64 t343, .int .i64 t344, .int .i64 t345, .bool t346, .int .i64 t347] (0, 0) _ rfl (by refine blk_put (cs := #[.int .i64 t343, .int .i64 t344, .int .i64 t345, .bool t346, .int .i64 0]) ?_ 4 _ rfl; refine blk_put (cs := #[.int .i64 t343, .int .i64 t344, .int .i64 t345, .bool false, .int .i64 0]) ?_ 3 _ rfl; refine blk_put (cs := #[.int .i64 t343, .int .i64 t344, .int .i64 0, .bool false, .int .i64 0]) ?_ 2 _ rfl; refine blk_put (cs := #[.int .i64 t343, .int .i64 0, .int .i64 0, .bool false, .int .i64 0]) ?_ 1 _ rfl; refine blk_put (cs := #[.int .i64 0, .int .i64 0, .int .i64 0, .bool false, .int .i64 0]) ?_ 0 _ rfl; exact BK335.out) Try.underlying33 rfl (by kernel_rfl)) rfl ?_
    exact ⟨by first | rfl | (simp [errW_none, errW_some] <;> rfl) | (simp [*, errW_none, errW_some] <;> rfl), by repeat (first | (with_reducible first | exact HB.out | apply below_alloc | apply pw_below_drewN | apply below_drew1 | refine below_set ?_ GE334.out | refine below_set ?_ GE335.out) | exact HB.out)⟩

end Go.Proofs.Ytdiakjamahdcfaa.V
namespace Go.Proofs.Ytdiakjamahdcfaa.V
open Go.RowKit Go.Proofs.YtdiakjamahdcfaaW.PrintWords Go.Proofs.YtdiakjamahdcfaaW.PrintLast Go.Proofs.YtdiakjamahdcfaaW.PrintMore
attribute [local go_sem] max2_int min2_int max_two min_two max_three min_three max_four min_four   -- for this text's walks alone
set_option linter.unusedVariables false
set_option linter.unusedSimpArgs false

/-! ### class_Of: function 40 -/
mutual
def class_Of.j0 : Nat → Int → Bool → Bool → Option (Int)
  | 0, _, _, _ => none
  | k + 1, x0, x1, x5 => if x5 = true then (some 0) else (if x1 = true then (some 1) else (if x0 ≥ 97 then (class_Of.j1 k x0 (decide (x0 ≤ 122))) else (class_Of.j1 k x0 false)))
def class_Of.j1 : Nat → Int → Bool → Option (Int)
  | 0, _, _ => none
  | k + 1, x0, x14 => if x14 = true then (some 1) else (if x0 ≥ 65 then (class_Of.j2 k x0 (decide (x0 ≤ 90))) else (class_Of.j2 k x0 false))
def class_Of.j2 : Nat → Int → Bool → Option (Int)
  | 0, _, _ => none
  | k + 1, x0, x14 => if x14 = true then (some 1) else (if x0 ≥ 48 then (class_Of.j3 k x0 (decide (x0 ≤ 57))) else (class_Of.j3 k x0 false))
def class_Of.j3 : Nat → Int → Bool → Option (Int)
  | 0, _, _ => none
  | k + 1, x0, x14 => if x14 = true then (some 1) else (if x0 = 95 then (some 1) else (if x0 ≥ 128 then (some 1) else (some 2)))
end
def class_Of.f (k : Nat) (a0 : Int) (a1 : Bool) : Option (Int) := if a0 = 32 then (class_Of.j0 k a0 a1 true) else (class_Of.j0 k a0 a1 (a0 == 9))
theorem class_Of.mono_l : ∀ k, (∀ y0 y1 y2, LeO (class_Of.j0 k y0 y1 y2) (class_Of.j0 (k + 1) y0 y1 y2)) ∧ (∀ y0 y1, LeO (class_Of.j1 k y0 y1) (class_Of.j1 (k + 1) y0 y1)) ∧ (∀ y0 y1, LeO (class_Of.j2 k y0 y1) (class_Of.j2 (k + 1) y0 y1)) ∧ (∀ y0 y1, LeO (class_Of.j3 k y0 y1) (class_Of.j3 (k + 1) y0 y1))
  | 0 => ⟨fun _ _ _ r h => by simp [class_Of.j0] at h, fun _ _ r h => by simp [class_Of.j1] at h, fun _ _ r h => by simp [class_Of.j2] at h, fun _ _ r h => by simp [class_Of.j3] at h⟩
  | k + 1 => by
    obtain ⟨ih0, ih1, ih2, ih3⟩ := class_Of.mono_l k
    refine ⟨?_, ?_, ?_, ?_⟩
    · intro y0 y1 y2
      unfold class_Of.j0
      repeat' first
      | (with_reducible exact ih0 _ _ _)
      | (with_reducible exact ih1 _ _)
      | (with_reducible exact ih2 _ _)
      | (with_reducible exact ih3 _ _)
      | (with_reducible exact LeO.refl _)
      | (with_reducible exact LeO.none _)
      | (with_reducible refine LeO.ite ?_ ?_)
      | (with_reducible refine LeO.bind ?_ (fun _ => ?_))
      | exact ih0 _ _ _
      | exact ih1 _ _
      | exact ih2 _ _
      | exact ih3 _ _
      | exact LeO.none _
      | refine LeO.ite ?_ ?_
      | refine LeO.bind ?_ (fun _ => ?_)
    · intro y0 y1
      unfold class_Of.j1
      repeat' first
      | (with_reducible exact ih0 _ _ _)
      | (with_reducible exact ih1 _ _)
      | (with_reducible exact ih2 _ _)
      | (with_reducible exact ih3 _ _)
      | (with_reducible exact LeO.refl _)
      | (with_reducible exact LeO.none _)
      | (with_reducible refine LeO.ite ?_ ?_)
      | (with_reducible refine LeO.bind ?_ (fun _ => ?_))
      | exact ih0 _ _ _
      | exact ih1 _ _
      | exact ih2 _ _
      | exact ih3 _ _
      | exact LeO.none _
      | refine LeO.ite ?_ ?_
      | refine LeO.bind ?_ (fun _ => ?_)
    · intro y0 y1
      unfold class_Of.j2
      repeat' first
      | (with_reducible exact ih0 _ _ _)
      | (with_reducible exact ih1 _ _)
      | (with_reducible exact ih2 _ _)
      | (with_reducible exact ih3 _ _)
      | (with_reducible exact LeO.refl _)
      | (with_reducible exact LeO.none _)
      | (with_reducible refine LeO.ite ?_ ?_)
      | (with_reducible refine LeO.bind ?_ (fun _ => ?_))
      | exact ih0 _ _ _
      | exact ih1 _ _
      | exact ih2 _ _
      | exact ih3 _ _
      | exact LeO.none _
      | refine LeO.ite ?_ ?_
      | refine LeO.bind ?_ (fun _ => ?_)
    · intro y0 y1
      unfold class_Of.j3
      repeat' first
      | (with_reducible exact ih0 _ _ _)
      | (with_reducible exact ih1 _ _)
      | (with_reducible exact ih2 _ _)
      | (with_reducible exact ih3 _ _)
      | (with_reducible exact LeO.refl _)
      | (with_reducible exact LeO.none _)
      | (with_reducible refine LeO.ite ?_ ?_)
      | (with_reducible refine LeO.bind ?_ (fun _ => ?_))
      | exact ih0 _ _ _
      | exact ih1 _ _
      | exact ih2 _ _
      | exact ih3 _ _
      | exact LeO.none _
      | refine LeO.ite ?_ ?_
      | refine LeO.bind ?_ (fun _ => ?_)
theorem class_Of.mono : ∀ a0 a1 k, LeO (class_Of.f k a0 a1) (class_Of.f (k + 1) a0 a1) := by
  intro a0 a1 k
  obtain ⟨ih0, ih1, ih2, ih3⟩ := class_Of.mono_l k
  unfold class_Of.f
  repeat' first
      | (with_reducible exact ih0 _ _ _)
      | (with_reducible exact ih1 _ _)
      | (with_reducible exact ih2 _ _)
      | (with_reducible exact ih3 _ _)
      | (with_reducible exact LeO.refl _)
      | (with_reducible exact LeO.none _)
      | (with_reducible refine LeO.ite ?_ ?_)
      | (with_reducible refine LeO.bind ?_ (fun _ => ?_))
      | exact ih0 _ _ _
      | exact ih1 _ _
      | exact ih2 _ _
      | exact ih3 _ _
      | exact LeO.none _
      | refine LeO.ite ?_ ?_
      | refine LeO.bind ?_ (fun _ => ?_)
set_option maxHeartbeats 8000000 in
set_option maxRecDepth 100000 in
theorem class_Of.calls (k : Nat) (a0 : Int) (a1 : Bool) (r : Int) (w : World) (h : class_Of.f k a0 a1 = some r) :
    Calls Try.prog 40 #[.int .u8 a0, .bool a1] w fun e w' => e = .returned (.int .i64 r) ∧ Drawn0 w w' := by
  have H : (if a0 = 32 then (class_Of.j0 k a0 a1 true) else (class_Of.j0 k a0 a1 (a0 == 9))) = some r := h
  clear h
  have HC3 := Aside0.mk H
  clear H
  go_enter Try.func40, Try.ntmps40
  go_upto_region 1 with (fail)
  go_cut [5] (fun v5 wc => ∃ (kq : Nat) (x5_2 : Bool), v5 = .bool x5_2 ∧ Aside0 (class_Of.j0 kq a0 a1 x5_2 = some r) ∧ Aside0 (kq ≤ k) ∧ Drawn0 w wc)
  case first =>
    have H := HC3.out
    clear HC3
    by_cases c4 : a0 = 32
    · rw [if_pos c4] at H
      have c4b0 : (a0 == 32) = true := beq_iff_eq.mpr c4
      have c4b1 : (a0 != 32) = false := bne_eq_false_iff_eq.mpr c4
      clear c4
      (first | rw [c4b0] | (simp only [i64_w, i32_w]; rw [c4b0]) | skip)
      have H' := Aside0.mk H
      clear H
      go_wp2
      go_meet
      case rel => exact ⟨_, (true), (by first | rfl | (simp; done) | (simp [*]; done)), H', ⟨by first | omega | exact Nat.le_refl _⟩, by repeat (first | exact Drawn0.refl _ | apply Drawn0.step)⟩
    · rw [if_neg c4] at H
      have c4b0 : (a0 == 32) = false := beq_eq_false_iff_ne.mpr c4
      have c4b1 : (a0 != 32) = true := bne_iff_ne.mpr c4
      (first | rw [c4b0] | (simp only [i64_w, i32_w]; rw [c4b0]) | skip)
      have H' := Aside0.mk H
      clear H
      go_wp2
      go_meet
      case rel => exact ⟨_, ((a0 == 9)), (by first | rfl | (simp; done) | (simp [*]; done)), H', ⟨by first | omega | exact Nat.le_refl _⟩, by repeat (first | exact Drawn0.refl _ | apply Drawn0.step)⟩
  case rest =>
    clear HC3
    try clear p2
    try clear c4
    try clear c4b0
    try clear c4b1
    obtain ⟨kq, x5_2, rfl, HA, HJ2, ⟨mc2, rfl⟩⟩ := hcut
    cases kq with
    | zero => exact absurd HA.out (by simp [class_Of.j0])
    | succ kj2 =>
      have H := HA.out
      clear HA
      simp only [class_Of.j0] at H
      by_cases c5 : x5_2 = true
      · subst c5
        have H1 : (some 0) = some r := by rw [if_pos rfl] at H; exact H
        clear H
        have H := H1
        clear H1
        obtain rfl := Option.some.inj H
        go_wp2
        go_ret
        exact ⟨by first | rfl | (simp; done) | (simp [*]; done), by repeat (first | exact Drawn0.refl _ | apply Drawn0.step)⟩
      · replace c5 := Bool.eq_false_iff.mpr c5
        subst c5
        have H1 : (if a1 = true then (some 1) else (if a0 ≥ 97 then (class_Of.j1 kj2 a0 (decide (a0 ≤ 122))) else (class_Of.j1 kj2 a0 false))) = some r := by rw [if_neg (show ¬ (false = true) by decide)] at H; exact H
        clear H
        have H := H1
        clear H1
        by_cases c6 : a1 = true
        · subst c6
          have H1 : (some 1) = some r := by rw [if_pos rfl] at H; exact H
          clear H
          have H := H1
          clear H1
          obtain rfl := Option.some.inj H
          go_wp2
          go_ret
          exact ⟨by first | rfl | (simp; done) | (simp [*]; done), by repeat (first | exact Drawn0.refl _ | apply Drawn0.step)⟩
        · replace c6 := Bool.eq_false_iff.mpr c6
          subst c6
          have H1 : (if a0 ≥ 97 then (class_Of.j1 kj2 a0 (decide (a0 ≤ 122))) else (class_Of.j1 kj2 a0 false)) = some r := by rw [if_neg (show ¬ (false = true) by decide)] at H; exact H
          clear H
          have H := H1
          clear H1
          have HC7 := Aside0.mk H
          clear H
          go_upto_region 5 with (fail)
          go_cut [14] (fun v14 wc => ∃ (kq : Nat) (x14_6 : Bool), v14 = .bool x14_6 ∧ Aside0 (class_Of.j1 kq a0 x14_6 = some r) ∧ Aside0 (kq ≤ kj2) ∧ Drawn0 w wc)
          case first =>
            have H := HC7.out
            clear HC7
            by_cases c8 : a0 ≥ 97
            · rw [if_pos c8] at H
              have c8b0 : decide (97 ≤ a0) = true := decide_eq_true c8
              clear c8
              (first | rw [c8b0] | (simp only [i64_w, i32_w]; rw [c8b0]) | skip)
              have H' := Aside0.mk H
              clear H
              go_wp2
              go_meet
              case rel => exact ⟨_, (decide (a0 ≤ 122)), (by first | rfl | (simp; done) | (simp [*]; done)), H', ⟨by have := HJ2.out; first | omega | exact Nat.le_refl _⟩, by repeat (first | exact Drawn0.refl _ | apply Drawn0.step)⟩
            · rw [if_neg c8] at H
              have c8b0 : decide (97 ≤ a0) = false := decide_eq_false c8
              clear c8
              (first | rw [c8b0] | (simp only [i64_w, i32_w]; rw [c8b0]) | skip)
              have H' := Aside0.mk H
              clear H
              go_wp2
              go_meet
              case rel => exact ⟨_, (false), (by first | rfl | (simp; done) | (simp [*]; done)), H', ⟨by have := HJ2.out; first | omega | exact Nat.le_refl _⟩, by repeat (first | exact Drawn0.refl _ | apply Drawn0.step)⟩
          case rest =>
            clear HC7
            try clear c2
            try clear p2
            try clear c4
            try clear c4b0
            try clear c4b1
            try clear c5
            try clear c6
            try clear c8
            try clear c8b0
            try clear p2
            obtain ⟨kq, x14_6, rfl, HA, HJ6, ⟨mc6, rfl⟩⟩ := hcut
            cases kq with
            | zero => exact absurd HA.out (by simp [class_Of.j1])
            | succ kj6 =>
              have H := HA.out
              clear HA
              simp only [class_Of.j1] at H
              by_cases c9 : x14_6 = true
              · subst c9
                have H1 : (some 1) = some r := by rw [if_pos rfl] at H; exact H
                clear H
                have H := H1
                clear H1
                obtain rfl := Option.some.inj H
                go_wp2
                go_ret
                exact ⟨by first | rfl | (simp; done) | (simp [*]; done), by repeat (first | exact Drawn0.refl _ | apply Drawn0.step)⟩
              · replace c9 := Bool.eq_false_iff.mpr c9
                subst c9
                have H1 : (if a0 ≥ 65 then (class_Of.j2 kj6 a0 (decide (a0 ≤ 90))) else (class_Of.j2 kj6 a0 false)) = some r := by rw [if_neg (show ¬ (false = true) by decide)] at H; exact H
                clear H
                have H := H1
                clear H1
                have HC10 := Aside0.mk H
                clear H
                go_upto_region 6 with (fail)
                go_cut [14] (fun v14 wc => ∃ (kq : Nat) (x14_9 : Bool), v14 = .bool x14_9 ∧ Aside0 (class_Of.j2 kq a0 x14_9 = some r) ∧ Aside0 (kq ≤ kj6) ∧ Drawn0 w wc)
                case first =>
                  have H := HC10.out
                  clear HC10
                  by_cases c11 : a0 ≥ 65
                  · rw [if_pos c11] at H
                    have c11b0 : decide (65 ≤ a0) = true := decide_eq_true c11
                    clear c11
                    (first | rw [c11b0] | (simp only [i64_w, i32_w]; rw [c11b0]) | skip)
                    have H' := Aside0.mk H
                    clear H
                    go_wp2
                    go_meet
                    case rel => exact ⟨_, (decide (a0 ≤ 90)), (by first | rfl | (simp; done) | (simp [*]; done)), H', ⟨by have := HJ2.out; have := HJ6.out; first | omega | exact Nat.le_refl _⟩, by repeat (first | exact Drawn0.refl _ | apply Drawn0.step)⟩
                  · rw [if_neg c11] at H
                    have c11b0 : decide (65 ≤ a0) = false := decide_eq_false c11
                    clear c11
                    (first | rw [c11b0] | (simp only [i64_w, i32_w]; rw [c11b0]) | skip)
                    have H' := Aside0.mk H
                    clear H
                    go_wp2
                    go_meet
                    case rel => exact ⟨_, (false), (by first | rfl | (simp; done) | (simp [*]; done)), H', ⟨by have := HJ2.out; have := HJ6.out; first | omega | exact Nat.le_refl _⟩, by repeat (first | exact Drawn0.refl _ | apply Drawn0.step)⟩
                case rest =>
                  clear HC10
                  try clear c1
                  try clear c2
                  try clear p2
                  try clear c4
                  try clear c4b0
                  try clear c4b1
                  try clear c5
                  try clear c6
                  try clear c8
                  try clear c8b0
                  try clear c9
                  try clear c11
                  try clear c11b0
                  try clear p2
                  obtain ⟨kq, x14_9, rfl, HA, HJ9, ⟨mc9, rfl⟩⟩ := hcut
                  cases kq with
                  | zero => exact absurd HA.out (by simp [class_Of.j2])
                  | succ kj9 =>
                    have H := HA.out
                    clear HA
                    simp only [class_Of.j2] at H
                    by_cases c12 : x14_9 = true
                    · subst c12
                      have H1 : (some 1) = some r := by rw [if_pos rfl] at H; exact H
                      clear H
                      have H := H1
                      clear H1
                      obtain rfl := Option.some.inj H
                      go_wp2
                      go_ret
                      exact ⟨by first | rfl | (simp; done) | (simp [*]; done), by repeat (first | exact Drawn0.refl _ | apply Drawn0.step)⟩
                    · replace c12 := Bool.eq_false_iff.mpr c12
                      subst c12
                      have H1 : (if a0 ≥ 48 then (class_Of.j3 kj9 a0 (decide (a0 ≤ 57))) else (class_Of.j3 kj9 a0 false)) = some r := by rw [if_neg (show ¬ (false = true) by decide)] at H; exact H
                      clear H
                      have H := H1
                      clear H1
                      have HC13 := Aside0.mk H
                      clear H
                      go_upto_region 7 with (fail)
                      go_cut [14] (fun v14 wc => ∃ (kq : Nat) (x14_12 : Bool), v14 = .bool x14_12 ∧ Aside0 (class_Of.j3 kq a0 x14_12 = some r) ∧ Aside0 (kq ≤ kj9) ∧ Drawn0 w wc)
                      case first =>
                        have H := HC13.out
                        clear HC13
                        by_cases c14 : a0 ≥ 48
                        · rw [if_pos c14] at H
                          have c14b0 : decide (48 ≤ a0) = true := decide_eq_true c14
                          clear c14
                          (first | rw [c14b0] | (simp only [i64_w, i32_w]; rw [c14b0]) | skip)
                          have H' := Aside0.mk H
                          clear H
                          go_wp2
                          go_meet
                          case rel => exact ⟨_, (decide (a0 ≤ 57)), (by first | rfl | (simp; done) | (simp [*]; done)), H', ⟨by have := HJ2.out; have := HJ6.out; have := HJ9.out; first | omega | exact Nat.le_refl _⟩, by repeat (first | exact Drawn0.refl _ | apply Drawn0.step)⟩
                        · rw [if_neg c14] at H
                          have c14b0 : decide (48 ≤ a0) = false := decide_eq_false c14
                          clear c14
                          (first | rw [c14b0] | (simp only [i64_w, i32_w]; rw [c14b0]) | skip)
                          have H' := Aside0.mk H
                          clear H
                          go_wp2
                          go_meet
                          case rel => exact ⟨_, (false), (by first | rfl | (simp; done) | (simp [*]; done)), H', ⟨by have := HJ2.out; have := HJ6.out; have := HJ9.out; first | omega | exact Nat.le_refl _⟩, by repeat (first | exact Drawn0.refl _ | apply Drawn0.step)⟩
                      case rest =>
                        clear HC13
                        try clear c1
                        try clear c2
                        try clear p2
                        try clear c4
                        try clear c4b0
                        try clear c4b1
                        try clear c5
                        try clear c6
                        try clear c8
                        try clear c8b0
                        try clear c9
                        try clear c11
                        try clear c11b0
                        try clear c12
                        try clear c14
                        try clear c14b0
                        try clear p2
                        obtain ⟨kq, x14_12, rfl, HA, HJ12, ⟨mc12, rfl⟩⟩ := hcut
                        cases kq with
                        | zero => exact absurd HA.out (by simp [class_Of.j3])
                        | succ kj12 =>
                          have H := HA.out
                          clear HA
                          simp only [class_Of.j3] at H
                          by_cases c15 : x14_12 = true
                          · subst c15
                            have H1 : (some 1) = some r := by rw [if_pos rfl] at H; exact H
                            clear H
                            have H := H1
                            clear H1
                            obtain rfl := Option.some.inj H
                            go_wp2
                            go_ret
                            exact ⟨by first | rfl | (simp; done) | (simp [*]; done), by repeat (first | exact Drawn0.refl _ | apply Drawn0.step)⟩
                          · replace c15 := Bool.eq_false_iff.mpr c15
                            subst c15
                            have H1 : (if a0 = 95 then (some 1) else (if a0 ≥ 128 then (some 1) else (some 2))) = some r := by rw [if_neg (show ¬ (false = true) by decide)] at H; exact H
                            clear H
                            have H := H1
                            clear H1
                            by_cases c16 : a0 = 95
                            · rw [if_pos c16] at H
                              have c16b0 : (a0 == 95) = true := beq_iff_eq.mpr c16
                              have c16b1 : (a0 != 95) = false := bne_eq_false_iff_eq.mpr c16
                              clear c16
                              obtain rfl := Option.some.inj H
                              go_wp2
                              go_ret
                              exact ⟨by first | rfl | (simp; done) | (simp [*]; done), by repeat (first | exact Drawn0.refl _ | apply Drawn0.step)⟩
                            · rw [if_neg c16] at H
                              have c16b0 : (a0 == 95) = false := beq_eq_false_iff_ne.mpr c16
                              have c16b1 : (a0 != 95) = true := bne_iff_ne.mpr c16
                              by_cases c17 : a0 ≥ 128
                              · rw [if_pos c17] at H
                                have c17b0 : decide (128 ≤ a0) = true := decide_eq_true c17
                                clear c17
                                obtain rfl := Option.some.inj H
                                go_wp2
                                go_ret
                                exact ⟨by first | rfl | (simp; done) | (simp [*]; done), by repeat (first | exact Drawn0.refl _ | apply Drawn0.step)⟩
                              · rw [if_neg c17] at H
                                have c17b0 : decide (128 ≤ a0) = false := decide_eq_false c17
                                clear c17
                                obtain rfl := Option.some.inj H
                                go_wp2
                                go_ret
                                exact ⟨by first | rfl | (simp; done) | (simp [*]; done), by repeat (first | exact Drawn0.refl _ | apply Drawn0.step)⟩

end Go.Proofs.Ytdiakjamahdcfaa.V
namespace Go.Proofs.Ytdiakjamahdcfaa.V
open Go.RowKit Go.Proofs.YtdiakjamahdcfaaW.PrintWords Go.Proofs.YtdiakjamahdcfaaW.PrintLast Go.Proofs.YtdiakjamahdcfaaW.PrintMore
attribute [local go_sem] max2_int min2_int max_two min_two max_three min_three max_four min_four   -- for this text's walks alone
set_option linter.unusedVariables false
set_option linter.unusedSimpArgs false

/-! ### class_First: function 36 -/
def class_First.l0 : Nat → ByteArray → Int → Int → Option (Int)
  | 0, _, _, _ => none
  | k + 1, x0, x5, x6 => if x6 < x5 then (if 0 ≤ x6 then (if x6 < (x0.size : Int) then ((class_Of.f k (bt x0 x6) true).bind fun t349 => (if t349 = 0 then (class_First.l0 k x0 x5 (wrap64 (x6 + 1))) else (some x6))) else (none)) else (none)) else (some (mx (wrap64 ((x0.size : Int) - 1)) 0))
def class_First.f (k : Nat) (a0 : ByteArray) : Option (Int) := class_First.l0 k a0 (a0.size : Int) 0
theorem class_First.mono_l : ∀ k, (∀ y0 y1 y2, LeO (class_First.l0 k y0 y1 y2) (class_First.l0 (k + 1) y0 y1 y2))
  | 0 => fun _ _ _ r h => by simp [class_First.l0] at h
  | k + 1 => by
    have ih0 := class_First.mono_l k
    · intro y0 y1 y2
      unfold class_First.l0
      repeat' first
      | (with_reducible exact ih0 _ _ _)
      | (with_reducible exact class_Of.mono _ _ _)
      | (with_reducible exact LeO.refl _)
      | (with_reducible exact LeO.none _)
      | (with_reducible refine LeO.ite ?_ ?_)
      | (with_reducible refine LeO.bind ?_ (fun _ => ?_))
      | exact ih0 _ _ _
      | exact class_Of.mono _ _ _
      | exact LeO.none _
      | refine LeO.ite ?_ ?_
      | refine LeO.bind ?_ (fun _ => ?_)
theorem class_First.mono : ∀ a0 k, LeO (class_First.f k a0) (class_First.f (k + 1) a0) := by
  intro a0 k
  have ih0 := class_First.mono_l k
  unfold class_First.f
  repeat' first
      | (with_reducible exact ih0 _ _ _)
      | (with_reducible exact class_Of.mono _ _ _)
      | (with_reducible exact LeO.refl _)
      | (with_reducible exact LeO.none _)
      | (with_reducible refine LeO.ite ?_ ?_)
      | (with_reducible refine LeO.bind ?_ (fun _ => ?_))
      | exact ih0 _ _ _
      | exact class_Of.mono _ _ _
      | exact LeO.none _
      | refine LeO.ite ?_ ?_
      | refine LeO.bind ?_ (fun _ => ?_)
set_option maxHeartbeats 8000000 in
set_option maxRecDepth 100000 in
theorem class_First.calls (k : Nat) (a0 : ByteArray) (r : Int) (w : World) (h : class_First.f k a0 = some r) :
    Calls Try.prog 36 #[.string a0] w fun e w' => e = .returned (.int .i64 r) ∧ Below w.heap.size w w' := by
  have HB := Aside0.mk (Below.refl w.heap.size w)
  have H : (class_First.l0 k a0 (a0.size : Int) 0) = some r := h
  clear h
  have H' := Aside0.mk H
  clear H
  go_enter Try.func36, Try.ntmps36
  go_wp2
  go_loopg [6] k (fun kq v6 w' => ∃ (x6_1 : Int), v6 = .int .i64 x6_1 ∧ Aside0 (class_First.l0 kq a0 (a0.size : Int) x6_1 = some r) ∧ Aside0 (kq ≤ k) ∧ Aside0 (Below w.heap.size w w'))
  case atStart => exact ⟨(0), (by first | rfl | (simp; done) | (simp [*]; done)), H', ⟨Nat.le_refl _⟩, ⟨by repeat (first | (with_reducible first | exact HB.out | apply below_alloc | apply pw_below_drewN | apply below_drew1) | exact HB.out)⟩⟩
  case round =>
    clear H'
    obtain ⟨x6_1, rfl, HA, HK1, HB⟩ := hrel
    cases gk with
    | zero => exact absurd HA.out (by simp [class_First.l0])
    | succ k1 =>
      have H := HA.out
      clear HA
      simp only [class_First.l0] at H
      by_cases c2 : x6_1 < (a0.size : Int)
      · rw [if_pos c2] at H
        have c2b0 : decide (x6_1 < (a0.size : Int)) = true := decide_eq_true c2
        clear c2
        by_cases c3 : 0 ≤ x6_1
        · rw [if_pos c3] at H
          have c3b0 : decide (0 ≤ x6_1) = true := decide_eq_true c3
          clear c3
          by_cases c4 : x6_1 < (a0.size : Int)
          · rw [if_pos c4] at H
            have c4b0 : decide (x6_1 < (a0.size : Int)) = true := decide_eq_true c4
            clear c4
            replace H := Option.bind_eq_some_iff.mp H
            obtain ⟨t349, A60, H⟩ := H
            replace H : (if t349 = 0 then (class_First.l0 k1 a0 (a0.size : Int) (wrap64 (x6_1 + 1))) else (some x6_1)) = some r := H
            have A6 := Aside0.mk A60
            clear A60
            by_cases c7 : t349 = 0
            · rw [if_pos c7] at H
              have c7b0 : (t349 == 0) = true := beq_iff_eq.mpr c7
              have c7b1 : (t349 != 0) = false := bne_eq_false_iff_eq.mpr c7
              clear c7
              have H' := Aside0.mk H
              clear H
              have p5 : 0 ≤ (x6_1 : Int) := of_decide_eq_true (by first | (with_reducible assumption) | assumption)
              have q5 : x6_1 < (a0.size : Int) := of_decide_eq_true (by first | (with_reducible assumption) | assumption)
              have hx5 := bt_at a0 x6_1
              replace p5 := eq_true p5
              replace q5 := eq_true q5
              go_wp2_with (first | ((with_reducible refine gate_callee (f := 40) rfl ?_); refine goesL_ (some 12) rfl rfl Try.func40 (by kernel_rfl) rfl #[.int .u8 (bt a0 x6_1), .bool true] rfl (by (try simp only [List.map_toArray, List.map_cons, List.map_nil]); first | done | rfl | (simp only [List.length_drop, List.length_take]; rfl)) ?_; (with_reducible refine (class_Of.calls k1 (bt a0 x6_1) true t349 _ A6.out).mono ?_); rintro e w' ⟨rfl, ⟨nd, rfl⟩⟩; refine ⟨_, rfl, ?_⟩))
              go_roundg k1
              case measure => have := HK1.out; omega
              case rel => exact ⟨(wrap64 (x6_1 + 1)), (by first | rfl | (simp; done) | (simp [*]; done)), H', ⟨by have := HK1.out; omega⟩, ⟨by repeat (first | (with_reducible first | exact HB.out | apply below_alloc | apply pw_below_drewN | apply below_drew1) | exact HB.out)⟩⟩
            · rw [if_neg c7] at H
              have c7b0 : (t349 == 0) = false := beq_eq_false_iff_ne.mpr c7
              have c7b1 : (t349 != 0) = true := bne_iff_ne.mpr c7
              obtain rfl := Option.some.inj H
              have p5 : 0 ≤ (x6_1 : Int) := of_decide_eq_true (by first | (with_reducible assumption) | assumption)
              have q5 : x6_1 < (a0.size : Int) := of_decide_eq_true (by first | (with_reducible assumption) | assumption)
              have hx5 := bt_at a0 x6_1
              replace p5 := eq_true p5
              replace q5 := eq_true q5
              go_wp2_with (first | ((with_reducible refine gate_callee (f := 40) rfl ?_); refine goesL_ (some 12) rfl rfl Try.func40 (by kernel_rfl) rfl #[.int .u8 (bt a0 x6_1), .bool true] rfl (by (try simp only [List.map_toArray, List.map_cons, List.map_nil]); first | done | rfl | (simp only [List.length_drop, List.length_take]; rfl)) ?_; (with_reducible refine (class_Of.calls k1 (bt a0 x6_1) true t349 _ A6.out).mono ?_); rintro e w' ⟨rfl, ⟨nd, rfl⟩⟩; refine ⟨_, rfl, ?_⟩))
              go_ret
              exact ⟨by first | rfl | (simp [errW_none, errW_some] <;> rfl) | (simp [*, errW_none, errW_some] <;> rfl), by repeat (first | (with_reducible first | exact HB.out | apply below_alloc | apply pw_below_drewN | apply below_drew1) | exact HB.out)⟩
          · rw [if_neg c4] at H
            exact absurd H (by simp)
        · rw [if_neg c3] at H
          exact absurd H (by simp)
      · rw [if_neg c2] at H
        have c2b0 : decide (x6_1 < (a0.size : Int)) = false := decide_eq_false c2
        clear c2
        obtain ⟨ji8, hji8⟩ : ∃ j_ : Int, (mx (wrap64 ((a0.size : Int) - 1)) 0) = j_ := ⟨_, rfl⟩
        replace H : (some ji8) = some r := by first | (rw [hji8] at H; exact H) | (simp only [hji8] at H ⊢; exact H)
        (try (have hji8l : 0 ≤ ji8 := by (rw [← hji8]; unfold mx; (repeat' split) <;> omega)))
        (try (have hji8m : 0 ≤ ji8 := by omega))
        have hji8_ : (if (wrap64 ((a0.size : Int) - 1)) < 0 then 0 else (wrap64 ((a0.size : Int) - 1))) = ji8 := hji8
        obtain rfl := Option.some.inj H
        go_wp2
        go_ret
        exact ⟨by first | rfl | (simp [errW_none, errW_some] <;> rfl) | (simp only [← hji8]; first | rfl | (simp [errW_none, errW_some] <;> rfl)) | (simp [*, errW_none, errW_some] <;> rfl), by repeat (first | (with_reducible first | exact HB.out | apply below_alloc | apply pw_below_drewN | apply below_drew1) | exact HB.out)⟩

end Go.Proofs.Ytdiakjamahdcfaa.V
namespace Go.Proofs.Ytdiakjamahdcfaa.V
open Go.RowKit Go.Proofs.YtdiakjamahdcfaaW.PrintWords Go.Proofs.YtdiakjamahdcfaaW.PrintLast Go.Proofs.YtdiakjamahdcfaaW.PrintMore
attribute [local go_sem] max2_int min2_int max_two min_two max_three min_three max_four min_four   -- for this text's walks alone
set_option linter.unusedVariables false
set_option linter.unusedSimpArgs false

/-! ### chars_First: function 25 -/
def chars_First.f (k : Nat) (l0 : List ByteArray) (a1_0 : Int) (a1_1 : Int) : Option (Int × Int × Int × Bool × Int × Bool) := (chars_fails.f l0 a1_0 a1_1 1).bind fun t352 => (if t352 = true then (some (0, 0, 0, false, 0, false)) else (if 0 ≤ a1_0 then (if a1_0 < (l0.length : Int) then ((class_First.f k (rdOf ByteArray.empty l0 a1_0)).bind fun t354 => ((chars_to.f a1_0 a1_1 t354).bind fun bt355 => (some (bt355.1, bt355.2.1, bt355.2.2.1, bt355.2.2.2.1, bt355.2.2.2.2.1, bt355.2.2.2.2.2)))) else (none)) else (none)))
theorem chars_First.mono : ∀ a0 a1 a2 k, LeO (chars_First.f k a0 a1 a2) (chars_First.f (k + 1) a0 a1 a2) := by
  intro a0 a1 a2 k
  unfold chars_First.f
  repeat' first
      | (with_reducible exact class_First.mono _ _)
      | (with_reducible exact LeO.refl _)
      | (with_reducible exact LeO.none _)
      | (with_reducible refine LeO.ite ?_ ?_)
      | (with_reducible refine LeO.bind ?_ (fun _ => ?_))
      | exact class_First.mono _ _
      | exact LeO.none _
      | refine LeO.ite ?_ ?_
      | refine LeO.bind ?_ (fun _ => ?_)
def chars_First.T3 : Bool × List (List Nat × List Nat) := (true, [([], []), ([], []), ([], []), ([2], [2]), ([1, 3], [1, 3]), ([4], [4]), ([5], [5]), ([0, 6, 6], [0, 6]), ([7], [7]), ([7], [7]), ([8, 7, 0, 1, 2, 3, 4, 5, 6, 7, 8, 9], [8]), ([9, 10, 0, 1, 2, 3, 4, 5, 6, 7, 8, 9, 10], [9])])
def chars_First.B3 : List Nat := [0, 0, 0, 4, 14, 30, 62, 127, 255, 255, 1023, 2047]
theorem chars_First.tab3 : rtab .any (opsOf Try.f25 3) = chars_First.T3 := by kernel_rfl
theorem chars_First.bits3 : waitsOk chars_First.T3.2 chars_First.B3 = true := by kernel_rfl
set_option maxHeartbeats 8000000 in
set_option maxRecDepth 100000 in
theorem chars_First.calls (k : Nat) (A0 : Option Addr) (c0 : Nat) (l0 : List ByteArray) (a1_0 : Int) (a1_1 : Int) (r1 : Int) (r2 : Int) (r3 : Int) (r4 : Bool) (r5 : Int) (r6 : Bool) (w : World) (hr0 : Kd.C Kd.string w A0 l0.length l0) (hc0 : l0.length ≤ c0) (h : chars_First.f k l0 a1_0 a1_1 = some (r1, r2, r3, r4, r5, r6)) :
    Calls Try.prog 25 #[.slice A0 l0.length c0, .agg #[.int .i64 a1_0, .int .i64 a1_1]] w fun e w' => e = .returned (.tuple #[.agg #[.int .i64 r1, .int .i64 r2, .int .i64 r3, .bool r4, .int .i64 r5], .bool r6]) ∧ Below w.heap.size w w' := by
  have hu24 := Try.underlying24
  have hu33 := Try.underlying33
  have HR0 := Aside0.mk hr0
  have HC0 := Aside0.mk hc0
  clear hr0 hc0
  have HB := Aside0.mk (Below.refl w.heap.size w)
  have H : ((chars_fails.f l0 a1_0 a1_1 1).bind fun t352 => (if t352 = true then (some (0, 0, 0, false, 0, false)) else (if 0 ≤ a1_0 then (if a1_0 < (l0.length : Int) then ((class_First.f k (rdOf ByteArray.empty l0 a1_0)).bind fun t354 => ((chars_to.f a1_0 a1_1 t354).bind fun bt355 => (some (bt355.1, bt355.2.1, bt355.2.2.1, bt355.2.2.2.1, bt355.2.2.2.2.1, bt355.2.2.2.2.2)))) else (none)) else (none)))) = some (r1, r2, r3, r4, r5, r6) := h
  clear h
  replace H := Option.bind_eq_some_iff.mp H
  obtain ⟨t352, A30, H⟩ := H
  replace H : (if t352 = true then (some (0, 0, 0, false, 0, false)) else (if 0 ≤ a1_0 then (if a1_0 < (l0.length : Int) then ((class_First.f k (rdOf ByteArray.empty l0 a1_0)).bind fun t354 => ((chars_to.f a1_0 a1_1 t354).bind fun bt355 => (some (bt355.1, bt355.2.1, bt355.2.2.1, bt355.2.2.2.1, bt355.2.2.2.2.1, bt355.2.2.2.2.2)))) else (none)) else (none))) = some (r1, r2, r3, r4, r5, r6) := H
  have A3 := Aside0.mk A30
  clear A30
  by_cases c4 : t352 = true
  · subst c4
    have H1 : (some (0, 0, 0, false, 0, false)) = some (r1, r2, r3, r4, r5, r6) := by rw [if_pos rfl] at H; exact H
    clear H
    have H := H1
    clear H1
    simp only [Option.some.injEq, Prod.mk.injEq] at H
    obtain ⟨rfl, rfl, rfl, rfl, rfl, rfl⟩ := H
    go_enter Try.func25, Try.ntmps25
    go_wp2_with (first | ((with_reducible refine gate_dst (N := 3) rfl ?_); refine box_event ?hg (N := 3) ?hd (cs := #[.int .i64 a1_0, .int .i64 a1_1]) (t := 24) ?hr ?_; (case hd => rfl); (case hg => rfl); (case hr => first | (go_simp; done) | (go_simp; rfl)); intro gb350 hg w5 hbox hb; have n0_ := Aside0.mk (below_step (by repeat (first | (with_reducible first | exact HB.out | apply below_alloc | apply pw_below_drewN | apply below_drew1) | exact HB.out)) hb); have n1_ := Aside0.mk (hbox); have n2_ := Aside0.mk ((by rw [hg]; exact (below_size (by repeat (first | (with_reducible first | exact HB.out | apply below_alloc | apply pw_below_drewN | apply below_drew1) | exact HB.out))) : w.heap.size ≤ gb350)); have n3_ := Aside0.mk ((by rw [hg]; exact (below_size (by repeat (first | (with_reducible first | exact HB.out | apply below_alloc | apply pw_below_drewN | apply below_drew1) | exact HB.out))) : w.heap.size ≤ gb350)); clear HB; have HB := n0_; have BK350 := n1_; have GW350 := n2_; have GE350 := n3_; clear n0_ n1_ n2_ n3_; clear hb hbox hg) | ((with_reducible refine gate_dst (N := 4) rfl ?_); refine box_event ?hg (N := 4) ?hd (cs := #[.int .i64 0, .int .i64 0, .int .i64 0, .bool false, .int .i64 0]) (t := 33) ?hr ?_; (case hd => rfl); (case hg => rfl); (case hr => first | (go_simp; done) | (go_simp; rfl)); intro gb351 hg w6 hbox hb; have n0_ := Aside0.mk (blk_below (g := gb350) (o := .cells #[.int .i64 a1_0, .int .i64 a1_1] 24 (0, 0)) (by exact BK350.out) hb); have n1_ := Aside0.mk (below_step (by repeat (first | (with_reducible first | exact HB.out | apply below_alloc | apply pw_below_drewN | apply below_drew1 | refine below_set ?_ GE350.out) | exact HB.out)) hb); have n2_ := Aside0.mk (hbox); have n3_ := Aside0.mk ((by rw [hg]; exact (below_size (by repeat (first | (with_reducible first | exact HB.out | apply below_alloc | apply pw_below_drewN | apply below_drew1 | refine below_set ?_ GE350.out) | exact HB.out))) : w.heap.size ≤ gb351)); have n4_ := Aside0.mk ((by rw [hg]; exact (below_size (by repeat (first | (with_reducible first | exact HB.out | apply below_alloc | apply pw_below_drewN | apply below_drew1 | refine below_set ?_ GE350.out) | exact HB.out))) : w.heap.size ≤ gb351)); have n5_ := Aside0.mk ((by rw [hg]; exact Nat.ne_of_lt (blk_lt (g := gb350) (o := .cells #[.int .i64 a1_0, .int .i64 a1_1] 24 (0, 0)) (by exact BK350.out)) : gb350 ≠ gb351)); have n6_ := Aside0.mk ((by rw [hg]; exact Nat.ne_of_gt (blk_lt (g := gb350) (o := .cells #[.int .i64 a1_0, .int .i64 a1_1] 24 (0, 0)) (by exact BK350.out)) : gb351 ≠ gb350)); clear BK350; clear HB; have BK350 := n0_; have HB := n1_; have BK351 := n2_; have GW351 := n3_; have GE351 := n4_; have NB350_351 := n5_; have NB351_350 := n6_; clear n0_ n1_ n2_ n3_ n4_ n5_ n6_; clear hb hbox hg; have hnb7 := NB350_351.out; have hnc7 := NB351_350.out; have hcz8_0 : w6.cell? ⟨gb350, 0, none⟩ = some (.int .i64 a1_0) := (blk_cell BK350.out 0).trans rfl; have hcz8_1 : w6.cell? ⟨gb350, 1, none⟩ = some (.int .i64 a1_1) := (blk_cell BK350.out 1).trans rfl; have hfz8_0 := blk_frozen BK350.out 0; have hfz8_1 := blk_frozen BK350.out 1) | ((with_reducible refine gate_callee (f := 28) rfl ?_); refine goesL_ (some 8) rfl rfl Try.func28 (by kernel_rfl) rfl #[.slice A0 l0.length c0, .agg #[.int .i64 a1_0, .int .i64 a1_1], .int .i64 1] rfl (by (try simp only [List.map_toArray, List.map_cons, List.map_nil]); first | done | rfl | (simp only [List.length_drop, List.length_take]; rfl)) ?_; (with_reducible refine (chars_fails.calls _ _ l0 a1_0 a1_1 1 true _ ?side1 ?side2 A3.out).mono ?_); (case side1 => repeat (first | exact (Kd.C_below HR0.out HB.out) | (with_reducible refine Kd.C_alloc ?_ _) | (with_reducible refine Kd.C_drewN ?_ _) | (with_reducible refine Kd.C_drew ?_))); (case side2 => exact HC0.out); rintro e w9 ⟨rfl, hb⟩; refine ⟨_, rfl, ?_⟩; have n0_ := Aside0.mk (blk_below (g := gb350) (o := .cells #[.int .i64 a1_0, .int .i64 a1_1] 24 (0, 0)) (by exact BK350.out) hb); have n1_ := Aside0.mk (blk_below (g := gb351) (o := .cells #[.int .i64 0, .int .i64 0, .int .i64 0, .bool false, .int .i64 0] 33 (0, 0)) (by exact BK351.out) hb); have n2_ := Aside0.mk (below_step (by repeat (first | (with_reducible first | exact HB.out | apply below_alloc | apply pw_below_drewN | apply below_drew1 | refine below_set ?_ GE350.out | refine below_set ?_ GE351.out) | exact HB.out)) hb); clear BK350; clear BK351; clear HB; have BK350 := n0_; have BK351 := n1_; have HB := n2_; clear n0_ n1_ n2_; (try clear hb); (try clear hb2); (try clear hk); (try clear hi); have hcz10_0 : w9.cell? ⟨gb351, 0, none⟩ = some (.int .i64 0) := (blk_cell BK351.out 0).trans rfl; have hcz10_1 : w9.cell? ⟨gb351, 1, none⟩ = some (.int .i64 0) := (blk_cell BK351.out 1).trans rfl; have hcz10_2 : w9.cell? ⟨gb351, 2, none⟩ = some (.int .i64 0) := (blk_cell BK351.out 2).trans rfl; have hcz10_3 : w9.cell? ⟨gb351, 3, none⟩ = some (.bool false) := (blk_cell BK351.out 3).trans rfl; have hcz10_4 : w9.cell? ⟨gb351, 4, none⟩ = some (.int .i64 0) := (blk_cell BK351.out 4).trans rfl; have hfz10_0 := blk_frozen BK351.out 0; have hfz10_1 := blk_frozen BK351.out 1; have hfz10_2 := blk_frozen BK351.out 2; have hfz10_3 := blk_frozen BK351.out 3; have hfz10_4 := blk_frozen BK351.out 4))
    refine bodyPost_ret (results_ct rfl _ _ gb351 33 #[.int .i64 0, .int .i64 0, .int .i64 0, .bool false, .int .i64 0] (0, 0) _ rfl (by refine blk_put (cs := #[.int .i64 0, .int .i64 0, .int .i64 0, .bool false, .int .i64 0]) ?_ 4 _ rfl; refine blk_put (cs := #[.int .i64 0, .int .i64 0, .int .i64 0, .bool false, .int .i64 0]) ?_ 3 _ rfl; refine blk_put (cs := #[.int .i64 0, .int .i64 0, .int .i64 0, .bool false, .int .i64 0]) ?_ 2 _ rfl; refine blk_put (cs := #[.int .i64 0, .int .i64 0, .int .i64 0, .bool false, .int .i64 0]) ?_ 1 _ rfl; refine blk_put (cs := #[.int .i64 0, .int .i64 0, .int .i64 0, .bool false, .int .i64 0]) ?_ 0 _ rfl; exact BK351.out) Try.underlying33 rfl (by kernel_rfl)) rfl ?_
    exact ⟨by first | rfl | (simp [errW_none, errW_some] <;> rfl) | (simp [*, errW_none, errW_some] <;> rfl), by repeat (first | (with_reducible first | exact HB.out | apply below_alloc | apply pw_below_drewN | apply below_drew1 | refine below_set ?_ GE350.out | refine below_set ?_ GE351.out) | exact HB.out)⟩
  · replace c4 := Bool.eq_false_iff.mpr c4
    subst c4
    have H1 : (if 0 ≤ a1_0 then (if a1_0 < (l0.length : Int) then ((class_First.f k (rdOf ByteArray.empty l0 a1_0)).bind fun t354 => ((chars_to.f a1_0 a1_1 t354).bind fun bt355 => (some (bt355.1, bt355.2.1, bt355.2.2.1, bt355.2.2.2.1, bt355.2.2.2.2.1, bt355.2.2.2.2.2)))) else (none)) else (none)) = some (r1, r2, r3, r4, r5, r6) := by rw [if_neg (show ¬ (false = true) by decide)] at H; exact H
    clear H
    have H := H1
    clear H1
    by_cases c11 : 0 ≤ a1_0
    · rw [if_pos c11] at H
      have c11b0 : decide (0 ≤ a1_0) = true := decide_eq_true c11
      clear c11
      by_cases c12 : a1_0 < (l0.length : Int)
      · rw [if_pos c12] at H
        have c12b0 : decide (a1_0 < (l0.length : Int)) = true := decide_eq_true c12
        clear c12
        replace H := Option.bind_eq_some_iff.mp H
        obtain ⟨t354, A130, H⟩ := H
        replace H : ((chars_to.f a1_0 a1_1 t354).bind fun bt355 => (some (bt355.1, bt355.2.1, bt355.2.2.1, bt355.2.2.2.1, bt355.2.2.2.2.1, bt355.2.2.2.2.2))) = some (r1, r2, r3, r4, r5, r6) := H
        have A13 := Aside0.mk A130
        clear A130
        replace H := Option.bind_eq_some_iff.mp H
        obtain ⟨⟨t355, t356, t357, t358, t359, t360⟩, A140, H⟩ := H
        replace H : (some (t355, t356, t357, t358, t359, t360)) = some (r1, r2, r3, r4, r5, r6) := H
        have A14 := Aside0.mk A140
        clear A140
        simp only [Option.some.injEq, Prod.mk.injEq] at H
        obtain ⟨rfl, rfl, rfl, rfl, rfl, rfl⟩ := H
        go_enter Try.func25, Try.ntmps25
        try go_wp2_with (first | ((with_reducible refine gate_dst (N := 3) rfl ?_); refine box_event ?hg (N := 3) ?hd (cs := #[.int .i64 a1_0, .int .i64 a1_1]) (t := 24) ?hr ?_; (case hd => rfl); (case hg => rfl); (case hr => first | (go_simp; done) | (go_simp; rfl)); intro gb350 hg w15 hbox hb; have n0_ := Aside0.mk (below_step (by repeat (first | (with_reducible first | exact HB.out | apply below_alloc | apply pw_below_drewN | apply below_drew1) | exact HB.out)) hb); have n1_ := Aside0.mk (hbox); have n2_ := Aside0.mk ((by rw [hg]; exact (below_size (by repeat (first | (with_reducible first | exact HB.out | apply below_alloc | apply pw_below_drewN | apply below_drew1) | exact HB.out))) : w.heap.size ≤ gb350)); have n3_ := Aside0.mk ((by rw [hg]; exact (below_size (by repeat (first | (with_reducible first | exact HB.out | apply below_alloc | apply pw_below_drewN | apply below_drew1) | exact HB.out))) : w.heap.size ≤ gb350)); clear HB; have HB := n0_; have BK350 := n1_; have GW350 := n2_; have GE350 := n3_; clear n0_ n1_ n2_ n3_; clear hb hbox hg) | ((with_reducible refine gate_dst (N := 4) rfl ?_); refine box_event ?hg (N := 4) ?hd (cs := #[.int .i64 0, .int .i64 0, .int .i64 0, .bool false, .int .i64 0]) (t := 33) ?hr ?_; (case hd => rfl); (case hg => rfl); (case hr => first | (go_simp; done) | (go_simp; rfl)); intro gb351 hg w16 hbox hb; have n0_ := Aside0.mk (blk_below (g := gb350) (o := .cells #[.int .i64 a1_0, .int .i64 a1_1] 24 (0, 0)) (by exact BK350.out) hb); have n1_ := Aside0.mk (below_step (by repeat (first | (with_reducible first | exact HB.out | apply below_alloc | apply pw_below_drewN | apply below_drew1 | refine below_set ?_ GE350.out) | exact HB.out)) hb); have n2_ := Aside0.mk (hbox); have n3_ := Aside0.mk ((by rw [hg]; exact (below_size (by repeat (first | (with_reducible first | exact HB.out | apply below_alloc | apply pw_below_drewN | apply below_drew1 | refine below_set ?_ GE350.out) | exact HB.out))) : w.heap.size ≤ gb351)); have n4_ := Aside0.mk ((by rw [hg]; exact (below_size (by repeat (first | (with_reducible first | exact HB.out | apply below_alloc | apply pw_below_drewN | apply below_drew1 | refine below_set ?_ GE350.out) | exact HB.out))) : w.heap.size ≤ gb351)); have n5_ := Aside0.mk ((by rw [hg]; exact Nat.ne_of_lt (blk_lt (g := gb350) (o := .cells #[.int .i64 a1_0, .int .i64 a1_1] 24 (0, 0)) (by exact BK350.out)) : gb350 ≠ gb351)); have n6_ := Aside0.mk ((by rw [hg]; exact Nat.ne_of_gt (blk_lt (g := gb350) (o := .cells #[.int .i64 a1_0, .int .i64 a1_1] 24 (0, 0)) (by exact BK350.out)) : gb351 ≠ gb350)); clear BK350; clear HB; have BK350 := n0_; have HB := n1_; have BK351 := n2_; have GW351 := n3_; have GE351 := n4_; have NB350_351 := n5_; have NB351_350 := n6_; clear n0_ n1_ n2_ n3_ n4_ n5_ n6_; clear hb hbox hg; have hnb17 := NB350_351.out; have hnc17 := NB351_350.out; have hcz18_0 : w16.cell? ⟨gb350, 0, none⟩ = some (.int .i64 a1_0) := (blk_cell BK350.out 0).trans rfl; have hcz18_1 : w16.cell? ⟨gb350, 1, none⟩ = some (.int .i64 a1_1) := (blk_cell BK350.out 1).trans rfl; have hfz18_0 := blk_frozen BK350.out 0; have hfz18_1 := blk_frozen BK350.out 1) | ((with_reducible refine gate_callee (f := 28) rfl ?_); refine goesL_ (some 8) rfl rfl Try.func28 (by kernel_rfl) rfl #[.slice A0 l0.length c0, .agg #[.int .i64 a1_0, .int .i64 a1_1], .int .i64 1] rfl (by (try simp only [List.map_toArray, List.map_cons, List.map_nil]); first | done | rfl | (simp only [List.length_drop, List.length_take]; rfl)) ?_; (with_reducible refine (chars_fails.calls _ _ l0 a1_0 a1_1 1 false _ ?side1 ?side2 A3.out).mono ?_); (case side1 => repeat (first | exact (Kd.C_below HR0.out HB.out) | (with_reducible refine Kd.C_alloc ?_ _) | (with_reducible refine Kd.C_drewN ?_ _) | (with_reducible refine Kd.C_drew ?_))); (case side2 => exact HC0.out); rintro e w19 ⟨rfl, hb⟩; refine ⟨_, rfl, ?_⟩; have n0_ := Aside0.mk (blk_below (g := gb350) (o := .cells #[.int .i64 a1_0, .int .i64 a1_1] 24 (0, 0)) (by exact BK350.out) hb); have n1_ := Aside0.mk (blk_below (g := gb351) (o := .cells #[.int .i64 0, .int .i64 0, .int .i64 0, .bool false, .int .i64 0] 33 (0, 0)) (by exact BK351.out) hb); have n2_ := Aside0.mk (below_step (by repeat (first | (with_reducible first | exact HB.out | apply below_alloc | apply pw_below_drewN | apply below_drew1 | refine below_set ?_ GE350.out | refine below_set ?_ GE351.out) | exact HB.out)) hb); clear BK350; clear BK351; clear HB; have BK350 := n0_; have BK351 := n1_; have HB := n2_; clear n0_ n1_ n2_; (try clear hb); (try clear hb2); (try clear hk); (try clear hi)))
        have n0_ := Aside0.mk (blk_drew BK350.out)
        have n1_ := Aside0.mk (blk_drew BK351.out)
        have n2_ := Aside0.mk (below_drew1 HB.out)
        clear BK350
        clear BK351
        clear HB
        have BK350 := n0_
        have BK351 := n1_
        have HB := n2_
        clear n0_ n1_ n2_
        have p353 : 0 ≤ (a1_0 : Int) := of_decide_eq_true (by first | (with_reducible assumption) | assumption)
        have q353 : a1_0 < (l0.length : Int) := of_decide_eq_true (by first | (with_reducible assumption) | assumption)
        obtain ⟨ad353, e353, hx353_0⟩ := Kd.at_string HR0.out a1_0 p353 q353
        have hw353_0 := hx353_0
        cases e353
        replace hx353_0 := (HB.out.cell (World.block_lt_of_cell? w _ hx353_0)).trans hx353_0
        replace p353 := eq_true p353
        replace q353 := eq_true q353
        refine start_ (n := 12) (S := fun w' => w'.cell? ⟨gb350, 0, none⟩ = some (.int .i64 a1_0) ∧ w'.cell? ⟨gb350, 1, none⟩ = some (.int .i64 a1_1) ∧ w'.cell? (ad353.add (a1_0).toNat) = some (.string (rdOf ByteArray.empty l0 a1_0))) (ds := []) #[false, false, false, false, false, false, false, false, false, false, false, false] (by kernel_rfl) rfl rfl ⟨(blk_cell BK350.out 0).trans rfl, (blk_cell BK350.out 1).trans rfl, ((HB.out.cell (World.block_lt_of_cell? w _ hw353_0)).trans hw353_0)⟩ (fun hHeld => ?_); refine with_tabW chars_First.tab3 chars_First.bits3 (fun HT_ HW_ => ?_)
        generalize w19.drew = w20 at BK350 BK351 HB hx353_0 hHeld ⊢
        refine pure_ (i := 1) (N := some 11) (v := ?_) (a' := ?_) #[false, true, false, false, false, false, false, false, false, false, false, false] rfl rfl (any_of HT_.out (by kernel_rfl)) (fun _ _ _ h => h) (Or.inl ⟨by rfl, ?_⟩) ?_ ?_
        rotate_left
        · intro w'
          go_simp
          with_reducible rfl
        rotate_left
        · simp only [Act.put, List.setIfInBounds_toArray, List.set_cons_zero, List.set_cons_succ, i64_w, i32_w]
          rfl
        refine pure_ (i := 2) (N := some 12) (v := ?_) (a' := ?_) #[false, true, true, false, false, false, false, false, false, false, false, false] rfl rfl (any_of HT_.out (by kernel_rfl)) (fun _ _ _ h => h) (Or.inl ⟨by rfl, ?_⟩) ?_ ?_
        rotate_left
        · intro w'
          go_simp
          with_reducible rfl
        rotate_left
        · simp only [Act.put, List.setIfInBounds_toArray, List.set_cons_zero, List.set_cons_succ, i64_w, i32_w]
          rfl
        refine take_ (i := 0) (N := some 10) (v := ?_) (a' := ?_) #[true, true, true, false, false, false, false, false, false, false, false, false] rfl rfl (take_ofW HT_.out HW_.out (by kernel_rfl)) (fun _ _ _ h => h) (Or.inl ⟨by rfl, ?_⟩) hHeld ?_ ?_
        rotate_left
        · rintro w' ⟨s0, s1, s2⟩
          go_simp
          with_reducible rfl
        rotate_left
        · simp only [Act.put, List.setIfInBounds_toArray, List.set_cons_zero, List.set_cons_succ, i64_w, i32_w]
          rfl
        refine take_ (i := 3) (N := some 13) (v := ?_) (a' := ?_) #[true, true, true, true, false, false, false, false, false, false, false, false] rfl rfl (take_ofW HT_.out HW_.out (by kernel_rfl)) (fun _ _ _ h => h) (Or.inl ⟨by rfl, ?_⟩) hHeld ?_ ?_
        rotate_left
        · rintro w' ⟨s0, s1, s2⟩
          go_simp
          with_reducible rfl
        rotate_left
        · simp only [Act.put, List.setIfInBounds_toArray, List.set_cons_zero, List.set_cons_succ, i64_w, i32_w]
          rfl
        refine pure_ (i := 4) (N := some 14) (v := ?_) (a' := ?_) #[true, true, true, true, true, false, false, false, false, false, false, false] rfl rfl (any_of HT_.out (by kernel_rfl)) (fun _ _ _ h => h) (Or.inl ⟨by rfl, ?_⟩) ?_ ?_
        rotate_left
        · intro w'
          go_simp
          with_reducible rfl
        rotate_left
        · simp only [Act.put, List.setIfInBounds_toArray, List.set_cons_zero, List.set_cons_succ, i64_w, i32_w]
          rfl
        refine take_ (i := 5) (N := some 15) (v := ?_) (a' := ?_) #[true, true, true, true, true, true, false, false, false, false, false, false] rfl rfl (take_ofW HT_.out HW_.out (by kernel_rfl)) (fun _ _ _ h => h) (Or.inl ⟨by rfl, ?_⟩) hHeld ?_ ?_
        rotate_left
        · rintro w' ⟨s0, s1, s2⟩
          go_simp
          with_reducible rfl
        rotate_left
        · simp only [Act.put, List.setIfInBounds_toArray, List.set_cons_zero, List.set_cons_succ, i64_w, i32_w]
          rfl
        refine one_ (i := 6) (N := some 16) #[true, true, true, true, true, true, true, false, false, false, false, false] rfl rfl (one_of HT_.out (by kernel_rfl)) (by decide) (fun K hK => ?_)
        refine goes_ Try.func36 (by kernel_rfl) rfl #[.string (rdOf ByteArray.empty l0 a1_0)] (by rfl) rfl rfl (by (try simp only [List.map_toArray, List.map_cons, List.map_nil]); first | done | rfl | (simp only [List.length_drop, List.length_take]; rfl)) ?_
        with_reducible refine (class_First.calls k (rdOf ByteArray.empty l0 a1_0) t354 _ A13.out).mono ?_
        rintro e w21 ⟨rfl, hb⟩
        refine ⟨_, rfl, ?_⟩
        have n0_ := Aside0.mk (blk_below (g := gb350) (o := .cells #[.int .i64 a1_0, .int .i64 a1_1] 24 (0, 0)) (by exact BK350.out) hb)
        have n1_ := Aside0.mk (blk_below (g := gb351) (o := .cells #[.int .i64 0, .int .i64 0, .int .i64 0, .bool false, .int .i64 0] 33 (0, 0)) (by exact BK351.out) hb)
        have n2_ := Aside0.mk (below_step (by repeat (first | (with_reducible first | exact HB.out | apply below_alloc | apply pw_below_drewN | apply below_drew1 | refine below_set ?_ GE350.out | refine below_set ?_ GE351.out) | exact HB.out)) hb)
        clear BK350
        clear BK351
        clear HB
        have BK350 := n0_
        have BK351 := n1_
        have HB := n2_
        clear n0_ n1_ n2_
        (try clear hb)
        (try clear hb2)
        (try clear hk)
        (try clear hi)
        refine hK.out _ _ ⟨(blk_cell BK350.out 0).trans rfl, (blk_cell BK350.out 1).trans rfl, ((HB.out.cell (World.block_lt_of_cell? w _ hw353_0)).trans hw353_0)⟩ (fun hHeld => ?_)
        clear hK K
        refine norm_ (a' := ?_) ?_ ?_
        rotate_left
        · show Act.put _ (some 16) _ = _
          simp only [Act.put, List.setIfInBounds_toArray, List.set_cons_zero, List.set_cons_succ, i64_w, i32_w]
          rfl
        refine one_ (i := 7) (N := some 17) #[true, true, true, true, true, true, true, true, false, false, false, false] rfl rfl (one_of HT_.out (by kernel_rfl)) (by decide) (fun K hK => ?_)
        refine goes_ Try.func30 (by kernel_rfl) rfl #[.agg #[.int .i64 a1_0, .int .i64 a1_1], .int .i64 t354] (by rfl) rfl rfl (by (try simp only [List.map_toArray, List.map_cons, List.map_nil]); first | done | rfl | (simp only [List.length_drop, List.length_take]; rfl)) ?_
        with_reducible refine (chars_to.calls a1_0 a1_1 t354 t355 t356 t357 t358 t359 t360 _ A14.out).mono ?_
        rintro e w22 ⟨rfl, hb⟩
        refine ⟨_, rfl, ?_⟩
        have n0_ := Aside0.mk (blk_below (g := gb350) (o := .cells #[.int .i64 a1_0, .int .i64 a1_1] 24 (0, 0)) (by exact BK350.out) hb)
        have n1_ := Aside0.mk (blk_below (g := gb351) (o := .cells #[.int .i64 0, .int .i64 0, .int .i64 0, .bool false, .int .i64 0] 33 (0, 0)) (by exact BK351.out) hb)
        have n2_ := Aside0.mk (below_step (by repeat (first | (with_reducible first | exact HB.out | apply below_alloc | apply pw_below_drewN | apply below_drew1 | refine below_set ?_ GE350.out | refine below_set ?_ GE351.out) | exact HB.out)) hb)
        clear BK350
        clear BK351
        clear HB
        have BK350 := n0_
        have BK351 := n1_
        have HB := n2_
        clear n0_ n1_ n2_
        (try clear hb)
        (try clear hb2)
        (try clear hk)
        (try clear hi)
        refine hK.out _ _ ⟨(blk_cell BK350.out 0).trans rfl, (blk_cell BK350.out 1).trans rfl, ((HB.out.cell (World.block_lt_of_cell? w _ hw353_0)).trans hw353_0)⟩ (fun hHeld => ?_)
        clear hK K
        refine norm_ (a' := ?_) ?_ ?_
        rotate_left
        · show Act.put _ (some 17) _ = _
          simp only [Act.put, List.setIfInBounds_toArray, List.set_cons_zero, List.set_cons_succ, i64_w, i32_w]
          rfl
        refine pure_ (i := 8) (N := some 18) (v := ?_) (a' := ?_) #[true, true, true, true, true, true, true, true, true, false, false, false] rfl rfl (any_of HT_.out (by kernel_rfl)) (fun _ _ _ h => h) (Or.inl ⟨by rfl, ?_⟩) ?_ ?_
        rotate_left
        · intro w'
          go_simp
          with_reducible rfl
        rotate_left
        · simp only [Act.put, List.setIfInBounds_toArray, List.set_cons_zero, List.set_cons_succ, i64_w, i32_w]
          rfl
        refine pure_ (i := 9) (N := some 19) (v := ?_) (a' := ?_) #[true, true, true, true, true, true, true, true, true, true, false, false] rfl rfl (any_of HT_.out (by kernel_rfl)) (fun _ _ _ h => h) (Or.inl ⟨by rfl, ?_⟩) ?_ ?_
        rotate_left
        · intro w'
          go_simp
          with_reducible rfl
        rotate_left
        · simp only [Act.put, List.setIfInBounds_toArray, List.set_cons_zero, List.set_cons_succ, i64_w, i32_w]
          rfl
        refine one_ (i := 10) (N := none) #[true, true, true, true, true, true, true, true, true, true, true, false] rfl rfl (one_of HT_.out (by kernel_rfl)) (by decide) (fun K hK => ?_)
        have hs23 : w22.cell? ⟨gb351, 0, none⟩ = some (.int .i64 0) := (blk_cell BK351.out 0).trans rfl
        have hfs23 := blk_frozen BK351.out 0
        have hns23_0 := NB350_351.out
        have hms23_0 := NB351_350.out
        have hs24 : w22.cell? ⟨gb351, 1, none⟩ = some (.int .i64 0) := (blk_cell BK351.out 1).trans rfl
        have hfs24 := blk_frozen BK351.out 1
        have hns24_0 := NB350_351.out
        have hms24_0 := NB351_350.out
        have hs25 : w22.cell? ⟨gb351, 2, none⟩ = some (.int .i64 0) := (blk_cell BK351.out 2).trans rfl
        have hfs25 := blk_frozen BK351.out 2
        have hns25_0 := NB350_351.out
        have hms25_0 := NB351_350.out
        have hs26 : w22.cell? ⟨gb351, 3, none⟩ = some (.bool false) := (blk_cell BK351.out 3).trans rfl
        have hfs26 := blk_frozen BK351.out 3
        have hns26_0 := NB350_351.out
        have hms26_0 := NB351_350.out
        have hs27 : w22.cell? ⟨gb351, 4, none⟩ = some (.int .i64 0) := (blk_cell BK351.out 4).trans rfl
        have hfs27 := blk_frozen BK351.out 4
        have hns27_0 := NB350_351.out
        have hms27_0 := NB351_350.out
        refine skip_ (w1 := ?_) (by rfl) rfl ?_ ?_
        rotate_left
        · go_simp
          rfl
        refine hK.out _ _ ⟨((cell_far (p := ⟨gb351, _, none⟩) NB350_351.out _).trans (((cell_far (p := ⟨gb351, _, none⟩) NB350_351.out _).trans (((cell_far (p := ⟨gb351, _, none⟩) NB350_351.out _).trans (((cell_far (p := ⟨gb351, _, none⟩) NB350_351.out _).trans (((cell_far (p := ⟨gb351, _, none⟩) NB350_351.out _).trans (hHeld.1)))))))))), ((cell_far (p := ⟨gb351, _, none⟩) NB350_351.out _).trans (((cell_far (p := ⟨gb351, _, none⟩) NB350_351.out _).trans (((cell_far (p := ⟨gb351, _, none⟩) NB350_351.out _).trans (((cell_far (p := ⟨gb351, _, none⟩) NB350_351.out _).trans (((cell_far (p := ⟨gb351, _, none⟩) NB350_351.out _).trans (hHeld.2.1)))))))))), ((cell_far (p := ⟨gb351, _, none⟩) (by first | exact Nat.ne_of_lt (Nat.lt_of_lt_of_le (by have := World.block_lt_of_cell? _ _ hw353_0; first | rwa [add_block] at this | exact this) GW351.out) | (rw [add_block]; exact Nat.ne_of_lt (Nat.lt_of_lt_of_le (by have := World.block_lt_of_cell? _ _ hw353_0; first | rwa [add_block] at this | exact this) GW351.out)) | (show (Addr.add _ _).block ≠ _; rw [add_block]; exact Nat.ne_of_lt (Nat.lt_of_lt_of_le (by have := World.block_lt_of_cell? _ _ hw353_0; first | rwa [add_block] at this | exact this) GW351.out)) | (dsimp only; exact Nat.ne_of_lt (Nat.lt_of_lt_of_le (by have := World.block_lt_of_cell? _ _ hw353_0; first | rwa [add_block] at this | exact this) GW351.out))) _).trans (((cell_far (p := ⟨gb351, _, none⟩) (by first | exact Nat.ne_of_lt (Nat.lt_of_lt_of_le (by have := World.block_lt_of_cell? _ _ hw353_0; first | rwa [add_block] at this | exact this) GW351.out) | (rw [add_block]; exact Nat.ne_of_lt (Nat.lt_of_lt_of_le (by have := World.block_lt_of_cell? _ _ hw353_0; first | rwa [add_block] at this | exact this) GW351.out)) | (show (Addr.add _ _).block ≠ _; rw [add_block]; exact Nat.ne_of_lt (Nat.lt_of_lt_of_le (by have := World.block_lt_of_cell? _ _ hw353_0; first | rwa [add_block] at this | exact this) GW351.out)) | (dsimp only; exact Nat.ne_of_lt (Nat.lt_of_lt_of_le (by have := World.block_lt_of_cell? _ _ hw353_0; first | rwa [add_block] at this | exact this) GW351.out))) _).trans (((cell_far (p := ⟨gb351, _, none⟩) (by first | exact Nat.ne_of_lt (Nat.lt_of_lt_of_le (by have := World.block_lt_of_cell? _ _ hw353_0; first | rwa [add_block] at this | exact this) GW351.out) | (rw [add_block]; exact Nat.ne_of_lt (Nat.lt_of_lt_of_le (by have := World.block_lt_of_cell? _ _ hw353_0; first | rwa [add_block] at this | exact this) GW351.out)) | (show (Addr.add _ _).block ≠ _; rw [add_block]; exact Nat.ne_of_lt (Nat.lt_of_lt_of_le (by have := World.block_lt_of_cell? _ _ hw353_0; first | rwa [add_block] at this | exact this) GW351.out)) | (dsimp only; exact Nat.ne_of_lt (Nat.lt_of_lt_of_le (by have := World.block_lt_of_cell? _ _ hw353_0; first | rwa [add_block] at this | exact this) GW351.out))) _).trans (((cell_far (p := ⟨gb351, _, none⟩) (by first | exact Nat.ne_of_lt (Nat.lt_of_lt_of_le (by have := World.block_lt_of_cell? _ _ hw353_0; first | rwa [add_block] at this | exact this) GW351.out) | (rw [add_block]; exact Nat.ne_of_lt (Nat.lt_of_lt_of_le (by have := World.block_lt_of_cell? _ _ hw353_0; first | rwa [add_block] at this | exact this) GW351.out)) | (show (Addr.add _ _).block ≠ _; rw [add_block]; exact Nat.ne_of_lt (Nat.lt_of_lt_of_le (by have := World.block_lt_of_cell? _ _ hw353_0; first | rwa [add_block] at this | exact this) GW351.out)) | (dsimp only; exact Nat.ne_of_lt (Nat.lt_of_lt_of_le (by have := World.block_lt_of_cell? _ _ hw353_0; first | rwa [add_block] at this | exact this) GW351.out))) _).trans (((cell_far (p := ⟨gb351, _, none⟩) (by first | exact Nat.ne_of_lt (Nat.lt_of_lt_of_le (by have := World.block_lt_of_cell? _ _ hw353_0; first | rwa [add_block] at this | exact this) GW351.out) | (rw [add_block]; exact Nat.ne_of_lt (Nat.lt_of_lt_of_le (by have := World.block_lt_of_cell? _ _ hw353_0; first | rwa [add_block] at this | exact this) GW351.out)) | (show (Addr.add _ _).block ≠ _; rw [add_block]; exact Nat.ne_of_lt (Nat.lt_of_lt_of_le (by have := World.block_lt_of_cell? _ _ hw353_0; first | rwa [add_block] at this | exact this) GW351.out)) | (dsimp only; exact Nat.ne_of_lt (Nat.lt_of_lt_of_le (by have := World.block_lt_of_cell? _ _ hw353_0; first | rwa [add_block] at this | exact this) GW351.out))) _).trans (hHeld.2.2))))))))))⟩ (fun hHeld => ?_)
        clear hK K
        refine pure_ (i := 11) (N := some 5) (v := ?_) (a' := ?_) #[true, true, true, true, true, true, true, true, true, true, true, true] rfl rfl (any_of HT_.out (by kernel_rfl)) (fun _ _ _ h => h) (Or.inl ⟨by rfl, ?_⟩) ?_ ?_
        rotate_left
        · intro w'
          go_simp
          with_reducible rfl
        rotate_left
        · simp only [Act.put, List.setIfInBounds_toArray, List.set_cons_zero, List.set_cons_succ, i64_w, i32_w]
          rfl
        refine done_ (done_of HT_.out (by kernel_rfl)) ?_
        try go_wp2
        refine bodyPost_ret (results_ct rfl _ _ gb351 33 #[.int .i64 t355, .int .i64 t356, .int .i64 t357, .bool t358, .int .i64 t359] (0, 0) _ rfl (by refine blk_put (cs := #[.int .i64 t355, .int .i64 t356, .int .i64 t357, .bool t358, .int .i64 0]) ?_ 4 _ rfl; refine blk_put (cs := #[.int .i64 t355, .int .i64 t356, .int .i64 t357, .bool false, .int .i64 0]) ?_ 3 _ rfl; refine blk_put (cs := #[.int .i64 t355, .int .i64 t356, .int .i64 0, .bool false, .int .i64 0]) ?_ 2 _ rfl; refine blk_put (cs := #[.int .i64 t355, .int .i64 0, .int .i64 0, .bool false, .int .i64 0]) ?_ 1 _ rfl; refine blk_put (cs := #[.int .i64 0, .int .i64 0, .int .i64 0, .bool false, .int .i64 0]) ?_ 0 _ rfl; exact BK351.out) Try.underlying33 rfl (by kernel_rfl)) rfl ?_
        exact ⟨by first | rfl | (simp [errW_none, errW_some] <;> rfl) | (simp [*, errW_none, errW_some] <;> rfl), by repeat (first | (with_reducible first | exact HB.out | apply below_alloc | apply pw_below_drewN | apply below_drew1 | refine below_set ?_ GE350.out | refine below_set ?_ GE351.out) | exact HB.out)⟩
      · rw [if_neg c12] at H
        exact absurd H (by simp)
    · rw [if_neg c11] at H
      exact absurd H (by simp)

end Go.Proofs.Ytdiakjamahdcfaa.V
namespace Go.Proofs.Ytdiakjamahdcfaa.V
open Go.RowKit Go.Proofs.YtdiakjamahdcfaaW.PrintWords Go.Proofs.YtdiakjamahdcfaaW.PrintLast Go.Proofs.YtdiakjamahdcfaaW.PrintMore
attribute [local go_sem] max2_int min2_int max_two min_two max_three min_three max_four min_four   -- for this text's walks alone
set_option linter.unusedVariables false
set_option linter.unusedSimpArgs false

/-! ### foolscapref5_Of: function 41 -/
def foolscapref5_Of.j0 : Nat → Int → Bool → Bool → Option (Int)
  | 0, _, _, _ => none
  | k + 1, x0, x1, x5 => if x5 = true then (some 0) else (if x1 = true then (some 1) else (if x0 ≥ 97 then (if x0 ≤ 122 then (some 1) else (if x0 ≥ 65 then (if x0 ≤ 90 then (some 1) else (if x0 ≥ 48 then (if x0 ≤ 57 then (some 1) else (if x0 = 95 then (some 1) else (if x0 ≥ 128 then (some 1) else (some 2)))) else (if x0 = 95 then (some 1) else (if x0 ≥ 128 then (some 1) else (some 2))))) else (if x0 ≥ 48 then (if x0 ≤ 57 then (some 1) else (if x0 = 95 then (some 1) else (if x0 ≥ 128 then (some 1) else (some 2)))) else (if x0 = 95 then (some 1) else (if x0 ≥ 128 then (some 1) else (some 2)))))) else (if x0 ≥ 65 then (if x0 ≤ 90 then (some 1) else (if x0 ≥ 48 then (if x0 ≤ 57 then (some 1) else (if x0 = 95 then (some 1) else (if x0 ≥ 128 then (some 1) else (some 2)))) else (if x0 = 95 then (some 1) else (if x0 ≥ 128 then (some 1) else (some 2))))) else (if x0 ≥ 48 then (if x0 ≤ 57 then (some 1) else (if x0 = 95 then (some 1) else (if x0 ≥ 128 then (some 1) else (some 2)))) else (if x0 = 95 then (some 1) else (if x0 ≥ 128 then (some 1) else (some 2)))))))
def foolscapref5_Of.f (k : Nat) (a0 : Int) (a1 : Bool) : Option (Int) := if a0 = 32 then (foolscapref5_Of.j0 k a0 a1 true) else (foolscapref5_Of.j0 k a0 a1 (a0 == 9))
theorem foolscapref5_Of.mono_l : ∀ k, (∀ y0 y1 y2, LeO (foolscapref5_Of.j0 k y0 y1 y2) (foolscapref5_Of.j0 (k + 1) y0 y1 y2))
  | 0 => fun _ _ _ r h => by simp [foolscapref5_Of.j0] at h
  | k + 1 => by
    have ih0 := foolscapref5_Of.mono_l k
    · intro y0 y1 y2
      unfold foolscapref5_Of.j0
      repeat' first
      | (with_reducible exact ih0 _ _ _)
      | (with_reducible exact LeO.refl _)
      | (with_reducible exact LeO.none _)
      | (with_reducible refine LeO.ite ?_ ?_)
      | (with_reducible refine LeO.bind ?_ (fun _ => ?_))
      | exact ih0 _ _ _
      | exact LeO.none _
      | refine LeO.ite ?_ ?_
      | refine LeO.bind ?_ (fun _ => ?_)
theorem foolscapref5_Of.mono : ∀ a0 a1 k, LeO (foolscapref5_Of.f k a0 a1) (foolscapref5_Of.f (k + 1) a0 a1) := by
  intro a0 a1 k
  have ih0 := foolscapref5_Of.mono_l k
  unfold foolscapref5_Of.f
  repeat' first
      | (with_reducible exact ih0 _ _ _)
      | (with_reducible exact LeO.refl _)
      | (with_reducible exact LeO.none _)
      | (with_reducible refine LeO.ite ?_ ?_)
      | (with_reducible refine LeO.bind ?_ (fun _ => ?_))
      | exact ih0 _ _ _
      | exact LeO.none _
      | refine LeO.ite ?_ ?_
      | refine LeO.bind ?_ (fun _ => ?_)
set_option maxHeartbeats 8000000 in
set_option maxRecDepth 100000 in
theorem foolscapref5_Of.calls (k : Nat) (a0 : Int) (a1 : Bool) (r : Int) (w : World) (h : foolscapref5_Of.f k a0 a1 = some r) :
    Calls Try.prog 41 #[.int .u8 a0, .bool a1] w fun e w' => e = .returned (.int .i64 r) ∧ Drawn0 w w' := by
  have H : (if a0 = 32 then (foolscapref5_Of.j0 k a0 a1 true) else (foolscapref5_Of.j0 k a0 a1 (a0 == 9))) = some r := h
  clear h
  have HC3 := Aside0.mk H
  clear H
  go_enter Try.func41, Try.ntmps41
  go_upto_region 1 with (fail)
  go_cut [5] (fun v5 wc => ∃ (kq : Nat) (x5_2 : Bool), v5 = .bool x5_2 ∧ Aside0 (foolscapref5_Of.j0 kq a0 a1 x5_2 = some r) ∧ Aside0 (kq ≤ k) ∧ Drawn0 w wc)
  case first =>
    have H := HC3.out
    clear HC3
    by_cases c4 : a0 = 32
    · rw [if_pos c4] at H
      have c4b0 : (a0 == 32) = true := beq_iff_eq.mpr c4
      have c4b1 : (a0 != 32) = false := bne_eq_false_iff_eq.mpr c4
      clear c4
      (first | rw [c4b0] | (simp only [i64_w, i32_w]; rw [c4b0]) | skip)
      have H' := Aside0.mk H
      clear H
      go_wp2
      go_meet
      case rel => exact ⟨_, (true), (by first | rfl | (simp; done) | (simp [*]; done)), H', ⟨by first | omega | exact Nat.le_refl _⟩, by repeat (first | exact Drawn0.refl _ | apply Drawn0.step)⟩
    · rw [if_neg c4] at H
      have c4b0 : (a0 == 32) = false := beq_eq_false_iff_ne.mpr c4
      have c4b1 : (a0 != 32) = true := bne_iff_ne.mpr c4
      (first | rw [c4b0] | (simp only [i64_w, i32_w]; rw [c4b0]) | skip)
      have H' := Aside0.mk H
      clear H
      go_wp2
      go_meet
      case rel => exact ⟨_, ((a0 == 9)), (by first | rfl | (simp; done) | (simp [*]; done)), H', ⟨by first | omega | exact Nat.le_refl _⟩, by repeat (first | exact Drawn0.refl _ | apply Drawn0.step)⟩
  case rest =>
    clear HC3
    try clear p2
    try clear c4
    try clear c4b0
    try clear c4b1
    obtain ⟨kq, x5_2, rfl, HA, HJ2, ⟨mc2, rfl⟩⟩ := hcut
    cases kq with
    | zero => exact absurd HA.out (by simp [foolscapref5_Of.j0])
    | succ kj2 =>
      have H := HA.out
      clear HA
      simp only [foolscapref5_Of.j0] at H
      by_cases c5 : x5_2 = true
      · subst c5
        have H1 : (some 0) = some r := by rw [if_pos rfl] at H; exact H
        clear H
        have H := H1
        clear H1
        obtain rfl := Option.some.inj H
        go_wp2
        go_ret
        exact ⟨by first | rfl | (simp; done) | (simp [*]; done), by repeat (first | exact Drawn0.refl _ | apply Drawn0.step)⟩
      · replace c5 := Bool.eq_false_iff.mpr c5
        subst c5
        have H1 : (if a1 = true then (some 1) else (if a0 ≥ 97 then (if a0 ≤ 122 then (some 1) else (if a0 ≥ 65 then (if a0 ≤ 90 then (some 1) else (if a0 ≥ 48 then (if a0 ≤ 57 then (some 1) else (if a0 = 95 then (some 1) else (if a0 ≥ 128 then (some 1) else (some 2)))) else (if a0 = 95 then (some 1) else (if a0 ≥ 128 then (some 1) else (some 2))))) else (if a0 ≥ 48 then (if a0 ≤ 57 then (some 1) else (if a0 = 95 then (some 1) else (if a0 ≥ 128 then (some 1) else (some 2)))) else (if a0 = 95 then (some 1) else (if a0 ≥ 128 then (some 1) else (some 2)))))) else (if a0 ≥ 65 then (if a0 ≤ 90 then (some 1) else (if a0 ≥ 48 then (if a0 ≤ 57 then (some 1) else (if a0 = 95 then (some 1) else (if a0 ≥ 128 then (some 1) else (some 2)))) else (if a0 = 95 then (some 1) else (if a0 ≥ 128 then (some 1) else (some 2))))) else (if a0 ≥ 48 then (if a0 ≤ 57 then (some 1) else (if a0 = 95 then (some 1) else (if a0 ≥ 128 then (some 1) else (some 2)))) else (if a0 = 95 then (some 1) else (if a0 ≥ 128 then (some 1) else (some 2))))))) = some r := by rw [if_neg (show ¬ (false = true) by decide)] at H; exact H
        clear H
        have H := H1
        clear H1
        by_cases c6 : a1 = true
        · subst c6
          have H1 : (some 1) = some r := by rw [if_pos rfl] at H; exact H
          clear H
          have H := H1
          clear H1
          obtain rfl := Option.some.inj H
          go_wp2
          go_ret
          exact ⟨by first | rfl | (simp; done) | (simp [*]; done), by repeat (first | exact Drawn0.refl _ | apply Drawn0.step)⟩
        · replace c6 := Bool.eq_false_iff.mpr c6
          subst c6
          have H1 : (if a0 ≥ 97 then (if a0 ≤ 122 then (some 1) else (if a0 ≥ 65 then (if a0 ≤ 90 then (some 1) else (if a0 ≥ 48 then (if a0 ≤ 57 then (some 1) else (if a0 = 95 then (some 1) else (if a0 ≥ 128 then (some 1) else (some 2)))) else (if a0 = 95 then (some 1) else (if a0 ≥ 128 then (some 1) else (some 2))))) else (if a0 ≥ 48 then (if a0 ≤ 57 then (some 1) else (if a0 = 95 then (some 1) else (if a0 ≥ 128 then (some 1) else (some 2)))) else (if a0 = 95 then (some 1) else (if a0 ≥ 128 then (some 1) else (some 2)))))) else (if a0 ≥ 65 then (if a0 ≤ 90 then (some 1) else (if a0 ≥ 48 then (if a0 ≤ 57 then (some 1) else (if a0 = 95 then (some 1) else (if a0 ≥ 128 then (some 1) else (some 2)))) else (if a0 = 95 then (some 1) else (if a0 ≥ 128 then (some 1) else (some 2))))) else (if a0 ≥ 48 then (if a0 ≤ 57 then (some 1) else (if a0 = 95 then (some 1) else (if a0 ≥ 128 then (some 1) else (some 2)))) else (if a0 = 95 then (some 1) else (if a0 ≥ 128 then (some 1) else (some 2)))))) = some r := by rw [if_neg (show ¬ (false = true) by decide)] at H; exact H
          clear H
          have H := H1
          clear H1
          by_cases c7 : a0 ≥ 97
          · rw [if_pos c7] at H
            have c7b0 : decide (97 ≤ a0) = true := decide_eq_true c7
            clear c7
            by_cases c8 : a0 ≤ 122
            · rw [if_pos c8] at H
              have c8b0 : decide (a0 ≤ 122) = true := decide_eq_true c8
              clear c8
              obtain rfl := Option.some.inj H
              go_wp2
              go_ret
              exact ⟨by first | rfl | (simp; done) | (simp [*]; done), by repeat (first | exact Drawn0.refl _ | apply Drawn0.step)⟩
            · rw [if_neg c8] at H
              have c8b0 : decide (a0 ≤ 122) = false := decide_eq_false c8
              clear c8
              by_cases c9 : a0 ≥ 65
              · rw [if_pos c9] at H
                have c9b0 : decide (65 ≤ a0) = true := decide_eq_true c9
                clear c9
                by_cases c10 : a0 ≤ 90
                · rw [if_pos c10] at H
                  have c10b0 : decide (a0 ≤ 90) = true := decide_eq_true c10
                  clear c10
                  obtain rfl := Option.some.inj H
                  go_wp2
                  go_ret
                  exact ⟨by first | rfl | (simp; done) | (simp [*]; done), by repeat (first | exact Drawn0.refl _ | apply Drawn0.step)⟩
                · rw [if_neg c10] at H
                  have c10b0 : decide (a0 ≤ 90) = false := decide_eq_false c10
                  clear c10
                  by_cases c11 : a0 ≥ 48
                  · rw [if_pos c11] at H
                    have c11b0 : decide (48 ≤ a0) = true := decide_eq_true c11
                    clear c11
                    by_cases c12 : a0 ≤ 57
                    · rw [if_pos c12] at H
                      have c12b0 : decide (a0 ≤ 57) = true := decide_eq_true c12
                      clear c12
                      obtain rfl := Option.some.inj H
                      go_wp2
                      go_ret
                      exact ⟨by first | rfl | (simp; done) | (simp [*]; done), by repeat (first | exact Drawn0.refl _ | apply Drawn0.step)⟩
                    · rw [if_neg c12] at H
                      have c12b0 : decide (a0 ≤ 57) = false := decide_eq_false c12
                      clear c12
                      by_cases c13 : a0 = 95
                      · rw [if_pos c13] at H
                        have c13b0 : (a0 == 95) = true := beq_iff_eq.mpr c13
                        have c13b1 : (a0 != 95) = false := bne_eq_false_iff_eq.mpr c13
                        clear c13
                        obtain rfl := Option.some.inj H
                        go_wp2
                        go_ret
                        exact ⟨by first | rfl | (simp; done) | (simp [*]; done), by repeat (first | exact Drawn0.refl _ | apply Drawn0.step)⟩
                      · rw [if_neg c13] at H
                        have c13b0 : (a0 == 95) = false := beq_eq_false_iff_ne.mpr c13
                        have c13b1 : (a0 != 95) = true := bne_iff_ne.mpr c13
                        by_cases c14 : a0 ≥ 128
                        · rw [if_pos c14] at H
                          have c14b0 : decide (128 ≤ a0) = true := decide_eq_true c14
                          clear c14
                          obtain rfl := Option.some.inj H
                          go_wp2
                          go_ret
                          exact ⟨by first | rfl | (simp; done) | (simp [*]; done), by repeat (first | exact Drawn0.refl _ | apply Drawn0.step)⟩
                        · rw [if_neg c14] at H
                          have c14b0 : decide (128 ≤ a0) = false := decide_eq_false c14
                          clear c14
                          obtain rfl := Option.some.inj H
                          go_wp2
                          go_ret
                          exact ⟨by first | rfl | (simp; done) | (simp [*]; done), by repeat (first | exact Drawn0.refl _ | apply Drawn0.step)⟩
                  · rw [if_neg c11] at H
                    have c11b0 : decide (48 ≤ a0) = false := decide_eq_false c11
                    clear c11
                    by_cases c15 : a0 = 95
                    · rw [if_pos c15] at H
                      have c15b0 : (a0 == 95) = true := beq_iff_eq.mpr c15
                      have c15b1 : (a0 != 95) = false := bne_eq_false_iff_eq.mpr c15
                      clear c15
                      obtain rfl := Option.some.inj H
                      go_wp2
                      go_ret
                      exact ⟨by first | rfl | (simp; done) | (simp [*]; done), by repeat (first | exact Drawn0.refl _ | apply Drawn0.step)⟩
                    · rw [if_neg c15] at H
                      have c15b0 : (a0 == 95) = false := beq_eq_false_iff_ne.mpr c15
                      have c15b1 : (a0 != 95) = true := bne_iff_ne.mpr c15
                      by_cases c16 : a0 ≥ 128
                      · rw [if_pos c16] at H
                        have c16b0 : decide (128 ≤ a0) = true := decide_eq_true c16
                        clear c16
                        obtain rfl := Option.some.inj H
                        go_wp2
                        go_ret
                        exact ⟨by first | rfl | (simp; done) | (simp [*]; done), by repeat (first | exact Drawn0.refl _ | apply Drawn0.step)⟩
                      · rw [if_neg c16] at H
                        have c16b0 : decide (128 ≤ a0) = false := decide_eq_false c16
                        clear c16
                        obtain rfl := Option.some.inj H
                        go_wp2
                        go_ret
                        exact ⟨by first | rfl | (simp; done) | (simp [*]; done), by repeat (first | exact Drawn0.refl _ | apply Drawn0.step)⟩
              · rw [if_neg c9] at H
                have c9b0 : decide (65 ≤ a0) = false := decide_eq_false c9
                clear c9
                by_cases c17 : a0 ≥ 48
                · rw [if_pos c17] at H
                  have c17b0 : decide (48 ≤ a0) = true := decide_eq_true c17
                  clear c17
                  by_cases c18 : a0 ≤ 57
                  · rw [if_pos c18] at H
                    have c18b0 : decide (a0 ≤ 57) = true := decide_eq_true c18
                    clear c18
                    obtain rfl := Option.some.inj H
                    go_wp2
                    go_ret
                    exact ⟨by first | rfl | (simp; done) | (simp [*]; done), by repeat (first | exact Drawn0.refl _ | apply Drawn0.step)⟩
                  · rw [if_neg c18] at H
                    have c18b0 : decide (a0 ≤ 57) = false := decide_eq_false c18
                    clear c18
                    by_cases c19 : a0 = 95
                    · rw [if_pos c19] at H
                      have c19b0 : (a0 == 95) = true := beq_iff_eq.mpr c19
                      have c19b1 : (a0 != 95) = false := bne_eq_false_iff_eq.mpr c19
                      clear c19
                      obtain rfl := Option.some.inj H
                      go_wp2
                      go_ret
                      exact ⟨by first | rfl | (simp; done) | (simp [*]; done), by repeat (first | exact Drawn0.refl _ | apply Drawn0.step)⟩
                    · rw [if_neg c19] at H
                      have c19b0 : (a0 == 95) = false := beq_eq_false_iff_ne.mpr c19
                      have c19b1 : (a0 != 95) = true := bne_iff_ne.mpr c19
                      by_cases c20 : a0 ≥ 128
                      · rw [if_pos c20] at H
                        have c20b0 : decide (128 ≤ a0) = true := decide_eq_true c20
                        clear c20
                        obtain rfl := Option.some.inj H
                        go_wp2
                        go_ret
                        exact ⟨by first | rfl | (simp; done) | (simp [*]; done), by repeat (first | exact Drawn0.refl _ | apply Drawn0.step)⟩
                      · rw [if_neg c20] at H
                        have c20b0 : decide (128 ≤ a0) = false := decide_eq_false c20
                        clear c20
                        obtain rfl := Option.some.inj H
                        go_wp2
                        go_ret
                        exact ⟨by first | rfl | (simp; done) | (simp [*]; done), by repeat (first | exact Drawn0.refl _ | apply Drawn0.step)⟩
                · rw [if_neg c17] at H
                  have c17b0 : decide (48 ≤ a0) = false := decide_eq_false c17
                  clear c17
                  by_cases c21 : a0 = 95
                  · rw [if_pos c21] at H
                    have c21b0 : (a0 == 95) = true := beq_iff_eq.mpr c21
                    have c21b1 : (a0 != 95) = false := bne_eq_false_iff_eq.mpr c21
                    clear c21
                    obtain rfl := Option.some.inj H
                    go_wp2
                    go_ret
                    exact ⟨by first | rfl | (simp; done) | (simp [*]; done), by repeat (first | exact Drawn0.refl _ | apply Drawn0.step)⟩
                  · rw [if_neg c21] at H
                    have c21b0 : (a0 == 95) = false := beq_eq_false_iff_ne.mpr c21
                    have c21b1 : (a0 != 95) = true := bne_iff_ne.mpr c21
                    by_cases c22 : a0 ≥ 128
                    · rw [if_pos c22] at H
                      have c22b0 : decide (128 ≤ a0) = true := decide_eq_true c22
                      clear c22
                      obtain rfl := Option.some.inj H
                      go_wp2
                      go_ret
                      exact ⟨by first | rfl | (simp; done) | (simp [*]; done), by repeat (first | exact Drawn0.refl _ | apply Drawn0.step)⟩
                    · rw [if_neg c22] at H
                      have c22b0 : decide (128 ≤ a0) = false := decide_eq_false c22
                      clear c22
                      obtain rfl := Option.some.inj H
                      go_wp2
                      go_ret
                      exact ⟨by first | rfl | (simp; done) | (simp [*]; done), by repeat (first | exact Drawn0.refl _ | apply Drawn0.step)⟩
          · rw [if_neg c7] at H
            have c7b0 : decide (97 ≤ a0) = false := decide_eq_false c7
            clear c7
            by_cases c23 : a0 ≥ 65
            · rw [if_pos c23] at H
              have c23b0 : decide (65 ≤ a0) = true := decide_eq_true c23
              clear c23
              by_cases c24 : a0 ≤ 90
              · rw [if_pos c24] at H
                have c24b0 : decide (a0 ≤ 90) = true := decide_eq_true c24
                clear c24
                obtain rfl := Option.some.inj H
                go_wp2
                go_ret
                exact ⟨by first | rfl | (simp; done) | (simp [*]; done), by repeat (first | exact Drawn0.refl _ | apply Drawn0.step)⟩
              · rw [if_neg c24] at H
                have c24b0 : decide (a0 ≤ 90) = false := decide_eq_false c24
                clear c24
                by_cases c25 : a0 ≥ 48
                · rw [if_pos c25] at H
                  have c25b0 : decide (48 ≤ a0) = true := decide_eq_true c25
                  clear c25
                  by_cases c26 : a0 ≤ 57
                  · rw [if_pos c26] at H
                    have c26b0 : decide (a0 ≤ 57) = true := decide_eq_true c26
                    clear c26
                    obtain rfl := Option.some.inj H
                    go_wp2
                    go_ret
                    exact ⟨by first | rfl | (simp; done) | (simp [*]; done), by repeat (first | exact Drawn0.refl _ | apply Drawn0.step)⟩
                  · rw [if_neg c26] at H
                    have c26b0 : decide (a0 ≤ 57) = false := decide_eq_false c26
                    clear c26
                    by_cases c27 : a0 = 95
                    · rw [if_pos c27] at H
                      have c27b0 : (a0 == 95) = true := beq_iff_eq.mpr c27
                      have c27b1 : (a0 != 95) = false := bne_eq_false_iff_eq.mpr c27
                      clear c27
                      obtain rfl := Option.some.inj H
                      go_wp2
                      go_ret
                      exact ⟨by first | rfl | (simp; done) | (simp [*]; done), by repeat (first | exact Drawn0.refl _ | apply Drawn0.step)⟩
                    · rw [if_neg c27] at H
                      have c27b0 : (a0 == 95) = false := beq_eq_false_iff_ne.mpr c27
                      have c27b1 : (a0 != 95) = true := bne_iff_ne.mpr c27
                      by_cases c28 : a0 ≥ 128
                      · rw [if_pos c28] at H
                        have c28b0 : decide (128 ≤ a0) = true := decide_eq_true c28
                        clear c28
                        obtain rfl := Option.some.inj H
                        go_wp2
                        go_ret
                        exact ⟨by first | rfl | (simp; done) | (simp [*]; done), by repeat (first | exact Drawn0.refl _ | apply Drawn0.step)⟩
                      · rw [if_neg c28] at H
                        have c28b0 : decide (128 ≤ a0) = false := decide_eq_false c28
                        clear c28
                        obtain rfl := Option.some.inj H
                        go_wp2
                        go_ret
                        exact ⟨by first | rfl | (simp; done) | (simp [*]; done), by repeat (first | exact Drawn0.refl _ | apply Drawn0.step)⟩
                · rw [if_neg c25] at H
                  have c25b0 : decide (48 ≤ a0) = false := decide_eq_false c25
                  clear c25
                  by_cases c29 : a0 = 95
                  · rw [if_pos c29] at H
                    have c29b0 : (a0 == 95) = true := beq_iff_eq.mpr c29
                    have c29b1 : (a0 != 95) = false := bne_eq_false_iff_eq.mpr c29
                    clear c29
                    obtain rfl := Option.some.inj H
                    go_wp2
                    go_ret
                    exact ⟨by first | rfl | (simp; done) | (simp [*]; done), by repeat (first | exact Drawn0.refl _ | apply Drawn0.step)⟩
                  · rw [if_neg c29] at H
                    have c29b0 : (a0 == 95) = false := beq_eq_false_iff_ne.mpr c29
                    have c29b1 : (a0 != 95) = true := bne_iff_ne.mpr c29
                    by_cases c30 : a0 ≥ 128
                    · rw [if_pos c30] at H
                      have c30b0 : decide (128 ≤ a0) = true := decide_eq_true c30
                      clear c30
                      obtain rfl := Option.some.inj H
                      go_wp2
                      go_ret
                      exact ⟨by first | rfl | (simp; done) | (simp [*]; done), by repeat (first | exact Drawn0.refl _ | apply Drawn0.step)⟩
                    · rw [if_neg c30] at H
                      have c30b0 : decide (128 ≤ a0) = false := decide_eq_false c30
                      clear c30
                      obtain rfl := Option.some.inj H
                      go_wp2
                      go_ret
                      exact ⟨by first | rfl | (simp; done) | (simp [*]; done), by repeat (first | exact Drawn0.refl _ | apply Drawn0.step)⟩
            · rw [if_neg c23] at H
              have c23b0 : decide (65 ≤ a0) = false := decide_eq_false c23
              clear c23
              by_cases c31 : a0 ≥ 48
              · rw [if_pos c31] at H
                have c31b0 : decide (48 ≤ a0) = true := decide_eq_true c31
                clear c31
                by_cases c32 : a0 ≤ 57
                · rw [if_pos c32] at H
                  have c32b0 : decide (a0 ≤ 57) = true := decide_eq_true c32
                  clear c32
                  obtain rfl := Option.some.inj H
                  go_wp2
                  go_ret
                  exact ⟨by first | rfl | (simp; done) | (simp [*]; done), by repeat (first | exact Drawn0.refl _ | apply Drawn0.step)⟩
                · rw [if_neg c32] at H
                  have c32b0 : decide (a0 ≤ 57) = false := decide_eq_false c32
                  clear c32
                  by_cases c33 : a0 = 95
                  · rw [if_pos c33] at H
                    have c33b0 : (a0 == 95) = true := beq_iff_eq.mpr c33
                    have c33b1 : (a0 != 95) = false := bne_eq_false_iff_eq.mpr c33
                    clear c33
                    obtain rfl := Option.some.inj H
                    go_wp2
                    go_ret
                    exact ⟨by first | rfl | (simp; done) | (simp [*]; done), by repeat (first | exact Drawn0.refl _ | apply Drawn0.step)⟩
                  · rw [if_neg c33] at H
                    have c33b0 : (a0 == 95) = false := beq_eq_false_iff_ne.mpr c33
                    have c33b1 : (a0 != 95) = true := bne_iff_ne.mpr c33
                    by_cases c34 : a0 ≥ 128
                    · rw [if_pos c34] at H
                      have c34b0 : decide (128 ≤ a0) = true := decide_eq_true c34
                      clear c34
                      obtain rfl := Option.some.inj H
                      go_wp2
                      go_ret
                      exact ⟨by first | rfl | (simp; done) | (simp [*]; done), by repeat (first | exact Drawn0.refl _ | apply Drawn0.step)⟩
                    · rw [if_neg c34] at H
                      have c34b0 : decide (128 ≤ a0) = false := decide_eq_false c34
                      clear c34
                      obtain rfl := Option.some.inj H
                      go_wp2
                      go_ret
                      exact ⟨by first | rfl | (simp; done) | (simp [*]; done), by repeat (first | exact Drawn0.refl _ | apply Drawn0.step)⟩
              · rw [if_neg c31] at H
                have c31b0 : decide (48 ≤ a0) = false := decide_eq_false c31
                clear c31
                by_cases c35 : a0 = 95
                · rw [if_pos c35] at H
                  have c35b0 : (a0 == 95) = true := beq_iff_eq.mpr c35
                  have c35b1 : (a0 != 95) = false := bne_eq_false_iff_eq.mpr c35
                  clear c35
                  obtain rfl := Option.some.inj H
                  go_wp2
                  go_ret
                  exact ⟨by first | rfl | (simp; done) | (simp [*]; done), by repeat (first | exact Drawn0.refl _ | apply Drawn0.step)⟩
                · rw [if_neg c35] at H
                  have c35b0 : (a0 == 95) = false := beq_eq_false_iff_ne.mpr c35
                  have c35b1 : (a0 != 95) = true := bne_iff_ne.mpr c35
                  by_cases c36 : a0 ≥ 128
                  · rw [if_pos c36] at H
                    have c36b0 : decide (128 ≤ a0) = true := decide_eq_true c36
                    clear c36
                    obtain rfl := Option.some.inj H
                    go_wp2
                    go_ret
                    exact ⟨by first | rfl | (simp; done) | (simp [*]; done), by repeat (first | exact Drawn0.refl _ | apply Drawn0.step)⟩
                  · rw [if_neg c36] at H
                    have c36b0 : decide (128 ≤ a0) = false := decide_eq_false c36
                    clear c36
                    obtain rfl := Option.some.inj H
                    go_wp2
                    go_ret
                    exact ⟨by first | rfl | (simp; done) | (simp [*]; done), by repeat (first | exact Drawn0.refl _ | apply Drawn0.step)⟩

end Go.Proofs.Ytdiakjamahdcfaa.V
namespace Go.Proofs.Ytdiakjamahdcfaa.V
open Go.RowKit Go.Proofs.YtdiakjamahdcfaaW.PrintWords Go.Proofs.YtdiakjamahdcfaaW.PrintLast Go.Proofs.YtdiakjamahdcfaaW.PrintMore
attribute [local go_sem] max2_int min2_int max_two min_two max_three min_three max_four min_four   -- for this text's walks alone
set_option linter.unusedVariables false
set_option linter.unusedSimpArgs false

/-! ### foolscapref5_First: function 37 -/
def foolscapref5_First.l0 : Nat → ByteArray → Int → Option (Int)
  | 0, _, _ => none
  | k + 1, x0, x3 => if x3 < (x0.size : Int) then (if 0 ≤ x3 then ((foolscapref5_Of.f k (bt x0 x3) true).bind fun t361 => (if t361 = 0 then (foolscapref5_First.l0 k x0 (wrap64 (x3 + 1))) else (some x3))) else (none)) else (some (mx (wrap64 ((x0.size : Int) - 1)) 0))
def foolscapref5_First.f (k : Nat) (a0 : ByteArray) : Option (Int) := foolscapref5_First.l0 k a0 0
theorem foolscapref5_First.mono_l : ∀ k, (∀ y0 y1, LeO (foolscapref5_First.l0 k y0 y1) (foolscapref5_First.l0 (k + 1) y0 y1))
  | 0 => fun _ _ r h => by simp [foolscapref5_First.l0] at h
  | k + 1 => by
    have ih0 := foolscapref5_First.mono_l k
    · intro y0 y1
      unfold foolscapref5_First.l0
      repeat' first
      | (with_reducible exact ih0 _ _)
      | (with_reducible exact foolscapref5_Of.mono _ _ _)
      | (with_reducible exact LeO.refl _)
      | (with_reducible exact LeO.none _)
      | (with_reducible refine LeO.ite ?_ ?_)
      | (with_reducible refine LeO.bind ?_ (fun _ => ?_))
      | exact ih0 _ _
      | exact foolscapref5_Of.mono _ _ _
      | exact LeO.none _
      | refine LeO.ite ?_ ?_
      | refine LeO.bind ?_ (fun _ => ?_)
theorem foolscapref5_First.mono : ∀ a0 k, LeO (foolscapref5_First.f k a0) (foolscapref5_First.f (k + 1) a0) := by
  intro a0 k
  have ih0 := foolscapref5_First.mono_l k
  unfold foolscapref5_First.f
  repeat' first
      | (with_reducible exact ih0 _ _)
      | (with_reducible exact foolscapref5_Of.mono _ _ _)
      | (with_reducible exact LeO.refl _)
      | (with_reducible exact LeO.none _)
      | (with_reducible refine LeO.ite ?_ ?_)
      | (with_reducible refine LeO.bind ?_ (fun _ => ?_))
      | exact ih0 _ _
      | exact foolscapref5_Of.mono _ _ _
      | exact LeO.none _
      | refine LeO.ite ?_ ?_
      | refine LeO.bind ?_ (fun _ => ?_)
set_option maxHeartbeats 8000000 in
set_option maxRecDepth 100000 in
theorem foolscapref5_First.calls (k : Nat) (a0 : ByteArray) (r : Int) (w : World) (h : foolscapref5_First.f k a0 = some r) :
    Calls Try.prog 37 #[.string a0] w fun e w' => e = .returned (.int .i64 r) ∧ Below w.heap.size w w' := by
  have HB := Aside0.mk (Below.refl w.heap.size w)
  have H : (foolscapref5_First.l0 k a0 0) = some r := h
  clear h
  have H' := Aside0.mk H
  clear H
  go_enter Try.func37, Try.ntmps37
  go_wp2
  go_loopg [3] k (fun kq v3 w' => ∃ (x3_1 : Int), v3 = .int .i64 x3_1 ∧ Aside0 (foolscapref5_First.l0 kq a0 x3_1 = some r) ∧ Aside0 (kq ≤ k) ∧ Aside0 (Below w.heap.size w w'))
  case atStart => exact ⟨(0), (by first | rfl | (simp; done) | (simp [*]; done)), H', ⟨Nat.le_refl _⟩, ⟨by repeat (first | (with_reducible first | exact HB.out | apply below_alloc | apply pw_below_drewN | apply below_drew1) | exact HB.out)⟩⟩
  case round =>
    clear H'
    obtain ⟨x3_1, rfl, HA, HK1, HB⟩ := hrel
    cases gk with
    | zero => exact absurd HA.out (by simp [foolscapref5_First.l0])
    | succ k1 =>
      have H := HA.out
      clear HA
      simp only [foolscapref5_First.l0] at H
      by_cases c2 : x3_1 < (a0.size : Int)
      · rw [if_pos c2] at H
        have c2b0 : decide (x3_1 < (a0.size : Int)) = true := decide_eq_true c2
        clear c2
        by_cases c3 : 0 ≤ x3_1
        · rw [if_pos c3] at H
          have c3b0 : decide (0 ≤ x3_1) = true := decide_eq_true c3
          clear c3
          replace H := Option.bind_eq_some_iff.mp H
          obtain ⟨t361, A50, H⟩ := H
          replace H : (if t361 = 0 then (foolscapref5_First.l0 k1 a0 (wrap64 (x3_1 + 1))) else (some x3_1)) = some r := H
          have A5 := Aside0.mk A50
          clear A50
          by_cases c6 : t361 = 0
          · rw [if_pos c6] at H
            have c6b0 : (t361 == 0) = true := beq_iff_eq.mpr c6
            have c6b1 : (t361 != 0) = false := bne_eq_false_iff_eq.mpr c6
            clear c6
            have H' := Aside0.mk H
            clear H
            have p4 : 0 ≤ (x3_1 : Int) := of_decide_eq_true (by first | (with_reducible assumption) | assumption)
            have q4 : x3_1 < (a0.size : Int) := of_decide_eq_true (by first | (with_reducible assumption) | assumption)
            have hx4 := bt_at a0 x3_1
            replace p4 := eq_true p4
            replace q4 := eq_true q4
            go_wp2_with (first | ((with_reducible refine gate_callee (f := 41) rfl ?_); refine goesL_ (some 13) rfl rfl Try.func41 (by kernel_rfl) rfl #[.int .u8 (bt a0 x3_1), .bool true] rfl (by (try simp only [List.map_toArray, List.map_cons, List.map_nil]); first | done | rfl | (simp only [List.length_drop, List.length_take]; rfl)) ?_; (with_reducible refine (foolscapref5_Of.calls k1 (bt a0 x3_1) true t361 _ A5.out).mono ?_); rintro e w' ⟨rfl, ⟨nd, rfl⟩⟩; refine ⟨_, rfl, ?_⟩))
            go_roundg k1
            case measure => have := HK1.out; omega
            case rel => exact ⟨(wrap64 (x3_1 + 1)), (by first | rfl | (simp; done) | (simp [*]; done)), H', ⟨by have := HK1.out; omega⟩, ⟨by repeat (first | (with_reducible first | exact HB.out | apply below_alloc | apply pw_below_drewN | apply below_drew1) | exact HB.out)⟩⟩
          · rw [if_neg c6] at H
            have c6b0 : (t361 == 0) = false := beq_eq_false_iff_ne.mpr c6
            have c6b1 : (t361 != 0) = true := bne_iff_ne.mpr c6
            obtain rfl := Option.some.inj H
            have p4 : 0 ≤ (x3_1 : Int) := of_decide_eq_true (by first | (with_reducible assumption) | assumption)
            have q4 : x3_1 < (a0.size : Int) := of_decide_eq_true (by first | (with_reducible assumption) | assumption)
            have hx4 := bt_at a0 x3_1
            replace p4 := eq_true p4
            replace q4 := eq_true q4
            go_wp2_with (first | ((with_reducible refine gate_callee (f := 41) rfl ?_); refine goesL_ (some 13) rfl rfl Try.func41 (by kernel_rfl) rfl #[.int .u8 (bt a0 x3_1), .bool true] rfl (by (try simp only [List.map_toArray, List.map_cons, List.map_nil]); first | done | rfl | (simp only [List.length_drop, List.length_take]; rfl)) ?_; (with_reducible refine (foolscapref5_Of.calls k1 (bt a0 x3_1) true t361 _ A5.out).mono ?_); rintro e w' ⟨rfl, ⟨nd, rfl⟩⟩; refine ⟨_, rfl, ?_⟩))
            go_ret
            exact ⟨by first | rfl | (simp [errW_none, errW_some] <;> rfl) | (simp [*, errW_none, errW_some] <;> rfl), by repeat (first | (with_reducible first | exact HB.out | apply below_alloc | apply pw_below_drewN | apply below_drew1) | exact HB.out)⟩
        · rw [if_neg c3] at H
          exact absurd H (by simp)
      · rw [if_neg c2] at H
        have c2b0 : decide (x3_1 < (a0.size : Int)) = false := decide_eq_false c2
        clear c2
        obtain ⟨ji7, hji7⟩ : ∃ j_ : Int, (mx (wrap64 ((a0.size : Int) - 1)) 0) = j_ := ⟨_, rfl⟩
        replace H : (some ji7) = some r := by first | (rw [hji7] at H; exact H) | (simp only [hji7] at H ⊢; exact H)
        (try (have hji7l : 0 ≤ ji7 := by (rw [← hji7]; unfold mx; (repeat' split) <;> omega)))
        (try (have hji7m : 0 ≤ ji7 := by omega))
        have hji7_ : (if (wrap64 ((a0.size : Int) - 1)) < 0 then 0 else (wrap64 ((a0.size : Int) - 1))) = ji7 := hji7
        obtain rfl := Option.some.inj H
        go_wp2
        go_ret
        exact ⟨by first | rfl | (simp [errW_none, errW_some] <;> rfl) | (simp only [← hji7]; first | rfl | (simp [errW_none, errW_some] <;> rfl)) | (simp [*, errW_none, errW_some] <;> rfl), by repeat (first | (with_reducible first | exact HB.out | apply below_alloc | apply pw_below_drewN | apply below_drew1) | exact HB.out)⟩

end Go.Proofs.Ytdiakjamahdcfaa.V
namespace Go.Proofs.Ytdiakjamahdcfaa.V
open Go.RowKit Go.Proofs.YtdiakjamahdcfaaW.PrintWords Go.Proofs.YtdiakjamahdcfaaW.PrintLast Go.Proofs.YtdiakjamahdcfaaW.PrintMore
attribute [local go_sem] max2_int min2_int max_two min_two max_three min_three max_four min_four   -- for this text's walks alone
set_option linter.unusedVariables false
set_option linter.unusedSimpArgs false

/-! ### foolscapref5_FirstOf: function 26 -/
def foolscapref5_FirstOf.f (k : Nat) (l0 : List ByteArray) (a1_0 : Int) (a1_1 : Int) : Option (Int × Int × Int × Bool × Int × Bool) := (foolscapref5_may.f l0 a1_0 a1_1 1).bind fun t364 => (if t364 = true then (if 0 ≤ a1_0 then (if a1_0 < (l0.length : Int) then ((foolscapref5_First.f k (rdOf ByteArray.empty l0 a1_0)).bind fun t366 => ((foolscapref5_to.f a1_0 t366).bind fun bt367 => (some (bt367.1, bt367.2.1, bt367.2.2.1, bt367.2.2.2.1, bt367.2.2.2.2.1, bt367.2.2.2.2.2)))) else (none)) else (none)) else ((foolscapref5_none.f).bind fun bt373 => (some (bt373.1, bt373.2.1, bt373.2.2.1, bt373.2.2.2.1, bt373.2.2.2.2.1, bt373.2.2.2.2.2))))
theorem foolscapref5_FirstOf.mono : ∀ a0 a1 a2 k, LeO (foolscapref5_FirstOf.f k a0 a1 a2) (foolscapref5_FirstOf.f (k + 1) a0 a1 a2) := by
  intro a0 a1 a2 k
  unfold foolscapref5_FirstOf.f
  repeat' first
      | (with_reducible exact foolscapref5_First.mono _ _)
      | (with_reducible exact LeO.refl _)
      | (with_reducible exact LeO.none _)
      | (with_reducible refine LeO.ite ?_ ?_)
      | (with_reducible refine LeO.bind ?_ (fun _ => ?_))
      | exact foolscapref5_First.mono _ _
      | exact LeO.none _
      | refine LeO.ite ?_ ?_
      | refine LeO.bind ?_ (fun _ => ?_)
def foolscapref5_FirstOf.T3 : Bool × List (List Nat × List Nat) := (true, [([], []), ([0], [0]), ([], []), ([], []), ([3], [3]), ([2, 4], [2, 4]), ([5], [5]), ([6], [6]), ([1, 7, 7], [1, 7]), ([8], [8]), ([8], [8]), ([9, 8, 0, 1, 2, 3, 4, 5, 6, 7, 8, 9, 10], [9]), ([10, 11, 0, 1, 2, 3, 4, 5, 6, 7, 8, 9, 10, 11], [10])])
def foolscapref5_FirstOf.B3 : List Nat := [0, 1, 0, 0, 8, 28, 60, 124, 255, 511, 511, 2047, 4095]
theorem foolscapref5_FirstOf.tab3 : rtab .any (opsOf Try.f26 3) = foolscapref5_FirstOf.T3 := by kernel_rfl
theorem foolscapref5_FirstOf.bits3 : waitsOk foolscapref5_FirstOf.T3.2 foolscapref5_FirstOf.B3 = true := by kernel_rfl
set_option maxHeartbeats 8000000 in
set_option maxRecDepth 100000 in
theorem foolscapref5_FirstOf.calls (k : Nat) (A0 : Option Addr) (c0 : Nat) (l0 : List ByteArray) (a1_0 : Int) (a1_1 : Int) (r1 : Int) (r2 : Int) (r3 : Int) (r4 : Bool) (r5 : Int) (r6 : Bool) (w : World) (hr0 : Kd.C Kd.string w A0 l0.length l0) (hc0 : l0.length ≤ c0) (h : foolscapref5_FirstOf.f k l0 a1_0 a1_1 = some (r1, r2, r3, r4, r5, r6)) :
    Calls Try.prog 26 #[.slice A0 l0.length c0, .agg #[.int .i64 a1_0, .int .i64 a1_1]] w fun e w' => e = .returned (.tuple #[.agg #[.int .i64 r1, .int .i64 r2, .int .i64 r3, .bool r4, .int .i64 r5], .bool r6]) ∧ Below w.heap.size w w' := by
  have hu24 := Try.underlying24
  have hu33 := Try.underlying33
  have HR0 := Aside0.mk hr0
  have HC0 := Aside0.mk hc0
  clear hr0 hc0
  have HB := Aside0.mk (Below.refl w.heap.size w)
  have H : ((foolscapref5_may.f l0 a1_0 a1_1 1).bind fun t364 => (if t364 = true then (if 0 ≤ a1_0 then (if a1_0 < (l0.length : Int) then ((foolscapref5_First.f k (rdOf ByteArray.empty l0 a1_0)).bind fun t366 => ((foolscapref5_to.f a1_0 t366).bind fun bt367 => (some (bt367.1, bt367.2.1, bt367.2.2.1, bt367.2.2.2.1, bt367.2.2.2.2.1, bt367.2.2.2.2.2)))) else (none)) else (none)) else ((foolscapref5_none.f).bind fun bt373 => (some (bt373.1, bt373.2.1, bt373.2.2.1, bt373.2.2.2.1, bt373.2.2.2.2.1, bt373.2.2.2.2.2))))) = some (r1, r2, r3, r4, r5, r6) := h
  clear h
  replace H := Option.bind_eq_some_iff.mp H
  obtain ⟨t364, A30, H⟩ := H
  replace H : (if t364 = true then (if 0 ≤ a1_0 then (if a1_0 < (l0.length : Int) then ((foolscapref5_First.f k (rdOf ByteArray.empty l0 a1_0)).bind fun t366 => ((foolscapref5_to.f a1_0 t366).bind fun bt367 => (some (bt367.1, bt367.2.1, bt367.2.2.1, bt367.2.2.2.1, bt367.2.2.2.2.1, bt367.2.2.2.2.2)))) else (none)) else (none)) else ((foolscapref5_none.f).bind fun bt373 => (some (bt373.1, bt373.2.1, bt373.2.2.1, bt373.2.2.2.1, bt373.2.2.2.2.1, bt373.2.2.2.2.2)))) = some (r1, r2, r3, r4, r5, r6) := H
  have A3 := Aside0.mk A30
  clear A30
  by_cases c4 : t364 = true
  · subst c4
    have H1 : (if 0 ≤ a1_0 then (if a1_0 < (l0.length : Int) then ((foolscapref5_First.f k (rdOf ByteArray.empty l0 a1_0)).bind fun t366 => ((foolscapref5_to.f a1_0 t366).bind fun bt367 => (some (bt367.1, bt367.2.1, bt367.2.2.1, bt367.2.2.2.1, bt367.2.2.2.2.1, bt367.2.2.2.2.2)))) else (none)) else (none)) = some (r1, r2, r3, r4, r5, r6) := by rw [if_pos rfl] at H; exact H
    clear H
    have H := H1
    clear H1
    by_cases c5 : 0 ≤ a1_0
    · rw [if_pos c5] at H
      have c5b0 : decide (0 ≤ a1_0) = true := decide_eq_true c5
      clear c5
      by_cases c6 : a1_0 < (l0.length : Int)
      · rw [if_pos c6] at H
        have c6b0 : decide (a1_0 < (l0.length : Int)) = true := decide_eq_true c6
        clear c6
        replace H := Option.bind_eq_some_iff.mp H
        obtain ⟨t366, A70, H⟩ := H
        replace H : ((foolscapref5_to.f a1_0 t366).bind fun bt367 => (some (bt367.1, bt367.2.1, bt367.2.2.1, bt367.2.2.2.1, bt367.2.2.2.2.1, bt367.2.2.2.2.2))) = some (r1, r2, r3, r4, r5, r6) := H
        have A7 := Aside0.mk A70
        clear A70
        replace H := Option.bind_eq_some_iff.mp H
        obtain ⟨⟨t367, t368, t369, t370, t371, t372⟩, A80, H⟩ := H
        replace H : (some (t367, t368, t369, t370, t371, t372)) = some (r1, r2, r3, r4, r5, r6) := H
        have A8 := Aside0.mk A80
        clear A80
        simp only [Option.some.injEq, Prod.mk.injEq] at H
        obtain ⟨rfl, rfl, rfl, rfl, rfl, rfl⟩ := H
        go_enter Try.func26, Try.ntmps26
        try go_wp2_with (first | ((with_reducible refine gate_dst (N := 3) rfl ?_); refine box_event ?hg (N := 3) ?hd (cs := #[.int .i64 a1_0, .int .i64 a1_1]) (t := 24) ?hr ?_; (case hd => rfl); (case hg => rfl); (case hr => first | (go_simp; done) | (go_simp; rfl)); intro gb362 hg w9 hbox hb; have n0_ := Aside0.mk (below_step (by repeat (first | (with_reducible first | exact HB.out | apply below_alloc | apply pw_below_drewN | apply below_drew1) | exact HB.out)) hb); have n1_ := Aside0.mk (hbox); have n2_ := Aside0.mk ((by rw [hg]; exact (below_size (by repeat (first | (with_reducible first | exact HB.out | apply below_alloc | apply pw_below_drewN | apply below_drew1) | exact HB.out))) : w.heap.size ≤ gb362)); have n3_ := Aside0.mk ((by rw [hg]; exact (below_size (by repeat (first | (with_reducible first | exact HB.out | apply below_alloc | apply pw_below_drewN | apply below_drew1) | exact HB.out))) : w.heap.size ≤ gb362)); clear HB; have HB := n0_; have BK362 := n1_; have GW362 := n2_; have GE362 := n3_; clear n0_ n1_ n2_ n3_; clear hb hbox hg) | ((with_reducible refine gate_dst (N := 4) rfl ?_); refine box_event ?hg (N := 4) ?hd (cs := #[.int .i64 0, .int .i64 0, .int .i64 0, .bool false, .int .i64 0]) (t := 33) ?hr ?_; (case hd => rfl); (case hg => rfl); (case hr => first | (go_simp; done) | (go_simp; rfl)); intro gb363 hg w10 hbox hb; have n0_ := Aside0.mk (blk_below (g := gb362) (o := .cells #[.int .i64 a1_0, .int .i64 a1_1] 24 (0, 0)) (by exact BK362.out) hb); have n1_ := Aside0.mk (below_step (by repeat (first | (with_reducible first | exact HB.out | apply below_alloc | apply pw_below_drewN | apply below_drew1 | refine below_set ?_ GE362.out) | exact HB.out)) hb); have n2_ := Aside0.mk (hbox); have n3_ := Aside0.mk ((by rw [hg]; exact (below_size (by repeat (first | (with_reducible first | exact HB.out | apply below_alloc | apply pw_below_drewN | apply below_drew1 | refine below_set ?_ GE362.out) | exact HB.out))) : w.heap.size ≤ gb363)); have n4_ := Aside0.mk ((by rw [hg]; exact (below_size (by repeat (first | (with_reducible first | exact HB.out | apply below_alloc | apply pw_below_drewN | apply below_drew1 | refine below_set ?_ GE362.out) | exact HB.out))) : w.heap.size ≤ gb363)); have n5_ := Aside0.mk ((by rw [hg]; exact Nat.ne_of_lt (blk_lt (g := gb362) (o := .cells #[.int .i64 a1_0, .int .i64 a1_1] 24 (0, 0)) (by exact BK362.out)) : gb362 ≠ gb363)); have n6_ := Aside0.mk ((by rw [hg]; exact Nat.ne_of_gt (blk_lt (g := gb362) (o := .cells #[.int .i64 a1_0, .int .i64 a1_1] 24 (0, 0)) (by exact BK362.out)) : gb363 ≠ gb362)); clear BK362; clear HB; have BK362 := n0_; have HB := n1_; have BK363 := n2_; have GW363 := n3_; have GE363 := n4_; have NB362_363 := n5_; have NB363_362 := n6_; clear n0_ n1_ n2_ n3_ n4_ n5_ n6_; clear hb hbox hg; have hnb11 := NB362_363.out; have hnc11 := NB363_362.out; have hcz12_0 : w10.cell? ⟨gb362, 0, none⟩ = some (.int .i64 a1_0) := (blk_cell BK362.out 0).trans rfl; have hcz12_1 : w10.cell? ⟨gb362, 1, none⟩ = some (.int .i64 a1_1) := (blk_cell BK362.out 1).trans rfl; have hfz12_0 := blk_frozen BK362.out 0; have hfz12_1 := blk_frozen BK362.out 1) | ((with_reducible refine gate_callee (f := 31) rfl ?_); refine goesL_ (some 8) rfl rfl Try.func31 (by kernel_rfl) rfl #[.slice A0 l0.length c0, .agg #[.int .i64 a1_0, .int .i64 a1_1], .int .i64 1] rfl (by (try simp only [List.map_toArray, List.map_cons, List.map_nil]); first | done | rfl | (simp only [List.length_drop, List.length_take]; rfl)) ?_; (with_reducible refine (foolscapref5_may.calls _ _ l0 a1_0 a1_1 1 true _ ?side1 ?side2 A3.out).mono ?_); (case side1 => repeat (first | exact (Kd.C_below HR0.out HB.out) | (with_reducible refine Kd.C_alloc ?_ _) | (with_reducible refine Kd.C_drewN ?_ _) | (with_reducible refine Kd.C_drew ?_))); (case side2 => exact HC0.out); rintro e w13 ⟨rfl, hb⟩; refine ⟨_, rfl, ?_⟩; have n0_ := Aside0.mk (blk_below (g := gb362) (o := .cells #[.int .i64 a1_0, .int .i64 a1_1] 24 (0, 0)) (by exact BK362.out) hb); have n1_ := Aside0.mk (blk_below (g := gb363) (o := .cells #[.int .i64 0, .int .i64 0, .int .i64 0, .bool false, .int .i64 0] 33 (0, 0)) (by exact BK363.out) hb); have n2_ := Aside0.mk (below_step (by repeat (first | (with_reducible first | exact HB.out | apply below_alloc | apply pw_below_drewN | apply below_drew1 | refine below_set ?_ GE362.out | refine below_set ?_ GE363.out) | exact HB.out)) hb); clear BK362; clear BK363; clear HB; have BK362 := n0_; have BK363 := n1_; have HB := n2_; clear n0_ n1_ n2_; (try clear hb); (try clear hb2); (try clear hk); (try clear hi)))
        have n0_ := Aside0.mk (blk_drew BK362.out)
        have n1_ := Aside0.mk (blk_drew BK363.out)
        have n2_ := Aside0.mk (below_drew1 HB.out)
        clear BK362
        clear BK363
        clear HB
        have BK362 := n0_
        have BK363 := n1_
        have HB := n2_
        clear n0_ n1_ n2_
        have p365 : 0 ≤ (a1_0 : Int) := of_decide_eq_true (by first | (with_reducible assumption) | assumption)
        have q365 : a1_0 < (l0.length : Int) := of_decide_eq_true (by first | (with_reducible assumption) | assumption)
        obtain ⟨ad365, e365, hx365_0⟩ := Kd.at_string HR0.out a1_0 p365 q365
        have hw365_0 := hx365_0
        cases e365
        replace hx365_0 := (HB.out.cell (World.block_lt_of_cell? w _ hx365_0)).trans hx365_0
        replace p365 := eq_true p365
        replace q365 := eq_true q365
        refine start_ (n := 13) (S := fun w' => w'.cell? ⟨gb362, 0, none⟩ = some (.int .i64 a1_0) ∧ w'.cell? ⟨gb362, 1, none⟩ = some (.int .i64 a1_1) ∧ w'.cell? (ad365.add (a1_0).toNat) = some (.string (rdOf ByteArray.empty l0 a1_0))) (ds := []) #[false, false, false, false, false, false, false, false, false, false, false, false, false] (by kernel_rfl) rfl rfl ⟨(blk_cell BK362.out 0).trans rfl, (blk_cell BK362.out 1).trans rfl, ((HB.out.cell (World.block_lt_of_cell? w _ hw365_0)).trans hw365_0)⟩ (fun hHeld => ?_); refine with_tabW foolscapref5_FirstOf.tab3 foolscapref5_FirstOf.bits3 (fun HT_ HW_ => ?_)
        generalize w13.drew = w14 at BK362 BK363 HB hx365_0 hHeld ⊢
        refine pure_ (i := 0) (N := some 13) (v := ?_) (a' := ?_) #[true, false, false, false, false, false, false, false, false, false, false, false, false] rfl rfl (any_of HT_.out (by kernel_rfl)) (fun _ _ _ h => h) (Or.inl ⟨by rfl, ?_⟩) ?_ ?_
        rotate_left
        · intro w'
          go_simp
          with_reducible rfl
        rotate_left
        · simp only [Act.put, List.setIfInBounds_toArray, List.set_cons_zero, List.set_cons_succ, i64_w, i32_w]
          rfl
        refine pure_ (i := 2) (N := some 15) (v := ?_) (a' := ?_) #[true, false, true, false, false, false, false, false, false, false, false, false, false] rfl rfl (any_of HT_.out (by kernel_rfl)) (fun _ _ _ h => h) (Or.inl ⟨by rfl, ?_⟩) ?_ ?_
        rotate_left
        · intro w'
          go_simp
          with_reducible rfl
        rotate_left
        · simp only [Act.put, List.setIfInBounds_toArray, List.set_cons_zero, List.set_cons_succ, i64_w, i32_w]
          rfl
        refine pure_ (i := 3) (N := some 16) (v := ?_) (a' := ?_) #[true, false, true, true, false, false, false, false, false, false, false, false, false] rfl rfl (any_of HT_.out (by kernel_rfl)) (fun _ _ _ h => h) (Or.inl ⟨by rfl, ?_⟩) ?_ ?_
        rotate_left
        · intro w'
          go_simp
          with_reducible rfl
        rotate_left
        · simp only [Act.put, List.setIfInBounds_toArray, List.set_cons_zero, List.set_cons_succ, i64_w, i32_w]
          rfl
        refine take_ (i := 1) (N := some 14) (v := ?_) (a' := ?_) #[true, true, true, true, false, false, false, false, false, false, false, false, false] rfl rfl (take_ofW HT_.out HW_.out (by kernel_rfl)) (fun _ _ _ h => h) (Or.inl ⟨by rfl, ?_⟩) hHeld ?_ ?_
        rotate_left
        · rintro w' ⟨s0, s1, s2⟩
          go_simp
          with_reducible rfl
        rotate_left
        · simp only [Act.put, List.setIfInBounds_toArray, List.set_cons_zero, List.set_cons_succ, i64_w, i32_w]
          rfl
        refine take_ (i := 4) (N := some 17) (v := ?_) (a' := ?_) #[true, true, true, true, true, false, false, false, false, false, false, false, false] rfl rfl (take_ofW HT_.out HW_.out (by kernel_rfl)) (fun _ _ _ h => h) (Or.inl ⟨by rfl, ?_⟩) hHeld ?_ ?_
        rotate_left
        · rintro w' ⟨s0, s1, s2⟩
          go_simp
          with_reducible rfl
        rotate_left
        · simp only [Act.put, List.setIfInBounds_toArray, List.set_cons_zero, List.set_cons_succ, i64_w, i32_w]
          rfl
        refine pure_ (i := 5) (N := some 18) (v := ?_) (a' := ?_) #[true, true, true, true, true, true, false, false, false, false, false, false, false] rfl rfl (any_of HT_.out (by kernel_rfl)) (fun _ _ _ h => h) (Or.inl ⟨by rfl, ?_⟩) ?_ ?_
        rotate_left
        · intro w'
          go_simp
          with_reducible rfl
        rotate_left
        · simp only [Act.put, List.setIfInBounds_toArray, List.set_cons_zero, List.set_cons_succ, i64_w, i32_w]
          rfl
        refine take_ (i := 6) (N := some 19) (v := ?_) (a' := ?_) #[true, true, true, true, true, true, true, false, false, false, false, false, false] rfl rfl (take_ofW HT_.out HW_.out (by kernel_rfl)) (fun _ _ _ h => h) (Or.inl ⟨by rfl, ?_⟩) hHeld ?_ ?_
        rotate_left
        · rintro w' ⟨s0, s1, s2⟩
          go_simp
          with_reducible rfl
        rotate_left
        · simp only [Act.put, List.setIfInBounds_toArray, List.set_cons_zero, List.set_cons_succ, i64_w, i32_w]
          rfl
        refine one_ (i := 7) (N := some 20) #[true, true, true, true, true, true, true, true, false, false, false, false, false] rfl rfl (one_of HT_.out (by kernel_rfl)) (by decide) (fun K hK => ?_)
        refine goes_ Try.func37 (by kernel_rfl) rfl #[.string (rdOf ByteArray.empty l0 a1_0)] (by rfl) rfl rfl (by (try simp only [List.map_toArray, List.map_cons, List.map_nil]); first | done | rfl | (simp only [List.length_drop, List.length_take]; rfl)) ?_
        with_reducible refine (foolscapref5_First.calls k (rdOf ByteArray.empty l0 a1_0) t366 _ A7.out).mono ?_
        rintro e w15 ⟨rfl, hb⟩
        refine ⟨_, rfl, ?_⟩
        have n0_ := Aside0.mk (blk_below (g := gb362) (o := .cells #[.int .i64 a1_0, .int .i64 a1_1] 24 (0, 0)) (by exact BK362.out) hb)
        have n1_ := Aside0.mk (blk_below (g := gb363) (o := .cells #[.int .i64 0, .int .i64 0, .int .i64 0, .bool false, .int .i64 0] 33 (0, 0)) (by exact BK363.out) hb)
        have n2_ := Aside0.mk (below_step (by repeat (first | (with_reducible first | exact HB.out | apply below_alloc | apply pw_below_drewN | apply below_drew1 | refine below_set ?_ GE362.out | refine below_set ?_ GE363.out) | exact HB.out)) hb)
        clear BK362
        clear BK363
        clear HB
        have BK362 := n0_
        have BK363 := n1_
        have HB := n2_
        clear n0_ n1_ n2_
        (try clear hb)
        (try clear hb2)
        (try clear hk)
        (try clear hi)
        refine hK.out _ _ ⟨(blk_cell BK362.out 0).trans rfl, (blk_cell BK362.out 1).trans rfl, ((HB.out.cell (World.block_lt_of_cell? w _ hw365_0)).trans hw365_0)⟩ (fun hHeld => ?_)
        clear hK K
        refine norm_ (a' := ?_) ?_ ?_
        rotate_left
        · show Act.put _ (some 20) _ = _
          simp only [Act.put, List.setIfInBounds_toArray, List.set_cons_zero, List.set_cons_succ, i64_w, i32_w]
          rfl
        refine one_ (i := 8) (N := some 21) #[true, true, true, true, true, true, true, true, true, false, false, false, false] rfl rfl (one_of HT_.out (by kernel_rfl)) (by decide) (fun K hK => ?_)
        refine goes_ Try.func33 (by kernel_rfl) rfl #[.int .i64 a1_0, .int .i64 t366] (by rfl) rfl rfl (by (try simp only [List.map_toArray, List.map_cons, List.map_nil]); first | done | rfl | (simp only [List.length_drop, List.length_take]; rfl)) ?_
        with_reducible refine (foolscapref5_to.calls a1_0 t366 t367 t368 t369 t370 t371 t372 _ A8.out).mono ?_
        rintro e w16 ⟨rfl, hb⟩
        refine ⟨_, rfl, ?_⟩
        have n0_ := Aside0.mk (blk_below (g := gb362) (o := .cells #[.int .i64 a1_0, .int .i64 a1_1] 24 (0, 0)) (by exact BK362.out) hb)
        have n1_ := Aside0.mk (blk_below (g := gb363) (o := .cells #[.int .i64 0, .int .i64 0, .int .i64 0, .bool false, .int .i64 0] 33 (0, 0)) (by exact BK363.out) hb)
        have n2_ := Aside0.mk (below_step (by repeat (first | (with_reducible first | exact HB.out | apply below_alloc | apply pw_below_drewN | apply below_drew1 | refine below_set ?_ GE362.out | refine below_set ?_ GE363.out) | exact HB.out)) hb)
        clear BK362
        clear BK363
        clear HB
        have BK362 := n0_
        have BK363 := n1_
        have HB := n2_
        clear n0_ n1_ n2_
        (try clear hb)
        (try clear hb2)
        (try clear hk)
        (try clear hi)
        refine hK.out _ _ ⟨(blk_cell BK362.out 0).trans rfl, (blk_cell BK362.out 1).trans rfl, ((HB.out.cell (World.block_lt_of_cell? w _ hw365_0)).trans hw365_0)⟩ (fun hHeld => ?_)
        clear hK K
        refine norm_ (a' := ?_) ?_ ?_
        rotate_left
        · show Act.put _ (some 21) _ = _
          simp only [Act.put, List.setIfInBounds_toArray, List.set_cons_zero, List.set_cons_succ, i64_w, i32_w]
          rfl
        refine pure_ (i := 9) (N := some 22) (v := ?_) (a' := ?_) #[true, true, true, true, true, true, true, true, true, true, false, false, false] rfl rfl (any_of HT_.out (by kernel_rfl)) (fun _ _ _ h => h) (Or.inl ⟨by rfl, ?_⟩) ?_ ?_
        rotate_left
        · intro w'
          go_simp
          with_reducible rfl
        rotate_left
        · simp only [Act.put, List.setIfInBounds_toArray, List.set_cons_zero, List.set_cons_succ, i64_w, i32_w]
          rfl
        refine pure_ (i := 10) (N := some 23) (v := ?_) (a' := ?_) #[true, true, true, true, true, true, true, true, true, true, true, false, false] rfl rfl (any_of HT_.out (by kernel_rfl)) (fun _ _ _ h => h) (Or.inl ⟨by rfl, ?_⟩) ?_ ?_
        rotate_left
        · intro w'
          go_simp
          with_reducible rfl
        rotate_left
        · simp only [Act.put, List.setIfInBounds_toArray, List.set_cons_zero, List.set_cons_succ, i64_w, i32_w]
          rfl
        refine one_ (i := 11) (N := none) #[true, true, true, true, true, true, true, true, true, true, true, true, false] rfl rfl (one_of HT_.out (by kernel_rfl)) (by decide) (fun K hK => ?_)
        have hs17 : w16.cell? ⟨gb363, 0, none⟩ = some (.int .i64 0) := (blk_cell BK363.out 0).trans rfl
        have hfs17 := blk_frozen BK363.out 0
        have hns17_0 := NB362_363.out
        have hms17_0 := NB363_362.out
        have hs18 : w16.cell? ⟨gb363, 1, none⟩ = some (.int .i64 0) := (blk_cell BK363.out 1).trans rfl
        have hfs18 := blk_frozen BK363.out 1
        have hns18_0 := NB362_363.out
        have hms18_0 := NB363_362.out
        have hs19 : w16.cell? ⟨gb363, 2, none⟩ = some (.int .i64 0) := (blk_cell BK363.out 2).trans rfl
        have hfs19 := blk_frozen BK363.out 2
        have hns19_0 := NB362_363.out
        have hms19_0 := NB363_362.out
        have hs20 : w16.cell? ⟨gb363, 3, none⟩ = some (.bool false) := (blk_cell BK363.out 3).trans rfl
        have hfs20 := blk_frozen BK363.out 3
        have hns20_0 := NB362_363.out
        have hms20_0 := NB363_362.out
        have hs21 : w16.cell? ⟨gb363, 4, none⟩ = some (.int .i64 0) := (blk_cell BK363.out 4).trans rfl
        have hfs21 := blk_frozen BK363.out 4
        have hns21_0 := NB362_363.out
        have hms21_0 := NB363_362.out
        refine skip_ (w1 := ?_) (by rfl) rfl ?_ ?_
        rotate_left
        · go_simp
          rfl
        refine hK.out _ _ ⟨((cell_far (p := ⟨gb363, _, none⟩) NB362_363.out _).trans (((cell_far (p := ⟨gb363, _, none⟩) NB362_363.out _).trans (((cell_far (p := ⟨gb363, _, none⟩) NB362_363.out _).trans (((cell_far (p := ⟨gb363, _, none⟩) NB362_363.out _).trans (((cell_far (p := ⟨gb363, _, none⟩) NB362_363.out _).trans (hHeld.1)))))))))), ((cell_far (p := ⟨gb363, _, none⟩) NB362_363.out _).trans (((cell_far (p := ⟨gb363, _, none⟩) NB362_363.out _).trans (((cell_far (p := ⟨gb363, _, none⟩) NB362_363.out _).trans (((cell_far (p := ⟨gb363, _, none⟩) NB362_363.out _).trans (((cell_far (p := ⟨gb363, _, none⟩) NB362_363.out _).trans (hHeld.2.1)))))))))), ((cell_far (p := ⟨gb363, _, none⟩) (by first | exact Nat.ne_of_lt (Nat.lt_of_lt_of_le (by have := World.block_lt_of_cell? _ _ hw365_0; first | rwa [add_block] at this | exact this) GW363.out) | (rw [add_block]; exact Nat.ne_of_lt (Nat.lt_of_lt_of_le (by have := World.block_lt_of_cell? _ _ hw365_0; first | rwa [add_block] at this | exact this) GW363.out)) | (show (Addr.add _ _).block ≠ _; rw [add_block]; exact Nat.ne_of_lt (Nat.lt_of_lt_of_le (by have := World.block_lt_of_cell? _ _ hw365_0; first | rwa [add_block] at this | exact this) GW363.out)) | (dsimp only; exact Nat.ne_of_lt (Nat.lt_of_lt_of_le (by have := World.block_lt_of_cell? _ _ hw365_0; first | rwa [add_block] at this | exact this) GW363.out))) _).trans (((cell_far (p := ⟨gb363, _, none⟩) (by first | exact Nat.ne_of_lt (Nat.lt_of_lt_of_le (by have := World.block_lt_of_cell? _ _ hw365_0; first | rwa [add_block] at this | exact this) GW363.out) | (rw [add_block]; exact Nat.ne_of_lt (Nat.lt_of_lt_of_le (by have := World.block_lt_of_cell? _ _ hw365_0; first | rwa [add_block] at this | exact this) GW363.out)) | (show (Addr.add _ _).block ≠ _; rw [add_block]; exact Nat.ne_of_lt (Nat.lt_of_lt_of_le (by have := World.block_lt_of_cell? _ _ hw365_0; first | rwa [add_block] at this | exact this) GW363.out)) | (dsimp only; exact Nat.ne_of_lt (Nat.lt_of_lt_of_le (by have := World.block_lt_of_cell? _ _ hw365_0; first | rwa [add_block] at this | exact this) GW363.out))) _).trans (((cell_far (p := ⟨gb363, _, none⟩) (by first | exact Nat.ne_of_lt (Nat.lt_of_lt_of_le (by have := World.block_lt_of_cell? _ _ hw365_0; first | rwa [add_block] at this | exact this) GW363.out) | (rw [add_block]; exact Nat.ne_of_lt (Nat.lt_of_lt_of_le (by have := World.block_lt_of_cell? _ _ hw365_0; first | rwa [add_block] at this | exact this) GW363.out)) | (show (Addr.add _ _).block ≠ _; rw [add_block]; exact Nat.ne_of_lt (Nat.lt_of_lt_of_le (by have := World.block_lt_of_cell? _ _ hw365_0; first | rwa [add_block] at this | exact this) GW363.out)) | (dsimp only; exact Nat.ne_of_lt (Nat.lt_of_lt_of_le (by have := World.block_lt_of_cell? _ _ hw365_0; first | rwa [add_block] at this | exact this) GW363.out))) _).trans (((cell_far (p := ⟨gb363, _, none⟩) (by first | exact Nat.ne_of_lt (Nat.lt_of_lt_of_le (by have := World.block_lt_of_cell? _ _ hw365_0; first | rwa [add_block] at this | exact this) GW363.out) | (rw [add_block]; exact Nat.ne_of_lt (Nat.lt_of_lt_of_le (by have := World.block_lt_of_cell? _ _ hw365_0; first | rwa [add_block] at this | exact this) GW363.out)) | (show (Addr.add _ _).block ≠ _; rw [add_block]; exact Nat.ne_of_lt (Nat.lt_of_lt_of_le (by have := World.block_lt_of_cell? _ _ hw365_0; first | rwa [add_block] at this | exact this) GW363.out)) | (dsimp only; exact Nat.ne_of_lt (Nat.lt_of_lt_of_le (by have := World.block_lt_of_cell? _ _ hw365_0; first | rwa [add_block] at this | exact this) GW363.out))) _).trans (((cell_far (p := ⟨gb363, _, none⟩) (by first | exact Nat.ne_of_lt (Nat.lt_of_lt_of_le (by have := World.block_lt_of_cell? _ _ hw365_0; first | rwa [add_block] at this | exact this) GW363.out) | (rw [add_block]; exact Nat.ne_of_lt (Nat.lt_of_lt_of_le (by have := World.block_lt_of_cell? _ _ hw365_0; first | rwa [add_block] at this | exact this) GW363.out)) | (show (Addr.add _ _).block ≠ _; rw [add_block]; exact Nat.ne_of_lt (Nat.lt_of_lt_of_le (by have := World.block_lt_of_cell? _ _ hw365_0; first | rwa [add_block] at this | exact this) GW363.out)) | (dsimp only; exact Nat.ne_of_lt (Nat.lt_of_lt_of_le (by have := World.block_lt_of_cell? _ _ hw365_0; first | rwa [add_block] at this | exact this) GW363.out))) _).trans (hHeld.2.2))))))))))⟩ (fun hHeld => ?_)
        clear hK K
        refine pure_ (i := 12) (N := some 5) (v := ?_) (a' := ?_) #[true, true, true, true, true, true, true, true, true, true, true, true, true] rfl rfl (any_of HT_.out (by kernel_rfl)) (fun _ _ _ h => h) (Or.inl ⟨by rfl, ?_⟩) ?_ ?_
        rotate_left
        · intro w'
          go_simp
          with_reducible rfl
        rotate_left
        · simp only [Act.put, List.setIfInBounds_toArray, List.set_cons_zero, List.set_cons_succ, i64_w, i32_w]
          rfl
        refine done_ (done_of HT_.out (by kernel_rfl)) ?_
        try go_wp2
        refine bodyPost_ret (results_ct rfl _ _ gb363 33 #[.int .i64 t367, .int .i64 t368, .int .i64 t369, .bool t370, .int .i64 t371] (0, 0) _ rfl (by refine blk_put (cs := #[.int .i64 t367, .int .i64 t368, .int .i64 t369, .bool t370, .int .i64 0]) ?_ 4 _ rfl; refine blk_put (cs := #[.int .i64 t367, .int .i64 t368, .int .i64 t369, .bool false, .int .i64 0]) ?_ 3 _ rfl; refine blk_put (cs := #[.int .i64 t367, .int .i64 t368, .int .i64 0, .bool false, .int .i64 0]) ?_ 2 _ rfl; refine blk_put (cs := #[.int .i64 t367, .int .i64 0, .int .i64 0, .bool false, .int .i64 0]) ?_ 1 _ rfl; refine blk_put (cs := #[.int .i64 0, .int .i64 0, .int .i64 0, .bool false, .int .i64 0]) ?_ 0 _ rfl; exact BK363.out) Try.underlying33 rfl (by kernel_rfl)) rfl ?_
        exact ⟨by first | rfl | (simp [errW_none, errW_some] <;> rfl) | (simp [*, errW_none, errW_some] <;> rfl), by repeat (first | (with_reducible first | exact HB.out | apply below_alloc | apply pw_below_drewN | apply below_drew1 | refine below_set ?_ GE362.out | refine below_set ?_ GE363.out) | exact HB.out)⟩
      · rw [if_neg c6] at H
        exact absurd H (by simp)
    · rw [if_neg c5] at H
      exact absurd H (by simp)
  · replace c4 := Bool.eq_false_iff.mpr c4
    subst c4
    have H1 : ((foolscapref5_none.f).bind fun bt373 => (some (bt373.1, bt373.2.1, bt373.2.2.1, bt373.2.2.2.1, bt373.2.2.2.2.1, bt373.2.2.2.2.2))) = some (r1, r2, r3, r4, r5, r6) := by rw [if_neg (show ¬ (false = true) by decide)] at H; exact H
    clear H
    have H := H1
    clear H1
    replace H := Option.bind_eq_some_iff.mp H
    obtain ⟨⟨t373, t374, t375, t376, t377, t378⟩, A220, H⟩ := H
    replace H : (some (t373, t374, t375, t376, t377, t378)) = some (r1, r2, r3, r4, r5, r6) := H
    have A22 := Aside0.mk A220
    clear A220
    simp only [Option.some.injEq, Prod.mk.injEq] at H
    obtain ⟨rfl, rfl, rfl, rfl, rfl, rfl⟩ := H
    go_enter Try.func26, Try.ntmps26
    go_wp2_with (first | ((with_reducible refine gate_dst (N := 3) rfl ?_); refine box_event ?hg (N := 3) ?hd (cs := #[.int .i64 a1_0, .int .i64 a1_1]) (t := 24) ?hr ?_; (case hd => rfl); (case hg => rfl); (case hr => first | (go_simp; done) | (go_simp; rfl)); intro gb362 hg w23 hbox hb; have n0_ := Aside0.mk (below_step (by repeat (first | (with_reducible first | exact HB.out | apply below_alloc | apply pw_below_drewN | apply below_drew1) | exact HB.out)) hb); have n1_ := Aside0.mk (hbox); have n2_ := Aside0.mk ((by rw [hg]; exact (below_size (by repeat (first | (with_reducible first | exact HB.out | apply below_alloc | apply pw_below_drewN | apply below_drew1) | exact HB.out))) : w.heap.size ≤ gb362)); have n3_ := Aside0.mk ((by rw [hg]; exact (below_size (by repeat (first | (with_reducible first | exact HB.out | apply below_alloc | apply pw_below_drewN | apply below_drew1) | exact HB.out))) : w.heap.size ≤ gb362)); clear HB; have HB := n0_; have BK362 := n1_; have GW362 := n2_; have GE362 := n3_; clear n0_ n1_ n2_ n3_; clear hb hbox hg) | ((with_reducible refine gate_dst (N := 4) rfl ?_); refine box_event ?hg (N := 4) ?hd (cs := #[.int .i64 0, .int .i64 0, .int .i64 0, .bool false, .int .i64 0]) (t := 33) ?hr ?_; (case hd => rfl); (case hg => rfl); (case hr => first | (go_simp; done) | (go_simp; rfl)); intro gb363 hg w24 hbox hb; have n0_ := Aside0.mk (blk_below (g := gb362) (o := .cells #[.int .i64 a1_0, .int .i64 a1_1] 24 (0, 0)) (by exact BK362.out) hb); have n1_ := Aside0.mk (below_step (by repeat (first | (with_reducible first | exact HB.out | apply below_alloc | apply pw_below_drewN | apply below_drew1 | refine below_set ?_ GE362.out) | exact HB.out)) hb); have n2_ := Aside0.mk (hbox); have n3_ := Aside0.mk ((by rw [hg]; exact (below_size (by repeat (first | (with_reducible first | exact HB.out | apply below_alloc | apply pw_below_drewN | apply below_drew1 | refine below_set ?_ GE362.out) | exact HB.out))) : w.heap.size ≤ gb363)); have n4_ := Aside0.mk ((by rw [hg]; exact (below_size (by repeat (first | (with_reducible first | exact HB.out | apply below_alloc | apply pw_below_drewN | apply below_drew1 | refine below_set ?_ GE362.out) | exact HB.out))) : w.heap.size ≤ gb363)); have n5_ := Aside0.mk ((by rw [hg]; exact Nat.ne_of_lt (blk_lt (g := gb362) (o := .cells #[.int .i64 a1_0, .int .i64 a1_1] 24 (0, 0)) (by exact BK362.out)) : gb362 ≠ gb363)); have n6_ := Aside0.mk ((by rw [hg]; exact Nat.ne_of_gt (blk_lt (g := gb362) (o := .cells #[.int .i64 a1_0, .int .i64 a1_1] 24 (0, 0)) (by exact BK362.out)) : gb363 ≠ gb362)); clear BK362; clear HB; have BK362 := n0_; have HB := n1_; have BK363 := n2_; have GW363 := n3_; have GE363 := n4_; have NB362_363 := n5_; have NB363_362 := n6_; clear n0_ n1_ n2_ n3_ n4_ n5_ n6_; clear hb hbox hg; have hnb25 := NB362_363.out; have hnc25 := NB363_362.out; have hcz26_0 : w24.cell? ⟨gb362, 0, none⟩ = some (.int .i64 a1_0) := (blk_cell BK362.out 0).trans rfl; have hcz26_1 : w24.cell? ⟨gb362, 1, none⟩ = some (.int .i64 a1_1) := (blk_cell BK362.out 1).trans rfl; have hfz26_0 := blk_frozen BK362.out 0; have hfz26_1 := blk_frozen BK362.out 1) | ((with_reducible refine gate_callee (f := 31) rfl ?_); refine goesL_ (some 8) rfl rfl Try.func31 (by kernel_rfl) rfl #[.slice A0 l0.length c0, .agg #[.int .i64 a1_0, .int .i64 a1_1], .int .i64 1] rfl (by (try simp only [List.map_toArray, List.map_cons, List.map_nil]); first | done | rfl | (simp only [List.length_drop, List.length_take]; rfl)) ?_; (with_reducible refine (foolscapref5_may.calls _ _ l0 a1_0 a1_1 1 false _ ?side1 ?side2 A3.out).mono ?_); (case side1 => repeat (first | exact (Kd.C_below HR0.out HB.out) | (with_reducible refine Kd.C_alloc ?_ _) | (with_reducible refine Kd.C_drewN ?_ _) | (with_reducible refine Kd.C_drew ?_))); (case side2 => exact HC0.out); rintro e w27 ⟨rfl, hb⟩; refine ⟨_, rfl, ?_⟩; have n0_ := Aside0.mk (blk_below (g := gb362) (o := .cells #[.int .i64 a1_0, .int .i64 a1_1] 24 (0, 0)) (by exact BK362.out) hb); have n1_ := Aside0.mk (blk_below (g := gb363) (o := .cells #[.int .i64 0, .int .i64 0, .int .i64 0, .bool false, .int .i64 0] 33 (0, 0)) (by exact BK363.out) hb); have n2_ := Aside0.mk (below_step (by repeat (first | (with_reducible first | exact HB.out | apply below_alloc | apply pw_below_drewN | apply below_drew1 | refine below_set ?_ GE362.out | refine below_set ?_ GE363.out) | exact HB.out)) hb); clear BK362; clear BK363; clear HB; have BK362 := n0_; have BK363 := n1_; have HB := n2_; clear n0_ n1_ n2_; (try clear hb); (try clear hb2); (try clear hk); (try clear hi)) | ((with_reducible refine gate_callee (f := 32) rfl ?_); refine goesL_ (some 10) rfl rfl Try.func32 (by kernel_rfl) rfl #[] rfl (by (try simp only [List.map_toArray, List.map_cons, List.map_nil]); first | done | rfl | (simp only [List.length_drop, List.length_take]; rfl)) ?_; (with_reducible refine (foolscapref5_none.calls  t373 t374 t375 t376 t377 t378 _ A22.out).mono ?_); rintro e w28 ⟨rfl, hb⟩; refine ⟨_, rfl, ?_⟩; have n0_ := Aside0.mk (blk_below (g := gb362) (o := .cells #[.int .i64 a1_0, .int .i64 a1_1] 24 (0, 0)) (by exact BK362.out) hb); have n1_ := Aside0.mk (blk_below (g := gb363) (o := .cells #[.int .i64 0, .int .i64 0, .int .i64 0, .bool false, .int .i64 0] 33 (0, 0)) (by exact BK363.out) hb); have n2_ := Aside0.mk (below_step (by repeat (first | (with_reducible first | exact HB.out | apply below_alloc | apply pw_below_drewN | apply below_drew1 | refine below_set ?_ GE362.out | refine below_set ?_ GE363.out) | exact HB.out)) hb); clear BK362; clear BK363; clear HB; have BK362 := n0_; have BK363 := n1_; have HB := n2_; clear n0_ n1_ n2_; (try clear hb); (try clear hb2); (try clear hk); (try clear hi); have hcz29_0 : w28.cell? ⟨gb363, 0, none⟩ = some (.int .i64 0) := (blk_cell BK363.out 0).trans rfl; have hcz29_1 : w28.cell? ⟨gb363, 1, none⟩ = some (.int .i64 0) := (blk_cell BK363.out 1).trans rfl; have hcz29_2 : w28.cell? ⟨gb363, 2, none⟩ = some (.int .i64 0) := (blk_cell BK363.out 2).trans rfl; have hcz29_3 : w28.cell? ⟨gb363, 3, none⟩ = some (.bool false) := (blk_cell BK363.out 3).trans rfl; have hcz29_4 : w28.cell? ⟨gb363, 4, none⟩ = some (.int .i64 0) := (blk_cell BK363.out 4).trans rfl; have hfz29_0 := blk_frozen BK363.out 0; have hfz29_1 := blk_frozen BK363.out 1; have hfz29_2 := blk_frozen BK363.out 2; have hfz29_3 := blk_frozen BK363.out 3; have hfz29_4 := blk_frozen BK363.out 4))
    refine bodyPost_ret (results_ct rfl _ _ gb363 33 #[.int .i64 t373, .int .i64 t374, .int .i64 t375, .bool t376, .int .i64 t377] (0, 0) _ rfl (by refine blk_put (cs := #[.int .i64 t373, .int .i64 t374, .int .i64 t375, .bool t376, .int .i64 0]) ?_ 4 _ rfl; refine blk_put (cs := #[.int .i64 t373, .int .i64 t374, .int .i64 t375, .bool false, .int .i64 0]) ?_ 3 _ rfl; refine blk_put (cs := #[.int .i64 t373, .int .i64 t374, .int .i64 0, .bool false, .int .i64 0]) ?_ 2 _ rfl; refine blk_put (cs := #[.int .i64 t373, .int .i64 0, .int .i64 0, .bool false, .int .i64 0]) ?_ 1 _ rfl; refine blk_put (cs := #[.int .i64 0, .int .i64 0, .int .i64 0, .bool false, .int .i64 0]) ?_ 0 _ rfl; exact BK363.out) Try.underlying33 rfl (by kernel_rfl)) rfl ?_
    exact ⟨by first | rfl | (simp [errW_none, errW_some] <;> rfl) | (simp [*, errW_none, errW_some] <;> rfl), by repeat (first | (with_reducible first | exact HB.out | apply below_alloc | apply pw_below_drewN | apply below_drew1 | refine below_set ?_ GE362.out | refine below_set ?_ GE363.out) | exact HB.out)⟩

end Go.Proofs.Ytdiakjamahdcfaa.V
