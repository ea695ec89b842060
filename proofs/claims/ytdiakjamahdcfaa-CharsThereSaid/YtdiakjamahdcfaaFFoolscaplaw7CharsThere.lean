-- The contract of a law's function, out of the kit's print, cut by this session (truetrim.py) to the answer 'true'.
import Derived.Test.YtdiakjamahdcfaaVb
import Derived.Test.YtdiakjamahdcfaaFCharsSeek
import Derived.Test.YtdiakjamahdcfaaFFoolscaplaw7Known
import Derived.Test.YtdiakjamahdcfaaFFoolscaphelpLight
import Derived.Test.YtdiakjamahdcfaaFFoolscapseatPlace
namespace Go.Proofs.Ytdiakjamahdcfaa.V
open Go.RowKit Go.Proofs.YtdiakjamahdcfaaW.PrintWords Go.Proofs.YtdiakjamahdcfaaW.PrintLast Go.Proofs.YtdiakjamahdcfaaW.PrintMore
attribute [local go_sem] max2_int min2_int max_two min_two max_three min_three max_four min_four   -- for this text's walks alone
set_option linter.unusedVariables false
set_option linter.unusedSimpArgs false

/-! ### foolscaplaw7_CharsThere: function 5 -/
mutual
def foolscaplaw7_CharsThere.j0 : Nat → ByteArray → Int → Int → Int → Bool → Option (Bool)
  | 0, _, _, _, _, _ => none
  | k + 1, x0, x1, x2, x3, x28 => if x28 = true then (some true) else ((some (([x0] : List ByteArray) : List ByteArray)).bind fun y480 => ((foolscapseat_Place.f y480 0 x1).bind fun bt483 => ((chars_Seek.f k y480 bt483.1 bt483.2 102 x2 (wrap64 ((wrap64 (Int.tmod x3 4)) + 1))).bind fun bt486 => ((chars_Seek.f k y480 bt483.1 bt483.2 116 x2 (wrap64 ((wrap64 (Int.tmod x3 4)) + 1))).bind fun bt493 => (if (bt486.2.2.2.2.2 != bt493.2.2.2.2.2) = true then (some false) else (foolscaplaw7_CharsThere.l0 k x0 x2 (wrap64 ((wrap64 (Int.tmod x3 4)) + 1)) bt486.2.2.2.2.2 0 (wrap64 (bt483.2 + 1)) bt486.1 bt486.2.1 bt486.2.2.1 bt486.2.2.2.1 bt486.2.2.2.2.1 bt493.1 bt493.2.1 bt493.2.2.1 bt493.2.2.2.1 bt493.2.2.2.2.1))))))
def foolscaplaw7_CharsThere.l0 : Nat → ByteArray → Int → Int → Bool → Int → Int → Int → Int → Int → Bool → Int → Int → Int → Int → Bool → Int → Option (Bool)
  | 0, _, _, _, _, _, _, _, _, _, _, _, _, _, _, _, _ => none
  | k + 1, x0, x2, x11, x13, x16, x17, x493000, x493001, x493002, x493003, x493004, x500000, x500001, x500002, x500003, x500004 => if x17 < (x0.size : Int) then (if 0 ≤ x17 then (if (bt x0 x17) = x2 then (if (wrap64 (x16 + 1)) = x11 then (if x13 = true then (if x493001 = x17 then (some (x500001 == (wrap64 (x17 - 1)))) else (some false)) else (some false)) else (foolscaplaw7_CharsThere.l0 k x0 x2 x11 x13 (wrap64 (x16 + 1)) (wrap64 (x17 + 1)) x493000 x493001 x493002 x493003 x493004 x500000 x500001 x500002 x500003 x500004)) else (foolscaplaw7_CharsThere.l0 k x0 x2 x11 x13 x16 (wrap64 (x17 + 1)) x493000 x493001 x493002 x493003 x493004 x500000 x500001 x500002 x500003 x500004)) else (none)) else (some (!x13))
end
def foolscaplaw7_CharsThere.f (k : Nat) (a0 : ByteArray) (a1 : Int) (a2 : Int) (a3 : Int) : Option (Bool) := (foolscaplaw7_known.f k).bind fun t475 => (if t475 = true then (if (a0.size : Int) > 200 then (foolscaplaw7_CharsThere.j0 k a0 a1 a2 a3 true) else ((foolscaphelp_Light.f k (([a0] : List ByteArray))).bind fun t479 => (foolscaplaw7_CharsThere.j0 k a0 a1 a2 a3 (!t479)))) else (some false))
theorem foolscaplaw7_CharsThere.mono_l : ∀ k, (∀ y0 y1 y2 y3 y4, LeO (foolscaplaw7_CharsThere.j0 k y0 y1 y2 y3 y4) (foolscaplaw7_CharsThere.j0 (k + 1) y0 y1 y2 y3 y4)) ∧ (∀ y0 y1 y2 y3 y4 y5 y6 y7 y8 y9 y10 y11 y12 y13 y14 y15, LeO (foolscaplaw7_CharsThere.l0 k y0 y1 y2 y3 y4 y5 y6 y7 y8 y9 y10 y11 y12 y13 y14 y15) (foolscaplaw7_CharsThere.l0 (k + 1) y0 y1 y2 y3 y4 y5 y6 y7 y8 y9 y10 y11 y12 y13 y14 y15))
  | 0 => ⟨fun _ _ _ _ _ r h => by simp [foolscaplaw7_CharsThere.j0] at h, fun _ _ _ _ _ _ _ _ _ _ _ _ _ _ _ _ r h => by simp [foolscaplaw7_CharsThere.l0] at h⟩
  | k + 1 => by
    obtain ⟨ih0, ih1⟩ := foolscaplaw7_CharsThere.mono_l k
    refine ⟨?_, ?_⟩
    · intro y0 y1 y2 y3 y4
      unfold foolscaplaw7_CharsThere.j0
      repeat' first
      | (with_reducible exact ih0 _ _ _ _ _)
      | (with_reducible exact ih1 _ _ _ _ _ _ _ _ _ _ _ _ _ _ _ _)
      | (with_reducible exact chars_Seek.mono _ _ _ _ _ _ _)
      | (with_reducible exact foolscaphelp_Light.mono _ _)
      | (with_reducible exact foolscaplaw7_known.mono _)
      | (with_reducible exact LeO.refl _)
      | (with_reducible exact LeO.none _)
      | (with_reducible refine LeO.ite ?_ ?_)
      | (with_reducible refine LeO.bind ?_ (fun _ => ?_))
      | exact ih0 _ _ _ _ _
      | exact ih1 _ _ _ _ _ _ _ _ _ _ _ _ _ _ _ _
      | exact chars_Seek.mono _ _ _ _ _ _ _
      | exact foolscaphelp_Light.mono _ _
      | exact foolscaplaw7_known.mono _
      | exact LeO.none _
      | refine LeO.ite ?_ ?_
      | refine LeO.bind ?_ (fun _ => ?_)
    · intro y0 y1 y2 y3 y4 y5 y6 y7 y8 y9 y10 y11 y12 y13 y14 y15
      unfold foolscaplaw7_CharsThere.l0
      repeat' first
      | (with_reducible exact ih0 _ _ _ _ _)
      | (with_reducible exact ih1 _ _ _ _ _ _ _ _ _ _ _ _ _ _ _ _)
      | (with_reducible exact chars_Seek.mono _ _ _ _ _ _ _)
      | (with_reducible exact foolscaphelp_Light.mono _ _)
      | (with_reducible exact foolscaplaw7_known.mono _)
      | (with_reducible exact LeO.refl _)
      | (with_reducible exact LeO.none _)
      | (with_reducible refine LeO.ite ?_ ?_)
      | (with_reducible refine LeO.bind ?_ (fun _ => ?_))
      | exact ih0 _ _ _ _ _
      | exact ih1 _ _ _ _ _ _ _ _ _ _ _ _ _ _ _ _
      | exact chars_Seek.mono _ _ _ _ _ _ _
      | exact foolscaphelp_Light.mono _ _
      | exact foolscaplaw7_known.mono _
      | exact LeO.none _
      | refine LeO.ite ?_ ?_
      | refine LeO.bind ?_ (fun _ => ?_)
theorem foolscaplaw7_CharsThere.mono : ∀ a0 a1 a2 a3 k, LeO (foolscaplaw7_CharsThere.f k a0 a1 a2 a3) (foolscaplaw7_CharsThere.f (k + 1) a0 a1 a2 a3) := by
  intro a0 a1 a2 a3 k
  obtain ⟨ih0, ih1⟩ := foolscaplaw7_CharsThere.mono_l k
  unfold foolscaplaw7_CharsThere.f
  repeat' first
      | (with_reducible exact ih0 _ _ _ _ _)
      | (with_reducible exact ih1 _ _ _ _ _ _ _ _ _ _ _ _ _ _ _ _)
      | (with_reducible exact chars_Seek.mono _ _ _ _ _ _ _)
      | (with_reducible exact foolscaphelp_Light.mono _ _)
      | (with_reducible exact foolscaplaw7_known.mono _)
      | (with_reducible exact LeO.refl _)
      | (with_reducible exact LeO.none _)
      | (with_reducible refine LeO.ite ?_ ?_)
      | (with_reducible refine LeO.bind ?_ (fun _ => ?_))
      | exact ih0 _ _ _ _ _
      | exact ih1 _ _ _ _ _ _ _ _ _ _ _ _ _ _ _ _
      | exact chars_Seek.mono _ _ _ _ _ _ _
      | exact foolscaphelp_Light.mono _ _
      | exact foolscaplaw7_known.mono _
      | exact LeO.none _
      | refine LeO.ite ?_ ?_
      | refine LeO.bind ?_ (fun _ => ?_)
set_option maxHeartbeats 8000000 in
set_option maxRecDepth 100000 in
theorem foolscaplaw7_CharsThere.calls (k : Nat) (a0 : ByteArray) (a1 : Int) (a2 : Int) (a3 : Int) (r : Bool) (w : World) (h : foolscaplaw7_CharsThere.f k a0 a1 a2 a3 = some r) (hrT : r = true) :
    Calls Try.prog 5 #[.string a0, .int .u16 a1, .int .u8 a2, .int .u8 a3] w fun e w' => e = .returned (.bool r) ∧ Below w.heap.size w w' := by
  have HT := Aside0.mk hrT
  clear hrT
  have hu24 := Try.underlying24
  have hu33 := Try.underlying33
  have HB := Aside0.mk (Below.refl w.heap.size w)
  have H : ((foolscaplaw7_known.f k).bind fun t475 => (if t475 = true then (if (a0.size : Int) > 200 then (foolscaplaw7_CharsThere.j0 k a0 a1 a2 a3 true) else ((foolscaphelp_Light.f k (([a0] : List ByteArray))).bind fun t479 => (foolscaplaw7_CharsThere.j0 k a0 a1 a2 a3 (!t479)))) else (some false))) = some r := h
  clear h
  replace H := Option.bind_eq_some_iff.mp H
  obtain ⟨t475, A50, H⟩ := H
  replace H : (if t475 = true then (if (a0.size : Int) > 200 then (foolscaplaw7_CharsThere.j0 k a0 a1 a2 a3 true) else ((foolscaphelp_Light.f k (([a0] : List ByteArray))).bind fun t479 => (foolscaplaw7_CharsThere.j0 k a0 a1 a2 a3 (!t479)))) else (some false)) = some r := H
  have A5 := Aside0.mk A50
  clear A50
  by_cases c6 : t475 = true
  · subst c6
    have H1 : (if (a0.size : Int) > 200 then (foolscaplaw7_CharsThere.j0 k a0 a1 a2 a3 true) else ((foolscaphelp_Light.f k (([a0] : List ByteArray))).bind fun t479 => (foolscaplaw7_CharsThere.j0 k a0 a1 a2 a3 (!t479)))) = some r := by rw [if_pos rfl] at H; exact H
    clear H
    have H := H1
    clear H1
    have HC7 := Aside0.mk H
    clear H
    go_enter Try.func5, Try.ntmps5
    go_upto_region 3 with (first | ((with_reducible refine gate_callee (f := 9) rfl ?_); refine goesL_ (some 18) rfl rfl Try.func9 (by kernel_rfl) rfl #[] rfl (by (try simp only [List.map_toArray, List.map_cons, List.map_nil]); first | done | rfl | (simp only [List.length_drop, List.length_take]; rfl)) ?_; (with_reducible refine (foolscaplaw7_known.calls k  true _ A5.out rfl).mono ?_); rintro e w8 ⟨rfl, hb⟩; refine ⟨_, rfl, ?_⟩; have n0_ := Aside0.mk (below_step (by repeat (first | (with_reducible first | exact HB.out | apply below_alloc | apply pw_below_drewN | apply below_drew1) | exact HB.out)) hb); clear HB; have HB := n0_; clear n0_; (try clear hb); (try clear hb2); (try clear hk); (try clear hi)))
    (try simp only [Act.put, List.setIfInBounds_toArray, List.set_cons_zero, List.set_cons_succ])
    go_cut [28] (fun v28 wc => ∃ (kq : Nat) (x28_6 : Bool), v28 = .bool x28_6 ∧ Aside0 (foolscaplaw7_CharsThere.j0 kq a0 a1 a2 a3 x28_6 = some r) ∧ Aside0 (kq ≤ k) ∧ Aside0 (Below w.heap.size w wc))
    case first =>
      have H := HC7.out
      clear HC7
      by_cases c9 : (a0.size : Int) > 200
      · rw [if_pos c9] at H
        have c9b0 : decide (200 < (a0.size : Int)) = true := decide_eq_true c9
        have c9b1 : decide (200 < a0.size) = true := decide_eq_true (by omega)
        clear c9
        (first | rw [c9b0] | (simp only [i64_w, i32_w]; rw [c9b0]) | skip)
        have H' := Aside0.mk H
        clear H
        go_wp2
        go_meet
        case rel => exact ⟨_, (true), (by first | rfl | (simp; done) | (simp [*]; done)), H', ⟨by first | omega | exact Nat.le_refl _⟩, ⟨by repeat (first | (with_reducible first | exact HB.out | apply below_alloc | apply pw_below_drewN | apply below_drew1) | exact HB.out)⟩⟩
      · rw [if_neg c9] at H
        have c9b0 : decide (200 < (a0.size : Int)) = false := decide_eq_false c9
        have c9b1 : decide (200 < a0.size) = false := decide_eq_false (by omega)
        clear c9
        (first | rw [c9b0] | (simp only [i64_w, i32_w]; rw [c9b0]) | skip)
        obtain ⟨y476, hy476⟩ : ∃ y_ : List ByteArray, y_ = (([a0] : List ByteArray)) := ⟨_, rfl⟩
        replace H : ((foolscaphelp_Light.f k y476).bind fun t479 => (foolscaplaw7_CharsThere.j0 k a0 a1 a2 a3 (!t479))) = some r := by first | (rw [hy476]; with_reducible exact H) | (have H2_ := (Option.bind_some _ _).symm.trans H; rw [hy476]; with_reducible exact H2_) | (have H2_ := (Option.bind_some _ _).symm.trans H; with_reducible exact H2_) | with_reducible exact H | (rw [hy476]; exact H) | exact H
        have Ny476 := Aside0.mk hy476
        clear hy476
        replace H := Option.bind_eq_some_iff.mp H
        obtain ⟨t479, A100, H⟩ := H
        replace H : (foolscaplaw7_CharsThere.j0 k a0 a1 a2 a3 (!t479)) = some r := H
        have A10 := Aside0.mk A100
        clear A100
        have H' := Aside0.mk H
        clear H
        go_wp2_with (first | ((with_reducible refine gate_dst (N := 25) rfl ?_); (try (refine gate_guard (by rfl) ?_; dsimp only)); refine Kd.R_lit Kd.string _ 9 ?hg (N := 25) ?hd (xs := ([a0] : List ByteArray)) (inner := [.string a0]) (ok := fun _ => True) (okp := fun _ => True) ?hr ?hp (fun _ hk => hk) trivial (Below.refl _ _) (Nat.le_refl _) (by simp) ?_; (case hd => rfl); (case hg => rfl); (case hr => first | (go_simp; done) | (go_simp; rfl)); (case hp => exact (Reps.one (show Kd.M Kd.string _ _ _ a0 [.string a0] from rfl) (Reps.none _ _))); intro v477 w11 ho12 hb hg_ hnew_; clear hg_ hnew_; (first | rw [← Ny476.out] at ho12 | (simp only [Int.reduceToNat] at ho12; rw [← Ny476.out] at ho12)); have n0_ := Aside0.mk (Kd.R_lower ho12 (below_size (by repeat (first | (with_reducible first | exact HB.out | apply below_alloc | apply pw_below_drewN | apply below_drew1) | exact HB.out)))); have n1_ := Aside0.mk (below_step (by repeat (first | (with_reducible first | exact HB.out | apply below_alloc | apply pw_below_drewN | apply below_drew1) | exact HB.out)) hb); clear HB; have HO478 := n0_; have HB := n1_; clear n0_ n1_; clear hb ho12; obtain ⟨Ao13, co13, eo13⟩ := Kd.R_slice HO478.out; subst eo13) | (go_at_call 27; (with_reducible refine (foolscaphelp_Light.calls k _ _ y476 t479 _ ?side1 ?side2 A10.out).mono ?_); (case side1 => repeat (first | exact (Kd.R_reads' HO478.out).2.2 | (with_reducible refine Kd.C_alloc ?_ _) | (with_reducible refine Kd.C_drewN ?_ _) | (with_reducible refine Kd.C_drew ?_))); (case side2 => exact (Kd.R_reads' HO478.out).2.1); rintro e w' ⟨rfl, ⟨nd, rfl⟩⟩))
        go_meet
        case rel => exact ⟨_, (!t479), (by first | rfl | (simp; done) | (simp [*]; done)), H', ⟨by first | omega | exact Nat.le_refl _⟩, ⟨by repeat (first | (with_reducible first | exact HB.out | apply below_alloc | apply pw_below_drewN | apply below_drew1) | exact HB.out)⟩⟩
    case rest =>
      clear HC7
      try clear p2
      try clear c5
      try clear c6
      try clear c9
      try clear c9b0
      try clear c9b1
      obtain ⟨kq, x28_6, rfl, HA, HJ6, HB⟩ := hcut
      cases kq with
      | zero => exact absurd HA.out (by simp [foolscaplaw7_CharsThere.j0])
      | succ kj6 =>
        have H := HA.out
        clear HA
        simp only [foolscaplaw7_CharsThere.j0] at H
        by_cases c14 : x28_6 = true
        · subst c14
          have H1 : (some true) = some r := by rw [if_pos rfl] at H; exact H
          clear H
          have H := H1
          clear H1
          obtain rfl := Option.some.inj H
          go_wp2
          go_ret
          exact ⟨by first | rfl | (simp [errW_none, errW_some] <;> rfl) | (simp [*, errW_none, errW_some] <;> rfl), by repeat (first | (with_reducible first | exact HB.out | apply below_alloc | apply pw_below_drewN | apply below_drew1) | exact HB.out)⟩
        · replace c14 := Bool.eq_false_iff.mpr c14
          subst c14
          have H1 : ((some (([a0] : List ByteArray) : List ByteArray)).bind fun y480 => ((foolscapseat_Place.f y480 0 a1).bind fun bt483 => ((chars_Seek.f kj6 y480 bt483.1 bt483.2 102 a2 (wrap64 ((wrap64 (Int.tmod a3 4)) + 1))).bind fun bt486 => ((chars_Seek.f kj6 y480 bt483.1 bt483.2 116 a2 (wrap64 ((wrap64 (Int.tmod a3 4)) + 1))).bind fun bt493 => (if (bt486.2.2.2.2.2 != bt493.2.2.2.2.2) = true then (some false) else (foolscaplaw7_CharsThere.l0 kj6 a0 a2 (wrap64 ((wrap64 (Int.tmod a3 4)) + 1)) bt486.2.2.2.2.2 0 (wrap64 (bt483.2 + 1)) bt486.1 bt486.2.1 bt486.2.2.1 bt486.2.2.2.1 bt486.2.2.2.2.1 bt493.1 bt493.2.1 bt493.2.2.1 bt493.2.2.2.1 bt493.2.2.2.2.1)))))) = some r := by rw [if_neg (show ¬ (false = true) by decide)] at H; exact H
          clear H
          have H := H1
          clear H1
          obtain ⟨y480, hy480⟩ : ∃ y_ : List ByteArray, y_ = (([a0] : List ByteArray)) := ⟨_, rfl⟩
          replace H : ((foolscapseat_Place.f y480 0 a1).bind fun bt483 => ((chars_Seek.f kj6 y480 bt483.1 bt483.2 102 a2 (wrap64 ((wrap64 (Int.tmod a3 4)) + 1))).bind fun bt486 => ((chars_Seek.f kj6 y480 bt483.1 bt483.2 116 a2 (wrap64 ((wrap64 (Int.tmod a3 4)) + 1))).bind fun bt493 => (if (bt486.2.2.2.2.2 != bt493.2.2.2.2.2) = true then (some false) else (foolscaplaw7_CharsThere.l0 kj6 a0 a2 (wrap64 ((wrap64 (Int.tmod a3 4)) + 1)) bt486.2.2.2.2.2 0 (wrap64 (bt483.2 + 1)) bt486.1 bt486.2.1 bt486.2.2.1 bt486.2.2.2.1 bt486.2.2.2.2.1 bt493.1 bt493.2.1 bt493.2.2.1 bt493.2.2.2.1 bt493.2.2.2.2.1))))) = some r := by first | (rw [hy480]; with_reducible exact H) | (have H2_ := (Option.bind_some _ _).symm.trans H; rw [hy480]; with_reducible exact H2_) | (have H2_ := (Option.bind_some _ _).symm.trans H; with_reducible exact H2_) | with_reducible exact H | (rw [hy480]; exact H) | exact H
          have Ny480 := Aside0.mk hy480
          clear hy480
          replace H := Option.bind_eq_some_iff.mp H
          obtain ⟨⟨t483, t484⟩, A150, H⟩ := H
          replace H : ((chars_Seek.f kj6 y480 t483 t484 102 a2 (wrap64 ((wrap64 (Int.tmod a3 4)) + 1))).bind fun bt486 => ((chars_Seek.f kj6 y480 t483 t484 116 a2 (wrap64 ((wrap64 (Int.tmod a3 4)) + 1))).bind fun bt493 => (if (bt486.2.2.2.2.2 != bt493.2.2.2.2.2) = true then (some false) else (foolscaplaw7_CharsThere.l0 kj6 a0 a2 (wrap64 ((wrap64 (Int.tmod a3 4)) + 1)) bt486.2.2.2.2.2 0 (wrap64 (t484 + 1)) bt486.1 bt486.2.1 bt486.2.2.1 bt486.2.2.2.1 bt486.2.2.2.2.1 bt493.1 bt493.2.1 bt493.2.2.1 bt493.2.2.2.1 bt493.2.2.2.2.1)))) = some r := H
          have A15 := Aside0.mk A150
          clear A150
          replace H := Option.bind_eq_some_iff.mp H
          obtain ⟨⟨t486, t487, t488, t489, t490, t491⟩, A160, H⟩ := H
          replace H : ((chars_Seek.f kj6 y480 t483 t484 116 a2 (wrap64 ((wrap64 (Int.tmod a3 4)) + 1))).bind fun bt493 => (if (t491 != bt493.2.2.2.2.2) = true then (some false) else (foolscaplaw7_CharsThere.l0 kj6 a0 a2 (wrap64 ((wrap64 (Int.tmod a3 4)) + 1)) t491 0 (wrap64 (t484 + 1)) t486 t487 t488 t489 t490 bt493.1 bt493.2.1 bt493.2.2.1 bt493.2.2.2.1 bt493.2.2.2.2.1))) = some r := H
          have A16 := Aside0.mk A160
          clear A160
          replace H := Option.bind_eq_some_iff.mp H
          obtain ⟨⟨t493, t494, t495, t496, t497, t498⟩, A170, H⟩ := H
          replace H : (if (t491 != t498) = true then (some false) else (foolscaplaw7_CharsThere.l0 kj6 a0 a2 (wrap64 ((wrap64 (Int.tmod a3 4)) + 1)) t491 0 (wrap64 (t484 + 1)) t486 t487 t488 t489 t490 t493 t494 t495 t496 t497)) = some r := H
          have A17 := Aside0.mk A170
          clear A170
          by_cases c18 : (t491 != t498) = true
          · rw [if_pos c18] at H
            have c18b0 : (t491 != t498) = true := c18
            (try (have c18b1 : decide (t491 = t498) = false := by simpa using c18))
            (try (have c18b2 : (t491 == t498) = false := by simpa using c18))
            (try (have c18b3 : ¬ (t491 = t498) := by simpa using c18))
            clear c18
            exact absurd ((Option.some.inj H).trans HT.out) (by decide)
          · rw [if_neg c18] at H
            have c18b0 : (t491 != t498) = false := by simpa using c18
            (try (have c18b1 : decide (t491 = t498) = true := by simpa using c18))
            (try (have c18b2 : (t491 == t498) = true := by simpa using c18))
            clear c18
            have H' := Aside0.mk H
            clear H
            go_wp2_with (first | ((with_reducible refine gate_dst (N := 30) rfl ?_); (try (refine gate_guard (by rfl) ?_; dsimp only)); refine Kd.R_lit Kd.string _ 9 ?hg (N := 30) ?hd (xs := ([a0] : List ByteArray)) (inner := [.string a0]) (ok := fun _ => True) (okp := fun _ => True) ?hr ?hp (fun _ hk => hk) trivial (Below.refl _ _) (Nat.le_refl _) (by simp) ?_; (case hd => rfl); (case hg => rfl); (case hr => first | (go_simp; done) | (go_simp; rfl)); (case hp => exact (Reps.one (show Kd.M Kd.string _ _ _ a0 [.string a0] from rfl) (Reps.none _ _))); intro v481 w35 ho36 hb hg_ hnew_; clear hg_ hnew_; (first | rw [← Ny480.out] at ho36 | (simp only [Int.reduceToNat] at ho36; rw [← Ny480.out] at ho36)); have n0_ := Aside0.mk (Kd.R_lower ho36 (below_size (by repeat (first | (with_reducible first | exact HB.out | apply below_alloc | apply pw_below_drewN | apply below_drew1) | exact HB.out)))); have n1_ := Aside0.mk (below_step (by repeat (first | (with_reducible first | exact HB.out | apply below_alloc | apply pw_below_drewN | apply below_drew1) | exact HB.out)) hb); clear HB; have HO482 := n0_; have HB := n1_; clear n0_ n1_; clear hb ho36; obtain ⟨Ao37, co37, eo37⟩ := Kd.R_slice HO482.out; subst eo37) | ((with_reducible refine gate_callee (f := 11) rfl ?_); refine goesL_ (some 33) rfl rfl Try.func11 (by kernel_rfl) rfl #[.slice Ao37 y480.length co37, .int .u16 0, .int .u16 a1] rfl (by (try simp only [List.map_toArray, List.map_cons, List.map_nil]); first | done | rfl | (simp only [List.length_drop, List.length_take]; rfl)) ?_; (with_reducible refine (foolscapseat_Place.calls _ _ y480 0 a1 t483 t484 _ ?side1 ?side2 A15.out).mono ?_); (case side1 => repeat (first | exact (Kd.R_reads' HO482.out).2.2 | (with_reducible refine Kd.C_alloc ?_ _) | (with_reducible refine Kd.C_drewN ?_ _) | (with_reducible refine Kd.C_drew ?_))); (case side2 => exact (Kd.R_reads' HO482.out).2.1); rintro e w38 ⟨rfl, hb⟩; refine ⟨_, rfl, ?_⟩; have n0_ := Aside0.mk (Kd.R_below (by (with_reducible repeat (first | apply Kd.R_alloc | apply Kd.R_drewN | apply Kd.R_drew)); exact HO482.out) hb); have n1_ := Aside0.mk (below_step (by repeat (first | (with_reducible first | exact HB.out | apply below_alloc | apply pw_below_drewN | apply below_drew1) | exact HB.out)) hb); clear HO482; clear HB; have HO482 := n0_; have HB := n1_; clear n0_ n1_; (try clear hb); (try clear hb2); (try clear hk); (try clear hi)) | ((with_reducible refine gate_dst (N := 10) rfl ?_); (try (refine gate_guard (by rfl) ?_; dsimp only)); refine box_event ?hg (N := 10) ?hd (cs := #[.int .i64 0, .int .i64 0]) (t := 24) ?hr ?_; (case hd => rfl); (case hg => rfl); (case hr => first | (go_simp; done) | (go_simp; rfl)); intro gb485 hg w39 hbox hb; have n0_ := Aside0.mk (Kd.R_below (by (with_reducible repeat (first | apply Kd.R_alloc | apply Kd.R_drewN | apply Kd.R_drew)); exact HO482.out) hb); have n1_ := Aside0.mk (below_step (by repeat (first | (with_reducible first | exact HB.out | apply below_alloc | apply pw_below_drewN | apply below_drew1) | exact HB.out)) hb); have n2_ := Aside0.mk (hbox); have n3_ := Aside0.mk ((by rw [hg]; exact (below_size (by repeat (first | (with_reducible first | exact HB.out | apply below_alloc | apply pw_below_drewN | apply below_drew1) | exact HB.out))) : w.heap.size ≤ gb485)); have n4_ := Aside0.mk ((by rw [hg]; exact (below_size (by repeat (first | (with_reducible first | exact HB.out | apply below_alloc | apply pw_below_drewN | apply below_drew1) | exact HB.out))) : w.heap.size ≤ gb485)); clear HO482; clear HB; have HO482 := n0_; have HB := n1_; have BK485 := n2_; have GW485 := n3_; have GE485 := n4_; clear n0_ n1_ n2_ n3_ n4_; clear hb hbox hg; have hcz40_0 : w39.cell? ⟨gb485, 0, none⟩ = some (.int .i64 0) := (blk_cell BK485.out 0).trans rfl; have hcz40_1 : w39.cell? ⟨gb485, 1, none⟩ = some (.int .i64 0) := (blk_cell BK485.out 1).trans rfl; have hfz40_0 := blk_frozen BK485.out 0; have hfz40_1 := blk_frozen BK485.out 1) | ((with_reducible refine gate_callee (f := 12) rfl ?_); refine goesL_ (some 43) rfl rfl Try.func12 (by kernel_rfl) rfl #[.slice Ao37 y480.length co37, .agg #[.int .i64 t483, .int .i64 t484], .int .u8 102, .int .u8 a2, .int .i64 (wrap64 ((wrap64 (Int.tmod a3 4)) + 1))] rfl (by (try simp only [List.map_toArray, List.map_cons, List.map_nil]); first | done | rfl | (simp only [List.length_drop, List.length_take]; rfl)) ?_; (with_reducible refine (chars_Seek.calls kj6 _ _ y480 t483 t484 102 a2 (wrap64 ((wrap64 (Int.tmod a3 4)) + 1)) t486 t487 t488 t489 t490 t491 _ ?side1 ?side2 A16.out).mono ?_); (case side1 => refine (Kd.R_reads' (e := 9) (base := w.heap.size) (ok := fun k_ => True) (n := y480.length) (c := co37) ?_).2.2; exact (by (with_reducible repeat (first | apply Kd.R_alloc | apply Kd.R_drewN | apply Kd.R_drew)); exact (Kd.R_mono (Kd.R_far (p := ⟨gb485, 1, none⟩) (Kd.R_far (p := ⟨gb485, 0, none⟩) (Kd.R_types HO482.out BK485.out (by decide)) (fun _ hk => hk.2) (.int .i64 t483)) (fun _ hk => hk.2) (.int .i64 t484)) (fun _ h_ => h_.1)))); (case side2 => exact (Kd.R_reads' HO482.out).2.1); rintro e w41 ⟨rfl, hb⟩; refine ⟨_, rfl, ?_⟩; have n0_ := Aside0.mk (Kd.R_below (by (with_reducible repeat (first | apply Kd.R_alloc | apply Kd.R_drewN | apply Kd.R_drew)); exact (Kd.R_mono (Kd.R_far (p := ⟨gb485, 1, none⟩) (Kd.R_far (p := ⟨gb485, 0, none⟩) (Kd.R_types HO482.out BK485.out (by decide)) (fun _ hk => hk.2) (.int .i64 t483)) (fun _ hk => hk.2) (.int .i64 t484)) (fun _ h_ => h_.1))) hb); have n1_ := Aside0.mk (blk_below (g := gb485) (o := .cells #[.int .i64 t483, .int .i64 t484] 24 (0, 0)) (by (with_reducible repeat (first | refine blk_drewN ?_ _ | refine blk_drew ?_ | refine blk_alloc ?_ _)); refine blk_put (cs := #[.int .i64 t483, .int .i64 0]) ?_ 1 _ rfl; (with_reducible repeat (first | refine blk_drewN ?_ _ | refine blk_drew ?_ | refine blk_alloc ?_ _)); refine blk_put (cs := #[.int .i64 0, .int .i64 0]) ?_ 0 _ rfl; (with_reducible repeat (first | refine blk_drewN ?_ _ | refine blk_drew ?_ | refine blk_alloc ?_ _)); exact BK485.out) hb); have n2_ := Aside0.mk (below_step (by repeat (first | (with_reducible first | exact HB.out | apply below_alloc | apply pw_below_drewN | apply below_drew1 | refine below_set ?_ GE485.out) | exact HB.out)) hb); clear HO482; clear BK485; clear HB; have HO482 := n0_; have BK485 := n1_; have HB := n2_; clear n0_ n1_ n2_; (try clear hb); (try clear hb2); (try clear hk); (try clear hi)) | ((with_reducible refine gate_dst (N := 12) rfl ?_); (try (refine gate_guard (by rfl) ?_; dsimp only)); refine box_event ?hg (N := 12) ?hd (cs := #[.int .i64 0, .int .i64 0, .int .i64 0, .bool false, .int .i64 0]) (t := 33) ?hr ?_; (case hd => rfl); (case hg => rfl); (case hr => first | (go_simp; done) | (go_simp; rfl)); intro gb492 hg w42 hbox hb; have n0_ := Aside0.mk (Kd.R_below (by (with_reducible repeat (first | apply Kd.R_alloc | apply Kd.R_drewN | apply Kd.R_drew)); exact HO482.out) hb); have n1_ := Aside0.mk (blk_below (g := gb485) (o := .cells #[.int .i64 t483, .int .i64 t484] 24 (0, 0)) (by (with_reducible repeat (first | refine blk_drewN ?_ _ | refine blk_drew ?_ | refine blk_alloc ?_ _)); exact BK485.out) hb); have n2_ := Aside0.mk (below_step (by repeat (first | (with_reducible first | exact HB.out | apply below_alloc | apply pw_below_drewN | apply below_drew1 | refine below_set ?_ GE485.out) | exact HB.out)) hb); have n3_ := Aside0.mk (hbox); have n4_ := Aside0.mk ((by rw [hg]; exact (below_size (by repeat (first | (with_reducible first | exact HB.out | apply below_alloc | apply pw_below_drewN | apply below_drew1 | refine below_set ?_ GE485.out) | exact HB.out))) : w.heap.size ≤ gb492)); have n5_ := Aside0.mk ((by rw [hg]; exact (below_size (by repeat (first | (with_reducible first | exact HB.out | apply below_alloc | apply pw_below_drewN | apply below_drew1 | refine below_set ?_ GE485.out) | exact HB.out))) : w.heap.size ≤ gb492)); have n6_ := Aside0.mk ((by rw [hg]; exact Nat.ne_of_lt (blk_lt (g := gb485) (o := .cells #[.int .i64 t483, .int .i64 t484] 24 (0, 0)) (by (with_reducible repeat (first | refine blk_drewN ?_ _ | refine blk_drew ?_ | refine blk_alloc ?_ _)); exact BK485.out)) : gb485 ≠ gb492)); have n7_ := Aside0.mk ((by rw [hg]; exact Nat.ne_of_gt (blk_lt (g := gb485) (o := .cells #[.int .i64 t483, .int .i64 t484] 24 (0, 0)) (by (with_reducible repeat (first | refine blk_drewN ?_ _ | refine blk_drew ?_ | refine blk_alloc ?_ _)); exact BK485.out)) : gb492 ≠ gb485)); clear HO482; clear BK485; clear HB; have HO482 := n0_; have BK485 := n1_; have HB := n2_; have BK492 := n3_; have GW492 := n4_; have GE492 := n5_; have NB485_492 := n6_; have NB492_485 := n7_; clear n0_ n1_ n2_ n3_ n4_ n5_ n6_ n7_; clear hb hbox hg; have hnb43 := NB492_485.out; have hnc43 := NB485_492.out; have hcz44_0 : w42.cell? ⟨gb492, 0, none⟩ = some (.int .i64 0) := (blk_cell BK492.out 0).trans rfl; have hcz44_1 : w42.cell? ⟨gb492, 1, none⟩ = some (.int .i64 0) := (blk_cell BK492.out 1).trans rfl; have hcz44_2 : w42.cell? ⟨gb492, 2, none⟩ = some (.int .i64 0) := (blk_cell BK492.out 2).trans rfl; have hcz44_3 : w42.cell? ⟨gb492, 3, none⟩ = some (.bool false) := (blk_cell BK492.out 3).trans rfl; have hcz44_4 : w42.cell? ⟨gb492, 4, none⟩ = some (.int .i64 0) := (blk_cell BK492.out 4).trans rfl; have hfz44_0 := blk_frozen BK492.out 0; have hfz44_1 := blk_frozen BK492.out 1; have hfz44_2 := blk_frozen BK492.out 2; have hfz44_3 := blk_frozen BK492.out 3; have hfz44_4 := blk_frozen BK492.out 4; have hcz45_0 : w42.cell? ⟨gb485, 0, none⟩ = some (.int .i64 t483) := (blk_cell BK485.out 0).trans rfl; have hcz45_1 : w42.cell? ⟨gb485, 1, none⟩ = some (.int .i64 t484) := (blk_cell BK485.out 1).trans rfl; have hfz45_0 := blk_frozen BK485.out 0; have hfz45_1 := blk_frozen BK485.out 1) | ((with_reducible refine gate_callee (f := 12) rfl ?_); refine goesL_ (some 51) rfl rfl Try.func12 (by kernel_rfl) rfl #[.slice Ao37 y480.length co37, .agg #[.int .i64 t483, .int .i64 t484], .int .u8 116, .int .u8 a2, .int .i64 (wrap64 ((wrap64 (Int.tmod a3 4)) + 1))] rfl (by (try simp only [List.map_toArray, List.map_cons, List.map_nil]); first | done | rfl | (simp only [List.length_drop, List.length_take]; rfl)) ?_; (with_reducible refine (chars_Seek.calls kj6 _ _ y480 t483 t484 116 a2 (wrap64 ((wrap64 (Int.tmod a3 4)) + 1)) t493 t494 t495 t496 t497 t498 _ ?side1 ?side2 A17.out).mono ?_); (case side1 => refine (Kd.R_reads' (e := 9) (base := w.heap.size) (ok := fun k_ => True) (n := y480.length) (c := co37) ?_).2.2; exact (by (with_reducible repeat (first | apply Kd.R_alloc | apply Kd.R_drewN | apply Kd.R_drew)); exact (Kd.R_mono (Kd.R_far (p := ⟨gb492, 4, none⟩) (Kd.R_far (p := ⟨gb492, 3, none⟩) (Kd.R_far (p := ⟨gb492, 2, none⟩) (Kd.R_far (p := ⟨gb492, 1, none⟩) (Kd.R_far (p := ⟨gb492, 0, none⟩) (Kd.R_types HO482.out BK492.out (by decide)) (fun _ hk => hk.2) (.int .i64 t486)) (fun _ hk => hk.2) (.int .i64 t487)) (fun _ hk => hk.2) (.int .i64 t488)) (fun _ hk => hk.2) (.bool t489)) (fun _ hk => hk.2) (.int .i64 t490)) (fun _ h_ => h_.1)))); (case side2 => exact (Kd.R_reads' HO482.out).2.1); rintro e w46 ⟨rfl, hb⟩; refine ⟨_, rfl, ?_⟩; have n0_ := Aside0.mk (Kd.R_below (by (with_reducible repeat (first | apply Kd.R_alloc | apply Kd.R_drewN | apply Kd.R_drew)); exact (Kd.R_mono (Kd.R_far (p := ⟨gb492, 4, none⟩) (Kd.R_far (p := ⟨gb492, 3, none⟩) (Kd.R_far (p := ⟨gb492, 2, none⟩) (Kd.R_far (p := ⟨gb492, 1, none⟩) (Kd.R_far (p := ⟨gb492, 0, none⟩) (Kd.R_types HO482.out BK492.out (by decide)) (fun _ hk => hk.2) (.int .i64 t486)) (fun _ hk => hk.2) (.int .i64 t487)) (fun _ hk => hk.2) (.int .i64 t488)) (fun _ hk => hk.2) (.bool t489)) (fun _ hk => hk.2) (.int .i64 t490)) (fun _ h_ => h_.1))) hb); have n1_ := Aside0.mk (blk_below (g := gb485) (o := .cells #[.int .i64 t483, .int .i64 t484] 24 (0, 0)) (by (with_reducible repeat (first | refine blk_drewN ?_ _ | refine blk_drew ?_ | refine blk_alloc ?_ _)); refine blk_far ?_ NB485_492.out _; (with_reducible repeat (first | refine blk_drewN ?_ _ | refine blk_drew ?_ | refine blk_alloc ?_ _)); refine blk_far ?_ NB485_492.out _; (with_reducible repeat (first | refine blk_drewN ?_ _ | refine blk_drew ?_ | refine blk_alloc ?_ _)); refine blk_far ?_ NB485_492.out _; (with_reducible repeat (first | refine blk_drewN ?_ _ | refine blk_drew ?_ | refine blk_alloc ?_ _)); refine blk_far ?_ NB485_492.out _; (with_reducible repeat (first | refine blk_drewN ?_ _ | refine blk_drew ?_ | refine blk_alloc ?_ _)); refine blk_far ?_ NB485_492.out _; (with_reducible repeat (first | refine blk_drewN ?_ _ | refine blk_drew ?_ | refine blk_alloc ?_ _)); exact BK485.out) hb); have n2_ := Aside0.mk (blk_below (g := gb492) (o := .cells #[.int .i64 t486, .int .i64 t487, .int .i64 t488, .bool t489, .int .i64 t490] 33 (0, 0)) (by (with_reducible repeat (first | refine blk_drewN ?_ _ | refine blk_drew ?_ | refine blk_alloc ?_ _)); refine blk_put (cs := #[.int .i64 t486, .int .i64 t487, .int .i64 t488, .bool t489, .int .i64 0]) ?_ 4 _ rfl; (with_reducible repeat (first | refine blk_drewN ?_ _ | refine blk_drew ?_ | refine blk_alloc ?_ _)); refine blk_put (cs := #[.int .i64 t486, .int .i64 t487, .int .i64 t488, .bool false, .int .i64 0]) ?_ 3 _ rfl; (with_reducible repeat (first | refine blk_drewN ?_ _ | refine blk_drew ?_ | refine blk_alloc ?_ _)); refine blk_put (cs := #[.int .i64 t486, .int .i64 t487, .int .i64 0, .bool false, .int .i64 0]) ?_ 2 _ rfl; (with_reducible repeat (first | refine blk_drewN ?_ _ | refine blk_drew ?_ | refine blk_alloc ?_ _)); refine blk_put (cs := #[.int .i64 t486, .int .i64 0, .int .i64 0, .bool false, .int .i64 0]) ?_ 1 _ rfl; (with_reducible repeat (first | refine blk_drewN ?_ _ | refine blk_drew ?_ | refine blk_alloc ?_ _)); refine blk_put (cs := #[.int .i64 0, .int .i64 0, .int .i64 0, .bool false, .int .i64 0]) ?_ 0 _ rfl; (with_reducible repeat (first | refine blk_drewN ?_ _ | refine blk_drew ?_ | refine blk_alloc ?_ _)); exact BK492.out) hb); have n3_ := Aside0.mk (below_step (by repeat (first | (with_reducible first | exact HB.out | apply below_alloc | apply pw_below_drewN | apply below_drew1 | refine below_set ?_ GE485.out | refine below_set ?_ GE492.out) | exact HB.out)) hb); clear HO482; clear BK485; clear BK492; clear HB; have HO482 := n0_; have BK485 := n1_; have BK492 := n2_; have HB := n3_; clear n0_ n1_ n2_ n3_; (try clear hb); (try clear hb2); (try clear hk); (try clear hi)) | ((with_reducible refine gate_dst (N := 14) rfl ?_); (try (refine gate_guard (by rfl) ?_; dsimp only)); refine box_event ?hg (N := 14) ?hd (cs := #[.int .i64 0, .int .i64 0, .int .i64 0, .bool false, .int .i64 0]) (t := 33) ?hr ?_; (case hd => rfl); (case hg => rfl); (case hr => first | (go_simp; done) | (go_simp; rfl)); intro gb499 hg w47 hbox hb; have n0_ := Aside0.mk (Kd.R_below (by (with_reducible repeat (first | apply Kd.R_alloc | apply Kd.R_drewN | apply Kd.R_drew)); exact HO482.out) hb); have n1_ := Aside0.mk (blk_below (g := gb485) (o := .cells #[.int .i64 t483, .int .i64 t484] 24 (0, 0)) (by (with_reducible repeat (first | refine blk_drewN ?_ _ | refine blk_drew ?_ | refine blk_alloc ?_ _)); exact BK485.out) hb); have n2_ := Aside0.mk (blk_below (g := gb492) (o := .cells #[.int .i64 t486, .int .i64 t487, .int .i64 t488, .bool t489, .int .i64 t490] 33 (0, 0)) (by (with_reducible repeat (first | refine blk_drewN ?_ _ | refine blk_drew ?_ | refine blk_alloc ?_ _)); exact BK492.out) hb); have n3_ := Aside0.mk (below_step (by repeat (first | (with_reducible first | exact HB.out | apply below_alloc | apply pw_below_drewN | apply below_drew1 | refine below_set ?_ GE485.out | refine below_set ?_ GE492.out) | exact HB.out)) hb); have n4_ := Aside0.mk (hbox); have n5_ := Aside0.mk ((by rw [hg]; exact (below_size (by repeat (first | (with_reducible first | exact HB.out | apply below_alloc | apply pw_below_drewN | apply below_drew1 | refine below_set ?_ GE485.out | refine below_set ?_ GE492.out) | exact HB.out))) : w.heap.size ≤ gb499)); have n6_ := Aside0.mk ((by rw [hg]; exact (below_size (by repeat (first | (with_reducible first | exact HB.out | apply below_alloc | apply pw_below_drewN | apply below_drew1 | refine below_set ?_ GE485.out | refine below_set ?_ GE492.out) | exact HB.out))) : w.heap.size ≤ gb499)); have n7_ := Aside0.mk ((by rw [hg]; exact Nat.ne_of_lt (blk_lt (g := gb485) (o := .cells #[.int .i64 t483, .int .i64 t484] 24 (0, 0)) (by (with_reducible repeat (first | refine blk_drewN ?_ _ | refine blk_drew ?_ | refine blk_alloc ?_ _)); exact BK485.out)) : gb485 ≠ gb499)); have n8_ := Aside0.mk ((by rw [hg]; exact Nat.ne_of_gt (blk_lt (g := gb485) (o := .cells #[.int .i64 t483, .int .i64 t484] 24 (0, 0)) (by (with_reducible repeat (first | refine blk_drewN ?_ _ | refine blk_drew ?_ | refine blk_alloc ?_ _)); exact BK485.out)) : gb499 ≠ gb485)); have n9_ := Aside0.mk ((by rw [hg]; exact Nat.ne_of_lt (blk_lt (g := gb492) (o := .cells #[.int .i64 t486, .int .i64 t487, .int .i64 t488, .bool t489, .int .i64 t490] 33 (0, 0)) (by (with_reducible repeat (first | refine blk_drewN ?_ _ | refine blk_drew ?_ | refine blk_alloc ?_ _)); exact BK492.out)) : gb492 ≠ gb499)); have n10_ := Aside0.mk ((by rw [hg]; exact Nat.ne_of_gt (blk_lt (g := gb492) (o := .cells #[.int .i64 t486, .int .i64 t487, .int .i64 t488, .bool t489, .int .i64 t490] 33 (0, 0)) (by (with_reducible repeat (first | refine blk_drewN ?_ _ | refine blk_drew ?_ | refine blk_alloc ?_ _)); exact BK492.out)) : gb499 ≠ gb492)); clear HO482; clear BK485; clear BK492; clear HB; have HO482 := n0_; have BK485 := n1_; have BK492 := n2_; have HB := n3_; have BK499 := n4_; have GW499 := n5_; have GE499 := n6_; have NB485_499 := n7_; have NB499_485 := n8_; have NB492_499 := n9_; have NB499_492 := n10_; clear n0_ n1_ n2_ n3_ n4_ n5_ n6_ n7_ n8_ n9_ n10_; clear hb hbox hg; have hnb48 := NB499_485.out; have hnc48 := NB485_499.out; have hnb49 := NB499_492.out; have hnc49 := NB492_499.out; have hcz50_0 : w47.cell? ⟨gb499, 0, none⟩ = some (.int .i64 0) := (blk_cell BK499.out 0).trans rfl; have hcz50_1 : w47.cell? ⟨gb499, 1, none⟩ = some (.int .i64 0) := (blk_cell BK499.out 1).trans rfl; have hcz50_2 : w47.cell? ⟨gb499, 2, none⟩ = some (.int .i64 0) := (blk_cell BK499.out 2).trans rfl; have hcz50_3 : w47.cell? ⟨gb499, 3, none⟩ = some (.bool false) := (blk_cell BK499.out 3).trans rfl; have hcz50_4 : w47.cell? ⟨gb499, 4, none⟩ = some (.int .i64 0) := (blk_cell BK499.out 4).trans rfl; have hfz50_0 := blk_frozen BK499.out 0; have hfz50_1 := blk_frozen BK499.out 1; have hfz50_2 := blk_frozen BK499.out 2; have hfz50_3 := blk_frozen BK499.out 3; have hfz50_4 := blk_frozen BK499.out 4; have hcz51_0 : w47.cell? ⟨gb485, 0, none⟩ = some (.int .i64 t483) := (blk_cell BK485.out 0).trans rfl; have hcz51_1 : w47.cell? ⟨gb485, 1, none⟩ = some (.int .i64 t484) := (blk_cell BK485.out 1).trans rfl; have hfz51_0 := blk_frozen BK485.out 0; have hfz51_1 := blk_frozen BK485.out 1))
            go_loopg [16, 17] kj6 (fun kq v16 v17 w' => ∃ (x16_2 : Int) (x17_2 : Int), v16 = .int .i64 x16_2 ∧ v17 = .int .i64 x17_2 ∧ Aside0 (foolscaplaw7_CharsThere.l0 kq a0 a2 (wrap64 ((wrap64 (Int.tmod a3 4)) + 1)) t491 x16_2 x17_2 t486 t487 t488 t489 t490 t493 t494 t495 t496 t497 = some r) ∧ Aside0 (kq ≤ kj6) ∧ Aside0 (w'.heap[gb485]? = some (.cells #[.int .i64 t483, .int .i64 t484] 24 (0, 0))) ∧ Aside0 (w'.heap[gb492]? = some (.cells #[.int .i64 t486, .int .i64 t487, .int .i64 t488, .bool t489, .int .i64 t490] 33 (0, 0))) ∧ Aside0 (w'.heap[gb499]? = some (.cells #[.int .i64 t493, .int .i64 t494, .int .i64 t495, .bool t496, .int .i64 t497] 33 (0, 0))) ∧ Aside0 (Below w.heap.size w w'))
            case atStart => exact ⟨(0), (wrap64 (t484 + 1)), (by first | rfl | (simp; done) | (simp [*]; done)), (by first | rfl | (simp; done) | (simp [*]; done)), H', ⟨Nat.le_refl _⟩, ⟨by (with_reducible repeat (first | refine blk_drewN ?_ _ | refine blk_drew ?_ | refine blk_alloc ?_ _)); refine blk_far ?_ NB485_499.out _; (with_reducible repeat (first | refine blk_drewN ?_ _ | refine blk_drew ?_ | refine blk_alloc ?_ _)); refine blk_far ?_ NB485_499.out _; (with_reducible repeat (first | refine blk_drewN ?_ _ | refine blk_drew ?_ | refine blk_alloc ?_ _)); refine blk_far ?_ NB485_499.out _; (with_reducible repeat (first | refine blk_drewN ?_ _ | refine blk_drew ?_ | refine blk_alloc ?_ _)); refine blk_far ?_ NB485_499.out _; (with_reducible repeat (first | refine blk_drewN ?_ _ | refine blk_drew ?_ | refine blk_alloc ?_ _)); refine blk_far ?_ NB485_499.out _; (with_reducible repeat (first | refine blk_drewN ?_ _ | refine blk_drew ?_ | refine blk_alloc ?_ _)); exact BK485.out⟩, ⟨by (with_reducible repeat (first | refine blk_drewN ?_ _ | refine blk_drew ?_ | refine blk_alloc ?_ _)); refine blk_far ?_ NB492_499.out _; (with_reducible repeat (first | refine blk_drewN ?_ _ | refine blk_drew ?_ | refine blk_alloc ?_ _)); refine blk_far ?_ NB492_499.out _; (with_reducible repeat (first | refine blk_drewN ?_ _ | refine blk_drew ?_ | refine blk_alloc ?_ _)); refine blk_far ?_ NB492_499.out _; (with_reducible repeat (first | refine blk_drewN ?_ _ | refine blk_drew ?_ | refine blk_alloc ?_ _)); refine blk_far ?_ NB492_499.out _; (with_reducible repeat (first | refine blk_drewN ?_ _ | refine blk_drew ?_ | refine blk_alloc ?_ _)); refine blk_far ?_ NB492_499.out _; (with_reducible repeat (first | refine blk_drewN ?_ _ | refine blk_drew ?_ | refine blk_alloc ?_ _)); exact BK492.out⟩, ⟨by (with_reducible repeat (first | refine blk_drewN ?_ _ | refine blk_drew ?_ | refine blk_alloc ?_ _)); refine blk_put (cs := #[.int .i64 t493, .int .i64 t494, .int .i64 t495, .bool t496, .int .i64 0]) ?_ 4 _ rfl; (with_reducible repeat (first | refine blk_drewN ?_ _ | refine blk_drew ?_ | refine blk_alloc ?_ _)); refine blk_put (cs := #[.int .i64 t493, .int .i64 t494, .int .i64 t495, .bool false, .int .i64 0]) ?_ 3 _ rfl; (with_reducible repeat (first | refine blk_drewN ?_ _ | refine blk_drew ?_ | refine blk_alloc ?_ _)); refine blk_put (cs := #[.int .i64 t493, .int .i64 t494, .int .i64 0, .bool false, .int .i64 0]) ?_ 2 _ rfl; (with_reducible repeat (first | refine blk_drewN ?_ _ | refine blk_drew ?_ | refine blk_alloc ?_ _)); refine blk_put (cs := #[.int .i64 t493, .int .i64 0, .int .i64 0, .bool false, .int .i64 0]) ?_ 1 _ rfl; (with_reducible repeat (first | refine blk_drewN ?_ _ | refine blk_drew ?_ | refine blk_alloc ?_ _)); refine blk_put (cs := #[.int .i64 0, .int .i64 0, .int .i64 0, .bool false, .int .i64 0]) ?_ 0 _ rfl; (with_reducible repeat (first | refine blk_drewN ?_ _ | refine blk_drew ?_ | refine blk_alloc ?_ _)); exact BK499.out⟩, ⟨by repeat (first | (with_reducible first | exact HB.out | apply below_alloc | apply pw_below_drewN | apply below_drew1 | refine below_set ?_ GE485.out | refine below_set ?_ GE492.out | refine below_set ?_ GE499.out) | exact HB.out)⟩⟩
            case round =>
              clear H'
              try clear c1
              try clear c2
              try clear p2
              try clear c3
              try clear c4
              try clear c5
              try clear c6
              try clear p6
              try clear c9
              try clear c9b0
              try clear c9b1
              try clear c11
              try clear c12
              try clear c14
              try clear c18
              try clear c18b0
              try clear c18b1
              try clear c18b2
              try clear c27
              try clear c32
              try clear c33
              try clear c43
              try clear c48
              try clear c49
              try clear hcz24_0
              try clear hcz24_1
              try clear hcz28_0
              try clear hcz28_1
              try clear hcz28_2
              try clear hcz28_3
              try clear hcz28_4
              try clear hcz29_0
              try clear hcz29_1
              try clear hcz34_0
              try clear hcz34_1
              try clear hcz34_2
              try clear hcz34_3
              try clear hcz34_4
              try clear hcz40_0
              try clear hcz40_1
              try clear hcz44_0
              try clear hcz44_1
              try clear hcz44_2
              try clear hcz44_3
              try clear hcz44_4
              try clear hcz45_0
              try clear hcz45_1
              try clear hcz50_0
              try clear hcz50_1
              try clear hcz50_2
              try clear hcz50_3
              try clear hcz50_4
              try clear hcz51_0
              try clear hcz51_1
              try clear hfz24_0
              try clear hfz24_1
              try clear hfz28_0
              try clear hfz28_1
              try clear hfz28_2
              try clear hfz28_3
              try clear hfz28_4
              try clear hfz29_0
              try clear hfz29_1
              try clear hfz34_0
              try clear hfz34_1
              try clear hfz34_2
              try clear hfz34_3
              try clear hfz34_4
              try clear hfz40_0
              try clear hfz40_1
              try clear hfz44_0
              try clear hfz44_1
              try clear hfz44_2
              try clear hfz44_3
              try clear hfz44_4
              try clear hfz45_0
              try clear hfz45_1
              try clear hfz50_0
              try clear hfz50_1
              try clear hfz50_2
              try clear hfz50_3
              try clear hfz50_4
              try clear hfz51_0
              try clear hfz51_1
              try clear p2
              obtain ⟨x16_2, x17_2, rfl, rfl, HA, HK2, BK485, BK492, BK499, HB⟩ := hrel
              cases gk with
              | zero => exact absurd HA.out (by simp [foolscaplaw7_CharsThere.l0])
              | succ k2 =>
                have H := HA.out
                clear HA
                simp only [foolscaplaw7_CharsThere.l0] at H
                by_cases c52 : x17_2 < (a0.size : Int)
                · rw [if_pos c52] at H
                  have c52b0 : decide (x17_2 < (a0.size : Int)) = true := decide_eq_true c52
                  clear c52
                  by_cases c53 : 0 ≤ x17_2
                  · rw [if_pos c53] at H
                    have c53b0 : decide (0 ≤ x17_2) = true := decide_eq_true c53
                    clear c53
                    by_cases c55 : (bt a0 x17_2) = a2
                    · rw [if_pos c55] at H
                      have c55b0 : ((bt a0 x17_2) == a2) = true := beq_iff_eq.mpr c55
                      have c55b1 : ((bt a0 x17_2) != a2) = false := bne_eq_false_iff_eq.mpr c55
                      clear c55
                      by_cases c56 : (wrap64 (x16_2 + 1)) = (wrap64 ((wrap64 (Int.tmod a3 4)) + 1))
                      · rw [if_pos c56] at H
                        have c56b0 : ((wrap64 (x16_2 + 1)) == (wrap64 ((wrap64 (Int.tmod a3 4)) + 1))) = true := beq_iff_eq.mpr c56
                        have c56b1 : ((wrap64 (x16_2 + 1)) != (wrap64 ((wrap64 (Int.tmod a3 4)) + 1))) = false := bne_eq_false_iff_eq.mpr c56
                        clear c56
                        by_cases c57 : t491 = true
                        · subst c57
                          have H1 : (if t487 = x17_2 then (some (t494 == (wrap64 (x17_2 - 1)))) else (some false)) = some r := by rw [if_pos rfl] at H; exact H
                          clear H
                          have H := H1
                          clear H1
                          by_cases c58 : t487 = x17_2
                          · rw [if_pos c58] at H
                            have c58b0 : (t487 == x17_2) = true := beq_iff_eq.mpr c58
                            have c58b1 : (t487 != x17_2) = false := bne_eq_false_iff_eq.mpr c58
                            clear c58
                            obtain rfl := Option.some.inj H
                            have p54 : 0 ≤ (x17_2 : Int) := of_decide_eq_true (by first | (with_reducible assumption) | assumption)
                            have q54 : x17_2 < (a0.size : Int) := of_decide_eq_true (by first | (with_reducible assumption) | assumption)
                            have hx54 := bt_at a0 x17_2
                            replace p54 := eq_true p54
                            replace q54 := eq_true q54
                            have hnb59 := NB492_485.out
                            have hnc59 := NB485_492.out
                            have hnb60 := NB492_499.out
                            have hnc60 := NB499_492.out
                            have hcz61_0 : wr.cell? ⟨gb492, 0, none⟩ = some (.int .i64 t486) := (blk_cell BK492.out 0).trans rfl
                            have hcz61_1 : wr.cell? ⟨gb492, 1, none⟩ = some (.int .i64 t487) := (blk_cell BK492.out 1).trans rfl
                            have hcz61_2 : wr.cell? ⟨gb492, 2, none⟩ = some (.int .i64 t488) := (blk_cell BK492.out 2).trans rfl
                            have hcz61_3 : wr.cell? ⟨gb492, 3, none⟩ = some (.bool t489) := (blk_cell BK492.out 3).trans rfl
                            have hcz61_4 : wr.cell? ⟨gb492, 4, none⟩ = some (.int .i64 t490) := (blk_cell BK492.out 4).trans rfl
                            have hfz61_0 := blk_frozen BK492.out 0
                            have hfz61_1 := blk_frozen BK492.out 1
                            have hfz61_2 := blk_frozen BK492.out 2
                            have hfz61_3 := blk_frozen BK492.out 3
                            have hfz61_4 := blk_frozen BK492.out 4
                            have hnb62 := NB499_485.out
                            have hnc62 := NB485_499.out
                            have hcz63_0 : wr.cell? ⟨gb499, 0, none⟩ = some (.int .i64 t493) := (blk_cell BK499.out 0).trans rfl
                            have hcz63_1 : wr.cell? ⟨gb499, 1, none⟩ = some (.int .i64 t494) := (blk_cell BK499.out 1).trans rfl
                            have hcz63_2 : wr.cell? ⟨gb499, 2, none⟩ = some (.int .i64 t495) := (blk_cell BK499.out 2).trans rfl
                            have hcz63_3 : wr.cell? ⟨gb499, 3, none⟩ = some (.bool t496) := (blk_cell BK499.out 3).trans rfl
                            have hcz63_4 : wr.cell? ⟨gb499, 4, none⟩ = some (.int .i64 t497) := (blk_cell BK499.out 4).trans rfl
                            have hfz63_0 := blk_frozen BK499.out 0
                            have hfz63_1 := blk_frozen BK499.out 1
                            have hfz63_2 := blk_frozen BK499.out 2
                            have hfz63_3 := blk_frozen BK499.out 3
                            have hfz63_4 := blk_frozen BK499.out 4
                            go_wp2
                            go_ret
                            exact ⟨by first | rfl | (simp [errW_none, errW_some] <;> rfl) | (simp [*, errW_none, errW_some] <;> rfl), by repeat (first | (with_reducible first | exact HB.out | apply below_alloc | apply pw_below_drewN | apply below_drew1 | refine below_set ?_ GE485.out | refine below_set ?_ GE492.out | refine below_set ?_ GE499.out) | exact HB.out)⟩
                          · rw [if_neg c58] at H
                            have c58b0 : (t487 == x17_2) = false := beq_eq_false_iff_ne.mpr c58
                            have c58b1 : (t487 != x17_2) = true := bne_iff_ne.mpr c58
                            exact absurd ((Option.some.inj H).trans HT.out) (by decide)
                        · replace c57 := Bool.eq_false_iff.mpr c57
                          subst c57
                          have H1 : (some false) = some r := by rw [if_neg (show ¬ (false = true) by decide)] at H; exact H
                          clear H
                          have H := H1
                          clear H1
                          exact absurd ((Option.some.inj H).trans HT.out) (by decide)
                      · rw [if_neg c56] at H
                        have c56b0 : ((wrap64 (x16_2 + 1)) == (wrap64 ((wrap64 (Int.tmod a3 4)) + 1))) = false := beq_eq_false_iff_ne.mpr c56
                        have c56b1 : ((wrap64 (x16_2 + 1)) != (wrap64 ((wrap64 (Int.tmod a3 4)) + 1))) = true := bne_iff_ne.mpr c56
                        have H' := Aside0.mk H
                        clear H
                        have p54 : 0 ≤ (x17_2 : Int) := of_decide_eq_true (by first | (with_reducible assumption) | assumption)
                        have q54 : x17_2 < (a0.size : Int) := of_decide_eq_true (by first | (with_reducible assumption) | assumption)
                        have hx54 := bt_at a0 x17_2
                        replace p54 := eq_true p54
                        replace q54 := eq_true q54
                        go_wp2
                        go_roundg k2
                        case measure => have := HJ6.out; have := HK2.out; omega
                        case rel => exact ⟨(wrap64 (x16_2 + 1)), (wrap64 (x17_2 + 1)), (by first | rfl | (simp; done) | (simp [*]; done)), (by first | rfl | (simp; done) | (simp [*]; done)), H', ⟨by have := HJ6.out; have := HK2.out; omega⟩, ⟨by (with_reducible repeat (first | refine blk_drewN ?_ _ | refine blk_drew ?_ | refine blk_alloc ?_ _)); exact BK485.out⟩, ⟨by (with_reducible repeat (first | refine blk_drewN ?_ _ | refine blk_drew ?_ | refine blk_alloc ?_ _)); exact BK492.out⟩, ⟨by (with_reducible repeat (first | refine blk_drewN ?_ _ | refine blk_drew ?_ | refine blk_alloc ?_ _)); exact BK499.out⟩, ⟨by repeat (first | (with_reducible first | exact HB.out | apply below_alloc | apply pw_below_drewN | apply below_drew1 | refine below_set ?_ GE485.out | refine below_set ?_ GE492.out | refine below_set ?_ GE499.out) | exact HB.out)⟩⟩
                    · rw [if_neg c55] at H
                      have c55b0 : ((bt a0 x17_2) == a2) = false := beq_eq_false_iff_ne.mpr c55
                      have c55b1 : ((bt a0 x17_2) != a2) = true := bne_iff_ne.mpr c55
                      have H' := Aside0.mk H
                      clear H
                      have p54 : 0 ≤ (x17_2 : Int) := of_decide_eq_true (by first | (with_reducible assumption) | assumption)
                      have q54 : x17_2 < (a0.size : Int) := of_decide_eq_true (by first | (with_reducible assumption) | assumption)
                      have hx54 := bt_at a0 x17_2
                      replace p54 := eq_true p54
                      replace q54 := eq_true q54
                      go_wp2
                      go_roundg k2
                      case measure => have := HJ6.out; have := HK2.out; omega
                      case rel => exact ⟨(x16_2), (wrap64 (x17_2 + 1)), (by first | rfl | (simp; done) | (simp [*]; done)), (by first | rfl | (simp; done) | (simp [*]; done)), H', ⟨by have := HJ6.out; have := HK2.out; omega⟩, ⟨by (with_reducible repeat (first | refine blk_drewN ?_ _ | refine blk_drew ?_ | refine blk_alloc ?_ _)); exact BK485.out⟩, ⟨by (with_reducible repeat (first | refine blk_drewN ?_ _ | refine blk_drew ?_ | refine blk_alloc ?_ _)); exact BK492.out⟩, ⟨by (with_reducible repeat (first | refine blk_drewN ?_ _ | refine blk_drew ?_ | refine blk_alloc ?_ _)); exact BK499.out⟩, ⟨by repeat (first | (with_reducible first | exact HB.out | apply below_alloc | apply pw_below_drewN | apply below_drew1 | refine below_set ?_ GE485.out | refine below_set ?_ GE492.out | refine below_set ?_ GE499.out) | exact HB.out)⟩⟩
                  · rw [if_neg c53] at H
                    exact absurd H (by simp)
                · rw [if_neg c52] at H
                  have c52b0 : decide (x17_2 < (a0.size : Int)) = false := decide_eq_false c52
                  clear c52
                  obtain rfl := Option.some.inj H
                  go_wp2
                  go_ret
                  exact ⟨by first | rfl | (simp [errW_none, errW_some] <;> rfl) | (simp [*, errW_none, errW_some] <;> rfl), by repeat (first | (with_reducible first | exact HB.out | apply below_alloc | apply pw_below_drewN | apply below_drew1 | refine below_set ?_ GE485.out | refine below_set ?_ GE492.out | refine below_set ?_ GE499.out) | exact HB.out)⟩
  · replace c6 := Bool.eq_false_iff.mpr c6
    subst c6
    have H1 : (some false) = some r := by rw [if_neg (show ¬ (false = true) by decide)] at H; exact H
    clear H
    have H := H1
    clear H1
    exact absurd ((Option.some.inj H).trans HT.out) (by decide)

end Go.Proofs.Ytdiakjamahdcfaa.V
