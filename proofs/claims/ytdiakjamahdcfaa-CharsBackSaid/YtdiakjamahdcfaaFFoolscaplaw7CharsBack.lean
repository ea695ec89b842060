-- The contract of a law's function, out of the kit's print, cut by this session (truetrim.py) to the answer 'true'.
import Derived.Test.YtdiakjamahdcfaaVb
import Derived.Test.YtdiakjamahdcfaaFCharsSeek
import Derived.Test.YtdiakjamahdcfaaFFoolscaplaw7Known
import Derived.Test.YtdiakjamahdcfaaFFoolscaphelpText
import Derived.Test.YtdiakjamahdcfaaFFoolscapseatPlace
namespace Go.Proofs.Ytdiakjamahdcfaa.V
open Go.RowKit Go.Proofs.YtdiakjamahdcfaaW.PrintWords Go.Proofs.YtdiakjamahdcfaaW.PrintLast Go.Proofs.YtdiakjamahdcfaaW.PrintMore
attribute [local go_sem] max2_int min2_int max_two min_two max_three min_three max_four min_four   -- for this text's walks alone
set_option linter.unusedVariables false
set_option linter.unusedSimpArgs false
attribute [local go_sem high] eqA24

/-! ### foolscaplaw7_CharsBack: function 7 -/
def foolscaplaw7_CharsBack.f (k : Nat) (l0 : List ByteArray) (a1 : Int) (a2 : Int) (a3 : Int) : Option (Bool) := (foolscaplaw7_known.f k).bind fun t534 => (if t534 = true then ((foolscaphelp_Text.f k l0).bind fun t535 => (if t535 = true then ((foolscapseat_Place.f l0 a1 a2).bind fun bt536 => (if 0 ≤ bt536.1 then (if bt536.1 < (l0.length : Int) then (if bt536.2 ≥ ((rdOf ByteArray.empty l0 bt536.1).size : Int) then (some true) else (if 0 ≤ bt536.2 then (if bt536.2 < ((rdOf ByteArray.empty l0 bt536.1).size : Int) then ((chars_Seek.f k l0 bt536.1 bt536.2 102 (bt (rdOf ByteArray.empty l0 bt536.1) bt536.2) (wrap64 ((wrap64 (Int.tmod a3 3)) + 1))).bind fun bt540 => (if bt540.2.2.2.2.2 = true then ((chars_Seek.f k l0 bt540.1 bt540.2.1 70 (bt (rdOf ByteArray.empty l0 bt536.1) bt536.2) (wrap64 ((wrap64 (Int.tmod a3 3)) + 1))).bind fun bt547 => (if bt547.2.2.2.2.2 = true then (if (bt547.1 == bt536.1 && (bt547.2.1 == bt536.2)) = true then (if bt540.2.2.1 = 1 then (some (bt547.2.2.1 == 0)) else (some false)) else (some false)) else (some false))) else (some true))) else (none)) else (none))) else (none)) else (none))) else (some true))) else (some false))
theorem foolscaplaw7_CharsBack.mono : ∀ a0 a1 a2 a3 k, LeO (foolscaplaw7_CharsBack.f k a0 a1 a2 a3) (foolscaplaw7_CharsBack.f (k + 1) a0 a1 a2 a3) := by
  intro a0 a1 a2 a3 k
  unfold foolscaplaw7_CharsBack.f
  repeat' first
      | (with_reducible exact chars_Seek.mono _ _ _ _ _ _ _)
      | (with_reducible exact foolscaphelp_Text.mono _ _)
      | (with_reducible exact foolscaplaw7_known.mono _)
      | (with_reducible exact LeO.refl _)
      | (with_reducible exact LeO.none _)
      | (with_reducible refine LeO.ite ?_ ?_)
      | (with_reducible refine LeO.bind ?_ (fun _ => ?_))
      | exact chars_Seek.mono _ _ _ _ _ _ _
      | exact foolscaphelp_Text.mono _ _
      | exact foolscaplaw7_known.mono _
      | exact LeO.none _
      | refine LeO.ite ?_ ?_
      | refine LeO.bind ?_ (fun _ => ?_)
def foolscaplaw7_CharsBack.T10 : Bool × List (List Nat × List Nat) := (true, [([], []), ([], []), ([], []), ([], []), ([3], [3]), ([2, 4], [2, 4]), ([], []), ([0, 1, 5, 6], [0, 1, 5, 6]), ([7], [7]), ([8], [8]), ([8], [8]), ([], []), ([11, 9, 7, 0, 1, 2, 3, 4, 5, 6, 7, 8, 9, 11], [9, 11]), ([10, 12, 0, 1, 2, 3, 4, 5, 6, 7, 8, 9, 10, 11, 12], [10])])
def foolscaplaw7_CharsBack.B10 : List Nat := [0, 0, 0, 0, 8, 28, 0, 127, 255, 511, 511, 0, 3071, 8191]
theorem foolscaplaw7_CharsBack.tab10 : rtab .any (opsOf Try.f7 10) = foolscaplaw7_CharsBack.T10 := by kernel_rfl
theorem foolscaplaw7_CharsBack.bits10 : waitsOk foolscaplaw7_CharsBack.T10.2 foolscaplaw7_CharsBack.B10 = true := by kernel_rfl
def foolscaplaw7_CharsBack.T13 : Bool × List (List Nat × List Nat) := (true, [([], []), ([], []), ([1], [1]), ([], []), ([], []), ([4], [4]), ([3, 5], [3, 5]), ([], []), ([0, 2, 6, 7], [0, 2, 6, 7]), ([8], [8]), ([9], [9]), ([9], [9]), ([], []), ([12, 10, 8, 0, 1, 2, 3, 4, 5, 6, 7, 8, 9, 10, 12], [10, 12]), ([11, 13, 0, 1, 2, 3, 4, 5, 6, 7, 8, 9, 10, 11, 12, 13], [11])])
def foolscaplaw7_CharsBack.B13 : List Nat := [0, 0, 2, 0, 0, 16, 56, 0, 255, 511, 1023, 1023, 0, 6143, 16383]
theorem foolscaplaw7_CharsBack.tab13 : rtab .any (opsOf Try.f7 13) = foolscaplaw7_CharsBack.T13 := by kernel_rfl
theorem foolscaplaw7_CharsBack.bits13 : waitsOk foolscaplaw7_CharsBack.T13.2 foolscaplaw7_CharsBack.B13 = true := by kernel_rfl
set_option maxHeartbeats 8000000 in
set_option maxRecDepth 100000 in
theorem foolscaplaw7_CharsBack.calls (k : Nat) (A0 : Option Addr) (c0 : Nat) (l0 : List ByteArray) (a1 : Int) (a2 : Int) (a3 : Int) (r : Bool) (w : World) (hr0 : Kd.C Kd.string w A0 l0.length l0) (hc0 : l0.length ≤ c0) (h : foolscaplaw7_CharsBack.f k l0 a1 a2 a3 = some r) (hrT : r = true) :
    Calls Try.prog 7 #[.slice A0 l0.length c0, .int .u16 a1, .int .u16 a2, .int .u8 a3] w fun e w' => e = .returned (.bool r) ∧ Below w.heap.size w w' := by
  have HT := Aside0.mk hrT
  clear hrT
  have hu24 := Try.underlying24
  have hu33 := Try.underlying33
  have HR0 := Aside0.mk hr0
  have HC0 := Aside0.mk hc0
  clear hr0 hc0
  have HB := Aside0.mk (Below.refl w.heap.size w)
  have H : ((foolscaplaw7_known.f k).bind fun t534 => (if t534 = true then ((foolscaphelp_Text.f k l0).bind fun t535 => (if t535 = true then ((foolscapseat_Place.f l0 a1 a2).bind fun bt536 => (if 0 ≤ bt536.1 then (if bt536.1 < (l0.length : Int) then (if bt536.2 ≥ ((rdOf ByteArray.empty l0 bt536.1).size : Int) then (some true) else (if 0 ≤ bt536.2 then (if bt536.2 < ((rdOf ByteArray.empty l0 bt536.1).size : Int) then ((chars_Seek.f k l0 bt536.1 bt536.2 102 (bt (rdOf ByteArray.empty l0 bt536.1) bt536.2) (wrap64 ((wrap64 (Int.tmod a3 3)) + 1))).bind fun bt540 => (if bt540.2.2.2.2.2 = true then ((chars_Seek.f k l0 bt540.1 bt540.2.1 70 (bt (rdOf ByteArray.empty l0 bt536.1) bt536.2) (wrap64 ((wrap64 (Int.tmod a3 3)) + 1))).bind fun bt547 => (if bt547.2.2.2.2.2 = true then (if (bt547.1 == bt536.1 && (bt547.2.1 == bt536.2)) = true then (if bt540.2.2.1 = 1 then (some (bt547.2.2.1 == 0)) else (some false)) else (some false)) else (some false))) else (some true))) else (none)) else (none))) else (none)) else (none))) else (some true))) else (some false))) = some r := h
  clear h
  replace H := Option.bind_eq_some_iff.mp H
  obtain ⟨t534, A50, H⟩ := H
  replace H : (if t534 = true then ((foolscaphelp_Text.f k l0).bind fun t535 => (if t535 = true then ((foolscapseat_Place.f l0 a1 a2).bind fun bt536 => (if 0 ≤ bt536.1 then (if bt536.1 < (l0.length : Int) then (if bt536.2 ≥ ((rdOf ByteArray.empty l0 bt536.1).size : Int) then (some true) else (if 0 ≤ bt536.2 then (if bt536.2 < ((rdOf ByteArray.empty l0 bt536.1).size : Int) then ((chars_Seek.f k l0 bt536.1 bt536.2 102 (bt (rdOf ByteArray.empty l0 bt536.1) bt536.2) (wrap64 ((wrap64 (Int.tmod a3 3)) + 1))).bind fun bt540 => (if bt540.2.2.2.2.2 = true then ((chars_Seek.f k l0 bt540.1 bt540.2.1 70 (bt (rdOf ByteArray.empty l0 bt536.1) bt536.2) (wrap64 ((wrap64 (Int.tmod a3 3)) + 1))).bind fun bt547 => (if bt547.2.2.2.2.2 = true then (if (bt547.1 == bt536.1 && (bt547.2.1 == bt536.2)) = true then (if bt540.2.2.1 = 1 then (some (bt547.2.2.1 == 0)) else (some false)) else (some false)) else (some false))) else (some true))) else (none)) else (none))) else (none)) else (none))) else (some true))) else (some false)) = some r := H
  have A5 := Aside0.mk A50
  clear A50
  by_cases c6 : t534 = true
  · subst c6
    have H1 : ((foolscaphelp_Text.f k l0).bind fun t535 => (if t535 = true then ((foolscapseat_Place.f l0 a1 a2).bind fun bt536 => (if 0 ≤ bt536.1 then (if bt536.1 < (l0.length : Int) then (if bt536.2 ≥ ((rdOf ByteArray.empty l0 bt536.1).size : Int) then (some true) else (if 0 ≤ bt536.2 then (if bt536.2 < ((rdOf ByteArray.empty l0 bt536.1).size : Int) then ((chars_Seek.f k l0 bt536.1 bt536.2 102 (bt (rdOf ByteArray.empty l0 bt536.1) bt536.2) (wrap64 ((wrap64 (Int.tmod a3 3)) + 1))).bind fun bt540 => (if bt540.2.2.2.2.2 = true then ((chars_Seek.f k l0 bt540.1 bt540.2.1 70 (bt (rdOf ByteArray.empty l0 bt536.1) bt536.2) (wrap64 ((wrap64 (Int.tmod a3 3)) + 1))).bind fun bt547 => (if bt547.2.2.2.2.2 = true then (if (bt547.1 == bt536.1 && (bt547.2.1 == bt536.2)) = true then (if bt540.2.2.1 = 1 then (some (bt547.2.2.1 == 0)) else (some false)) else (some false)) else (some false))) else (some true))) else (none)) else (none))) else (none)) else (none))) else (some true))) = some r := by rw [if_pos rfl] at H; exact H
    clear H
    have H := H1
    clear H1
    replace H := Option.bind_eq_some_iff.mp H
    obtain ⟨t535, A70, H⟩ := H
    replace H : (if t535 = true then ((foolscapseat_Place.f l0 a1 a2).bind fun bt536 => (if 0 ≤ bt536.1 then (if bt536.1 < (l0.length : Int) then (if bt536.2 ≥ ((rdOf ByteArray.empty l0 bt536.1).size : Int) then (some true) else (if 0 ≤ bt536.2 then (if bt536.2 < ((rdOf ByteArray.empty l0 bt536.1).size : Int) then ((chars_Seek.f k l0 bt536.1 bt536.2 102 (bt (rdOf ByteArray.empty l0 bt536.1) bt536.2) (wrap64 ((wrap64 (Int.tmod a3 3)) + 1))).bind fun bt540 => (if bt540.2.2.2.2.2 = true then ((chars_Seek.f k l0 bt540.1 bt540.2.1 70 (bt (rdOf ByteArray.empty l0 bt536.1) bt536.2) (wrap64 ((wrap64 (Int.tmod a3 3)) + 1))).bind fun bt547 => (if bt547.2.2.2.2.2 = true then (if (bt547.1 == bt536.1 && (bt547.2.1 == bt536.2)) = true then (if bt540.2.2.1 = 1 then (some (bt547.2.2.1 == 0)) else (some false)) else (some false)) else (some false))) else (some true))) else (none)) else (none))) else (none)) else (none))) else (some true)) = some r := H
    have A7 := Aside0.mk A70
    clear A70
    by_cases c8 : t535 = true
    · subst c8
      have H1 : ((foolscapseat_Place.f l0 a1 a2).bind fun bt536 => (if 0 ≤ bt536.1 then (if bt536.1 < (l0.length : Int) then (if bt536.2 ≥ ((rdOf ByteArray.empty l0 bt536.1).size : Int) then (some true) else (if 0 ≤ bt536.2 then (if bt536.2 < ((rdOf ByteArray.empty l0 bt536.1).size : Int) then ((chars_Seek.f k l0 bt536.1 bt536.2 102 (bt (rdOf ByteArray.empty l0 bt536.1) bt536.2) (wrap64 ((wrap64 (Int.tmod a3 3)) + 1))).bind fun bt540 => (if bt540.2.2.2.2.2 = true then ((chars_Seek.f k l0 bt540.1 bt540.2.1 70 (bt (rdOf ByteArray.empty l0 bt536.1) bt536.2) (wrap64 ((wrap64 (Int.tmod a3 3)) + 1))).bind fun bt547 => (if bt547.2.2.2.2.2 = true then (if (bt547.1 == bt536.1 && (bt547.2.1 == bt536.2)) = true then (if bt540.2.2.1 = 1 then (some (bt547.2.2.1 == 0)) else (some false)) else (some false)) else (some false))) else (some true))) else (none)) else (none))) else (none)) else (none))) = some r := by rw [if_pos rfl] at H; exact H
      clear H
      have H := H1
      clear H1
      replace H := Option.bind_eq_some_iff.mp H
      obtain ⟨⟨t536, t537⟩, A90, H⟩ := H
      replace H : (if 0 ≤ t536 then (if t536 < (l0.length : Int) then (if t537 ≥ ((rdOf ByteArray.empty l0 t536).size : Int) then (some true) else (if 0 ≤ t537 then (if t537 < ((rdOf ByteArray.empty l0 t536).size : Int) then ((chars_Seek.f k l0 t536 t537 102 (bt (rdOf ByteArray.empty l0 t536) t537) (wrap64 ((wrap64 (Int.tmod a3 3)) + 1))).bind fun bt540 => (if bt540.2.2.2.2.2 = true then ((chars_Seek.f k l0 bt540.1 bt540.2.1 70 (bt (rdOf ByteArray.empty l0 t536) t537) (wrap64 ((wrap64 (Int.tmod a3 3)) + 1))).bind fun bt547 => (if bt547.2.2.2.2.2 = true then (if (bt547.1 == t536 && (bt547.2.1 == t537)) = true then (if bt540.2.2.1 = 1 then (some (bt547.2.2.1 == 0)) else (some false)) else (some false)) else (some false))) else (some true))) else (none)) else (none))) else (none)) else (none)) = some r := H
      have A9 := Aside0.mk A90
      clear A90
      by_cases c10 : 0 ≤ t536
      · rw [if_pos c10] at H
        have c10b0 : decide (0 ≤ t536) = true := decide_eq_true c10
        clear c10
        by_cases c11 : t536 < (l0.length : Int)
        · rw [if_pos c11] at H
          have c11b0 : decide (t536 < (l0.length : Int)) = true := decide_eq_true c11
          clear c11
          by_cases c12 : t537 ≥ ((rdOf ByteArray.empty l0 t536).size : Int)
          · rw [if_pos c12] at H
            have c12b0 : decide (((rdOf ByteArray.empty l0 t536).size : Int) ≤ t537) = true := decide_eq_true c12
            clear c12
            obtain rfl := Option.some.inj H
            go_enter Try.func7, Try.ntmps7
            go_wp2_with (first | ((with_reducible refine gate_callee (f := 9) rfl ?_); refine goesL_ (some 16) rfl rfl Try.func9 (by kernel_rfl) rfl #[] rfl (by (try simp only [List.map_toArray, List.map_cons, List.map_nil]); first | done | rfl | (simp only [List.length_drop, List.length_take]; rfl)) ?_; (with_reducible refine (foolscaplaw7_known.calls k  true _ A5.out rfl).mono ?_); rintro e w13 ⟨rfl, hb⟩; refine ⟨_, rfl, ?_⟩; have n0_ := Aside0.mk (below_step (by repeat (first | (with_reducible first | exact HB.out | apply below_alloc | apply pw_below_drewN | apply below_drew1) | exact HB.out)) hb); clear HB; have HB := n0_; clear n0_; (try clear hb); (try clear hb2); (try clear hk); (try clear hi)) | ((with_reducible refine gate_callee (f := 10) rfl ?_); refine goesL_ (some 19) rfl rfl Try.func10 (by kernel_rfl) rfl #[.slice A0 l0.length c0] rfl (by (try simp only [List.map_toArray, List.map_cons, List.map_nil]); first | done | rfl | (simp only [List.length_drop, List.length_take]; rfl)) ?_; (with_reducible refine (foolscaphelp_Text.calls k _ _ l0 true _ ?side1 ?side2 A7.out).mono ?_); (case side1 => repeat (first | exact (Kd.C_below HR0.out HB.out) | (with_reducible refine Kd.C_alloc ?_ _) | (with_reducible refine Kd.C_drewN ?_ _) | (with_reducible refine Kd.C_drew ?_))); (case side2 => exact HC0.out); rintro e w' ⟨rfl, ⟨nd, rfl⟩⟩; refine ⟨_, rfl, ?_⟩; (try (rw [drewN_self w13]; generalize hq_ : World.drewN w13 _ = w13; have n0_ : Aside0 (Below w.heap.size w w13) := ⟨by rw [← hq_]; exact (by repeat (first | (with_reducible first | exact HB.out | apply below_alloc | apply pw_below_drewN | apply below_drew1) | exact HB.out))⟩; clear HB hq_; have HB := n0_; clear n0_))) | ((with_reducible refine gate_callee (f := 11) rfl ?_); refine goesL_ (some 24) rfl rfl Try.func11 (by kernel_rfl) rfl #[.slice A0 l0.length c0, .int .u16 a1, .int .u16 a2] rfl (by (try simp only [List.map_toArray, List.map_cons, List.map_nil]); first | done | rfl | (simp only [List.length_drop, List.length_take]; rfl)) ?_; (with_reducible refine (foolscapseat_Place.calls _ _ l0 a1 a2 t536 t537 _ ?side1 ?side2 A9.out).mono ?_); (case side1 => repeat (first | exact (Kd.C_below HR0.out HB.out) | (with_reducible refine Kd.C_alloc ?_ _) | (with_reducible refine Kd.C_drewN ?_ _) | (with_reducible refine Kd.C_drew ?_))); (case side2 => exact HC0.out); rintro e w14 ⟨rfl, hb⟩; refine ⟨_, rfl, ?_⟩; have n0_ := Aside0.mk (below_step (by repeat (first | (with_reducible first | exact HB.out | apply below_alloc | apply pw_below_drewN | apply below_drew1) | exact HB.out)) hb); clear HB; have HB := n0_; clear n0_; (try clear hb); (try clear hb2); (try clear hk); (try clear hi)) | ((with_reducible refine gate_dst (N := 9) rfl ?_); refine box_event ?hg (N := 9) ?hd (cs := #[.int .i64 0, .int .i64 0]) (t := 24) ?hr ?_; (case hd => rfl); (case hg => rfl); (case hr => first | (go_simp; done) | (go_simp; rfl)); intro gb538 hg w15 hbox hb; have n0_ := Aside0.mk (below_step (by repeat (first | (with_reducible first | exact HB.out | apply below_alloc | apply pw_below_drewN | apply below_drew1) | exact HB.out)) hb); have n1_ := Aside0.mk (hbox); have n2_ := Aside0.mk ((by rw [hg]; exact (below_size (by repeat (first | (with_reducible first | exact HB.out | apply below_alloc | apply pw_below_drewN | apply below_drew1) | exact HB.out))) : w.heap.size ≤ gb538)); have n3_ := Aside0.mk ((by rw [hg]; exact (below_size (by repeat (first | (with_reducible first | exact HB.out | apply below_alloc | apply pw_below_drewN | apply below_drew1) | exact HB.out))) : w.heap.size ≤ gb538)); clear HB; have HB := n0_; have BK538 := n1_; have GW538 := n2_; have GE538 := n3_; clear n0_ n1_ n2_ n3_; clear hb hbox hg; have hcz16_0 : w15.cell? ⟨gb538, 0, none⟩ = some (.int .i64 0) := (blk_cell BK538.out 0).trans rfl; have hcz16_1 : w15.cell? ⟨gb538, 1, none⟩ = some (.int .i64 0) := (blk_cell BK538.out 1).trans rfl; have hfz16_0 := blk_frozen BK538.out 0; have hfz16_1 := blk_frozen BK538.out 1; have p539 : 0 ≤ (t536 : Int) := of_decide_eq_true (by first | (with_reducible assumption) | assumption); have q539 : t536 < (l0.length : Int) := of_decide_eq_true (by first | (with_reducible assumption) | assumption); obtain ⟨ad539, e539, hx539_0⟩ := Kd.at_string HR0.out t536 p539 q539; cases e539; have hn539_0 : ad539.block ≠ gb538 := Nat.ne_of_lt (Nat.lt_of_lt_of_le (by have := World.block_lt_of_cell? _ _ hx539_0; first | rwa [add_block] at this | exact this) GW538.out); have hn539_1 : ad539.block ≠ gb538 := Nat.ne_of_lt (Nat.lt_of_lt_of_le (by have := World.block_lt_of_cell? _ _ hx539_0; first | rwa [add_block] at this | exact this) GW538.out); replace hx539_0 := (HB.out.cell (World.block_lt_of_cell? w _ hx539_0)).trans hx539_0; replace hx539_0 := (cell_far (p := ⟨gb538, 0, none⟩) (by first | (rw [add_block]; exact hn539_0) | (show (Addr.add _ _).block ≠ _; rw [add_block]; exact hn539_0) | exact hn539_0) (.int .i64 t536)).trans hx539_0; replace hx539_0 := (cell_far (p := ⟨gb538, 1, none⟩) (by first | (rw [add_block]; exact hn539_1) | (show (Addr.add _ _).block ≠ _; rw [add_block]; exact hn539_1) | exact hn539_1) (.int .i64 t537)).trans hx539_0; clear hn539_0; clear hn539_1; replace p539 := eq_true p539; replace q539 := eq_true q539))
            go_ret
            exact ⟨by first | rfl | (simp [errW_none, errW_some] <;> rfl) | (simp [*, errW_none, errW_some] <;> rfl), by repeat (first | (with_reducible first | exact HB.out | apply below_alloc | apply pw_below_drewN | apply below_drew1 | refine below_set ?_ GE538.out) | exact HB.out)⟩
          · rw [if_neg c12] at H
            have c12b0 : decide (((rdOf ByteArray.empty l0 t536).size : Int) ≤ t537) = false := decide_eq_false c12
            clear c12
            by_cases c17 : 0 ≤ t537
            · rw [if_pos c17] at H
              have c17b0 : decide (0 ≤ t537) = true := decide_eq_true c17
              clear c17
              by_cases c18 : t537 < ((rdOf ByteArray.empty l0 t536).size : Int)
              · rw [if_pos c18] at H
                have c18b0 : decide (t537 < ((rdOf ByteArray.empty l0 t536).size : Int)) = true := decide_eq_true c18
                clear c18
                replace H := Option.bind_eq_some_iff.mp H
                obtain ⟨⟨t540, t541, t542, t543, t544, t545⟩, A200, H⟩ := H
                replace H : (if t545 = true then ((chars_Seek.f k l0 t540 t541 70 (bt (rdOf ByteArray.empty l0 t536) t537) (wrap64 ((wrap64 (Int.tmod a3 3)) + 1))).bind fun bt547 => (if bt547.2.2.2.2.2 = true then (if (bt547.1 == t536 && (bt547.2.1 == t537)) = true then (if t542 = 1 then (some (bt547.2.2.1 == 0)) else (some false)) else (some false)) else (some false))) else (some true)) = some r := H
                have A20 := Aside0.mk A200
                clear A200
                by_cases c21 : t545 = true
                · subst c21
                  have H1 : ((chars_Seek.f k l0 t540 t541 70 (bt (rdOf ByteArray.empty l0 t536) t537) (wrap64 ((wrap64 (Int.tmod a3 3)) + 1))).bind fun bt547 => (if bt547.2.2.2.2.2 = true then (if (bt547.1 == t536 && (bt547.2.1 == t537)) = true then (if t542 = 1 then (some (bt547.2.2.1 == 0)) else (some false)) else (some false)) else (some false))) = some r := by rw [if_pos rfl] at H; exact H
                  clear H
                  have H := H1
                  clear H1
                  replace H := Option.bind_eq_some_iff.mp H
                  obtain ⟨⟨t547, t548, t549, t550, t551, t552⟩, A230, H⟩ := H
                  replace H : (if t552 = true then (if (t547 == t536 && (t548 == t537)) = true then (if t542 = 1 then (some (t549 == 0)) else (some false)) else (some false)) else (some false)) = some r := H
                  have A23 := Aside0.mk A230
                  clear A230
                  by_cases c24 : t552 = true
                  · subst c24
                    have H1 : (if (t547 == t536 && (t548 == t537)) = true then (if t542 = 1 then (some (t549 == 0)) else (some false)) else (some false)) = some r := by rw [if_pos rfl] at H; exact H
                    clear H
                    have H := H1
                    clear H1
                    by_cases c25 : (t547 == t536 && (t548 == t537)) = true
                    · rw [if_pos c25] at H
                      have c25b0 : (t547 == t536 && (t548 == t537)) = true := c25
                      (try (have c25b1 : decide (t547 = t536 && (t548 == t537)) = true := by simpa using c25))
                      (try (have c25b2 : (t547 == t536 && (t548 == t537)) = true := by simpa using c25))
                      clear c25
                      by_cases c26 : t542 = 1
                      · rw [if_pos c26] at H
                        have c26b0 : (t542 == 1) = true := beq_iff_eq.mpr c26
                        have c26b1 : (t542 != 1) = false := bne_eq_false_iff_eq.mpr c26
                        clear c26
                        obtain rfl := Option.some.inj H
                        go_enter Try.func7, Try.ntmps7
                        try go_wp2_with (first | ((with_reducible refine gate_callee (f := 9) rfl ?_); refine goesL_ (some 16) rfl rfl Try.func9 (by kernel_rfl) rfl #[] rfl (by (try simp only [List.map_toArray, List.map_cons, List.map_nil]); first | done | rfl | (simp only [List.length_drop, List.length_take]; rfl)) ?_; (with_reducible refine (foolscaplaw7_known.calls k  true _ A5.out rfl).mono ?_); rintro e w27 ⟨rfl, hb⟩; refine ⟨_, rfl, ?_⟩; have n0_ := Aside0.mk (below_step (by repeat (first | (with_reducible first | exact HB.out | apply below_alloc | apply pw_below_drewN | apply below_drew1) | exact HB.out)) hb); clear HB; have HB := n0_; clear n0_; (try clear hb); (try clear hb2); (try clear hk); (try clear hi)) | ((with_reducible refine gate_callee (f := 10) rfl ?_); refine goesL_ (some 19) rfl rfl Try.func10 (by kernel_rfl) rfl #[.slice A0 l0.length c0] rfl (by (try simp only [List.map_toArray, List.map_cons, List.map_nil]); first | done | rfl | (simp only [List.length_drop, List.length_take]; rfl)) ?_; (with_reducible refine (foolscaphelp_Text.calls k _ _ l0 true _ ?side1 ?side2 A7.out).mono ?_); (case side1 => repeat (first | exact (Kd.C_below HR0.out HB.out) | (with_reducible refine Kd.C_alloc ?_ _) | (with_reducible refine Kd.C_drewN ?_ _) | (with_reducible refine Kd.C_drew ?_))); (case side2 => exact HC0.out); rintro e w' ⟨rfl, ⟨nd, rfl⟩⟩; refine ⟨_, rfl, ?_⟩; (try (rw [drewN_self w27]; generalize hq_ : World.drewN w27 _ = w27; have n0_ : Aside0 (Below w.heap.size w w27) := ⟨by rw [← hq_]; exact (by repeat (first | (with_reducible first | exact HB.out | apply below_alloc | apply pw_below_drewN | apply below_drew1) | exact HB.out))⟩; clear HB hq_; have HB := n0_; clear n0_))) | ((with_reducible refine gate_callee (f := 11) rfl ?_); refine goesL_ (some 24) rfl rfl Try.func11 (by kernel_rfl) rfl #[.slice A0 l0.length c0, .int .u16 a1, .int .u16 a2] rfl (by (try simp only [List.map_toArray, List.map_cons, List.map_nil]); first | done | rfl | (simp only [List.length_drop, List.length_take]; rfl)) ?_; (with_reducible refine (foolscapseat_Place.calls _ _ l0 a1 a2 t536 t537 _ ?side1 ?side2 A9.out).mono ?_); (case side1 => repeat (first | exact (Kd.C_below HR0.out HB.out) | (with_reducible refine Kd.C_alloc ?_ _) | (with_reducible refine Kd.C_drewN ?_ _) | (with_reducible refine Kd.C_drew ?_))); (case side2 => exact HC0.out); rintro e w28 ⟨rfl, hb⟩; refine ⟨_, rfl, ?_⟩; have n0_ := Aside0.mk (below_step (by repeat (first | (with_reducible first | exact HB.out | apply below_alloc | apply pw_below_drewN | apply below_drew1) | exact HB.out)) hb); clear HB; have HB := n0_; clear n0_; (try clear hb); (try clear hb2); (try clear hk); (try clear hi)) | ((with_reducible refine gate_dst (N := 9) rfl ?_); refine box_event ?hg (N := 9) ?hd (cs := #[.int .i64 0, .int .i64 0]) (t := 24) ?hr ?_; (case hd => rfl); (case hg => rfl); (case hr => first | (go_simp; done) | (go_simp; rfl)); intro gb538 hg w29 hbox hb; have n0_ := Aside0.mk (below_step (by repeat (first | (with_reducible first | exact HB.out | apply below_alloc | apply pw_below_drewN | apply below_drew1) | exact HB.out)) hb); have n1_ := Aside0.mk (hbox); have n2_ := Aside0.mk ((by rw [hg]; exact (below_size (by repeat (first | (with_reducible first | exact HB.out | apply below_alloc | apply pw_below_drewN | apply below_drew1) | exact HB.out))) : w.heap.size ≤ gb538)); have n3_ := Aside0.mk ((by rw [hg]; exact (below_size (by repeat (first | (with_reducible first | exact HB.out | apply below_alloc | apply pw_below_drewN | apply below_drew1) | exact HB.out))) : w.heap.size ≤ gb538)); clear HB; have HB := n0_; have BK538 := n1_; have GW538 := n2_; have GE538 := n3_; clear n0_ n1_ n2_ n3_; clear hb hbox hg; have hcz30_0 : w29.cell? ⟨gb538, 0, none⟩ = some (.int .i64 0) := (blk_cell BK538.out 0).trans rfl; have hcz30_1 : w29.cell? ⟨gb538, 1, none⟩ = some (.int .i64 0) := (blk_cell BK538.out 1).trans rfl; have hfz30_0 := blk_frozen BK538.out 0; have hfz30_1 := blk_frozen BK538.out 1; have p539 : 0 ≤ (t536 : Int) := of_decide_eq_true (by first | (with_reducible assumption) | assumption); have q539 : t536 < (l0.length : Int) := of_decide_eq_true (by first | (with_reducible assumption) | assumption); obtain ⟨ad539, e539, hx539_0⟩ := Kd.at_string HR0.out t536 p539 q539; cases e539; have hn539_0 : ad539.block ≠ gb538 := Nat.ne_of_lt (Nat.lt_of_lt_of_le (by have := World.block_lt_of_cell? _ _ hx539_0; first | rwa [add_block] at this | exact this) GW538.out); have hn539_1 : ad539.block ≠ gb538 := Nat.ne_of_lt (Nat.lt_of_lt_of_le (by have := World.block_lt_of_cell? _ _ hx539_0; first | rwa [add_block] at this | exact this) GW538.out); replace hx539_0 := (HB.out.cell (World.block_lt_of_cell? w _ hx539_0)).trans hx539_0; replace hx539_0 := (cell_far (p := ⟨gb538, 0, none⟩) (by first | (rw [add_block]; exact hn539_0) | (show (Addr.add _ _).block ≠ _; rw [add_block]; exact hn539_0) | exact hn539_0) (.int .i64 t536)).trans hx539_0; replace hx539_0 := (cell_far (p := ⟨gb538, 1, none⟩) (by first | (rw [add_block]; exact hn539_1) | (show (Addr.add _ _).block ≠ _; rw [add_block]; exact hn539_1) | exact hn539_1) (.int .i64 t537)).trans hx539_0; clear hn539_0; clear hn539_1; replace p539 := eq_true p539; replace q539 := eq_true q539))
                        have n0_ : Aside0 (((w29.setCell ⟨gb538, 0, none⟩ (.int .i64 t536)).setCell ⟨gb538, 1, none⟩ (.int .i64 t537)).heap[gb538]? = some (.cells #[.int .i64 t536, .int .i64 t537] 24 (0, 0))) := ⟨by (with_reducible repeat (first | refine blk_drewN ?_ _ | refine blk_drew ?_ | refine blk_alloc ?_ _)); refine blk_put (cs := #[.int .i64 t536, .int .i64 0]) ?_ 1 _ rfl; (with_reducible repeat (first | refine blk_drewN ?_ _ | refine blk_drew ?_ | refine blk_alloc ?_ _)); refine blk_put (cs := #[.int .i64 0, .int .i64 0]) ?_ 0 _ rfl; (with_reducible repeat (first | refine blk_drewN ?_ _ | refine blk_drew ?_ | refine blk_alloc ?_ _)); exact BK538.out⟩
                        have n1_ : Aside0 (Below w.heap.size w ((w29.setCell ⟨gb538, 0, none⟩ (.int .i64 t536)).setCell ⟨gb538, 1, none⟩ (.int .i64 t537))) := ⟨by repeat (first | (with_reducible first | exact HB.out | apply below_alloc | apply pw_below_drewN | apply below_drew1 | refine below_set ?_ GE538.out) | exact HB.out)⟩
                        (try clear BK538)
                        (try clear HB)
                        generalize ((w29.setCell ⟨gb538, 0, none⟩ (.int .i64 t536)).setCell ⟨gb538, 1, none⟩ (.int .i64 t537)) = w31 at n0_ n1_ ⊢
                        have BK538 := n0_
                        have HB := n1_
                        clear n0_ n1_
                        have n0_ := Aside0.mk (blk_drew BK538.out)
                        have n1_ := Aside0.mk (below_drew1 HB.out)
                        clear BK538
                        clear HB
                        have BK538 := n0_
                        have HB := n1_
                        clear n0_ n1_
                        have p19 : 0 ≤ (t537 : Int) := of_decide_eq_true (by first | (with_reducible assumption) | assumption)
                        have q19 : t537 < ((rdOf ByteArray.empty l0 t536).size : Int) := of_decide_eq_true (by first | (with_reducible assumption) | assumption)
                        have hx19 := bt_at (rdOf ByteArray.empty l0 t536) t537
                        replace p19 := eq_true p19
                        replace q19 := eq_true q19
                        refine start_ (n := 14) (S := fun w' => w'.cell? ⟨gb538, 0, none⟩ = some (.int .i64 t536) ∧ w'.cell? ⟨gb538, 1, none⟩ = some (.int .i64 t537)) (ds := []) #[false, false, false, false, false, false, false, false, false, false, false, false, false, false] (by kernel_rfl) rfl rfl ⟨(blk_cell BK538.out 0).trans rfl, (blk_cell BK538.out 1).trans rfl⟩ (fun hHeld => ?_); refine with_tabW foolscaplaw7_CharsBack.tab10 foolscaplaw7_CharsBack.bits10 (fun HT_ HW_ => ?_)
                        generalize w31.drew = w32 at BK538 HB hHeld ⊢
                        refine pure_ (i := 0) (N := some 40) (v := ?_) (a' := ?_) #[true, false, false, false, false, false, false, false, false, false, false, false, false, false] rfl rfl (any_of HT_.out (by kernel_rfl)) (fun _ _ _ h => h) (Or.inl ⟨by rfl, ?_⟩) ?_ ?_
                        rotate_left
                        · intro w'
                          go_simp
                          with_reducible rfl
                        rotate_left
                        · simp only [Act.put, List.setIfInBounds_toArray, List.set_cons_zero, List.set_cons_succ, i64_w, i32_w]
                          rfl
                        refine pure_ (i := 2) (N := some 42) (v := ?_) (a' := ?_) #[true, false, true, false, false, false, false, false, false, false, false, false, false, false] rfl rfl (any_of HT_.out (by kernel_rfl)) (fun _ _ _ h => h) (Or.inl ⟨by rfl, ?_⟩) ?_ ?_
                        rotate_left
                        · intro w'
                          go_simp
                          with_reducible rfl
                        rotate_left
                        · simp only [Act.put, List.setIfInBounds_toArray, List.set_cons_zero, List.set_cons_succ, i64_w, i32_w]
                          rfl
                        refine pure_ (i := 3) (N := some 43) (v := ?_) (a' := ?_) #[true, false, true, true, false, false, false, false, false, false, false, false, false, false] rfl rfl (any_of HT_.out (by kernel_rfl)) (fun _ _ _ h => h) (Or.inl ⟨by rfl, ?_⟩) ?_ ?_
                        rotate_left
                        · intro w'
                          go_simp
                          with_reducible rfl
                        rotate_left
                        · simp only [Act.put, List.setIfInBounds_toArray, List.set_cons_zero, List.set_cons_succ, i64_w, i32_w]
                          rfl
                        refine pure_ (i := 6) (N := some 46) (v := ?_) (a' := ?_) #[true, false, true, true, false, false, true, false, false, false, false, false, false, false] rfl rfl (any_of HT_.out (by kernel_rfl)) (fun _ _ _ h => h) (Or.inl ⟨by rfl, ?_⟩) ?_ ?_
                        rotate_left
                        · intro w'
                          go_simp
                          with_reducible rfl
                        rotate_left
                        · simp only [Act.put, List.setIfInBounds_toArray, List.set_cons_zero, List.set_cons_succ, i64_w, i32_w]
                          rfl
                        refine take_ (i := 1) (N := some 41) (v := ?_) (a' := ?_) #[true, true, true, true, false, false, true, false, false, false, false, false, false, false] rfl rfl (take_ofW HT_.out HW_.out (by kernel_rfl)) (fun _ _ _ h => h) (Or.inl ⟨by rfl, ?_⟩) hHeld ?_ ?_
                        rotate_left
                        · rintro w' ⟨s0, s1⟩
                          go_simp
                          with_reducible rfl
                        rotate_left
                        · simp only [Act.put, List.setIfInBounds_toArray, List.set_cons_zero, List.set_cons_succ, i64_w, i32_w]
                          rfl
                        refine take_ (i := 4) (N := some 44) (v := ?_) (a' := ?_) #[true, true, true, true, true, false, true, false, false, false, false, false, false, false] rfl rfl (take_ofW HT_.out HW_.out (by kernel_rfl)) (fun _ _ _ h => h) (Or.inl ⟨by rfl, ?_⟩) hHeld ?_ ?_
                        rotate_left
                        · rintro w' ⟨s0, s1⟩
                          go_simp
                          with_reducible rfl
                        rotate_left
                        · simp only [Act.put, List.setIfInBounds_toArray, List.set_cons_zero, List.set_cons_succ, i64_w, i32_w]
                          rfl
                        refine take_ (i := 5) (N := some 45) (v := ?_) (a' := ?_) #[true, true, true, true, true, true, true, false, false, false, false, false, false, false] rfl rfl (take_ofW HT_.out HW_.out (by kernel_rfl)) (fun _ _ _ h => h) (Or.inl ⟨by rfl, ?_⟩) hHeld ?_ ?_
                        rotate_left
                        · rintro w' ⟨s0, s1⟩
                          go_simp
                          with_reducible rfl
                        rotate_left
                        · simp only [Act.put, List.setIfInBounds_toArray, List.set_cons_zero, List.set_cons_succ, i64_w, i32_w]
                          rfl
                        refine join_ (σ := Nat) 2 #[true, true, true, true, true, true, true, true, true, true, true, true, false, false] (fun s_ => [(47, .tuple #[.agg #[.int .i64 t540, .int .i64 t541, .int .i64 t542, .bool t543, .int .i64 t544], .bool true]), (12, .pointer (some ⟨s_, 0, none⟩)), (39, .tuple #[.agg #[.int .i64 t540, .int .i64 t541, .int .i64 t542, .bool t543, .int .i64 t544], .bool true]), (48, .agg #[.int .i64 t540, .int .i64 t541, .int .i64 t542, .bool t543, .int .i64 t544]), (49, .bool true)]) (fun s_ w' => (w'.cell? ⟨gb538, 0, none⟩ = some (.int .i64 t536) ∧ w'.cell? ⟨gb538, 1, none⟩ = some (.int .i64 t537)) ∧ (w'.heap[gb538]? = some (.cells #[.int .i64 t536, .int .i64 t537] 24 (0, 0))) ∧ (w'.heap[s_]? = some (.cells #[.int .i64 0, .int .i64 0, .int .i64 0, .bool false, .int .i64 0] 33 (0, 0))) ∧ (w.heap.size ≤ s_) ∧ (w.heap.size ≤ s_) ∧ (gb538 ≠ s_) ∧ (s_ ≠ gb538) ∧ (Below w.heap.size w w')) ?_ ?_
                        rotate_left
                        · intro hCont
                          refine two_ (i := 7) (j := 11) (Ni := some 47) (Nj := some 12) #[true, true, true, true, true, true, true, true, false, false, false, false, false, false] #[true, true, true, true, true, true, true, false, false, false, false, true, false, false] rfl rfl rfl rfl (two_of HT_.out (by kernel_rfl)) (by decide) (by decide) (fun K hK => ?_) (fun K hK => ?_)
                          · skip
                            refine goes_ Try.func12 (by kernel_rfl) rfl #[.slice (some ad539) l0.length c0, .agg #[.int .i64 t536, .int .i64 t537], .int .u8 102, .int .u8 (bt (rdOf ByteArray.empty l0 t536) t537), .int .i64 (wrap64 ((wrap64 (Int.tmod a3 3)) + 1))] (by rfl) rfl rfl (by (try simp only [List.map_toArray, List.map_cons, List.map_nil]); first | done | rfl | (simp only [List.length_drop, List.length_take]; rfl)) ?_
                            with_reducible refine (chars_Seek.calls k _ _ l0 t536 t537 102 (bt (rdOf ByteArray.empty l0 t536) t537) (wrap64 ((wrap64 (Int.tmod a3 3)) + 1)) t540 t541 t542 t543 t544 true _ ?side1 ?side2 A20.out).mono ?_
                            (case side1 => repeat (first | exact (Kd.C_below HR0.out HB.out) | (with_reducible refine Kd.C_alloc ?_ _) | (with_reducible refine Kd.C_drewN ?_ _) | (with_reducible refine Kd.C_drew ?_)))
                            (case side2 => exact HC0.out)
                            rintro e w33 ⟨rfl, hb⟩
                            refine ⟨_, rfl, ?_⟩
                            have n0_ := Aside0.mk (blk_below (g := gb538) (o := .cells #[.int .i64 t536, .int .i64 t537] 24 (0, 0)) (by (with_reducible repeat (first | refine blk_drewN ?_ _ | refine blk_drew ?_ | refine blk_alloc ?_ _)); exact BK538.out) hb)
                            have n1_ := Aside0.mk (below_step (by repeat (first | (with_reducible first | exact HB.out | apply below_alloc | apply pw_below_drewN | apply below_drew1 | refine below_set ?_ GE538.out) | exact HB.out)) hb)
                            clear BK538
                            clear HB
                            have BK538 := n0_
                            have HB := n1_
                            clear n0_ n1_
                            (try clear hb)
                            (try clear hb2)
                            (try clear hk)
                            (try clear hi)
                            refine hK.out _ _ ⟨(blk_cell BK538.out 0).trans rfl, (blk_cell BK538.out 1).trans rfl⟩ (fun hHeld => ?_)
                            clear hK K
                            refine norm_ (a' := ?_) ?_ ?_
                            rotate_left
                            · show Act.put _ (some 47) _ = _
                              simp only [Act.put, List.setIfInBounds_toArray, List.set_cons_zero, List.set_cons_succ, i64_w, i32_w]
                              rfl
                            refine pure_ (i := 8) (N := some 39) (v := ?_) (a' := ?_) #[true, true, true, true, true, true, true, true, true, false, false, false, false, false] rfl rfl (any_of HT_.out (by kernel_rfl)) (fun _ _ _ h => h) (Or.inl ⟨by rfl, ?_⟩) ?_ ?_
                            rotate_left
                            · intro w'
                              go_simp
                              with_reducible rfl
                            rotate_left
                            · simp only [Act.put, List.setIfInBounds_toArray, List.set_cons_zero, List.set_cons_succ, i64_w, i32_w]
                              rfl
                            refine pure_ (i := 9) (N := some 48) (v := ?_) (a' := ?_) #[true, true, true, true, true, true, true, true, true, true, false, false, false, false] rfl rfl (any_of HT_.out (by kernel_rfl)) (fun _ _ _ h => h) (Or.inl ⟨by rfl, ?_⟩) ?_ ?_
                            rotate_left
                            · intro w'
                              go_simp
                              with_reducible rfl
                            rotate_left
                            · simp only [Act.put, List.setIfInBounds_toArray, List.set_cons_zero, List.set_cons_succ, i64_w, i32_w]
                              rfl
                            refine pure_ (i := 10) (N := some 49) (v := ?_) (a' := ?_) #[true, true, true, true, true, true, true, true, true, true, true, false, false, false] rfl rfl (any_of HT_.out (by kernel_rfl)) (fun _ _ _ h => h) (Or.inl ⟨by rfl, ?_⟩) ?_ ?_
                            rotate_left
                            · intro w'
                              go_simp
                              with_reducible rfl
                            rotate_left
                            · simp only [Act.put, List.setIfInBounds_toArray, List.set_cons_zero, List.set_cons_succ, i64_w, i32_w]
                              rfl
                            refine one_ (i := 11) (N := some 12) #[true, true, true, true, true, true, true, true, true, true, true, true, false, false] rfl rfl (one_of HT_.out (by kernel_rfl)) (by decide) (fun K hK => ?_)
                            refine box_step ?hg (N := 12) ?hd (cs := #[.int .i64 0, .int .i64 0, .int .i64 0, .bool false, .int .i64 0]) (t := 33) ?hr ?_; (case hd => rfl); (case hg => rfl); (case hr => first | (go_simp; done) | (go_simp; rfl))
                            intro gb546 hg w34 hbox hb
                            have n0_ := Aside0.mk (blk_below (g := gb538) (o := .cells #[.int .i64 t536, .int .i64 t537] 24 (0, 0)) (by (with_reducible repeat (first | refine blk_drewN ?_ _ | refine blk_drew ?_ | refine blk_alloc ?_ _)); exact BK538.out) hb)
                            have n1_ := Aside0.mk (below_step (by repeat (first | (with_reducible first | exact HB.out | apply below_alloc | apply pw_below_drewN | apply below_drew1 | refine below_set ?_ GE538.out) | exact HB.out)) hb)
                            have n2_ := Aside0.mk (hbox)
                            have n3_ := Aside0.mk ((by rw [hg]; exact (below_size (by repeat (first | (with_reducible first | exact HB.out | apply below_alloc | apply pw_below_drewN | apply below_drew1 | refine below_set ?_ GE538.out) | exact HB.out))) : w.heap.size ≤ gb546))
                            have n4_ := Aside0.mk ((by rw [hg]; exact (below_size (by repeat (first | (with_reducible first | exact HB.out | apply below_alloc | apply pw_below_drewN | apply below_drew1 | refine below_set ?_ GE538.out) | exact HB.out))) : w.heap.size ≤ gb546))
                            have n5_ := Aside0.mk ((by rw [hg]; exact Nat.ne_of_lt (blk_lt (g := gb538) (o := .cells #[.int .i64 t536, .int .i64 t537] 24 (0, 0)) (by (with_reducible repeat (first | refine blk_drewN ?_ _ | refine blk_drew ?_ | refine blk_alloc ?_ _)); exact BK538.out)) : gb538 ≠ gb546))
                            have n6_ := Aside0.mk ((by rw [hg]; exact Nat.ne_of_gt (blk_lt (g := gb538) (o := .cells #[.int .i64 t536, .int .i64 t537] 24 (0, 0)) (by (with_reducible repeat (first | refine blk_drewN ?_ _ | refine blk_drew ?_ | refine blk_alloc ?_ _)); exact BK538.out)) : gb546 ≠ gb538))
                            clear BK538
                            clear HB
                            have BK538 := n0_
                            have HB := n1_
                            have BK546 := n2_
                            have GW546 := n3_
                            have GE546 := n4_
                            have NB538_546 := n5_
                            have NB546_538 := n6_
                            clear n0_ n1_ n2_ n3_ n4_ n5_ n6_
                            clear hb hbox hg
                            refine hK.out _ _ ⟨(blk_cell BK538.out 0).trans rfl, (blk_cell BK538.out 1).trans rfl⟩ (fun hHeld => ?_)
                            clear hK K
                            refine norm_ (a' := ?_) ?_ ?_
                            rotate_left
                            · show Act.put _ (some 12) _ = _
                              simp only [Act.put, List.setIfInBounds_toArray, List.set_cons_zero, List.set_cons_succ, i64_w, i32_w]
                              rfl
                            exact norm_ (by simp only [putAll, Act.put, List.setIfInBounds_toArray, List.set_cons_zero, List.set_cons_succ]) (hCont (gb546) _ ⟨hHeld, (by (with_reducible repeat (first | refine blk_drewN ?_ _ | refine blk_drew ?_ | refine blk_alloc ?_ _)); exact BK538.out), (by (with_reducible repeat (first | refine blk_drewN ?_ _ | refine blk_drew ?_ | refine blk_alloc ?_ _)); exact BK546.out), GW546.out, GE546.out, NB538_546.out, NB546_538.out, (by repeat (first | (with_reducible first | exact HB.out | apply below_alloc | apply pw_below_drewN | apply below_drew1 | refine below_set ?_ GE538.out | refine below_set ?_ GE546.out) | exact HB.out))⟩)
                          · skip
                            refine box_step ?hg (N := 12) ?hd (cs := #[.int .i64 0, .int .i64 0, .int .i64 0, .bool false, .int .i64 0]) (t := 33) ?hr ?_; (case hd => rfl); (case hg => rfl); (case hr => first | (go_simp; done) | (go_simp; rfl))
                            intro gb546 hg w33 hbox hb
                            have n0_ := Aside0.mk (blk_below (g := gb538) (o := .cells #[.int .i64 t536, .int .i64 t537] 24 (0, 0)) (by (with_reducible repeat (first | refine blk_drewN ?_ _ | refine blk_drew ?_ | refine blk_alloc ?_ _)); exact BK538.out) hb)
                            have n1_ := Aside0.mk (below_step (by repeat (first | (with_reducible first | exact HB.out | apply below_alloc | apply pw_below_drewN | apply below_drew1 | refine below_set ?_ GE538.out) | exact HB.out)) hb)
                            have n2_ := Aside0.mk (hbox)
                            have n3_ := Aside0.mk ((by rw [hg]; exact (below_size (by repeat (first | (with_reducible first | exact HB.out | apply below_alloc | apply pw_below_drewN | apply below_drew1 | refine below_set ?_ GE538.out) | exact HB.out))) : w.heap.size ≤ gb546))
                            have n4_ := Aside0.mk ((by rw [hg]; exact (below_size (by repeat (first | (with_reducible first | exact HB.out | apply below_alloc | apply pw_below_drewN | apply below_drew1 | refine below_set ?_ GE538.out) | exact HB.out))) : w.heap.size ≤ gb546))
                            have n5_ := Aside0.mk ((by rw [hg]; exact Nat.ne_of_lt (blk_lt (g := gb538) (o := .cells #[.int .i64 t536, .int .i64 t537] 24 (0, 0)) (by (with_reducible repeat (first | refine blk_drewN ?_ _ | refine blk_drew ?_ | refine blk_alloc ?_ _)); exact BK538.out)) : gb538 ≠ gb546))
                            have n6_ := Aside0.mk ((by rw [hg]; exact Nat.ne_of_gt (blk_lt (g := gb538) (o := .cells #[.int .i64 t536, .int .i64 t537] 24 (0, 0)) (by (with_reducible repeat (first | refine blk_drewN ?_ _ | refine blk_drew ?_ | refine blk_alloc ?_ _)); exact BK538.out)) : gb546 ≠ gb538))
                            clear BK538
                            clear HB
                            have BK538 := n0_
                            have HB := n1_
                            have BK546 := n2_
                            have GW546 := n3_
                            have GE546 := n4_
                            have NB538_546 := n5_
                            have NB546_538 := n6_
                            clear n0_ n1_ n2_ n3_ n4_ n5_ n6_
                            clear hb hbox hg
                            refine hK.out _ _ ⟨(blk_cell BK538.out 0).trans rfl, (blk_cell BK538.out 1).trans rfl⟩ (fun hHeld => ?_)
                            clear hK K
                            refine norm_ (a' := ?_) ?_ ?_
                            rotate_left
                            · show Act.put _ (some 12) _ = _
                              simp only [Act.put, List.setIfInBounds_toArray, List.set_cons_zero, List.set_cons_succ, i64_w, i32_w]
                              rfl
                            refine one_ (i := 7) (N := some 47) #[true, true, true, true, true, true, true, true, false, false, false, true, false, false] rfl rfl (one_of HT_.out (by kernel_rfl)) (by decide) (fun K hK => ?_)
                            refine goes_ Try.func12 (by kernel_rfl) rfl #[.slice (some ad539) l0.length c0, .agg #[.int .i64 t536, .int .i64 t537], .int .u8 102, .int .u8 (bt (rdOf ByteArray.empty l0 t536) t537), .int .i64 (wrap64 ((wrap64 (Int.tmod a3 3)) + 1))] (by rfl) rfl rfl (by (try simp only [List.map_toArray, List.map_cons, List.map_nil]); first | done | rfl | (simp only [List.length_drop, List.length_take]; rfl)) ?_
                            with_reducible refine (chars_Seek.calls k _ _ l0 t536 t537 102 (bt (rdOf ByteArray.empty l0 t536) t537) (wrap64 ((wrap64 (Int.tmod a3 3)) + 1)) t540 t541 t542 t543 t544 true _ ?side1 ?side2 A20.out).mono ?_
                            (case side1 => repeat (first | exact (Kd.C_below HR0.out HB.out) | (with_reducible refine Kd.C_alloc ?_ _) | (with_reducible refine Kd.C_drewN ?_ _) | (with_reducible refine Kd.C_drew ?_)))
                            (case side2 => exact HC0.out)
                            rintro e w34 ⟨rfl, hb⟩
                            refine ⟨_, rfl, ?_⟩
                            have n0_ := Aside0.mk (blk_below (g := gb538) (o := .cells #[.int .i64 t536, .int .i64 t537] 24 (0, 0)) (by (with_reducible repeat (first | refine blk_drewN ?_ _ | refine blk_drew ?_ | refine blk_alloc ?_ _)); exact BK538.out) hb)
                            have n1_ := Aside0.mk (blk_below (g := gb546) (o := .cells #[.int .i64 0, .int .i64 0, .int .i64 0, .bool false, .int .i64 0] 33 (0, 0)) (by (with_reducible repeat (first | refine blk_drewN ?_ _ | refine blk_drew ?_ | refine blk_alloc ?_ _)); exact BK546.out) hb)
                            have n2_ := Aside0.mk (below_step (by repeat (first | (with_reducible first | exact HB.out | apply below_alloc | apply pw_below_drewN | apply below_drew1 | refine below_set ?_ GE538.out | refine below_set ?_ GE546.out) | exact HB.out)) hb)
                            clear BK538
                            clear BK546
                            clear HB
                            have BK538 := n0_
                            have BK546 := n1_
                            have HB := n2_
                            clear n0_ n1_ n2_
                            (try clear hb)
                            (try clear hb2)
                            (try clear hk)
                            (try clear hi)
                            refine hK.out _ _ ⟨(blk_cell BK538.out 0).trans rfl, (blk_cell BK538.out 1).trans rfl⟩ (fun hHeld => ?_)
                            clear hK K
                            refine norm_ (a' := ?_) ?_ ?_
                            rotate_left
                            · show Act.put _ (some 47) _ = _
                              simp only [Act.put, List.setIfInBounds_toArray, List.set_cons_zero, List.set_cons_succ, i64_w, i32_w]
                              rfl
                            refine pure_ (i := 8) (N := some 39) (v := ?_) (a' := ?_) #[true, true, true, true, true, true, true, true, true, false, false, true, false, false] rfl rfl (any_of HT_.out (by kernel_rfl)) (fun _ _ _ h => h) (Or.inl ⟨by rfl, ?_⟩) ?_ ?_
                            rotate_left
                            · intro w'
                              go_simp
                              with_reducible rfl
                            rotate_left
                            · simp only [Act.put, List.setIfInBounds_toArray, List.set_cons_zero, List.set_cons_succ, i64_w, i32_w]
                              rfl
                            refine pure_ (i := 9) (N := some 48) (v := ?_) (a' := ?_) #[true, true, true, true, true, true, true, true, true, true, false, true, false, false] rfl rfl (any_of HT_.out (by kernel_rfl)) (fun _ _ _ h => h) (Or.inl ⟨by rfl, ?_⟩) ?_ ?_
                            rotate_left
                            · intro w'
                              go_simp
                              with_reducible rfl
                            rotate_left
                            · simp only [Act.put, List.setIfInBounds_toArray, List.set_cons_zero, List.set_cons_succ, i64_w, i32_w]
                              rfl
                            refine pure_ (i := 10) (N := some 49) (v := ?_) (a' := ?_) #[true, true, true, true, true, true, true, true, true, true, true, true, false, false] rfl rfl (any_of HT_.out (by kernel_rfl)) (fun _ _ _ h => h) (Or.inl ⟨by rfl, ?_⟩) ?_ ?_
                            rotate_left
                            · intro w'
                              go_simp
                              with_reducible rfl
                            rotate_left
                            · simp only [Act.put, List.setIfInBounds_toArray, List.set_cons_zero, List.set_cons_succ, i64_w, i32_w]
                              rfl
                            exact norm_ (by simp only [putAll, Act.put, List.setIfInBounds_toArray, List.set_cons_zero, List.set_cons_succ]) (hCont (gb546) _ ⟨hHeld, (by (with_reducible repeat (first | refine blk_drewN ?_ _ | refine blk_drew ?_ | refine blk_alloc ?_ _)); exact BK538.out), (by (with_reducible repeat (first | refine blk_drewN ?_ _ | refine blk_drew ?_ | refine blk_alloc ?_ _)); exact BK546.out), GW546.out, GE546.out, NB538_546.out, NB546_538.out, (by repeat (first | (with_reducible first | exact HB.out | apply below_alloc | apply pw_below_drewN | apply below_drew1 | refine below_set ?_ GE538.out | refine below_set ?_ GE546.out) | exact HB.out))⟩)
                        rintro gb546 w35 ⟨hS_, h0_, h1_, h2_, h3_, h4_, h5_, h6_⟩
                        have n0_ : Aside0 (w35.heap[gb538]? = some (.cells #[.int .i64 t536, .int .i64 t537] 24 (0, 0))) := ⟨h0_⟩
                        have n1_ : Aside0 (w35.heap[gb546]? = some (.cells #[.int .i64 0, .int .i64 0, .int .i64 0, .bool false, .int .i64 0] 33 (0, 0))) := ⟨h1_⟩
                        have n2_ : Aside0 (w.heap.size ≤ gb546) := ⟨h2_⟩
                        have n3_ : Aside0 (w.heap.size ≤ gb546) := ⟨h3_⟩
                        have n4_ : Aside0 (gb538 ≠ gb546) := ⟨h4_⟩
                        have n5_ : Aside0 (gb546 ≠ gb538) := ⟨h5_⟩
                        have n6_ : Aside0 (Below w.heap.size w w35) := ⟨h6_⟩
                        clear BK538
                        clear HB
                        clear h0_ h1_ h2_ h3_ h4_ h5_ h6_
                        have BK538 := n0_
                        have BK546 := n1_
                        have GW546 := n2_
                        have GE546 := n3_
                        have NB538_546 := n4_
                        have NB546_538 := n5_
                        have HB := n6_
                        clear n0_ n1_ n2_ n3_ n4_ n5_ n6_
                        have hHeld : w35.cell? ⟨gb538, 0, none⟩ = some (.int .i64 t536) ∧ w35.cell? ⟨gb538, 1, none⟩ = some (.int .i64 t537) := hS_
                        refine norm_ (a' := ?_) ?_ ?_
                        rotate_left
                        · simp only [putAll, Act.put, List.setIfInBounds_toArray, List.set_cons_zero, List.set_cons_succ]
                          rfl
                        refine one_ (i := 12) (N := none) #[true, true, true, true, true, true, true, true, true, true, true, true, true, false] rfl rfl (one_of HT_.out (by kernel_rfl)) (by decide) (fun K hK => ?_)
                        have hs36 : w35.cell? ⟨gb546, 0, none⟩ = some (.int .i64 0) := (blk_cell BK546.out 0).trans rfl
                        have hfs36 := blk_frozen BK546.out 0
                        have hns36_0 := NB538_546.out
                        have hms36_0 := NB546_538.out
                        have hs37 : w35.cell? ⟨gb546, 1, none⟩ = some (.int .i64 0) := (blk_cell BK546.out 1).trans rfl
                        have hfs37 := blk_frozen BK546.out 1
                        have hns37_0 := NB538_546.out
                        have hms37_0 := NB546_538.out
                        have hs38 : w35.cell? ⟨gb546, 2, none⟩ = some (.int .i64 0) := (blk_cell BK546.out 2).trans rfl
                        have hfs38 := blk_frozen BK546.out 2
                        have hns38_0 := NB538_546.out
                        have hms38_0 := NB546_538.out
                        have hs39 : w35.cell? ⟨gb546, 3, none⟩ = some (.bool false) := (blk_cell BK546.out 3).trans rfl
                        have hfs39 := blk_frozen BK546.out 3
                        have hns39_0 := NB538_546.out
                        have hms39_0 := NB546_538.out
                        have hs40 : w35.cell? ⟨gb546, 4, none⟩ = some (.int .i64 0) := (blk_cell BK546.out 4).trans rfl
                        have hfs40 := blk_frozen BK546.out 4
                        have hns40_0 := NB538_546.out
                        have hms40_0 := NB546_538.out
                        refine skip_ (w1 := ?_) (by rfl) rfl ?_ ?_
                        rotate_left
                        · go_simp
                          rfl
                        refine hK.out _ _ ⟨((cell_far (p := ⟨gb546, _, none⟩) NB538_546.out _).trans (((cell_far (p := ⟨gb546, _, none⟩) NB538_546.out _).trans (((cell_far (p := ⟨gb546, _, none⟩) NB538_546.out _).trans (((cell_far (p := ⟨gb546, _, none⟩) NB538_546.out _).trans (((cell_far (p := ⟨gb546, _, none⟩) NB538_546.out _).trans (hHeld.1)))))))))), ((cell_far (p := ⟨gb546, _, none⟩) NB538_546.out _).trans (((cell_far (p := ⟨gb546, _, none⟩) NB538_546.out _).trans (((cell_far (p := ⟨gb546, _, none⟩) NB538_546.out _).trans (((cell_far (p := ⟨gb546, _, none⟩) NB538_546.out _).trans (((cell_far (p := ⟨gb546, _, none⟩) NB538_546.out _).trans (hHeld.2))))))))))⟩ (fun hHeld => ?_)
                        clear hK K
                        refine pure_ (i := 13) (N := some 13) (v := ?_) (a' := ?_) #[true, true, true, true, true, true, true, true, true, true, true, true, true, true] rfl rfl (any_of HT_.out (by kernel_rfl)) (fun _ _ _ h => h) (Or.inl ⟨by rfl, ?_⟩) ?_ ?_
                        rotate_left
                        · intro w'
                          go_simp
                          with_reducible rfl
                        rotate_left
                        · simp only [Act.put, List.setIfInBounds_toArray, List.set_cons_zero, List.set_cons_succ, i64_w, i32_w]
                          rfl
                        refine done_ (done_of HT_.out (by kernel_rfl)) ?_
                        try go_wp2
                        have n0_ : Aside0 ((((((w35.setCell ⟨gb546, 0, none⟩ (.int .i64 t540)).setCell ⟨gb546, 1, none⟩ (.int .i64 t541)).setCell ⟨gb546, 2, none⟩ (.int .i64 t542)).setCell ⟨gb546, 3, none⟩ (.bool t543)).setCell ⟨gb546, 4, none⟩ (.int .i64 t544)).heap[gb538]? = some (.cells #[.int .i64 t536, .int .i64 t537] 24 (0, 0))) := ⟨by (with_reducible repeat (first | refine blk_drewN ?_ _ | refine blk_drew ?_ | refine blk_alloc ?_ _)); refine blk_far ?_ NB538_546.out _; (with_reducible repeat (first | refine blk_drewN ?_ _ | refine blk_drew ?_ | refine blk_alloc ?_ _)); refine blk_far ?_ NB538_546.out _; (with_reducible repeat (first | refine blk_drewN ?_ _ | refine blk_drew ?_ | refine blk_alloc ?_ _)); refine blk_far ?_ NB538_546.out _; (with_reducible repeat (first | refine blk_drewN ?_ _ | refine blk_drew ?_ | refine blk_alloc ?_ _)); refine blk_far ?_ NB538_546.out _; (with_reducible repeat (first | refine blk_drewN ?_ _ | refine blk_drew ?_ | refine blk_alloc ?_ _)); refine blk_far ?_ NB538_546.out _; (with_reducible repeat (first | refine blk_drewN ?_ _ | refine blk_drew ?_ | refine blk_alloc ?_ _)); exact BK538.out⟩
                        have n1_ : Aside0 ((((((w35.setCell ⟨gb546, 0, none⟩ (.int .i64 t540)).setCell ⟨gb546, 1, none⟩ (.int .i64 t541)).setCell ⟨gb546, 2, none⟩ (.int .i64 t542)).setCell ⟨gb546, 3, none⟩ (.bool t543)).setCell ⟨gb546, 4, none⟩ (.int .i64 t544)).heap[gb546]? = some (.cells #[.int .i64 t540, .int .i64 t541, .int .i64 t542, .bool t543, .int .i64 t544] 33 (0, 0))) := ⟨by (with_reducible repeat (first | refine blk_drewN ?_ _ | refine blk_drew ?_ | refine blk_alloc ?_ _)); refine blk_put (cs := #[.int .i64 t540, .int .i64 t541, .int .i64 t542, .bool t543, .int .i64 0]) ?_ 4 _ rfl; (with_reducible repeat (first | refine blk_drewN ?_ _ | refine blk_drew ?_ | refine blk_alloc ?_ _)); refine blk_put (cs := #[.int .i64 t540, .int .i64 t541, .int .i64 t542, .bool false, .int .i64 0]) ?_ 3 _ rfl; (with_reducible repeat (first | refine blk_drewN ?_ _ | refine blk_drew ?_ | refine blk_alloc ?_ _)); refine blk_put (cs := #[.int .i64 t540, .int .i64 t541, .int .i64 0, .bool false, .int .i64 0]) ?_ 2 _ rfl; (with_reducible repeat (first | refine blk_drewN ?_ _ | refine blk_drew ?_ | refine blk_alloc ?_ _)); refine blk_put (cs := #[.int .i64 t540, .int .i64 0, .int .i64 0, .bool false, .int .i64 0]) ?_ 1 _ rfl; (with_reducible repeat (first | refine blk_drewN ?_ _ | refine blk_drew ?_ | refine blk_alloc ?_ _)); refine blk_put (cs := #[.int .i64 0, .int .i64 0, .int .i64 0, .bool false, .int .i64 0]) ?_ 0 _ rfl; (with_reducible repeat (first | refine blk_drewN ?_ _ | refine blk_drew ?_ | refine blk_alloc ?_ _)); exact BK546.out⟩
                        have n2_ : Aside0 (Below w.heap.size w (((((w35.setCell ⟨gb546, 0, none⟩ (.int .i64 t540)).setCell ⟨gb546, 1, none⟩ (.int .i64 t541)).setCell ⟨gb546, 2, none⟩ (.int .i64 t542)).setCell ⟨gb546, 3, none⟩ (.bool t543)).setCell ⟨gb546, 4, none⟩ (.int .i64 t544))) := ⟨by repeat (first | (with_reducible first | exact HB.out | apply below_alloc | apply pw_below_drewN | apply below_drew1 | refine below_set ?_ GE538.out | refine below_set ?_ GE546.out) | exact HB.out)⟩
                        (try clear BK538)
                        (try clear BK546)
                        (try clear HB)
                        generalize (((((w35.setCell ⟨gb546, 0, none⟩ (.int .i64 t540)).setCell ⟨gb546, 1, none⟩ (.int .i64 t541)).setCell ⟨gb546, 2, none⟩ (.int .i64 t542)).setCell ⟨gb546, 3, none⟩ (.bool t543)).setCell ⟨gb546, 4, none⟩ (.int .i64 t544)) = w41 at n0_ n1_ n2_ ⊢
                        have BK538 := n0_
                        have BK546 := n1_
                        have HB := n2_
                        clear n0_ n1_ n2_
                        have n0_ := Aside0.mk (blk_drew BK538.out)
                        have n1_ := Aside0.mk (blk_drew BK546.out)
                        have n2_ := Aside0.mk (below_drew1 HB.out)
                        clear BK538
                        clear BK546
                        clear HB
                        have BK538 := n0_
                        have BK546 := n1_
                        have HB := n2_
                        clear n0_ n1_ n2_
                        have p22 : 0 ≤ (t537 : Int) := of_decide_eq_true (by first | (with_reducible assumption) | assumption)
                        have q22 : t537 < ((rdOf ByteArray.empty l0 t536).size : Int) := of_decide_eq_true (by first | (with_reducible assumption) | assumption)
                        have hx22 := bt_at (rdOf ByteArray.empty l0 t536) t537
                        replace p22 := eq_true p22
                        replace q22 := eq_true q22
                        refine start_ (n := 15) (S := fun w' => w'.cell? ⟨gb546, 0, none⟩ = some (.int .i64 t540) ∧ w'.cell? ⟨gb546, 1, none⟩ = some (.int .i64 t541) ∧ w'.cell? ⟨gb546, 2, none⟩ = some (.int .i64 t542) ∧ w'.cell? ⟨gb546, 3, none⟩ = some (.bool t543) ∧ w'.cell? ⟨gb546, 4, none⟩ = some (.int .i64 t544) ∧ w'.cell? ⟨gb538, 0, none⟩ = some (.int .i64 t536) ∧ w'.cell? ⟨gb538, 1, none⟩ = some (.int .i64 t537)) (ds := []) #[false, false, false, false, false, false, false, false, false, false, false, false, false, false, false] (by kernel_rfl) rfl rfl ⟨(blk_cell BK546.out 0).trans rfl, (blk_cell BK546.out 1).trans rfl, (blk_cell BK546.out 2).trans rfl, (blk_cell BK546.out 3).trans rfl, (blk_cell BK546.out 4).trans rfl, (blk_cell BK538.out 0).trans rfl, (blk_cell BK538.out 1).trans rfl⟩ (fun hHeld => ?_); refine with_tabW foolscaplaw7_CharsBack.tab13 foolscaplaw7_CharsBack.bits13 (fun HT_ HW_ => ?_)
                        generalize w41.drew = w42 at BK538 BK546 HB hHeld ⊢
                        refine pure_ (i := 0) (N := some 53) (v := ?_) (a' := ?_) #[true, false, false, false, false, false, false, false, false, false, false, false, false, false, false] rfl rfl (any_of HT_.out (by kernel_rfl)) (fun _ _ _ h => h) (Or.inl ⟨by rfl, ?_⟩) ?_ ?_
                        rotate_left
                        · intro w'
                          go_simp
                          with_reducible rfl
                        rotate_left
                        · simp only [Act.put, List.setIfInBounds_toArray, List.set_cons_zero, List.set_cons_succ, i64_w, i32_w]
                          rfl
                        refine pure_ (i := 1) (N := some 54) (v := ?_) (a' := ?_) #[true, true, false, false, false, false, false, false, false, false, false, false, false, false, false] rfl rfl (any_of HT_.out (by kernel_rfl)) (fun _ _ _ h => h) (Or.inl ⟨by rfl, ?_⟩) ?_ ?_
                        rotate_left
                        · intro w'
                          go_simp
                          with_reducible rfl
                        rotate_left
                        · simp only [Act.put, List.setIfInBounds_toArray, List.set_cons_zero, List.set_cons_succ, i64_w, i32_w]
                          rfl
                        refine pure_ (i := 3) (N := some 56) (v := ?_) (a' := ?_) #[true, true, false, true, false, false, false, false, false, false, false, false, false, false, false] rfl rfl (any_of HT_.out (by kernel_rfl)) (fun _ _ _ h => h) (Or.inl ⟨by rfl, ?_⟩) ?_ ?_
                        rotate_left
                        · intro w'
                          go_simp
                          with_reducible rfl
                        rotate_left
                        · simp only [Act.put, List.setIfInBounds_toArray, List.set_cons_zero, List.set_cons_succ, i64_w, i32_w]
                          rfl
                        refine pure_ (i := 4) (N := some 57) (v := ?_) (a' := ?_) #[true, true, false, true, true, false, false, false, false, false, false, false, false, false, false] rfl rfl (any_of HT_.out (by kernel_rfl)) (fun _ _ _ h => h) (Or.inl ⟨by rfl, ?_⟩) ?_ ?_
                        rotate_left
                        · intro w'
                          go_simp
                          with_reducible rfl
                        rotate_left
                        · simp only [Act.put, List.setIfInBounds_toArray, List.set_cons_zero, List.set_cons_succ, i64_w, i32_w]
                          rfl
                        refine pure_ (i := 7) (N := some 60) (v := ?_) (a' := ?_) #[true, true, false, true, true, false, false, true, false, false, false, false, false, false, false] rfl rfl (any_of HT_.out (by kernel_rfl)) (fun _ _ _ h => h) (Or.inl ⟨by rfl, ?_⟩) ?_ ?_
                        rotate_left
                        · intro w'
                          go_simp
                          with_reducible rfl
                        rotate_left
                        · simp only [Act.put, List.setIfInBounds_toArray, List.set_cons_zero, List.set_cons_succ, i64_w, i32_w]
                          rfl
                        refine take_ (i := 2) (N := some 55) (v := ?_) (a' := ?_) #[true, true, true, true, true, false, false, true, false, false, false, false, false, false, false] rfl rfl (take_ofW HT_.out HW_.out (by kernel_rfl)) (fun _ _ _ h => h) (Or.inl ⟨by rfl, ?_⟩) hHeld ?_ ?_
                        rotate_left
                        · rintro w' ⟨s0, s1, s2, s3, s4, s5, s6⟩
                          go_simp
                          with_reducible rfl
                        rotate_left
                        · simp only [Act.put, List.setIfInBounds_toArray, List.set_cons_zero, List.set_cons_succ, i64_w, i32_w]
                          rfl
                        refine take_ (i := 5) (N := some 58) (v := ?_) (a' := ?_) #[true, true, true, true, true, true, false, true, false, false, false, false, false, false, false] rfl rfl (take_ofW HT_.out HW_.out (by kernel_rfl)) (fun _ _ _ h => h) (Or.inl ⟨by rfl, ?_⟩) hHeld ?_ ?_
                        rotate_left
                        · rintro w' ⟨s0, s1, s2, s3, s4, s5, s6⟩
                          go_simp
                          with_reducible rfl
                        rotate_left
                        · simp only [Act.put, List.setIfInBounds_toArray, List.set_cons_zero, List.set_cons_succ, i64_w, i32_w]
                          rfl
                        refine take_ (i := 6) (N := some 59) (v := ?_) (a' := ?_) #[true, true, true, true, true, true, true, true, false, false, false, false, false, false, false] rfl rfl (take_ofW HT_.out HW_.out (by kernel_rfl)) (fun _ _ _ h => h) (Or.inl ⟨by rfl, ?_⟩) hHeld ?_ ?_
                        rotate_left
                        · rintro w' ⟨s0, s1, s2, s3, s4, s5, s6⟩
                          go_simp
                          with_reducible rfl
                        rotate_left
                        · simp only [Act.put, List.setIfInBounds_toArray, List.set_cons_zero, List.set_cons_succ, i64_w, i32_w]
                          rfl
                        refine join_ (σ := Nat) 2 #[true, true, true, true, true, true, true, true, true, true, true, true, true, false, false] (fun s_ => [(61, .tuple #[.agg #[.int .i64 t547, .int .i64 t548, .int .i64 t549, .bool t550, .int .i64 t551], .bool true]), (14, .pointer (some ⟨s_, 0, none⟩)), (52, .tuple #[.agg #[.int .i64 t547, .int .i64 t548, .int .i64 t549, .bool t550, .int .i64 t551], .bool true]), (62, .agg #[.int .i64 t547, .int .i64 t548, .int .i64 t549, .bool t550, .int .i64 t551]), (63, .bool true)]) (fun s_ w' => (w'.cell? ⟨gb546, 0, none⟩ = some (.int .i64 t540) ∧ w'.cell? ⟨gb546, 1, none⟩ = some (.int .i64 t541) ∧ w'.cell? ⟨gb546, 2, none⟩ = some (.int .i64 t542) ∧ w'.cell? ⟨gb546, 3, none⟩ = some (.bool t543) ∧ w'.cell? ⟨gb546, 4, none⟩ = some (.int .i64 t544) ∧ w'.cell? ⟨gb538, 0, none⟩ = some (.int .i64 t536) ∧ w'.cell? ⟨gb538, 1, none⟩ = some (.int .i64 t537)) ∧ (w'.heap[gb538]? = some (.cells #[.int .i64 t536, .int .i64 t537] 24 (0, 0))) ∧ (w'.heap[gb546]? = some (.cells #[.int .i64 t540, .int .i64 t541, .int .i64 t542, .bool t543, .int .i64 t544] 33 (0, 0))) ∧ (w'.heap[s_]? = some (.cells #[.int .i64 0, .int .i64 0, .int .i64 0, .bool false, .int .i64 0] 33 (0, 0))) ∧ (w.heap.size ≤ s_) ∧ (w.heap.size ≤ s_) ∧ (gb538 ≠ s_) ∧ (s_ ≠ gb538) ∧ (gb546 ≠ s_) ∧ (s_ ≠ gb546) ∧ (Below w.heap.size w w')) ?_ ?_
                        rotate_left
                        · intro hCont
                          refine two_ (i := 8) (j := 12) (Ni := some 61) (Nj := some 14) #[true, true, true, true, true, true, true, true, true, false, false, false, false, false, false] #[true, true, true, true, true, true, true, true, false, false, false, false, true, false, false] rfl rfl rfl rfl (two_of HT_.out (by kernel_rfl)) (by decide) (by decide) (fun K hK => ?_) (fun K hK => ?_)
                          · skip
                            refine goes_ Try.func12 (by kernel_rfl) rfl #[.slice (some ad539) l0.length c0, .agg #[.int .i64 t540, .int .i64 t541], .int .u8 70, .int .u8 (bt (rdOf ByteArray.empty l0 t536) t537), .int .i64 (wrap64 ((wrap64 (Int.tmod a3 3)) + 1))] (by rfl) rfl rfl (by (try simp only [List.map_toArray, List.map_cons, List.map_nil]); first | done | rfl | (simp only [List.length_drop, List.length_take]; rfl)) ?_
                            with_reducible refine (chars_Seek.calls k _ _ l0 t540 t541 70 (bt (rdOf ByteArray.empty l0 t536) t537) (wrap64 ((wrap64 (Int.tmod a3 3)) + 1)) t547 t548 t549 t550 t551 true _ ?side1 ?side2 A23.out).mono ?_
                            (case side1 => repeat (first | exact (Kd.C_below HR0.out HB.out) | (with_reducible refine Kd.C_alloc ?_ _) | (with_reducible refine Kd.C_drewN ?_ _) | (with_reducible refine Kd.C_drew ?_)))
                            (case side2 => exact HC0.out)
                            rintro e w43 ⟨rfl, hb⟩
                            refine ⟨_, rfl, ?_⟩
                            have n0_ := Aside0.mk (blk_below (g := gb538) (o := .cells #[.int .i64 t536, .int .i64 t537] 24 (0, 0)) (by (with_reducible repeat (first | refine blk_drewN ?_ _ | refine blk_drew ?_ | refine blk_alloc ?_ _)); exact BK538.out) hb)
                            have n1_ := Aside0.mk (blk_below (g := gb546) (o := .cells #[.int .i64 t540, .int .i64 t541, .int .i64 t542, .bool t543, .int .i64 t544] 33 (0, 0)) (by (with_reducible repeat (first | refine blk_drewN ?_ _ | refine blk_drew ?_ | refine blk_alloc ?_ _)); exact BK546.out) hb)
                            have n2_ := Aside0.mk (below_step (by repeat (first | (with_reducible first | exact HB.out | apply below_alloc | apply pw_below_drewN | apply below_drew1 | refine below_set ?_ GE538.out | refine below_set ?_ GE546.out) | exact HB.out)) hb)
                            clear BK538
                            clear BK546
                            clear HB
                            have BK538 := n0_
                            have BK546 := n1_
                            have HB := n2_
                            clear n0_ n1_ n2_
                            (try clear hb)
                            (try clear hb2)
                            (try clear hk)
                            (try clear hi)
                            refine hK.out _ _ ⟨(blk_cell BK546.out 0).trans rfl, (blk_cell BK546.out 1).trans rfl, (blk_cell BK546.out 2).trans rfl, (blk_cell BK546.out 3).trans rfl, (blk_cell BK546.out 4).trans rfl, (blk_cell BK538.out 0).trans rfl, (blk_cell BK538.out 1).trans rfl⟩ (fun hHeld => ?_)
                            clear hK K
                            refine norm_ (a' := ?_) ?_ ?_
                            rotate_left
                            · show Act.put _ (some 61) _ = _
                              simp only [Act.put, List.setIfInBounds_toArray, List.set_cons_zero, List.set_cons_succ, i64_w, i32_w]
                              rfl
                            refine pure_ (i := 9) (N := some 52) (v := ?_) (a' := ?_) #[true, true, true, true, true, true, true, true, true, true, false, false, false, false, false] rfl rfl (any_of HT_.out (by kernel_rfl)) (fun _ _ _ h => h) (Or.inl ⟨by rfl, ?_⟩) ?_ ?_
                            rotate_left
                            · intro w'
                              go_simp
                              with_reducible rfl
                            rotate_left
                            · simp only [Act.put, List.setIfInBounds_toArray, List.set_cons_zero, List.set_cons_succ, i64_w, i32_w]
                              rfl
                            refine pure_ (i := 10) (N := some 62) (v := ?_) (a' := ?_) #[true, true, true, true, true, true, true, true, true, true, true, false, false, false, false] rfl rfl (any_of HT_.out (by kernel_rfl)) (fun _ _ _ h => h) (Or.inl ⟨by rfl, ?_⟩) ?_ ?_
                            rotate_left
                            · intro w'
                              go_simp
                              with_reducible rfl
                            rotate_left
                            · simp only [Act.put, List.setIfInBounds_toArray, List.set_cons_zero, List.set_cons_succ, i64_w, i32_w]
                              rfl
                            refine pure_ (i := 11) (N := some 63) (v := ?_) (a' := ?_) #[true, true, true, true, true, true, true, true, true, true, true, true, false, false, false] rfl rfl (any_of HT_.out (by kernel_rfl)) (fun _ _ _ h => h) (Or.inl ⟨by rfl, ?_⟩) ?_ ?_
                            rotate_left
                            · intro w'
                              go_simp
                              with_reducible rfl
                            rotate_left
                            · simp only [Act.put, List.setIfInBounds_toArray, List.set_cons_zero, List.set_cons_succ, i64_w, i32_w]
                              rfl
                            refine one_ (i := 12) (N := some 14) #[true, true, true, true, true, true, true, true, true, true, true, true, true, false, false] rfl rfl (one_of HT_.out (by kernel_rfl)) (by decide) (fun K hK => ?_)
                            refine box_step ?hg (N := 14) ?hd (cs := #[.int .i64 0, .int .i64 0, .int .i64 0, .bool false, .int .i64 0]) (t := 33) ?hr ?_; (case hd => rfl); (case hg => rfl); (case hr => first | (go_simp; done) | (go_simp; rfl))
                            intro gb553 hg w44 hbox hb
                            have n0_ := Aside0.mk (blk_below (g := gb538) (o := .cells #[.int .i64 t536, .int .i64 t537] 24 (0, 0)) (by (with_reducible repeat (first | refine blk_drewN ?_ _ | refine blk_drew ?_ | refine blk_alloc ?_ _)); exact BK538.out) hb)
                            have n1_ := Aside0.mk (blk_below (g := gb546) (o := .cells #[.int .i64 t540, .int .i64 t541, .int .i64 t542, .bool t543, .int .i64 t544] 33 (0, 0)) (by (with_reducible repeat (first | refine blk_drewN ?_ _ | refine blk_drew ?_ | refine blk_alloc ?_ _)); exact BK546.out) hb)
                            have n2_ := Aside0.mk (below_step (by repeat (first | (with_reducible first | exact HB.out | apply below_alloc | apply pw_below_drewN | apply below_drew1 | refine below_set ?_ GE538.out | refine below_set ?_ GE546.out) | exact HB.out)) hb)
                            have n3_ := Aside0.mk (hbox)
                            have n4_ := Aside0.mk ((by rw [hg]; exact (below_size (by repeat (first | (with_reducible first | exact HB.out | apply below_alloc | apply pw_below_drewN | apply below_drew1 | refine below_set ?_ GE538.out | refine below_set ?_ GE546.out) | exact HB.out))) : w.heap.size ≤ gb553))
                            have n5_ := Aside0.mk ((by rw [hg]; exact (below_size (by repeat (first | (with_reducible first | exact HB.out | apply below_alloc | apply pw_below_drewN | apply below_drew1 | refine below_set ?_ GE538.out | refine below_set ?_ GE546.out) | exact HB.out))) : w.heap.size ≤ gb553))
                            have n6_ := Aside0.mk ((by rw [hg]; exact Nat.ne_of_lt (blk_lt (g := gb538) (o := .cells #[.int .i64 t536, .int .i64 t537] 24 (0, 0)) (by (with_reducible repeat (first | refine blk_drewN ?_ _ | refine blk_drew ?_ | refine blk_alloc ?_ _)); exact BK538.out)) : gb538 ≠ gb553))
                            have n7_ := Aside0.mk ((by rw [hg]; exact Nat.ne_of_gt (blk_lt (g := gb538) (o := .cells #[.int .i64 t536, .int .i64 t537] 24 (0, 0)) (by (with_reducible repeat (first | refine blk_drewN ?_ _ | refine blk_drew ?_ | refine blk_alloc ?_ _)); exact BK538.out)) : gb553 ≠ gb538))
                            have n8_ := Aside0.mk ((by rw [hg]; exact Nat.ne_of_lt (blk_lt (g := gb546) (o := .cells #[.int .i64 t540, .int .i64 t541, .int .i64 t542, .bool t543, .int .i64 t544] 33 (0, 0)) (by (with_reducible repeat (first | refine blk_drewN ?_ _ | refine blk_drew ?_ | refine blk_alloc ?_ _)); exact BK546.out)) : gb546 ≠ gb553))
                            have n9_ := Aside0.mk ((by rw [hg]; exact Nat.ne_of_gt (blk_lt (g := gb546) (o := .cells #[.int .i64 t540, .int .i64 t541, .int .i64 t542, .bool t543, .int .i64 t544] 33 (0, 0)) (by (with_reducible repeat (first | refine blk_drewN ?_ _ | refine blk_drew ?_ | refine blk_alloc ?_ _)); exact BK546.out)) : gb553 ≠ gb546))
                            clear BK538
                            clear BK546
                            clear HB
                            have BK538 := n0_
                            have BK546 := n1_
                            have HB := n2_
                            have BK553 := n3_
                            have GW553 := n4_
                            have GE553 := n5_
                            have NB538_553 := n6_
                            have NB553_538 := n7_
                            have NB546_553 := n8_
                            have NB553_546 := n9_
                            clear n0_ n1_ n2_ n3_ n4_ n5_ n6_ n7_ n8_ n9_
                            clear hb hbox hg
                            refine hK.out _ _ ⟨(blk_cell BK546.out 0).trans rfl, (blk_cell BK546.out 1).trans rfl, (blk_cell BK546.out 2).trans rfl, (blk_cell BK546.out 3).trans rfl, (blk_cell BK546.out 4).trans rfl, (blk_cell BK538.out 0).trans rfl, (blk_cell BK538.out 1).trans rfl⟩ (fun hHeld => ?_)
                            clear hK K
                            refine norm_ (a' := ?_) ?_ ?_
                            rotate_left
                            · show Act.put _ (some 14) _ = _
                              simp only [Act.put, List.setIfInBounds_toArray, List.set_cons_zero, List.set_cons_succ, i64_w, i32_w]
                              rfl
                            exact norm_ (by simp only [putAll, Act.put, List.setIfInBounds_toArray, List.set_cons_zero, List.set_cons_succ]) (hCont (gb553) _ ⟨hHeld, (by (with_reducible repeat (first | refine blk_drewN ?_ _ | refine blk_drew ?_ | refine blk_alloc ?_ _)); exact BK538.out), (by (with_reducible repeat (first | refine blk_drewN ?_ _ | refine blk_drew ?_ | refine blk_alloc ?_ _)); exact BK546.out), (by (with_reducible repeat (first | refine blk_drewN ?_ _ | refine blk_drew ?_ | refine blk_alloc ?_ _)); exact BK553.out), GW553.out, GE553.out, NB538_553.out, NB553_538.out, NB546_553.out, NB553_546.out, (by repeat (first | (with_reducible first | exact HB.out | apply below_alloc | apply pw_below_drewN | apply below_drew1 | refine below_set ?_ GE538.out | refine below_set ?_ GE546.out | refine below_set ?_ GE553.out) | exact HB.out))⟩)
                          · skip
                            refine box_step ?hg (N := 14) ?hd (cs := #[.int .i64 0, .int .i64 0, .int .i64 0, .bool false, .int .i64 0]) (t := 33) ?hr ?_; (case hd => rfl); (case hg => rfl); (case hr => first | (go_simp; done) | (go_simp; rfl))
                            intro gb553 hg w43 hbox hb
                            have n0_ := Aside0.mk (blk_below (g := gb538) (o := .cells #[.int .i64 t536, .int .i64 t537] 24 (0, 0)) (by (with_reducible repeat (first | refine blk_drewN ?_ _ | refine blk_drew ?_ | refine blk_alloc ?_ _)); exact BK538.out) hb)
                            have n1_ := Aside0.mk (blk_below (g := gb546) (o := .cells #[.int .i64 t540, .int .i64 t541, .int .i64 t542, .bool t543, .int .i64 t544] 33 (0, 0)) (by (with_reducible repeat (first | refine blk_drewN ?_ _ | refine blk_drew ?_ | refine blk_alloc ?_ _)); exact BK546.out) hb)
                            have n2_ := Aside0.mk (below_step (by repeat (first | (with_reducible first | exact HB.out | apply below_alloc | apply pw_below_drewN | apply below_drew1 | refine below_set ?_ GE538.out | refine below_set ?_ GE546.out) | exact HB.out)) hb)
                            have n3_ := Aside0.mk (hbox)
                            have n4_ := Aside0.mk ((by rw [hg]; exact (below_size (by repeat (first | (with_reducible first | exact HB.out | apply below_alloc | apply pw_below_drewN | apply below_drew1 | refine below_set ?_ GE538.out | refine below_set ?_ GE546.out) | exact HB.out))) : w.heap.size ≤ gb553))
                            have n5_ := Aside0.mk ((by rw [hg]; exact (below_size (by repeat (first | (with_reducible first | exact HB.out | apply below_alloc | apply pw_below_drewN | apply below_drew1 | refine below_set ?_ GE538.out | refine below_set ?_ GE546.out) | exact HB.out))) : w.heap.size ≤ gb553))
                            have n6_ := Aside0.mk ((by rw [hg]; exact Nat.ne_of_lt (blk_lt (g := gb538) (o := .cells #[.int .i64 t536, .int .i64 t537] 24 (0, 0)) (by (with_reducible repeat (first | refine blk_drewN ?_ _ | refine blk_drew ?_ | refine blk_alloc ?_ _)); exact BK538.out)) : gb538 ≠ gb553))
                            have n7_ := Aside0.mk ((by rw [hg]; exact Nat.ne_of_gt (blk_lt (g := gb538) (o := .cells #[.int .i64 t536, .int .i64 t537] 24 (0, 0)) (by (with_reducible repeat (first | refine blk_drewN ?_ _ | refine blk_drew ?_ | refine blk_alloc ?_ _)); exact BK538.out)) : gb553 ≠ gb538))
                            have n8_ := Aside0.mk ((by rw [hg]; exact Nat.ne_of_lt (blk_lt (g := gb546) (o := .cells #[.int .i64 t540, .int .i64 t541, .int .i64 t542, .bool t543, .int .i64 t544] 33 (0, 0)) (by (with_reducible repeat (first | refine blk_drewN ?_ _ | refine blk_drew ?_ | refine blk_alloc ?_ _)); exact BK546.out)) : gb546 ≠ gb553))
                            have n9_ := Aside0.mk ((by rw [hg]; exact Nat.ne_of_gt (blk_lt (g := gb546) (o := .cells #[.int .i64 t540, .int .i64 t541, .int .i64 t542, .bool t543, .int .i64 t544] 33 (0, 0)) (by (with_reducible repeat (first | refine blk_drewN ?_ _ | refine blk_drew ?_ | refine blk_alloc ?_ _)); exact BK546.out)) : gb553 ≠ gb546))
                            clear BK538
                            clear BK546
                            clear HB
                            have BK538 := n0_
                            have BK546 := n1_
                            have HB := n2_
                            have BK553 := n3_
                            have GW553 := n4_
                            have GE553 := n5_
                            have NB538_553 := n6_
                            have NB553_538 := n7_
                            have NB546_553 := n8_
                            have NB553_546 := n9_
                            clear n0_ n1_ n2_ n3_ n4_ n5_ n6_ n7_ n8_ n9_
                            clear hb hbox hg
                            refine hK.out _ _ ⟨(blk_cell BK546.out 0).trans rfl, (blk_cell BK546.out 1).trans rfl, (blk_cell BK546.out 2).trans rfl, (blk_cell BK546.out 3).trans rfl, (blk_cell BK546.out 4).trans rfl, (blk_cell BK538.out 0).trans rfl, (blk_cell BK538.out 1).trans rfl⟩ (fun hHeld => ?_)
                            clear hK K
                            refine norm_ (a' := ?_) ?_ ?_
                            rotate_left
                            · show Act.put _ (some 14) _ = _
                              simp only [Act.put, List.setIfInBounds_toArray, List.set_cons_zero, List.set_cons_succ, i64_w, i32_w]
                              rfl
                            refine one_ (i := 8) (N := some 61) #[true, true, true, true, true, true, true, true, true, false, false, false, true, false, false] rfl rfl (one_of HT_.out (by kernel_rfl)) (by decide) (fun K hK => ?_)
                            refine goes_ Try.func12 (by kernel_rfl) rfl #[.slice (some ad539) l0.length c0, .agg #[.int .i64 t540, .int .i64 t541], .int .u8 70, .int .u8 (bt (rdOf ByteArray.empty l0 t536) t537), .int .i64 (wrap64 ((wrap64 (Int.tmod a3 3)) + 1))] (by rfl) rfl rfl (by (try simp only [List.map_toArray, List.map_cons, List.map_nil]); first | done | rfl | (simp only [List.length_drop, List.length_take]; rfl)) ?_
                            with_reducible refine (chars_Seek.calls k _ _ l0 t540 t541 70 (bt (rdOf ByteArray.empty l0 t536) t537) (wrap64 ((wrap64 (Int.tmod a3 3)) + 1)) t547 t548 t549 t550 t551 true _ ?side1 ?side2 A23.out).mono ?_
                            (case side1 => repeat (first | exact (Kd.C_below HR0.out HB.out) | (with_reducible refine Kd.C_alloc ?_ _) | (with_reducible refine Kd.C_drewN ?_ _) | (with_reducible refine Kd.C_drew ?_)))
                            (case side2 => exact HC0.out)
                            rintro e w44 ⟨rfl, hb⟩
                            refine ⟨_, rfl, ?_⟩
                            have n0_ := Aside0.mk (blk_below (g := gb538) (o := .cells #[.int .i64 t536, .int .i64 t537] 24 (0, 0)) (by (with_reducible repeat (first | refine blk_drewN ?_ _ | refine blk_drew ?_ | refine blk_alloc ?_ _)); exact BK538.out) hb)
                            have n1_ := Aside0.mk (blk_below (g := gb546) (o := .cells #[.int .i64 t540, .int .i64 t541, .int .i64 t542, .bool t543, .int .i64 t544] 33 (0, 0)) (by (with_reducible repeat (first | refine blk_drewN ?_ _ | refine blk_drew ?_ | refine blk_alloc ?_ _)); exact BK546.out) hb)
                            have n2_ := Aside0.mk (blk_below (g := gb553) (o := .cells #[.int .i64 0, .int .i64 0, .int .i64 0, .bool false, .int .i64 0] 33 (0, 0)) (by (with_reducible repeat (first | refine blk_drewN ?_ _ | refine blk_drew ?_ | refine blk_alloc ?_ _)); exact BK553.out) hb)
                            have n3_ := Aside0.mk (below_step (by repeat (first | (with_reducible first | exact HB.out | apply below_alloc | apply pw_below_drewN | apply below_drew1 | refine below_set ?_ GE538.out | refine below_set ?_ GE546.out | refine below_set ?_ GE553.out) | exact HB.out)) hb)
                            clear BK538
                            clear BK546
                            clear BK553
                            clear HB
                            have BK538 := n0_
                            have BK546 := n1_
                            have BK553 := n2_
                            have HB := n3_
                            clear n0_ n1_ n2_ n3_
                            (try clear hb)
                            (try clear hb2)
                            (try clear hk)
                            (try clear hi)
                            refine hK.out _ _ ⟨(blk_cell BK546.out 0).trans rfl, (blk_cell BK546.out 1).trans rfl, (blk_cell BK546.out 2).trans rfl, (blk_cell BK546.out 3).trans rfl, (blk_cell BK546.out 4).trans rfl, (blk_cell BK538.out 0).trans rfl, (blk_cell BK538.out 1).trans rfl⟩ (fun hHeld => ?_)
                            clear hK K
                            refine norm_ (a' := ?_) ?_ ?_
                            rotate_left
                            · show Act.put _ (some 61) _ = _
                              simp only [Act.put, List.setIfInBounds_toArray, List.set_cons_zero, List.set_cons_succ, i64_w, i32_w]
                              rfl
                            refine pure_ (i := 9) (N := some 52) (v := ?_) (a' := ?_) #[true, true, true, true, true, true, true, true, true, true, false, false, true, false, false] rfl rfl (any_of HT_.out (by kernel_rfl)) (fun _ _ _ h => h) (Or.inl ⟨by rfl, ?_⟩) ?_ ?_
                            rotate_left
                            · intro w'
                              go_simp
                              with_reducible rfl
                            rotate_left
                            · simp only [Act.put, List.setIfInBounds_toArray, List.set_cons_zero, List.set_cons_succ, i64_w, i32_w]
                              rfl
                            refine pure_ (i := 10) (N := some 62) (v := ?_) (a' := ?_) #[true, true, true, true, true, true, true, true, true, true, true, false, true, false, false] rfl rfl (any_of HT_.out (by kernel_rfl)) (fun _ _ _ h => h) (Or.inl ⟨by rfl, ?_⟩) ?_ ?_
                            rotate_left
                            · intro w'
                              go_simp
                              with_reducible rfl
                            rotate_left
                            · simp only [Act.put, List.setIfInBounds_toArray, List.set_cons_zero, List.set_cons_succ, i64_w, i32_w]
                              rfl
                            refine pure_ (i := 11) (N := some 63) (v := ?_) (a' := ?_) #[true, true, true, true, true, true, true, true, true, true, true, true, true, false, false] rfl rfl (any_of HT_.out (by kernel_rfl)) (fun _ _ _ h => h) (Or.inl ⟨by rfl, ?_⟩) ?_ ?_
                            rotate_left
                            · intro w'
                              go_simp
                              with_reducible rfl
                            rotate_left
                            · simp only [Act.put, List.setIfInBounds_toArray, List.set_cons_zero, List.set_cons_succ, i64_w, i32_w]
                              rfl
                            exact norm_ (by simp only [putAll, Act.put, List.setIfInBounds_toArray, List.set_cons_zero, List.set_cons_succ]) (hCont (gb553) _ ⟨hHeld, (by (with_reducible repeat (first | refine blk_drewN ?_ _ | refine blk_drew ?_ | refine blk_alloc ?_ _)); exact BK538.out), (by (with_reducible repeat (first | refine blk_drewN ?_ _ | refine blk_drew ?_ | refine blk_alloc ?_ _)); exact BK546.out), (by (with_reducible repeat (first | refine blk_drewN ?_ _ | refine blk_drew ?_ | refine blk_alloc ?_ _)); exact BK553.out), GW553.out, GE553.out, NB538_553.out, NB553_538.out, NB546_553.out, NB553_546.out, (by repeat (first | (with_reducible first | exact HB.out | apply below_alloc | apply pw_below_drewN | apply below_drew1 | refine below_set ?_ GE538.out | refine below_set ?_ GE546.out | refine below_set ?_ GE553.out) | exact HB.out))⟩)
                        rintro gb553 w45 ⟨hS_, h0_, h1_, h2_, h3_, h4_, h5_, h6_, h7_, h8_, h9_⟩
                        have n0_ : Aside0 (w45.heap[gb538]? = some (.cells #[.int .i64 t536, .int .i64 t537] 24 (0, 0))) := ⟨h0_⟩
                        have n1_ : Aside0 (w45.heap[gb546]? = some (.cells #[.int .i64 t540, .int .i64 t541, .int .i64 t542, .bool t543, .int .i64 t544] 33 (0, 0))) := ⟨h1_⟩
                        have n2_ : Aside0 (w45.heap[gb553]? = some (.cells #[.int .i64 0, .int .i64 0, .int .i64 0, .bool false, .int .i64 0] 33 (0, 0))) := ⟨h2_⟩
                        have n3_ : Aside0 (w.heap.size ≤ gb553) := ⟨h3_⟩
                        have n4_ : Aside0 (w.heap.size ≤ gb553) := ⟨h4_⟩
                        have n5_ : Aside0 (gb538 ≠ gb553) := ⟨h5_⟩
                        have n6_ : Aside0 (gb553 ≠ gb538) := ⟨h6_⟩
                        have n7_ : Aside0 (gb546 ≠ gb553) := ⟨h7_⟩
                        have n8_ : Aside0 (gb553 ≠ gb546) := ⟨h8_⟩
                        have n9_ : Aside0 (Below w.heap.size w w45) := ⟨h9_⟩
                        clear BK538
                        clear BK546
                        clear HB
                        clear h0_ h1_ h2_ h3_ h4_ h5_ h6_ h7_ h8_ h9_
                        have BK538 := n0_
                        have BK546 := n1_
                        have BK553 := n2_
                        have GW553 := n3_
                        have GE553 := n4_
                        have NB538_553 := n5_
                        have NB553_538 := n6_
                        have NB546_553 := n7_
                        have NB553_546 := n8_
                        have HB := n9_
                        clear n0_ n1_ n2_ n3_ n4_ n5_ n6_ n7_ n8_ n9_
                        have hHeld : w45.cell? ⟨gb546, 0, none⟩ = some (.int .i64 t540) ∧ w45.cell? ⟨gb546, 1, none⟩ = some (.int .i64 t541) ∧ w45.cell? ⟨gb546, 2, none⟩ = some (.int .i64 t542) ∧ w45.cell? ⟨gb546, 3, none⟩ = some (.bool t543) ∧ w45.cell? ⟨gb546, 4, none⟩ = some (.int .i64 t544) ∧ w45.cell? ⟨gb538, 0, none⟩ = some (.int .i64 t536) ∧ w45.cell? ⟨gb538, 1, none⟩ = some (.int .i64 t537) := hS_
                        refine norm_ (a' := ?_) ?_ ?_
                        rotate_left
                        · simp only [putAll, Act.put, List.setIfInBounds_toArray, List.set_cons_zero, List.set_cons_succ]
                          rfl
                        refine one_ (i := 13) (N := none) #[true, true, true, true, true, true, true, true, true, true, true, true, true, true, false] rfl rfl (one_of HT_.out (by kernel_rfl)) (by decide) (fun K hK => ?_)
                        have hs46 : w45.cell? ⟨gb553, 0, none⟩ = some (.int .i64 0) := (blk_cell BK553.out 0).trans rfl
                        have hfs46 := blk_frozen BK553.out 0
                        have hns46_0 := NB538_553.out
                        have hns46_1 := NB546_553.out
                        have hms46_0 := NB553_538.out
                        have hms46_1 := NB553_546.out
                        have hs47 : w45.cell? ⟨gb553, 1, none⟩ = some (.int .i64 0) := (blk_cell BK553.out 1).trans rfl
                        have hfs47 := blk_frozen BK553.out 1
                        have hns47_0 := NB538_553.out
                        have hns47_1 := NB546_553.out
                        have hms47_0 := NB553_538.out
                        have hms47_1 := NB553_546.out
                        have hs48 : w45.cell? ⟨gb553, 2, none⟩ = some (.int .i64 0) := (blk_cell BK553.out 2).trans rfl
                        have hfs48 := blk_frozen BK553.out 2
                        have hns48_0 := NB538_553.out
                        have hns48_1 := NB546_553.out
                        have hms48_0 := NB553_538.out
                        have hms48_1 := NB553_546.out
                        have hs49 : w45.cell? ⟨gb553, 3, none⟩ = some (.bool false) := (blk_cell BK553.out 3).trans rfl
                        have hfs49 := blk_frozen BK553.out 3
                        have hns49_0 := NB538_553.out
                        have hns49_1 := NB546_553.out
                        have hms49_0 := NB553_538.out
                        have hms49_1 := NB553_546.out
                        have hs50 : w45.cell? ⟨gb553, 4, none⟩ = some (.int .i64 0) := (blk_cell BK553.out 4).trans rfl
                        have hfs50 := blk_frozen BK553.out 4
                        have hns50_0 := NB538_553.out
                        have hns50_1 := NB546_553.out
                        have hms50_0 := NB553_538.out
                        have hms50_1 := NB553_546.out
                        refine skip_ (w1 := ?_) (by rfl) rfl ?_ ?_
                        rotate_left
                        · go_simp
                          rfl
                        refine hK.out _ _ ⟨((cell_far (p := ⟨gb553, _, none⟩) NB546_553.out _).trans (((cell_far (p := ⟨gb553, _, none⟩) NB546_553.out _).trans (((cell_far (p := ⟨gb553, _, none⟩) NB546_553.out _).trans (((cell_far (p := ⟨gb553, _, none⟩) NB546_553.out _).trans (((cell_far (p := ⟨gb553, _, none⟩) NB546_553.out _).trans (hHeld.1)))))))))), ((cell_far (p := ⟨gb553, _, none⟩) NB546_553.out _).trans (((cell_far (p := ⟨gb553, _, none⟩) NB546_553.out _).trans (((cell_far (p := ⟨gb553, _, none⟩) NB546_553.out _).trans (((cell_far (p := ⟨gb553, _, none⟩) NB546_553.out _).trans (((cell_far (p := ⟨gb553, _, none⟩) NB546_553.out _).trans (hHeld.2.1)))))))))), ((cell_far (p := ⟨gb553, _, none⟩) NB546_553.out _).trans (((cell_far (p := ⟨gb553, _, none⟩) NB546_553.out _).trans (((cell_far (p := ⟨gb553, _, none⟩) NB546_553.out _).trans (((cell_far (p := ⟨gb553, _, none⟩) NB546_553.out _).trans (((cell_far (p := ⟨gb553, _, none⟩) NB546_553.out _).trans (hHeld.2.2.1)))))))))), ((cell_far (p := ⟨gb553, _, none⟩) NB546_553.out _).trans (((cell_far (p := ⟨gb553, _, none⟩) NB546_553.out _).trans (((cell_far (p := ⟨gb553, _, none⟩) NB546_553.out _).trans (((cell_far (p := ⟨gb553, _, none⟩) NB546_553.out _).trans (((cell_far (p := ⟨gb553, _, none⟩) NB546_553.out _).trans (hHeld.2.2.2.1)))))))))), ((cell_far (p := ⟨gb553, _, none⟩) NB546_553.out _).trans (((cell_far (p := ⟨gb553, _, none⟩) NB546_553.out _).trans (((cell_far (p := ⟨gb553, _, none⟩) NB546_553.out _).trans (((cell_far (p := ⟨gb553, _, none⟩) NB546_553.out _).trans (((cell_far (p := ⟨gb553, _, none⟩) NB546_553.out _).trans (hHeld.2.2.2.2.1)))))))))), ((cell_far (p := ⟨gb553, _, none⟩) NB538_553.out _).trans (((cell_far (p := ⟨gb553, _, none⟩) NB538_553.out _).trans (((cell_far (p := ⟨gb553, _, none⟩) NB538_553.out _).trans (((cell_far (p := ⟨gb553, _, none⟩) NB538_553.out _).trans (((cell_far (p := ⟨gb553, _, none⟩) NB538_553.out _).trans (hHeld.2.2.2.2.2.1)))))))))), ((cell_far (p := ⟨gb553, _, none⟩) NB538_553.out _).trans (((cell_far (p := ⟨gb553, _, none⟩) NB538_553.out _).trans (((cell_far (p := ⟨gb553, _, none⟩) NB538_553.out _).trans (((cell_far (p := ⟨gb553, _, none⟩) NB538_553.out _).trans (((cell_far (p := ⟨gb553, _, none⟩) NB538_553.out _).trans (hHeld.2.2.2.2.2.2))))))))))⟩ (fun hHeld => ?_)
                        clear hK K
                        refine pure_ (i := 14) (N := some 15) (v := ?_) (a' := ?_) #[true, true, true, true, true, true, true, true, true, true, true, true, true, true, true] rfl rfl (any_of HT_.out (by kernel_rfl)) (fun _ _ _ h => h) (Or.inl ⟨by rfl, ?_⟩) ?_ ?_
                        rotate_left
                        · intro w'
                          go_simp
                          with_reducible rfl
                        rotate_left
                        · simp only [Act.put, List.setIfInBounds_toArray, List.set_cons_zero, List.set_cons_succ, i64_w, i32_w]
                          rfl
                        refine done_ (done_of HT_.out (by kernel_rfl)) ?_
                        have hnb51 := NB553_538.out
                        have hnc51 := NB538_553.out
                        have hnb52 := NB553_546.out
                        have hnc52 := NB546_553.out
                        have hcz53_0 : w45.cell? ⟨gb553, 0, none⟩ = some (.int .i64 0) := (blk_cell BK553.out 0).trans rfl
                        have hcz53_1 : w45.cell? ⟨gb553, 1, none⟩ = some (.int .i64 0) := (blk_cell BK553.out 1).trans rfl
                        have hcz53_2 : w45.cell? ⟨gb553, 2, none⟩ = some (.int .i64 0) := (blk_cell BK553.out 2).trans rfl
                        have hcz53_3 : w45.cell? ⟨gb553, 3, none⟩ = some (.bool false) := (blk_cell BK553.out 3).trans rfl
                        have hcz53_4 : w45.cell? ⟨gb553, 4, none⟩ = some (.int .i64 0) := (blk_cell BK553.out 4).trans rfl
                        have hfz53_0 := blk_frozen BK553.out 0
                        have hfz53_1 := blk_frozen BK553.out 1
                        have hfz53_2 := blk_frozen BK553.out 2
                        have hfz53_3 := blk_frozen BK553.out 3
                        have hfz53_4 := blk_frozen BK553.out 4
                        have hnb54 := NB538_546.out
                        have hnc54 := NB546_538.out
                        have hcz55_0 : w45.cell? ⟨gb538, 0, none⟩ = some (.int .i64 t536) := (blk_cell BK538.out 0).trans rfl
                        have hcz55_1 : w45.cell? ⟨gb538, 1, none⟩ = some (.int .i64 t537) := (blk_cell BK538.out 1).trans rfl
                        have hfz55_0 := blk_frozen BK538.out 0
                        have hfz55_1 := blk_frozen BK538.out 1
                        have hcz56_0 : w45.cell? ⟨gb546, 0, none⟩ = some (.int .i64 t540) := (blk_cell BK546.out 0).trans rfl
                        have hcz56_1 : w45.cell? ⟨gb546, 1, none⟩ = some (.int .i64 t541) := (blk_cell BK546.out 1).trans rfl
                        have hcz56_2 : w45.cell? ⟨gb546, 2, none⟩ = some (.int .i64 t542) := (blk_cell BK546.out 2).trans rfl
                        have hcz56_3 : w45.cell? ⟨gb546, 3, none⟩ = some (.bool t543) := (blk_cell BK546.out 3).trans rfl
                        have hcz56_4 : w45.cell? ⟨gb546, 4, none⟩ = some (.int .i64 t544) := (blk_cell BK546.out 4).trans rfl
                        have hfz56_0 := blk_frozen BK546.out 0
                        have hfz56_1 := blk_frozen BK546.out 1
                        have hfz56_2 := blk_frozen BK546.out 2
                        have hfz56_3 := blk_frozen BK546.out 3
                        have hfz56_4 := blk_frozen BK546.out 4
                        try go_wp2
                        go_ret
                        exact ⟨by first | rfl | (simp [errW_none, errW_some] <;> rfl) | (simp [*, errW_none, errW_some] <;> rfl), by repeat (first | (with_reducible first | exact HB.out | apply below_alloc | apply pw_below_drewN | apply below_drew1 | refine below_set ?_ GE538.out | refine below_set ?_ GE546.out | refine below_set ?_ GE553.out) | exact HB.out)⟩
                      · rw [if_neg c26] at H
                        have c26b0 : (t542 == 1) = false := beq_eq_false_iff_ne.mpr c26
                        have c26b1 : (t542 != 1) = true := bne_iff_ne.mpr c26
                        exact absurd ((Option.some.inj H).trans HT.out) (by decide)
                    · rw [if_neg c25] at H
                      have c25b0 : (t547 == t536 && (t548 == t537)) = false := by simpa using c25
                      (try (have c25b1 : decide (t547 = t536 && (t548 == t537)) = false := by simpa using c25))
                      (try (have c25b2 : (t547 == t536 && (t548 == t537)) = false := by simpa using c25))
                      (try (have c25b3 : ¬ (t547 = t536 && (t548 == t537)) := by simpa using c25))
                      clear c25
                      exact absurd ((Option.some.inj H).trans HT.out) (by decide)
                  · replace c24 := Bool.eq_false_iff.mpr c24
                    subst c24
                    have H1 : (some false) = some r := by rw [if_neg (show ¬ (false = true) by decide)] at H; exact H
                    clear H
                    have H := H1
                    clear H1
                    exact absurd ((Option.some.inj H).trans HT.out) (by decide)
                · replace c21 := Bool.eq_false_iff.mpr c21
                  subst c21
                  have H1 : (some true) = some r := by rw [if_neg (show ¬ (false = true) by decide)] at H; exact H
                  clear H
                  have H := H1
                  clear H1
                  obtain rfl := Option.some.inj H
                  go_enter Try.func7, Try.ntmps7
                  try go_wp2_with (first | ((with_reducible refine gate_callee (f := 9) rfl ?_); refine goesL_ (some 16) rfl rfl Try.func9 (by kernel_rfl) rfl #[] rfl (by (try simp only [List.map_toArray, List.map_cons, List.map_nil]); first | done | rfl | (simp only [List.length_drop, List.length_take]; rfl)) ?_; (with_reducible refine (foolscaplaw7_known.calls k  true _ A5.out rfl).mono ?_); rintro e w140 ⟨rfl, hb⟩; refine ⟨_, rfl, ?_⟩; have n0_ := Aside0.mk (below_step (by repeat (first | (with_reducible first | exact HB.out | apply below_alloc | apply pw_below_drewN | apply below_drew1) | exact HB.out)) hb); clear HB; have HB := n0_; clear n0_; (try clear hb); (try clear hb2); (try clear hk); (try clear hi)) | ((with_reducible refine gate_callee (f := 10) rfl ?_); refine goesL_ (some 19) rfl rfl Try.func10 (by kernel_rfl) rfl #[.slice A0 l0.length c0] rfl (by (try simp only [List.map_toArray, List.map_cons, List.map_nil]); first | done | rfl | (simp only [List.length_drop, List.length_take]; rfl)) ?_; (with_reducible refine (foolscaphelp_Text.calls k _ _ l0 true _ ?side1 ?side2 A7.out).mono ?_); (case side1 => repeat (first | exact (Kd.C_below HR0.out HB.out) | (with_reducible refine Kd.C_alloc ?_ _) | (with_reducible refine Kd.C_drewN ?_ _) | (with_reducible refine Kd.C_drew ?_))); (case side2 => exact HC0.out); rintro e w' ⟨rfl, ⟨nd, rfl⟩⟩; refine ⟨_, rfl, ?_⟩; (try (rw [drewN_self w140]; generalize hq_ : World.drewN w140 _ = w140; have n0_ : Aside0 (Below w.heap.size w w140) := ⟨by rw [← hq_]; exact (by repeat (first | (with_reducible first | exact HB.out | apply below_alloc | apply pw_below_drewN | apply below_drew1) | exact HB.out))⟩; clear HB hq_; have HB := n0_; clear n0_))) | ((with_reducible refine gate_callee (f := 11) rfl ?_); refine goesL_ (some 24) rfl rfl Try.func11 (by kernel_rfl) rfl #[.slice A0 l0.length c0, .int .u16 a1, .int .u16 a2] rfl (by (try simp only [List.map_toArray, List.map_cons, List.map_nil]); first | done | rfl | (simp only [List.length_drop, List.length_take]; rfl)) ?_; (with_reducible refine (foolscapseat_Place.calls _ _ l0 a1 a2 t536 t537 _ ?side1 ?side2 A9.out).mono ?_); (case side1 => repeat (first | exact (Kd.C_below HR0.out HB.out) | (with_reducible refine Kd.C_alloc ?_ _) | (with_reducible refine Kd.C_drewN ?_ _) | (with_reducible refine Kd.C_drew ?_))); (case side2 => exact HC0.out); rintro e w141 ⟨rfl, hb⟩; refine ⟨_, rfl, ?_⟩; have n0_ := Aside0.mk (below_step (by repeat (first | (with_reducible first | exact HB.out | apply below_alloc | apply pw_below_drewN | apply below_drew1) | exact HB.out)) hb); clear HB; have HB := n0_; clear n0_; (try clear hb); (try clear hb2); (try clear hk); (try clear hi)) | ((with_reducible refine gate_dst (N := 9) rfl ?_); refine box_event ?hg (N := 9) ?hd (cs := #[.int .i64 0, .int .i64 0]) (t := 24) ?hr ?_; (case hd => rfl); (case hg => rfl); (case hr => first | (go_simp; done) | (go_simp; rfl)); intro gb538 hg w142 hbox hb; have n0_ := Aside0.mk (below_step (by repeat (first | (with_reducible first | exact HB.out | apply below_alloc | apply pw_below_drewN | apply below_drew1) | exact HB.out)) hb); have n1_ := Aside0.mk (hbox); have n2_ := Aside0.mk ((by rw [hg]; exact (below_size (by repeat (first | (with_reducible first | exact HB.out | apply below_alloc | apply pw_below_drewN | apply below_drew1) | exact HB.out))) : w.heap.size ≤ gb538)); have n3_ := Aside0.mk ((by rw [hg]; exact (below_size (by repeat (first | (with_reducible first | exact HB.out | apply below_alloc | apply pw_below_drewN | apply below_drew1) | exact HB.out))) : w.heap.size ≤ gb538)); clear HB; have HB := n0_; have BK538 := n1_; have GW538 := n2_; have GE538 := n3_; clear n0_ n1_ n2_ n3_; clear hb hbox hg; have hcz143_0 : w142.cell? ⟨gb538, 0, none⟩ = some (.int .i64 0) := (blk_cell BK538.out 0).trans rfl; have hcz143_1 : w142.cell? ⟨gb538, 1, none⟩ = some (.int .i64 0) := (blk_cell BK538.out 1).trans rfl; have hfz143_0 := blk_frozen BK538.out 0; have hfz143_1 := blk_frozen BK538.out 1; have p539 : 0 ≤ (t536 : Int) := of_decide_eq_true (by first | (with_reducible assumption) | assumption); have q539 : t536 < (l0.length : Int) := of_decide_eq_true (by first | (with_reducible assumption) | assumption); obtain ⟨ad539, e539, hx539_0⟩ := Kd.at_string HR0.out t536 p539 q539; cases e539; have hn539_0 : ad539.block ≠ gb538 := Nat.ne_of_lt (Nat.lt_of_lt_of_le (by have := World.block_lt_of_cell? _ _ hx539_0; first | rwa [add_block] at this | exact this) GW538.out); have hn539_1 : ad539.block ≠ gb538 := Nat.ne_of_lt (Nat.lt_of_lt_of_le (by have := World.block_lt_of_cell? _ _ hx539_0; first | rwa [add_block] at this | exact this) GW538.out); replace hx539_0 := (HB.out.cell (World.block_lt_of_cell? w _ hx539_0)).trans hx539_0; replace hx539_0 := (cell_far (p := ⟨gb538, 0, none⟩) (by first | (rw [add_block]; exact hn539_0) | (show (Addr.add _ _).block ≠ _; rw [add_block]; exact hn539_0) | exact hn539_0) (.int .i64 t536)).trans hx539_0; replace hx539_0 := (cell_far (p := ⟨gb538, 1, none⟩) (by first | (rw [add_block]; exact hn539_1) | (show (Addr.add _ _).block ≠ _; rw [add_block]; exact hn539_1) | exact hn539_1) (.int .i64 t537)).trans hx539_0; clear hn539_0; clear hn539_1; replace p539 := eq_true p539; replace q539 := eq_true q539))
                  have n0_ : Aside0 (((w142.setCell ⟨gb538, 0, none⟩ (.int .i64 t536)).setCell ⟨gb538, 1, none⟩ (.int .i64 t537)).heap[gb538]? = some (.cells #[.int .i64 t536, .int .i64 t537] 24 (0, 0))) := ⟨by (with_reducible repeat (first | refine blk_drewN ?_ _ | refine blk_drew ?_ | refine blk_alloc ?_ _)); refine blk_put (cs := #[.int .i64 t536, .int .i64 0]) ?_ 1 _ rfl; (with_reducible repeat (first | refine blk_drewN ?_ _ | refine blk_drew ?_ | refine blk_alloc ?_ _)); refine blk_put (cs := #[.int .i64 0, .int .i64 0]) ?_ 0 _ rfl; (with_reducible repeat (first | refine blk_drewN ?_ _ | refine blk_drew ?_ | refine blk_alloc ?_ _)); exact BK538.out⟩
                  have n1_ : Aside0 (Below w.heap.size w ((w142.setCell ⟨gb538, 0, none⟩ (.int .i64 t536)).setCell ⟨gb538, 1, none⟩ (.int .i64 t537))) := ⟨by repeat (first | (with_reducible first | exact HB.out | apply below_alloc | apply pw_below_drewN | apply below_drew1 | refine below_set ?_ GE538.out) | exact HB.out)⟩
                  (try clear BK538)
                  (try clear HB)
                  generalize ((w142.setCell ⟨gb538, 0, none⟩ (.int .i64 t536)).setCell ⟨gb538, 1, none⟩ (.int .i64 t537)) = w144 at n0_ n1_ ⊢
                  have BK538 := n0_
                  have HB := n1_
                  clear n0_ n1_
                  have n0_ := Aside0.mk (blk_drew BK538.out)
                  have n1_ := Aside0.mk (below_drew1 HB.out)
                  clear BK538
                  clear HB
                  have BK538 := n0_
                  have HB := n1_
                  clear n0_ n1_
                  have p19 : 0 ≤ (t537 : Int) := of_decide_eq_true (by first | (with_reducible assumption) | assumption)
                  have q19 : t537 < ((rdOf ByteArray.empty l0 t536).size : Int) := of_decide_eq_true (by first | (with_reducible assumption) | assumption)
                  have hx19 := bt_at (rdOf ByteArray.empty l0 t536) t537
                  replace p19 := eq_true p19
                  replace q19 := eq_true q19
                  refine start_ (n := 14) (S := fun w' => w'.cell? ⟨gb538, 0, none⟩ = some (.int .i64 t536) ∧ w'.cell? ⟨gb538, 1, none⟩ = some (.int .i64 t537)) (ds := []) #[false, false, false, false, false, false, false, false, false, false, false, false, false, false] (by kernel_rfl) rfl rfl ⟨(blk_cell BK538.out 0).trans rfl, (blk_cell BK538.out 1).trans rfl⟩ (fun hHeld => ?_); refine with_tabW foolscaplaw7_CharsBack.tab10 foolscaplaw7_CharsBack.bits10 (fun HT_ HW_ => ?_)
                  generalize w144.drew = w145 at BK538 HB hHeld ⊢
                  refine pure_ (i := 0) (N := some 40) (v := ?_) (a' := ?_) #[true, false, false, false, false, false, false, false, false, false, false, false, false, false] rfl rfl (any_of HT_.out (by kernel_rfl)) (fun _ _ _ h => h) (Or.inl ⟨by rfl, ?_⟩) ?_ ?_
                  rotate_left
                  · intro w'
                    go_simp
                    with_reducible rfl
                  rotate_left
                  · simp only [Act.put, List.setIfInBounds_toArray, List.set_cons_zero, List.set_cons_succ, i64_w, i32_w]
                    rfl
                  refine pure_ (i := 2) (N := some 42) (v := ?_) (a' := ?_) #[true, false, true, false, false, false, false, false, false, false, false, false, false, false] rfl rfl (any_of HT_.out (by kernel_rfl)) (fun _ _ _ h => h) (Or.inl ⟨by rfl, ?_⟩) ?_ ?_
                  rotate_left
                  · intro w'
                    go_simp
                    with_reducible rfl
                  rotate_left
                  · simp only [Act.put, List.setIfInBounds_toArray, List.set_cons_zero, List.set_cons_succ, i64_w, i32_w]
                    rfl
                  refine pure_ (i := 3) (N := some 43) (v := ?_) (a' := ?_) #[true, false, true, true, false, false, false, false, false, false, false, false, false, false] rfl rfl (any_of HT_.out (by kernel_rfl)) (fun _ _ _ h => h) (Or.inl ⟨by rfl, ?_⟩) ?_ ?_
                  rotate_left
                  · intro w'
                    go_simp
                    with_reducible rfl
                  rotate_left
                  · simp only [Act.put, List.setIfInBounds_toArray, List.set_cons_zero, List.set_cons_succ, i64_w, i32_w]
                    rfl
                  refine pure_ (i := 6) (N := some 46) (v := ?_) (a' := ?_) #[true, false, true, true, false, false, true, false, false, false, false, false, false, false] rfl rfl (any_of HT_.out (by kernel_rfl)) (fun _ _ _ h => h) (Or.inl ⟨by rfl, ?_⟩) ?_ ?_
                  rotate_left
                  · intro w'
                    go_simp
                    with_reducible rfl
                  rotate_left
                  · simp only [Act.put, List.setIfInBounds_toArray, List.set_cons_zero, List.set_cons_succ, i64_w, i32_w]
                    rfl
                  refine take_ (i := 1) (N := some 41) (v := ?_) (a' := ?_) #[true, true, true, true, false, false, true, false, false, false, false, false, false, false] rfl rfl (take_ofW HT_.out HW_.out (by kernel_rfl)) (fun _ _ _ h => h) (Or.inl ⟨by rfl, ?_⟩) hHeld ?_ ?_
                  rotate_left
                  · rintro w' ⟨s0, s1⟩
                    go_simp
                    with_reducible rfl
                  rotate_left
                  · simp only [Act.put, List.setIfInBounds_toArray, List.set_cons_zero, List.set_cons_succ, i64_w, i32_w]
                    rfl
                  refine take_ (i := 4) (N := some 44) (v := ?_) (a' := ?_) #[true, true, true, true, true, false, true, false, false, false, false, false, false, false] rfl rfl (take_ofW HT_.out HW_.out (by kernel_rfl)) (fun _ _ _ h => h) (Or.inl ⟨by rfl, ?_⟩) hHeld ?_ ?_
                  rotate_left
                  · rintro w' ⟨s0, s1⟩
                    go_simp
                    with_reducible rfl
                  rotate_left
                  · simp only [Act.put, List.setIfInBounds_toArray, List.set_cons_zero, List.set_cons_succ, i64_w, i32_w]
                    rfl
                  refine take_ (i := 5) (N := some 45) (v := ?_) (a' := ?_) #[true, true, true, true, true, true, true, false, false, false, false, false, false, false] rfl rfl (take_ofW HT_.out HW_.out (by kernel_rfl)) (fun _ _ _ h => h) (Or.inl ⟨by rfl, ?_⟩) hHeld ?_ ?_
                  rotate_left
                  · rintro w' ⟨s0, s1⟩
                    go_simp
                    with_reducible rfl
                  rotate_left
                  · simp only [Act.put, List.setIfInBounds_toArray, List.set_cons_zero, List.set_cons_succ, i64_w, i32_w]
                    rfl
                  refine join_ (σ := Nat) 2 #[true, true, true, true, true, true, true, true, true, true, true, true, false, false] (fun s_ => [(47, .tuple #[.agg #[.int .i64 t540, .int .i64 t541, .int .i64 t542, .bool t543, .int .i64 t544], .bool false]), (12, .pointer (some ⟨s_, 0, none⟩)), (39, .tuple #[.agg #[.int .i64 t540, .int .i64 t541, .int .i64 t542, .bool t543, .int .i64 t544], .bool false]), (48, .agg #[.int .i64 t540, .int .i64 t541, .int .i64 t542, .bool t543, .int .i64 t544]), (49, .bool false)]) (fun s_ w' => (w'.cell? ⟨gb538, 0, none⟩ = some (.int .i64 t536) ∧ w'.cell? ⟨gb538, 1, none⟩ = some (.int .i64 t537)) ∧ (w'.heap[gb538]? = some (.cells #[.int .i64 t536, .int .i64 t537] 24 (0, 0))) ∧ (w'.heap[s_]? = some (.cells #[.int .i64 0, .int .i64 0, .int .i64 0, .bool false, .int .i64 0] 33 (0, 0))) ∧ (w.heap.size ≤ s_) ∧ (w.heap.size ≤ s_) ∧ (gb538 ≠ s_) ∧ (s_ ≠ gb538) ∧ (Below w.heap.size w w')) ?_ ?_
                  rotate_left
                  · intro hCont
                    refine two_ (i := 7) (j := 11) (Ni := some 47) (Nj := some 12) #[true, true, true, true, true, true, true, true, false, false, false, false, false, false] #[true, true, true, true, true, true, true, false, false, false, false, true, false, false] rfl rfl rfl rfl (two_of HT_.out (by kernel_rfl)) (by decide) (by decide) (fun K hK => ?_) (fun K hK => ?_)
                    · skip
                      refine goes_ Try.func12 (by kernel_rfl) rfl #[.slice (some ad539) l0.length c0, .agg #[.int .i64 t536, .int .i64 t537], .int .u8 102, .int .u8 (bt (rdOf ByteArray.empty l0 t536) t537), .int .i64 (wrap64 ((wrap64 (Int.tmod a3 3)) + 1))] (by rfl) rfl rfl (by (try simp only [List.map_toArray, List.map_cons, List.map_nil]); first | done | rfl | (simp only [List.length_drop, List.length_take]; rfl)) ?_
                      with_reducible refine (chars_Seek.calls k _ _ l0 t536 t537 102 (bt (rdOf ByteArray.empty l0 t536) t537) (wrap64 ((wrap64 (Int.tmod a3 3)) + 1)) t540 t541 t542 t543 t544 false _ ?side1 ?side2 A20.out).mono ?_
                      (case side1 => repeat (first | exact (Kd.C_below HR0.out HB.out) | (with_reducible refine Kd.C_alloc ?_ _) | (with_reducible refine Kd.C_drewN ?_ _) | (with_reducible refine Kd.C_drew ?_)))
                      (case side2 => exact HC0.out)
                      rintro e w146 ⟨rfl, hb⟩
                      refine ⟨_, rfl, ?_⟩
                      have n0_ := Aside0.mk (blk_below (g := gb538) (o := .cells #[.int .i64 t536, .int .i64 t537] 24 (0, 0)) (by (with_reducible repeat (first | refine blk_drewN ?_ _ | refine blk_drew ?_ | refine blk_alloc ?_ _)); exact BK538.out) hb)
                      have n1_ := Aside0.mk (below_step (by repeat (first | (with_reducible first | exact HB.out | apply below_alloc | apply pw_below_drewN | apply below_drew1 | refine below_set ?_ GE538.out) | exact HB.out)) hb)
                      clear BK538
                      clear HB
                      have BK538 := n0_
                      have HB := n1_
                      clear n0_ n1_
                      (try clear hb)
                      (try clear hb2)
                      (try clear hk)
                      (try clear hi)
                      refine hK.out _ _ ⟨(blk_cell BK538.out 0).trans rfl, (blk_cell BK538.out 1).trans rfl⟩ (fun hHeld => ?_)
                      clear hK K
                      refine norm_ (a' := ?_) ?_ ?_
                      rotate_left
                      · show Act.put _ (some 47) _ = _
                        simp only [Act.put, List.setIfInBounds_toArray, List.set_cons_zero, List.set_cons_succ, i64_w, i32_w]
                        rfl
                      refine pure_ (i := 8) (N := some 39) (v := ?_) (a' := ?_) #[true, true, true, true, true, true, true, true, true, false, false, false, false, false] rfl rfl (any_of HT_.out (by kernel_rfl)) (fun _ _ _ h => h) (Or.inl ⟨by rfl, ?_⟩) ?_ ?_
                      rotate_left
                      · intro w'
                        go_simp
                        with_reducible rfl
                      rotate_left
                      · simp only [Act.put, List.setIfInBounds_toArray, List.set_cons_zero, List.set_cons_succ, i64_w, i32_w]
                        rfl
                      refine pure_ (i := 9) (N := some 48) (v := ?_) (a' := ?_) #[true, true, true, true, true, true, true, true, true, true, false, false, false, false] rfl rfl (any_of HT_.out (by kernel_rfl)) (fun _ _ _ h => h) (Or.inl ⟨by rfl, ?_⟩) ?_ ?_
                      rotate_left
                      · intro w'
                        go_simp
                        with_reducible rfl
                      rotate_left
                      · simp only [Act.put, List.setIfInBounds_toArray, List.set_cons_zero, List.set_cons_succ, i64_w, i32_w]
                        rfl
                      refine pure_ (i := 10) (N := some 49) (v := ?_) (a' := ?_) #[true, true, true, true, true, true, true, true, true, true, true, false, false, false] rfl rfl (any_of HT_.out (by kernel_rfl)) (fun _ _ _ h => h) (Or.inl ⟨by rfl, ?_⟩) ?_ ?_
                      rotate_left
                      · intro w'
                        go_simp
                        with_reducible rfl
                      rotate_left
                      · simp only [Act.put, List.setIfInBounds_toArray, List.set_cons_zero, List.set_cons_succ, i64_w, i32_w]
                        rfl
                      refine one_ (i := 11) (N := some 12) #[true, true, true, true, true, true, true, true, true, true, true, true, false, false] rfl rfl (one_of HT_.out (by kernel_rfl)) (by decide) (fun K hK => ?_)
                      refine box_step ?hg (N := 12) ?hd (cs := #[.int .i64 0, .int .i64 0, .int .i64 0, .bool false, .int .i64 0]) (t := 33) ?hr ?_; (case hd => rfl); (case hg => rfl); (case hr => first | (go_simp; done) | (go_simp; rfl))
                      intro gb546 hg w147 hbox hb
                      have n0_ := Aside0.mk (blk_below (g := gb538) (o := .cells #[.int .i64 t536, .int .i64 t537] 24 (0, 0)) (by (with_reducible repeat (first | refine blk_drewN ?_ _ | refine blk_drew ?_ | refine blk_alloc ?_ _)); exact BK538.out) hb)
                      have n1_ := Aside0.mk (below_step (by repeat (first | (with_reducible first | exact HB.out | apply below_alloc | apply pw_below_drewN | apply below_drew1 | refine below_set ?_ GE538.out) | exact HB.out)) hb)
                      have n2_ := Aside0.mk (hbox)
                      have n3_ := Aside0.mk ((by rw [hg]; exact (below_size (by repeat (first | (with_reducible first | exact HB.out | apply below_alloc | apply pw_below_drewN | apply below_drew1 | refine below_set ?_ GE538.out) | exact HB.out))) : w.heap.size ≤ gb546))
                      have n4_ := Aside0.mk ((by rw [hg]; exact (below_size (by repeat (first | (with_reducible first | exact HB.out | apply below_alloc | apply pw_below_drewN | apply below_drew1 | refine below_set ?_ GE538.out) | exact HB.out))) : w.heap.size ≤ gb546))
                      have n5_ := Aside0.mk ((by rw [hg]; exact Nat.ne_of_lt (blk_lt (g := gb538) (o := .cells #[.int .i64 t536, .int .i64 t537] 24 (0, 0)) (by (with_reducible repeat (first | refine blk_drewN ?_ _ | refine blk_drew ?_ | refine blk_alloc ?_ _)); exact BK538.out)) : gb538 ≠ gb546))
                      have n6_ := Aside0.mk ((by rw [hg]; exact Nat.ne_of_gt (blk_lt (g := gb538) (o := .cells #[.int .i64 t536, .int .i64 t537] 24 (0, 0)) (by (with_reducible repeat (first | refine blk_drewN ?_ _ | refine blk_drew ?_ | refine blk_alloc ?_ _)); exact BK538.out)) : gb546 ≠ gb538))
                      clear BK538
                      clear HB
                      have BK538 := n0_
                      have HB := n1_
                      have BK546 := n2_
                      have GW546 := n3_
                      have GE546 := n4_
                      have NB538_546 := n5_
                      have NB546_538 := n6_
                      clear n0_ n1_ n2_ n3_ n4_ n5_ n6_
                      clear hb hbox hg
                      refine hK.out _ _ ⟨(blk_cell BK538.out 0).trans rfl, (blk_cell BK538.out 1).trans rfl⟩ (fun hHeld => ?_)
                      clear hK K
                      refine norm_ (a' := ?_) ?_ ?_
                      rotate_left
                      · show Act.put _ (some 12) _ = _
                        simp only [Act.put, List.setIfInBounds_toArray, List.set_cons_zero, List.set_cons_succ, i64_w, i32_w]
                        rfl
                      exact norm_ (by simp only [putAll, Act.put, List.setIfInBounds_toArray, List.set_cons_zero, List.set_cons_succ]) (hCont (gb546) _ ⟨hHeld, (by (with_reducible repeat (first | refine blk_drewN ?_ _ | refine blk_drew ?_ | refine blk_alloc ?_ _)); exact BK538.out), (by (with_reducible repeat (first | refine blk_drewN ?_ _ | refine blk_drew ?_ | refine blk_alloc ?_ _)); exact BK546.out), GW546.out, GE546.out, NB538_546.out, NB546_538.out, (by repeat (first | (with_reducible first | exact HB.out | apply below_alloc | apply pw_below_drewN | apply below_drew1 | refine below_set ?_ GE538.out | refine below_set ?_ GE546.out) | exact HB.out))⟩)
                    · skip
                      refine box_step ?hg (N := 12) ?hd (cs := #[.int .i64 0, .int .i64 0, .int .i64 0, .bool false, .int .i64 0]) (t := 33) ?hr ?_; (case hd => rfl); (case hg => rfl); (case hr => first | (go_simp; done) | (go_simp; rfl))
                      intro gb546 hg w146 hbox hb
                      have n0_ := Aside0.mk (blk_below (g := gb538) (o := .cells #[.int .i64 t536, .int .i64 t537] 24 (0, 0)) (by (with_reducible repeat (first | refine blk_drewN ?_ _ | refine blk_drew ?_ | refine blk_alloc ?_ _)); exact BK538.out) hb)
                      have n1_ := Aside0.mk (below_step (by repeat (first | (with_reducible first | exact HB.out | apply below_alloc | apply pw_below_drewN | apply below_drew1 | refine below_set ?_ GE538.out) | exact HB.out)) hb)
                      have n2_ := Aside0.mk (hbox)
                      have n3_ := Aside0.mk ((by rw [hg]; exact (below_size (by repeat (first | (with_reducible first | exact HB.out | apply below_alloc | apply pw_below_drewN | apply below_drew1 | refine below_set ?_ GE538.out) | exact HB.out))) : w.heap.size ≤ gb546))
                      have n4_ := Aside0.mk ((by rw [hg]; exact (below_size (by repeat (first | (with_reducible first | exact HB.out | apply below_alloc | apply pw_below_drewN | apply below_drew1 | refine below_set ?_ GE538.out) | exact HB.out))) : w.heap.size ≤ gb546))
                      have n5_ := Aside0.mk ((by rw [hg]; exact Nat.ne_of_lt (blk_lt (g := gb538) (o := .cells #[.int .i64 t536, .int .i64 t537] 24 (0, 0)) (by (with_reducible repeat (first | refine blk_drewN ?_ _ | refine blk_drew ?_ | refine blk_alloc ?_ _)); exact BK538.out)) : gb538 ≠ gb546))
                      have n6_ := Aside0.mk ((by rw [hg]; exact Nat.ne_of_gt (blk_lt (g := gb538) (o := .cells #[.int .i64 t536, .int .i64 t537] 24 (0, 0)) (by (with_reducible repeat (first | refine blk_drewN ?_ _ | refine blk_drew ?_ | refine blk_alloc ?_ _)); exact BK538.out)) : gb546 ≠ gb538))
                      clear BK538
                      clear HB
                      have BK538 := n0_
                      have HB := n1_
                      have BK546 := n2_
                      have GW546 := n3_
                      have GE546 := n4_
                      have NB538_546 := n5_
                      have NB546_538 := n6_
                      clear n0_ n1_ n2_ n3_ n4_ n5_ n6_
                      clear hb hbox hg
                      refine hK.out _ _ ⟨(blk_cell BK538.out 0).trans rfl, (blk_cell BK538.out 1).trans rfl⟩ (fun hHeld => ?_)
                      clear hK K
                      refine norm_ (a' := ?_) ?_ ?_
                      rotate_left
                      · show Act.put _ (some 12) _ = _
                        simp only [Act.put, List.setIfInBounds_toArray, List.set_cons_zero, List.set_cons_succ, i64_w, i32_w]
                        rfl
                      refine one_ (i := 7) (N := some 47) #[true, true, true, true, true, true, true, true, false, false, false, true, false, false] rfl rfl (one_of HT_.out (by kernel_rfl)) (by decide) (fun K hK => ?_)
                      refine goes_ Try.func12 (by kernel_rfl) rfl #[.slice (some ad539) l0.length c0, .agg #[.int .i64 t536, .int .i64 t537], .int .u8 102, .int .u8 (bt (rdOf ByteArray.empty l0 t536) t537), .int .i64 (wrap64 ((wrap64 (Int.tmod a3 3)) + 1))] (by rfl) rfl rfl (by (try simp only [List.map_toArray, List.map_cons, List.map_nil]); first | done | rfl | (simp only [List.length_drop, List.length_take]; rfl)) ?_
                      with_reducible refine (chars_Seek.calls k _ _ l0 t536 t537 102 (bt (rdOf ByteArray.empty l0 t536) t537) (wrap64 ((wrap64 (Int.tmod a3 3)) + 1)) t540 t541 t542 t543 t544 false _ ?side1 ?side2 A20.out).mono ?_
                      (case side1 => repeat (first | exact (Kd.C_below HR0.out HB.out) | (with_reducible refine Kd.C_alloc ?_ _) | (with_reducible refine Kd.C_drewN ?_ _) | (with_reducible refine Kd.C_drew ?_)))
                      (case side2 => exact HC0.out)
                      rintro e w147 ⟨rfl, hb⟩
                      refine ⟨_, rfl, ?_⟩
                      have n0_ := Aside0.mk (blk_below (g := gb538) (o := .cells #[.int .i64 t536, .int .i64 t537] 24 (0, 0)) (by (with_reducible repeat (first | refine blk_drewN ?_ _ | refine blk_drew ?_ | refine blk_alloc ?_ _)); exact BK538.out) hb)
                      have n1_ := Aside0.mk (blk_below (g := gb546) (o := .cells #[.int .i64 0, .int .i64 0, .int .i64 0, .bool false, .int .i64 0] 33 (0, 0)) (by (with_reducible repeat (first | refine blk_drewN ?_ _ | refine blk_drew ?_ | refine blk_alloc ?_ _)); exact BK546.out) hb)
                      have n2_ := Aside0.mk (below_step (by repeat (first | (with_reducible first | exact HB.out | apply below_alloc | apply pw_below_drewN | apply below_drew1 | refine below_set ?_ GE538.out | refine below_set ?_ GE546.out) | exact HB.out)) hb)
                      clear BK538
                      clear BK546
                      clear HB
                      have BK538 := n0_
                      have BK546 := n1_
                      have HB := n2_
                      clear n0_ n1_ n2_
                      (try clear hb)
                      (try clear hb2)
                      (try clear hk)
                      (try clear hi)
                      refine hK.out _ _ ⟨(blk_cell BK538.out 0).trans rfl, (blk_cell BK538.out 1).trans rfl⟩ (fun hHeld => ?_)
                      clear hK K
                      refine norm_ (a' := ?_) ?_ ?_
                      rotate_left
                      · show Act.put _ (some 47) _ = _
                        simp only [Act.put, List.setIfInBounds_toArray, List.set_cons_zero, List.set_cons_succ, i64_w, i32_w]
                        rfl
                      refine pure_ (i := 8) (N := some 39) (v := ?_) (a' := ?_) #[true, true, true, true, true, true, true, true, true, false, false, true, false, false] rfl rfl (any_of HT_.out (by kernel_rfl)) (fun _ _ _ h => h) (Or.inl ⟨by rfl, ?_⟩) ?_ ?_
                      rotate_left
                      · intro w'
                        go_simp
                        with_reducible rfl
                      rotate_left
                      · simp only [Act.put, List.setIfInBounds_toArray, List.set_cons_zero, List.set_cons_succ, i64_w, i32_w]
                        rfl
                      refine pure_ (i := 9) (N := some 48) (v := ?_) (a' := ?_) #[true, true, true, true, true, true, true, true, true, true, false, true, false, false] rfl rfl (any_of HT_.out (by kernel_rfl)) (fun _ _ _ h => h) (Or.inl ⟨by rfl, ?_⟩) ?_ ?_
                      rotate_left
                      · intro w'
                        go_simp
                        with_reducible rfl
                      rotate_left
                      · simp only [Act.put, List.setIfInBounds_toArray, List.set_cons_zero, List.set_cons_succ, i64_w, i32_w]
                        rfl
                      refine pure_ (i := 10) (N := some 49) (v := ?_) (a' := ?_) #[true, true, true, true, true, true, true, true, true, true, true, true, false, false] rfl rfl (any_of HT_.out (by kernel_rfl)) (fun _ _ _ h => h) (Or.inl ⟨by rfl, ?_⟩) ?_ ?_
                      rotate_left
                      · intro w'
                        go_simp
                        with_reducible rfl
                      rotate_left
                      · simp only [Act.put, List.setIfInBounds_toArray, List.set_cons_zero, List.set_cons_succ, i64_w, i32_w]
                        rfl
                      exact norm_ (by simp only [putAll, Act.put, List.setIfInBounds_toArray, List.set_cons_zero, List.set_cons_succ]) (hCont (gb546) _ ⟨hHeld, (by (with_reducible repeat (first | refine blk_drewN ?_ _ | refine blk_drew ?_ | refine blk_alloc ?_ _)); exact BK538.out), (by (with_reducible repeat (first | refine blk_drewN ?_ _ | refine blk_drew ?_ | refine blk_alloc ?_ _)); exact BK546.out), GW546.out, GE546.out, NB538_546.out, NB546_538.out, (by repeat (first | (with_reducible first | exact HB.out | apply below_alloc | apply pw_below_drewN | apply below_drew1 | refine below_set ?_ GE538.out | refine below_set ?_ GE546.out) | exact HB.out))⟩)
                  rintro gb546 w148 ⟨hS_, h0_, h1_, h2_, h3_, h4_, h5_, h6_⟩
                  have n0_ : Aside0 (w148.heap[gb538]? = some (.cells #[.int .i64 t536, .int .i64 t537] 24 (0, 0))) := ⟨h0_⟩
                  have n1_ : Aside0 (w148.heap[gb546]? = some (.cells #[.int .i64 0, .int .i64 0, .int .i64 0, .bool false, .int .i64 0] 33 (0, 0))) := ⟨h1_⟩
                  have n2_ : Aside0 (w.heap.size ≤ gb546) := ⟨h2_⟩
                  have n3_ : Aside0 (w.heap.size ≤ gb546) := ⟨h3_⟩
                  have n4_ : Aside0 (gb538 ≠ gb546) := ⟨h4_⟩
                  have n5_ : Aside0 (gb546 ≠ gb538) := ⟨h5_⟩
                  have n6_ : Aside0 (Below w.heap.size w w148) := ⟨h6_⟩
                  clear BK538
                  clear HB
                  clear h0_ h1_ h2_ h3_ h4_ h5_ h6_
                  have BK538 := n0_
                  have BK546 := n1_
                  have GW546 := n2_
                  have GE546 := n3_
                  have NB538_546 := n4_
                  have NB546_538 := n5_
                  have HB := n6_
                  clear n0_ n1_ n2_ n3_ n4_ n5_ n6_
                  have hHeld : w148.cell? ⟨gb538, 0, none⟩ = some (.int .i64 t536) ∧ w148.cell? ⟨gb538, 1, none⟩ = some (.int .i64 t537) := hS_
                  refine norm_ (a' := ?_) ?_ ?_
                  rotate_left
                  · simp only [putAll, Act.put, List.setIfInBounds_toArray, List.set_cons_zero, List.set_cons_succ]
                    rfl
                  refine one_ (i := 12) (N := none) #[true, true, true, true, true, true, true, true, true, true, true, true, true, false] rfl rfl (one_of HT_.out (by kernel_rfl)) (by decide) (fun K hK => ?_)
                  have hs149 : w148.cell? ⟨gb546, 0, none⟩ = some (.int .i64 0) := (blk_cell BK546.out 0).trans rfl
                  have hfs149 := blk_frozen BK546.out 0
                  have hns149_0 := NB538_546.out
                  have hms149_0 := NB546_538.out
                  have hs150 : w148.cell? ⟨gb546, 1, none⟩ = some (.int .i64 0) := (blk_cell BK546.out 1).trans rfl
                  have hfs150 := blk_frozen BK546.out 1
                  have hns150_0 := NB538_546.out
                  have hms150_0 := NB546_538.out
                  have hs151 : w148.cell? ⟨gb546, 2, none⟩ = some (.int .i64 0) := (blk_cell BK546.out 2).trans rfl
                  have hfs151 := blk_frozen BK546.out 2
                  have hns151_0 := NB538_546.out
                  have hms151_0 := NB546_538.out
                  have hs152 : w148.cell? ⟨gb546, 3, none⟩ = some (.bool false) := (blk_cell BK546.out 3).trans rfl
                  have hfs152 := blk_frozen BK546.out 3
                  have hns152_0 := NB538_546.out
                  have hms152_0 := NB546_538.out
                  have hs153 : w148.cell? ⟨gb546, 4, none⟩ = some (.int .i64 0) := (blk_cell BK546.out 4).trans rfl
                  have hfs153 := blk_frozen BK546.out 4
                  have hns153_0 := NB538_546.out
                  have hms153_0 := NB546_538.out
                  refine skip_ (w1 := ?_) (by rfl) rfl ?_ ?_
                  rotate_left
                  · go_simp
                    rfl
                  refine hK.out _ _ ⟨((cell_far (p := ⟨gb546, _, none⟩) NB538_546.out _).trans (((cell_far (p := ⟨gb546, _, none⟩) NB538_546.out _).trans (((cell_far (p := ⟨gb546, _, none⟩) NB538_546.out _).trans (((cell_far (p := ⟨gb546, _, none⟩) NB538_546.out _).trans (((cell_far (p := ⟨gb546, _, none⟩) NB538_546.out _).trans (hHeld.1)))))))))), ((cell_far (p := ⟨gb546, _, none⟩) NB538_546.out _).trans (((cell_far (p := ⟨gb546, _, none⟩) NB538_546.out _).trans (((cell_far (p := ⟨gb546, _, none⟩) NB538_546.out _).trans (((cell_far (p := ⟨gb546, _, none⟩) NB538_546.out _).trans (((cell_far (p := ⟨gb546, _, none⟩) NB538_546.out _).trans (hHeld.2))))))))))⟩ (fun hHeld => ?_)
                  clear hK K
                  refine pure_ (i := 13) (N := some 13) (v := ?_) (a' := ?_) #[true, true, true, true, true, true, true, true, true, true, true, true, true, true] rfl rfl (any_of HT_.out (by kernel_rfl)) (fun _ _ _ h => h) (Or.inl ⟨by rfl, ?_⟩) ?_ ?_
                  rotate_left
                  · intro w'
                    go_simp
                    with_reducible rfl
                  rotate_left
                  · simp only [Act.put, List.setIfInBounds_toArray, List.set_cons_zero, List.set_cons_succ, i64_w, i32_w]
                    rfl
                  refine done_ (done_of HT_.out (by kernel_rfl)) ?_
                  try go_wp2
                  go_ret
                  exact ⟨by first | rfl | (simp [errW_none, errW_some] <;> rfl) | (simp [*, errW_none, errW_some] <;> rfl), by repeat (first | (with_reducible first | exact HB.out | apply below_alloc | apply pw_below_drewN | apply below_drew1 | refine below_set ?_ GE538.out | refine below_set ?_ GE546.out) | exact HB.out)⟩
              · rw [if_neg c18] at H
                exact absurd H (by simp)
            · rw [if_neg c17] at H
              exact absurd H (by simp)
        · rw [if_neg c11] at H
          exact absurd H (by simp)
      · rw [if_neg c10] at H
        exact absurd H (by simp)
    · replace c8 := Bool.eq_false_iff.mpr c8
      subst c8
      have H1 : (some true) = some r := by rw [if_neg (show ¬ (false = true) by decide)] at H; exact H
      clear H
      have H := H1
      clear H1
      obtain rfl := Option.some.inj H
      go_enter Try.func7, Try.ntmps7
      go_wp2_with (first | ((with_reducible refine gate_callee (f := 9) rfl ?_); refine goesL_ (some 16) rfl rfl Try.func9 (by kernel_rfl) rfl #[] rfl (by (try simp only [List.map_toArray, List.map_cons, List.map_nil]); first | done | rfl | (simp only [List.length_drop, List.length_take]; rfl)) ?_; (with_reducible refine (foolscaplaw7_known.calls k  true _ A5.out rfl).mono ?_); rintro e w154 ⟨rfl, hb⟩; refine ⟨_, rfl, ?_⟩; have n0_ := Aside0.mk (below_step (by repeat (first | (with_reducible first | exact HB.out | apply below_alloc | apply pw_below_drewN | apply below_drew1) | exact HB.out)) hb); clear HB; have HB := n0_; clear n0_; (try clear hb); (try clear hb2); (try clear hk); (try clear hi)) | ((with_reducible refine gate_callee (f := 10) rfl ?_); refine goesL_ (some 19) rfl rfl Try.func10 (by kernel_rfl) rfl #[.slice A0 l0.length c0] rfl (by (try simp only [List.map_toArray, List.map_cons, List.map_nil]); first | done | rfl | (simp only [List.length_drop, List.length_take]; rfl)) ?_; (with_reducible refine (foolscaphelp_Text.calls k _ _ l0 false _ ?side1 ?side2 A7.out).mono ?_); (case side1 => repeat (first | exact (Kd.C_below HR0.out HB.out) | (with_reducible refine Kd.C_alloc ?_ _) | (with_reducible refine Kd.C_drewN ?_ _) | (with_reducible refine Kd.C_drew ?_))); (case side2 => exact HC0.out); rintro e w' ⟨rfl, ⟨nd, rfl⟩⟩; refine ⟨_, rfl, ?_⟩))
      go_ret
      exact ⟨by first | rfl | (simp [errW_none, errW_some] <;> rfl) | (simp [*, errW_none, errW_some] <;> rfl), by repeat (first | (with_reducible first | exact HB.out | apply below_alloc | apply pw_below_drewN | apply below_drew1) | exact HB.out)⟩
  · replace c6 := Bool.eq_false_iff.mpr c6
    subst c6
    have H1 : (some false) = some r := by rw [if_neg (show ¬ (false = true) by decide)] at H; exact H
    clear H
    have H := H1
    clear H1
    exact absurd ((Option.some.inj H).trans HT.out) (by decide)
end Go.Proofs.Ytdiakjamahdcfaa.V
