/- Texts of the proof of 'VertMove', merged in build order (part 4 of 4). -/
import Derived.OpenShut
import Derived.Test.YtngkpgocjeiheaaRows
import Derived.WalkKit
import Derived.ProofKit
import Derived.ShutString
import Derived.ChangeOld
import Derived.Below
import Derived.SizedLaws
import Derived.SliceStrings
import Derived.Lib.SmallJoins
import Derived.Test.YtngkpgocjeiheaaMVertMove3
namespace Go.Proofs.Ytngkpgocjeiheaa.V
open Go.RowKit Go.Proofs.YtngkpgocjeiheaaW.PrintWords Go.Proofs.YtngkpgocjeiheaaW.PrintLast Go.Proofs.YtngkpgocjeiheaaW.PrintMore
attribute [local go_sem] max2_int min2_int max_two min_two max_three min_three max_four min_four   -- for this text's walks alone
set_option linter.unusedVariables false
set_option linter.unusedSimpArgs false

/-! ### foolscaplaw9_VertMove: function 7 -/
mutual
def foolscaplaw9_VertMove.l0 : Nat → List ByteArray → Int → Int → List (S24) → Int → Int → Option (Bool)
  | 0, _, _, _, _, _, _ => none
  | k + 1, x0, x4, x5, x31, x32, x33 => if x33 < x32 then (if 0 ≤ x33 then (if x33 < (x31.length : Int) then ((some (([x4, Int.tmod x4 9, 1] : List Int) : List Int)).bind fun y487 => (foolscaplaw9_VertMove.l1 k x0 x4 x5 x31 x32 x33 y487 (y487.length : Int) 0 ((rd_T24 x31 x33).f0) ((rd_T24 x31 x33).f1))) else (none)) else (none)) else (some true)
def foolscaplaw9_VertMove.l1 : Nat → List ByteArray → Int → Int → List (S24) → Int → Int → List Int → Int → Int → Int → Int → Option (Bool)
  | 0, _, _, _, _, _, _, _, _, _, _, _ => none
  | k + 1, x0, x4, x5, x31, x32, x33, x40, x41, x42, x487000, x487001 => if x42 < x41 then (if 0 ≤ x42 then (if x42 < (x40.length : Int) then ((vert_Down.f k x0 x487000 x487001 (rd x40 x42) x5).bind fun bt491 => ((foolscapref5_Vertical.f k x0 x487000 x487001 (rd x40 x42) x5 false).bind fun bt498 => ((foolscaplaw9_same.f bt491.1 bt491.2.1 bt491.2.2.1 bt491.2.2.2.1 bt491.2.2.2.2.1 bt491.2.2.2.2.2 bt498.1 bt498.2.1 bt498.2.2.1 bt498.2.2.2.1 bt498.2.2.2.2.1 bt498.2.2.2.2.2).bind fun t505 => (if t505 = true then ((vert_Up.f k x0 x487000 x487001 (rd x40 x42) (Int.tmod x5 30)).bind fun bt506 => ((foolscapref5_Vertical.f k x0 x487000 x487001 (rd x40 x42) (Int.tmod x5 30) true).bind fun bt512 => ((foolscaplaw9_same.f bt506.1 bt506.2.1 bt506.2.2.1 bt506.2.2.2.1 bt506.2.2.2.2.1 bt506.2.2.2.2.2 bt512.1 bt512.2.1 bt512.2.2.1 bt512.2.2.2.1 bt512.2.2.2.2.1 bt512.2.2.2.2.2).bind fun t518 => (if t518 = true then ((vert_Plus.f k x0 x487000 x487001 (rd x40 x42)).bind fun bt519 => ((foolscapref5_Plus.f k x0 x487000 x487001 (rd x40 x42)).bind fun bt525 => ((foolscaplaw9_same.f bt519.1 bt519.2.1 bt519.2.2.1 bt519.2.2.2.1 bt519.2.2.2.2.1 bt519.2.2.2.2.2 bt525.1 bt525.2.1 bt525.2.2.1 bt525.2.2.2.1 bt525.2.2.2.2.1 bt525.2.2.2.2.2).bind fun t531 => (if t531 = true then ((vert_Minus.f k x0 x487000 x487001 (rd x40 x42)).bind fun bt532 => ((foolscapref5_Minus.f k x0 x487000 x487001 (rd x40 x42)).bind fun bt538 => ((foolscaplaw9_same.f bt532.1 bt532.2.1 bt532.2.2.1 bt532.2.2.2.1 bt532.2.2.2.2.1 bt532.2.2.2.2.2 bt538.1 bt538.2.1 bt538.2.2.1 bt538.2.2.2.1 bt538.2.2.2.2.1 bt538.2.2.2.2.2).bind fun t544 => (if t544 = true then ((vert_Under.f k x0 x487000 x487001 (rd x40 x42)).bind fun bt545 => ((foolscapref5_Under.f k x0 x487000 x487001 (rd x40 x42)).bind fun bt551 => ((foolscaplaw9_same.f bt545.1 bt545.2.1 bt545.2.2.1 bt545.2.2.2.1 bt545.2.2.2.2.1 bt545.2.2.2.2.2 bt551.1 bt551.2.1 bt551.2.2.1 bt551.2.2.2.1 bt551.2.2.2.2.1 bt551.2.2.2.2.2).bind fun t557 => (if t557 = true then ((vert_Goto.f k x0 x487000 x487001 (rd x40 x42)).bind fun bt558 => ((foolscapref5_Goto.f k x0 x487000 x487001 (rd x40 x42)).bind fun bt564 => ((foolscaplaw9_same.f bt558.1 bt558.2.1 bt558.2.2.1 bt558.2.2.2.1 bt558.2.2.2.2.1 bt558.2.2.2.2.2 bt564.1 bt564.2.1 bt564.2.2.1 bt564.2.2.2.1 bt564.2.2.2.2.1 bt564.2.2.2.2.2).bind fun t570 => (if t570 = true then (foolscaplaw9_VertMove.l1 k x0 x4 x5 x31 x32 x33 x40 x41 (wrap64 (x42 + 1)) x487000 x487001) else (some false))))) else (some false))))) else (some false))))) else (some false))))) else (some false))))) else (some false))))) else (none)) else (none)) else (foolscaplaw9_VertMove.l0 k x0 x4 x5 x31 x32 (wrap64 (x33 + 1)))
end
def foolscaplaw9_VertMove.f (k : Nat) (l0 : List ByteArray) (a1_0 : Int) (a1_1 : Int) (a2 : Int) (a3 : Int) (a4 : Int) (a5 : Int) : Option (Bool) := (foolscaplaw9_known.f k).bind fun t478 => (if t478 = true then ((foolscaphelp_Text.f k l0).bind fun t479 => (if t479 = true then ((foolscapseat_Place.f l0 a2 a3).bind fun bt480 => ((some (([(⟨a1_0, a1_1⟩ : S24), (⟨bt480.1, bt480.2⟩ : S24)] : List (S24)) : List (S24))).bind fun y482 => (foolscaplaw9_VertMove.l0 k l0 a4 a5 y482 (y482.length : Int) 0))) else (some true))) else (some false))
theorem foolscaplaw9_VertMove.mono_l : ∀ k, (∀ y0 y1 y2 y3 y4 y5, LeO (foolscaplaw9_VertMove.l0 k y0 y1 y2 y3 y4 y5) (foolscaplaw9_VertMove.l0 (k + 1) y0 y1 y2 y3 y4 y5)) ∧ (∀ y0 y1 y2 y3 y4 y5 y6 y7 y8 y9 y10, LeO (foolscaplaw9_VertMove.l1 k y0 y1 y2 y3 y4 y5 y6 y7 y8 y9 y10) (foolscaplaw9_VertMove.l1 (k + 1) y0 y1 y2 y3 y4 y5 y6 y7 y8 y9 y10))
  | 0 => ⟨fun _ _ _ _ _ _ r h => by simp [foolscaplaw9_VertMove.l0] at h, fun _ _ _ _ _ _ _ _ _ _ _ r h => by simp [foolscaplaw9_VertMove.l1] at h⟩
  | k + 1 => by
    obtain ⟨ih0, ih1⟩ := foolscaplaw9_VertMove.mono_l k
    refine ⟨?_, ?_⟩
    · intro y0 y1 y2 y3 y4 y5
      unfold foolscaplaw9_VertMove.l0
      repeat' first
      | (with_reducible exact ih0 _ _ _ _ _ _)
      | (with_reducible exact ih1 _ _ _ _ _ _ _ _ _ _ _)
      | (with_reducible exact foolscaphelp_Text.mono _ _)
      | (with_reducible exact foolscaplaw9_known.mono _)
      | (with_reducible exact foolscapref5_Goto.mono _ _ _ _ _)
      | (with_reducible exact foolscapref5_Minus.mono _ _ _ _ _)
      | (with_reducible exact foolscapref5_Plus.mono _ _ _ _ _)
      | (with_reducible exact foolscapref5_Under.mono _ _ _ _ _)
      | (with_reducible exact foolscapref5_Vertical.mono _ _ _ _ _ _ _)
      | (with_reducible exact vert_Down.mono _ _ _ _ _ _)
      | (with_reducible exact vert_Goto.mono _ _ _ _ _)
      | (with_reducible exact vert_Minus.mono _ _ _ _ _)
      | (with_reducible exact vert_Plus.mono _ _ _ _ _)
      | (with_reducible exact vert_Under.mono _ _ _ _ _)
      | (with_reducible exact vert_Up.mono _ _ _ _ _ _)
      | (with_reducible exact LeO.refl _)
      | (with_reducible exact LeO.none _)
      | (with_reducible refine LeO.ite ?_ ?_)
      | (with_reducible refine LeO.bind ?_ (fun _ => ?_))
      | exact ih0 _ _ _ _ _ _
      | exact ih1 _ _ _ _ _ _ _ _ _ _ _
      | exact foolscaphelp_Text.mono _ _
      | exact foolscaplaw9_known.mono _
      | exact foolscapref5_Goto.mono _ _ _ _ _
      | exact foolscapref5_Minus.mono _ _ _ _ _
      | exact foolscapref5_Plus.mono _ _ _ _ _
      | exact foolscapref5_Under.mono _ _ _ _ _
      | exact foolscapref5_Vertical.mono _ _ _ _ _ _ _
      | exact vert_Down.mono _ _ _ _ _ _
      | exact vert_Goto.mono _ _ _ _ _
      | exact vert_Minus.mono _ _ _ _ _
      | exact vert_Plus.mono _ _ _ _ _
      | exact vert_Under.mono _ _ _ _ _
      | exact vert_Up.mono _ _ _ _ _ _
      | exact LeO.none _
      | refine LeO.ite ?_ ?_
      | refine LeO.bind ?_ (fun _ => ?_)
    · intro y0 y1 y2 y3 y4 y5 y6 y7 y8 y9 y10
      unfold foolscaplaw9_VertMove.l1
      repeat' first
      | (with_reducible exact ih0 _ _ _ _ _ _)
      | (with_reducible exact ih1 _ _ _ _ _ _ _ _ _ _ _)
      | (with_reducible exact foolscaphelp_Text.mono _ _)
      | (with_reducible exact foolscaplaw9_known.mono _)
      | (with_reducible exact foolscapref5_Goto.mono _ _ _ _ _)
      | (with_reducible exact foolscapref5_Minus.mono _ _ _ _ _)
      | (with_reducible exact foolscapref5_Plus.mono _ _ _ _ _)
      | (with_reducible exact foolscapref5_Under.mono _ _ _ _ _)
      | (with_reducible exact foolscapref5_Vertical.mono _ _ _ _ _ _ _)
      | (with_reducible exact vert_Down.mono _ _ _ _ _ _)
      | (with_reducible exact vert_Goto.mono _ _ _ _ _)
      | (with_reducible exact vert_Minus.mono _ _ _ _ _)
      | (with_reducible exact vert_Plus.mono _ _ _ _ _)
      | (with_reducible exact vert_Under.mono _ _ _ _ _)
      | (with_reducible exact vert_Up.mono _ _ _ _ _ _)
      | (with_reducible exact LeO.refl _)
      | (with_reducible exact LeO.none _)
      | (with_reducible refine LeO.ite ?_ ?_)
      | (with_reducible refine LeO.bind ?_ (fun _ => ?_))
      | exact ih0 _ _ _ _ _ _
      | exact ih1 _ _ _ _ _ _ _ _ _ _ _
      | exact foolscaphelp_Text.mono _ _
      | exact foolscaplaw9_known.mono _
      | exact foolscapref5_Goto.mono _ _ _ _ _
      | exact foolscapref5_Minus.mono _ _ _ _ _
      | exact foolscapref5_Plus.mono _ _ _ _ _
      | exact foolscapref5_Under.mono _ _ _ _ _
      | exact foolscapref5_Vertical.mono _ _ _ _ _ _ _
      | exact vert_Down.mono _ _ _ _ _ _
      | exact vert_Goto.mono _ _ _ _ _
      | exact vert_Minus.mono _ _ _ _ _
      | exact vert_Plus.mono _ _ _ _ _
      | exact vert_Under.mono _ _ _ _ _
      | exact vert_Up.mono _ _ _ _ _ _
      | exact LeO.none _
      | refine LeO.ite ?_ ?_
      | refine LeO.bind ?_ (fun _ => ?_)
theorem foolscaplaw9_VertMove.mono : ∀ a0 a1 a2 a3 a4 a5 a6 k, LeO (foolscaplaw9_VertMove.f k a0 a1 a2 a3 a4 a5 a6) (foolscaplaw9_VertMove.f (k + 1) a0 a1 a2 a3 a4 a5 a6) := by
  intro a0 a1 a2 a3 a4 a5 a6 k
  obtain ⟨ih0, ih1⟩ := foolscaplaw9_VertMove.mono_l k
  unfold foolscaplaw9_VertMove.f
  repeat' first
      | (with_reducible exact ih0 _ _ _ _ _ _)
      | (with_reducible exact ih1 _ _ _ _ _ _ _ _ _ _ _)
      | (with_reducible exact foolscaphelp_Text.mono _ _)
      | (with_reducible exact foolscaplaw9_known.mono _)
      | (with_reducible exact foolscapref5_Goto.mono _ _ _ _ _)
      | (with_reducible exact foolscapref5_Minus.mono _ _ _ _ _)
      | (with_reducible exact foolscapref5_Plus.mono _ _ _ _ _)
      | (with_reducible exact foolscapref5_Under.mono _ _ _ _ _)
      | (with_reducible exact foolscapref5_Vertical.mono _ _ _ _ _ _ _)
      | (with_reducible exact vert_Down.mono _ _ _ _ _ _)
      | (with_reducible exact vert_Goto.mono _ _ _ _ _)
      | (with_reducible exact vert_Minus.mono _ _ _ _ _)
      | (with_reducible exact vert_Plus.mono _ _ _ _ _)
      | (with_reducible exact vert_Under.mono _ _ _ _ _)
      | (with_reducible exact vert_Up.mono _ _ _ _ _ _)
      | (with_reducible exact LeO.refl _)
      | (with_reducible exact LeO.none _)
      | (with_reducible refine LeO.ite ?_ ?_)
      | (with_reducible refine LeO.bind ?_ (fun _ => ?_))
      | exact ih0 _ _ _ _ _ _
      | exact ih1 _ _ _ _ _ _ _ _ _ _ _
      | exact foolscaphelp_Text.mono _ _
      | exact foolscaplaw9_known.mono _
      | exact foolscapref5_Goto.mono _ _ _ _ _
      | exact foolscapref5_Minus.mono _ _ _ _ _
      | exact foolscapref5_Plus.mono _ _ _ _ _
      | exact foolscapref5_Under.mono _ _ _ _ _
      | exact foolscapref5_Vertical.mono _ _ _ _ _ _ _
      | exact vert_Down.mono _ _ _ _ _ _
      | exact vert_Goto.mono _ _ _ _ _
      | exact vert_Minus.mono _ _ _ _ _
      | exact vert_Plus.mono _ _ _ _ _
      | exact vert_Under.mono _ _ _ _ _
      | exact vert_Up.mono _ _ _ _ _ _
      | exact LeO.none _
      | refine LeO.ite ?_ ?_
      | refine LeO.bind ?_ (fun _ => ?_)
def foolscaplaw9_VertMove.T5 : Bool × List (List Nat × List Nat) := (true, [([], []), ([], []), ([], []), ([], []), ([1, 2, 3], [1, 2, 3]), ([0, 4], [0, 4]), ([5], [5]), ([], [])])
def foolscaplaw9_VertMove.B5 : List Nat := [0, 0, 0, 0, 14, 31, 63, 0]
theorem foolscaplaw9_VertMove.tab5 : rtab .any (opsOf Try.f7 5) = foolscaplaw9_VertMove.T5 := by kernel_rfl
theorem foolscaplaw9_VertMove.bits5 : waitsOk foolscaplaw9_VertMove.T5.2 foolscaplaw9_VertMove.B5 = true := by kernel_rfl
set_option maxHeartbeats 8000000 in
set_option maxRecDepth 100000 in
theorem foolscaplaw9_VertMove.calls (k : Nat) (A0 : Option Addr) (c0 : Nat) (l0 : List ByteArray) (a1_0 : Int) (a1_1 : Int) (a2 : Int) (a3 : Int) (a4 : Int) (a5 : Int) (r : Bool) (w : World) (hr0 : Kd.C Kd.string w A0 l0.length l0) (hc0 : l0.length ≤ c0) (h : foolscaplaw9_VertMove.f k l0 a1_0 a1_1 a2 a3 a4 a5 = some r) (hrT : r = true) :
    Calls Try.prog 7 #[.slice A0 l0.length c0, .agg #[.int .i64 a1_0, .int .i64 a1_1], .int .u16 a2, .int .u16 a3, .int .i64 a4, .int .i64 a5] w fun e w' => e = .returned (.bool r) ∧ Below w.heap.size w w' := by
  have HT := Aside0.mk hrT
  clear hrT
  have hu24 := Try.underlying24
  have hu33 := Try.underlying33
  have HR0 := Aside0.mk hr0
  have HC0 := Aside0.mk hc0
  clear hr0 hc0
  have HB := Aside0.mk (Below.refl w.heap.size w)
  have H : ((foolscaplaw9_known.f k).bind fun t478 => (if t478 = true then ((foolscaphelp_Text.f k l0).bind fun t479 => (if t479 = true then ((foolscapseat_Place.f l0 a2 a3).bind fun bt480 => ((some (([(⟨a1_0, a1_1⟩ : S24), (⟨bt480.1, bt480.2⟩ : S24)] : List (S24)) : List (S24))).bind fun y482 => (foolscaplaw9_VertMove.l0 k l0 a4 a5 y482 (y482.length : Int) 0))) else (some true))) else (some false))) = some r := h
  clear h
  replace H := Option.bind_eq_some_iff.mp H
  obtain ⟨t478, A70, H⟩ := H
  replace H : (if t478 = true then ((foolscaphelp_Text.f k l0).bind fun t479 => (if t479 = true then ((foolscapseat_Place.f l0 a2 a3).bind fun bt480 => ((some (([(⟨a1_0, a1_1⟩ : S24), (⟨bt480.1, bt480.2⟩ : S24)] : List (S24)) : List (S24))).bind fun y482 => (foolscaplaw9_VertMove.l0 k l0 a4 a5 y482 (y482.length : Int) 0))) else (some true))) else (some false)) = some r := H
  have A7 := Aside0.mk A70
  clear A70
  by_cases c8 : t478 = true
  · subst c8
    have H1 : ((foolscaphelp_Text.f k l0).bind fun t479 => (if t479 = true then ((foolscapseat_Place.f l0 a2 a3).bind fun bt480 => ((some (([(⟨a1_0, a1_1⟩ : S24), (⟨bt480.1, bt480.2⟩ : S24)] : List (S24)) : List (S24))).bind fun y482 => (foolscaplaw9_VertMove.l0 k l0 a4 a5 y482 (y482.length : Int) 0))) else (some true))) = some r := by rw [if_pos rfl] at H; exact H
    clear H
    have H := H1
    clear H1
    replace H := Option.bind_eq_some_iff.mp H
    obtain ⟨t479, A90, H⟩ := H
    replace H : (if t479 = true then ((foolscapseat_Place.f l0 a2 a3).bind fun bt480 => ((some (([(⟨a1_0, a1_1⟩ : S24), (⟨bt480.1, bt480.2⟩ : S24)] : List (S24)) : List (S24))).bind fun y482 => (foolscaplaw9_VertMove.l0 k l0 a4 a5 y482 (y482.length : Int) 0))) else (some true)) = some r := H
    have A9 := Aside0.mk A90
    clear A90
    by_cases c10 : t479 = true
    · subst c10
      have H1 : ((foolscapseat_Place.f l0 a2 a3).bind fun bt480 => ((some (([(⟨a1_0, a1_1⟩ : S24), (⟨bt480.1, bt480.2⟩ : S24)] : List (S24)) : List (S24))).bind fun y482 => (foolscaplaw9_VertMove.l0 k l0 a4 a5 y482 (y482.length : Int) 0))) = some r := by rw [if_pos rfl] at H; exact H
      clear H
      have H := H1
      clear H1
      replace H := Option.bind_eq_some_iff.mp H
      obtain ⟨⟨t480, t481⟩, A110, H⟩ := H
      replace H : ((some (([(⟨a1_0, a1_1⟩ : S24), (⟨t480, t481⟩ : S24)] : List (S24)) : List (S24))).bind fun y482 => (foolscaplaw9_VertMove.l0 k l0 a4 a5 y482 (y482.length : Int) 0)) = some r := H
      have A11 := Aside0.mk A110
      clear A110
      obtain ⟨y482, hy482⟩ : ∃ y_ : List (S24), y_ = (([(⟨a1_0, a1_1⟩ : S24), (⟨t480, t481⟩ : S24)] : List (S24))) := ⟨_, rfl⟩
      replace H : (foolscaplaw9_VertMove.l0 k l0 a4 a5 y482 (y482.length : Int) 0) = some r := by first | (rw [hy482]; with_reducible exact H) | (have H2_ := (Option.bind_some _ _).symm.trans H; rw [hy482]; with_reducible exact H2_) | (have H2_ := (Option.bind_some _ _).symm.trans H; with_reducible exact H2_) | with_reducible exact H | (rw [hy482]; exact H) | exact H
      have Ny482 := Aside0.mk hy482
      clear hy482
      have H' := Aside0.mk H
      clear H
      go_enter Try.func7, Try.ntmps7
      try go_wp2_with (first | ((with_reducible refine gate_dst (N := 7) rfl ?_); refine box_event ?hg (N := 7) ?hd (cs := #[.int .i64 a1_0, .int .i64 a1_1]) (t := 24) ?hr ?_; (case hd => rfl); (case hg => rfl); (case hr => first | (go_simp; done) | (go_simp; rfl)); intro gb477 hg w12 hbox hb; have n0_ := Aside0.mk (below_step (by repeat (first | (with_reducible first | exact HB.out | apply below_alloc | apply pw_below_drewN | apply below_drew1) | exact HB.out)) hb); have n1_ := Aside0.mk (hbox); have n2_ := Aside0.mk ((by rw [hg]; exact (below_size (by repeat (first | (with_reducible first | exact HB.out | apply below_alloc | apply pw_below_drewN | apply below_drew1) | exact HB.out))) : w.heap.size ≤ gb477)); have n3_ := Aside0.mk ((by rw [hg]; exact (below_size (by repeat (first | (with_reducible first | exact HB.out | apply below_alloc | apply pw_below_drewN | apply below_drew1) | exact HB.out))) : w.heap.size ≤ gb477)); clear HB; have HB := n0_; have BK477 := n1_; have GW477 := n2_; have GE477 := n3_; clear n0_ n1_ n2_ n3_; clear hb hbox hg) | ((with_reducible refine gate_callee (f := 8) rfl ?_); refine goesL_ (some 21) rfl rfl Try.func8 (by kernel_rfl) rfl #[] rfl (by (try simp only [List.map_toArray, List.map_cons, List.map_nil]); first | done | rfl | (simp only [List.length_drop, List.length_take]; rfl)) ?_; (with_reducible refine (foolscaplaw9_known.calls k  true _ A7.out rfl).mono ?_); rintro e w13 ⟨rfl, hb⟩; refine ⟨_, rfl, ?_⟩; have n0_ := Aside0.mk (blk_below (g := gb477) (o := .cells #[.int .i64 a1_0, .int .i64 a1_1] 24 (0, 0)) (by (with_reducible repeat (first | refine blk_drewN ?_ _ | refine blk_drew ?_ | refine blk_alloc ?_ _)); exact BK477.out) hb); have n1_ := Aside0.mk (below_step (by repeat (first | (with_reducible first | exact HB.out | apply below_alloc | apply pw_below_drewN | apply below_drew1 | refine below_set ?_ GE477.out) | exact HB.out)) hb); clear BK477; clear HB; have BK477 := n0_; have HB := n1_; clear n0_ n1_; (try clear hb); (try clear hb2); (try clear hk); (try clear hi)) | ((with_reducible refine gate_callee (f := 9) rfl ?_); refine goesL_ (some 24) rfl rfl Try.func9 (by kernel_rfl) rfl #[.slice A0 l0.length c0] rfl (by (try simp only [List.map_toArray, List.map_cons, List.map_nil]); first | done | rfl | (simp only [List.length_drop, List.length_take]; rfl)) ?_; (with_reducible refine (foolscaphelp_Text.calls k _ _ l0 true _ ?side1 ?side2 A9.out).mono ?_); (case side1 => repeat (first | exact (Kd.C_below HR0.out HB.out) | (with_reducible refine Kd.C_alloc ?_ _) | (with_reducible refine Kd.C_drewN ?_ _) | (with_reducible refine Kd.C_drew ?_))); (case side2 => exact HC0.out); rintro e w' ⟨rfl, ⟨nd, rfl⟩⟩; refine ⟨_, rfl, ?_⟩))
      (try (rw [drewN_self w13]; generalize hq_ : World.drewN w13 _ = w13; have n0_ : Aside0 (w13.heap[gb477]? = some (.cells #[.int .i64 a1_0, .int .i64 a1_1] 24 (0, 0))) := ⟨by rw [← hq_]; exact (by (with_reducible repeat (first | refine blk_drewN ?_ _ | refine blk_drew ?_ | refine blk_alloc ?_ _)); exact BK477.out)⟩; have n1_ : Aside0 (Below w.heap.size w w13) := ⟨by rw [← hq_]; exact (by repeat (first | (with_reducible first | exact HB.out | apply below_alloc | apply pw_below_drewN | apply below_drew1 | refine below_set ?_ GE477.out) | exact HB.out))⟩; clear BK477 HB hq_; have BK477 := n0_; have HB := n1_; clear n0_ n1_))
      have n0_ := Aside0.mk (blk_drew BK477.out)
      have n1_ := Aside0.mk (below_drew1 HB.out)
      clear BK477
      clear HB
      have BK477 := n0_
      have HB := n1_
      clear n0_ n1_
      refine start_ (n := 8) (S := fun w' => w'.cell? ⟨gb477, 0, none⟩ = some (.int .i64 a1_0) ∧ w'.cell? ⟨gb477, 1, none⟩ = some (.int .i64 a1_1)) (ds := []) #[false, false, false, false, false, false, false, false] (by kernel_rfl) rfl rfl ⟨(blk_cell BK477.out 0).trans rfl, (blk_cell BK477.out 1).trans rfl⟩ (fun hHeld => ?_); refine with_tabW foolscaplaw9_VertMove.tab5 foolscaplaw9_VertMove.bits5 (fun HT_ HW_ => ?_)
      generalize w13.drew = w14 at BK477 HB hHeld ⊢
      refine pure_ (i := 1) (N := some 27) (v := ?_) (a' := ?_) #[false, true, false, false, false, false, false, false] rfl rfl (any_of HT_.out (by kernel_rfl)) (fun _ _ _ h => h) (Or.inl ⟨by rfl, ?_⟩) ?_ ?_
      rotate_left
      · intro w'
        go_simp
        with_reducible rfl
      rotate_left
      · simp only [Act.put, List.setIfInBounds_toArray, List.set_cons_zero, List.set_cons_succ, i64_w, i32_w]
        rfl
      refine pure_ (i := 2) (N := some 28) (v := ?_) (a' := ?_) #[false, true, true, false, false, false, false, false] rfl rfl (any_of HT_.out (by kernel_rfl)) (fun _ _ _ h => h) (Or.inl ⟨by rfl, ?_⟩) ?_ ?_
      rotate_left
      · intro w'
        go_simp
        with_reducible rfl
      rotate_left
      · simp only [Act.put, List.setIfInBounds_toArray, List.set_cons_zero, List.set_cons_succ, i64_w, i32_w]
        rfl
      refine pure_ (i := 3) (N := some 29) (v := ?_) (a' := ?_) #[false, true, true, true, false, false, false, false] rfl rfl (any_of HT_.out (by kernel_rfl)) (fun _ _ _ h => h) (Or.inl ⟨by rfl, ?_⟩) ?_ ?_
      rotate_left
      · intro w'
        go_simp
        with_reducible rfl
      rotate_left
      · simp only [Act.put, List.setIfInBounds_toArray, List.set_cons_zero, List.set_cons_succ, i64_w, i32_w]
        rfl
      refine pure_ (i := 7) (N := some 33) (v := ?_) (a' := ?_) #[false, true, true, true, false, false, false, true] rfl rfl (any_of HT_.out (by kernel_rfl)) (fun _ _ _ h => h) (Or.inl ⟨by rfl, ?_⟩) ?_ ?_
      rotate_left
      · intro w'
        go_simp
        with_reducible rfl
      rotate_left
      · simp only [Act.put, List.setIfInBounds_toArray, List.set_cons_zero, List.set_cons_succ, i64_w, i32_w]
        rfl
      refine take_ (i := 0) (N := some 26) (v := ?_) (a' := ?_) #[true, true, true, true, false, false, false, true] rfl rfl (take_ofW HT_.out HW_.out (by kernel_rfl)) (fun _ _ _ h => h) (Or.inl ⟨by rfl, ?_⟩) hHeld ?_ ?_
      rotate_left
      · rintro w' ⟨s0, s1⟩
        go_simp
        with_reducible rfl
      rotate_left
      · simp only [Act.put, List.setIfInBounds_toArray, List.set_cons_zero, List.set_cons_succ, i64_w, i32_w]
        rfl
      refine one_ (i := 4) (N := some 30) #[true, true, true, true, true, false, false, true] rfl rfl (one_of HT_.out (by kernel_rfl)) (by decide) (fun K hK => ?_)
      refine goes_ Try.func10 (by kernel_rfl) rfl #[.slice A0 l0.length c0, .int .u16 a2, .int .u16 a3] (by rfl) rfl rfl (by (try simp only [List.map_toArray, List.map_cons, List.map_nil]); first | done | rfl | (simp only [List.length_drop, List.length_take]; rfl)) ?_
      with_reducible refine (foolscapseat_Place.calls _ _ l0 a2 a3 t480 t481 _ ?side1 ?side2 A11.out).mono ?_
      (case side1 => repeat (first | exact (Kd.C_below HR0.out HB.out) | (with_reducible refine Kd.C_alloc ?_ _) | (with_reducible refine Kd.C_drewN ?_ _) | (with_reducible refine Kd.C_drew ?_)))
      (case side2 => exact HC0.out)
      rintro e w15 ⟨rfl, hb⟩
      refine ⟨_, rfl, ?_⟩
      have n0_ := Aside0.mk (blk_below (g := gb477) (o := .cells #[.int .i64 a1_0, .int .i64 a1_1] 24 (0, 0)) (by (with_reducible repeat (first | refine blk_drewN ?_ _ | refine blk_drew ?_ | refine blk_alloc ?_ _)); exact BK477.out) hb)
      have n1_ := Aside0.mk (below_step (by repeat (first | (with_reducible first | exact HB.out | apply below_alloc | apply pw_below_drewN | apply below_drew1 | refine below_set ?_ GE477.out) | exact HB.out)) hb)
      clear BK477
      clear HB
      have BK477 := n0_
      have HB := n1_
      clear n0_ n1_
      (try clear hb)
      (try clear hb2)
      (try clear hk)
      (try clear hi)
      refine hK.out _ _ ⟨(blk_cell BK477.out 0).trans rfl, (blk_cell BK477.out 1).trans rfl⟩ (fun hHeld => ?_)
      clear hK K
      refine norm_ (a' := ?_) ?_ ?_
      rotate_left
      · show Act.put _ (some 30) _ = _
        simp only [Act.put, List.setIfInBounds_toArray, List.set_cons_zero, List.set_cons_succ, i64_w, i32_w]
        rfl
      refine one_ (i := 5) (N := some 31) #[true, true, true, true, true, true, false, true] rfl rfl (one_of HT_.out (by kernel_rfl)) (by decide) (fun K hK => ?_)
      refine Kd.R_lit_step k24 _ 24 ?hg (N := 31) ?hd (xs := ([(⟨a1_0, a1_1⟩ : S24), (⟨t480, t481⟩ : S24)] : List (S24))) (inner := [.int .i64 a1_0, .int .i64 a1_1, .int .i64 t480, .int .i64 t481]) (ok := fun _ => True) (okp := fun _ => True) ?hr ?hp (fun _ hk => hk) trivial (Below.refl _ _) (Nat.le_refl _) (by simp) ?_; (case hd => rfl); (case hg => rfl); (case hr => first | (go_simp; done) | (go_simp; rfl)); (case hp => exact (Reps.c2 (show Kd.M k24 _ _ _ (⟨a1_0, a1_1⟩ : S24) [.int .i64 a1_0, .int .i64 a1_1] from (k24_mkM _ _ _ (⟨a1_0, a1_1⟩ : S24) )) (Reps.c2 (show Kd.M k24 _ _ _ (⟨t480, t481⟩ : S24) [.int .i64 t480, .int .i64 t481] from (k24_mkM _ _ _ (⟨t480, t481⟩ : S24) )) (Reps.none _ _))))
      intro v483 w16 ho17 hb hg_ hnew_
      clear hg_ hnew_
      (first | rw [← Ny482.out] at ho17 | (simp only [Int.reduceToNat] at ho17; rw [← Ny482.out] at ho17))
      have n0_ := Aside0.mk (Kd.R_lower (Kd.R_newB ho17 (g := gb477) (o := .cells #[.int .i64 a1_0, .int .i64 a1_1] 24 (0, 0)) (by (with_reducible repeat (first | refine blk_drewN ?_ _ | refine blk_drew ?_ | refine blk_alloc ?_ _)); exact BK477.out)) (below_size (by repeat (first | (with_reducible first | exact HB.out | apply below_alloc | apply pw_below_drewN | apply below_drew1 | refine below_set ?_ GE477.out) | exact HB.out))))
      have n1_ := Aside0.mk (blk_below (g := gb477) (o := .cells #[.int .i64 a1_0, .int .i64 a1_1] 24 (0, 0)) (by (with_reducible repeat (first | refine blk_drewN ?_ _ | refine blk_drew ?_ | refine blk_alloc ?_ _)); exact BK477.out) hb)
      have n2_ := Aside0.mk (below_step (by repeat (first | (with_reducible first | exact HB.out | apply below_alloc | apply pw_below_drewN | apply below_drew1 | refine below_set ?_ GE477.out) | exact HB.out)) hb)
      clear BK477
      clear HB
      have HO484 := n0_
      have BK477 := n1_
      have HB := n2_
      clear n0_ n1_ n2_
      clear hb ho17
      obtain ⟨Ao18, co18, eo18⟩ := Kd.R_slice HO484.out
      (first | subst eo18 | (injection eo18 with f1_ f2_ f3_; have f4_ := f1_.symm; have f5_ := f3_.symm; clear f1_ f2_ f3_; subst f4_; subst f5_))
      refine hK.out _ _ ⟨(blk_cell BK477.out 0).trans rfl, (blk_cell BK477.out 1).trans rfl⟩ (fun hHeld => ?_)
      clear hK K
      refine norm_ (a' := ?_) ?_ ?_
      rotate_left
      · show Act.put _ (some 31) _ = _
        simp only [Act.put, List.setIfInBounds_toArray, List.set_cons_zero, List.set_cons_succ, i64_w, i32_w]
        rfl
      refine pure_ (i := 6) (N := some 32) (v := ?_) (a' := ?_) #[true, true, true, true, true, true, true, true] rfl rfl (any_of HT_.out (by kernel_rfl)) (fun _ _ _ h => h) (Or.inl ⟨by rfl, ?_⟩) ?_ ?_
      rotate_left
      · intro w'
        go_simp
        with_reducible rfl
      rotate_left
      · simp only [Act.put, List.setIfInBounds_toArray, List.set_cons_zero, List.set_cons_succ, i64_w, i32_w]
        rfl
      refine done_ (done_of HT_.out (by kernel_rfl)) ?_
      try go_wp2
      go_loopg [33] k (fun kq v33 w' => ∃ (x33_1 : Int), v33 = .int .i64 x33_1 ∧ Aside0 (foolscaplaw9_VertMove.l0 kq l0 a4 a5 y482 (y482.length : Int) x33_1 = some r) ∧ Aside0 (kq ≤ k) ∧ Aside0 (Kd.R k24 24 w' w.heap.size (fun k_ => k_ ≠ gb477) (.slice Ao18 y482.length co18) y482) ∧ Aside0 (w'.heap[gb477]? = some (.cells #[.int .i64 a1_0, .int .i64 a1_1] 24 (0, 0))) ∧ Aside0 (Below w.heap.size w w'))
      case atStart => exact ⟨(0), (by first | rfl | (simp; done) | (simp [*]; done)), H', ⟨Nat.le_refl _⟩, ⟨by (with_reducible repeat (first | apply Kd.R_alloc | apply Kd.R_drewN | apply Kd.R_drew)); exact Kd.R_mono HO484.out (fun _ hk => hk.2)⟩, ⟨by (with_reducible repeat (first | refine blk_drewN ?_ _ | refine blk_drew ?_ | refine blk_alloc ?_ _)); exact BK477.out⟩, ⟨by repeat (first | (with_reducible first | exact HB.out | apply below_alloc | apply pw_below_drewN | apply below_drew1 | refine below_set ?_ GE477.out) | exact HB.out)⟩⟩
      case round =>
        clear H'
        try clear c1
        try clear c2
        try clear p2
        try clear c7
        try clear c8
        try clear c9
        try clear c10
        obtain ⟨x33_1, rfl, HA, HK1, HO_31, BK477, HB⟩ := hrel
        cases gk with
        | zero => exact absurd HA.out (by simp [foolscaplaw9_VertMove.l0])
        | succ k1 =>
          have H := HA.out
          clear HA
          simp only [foolscaplaw9_VertMove.l0] at H
          by_cases c19 : x33_1 < (y482.length : Int)
          · rw [if_pos c19] at H
            have c19b0 : decide (x33_1 < (y482.length : Int)) = true := decide_eq_true c19
            clear c19
            by_cases c20 : 0 ≤ x33_1
            · rw [if_pos c20] at H
              have c20b0 : decide (0 ≤ x33_1) = true := decide_eq_true c20
              clear c20
              by_cases c21 : x33_1 < (y482.length : Int)
              · rw [if_pos c21] at H
                have c21b0 : decide (x33_1 < (y482.length : Int)) = true := decide_eq_true c21
                clear c21
                obtain ⟨y487, hy487⟩ : ∃ y_ : List Int, y_ = (([a4, Int.tmod a4 9, 1] : List Int)) := ⟨_, rfl⟩
                replace H : (foolscaplaw9_VertMove.l1 k1 l0 a4 a5 y482 (y482.length : Int) x33_1 y487 (y487.length : Int) 0 ((rd_T24 y482 x33_1).f0) ((rd_T24 y482 x33_1).f1)) = some r := by first | (rw [hy487]; with_reducible exact H) | (have H2_ := (Option.bind_some _ _).symm.trans H; rw [hy487]; with_reducible exact H2_) | (have H2_ := (Option.bind_some _ _).symm.trans H; with_reducible exact H2_) | with_reducible exact H | (rw [hy487]; exact H) | exact H
                have Ny487 := Aside0.mk hy487
                clear hy487
                have H' := Aside0.mk H
                clear H
                have p485 : 0 ≤ (x33_1 : Int) := of_decide_eq_true (by first | (with_reducible assumption) | assumption)
                have q485 : x33_1 < (y482.length : Int) := of_decide_eq_true (by first | (with_reducible assumption) | assumption)
                obtain ⟨ad485, e485, hx485_0, hx485_1⟩ := at_T24 (Kd.R_reads' HO_31.out).2.2 x33_1 p485 q485
                cases e485
                replace p485 := eq_true p485
                replace q485 := eq_true q485
                go_wp2_with (first | ((with_reducible refine gate_dst (N := 14) rfl ?_); refine box_event ?hg (N := 14) ?hd (cs := #[.int .i64 0, .int .i64 0]) (t := 24) ?hr ?_; (case hd => rfl); (case hg => rfl); (case hr => first | (go_simp; done) | (go_simp; rfl)); intro gb486 hg w22 hbox hb; have n0_ := Aside0.mk (Kd.R_below (Kd.R_elderB (by (with_reducible repeat (first | apply Kd.R_alloc | apply Kd.R_drewN | apply Kd.R_drew)); exact HO_31.out) gb486 (Nat.le_of_eq hg.symm)) hb); have n1_ := Aside0.mk (blk_below (g := gb477) (o := .cells #[.int .i64 a1_0, .int .i64 a1_1] 24 (0, 0)) (by (with_reducible repeat (first | refine blk_drewN ?_ _ | refine blk_drew ?_ | refine blk_alloc ?_ _)); exact BK477.out) hb); have n2_ := Aside0.mk (below_step (by repeat (first | (with_reducible first | exact HB.out | apply below_alloc | apply pw_below_drewN | apply below_drew1 | refine below_set ?_ GE477.out) | exact HB.out)) hb); have n3_ := Aside0.mk (hbox); have n4_ := Aside0.mk ((by rw [hg]; exact (below_size (by repeat (first | (with_reducible first | exact HB.out | apply below_alloc | apply pw_below_drewN | apply below_drew1 | refine below_set ?_ GE477.out) | exact HB.out))) : w.heap.size ≤ gb486)); have n5_ := Aside0.mk ((by rw [hg]; exact (below_size (by repeat (first | (with_reducible first | exact HB.out | apply below_alloc | apply pw_below_drewN | apply below_drew1 | refine below_set ?_ GE477.out) | exact HB.out))) : w.heap.size ≤ gb486)); have n6_ := Aside0.mk ((by rw [hg]; exact Nat.ne_of_lt (blk_lt (g := gb477) (o := .cells #[.int .i64 a1_0, .int .i64 a1_1] 24 (0, 0)) (by (with_reducible repeat (first | refine blk_drewN ?_ _ | refine blk_drew ?_ | refine blk_alloc ?_ _)); exact BK477.out)) : gb477 ≠ gb486)); have n7_ := Aside0.mk ((by rw [hg]; exact Nat.ne_of_gt (blk_lt (g := gb477) (o := .cells #[.int .i64 a1_0, .int .i64 a1_1] 24 (0, 0)) (by (with_reducible repeat (first | refine blk_drewN ?_ _ | refine blk_drew ?_ | refine blk_alloc ?_ _)); exact BK477.out)) : gb486 ≠ gb477)); clear HO_31; clear BK477; clear HB; have HO_31 := n0_; have BK477 := n1_; have HB := n2_; have BK486 := n3_; have GW486 := n4_; have GE486 := n5_; have NB477_486 := n6_; have NB486_477 := n7_; clear n0_ n1_ n2_ n3_ n4_ n5_ n6_ n7_; clear hb hbox hg; have hnb23 := NB486_477.out; have hnc23 := NB477_486.out; have hcz24_0 : w22.cell? ⟨gb486, 0, none⟩ = some (.int .i64 0) := (blk_cell BK486.out 0).trans rfl; have hcz24_1 : w22.cell? ⟨gb486, 1, none⟩ = some (.int .i64 0) := (blk_cell BK486.out 1).trans rfl; have hfz24_0 := blk_frozen BK486.out 0; have hfz24_1 := blk_frozen BK486.out 1) | ((with_reducible refine gate_dst (N := 40) rfl ?_); refine Kd.R_lit (Kd.int .i64) _ 3 ?hg (N := 40) ?hd (xs := ([a4, Int.tmod a4 9, 1] : List Int)) (inner := [.int .i64 a4, .int .i64 (Int.tmod a4 9), .int .i64 1]) (ok := fun _ => True) (okp := fun _ => True) ?hr ?hp (fun _ hk => hk) trivial (Below.refl _ _) (Nat.le_refl _) (by simp) ?_; (case hd => rfl); (case hg => rfl); (case hr => first | (go_simp; done) | (go_simp; rfl)); (case hp => exact (Reps.one (show Kd.M (Kd.int .i64) _ _ _ a4 [.int .i64 a4] from rfl) (Reps.one (show Kd.M (Kd.int .i64) _ _ _ (Int.tmod a4 9) [.int .i64 (Int.tmod a4 9)] from rfl) (Reps.one (show Kd.M (Kd.int .i64) _ _ _ 1 [.int .i64 1] from rfl) (Reps.none _ _))))); intro v488 w25 ho26 hb hg_ hnew_; clear hg_ hnew_; (first | rw [← Ny487.out] at ho26 | (simp only [Int.reduceToNat] at ho26; rw [← Ny487.out] at ho26)); have n0_ := Aside0.mk (Kd.R_below (by (with_reducible repeat (first | apply Kd.R_alloc | apply Kd.R_drewN | apply Kd.R_drew)); exact (Kd.R_mono (Kd.R_far (p := ⟨gb486, 1, none⟩) (Kd.R_far (p := ⟨gb486, 0, none⟩) (Kd.R_mono HO_31.out (fun k_ hk => (⟨hk, hk.2⟩ : _ ∧ k_ ≠ gb486))) (fun _ hk => hk.2) (.int .i64 ((rd_T24 y482 x33_1).f0))) (fun _ hk => hk.2) (.int .i64 ((rd_T24 y482 x33_1).f1))) (fun _ h_ => h_.1))) hb); have n1_ := Aside0.mk (Kd.R_lower ho26 (below_size (by repeat (first | (with_reducible first | exact HB.out | apply below_alloc | apply pw_below_drewN | apply below_drew1 | refine below_set ?_ GE477.out | refine below_set ?_ GE486.out) | exact HB.out)))); have n2_ := Aside0.mk (blk_below (g := gb477) (o := .cells #[.int .i64 a1_0, .int .i64 a1_1] 24 (0, 0)) (by (with_reducible repeat (first | refine blk_drewN ?_ _ | refine blk_drew ?_ | refine blk_alloc ?_ _)); refine blk_far ?_ NB477_486.out _; (with_reducible repeat (first | refine blk_drewN ?_ _ | refine blk_drew ?_ | refine blk_alloc ?_ _)); refine blk_far ?_ NB477_486.out _; (with_reducible repeat (first | refine blk_drewN ?_ _ | refine blk_drew ?_ | refine blk_alloc ?_ _)); exact BK477.out) hb); have n3_ := Aside0.mk (blk_below (g := gb486) (o := .cells #[.int .i64 ((rd_T24 y482 x33_1).f0), .int .i64 ((rd_T24 y482 x33_1).f1)] 24 (0, 0)) (by (with_reducible repeat (first | refine blk_drewN ?_ _ | refine blk_drew ?_ | refine blk_alloc ?_ _)); refine blk_put (cs := #[.int .i64 ((rd_T24 y482 x33_1).f0), .int .i64 0]) ?_ 1 _ rfl; (with_reducible repeat (first | refine blk_drewN ?_ _ | refine blk_drew ?_ | refine blk_alloc ?_ _)); refine blk_put (cs := #[.int .i64 0, .int .i64 0]) ?_ 0 _ rfl; (with_reducible repeat (first | refine blk_drewN ?_ _ | refine blk_drew ?_ | refine blk_alloc ?_ _)); exact BK486.out) hb); have n4_ := Aside0.mk (below_step (by repeat (first | (with_reducible first | exact HB.out | apply below_alloc | apply pw_below_drewN | apply below_drew1 | refine below_set ?_ GE477.out | refine below_set ?_ GE486.out) | exact HB.out)) hb); clear HO_31; clear BK477; clear BK486; clear HB; have HO_31 := n0_; have HO489 := n1_; have BK477 := n2_; have BK486 := n3_; have HB := n4_; clear n0_ n1_ n2_ n3_ n4_; clear hb ho26; obtain ⟨Ao27, co27, eo27⟩ := Kd.R_slice HO489.out; subst eo27))
                go_loopg [42] k1 (fun kq v42 w' => ∃ (x42_2 : Int), v42 = .int .i64 x42_2 ∧ Aside0 (foolscaplaw9_VertMove.l1 kq l0 a4 a5 y482 (y482.length : Int) x33_1 y487 (y487.length : Int) x42_2 ((rd_T24 y482 x33_1).f0) ((rd_T24 y482 x33_1).f1) = some r) ∧ Aside0 (kq ≤ k1) ∧ Aside0 (Kd.R k24 24 w' w.heap.size (fun k_ => k_ ≠ gb477 ∧ k_ ≠ gb486) (.slice (some ad485) y482.length co18) y482) ∧ Aside0 (Kd.R (Kd.int .i64) 3 w' w.heap.size (fun _ => True) (.slice Ao27 y487.length co27) y487) ∧ Aside0 (w'.heap[gb477]? = some (.cells #[.int .i64 a1_0, .int .i64 a1_1] 24 (0, 0))) ∧ Aside0 (w'.heap[gb486]? = some (.cells #[.int .i64 ((rd_T24 y482 x33_1).f0), .int .i64 ((rd_T24 y482 x33_1).f1)] 24 (0, 0))) ∧ Aside0 (Below w.heap.size w w'))
                case atStart => exact ⟨(0), (by first | rfl | (simp; done) | (simp [*]; done)), H', ⟨Nat.le_refl _⟩, ⟨by (with_reducible repeat (first | apply Kd.R_alloc | apply Kd.R_drewN | apply Kd.R_drew)); exact HO_31.out⟩, ⟨by (with_reducible repeat (first | apply Kd.R_alloc | apply Kd.R_drewN | apply Kd.R_drew)); exact HO489.out⟩, ⟨by (with_reducible repeat (first | refine blk_drewN ?_ _ | refine blk_drew ?_ | refine blk_alloc ?_ _)); exact BK477.out⟩, ⟨by (with_reducible repeat (first | refine blk_drewN ?_ _ | refine blk_drew ?_ | refine blk_alloc ?_ _)); exact BK486.out⟩, ⟨by repeat (first | (with_reducible first | exact HB.out | apply below_alloc | apply pw_below_drewN | apply below_drew1 | refine below_set ?_ GE477.out | refine below_set ?_ GE486.out) | exact HB.out)⟩⟩
                case round =>
                  clear H'
                  try clear c1
                  try clear c2
                  try clear p2
                  try clear p4
                  try clear q4
                  try clear hx4
                  try clear c7
                  try clear c8
                  try clear c9
                  try clear c10
                  try clear c19
                  try clear c19b0
                  try clear c20
                  try clear c20b0
                  try clear c21
                  try clear c21b0
                  try clear c23
                  try clear hcz24_0
                  try clear hcz24_1
                  try clear hfz24_0
                  try clear hfz24_1
                  try clear hx485_0
                  try clear hx485_1
                  try clear p2
                  try clear p485
                  try clear q485
                  obtain ⟨x42_2, rfl, HA, HK2, HO_31, HO_40, BK477, BK486, HB⟩ := hrel
                  cases gk with
                  | zero => exact absurd HA.out (by simp [foolscaplaw9_VertMove.l1])
                  | succ k2 =>
                    have H := HA.out
                    clear HA
                    simp only [foolscaplaw9_VertMove.l1] at H
                    by_cases c28 : x42_2 < (y487.length : Int)
                    · rw [if_pos c28] at H
                      have c28b0 : decide (x42_2 < (y487.length : Int)) = true := decide_eq_true c28
                      clear c28
                      by_cases c29 : 0 ≤ x42_2
                      · rw [if_pos c29] at H
                        have c29b0 : decide (0 ≤ x42_2) = true := decide_eq_true c29
                        clear c29
                        by_cases c30 : x42_2 < (y487.length : Int)
                        · rw [if_pos c30] at H
                          have c30b0 : decide (x42_2 < (y487.length : Int)) = true := decide_eq_true c30
                          clear c30
                          replace H := Option.bind_eq_some_iff.mp H
                          obtain ⟨⟨t491, t492, t493, t494, t495, t496⟩, A310, H⟩ := H
                          replace H : ((foolscapref5_Vertical.f k2 l0 ((rd_T24 y482 x33_1).f0) ((rd_T24 y482 x33_1).f1) (rd y487 x42_2) a5 false).bind fun bt498 => ((foolscaplaw9_same.f t491 t492 t493 t494 t495 t496 bt498.1 bt498.2.1 bt498.2.2.1 bt498.2.2.2.1 bt498.2.2.2.2.1 bt498.2.2.2.2.2).bind fun t505 => (if t505 = true then ((vert_Up.f k2 l0 ((rd_T24 y482 x33_1).f0) ((rd_T24 y482 x33_1).f1) (rd y487 x42_2) (Int.tmod a5 30)).bind fun bt506 => ((foolscapref5_Vertical.f k2 l0 ((rd_T24 y482 x33_1).f0) ((rd_T24 y482 x33_1).f1) (rd y487 x42_2) (Int.tmod a5 30) true).bind fun bt512 => ((foolscaplaw9_same.f bt506.1 bt506.2.1 bt506.2.2.1 bt506.2.2.2.1 bt506.2.2.2.2.1 bt506.2.2.2.2.2 bt512.1 bt512.2.1 bt512.2.2.1 bt512.2.2.2.1 bt512.2.2.2.2.1 bt512.2.2.2.2.2).bind fun t518 => (if t518 = true then ((vert_Plus.f k2 l0 ((rd_T24 y482 x33_1).f0) ((rd_T24 y482 x33_1).f1) (rd y487 x42_2)).bind fun bt519 => ((foolscapref5_Plus.f k2 l0 ((rd_T24 y482 x33_1).f0) ((rd_T24 y482 x33_1).f1) (rd y487 x42_2)).bind fun bt525 => ((foolscaplaw9_same.f bt519.1 bt519.2.1 bt519.2.2.1 bt519.2.2.2.1 bt519.2.2.2.2.1 bt519.2.2.2.2.2 bt525.1 bt525.2.1 bt525.2.2.1 bt525.2.2.2.1 bt525.2.2.2.2.1 bt525.2.2.2.2.2).bind fun t531 => (if t531 = true then ((vert_Minus.f k2 l0 ((rd_T24 y482 x33_1).f0) ((rd_T24 y482 x33_1).f1) (rd y487 x42_2)).bind fun bt532 => ((foolscapref5_Minus.f k2 l0 ((rd_T24 y482 x33_1).f0) ((rd_T24 y482 x33_1).f1) (rd y487 x42_2)).bind fun bt538 => ((foolscaplaw9_same.f bt532.1 bt532.2.1 bt532.2.2.1 bt532.2.2.2.1 bt532.2.2.2.2.1 bt532.2.2.2.2.2 bt538.1 bt538.2.1 bt538.2.2.1 bt538.2.2.2.1 bt538.2.2.2.2.1 bt538.2.2.2.2.2).bind fun t544 => (if t544 = true then ((vert_Under.f k2 l0 ((rd_T24 y482 x33_1).f0) ((rd_T24 y482 x33_1).f1) (rd y487 x42_2)).bind fun bt545 => ((foolscapref5_Under.f k2 l0 ((rd_T24 y482 x33_1).f0) ((rd_T24 y482 x33_1).f1) (rd y487 x42_2)).bind fun bt551 => ((foolscaplaw9_same.f bt545.1 bt545.2.1 bt545.2.2.1 bt545.2.2.2.1 bt545.2.2.2.2.1 bt545.2.2.2.2.2 bt551.1 bt551.2.1 bt551.2.2.1 bt551.2.2.2.1 bt551.2.2.2.2.1 bt551.2.2.2.2.2).bind fun t557 => (if t557 = true then ((vert_Goto.f k2 l0 ((rd_T24 y482 x33_1).f0) ((rd_T24 y482 x33_1).f1) (rd y487 x42_2)).bind fun bt558 => ((foolscapref5_Goto.f k2 l0 ((rd_T24 y482 x33_1).f0) ((rd_T24 y482 x33_1).f1) (rd y487 x42_2)).bind fun bt564 => ((foolscaplaw9_same.f bt558.1 bt558.2.1 bt558.2.2.1 bt558.2.2.2.1 bt558.2.2.2.2.1 bt558.2.2.2.2.2 bt564.1 bt564.2.1 bt564.2.2.1 bt564.2.2.2.1 bt564.2.2.2.2.1 bt564.2.2.2.2.2).bind fun t570 => (if t570 = true then (foolscaplaw9_VertMove.l1 k2 l0 a4 a5 y482 (y482.length : Int) x33_1 y487 (y487.length : Int) (wrap64 (x42_2 + 1)) ((rd_T24 y482 x33_1).f0) ((rd_T24 y482 x33_1).f1)) else (some false))))) else (some false))))) else (some false))))) else (some false))))) else (some false))))) else (some false)))) = some r := H
                          have A31 := Aside0.mk A310
                          clear A310
                          replace H := Option.bind_eq_some_iff.mp H
                          obtain ⟨⟨t498, t499, t500, t501, t502, t503⟩, A320, H⟩ := H
                          replace H : ((foolscaplaw9_same.f t491 t492 t493 t494 t495 t496 t498 t499 t500 t501 t502 t503).bind fun t505 => (if t505 = true then ((vert_Up.f k2 l0 ((rd_T24 y482 x33_1).f0) ((rd_T24 y482 x33_1).f1) (rd y487 x42_2) (Int.tmod a5 30)).bind fun bt506 => ((foolscapref5_Vertical.f k2 l0 ((rd_T24 y482 x33_1).f0) ((rd_T24 y482 x33_1).f1) (rd y487 x42_2) (Int.tmod a5 30) true).bind fun bt512 => ((foolscaplaw9_same.f bt506.1 bt506.2.1 bt506.2.2.1 bt506.2.2.2.1 bt506.2.2.2.2.1 bt506.2.2.2.2.2 bt512.1 bt512.2.1 bt512.2.2.1 bt512.2.2.2.1 bt512.2.2.2.2.1 bt512.2.2.2.2.2).bind fun t518 => (if t518 = true then ((vert_Plus.f k2 l0 ((rd_T24 y482 x33_1).f0) ((rd_T24 y482 x33_1).f1) (rd y487 x42_2)).bind fun bt519 => ((foolscapref5_Plus.f k2 l0 ((rd_T24 y482 x33_1).f0) ((rd_T24 y482 x33_1).f1) (rd y487 x42_2)).bind fun bt525 => ((foolscaplaw9_same.f bt519.1 bt519.2.1 bt519.2.2.1 bt519.2.2.2.1 bt519.2.2.2.2.1 bt519.2.2.2.2.2 bt525.1 bt525.2.1 bt525.2.2.1 bt525.2.2.2.1 bt525.2.2.2.2.1 bt525.2.2.2.2.2).bind fun t531 => (if t531 = true then ((vert_Minus.f k2 l0 ((rd_T24 y482 x33_1).f0) ((rd_T24 y482 x33_1).f1) (rd y487 x42_2)).bind fun bt532 => ((foolscapref5_Minus.f k2 l0 ((rd_T24 y482 x33_1).f0) ((rd_T24 y482 x33_1).f1) (rd y487 x42_2)).bind fun bt538 => ((foolscaplaw9_same.f bt532.1 bt532.2.1 bt532.2.2.1 bt532.2.2.2.1 bt532.2.2.2.2.1 bt532.2.2.2.2.2 bt538.1 bt538.2.1 bt538.2.2.1 bt538.2.2.2.1 bt538.2.2.2.2.1 bt538.2.2.2.2.2).bind fun t544 => (if t544 = true then ((vert_Under.f k2 l0 ((rd_T24 y482 x33_1).f0) ((rd_T24 y482 x33_1).f1) (rd y487 x42_2)).bind fun bt545 => ((foolscapref5_Under.f k2 l0 ((rd_T24 y482 x33_1).f0) ((rd_T24 y482 x33_1).f1) (rd y487 x42_2)).bind fun bt551 => ((foolscaplaw9_same.f bt545.1 bt545.2.1 bt545.2.2.1 bt545.2.2.2.1 bt545.2.2.2.2.1 bt545.2.2.2.2.2 bt551.1 bt551.2.1 bt551.2.2.1 bt551.2.2.2.1 bt551.2.2.2.2.1 bt551.2.2.2.2.2).bind fun t557 => (if t557 = true then ((vert_Goto.f k2 l0 ((rd_T24 y482 x33_1).f0) ((rd_T24 y482 x33_1).f1) (rd y487 x42_2)).bind fun bt558 => ((foolscapref5_Goto.f k2 l0 ((rd_T24 y482 x33_1).f0) ((rd_T24 y482 x33_1).f1) (rd y487 x42_2)).bind fun bt564 => ((foolscaplaw9_same.f bt558.1 bt558.2.1 bt558.2.2.1 bt558.2.2.2.1 bt558.2.2.2.2.1 bt558.2.2.2.2.2 bt564.1 bt564.2.1 bt564.2.2.1 bt564.2.2.2.1 bt564.2.2.2.2.1 bt564.2.2.2.2.2).bind fun t570 => (if t570 = true then (foolscaplaw9_VertMove.l1 k2 l0 a4 a5 y482 (y482.length : Int) x33_1 y487 (y487.length : Int) (wrap64 (x42_2 + 1)) ((rd_T24 y482 x33_1).f0) ((rd_T24 y482 x33_1).f1)) else (some false))))) else (some false))))) else (some false))))) else (some false))))) else (some false))))) else (some false))) = some r := H
                          have A32 := Aside0.mk A320
                          clear A320
                          replace H := Option.bind_eq_some_iff.mp H
                          obtain ⟨t505, A330, H⟩ := H
                          replace H : (if t505 = true then ((vert_Up.f k2 l0 ((rd_T24 y482 x33_1).f0) ((rd_T24 y482 x33_1).f1) (rd y487 x42_2) (Int.tmod a5 30)).bind fun bt506 => ((foolscapref5_Vertical.f k2 l0 ((rd_T24 y482 x33_1).f0) ((rd_T24 y482 x33_1).f1) (rd y487 x42_2) (Int.tmod a5 30) true).bind fun bt512 => ((foolscaplaw9_same.f bt506.1 bt506.2.1 bt506.2.2.1 bt506.2.2.2.1 bt506.2.2.2.2.1 bt506.2.2.2.2.2 bt512.1 bt512.2.1 bt512.2.2.1 bt512.2.2.2.1 bt512.2.2.2.2.1 bt512.2.2.2.2.2).bind fun t518 => (if t518 = true then ((vert_Plus.f k2 l0 ((rd_T24 y482 x33_1).f0) ((rd_T24 y482 x33_1).f1) (rd y487 x42_2)).bind fun bt519 => ((foolscapref5_Plus.f k2 l0 ((rd_T24 y482 x33_1).f0) ((rd_T24 y482 x33_1).f1) (rd y487 x42_2)).bind fun bt525 => ((foolscaplaw9_same.f bt519.1 bt519.2.1 bt519.2.2.1 bt519.2.2.2.1 bt519.2.2.2.2.1 bt519.2.2.2.2.2 bt525.1 bt525.2.1 bt525.2.2.1 bt525.2.2.2.1 bt525.2.2.2.2.1 bt525.2.2.2.2.2).bind fun t531 => (if t531 = true then ((vert_Minus.f k2 l0 ((rd_T24 y482 x33_1).f0) ((rd_T24 y482 x33_1).f1) (rd y487 x42_2)).bind fun bt532 => ((foolscapref5_Minus.f k2 l0 ((rd_T24 y482 x33_1).f0) ((rd_T24 y482 x33_1).f1) (rd y487 x42_2)).bind fun bt538 => ((foolscaplaw9_same.f bt532.1 bt532.2.1 bt532.2.2.1 bt532.2.2.2.1 bt532.2.2.2.2.1 bt532.2.2.2.2.2 bt538.1 bt538.2.1 bt538.2.2.1 bt538.2.2.2.1 bt538.2.2.2.2.1 bt538.2.2.2.2.2).bind fun t544 => (if t544 = true then ((vert_Under.f k2 l0 ((rd_T24 y482 x33_1).f0) ((rd_T24 y482 x33_1).f1) (rd y487 x42_2)).bind fun bt545 => ((foolscapref5_Under.f k2 l0 ((rd_T24 y482 x33_1).f0) ((rd_T24 y482 x33_1).f1) (rd y487 x42_2)).bind fun bt551 => ((foolscaplaw9_same.f bt545.1 bt545.2.1 bt545.2.2.1 bt545.2.2.2.1 bt545.2.2.2.2.1 bt545.2.2.2.2.2 bt551.1 bt551.2.1 bt551.2.2.1 bt551.2.2.2.1 bt551.2.2.2.2.1 bt551.2.2.2.2.2).bind fun t557 => (if t557 = true then ((vert_Goto.f k2 l0 ((rd_T24 y482 x33_1).f0) ((rd_T24 y482 x33_1).f1) (rd y487 x42_2)).bind fun bt558 => ((foolscapref5_Goto.f k2 l0 ((rd_T24 y482 x33_1).f0) ((rd_T24 y482 x33_1).f1) (rd y487 x42_2)).bind fun bt564 => ((foolscaplaw9_same.f bt558.1 bt558.2.1 bt558.2.2.1 bt558.2.2.2.1 bt558.2.2.2.2.1 bt558.2.2.2.2.2 bt564.1 bt564.2.1 bt564.2.2.1 bt564.2.2.2.1 bt564.2.2.2.2.1 bt564.2.2.2.2.2).bind fun t570 => (if t570 = true then (foolscaplaw9_VertMove.l1 k2 l0 a4 a5 y482 (y482.length : Int) x33_1 y487 (y487.length : Int) (wrap64 (x42_2 + 1)) ((rd_T24 y482 x33_1).f0) ((rd_T24 y482 x33_1).f1)) else (some false))))) else (some false))))) else (some false))))) else (some false))))) else (some false))))) else (some false)) = some r := H
                          have A33 := Aside0.mk A330
                          clear A330
                          by_cases c34 : t505 = true
                          · subst c34
                            have H1 : ((vert_Up.f k2 l0 ((rd_T24 y482 x33_1).f0) ((rd_T24 y482 x33_1).f1) (rd y487 x42_2) (Int.tmod a5 30)).bind fun bt506 => ((foolscapref5_Vertical.f k2 l0 ((rd_T24 y482 x33_1).f0) ((rd_T24 y482 x33_1).f1) (rd y487 x42_2) (Int.tmod a5 30) true).bind fun bt512 => ((foolscaplaw9_same.f bt506.1 bt506.2.1 bt506.2.2.1 bt506.2.2.2.1 bt506.2.2.2.2.1 bt506.2.2.2.2.2 bt512.1 bt512.2.1 bt512.2.2.1 bt512.2.2.2.1 bt512.2.2.2.2.1 bt512.2.2.2.2.2).bind fun t518 => (if t518 = true then ((vert_Plus.f k2 l0 ((rd_T24 y482 x33_1).f0) ((rd_T24 y482 x33_1).f1) (rd y487 x42_2)).bind fun bt519 => ((foolscapref5_Plus.f k2 l0 ((rd_T24 y482 x33_1).f0) ((rd_T24 y482 x33_1).f1) (rd y487 x42_2)).bind fun bt525 => ((foolscaplaw9_same.f bt519.1 bt519.2.1 bt519.2.2.1 bt519.2.2.2.1 bt519.2.2.2.2.1 bt519.2.2.2.2.2 bt525.1 bt525.2.1 bt525.2.2.1 bt525.2.2.2.1 bt525.2.2.2.2.1 bt525.2.2.2.2.2).bind fun t531 => (if t531 = true then ((vert_Minus.f k2 l0 ((rd_T24 y482 x33_1).f0) ((rd_T24 y482 x33_1).f1) (rd y487 x42_2)).bind fun bt532 => ((foolscapref5_Minus.f k2 l0 ((rd_T24 y482 x33_1).f0) ((rd_T24 y482 x33_1).f1) (rd y487 x42_2)).bind fun bt538 => ((foolscaplaw9_same.f bt532.1 bt532.2.1 bt532.2.2.1 bt532.2.2.2.1 bt532.2.2.2.2.1 bt532.2.2.2.2.2 bt538.1 bt538.2.1 bt538.2.2.1 bt538.2.2.2.1 bt538.2.2.2.2.1 bt538.2.2.2.2.2).bind fun t544 => (if t544 = true then ((vert_Under.f k2 l0 ((rd_T24 y482 x33_1).f0) ((rd_T24 y482 x33_1).f1) (rd y487 x42_2)).bind fun bt545 => ((foolscapref5_Under.f k2 l0 ((rd_T24 y482 x33_1).f0) ((rd_T24 y482 x33_1).f1) (rd y487 x42_2)).bind fun bt551 => ((foolscaplaw9_same.f bt545.1 bt545.2.1 bt545.2.2.1 bt545.2.2.2.1 bt545.2.2.2.2.1 bt545.2.2.2.2.2 bt551.1 bt551.2.1 bt551.2.2.1 bt551.2.2.2.1 bt551.2.2.2.2.1 bt551.2.2.2.2.2).bind fun t557 => (if t557 = true then ((vert_Goto.f k2 l0 ((rd_T24 y482 x33_1).f0) ((rd_T24 y482 x33_1).f1) (rd y487 x42_2)).bind fun bt558 => ((foolscapref5_Goto.f k2 l0 ((rd_T24 y482 x33_1).f0) ((rd_T24 y482 x33_1).f1) (rd y487 x42_2)).bind fun bt564 => ((foolscaplaw9_same.f bt558.1 bt558.2.1 bt558.2.2.1 bt558.2.2.2.1 bt558.2.2.2.2.1 bt558.2.2.2.2.2 bt564.1 bt564.2.1 bt564.2.2.1 bt564.2.2.2.1 bt564.2.2.2.2.1 bt564.2.2.2.2.2).bind fun t570 => (if t570 = true then (foolscaplaw9_VertMove.l1 k2 l0 a4 a5 y482 (y482.length : Int) x33_1 y487 (y487.length : Int) (wrap64 (x42_2 + 1)) ((rd_T24 y482 x33_1).f0) ((rd_T24 y482 x33_1).f1)) else (some false))))) else (some false))))) else (some false))))) else (some false))))) else (some false))))) = some r := by rw [if_pos rfl] at H; exact H
                            clear H
                            have H := H1
                            clear H1
                            replace H := Option.bind_eq_some_iff.mp H
                            obtain ⟨⟨t506, t507, t508, t509, t510, t511⟩, A350, H⟩ := H
                            replace H : ((foolscapref5_Vertical.f k2 l0 ((rd_T24 y482 x33_1).f0) ((rd_T24 y482 x33_1).f1) (rd y487 x42_2) (Int.tmod a5 30) true).bind fun bt512 => ((foolscaplaw9_same.f t506 t507 t508 t509 t510 t511 bt512.1 bt512.2.1 bt512.2.2.1 bt512.2.2.2.1 bt512.2.2.2.2.1 bt512.2.2.2.2.2).bind fun t518 => (if t518 = true then ((vert_Plus.f k2 l0 ((rd_T24 y482 x33_1).f0) ((rd_T24 y482 x33_1).f1) (rd y487 x42_2)).bind fun bt519 => ((foolscapref5_Plus.f k2 l0 ((rd_T24 y482 x33_1).f0) ((rd_T24 y482 x33_1).f1) (rd y487 x42_2)).bind fun bt525 => ((foolscaplaw9_same.f bt519.1 bt519.2.1 bt519.2.2.1 bt519.2.2.2.1 bt519.2.2.2.2.1 bt519.2.2.2.2.2 bt525.1 bt525.2.1 bt525.2.2.1 bt525.2.2.2.1 bt525.2.2.2.2.1 bt525.2.2.2.2.2).bind fun t531 => (if t531 = true then ((vert_Minus.f k2 l0 ((rd_T24 y482 x33_1).f0) ((rd_T24 y482 x33_1).f1) (rd y487 x42_2)).bind fun bt532 => ((foolscapref5_Minus.f k2 l0 ((rd_T24 y482 x33_1).f0) ((rd_T24 y482 x33_1).f1) (rd y487 x42_2)).bind fun bt538 => ((foolscaplaw9_same.f bt532.1 bt532.2.1 bt532.2.2.1 bt532.2.2.2.1 bt532.2.2.2.2.1 bt532.2.2.2.2.2 bt538.1 bt538.2.1 bt538.2.2.1 bt538.2.2.2.1 bt538.2.2.2.2.1 bt538.2.2.2.2.2).bind fun t544 => (if t544 = true then ((vert_Under.f k2 l0 ((rd_T24 y482 x33_1).f0) ((rd_T24 y482 x33_1).f1) (rd y487 x42_2)).bind fun bt545 => ((foolscapref5_Under.f k2 l0 ((rd_T24 y482 x33_1).f0) ((rd_T24 y482 x33_1).f1) (rd y487 x42_2)).bind fun bt551 => ((foolscaplaw9_same.f bt545.1 bt545.2.1 bt545.2.2.1 bt545.2.2.2.1 bt545.2.2.2.2.1 bt545.2.2.2.2.2 bt551.1 bt551.2.1 bt551.2.2.1 bt551.2.2.2.1 bt551.2.2.2.2.1 bt551.2.2.2.2.2).bind fun t557 => (if t557 = true then ((vert_Goto.f k2 l0 ((rd_T24 y482 x33_1).f0) ((rd_T24 y482 x33_1).f1) (rd y487 x42_2)).bind fun bt558 => ((foolscapref5_Goto.f k2 l0 ((rd_T24 y482 x33_1).f0) ((rd_T24 y482 x33_1).f1) (rd y487 x42_2)).bind fun bt564 => ((foolscaplaw9_same.f bt558.1 bt558.2.1 bt558.2.2.1 bt558.2.2.2.1 bt558.2.2.2.2.1 bt558.2.2.2.2.2 bt564.1 bt564.2.1 bt564.2.2.1 bt564.2.2.2.1 bt564.2.2.2.2.1 bt564.2.2.2.2.2).bind fun t570 => (if t570 = true then (foolscaplaw9_VertMove.l1 k2 l0 a4 a5 y482 (y482.length : Int) x33_1 y487 (y487.length : Int) (wrap64 (x42_2 + 1)) ((rd_T24 y482 x33_1).f0) ((rd_T24 y482 x33_1).f1)) else (some false))))) else (some false))))) else (some false))))) else (some false))))) else (some false)))) = some r := H
                            have A35 := Aside0.mk A350
                            clear A350
                            replace H := Option.bind_eq_some_iff.mp H
                            obtain ⟨⟨t512, t513, t514, t515, t516, t517⟩, A360, H⟩ := H
                            replace H : ((foolscaplaw9_same.f t506 t507 t508 t509 t510 t511 t512 t513 t514 t515 t516 t517).bind fun t518 => (if t518 = true then ((vert_Plus.f k2 l0 ((rd_T24 y482 x33_1).f0) ((rd_T24 y482 x33_1).f1) (rd y487 x42_2)).bind fun bt519 => ((foolscapref5_Plus.f k2 l0 ((rd_T24 y482 x33_1).f0) ((rd_T24 y482 x33_1).f1) (rd y487 x42_2)).bind fun bt525 => ((foolscaplaw9_same.f bt519.1 bt519.2.1 bt519.2.2.1 bt519.2.2.2.1 bt519.2.2.2.2.1 bt519.2.2.2.2.2 bt525.1 bt525.2.1 bt525.2.2.1 bt525.2.2.2.1 bt525.2.2.2.2.1 bt525.2.2.2.2.2).bind fun t531 => (if t531 = true then ((vert_Minus.f k2 l0 ((rd_T24 y482 x33_1).f0) ((rd_T24 y482 x33_1).f1) (rd y487 x42_2)).bind fun bt532 => ((foolscapref5_Minus.f k2 l0 ((rd_T24 y482 x33_1).f0) ((rd_T24 y482 x33_1).f1) (rd y487 x42_2)).bind fun bt538 => ((foolscaplaw9_same.f bt532.1 bt532.2.1 bt532.2.2.1 bt532.2.2.2.1 bt532.2.2.2.2.1 bt532.2.2.2.2.2 bt538.1 bt538.2.1 bt538.2.2.1 bt538.2.2.2.1 bt538.2.2.2.2.1 bt538.2.2.2.2.2).bind fun t544 => (if t544 = true then ((vert_Under.f k2 l0 ((rd_T24 y482 x33_1).f0) ((rd_T24 y482 x33_1).f1) (rd y487 x42_2)).bind fun bt545 => ((foolscapref5_Under.f k2 l0 ((rd_T24 y482 x33_1).f0) ((rd_T24 y482 x33_1).f1) (rd y487 x42_2)).bind fun bt551 => ((foolscaplaw9_same.f bt545.1 bt545.2.1 bt545.2.2.1 bt545.2.2.2.1 bt545.2.2.2.2.1 bt545.2.2.2.2.2 bt551.1 bt551.2.1 bt551.2.2.1 bt551.2.2.2.1 bt551.2.2.2.2.1 bt551.2.2.2.2.2).bind fun t557 => (if t557 = true then ((vert_Goto.f k2 l0 ((rd_T24 y482 x33_1).f0) ((rd_T24 y482 x33_1).f1) (rd y487 x42_2)).bind fun bt558 => ((foolscapref5_Goto.f k2 l0 ((rd_T24 y482 x33_1).f0) ((rd_T24 y482 x33_1).f1) (rd y487 x42_2)).bind fun bt564 => ((foolscaplaw9_same.f bt558.1 bt558.2.1 bt558.2.2.1 bt558.2.2.2.1 bt558.2.2.2.2.1 bt558.2.2.2.2.2 bt564.1 bt564.2.1 bt564.2.2.1 bt564.2.2.2.1 bt564.2.2.2.2.1 bt564.2.2.2.2.2).bind fun t570 => (if t570 = true then (foolscaplaw9_VertMove.l1 k2 l0 a4 a5 y482 (y482.length : Int) x33_1 y487 (y487.length : Int) (wrap64 (x42_2 + 1)) ((rd_T24 y482 x33_1).f0) ((rd_T24 y482 x33_1).f1)) else (some false))))) else (some false))))) else (some false))))) else (some false))))) else (some false))) = some r := H
                            have A36 := Aside0.mk A360
                            clear A360
                            replace H := Option.bind_eq_some_iff.mp H
                            obtain ⟨t518, A370, H⟩ := H
                            replace H : (if t518 = true then ((vert_Plus.f k2 l0 ((rd_T24 y482 x33_1).f0) ((rd_T24 y482 x33_1).f1) (rd y487 x42_2)).bind fun bt519 => ((foolscapref5_Plus.f k2 l0 ((rd_T24 y482 x33_1).f0) ((rd_T24 y482 x33_1).f1) (rd y487 x42_2)).bind fun bt525 => ((foolscaplaw9_same.f bt519.1 bt519.2.1 bt519.2.2.1 bt519.2.2.2.1 bt519.2.2.2.2.1 bt519.2.2.2.2.2 bt525.1 bt525.2.1 bt525.2.2.1 bt525.2.2.2.1 bt525.2.2.2.2.1 bt525.2.2.2.2.2).bind fun t531 => (if t531 = true then ((vert_Minus.f k2 l0 ((rd_T24 y482 x33_1).f0) ((rd_T24 y482 x33_1).f1) (rd y487 x42_2)).bind fun bt532 => ((foolscapref5_Minus.f k2 l0 ((rd_T24 y482 x33_1).f0) ((rd_T24 y482 x33_1).f1) (rd y487 x42_2)).bind fun bt538 => ((foolscaplaw9_same.f bt532.1 bt532.2.1 bt532.2.2.1 bt532.2.2.2.1 bt532.2.2.2.2.1 bt532.2.2.2.2.2 bt538.1 bt538.2.1 bt538.2.2.1 bt538.2.2.2.1 bt538.2.2.2.2.1 bt538.2.2.2.2.2).bind fun t544 => (if t544 = true then ((vert_Under.f k2 l0 ((rd_T24 y482 x33_1).f0) ((rd_T24 y482 x33_1).f1) (rd y487 x42_2)).bind fun bt545 => ((foolscapref5_Under.f k2 l0 ((rd_T24 y482 x33_1).f0) ((rd_T24 y482 x33_1).f1) (rd y487 x42_2)).bind fun bt551 => ((foolscaplaw9_same.f bt545.1 bt545.2.1 bt545.2.2.1 bt545.2.2.2.1 bt545.2.2.2.2.1 bt545.2.2.2.2.2 bt551.1 bt551.2.1 bt551.2.2.1 bt551.2.2.2.1 bt551.2.2.2.2.1 bt551.2.2.2.2.2).bind fun t557 => (if t557 = true then ((vert_Goto.f k2 l0 ((rd_T24 y482 x33_1).f0) ((rd_T24 y482 x33_1).f1) (rd y487 x42_2)).bind fun bt558 => ((foolscapref5_Goto.f k2 l0 ((rd_T24 y482 x33_1).f0) ((rd_T24 y482 x33_1).f1) (rd y487 x42_2)).bind fun bt564 => ((foolscaplaw9_same.f bt558.1 bt558.2.1 bt558.2.2.1 bt558.2.2.2.1 bt558.2.2.2.2.1 bt558.2.2.2.2.2 bt564.1 bt564.2.1 bt564.2.2.1 bt564.2.2.2.1 bt564.2.2.2.2.1 bt564.2.2.2.2.2).bind fun t570 => (if t570 = true then (foolscaplaw9_VertMove.l1 k2 l0 a4 a5 y482 (y482.length : Int) x33_1 y487 (y487.length : Int) (wrap64 (x42_2 + 1)) ((rd_T24 y482 x33_1).f0) ((rd_T24 y482 x33_1).f1)) else (some false))))) else (some false))))) else (some false))))) else (some false))))) else (some false)) = some r := H
                            have A37 := Aside0.mk A370
                            clear A370
                            by_cases c38 : t518 = true
                            · subst c38
                              have H1 : ((vert_Plus.f k2 l0 ((rd_T24 y482 x33_1).f0) ((rd_T24 y482 x33_1).f1) (rd y487 x42_2)).bind fun bt519 => ((foolscapref5_Plus.f k2 l0 ((rd_T24 y482 x33_1).f0) ((rd_T24 y482 x33_1).f1) (rd y487 x42_2)).bind fun bt525 => ((foolscaplaw9_same.f bt519.1 bt519.2.1 bt519.2.2.1 bt519.2.2.2.1 bt519.2.2.2.2.1 bt519.2.2.2.2.2 bt525.1 bt525.2.1 bt525.2.2.1 bt525.2.2.2.1 bt525.2.2.2.2.1 bt525.2.2.2.2.2).bind fun t531 => (if t531 = true then ((vert_Minus.f k2 l0 ((rd_T24 y482 x33_1).f0) ((rd_T24 y482 x33_1).f1) (rd y487 x42_2)).bind fun bt532 => ((foolscapref5_Minus.f k2 l0 ((rd_T24 y482 x33_1).f0) ((rd_T24 y482 x33_1).f1) (rd y487 x42_2)).bind fun bt538 => ((foolscaplaw9_same.f bt532.1 bt532.2.1 bt532.2.2.1 bt532.2.2.2.1 bt532.2.2.2.2.1 bt532.2.2.2.2.2 bt538.1 bt538.2.1 bt538.2.2.1 bt538.2.2.2.1 bt538.2.2.2.2.1 bt538.2.2.2.2.2).bind fun t544 => (if t544 = true then ((vert_Under.f k2 l0 ((rd_T24 y482 x33_1).f0) ((rd_T24 y482 x33_1).f1) (rd y487 x42_2)).bind fun bt545 => ((foolscapref5_Under.f k2 l0 ((rd_T24 y482 x33_1).f0) ((rd_T24 y482 x33_1).f1) (rd y487 x42_2)).bind fun bt551 => ((foolscaplaw9_same.f bt545.1 bt545.2.1 bt545.2.2.1 bt545.2.2.2.1 bt545.2.2.2.2.1 bt545.2.2.2.2.2 bt551.1 bt551.2.1 bt551.2.2.1 bt551.2.2.2.1 bt551.2.2.2.2.1 bt551.2.2.2.2.2).bind fun t557 => (if t557 = true then ((vert_Goto.f k2 l0 ((rd_T24 y482 x33_1).f0) ((rd_T24 y482 x33_1).f1) (rd y487 x42_2)).bind fun bt558 => ((foolscapref5_Goto.f k2 l0 ((rd_T24 y482 x33_1).f0) ((rd_T24 y482 x33_1).f1) (rd y487 x42_2)).bind fun bt564 => ((foolscaplaw9_same.f bt558.1 bt558.2.1 bt558.2.2.1 bt558.2.2.2.1 bt558.2.2.2.2.1 bt558.2.2.2.2.2 bt564.1 bt564.2.1 bt564.2.2.1 bt564.2.2.2.1 bt564.2.2.2.2.1 bt564.2.2.2.2.2).bind fun t570 => (if t570 = true then (foolscaplaw9_VertMove.l1 k2 l0 a4 a5 y482 (y482.length : Int) x33_1 y487 (y487.length : Int) (wrap64 (x42_2 + 1)) ((rd_T24 y482 x33_1).f0) ((rd_T24 y482 x33_1).f1)) else (some false))))) else (some false))))) else (some false))))) else (some false))))) = some r := by rw [if_pos rfl] at H; exact H
                              clear H
                              have H := H1
                              clear H1
                              replace H := Option.bind_eq_some_iff.mp H
                              obtain ⟨⟨t519, t520, t521, t522, t523, t524⟩, A390, H⟩ := H
                              replace H : ((foolscapref5_Plus.f k2 l0 ((rd_T24 y482 x33_1).f0) ((rd_T24 y482 x33_1).f1) (rd y487 x42_2)).bind fun bt525 => ((foolscaplaw9_same.f t519 t520 t521 t522 t523 t524 bt525.1 bt525.2.1 bt525.2.2.1 bt525.2.2.2.1 bt525.2.2.2.2.1 bt525.2.2.2.2.2).bind fun t531 => (if t531 = true then ((vert_Minus.f k2 l0 ((rd_T24 y482 x33_1).f0) ((rd_T24 y482 x33_1).f1) (rd y487 x42_2)).bind fun bt532 => ((foolscapref5_Minus.f k2 l0 ((rd_T24 y482 x33_1).f0) ((rd_T24 y482 x33_1).f1) (rd y487 x42_2)).bind fun bt538 => ((foolscaplaw9_same.f bt532.1 bt532.2.1 bt532.2.2.1 bt532.2.2.2.1 bt532.2.2.2.2.1 bt532.2.2.2.2.2 bt538.1 bt538.2.1 bt538.2.2.1 bt538.2.2.2.1 bt538.2.2.2.2.1 bt538.2.2.2.2.2).bind fun t544 => (if t544 = true then ((vert_Under.f k2 l0 ((rd_T24 y482 x33_1).f0) ((rd_T24 y482 x33_1).f1) (rd y487 x42_2)).bind fun bt545 => ((foolscapref5_Under.f k2 l0 ((rd_T24 y482 x33_1).f0) ((rd_T24 y482 x33_1).f1) (rd y487 x42_2)).bind fun bt551 => ((foolscaplaw9_same.f bt545.1 bt545.2.1 bt545.2.2.1 bt545.2.2.2.1 bt545.2.2.2.2.1 bt545.2.2.2.2.2 bt551.1 bt551.2.1 bt551.2.2.1 bt551.2.2.2.1 bt551.2.2.2.2.1 bt551.2.2.2.2.2).bind fun t557 => (if t557 = true then ((vert_Goto.f k2 l0 ((rd_T24 y482 x33_1).f0) ((rd_T24 y482 x33_1).f1) (rd y487 x42_2)).bind fun bt558 => ((foolscapref5_Goto.f k2 l0 ((rd_T24 y482 x33_1).f0) ((rd_T24 y482 x33_1).f1) (rd y487 x42_2)).bind fun bt564 => ((foolscaplaw9_same.f bt558.1 bt558.2.1 bt558.2.2.1 bt558.2.2.2.1 bt558.2.2.2.2.1 bt558.2.2.2.2.2 bt564.1 bt564.2.1 bt564.2.2.1 bt564.2.2.2.1 bt564.2.2.2.2.1 bt564.2.2.2.2.2).bind fun t570 => (if t570 = true then (foolscaplaw9_VertMove.l1 k2 l0 a4 a5 y482 (y482.length : Int) x33_1 y487 (y487.length : Int) (wrap64 (x42_2 + 1)) ((rd_T24 y482 x33_1).f0) ((rd_T24 y482 x33_1).f1)) else (some false))))) else (some false))))) else (some false))))) else (some false)))) = some r := H
                              have A39 := Aside0.mk A390
                              clear A390
                              replace H := Option.bind_eq_some_iff.mp H
                              obtain ⟨⟨t525, t526, t527, t528, t529, t530⟩, A400, H⟩ := H
                              replace H : ((foolscaplaw9_same.f t519 t520 t521 t522 t523 t524 t525 t526 t527 t528 t529 t530).bind fun t531 => (if t531 = true then ((vert_Minus.f k2 l0 ((rd_T24 y482 x33_1).f0) ((rd_T24 y482 x33_1).f1) (rd y487 x42_2)).bind fun bt532 => ((foolscapref5_Minus.f k2 l0 ((rd_T24 y482 x33_1).f0) ((rd_T24 y482 x33_1).f1) (rd y487 x42_2)).bind fun bt538 => ((foolscaplaw9_same.f bt532.1 bt532.2.1 bt532.2.2.1 bt532.2.2.2.1 bt532.2.2.2.2.1 bt532.2.2.2.2.2 bt538.1 bt538.2.1 bt538.2.2.1 bt538.2.2.2.1 bt538.2.2.2.2.1 bt538.2.2.2.2.2).bind fun t544 => (if t544 = true then ((vert_Under.f k2 l0 ((rd_T24 y482 x33_1).f0) ((rd_T24 y482 x33_1).f1) (rd y487 x42_2)).bind fun bt545 => ((foolscapref5_Under.f k2 l0 ((rd_T24 y482 x33_1).f0) ((rd_T24 y482 x33_1).f1) (rd y487 x42_2)).bind fun bt551 => ((foolscaplaw9_same.f bt545.1 bt545.2.1 bt545.2.2.1 bt545.2.2.2.1 bt545.2.2.2.2.1 bt545.2.2.2.2.2 bt551.1 bt551.2.1 bt551.2.2.1 bt551.2.2.2.1 bt551.2.2.2.2.1 bt551.2.2.2.2.2).bind fun t557 => (if t557 = true then ((vert_Goto.f k2 l0 ((rd_T24 y482 x33_1).f0) ((rd_T24 y482 x33_1).f1) (rd y487 x42_2)).bind fun bt558 => ((foolscapref5_Goto.f k2 l0 ((rd_T24 y482 x33_1).f0) ((rd_T24 y482 x33_1).f1) (rd y487 x42_2)).bind fun bt564 => ((foolscaplaw9_same.f bt558.1 bt558.2.1 bt558.2.2.1 bt558.2.2.2.1 bt558.2.2.2.2.1 bt558.2.2.2.2.2 bt564.1 bt564.2.1 bt564.2.2.1 bt564.2.2.2.1 bt564.2.2.2.2.1 bt564.2.2.2.2.2).bind fun t570 => (if t570 = true then (foolscaplaw9_VertMove.l1 k2 l0 a4 a5 y482 (y482.length : Int) x33_1 y487 (y487.length : Int) (wrap64 (x42_2 + 1)) ((rd_T24 y482 x33_1).f0) ((rd_T24 y482 x33_1).f1)) else (some false))))) else (some false))))) else (some false))))) else (some false))) = some r := H
                              have A40 := Aside0.mk A400
                              clear A400
                              replace H := Option.bind_eq_some_iff.mp H
                              obtain ⟨t531, A410, H⟩ := H
                              replace H : (if t531 = true then ((vert_Minus.f k2 l0 ((rd_T24 y482 x33_1).f0) ((rd_T24 y482 x33_1).f1) (rd y487 x42_2)).bind fun bt532 => ((foolscapref5_Minus.f k2 l0 ((rd_T24 y482 x33_1).f0) ((rd_T24 y482 x33_1).f1) (rd y487 x42_2)).bind fun bt538 => ((foolscaplaw9_same.f bt532.1 bt532.2.1 bt532.2.2.1 bt532.2.2.2.1 bt532.2.2.2.2.1 bt532.2.2.2.2.2 bt538.1 bt538.2.1 bt538.2.2.1 bt538.2.2.2.1 bt538.2.2.2.2.1 bt538.2.2.2.2.2).bind fun t544 => (if t544 = true then ((vert_Under.f k2 l0 ((rd_T24 y482 x33_1).f0) ((rd_T24 y482 x33_1).f1) (rd y487 x42_2)).bind fun bt545 => ((foolscapref5_Under.f k2 l0 ((rd_T24 y482 x33_1).f0) ((rd_T24 y482 x33_1).f1) (rd y487 x42_2)).bind fun bt551 => ((foolscaplaw9_same.f bt545.1 bt545.2.1 bt545.2.2.1 bt545.2.2.2.1 bt545.2.2.2.2.1 bt545.2.2.2.2.2 bt551.1 bt551.2.1 bt551.2.2.1 bt551.2.2.2.1 bt551.2.2.2.2.1 bt551.2.2.2.2.2).bind fun t557 => (if t557 = true then ((vert_Goto.f k2 l0 ((rd_T24 y482 x33_1).f0) ((rd_T24 y482 x33_1).f1) (rd y487 x42_2)).bind fun bt558 => ((foolscapref5_Goto.f k2 l0 ((rd_T24 y482 x33_1).f0) ((rd_T24 y482 x33_1).f1) (rd y487 x42_2)).bind fun bt564 => ((foolscaplaw9_same.f bt558.1 bt558.2.1 bt558.2.2.1 bt558.2.2.2.1 bt558.2.2.2.2.1 bt558.2.2.2.2.2 bt564.1 bt564.2.1 bt564.2.2.1 bt564.2.2.2.1 bt564.2.2.2.2.1 bt564.2.2.2.2.2).bind fun t570 => (if t570 = true then (foolscaplaw9_VertMove.l1 k2 l0 a4 a5 y482 (y482.length : Int) x33_1 y487 (y487.length : Int) (wrap64 (x42_2 + 1)) ((rd_T24 y482 x33_1).f0) ((rd_T24 y482 x33_1).f1)) else (some false))))) else (some false))))) else (some false))))) else (some false)) = some r := H
                              have A41 := Aside0.mk A410
                              clear A410
                              by_cases c42 : t531 = true
                              · subst c42
                                have H1 : ((vert_Minus.f k2 l0 ((rd_T24 y482 x33_1).f0) ((rd_T24 y482 x33_1).f1) (rd y487 x42_2)).bind fun bt532 => ((foolscapref5_Minus.f k2 l0 ((rd_T24 y482 x33_1).f0) ((rd_T24 y482 x33_1).f1) (rd y487 x42_2)).bind fun bt538 => ((foolscaplaw9_same.f bt532.1 bt532.2.1 bt532.2.2.1 bt532.2.2.2.1 bt532.2.2.2.2.1 bt532.2.2.2.2.2 bt538.1 bt538.2.1 bt538.2.2.1 bt538.2.2.2.1 bt538.2.2.2.2.1 bt538.2.2.2.2.2).bind fun t544 => (if t544 = true then ((vert_Under.f k2 l0 ((rd_T24 y482 x33_1).f0) ((rd_T24 y482 x33_1).f1) (rd y487 x42_2)).bind fun bt545 => ((foolscapref5_Under.f k2 l0 ((rd_T24 y482 x33_1).f0) ((rd_T24 y482 x33_1).f1) (rd y487 x42_2)).bind fun bt551 => ((foolscaplaw9_same.f bt545.1 bt545.2.1 bt545.2.2.1 bt545.2.2.2.1 bt545.2.2.2.2.1 bt545.2.2.2.2.2 bt551.1 bt551.2.1 bt551.2.2.1 bt551.2.2.2.1 bt551.2.2.2.2.1 bt551.2.2.2.2.2).bind fun t557 => (if t557 = true then ((vert_Goto.f k2 l0 ((rd_T24 y482 x33_1).f0) ((rd_T24 y482 x33_1).f1) (rd y487 x42_2)).bind fun bt558 => ((foolscapref5_Goto.f k2 l0 ((rd_T24 y482 x33_1).f0) ((rd_T24 y482 x33_1).f1) (rd y487 x42_2)).bind fun bt564 => ((foolscaplaw9_same.f bt558.1 bt558.2.1 bt558.2.2.1 bt558.2.2.2.1 bt558.2.2.2.2.1 bt558.2.2.2.2.2 bt564.1 bt564.2.1 bt564.2.2.1 bt564.2.2.2.1 bt564.2.2.2.2.1 bt564.2.2.2.2.2).bind fun t570 => (if t570 = true then (foolscaplaw9_VertMove.l1 k2 l0 a4 a5 y482 (y482.length : Int) x33_1 y487 (y487.length : Int) (wrap64 (x42_2 + 1)) ((rd_T24 y482 x33_1).f0) ((rd_T24 y482 x33_1).f1)) else (some false))))) else (some false))))) else (some false))))) = some r := by rw [if_pos rfl] at H; exact H
                                clear H
                                have H := H1
                                clear H1
                                replace H := Option.bind_eq_some_iff.mp H
                                obtain ⟨⟨t532, t533, t534, t535, t536, t537⟩, A430, H⟩ := H
                                replace H : ((foolscapref5_Minus.f k2 l0 ((rd_T24 y482 x33_1).f0) ((rd_T24 y482 x33_1).f1) (rd y487 x42_2)).bind fun bt538 => ((foolscaplaw9_same.f t532 t533 t534 t535 t536 t537 bt538.1 bt538.2.1 bt538.2.2.1 bt538.2.2.2.1 bt538.2.2.2.2.1 bt538.2.2.2.2.2).bind fun t544 => (if t544 = true then ((vert_Under.f k2 l0 ((rd_T24 y482 x33_1).f0) ((rd_T24 y482 x33_1).f1) (rd y487 x42_2)).bind fun bt545 => ((foolscapref5_Under.f k2 l0 ((rd_T24 y482 x33_1).f0) ((rd_T24 y482 x33_1).f1) (rd y487 x42_2)).bind fun bt551 => ((foolscaplaw9_same.f bt545.1 bt545.2.1 bt545.2.2.1 bt545.2.2.2.1 bt545.2.2.2.2.1 bt545.2.2.2.2.2 bt551.1 bt551.2.1 bt551.2.2.1 bt551.2.2.2.1 bt551.2.2.2.2.1 bt551.2.2.2.2.2).bind fun t557 => (if t557 = true then ((vert_Goto.f k2 l0 ((rd_T24 y482 x33_1).f0) ((rd_T24 y482 x33_1).f1) (rd y487 x42_2)).bind fun bt558 => ((foolscapref5_Goto.f k2 l0 ((rd_T24 y482 x33_1).f0) ((rd_T24 y482 x33_1).f1) (rd y487 x42_2)).bind fun bt564 => ((foolscaplaw9_same.f bt558.1 bt558.2.1 bt558.2.2.1 bt558.2.2.2.1 bt558.2.2.2.2.1 bt558.2.2.2.2.2 bt564.1 bt564.2.1 bt564.2.2.1 bt564.2.2.2.1 bt564.2.2.2.2.1 bt564.2.2.2.2.2).bind fun t570 => (if t570 = true then (foolscaplaw9_VertMove.l1 k2 l0 a4 a5 y482 (y482.length : Int) x33_1 y487 (y487.length : Int) (wrap64 (x42_2 + 1)) ((rd_T24 y482 x33_1).f0) ((rd_T24 y482 x33_1).f1)) else (some false))))) else (some false))))) else (some false)))) = some r := H
                                have A43 := Aside0.mk A430
                                clear A430
                                replace H := Option.bind_eq_some_iff.mp H
                                obtain ⟨⟨t538, t539, t540, t541, t542, t543⟩, A440, H⟩ := H
                                replace H : ((foolscaplaw9_same.f t532 t533 t534 t535 t536 t537 t538 t539 t540 t541 t542 t543).bind fun t544 => (if t544 = true then ((vert_Under.f k2 l0 ((rd_T24 y482 x33_1).f0) ((rd_T24 y482 x33_1).f1) (rd y487 x42_2)).bind fun bt545 => ((foolscapref5_Under.f k2 l0 ((rd_T24 y482 x33_1).f0) ((rd_T24 y482 x33_1).f1) (rd y487 x42_2)).bind fun bt551 => ((foolscaplaw9_same.f bt545.1 bt545.2.1 bt545.2.2.1 bt545.2.2.2.1 bt545.2.2.2.2.1 bt545.2.2.2.2.2 bt551.1 bt551.2.1 bt551.2.2.1 bt551.2.2.2.1 bt551.2.2.2.2.1 bt551.2.2.2.2.2).bind fun t557 => (if t557 = true then ((vert_Goto.f k2 l0 ((rd_T24 y482 x33_1).f0) ((rd_T24 y482 x33_1).f1) (rd y487 x42_2)).bind fun bt558 => ((foolscapref5_Goto.f k2 l0 ((rd_T24 y482 x33_1).f0) ((rd_T24 y482 x33_1).f1) (rd y487 x42_2)).bind fun bt564 => ((foolscaplaw9_same.f bt558.1 bt558.2.1 bt558.2.2.1 bt558.2.2.2.1 bt558.2.2.2.2.1 bt558.2.2.2.2.2 bt564.1 bt564.2.1 bt564.2.2.1 bt564.2.2.2.1 bt564.2.2.2.2.1 bt564.2.2.2.2.2).bind fun t570 => (if t570 = true then (foolscaplaw9_VertMove.l1 k2 l0 a4 a5 y482 (y482.length : Int) x33_1 y487 (y487.length : Int) (wrap64 (x42_2 + 1)) ((rd_T24 y482 x33_1).f0) ((rd_T24 y482 x33_1).f1)) else (some false))))) else (some false))))) else (some false))) = some r := H
                                have A44 := Aside0.mk A440
                                clear A440
                                replace H := Option.bind_eq_some_iff.mp H
                                obtain ⟨t544, A450, H⟩ := H
                                replace H : (if t544 = true then ((vert_Under.f k2 l0 ((rd_T24 y482 x33_1).f0) ((rd_T24 y482 x33_1).f1) (rd y487 x42_2)).bind fun bt545 => ((foolscapref5_Under.f k2 l0 ((rd_T24 y482 x33_1).f0) ((rd_T24 y482 x33_1).f1) (rd y487 x42_2)).bind fun bt551 => ((foolscaplaw9_same.f bt545.1 bt545.2.1 bt545.2.2.1 bt545.2.2.2.1 bt545.2.2.2.2.1 bt545.2.2.2.2.2 bt551.1 bt551.2.1 bt551.2.2.1 bt551.2.2.2.1 bt551.2.2.2.2.1 bt551.2.2.2.2.2).bind fun t557 => (if t557 = true then ((vert_Goto.f k2 l0 ((rd_T24 y482 x33_1).f0) ((rd_T24 y482 x33_1).f1) (rd y487 x42_2)).bind fun bt558 => ((foolscapref5_Goto.f k2 l0 ((rd_T24 y482 x33_1).f0) ((rd_T24 y482 x33_1).f1) (rd y487 x42_2)).bind fun bt564 => ((foolscaplaw9_same.f bt558.1 bt558.2.1 bt558.2.2.1 bt558.2.2.2.1 bt558.2.2.2.2.1 bt558.2.2.2.2.2 bt564.1 bt564.2.1 bt564.2.2.1 bt564.2.2.2.1 bt564.2.2.2.2.1 bt564.2.2.2.2.2).bind fun t570 => (if t570 = true then (foolscaplaw9_VertMove.l1 k2 l0 a4 a5 y482 (y482.length : Int) x33_1 y487 (y487.length : Int) (wrap64 (x42_2 + 1)) ((rd_T24 y482 x33_1).f0) ((rd_T24 y482 x33_1).f1)) else (some false))))) else (some false))))) else (some false)) = some r := H
                                have A45 := Aside0.mk A450
                                clear A450
                                by_cases c46 : t544 = true
                                · subst c46
                                  have H1 : ((vert_Under.f k2 l0 ((rd_T24 y482 x33_1).f0) ((rd_T24 y482 x33_1).f1) (rd y487 x42_2)).bind fun bt545 => ((foolscapref5_Under.f k2 l0 ((rd_T24 y482 x33_1).f0) ((rd_T24 y482 x33_1).f1) (rd y487 x42_2)).bind fun bt551 => ((foolscaplaw9_same.f bt545.1 bt545.2.1 bt545.2.2.1 bt545.2.2.2.1 bt545.2.2.2.2.1 bt545.2.2.2.2.2 bt551.1 bt551.2.1 bt551.2.2.1 bt551.2.2.2.1 bt551.2.2.2.2.1 bt551.2.2.2.2.2).bind fun t557 => (if t557 = true then ((vert_Goto.f k2 l0 ((rd_T24 y482 x33_1).f0) ((rd_T24 y482 x33_1).f1) (rd y487 x42_2)).bind fun bt558 => ((foolscapref5_Goto.f k2 l0 ((rd_T24 y482 x33_1).f0) ((rd_T24 y482 x33_1).f1) (rd y487 x42_2)).bind fun bt564 => ((foolscaplaw9_same.f bt558.1 bt558.2.1 bt558.2.2.1 bt558.2.2.2.1 bt558.2.2.2.2.1 bt558.2.2.2.2.2 bt564.1 bt564.2.1 bt564.2.2.1 bt564.2.2.2.1 bt564.2.2.2.2.1 bt564.2.2.2.2.2).bind fun t570 => (if t570 = true then (foolscaplaw9_VertMove.l1 k2 l0 a4 a5 y482 (y482.length : Int) x33_1 y487 (y487.length : Int) (wrap64 (x42_2 + 1)) ((rd_T24 y482 x33_1).f0) ((rd_T24 y482 x33_1).f1)) else (some false))))) else (some false))))) = some r := by rw [if_pos rfl] at H; exact H
                                  clear H
                                  have H := H1
                                  clear H1
                                  replace H := Option.bind_eq_some_iff.mp H
                                  obtain ⟨⟨t545, t546, t547, t548, t549, t550⟩, A470, H⟩ := H
                                  replace H : ((foolscapref5_Under.f k2 l0 ((rd_T24 y482 x33_1).f0) ((rd_T24 y482 x33_1).f1) (rd y487 x42_2)).bind fun bt551 => ((foolscaplaw9_same.f t545 t546 t547 t548 t549 t550 bt551.1 bt551.2.1 bt551.2.2.1 bt551.2.2.2.1 bt551.2.2.2.2.1 bt551.2.2.2.2.2).bind fun t557 => (if t557 = true then ((vert_Goto.f k2 l0 ((rd_T24 y482 x33_1).f0) ((rd_T24 y482 x33_1).f1) (rd y487 x42_2)).bind fun bt558 => ((foolscapref5_Goto.f k2 l0 ((rd_T24 y482 x33_1).f0) ((rd_T24 y482 x33_1).f1) (rd y487 x42_2)).bind fun bt564 => ((foolscaplaw9_same.f bt558.1 bt558.2.1 bt558.2.2.1 bt558.2.2.2.1 bt558.2.2.2.2.1 bt558.2.2.2.2.2 bt564.1 bt564.2.1 bt564.2.2.1 bt564.2.2.2.1 bt564.2.2.2.2.1 bt564.2.2.2.2.2).bind fun t570 => (if t570 = true then (foolscaplaw9_VertMove.l1 k2 l0 a4 a5 y482 (y482.length : Int) x33_1 y487 (y487.length : Int) (wrap64 (x42_2 + 1)) ((rd_T24 y482 x33_1).f0) ((rd_T24 y482 x33_1).f1)) else (some false))))) else (some false)))) = some r := H
                                  have A47 := Aside0.mk A470
                                  clear A470
                                  replace H := Option.bind_eq_some_iff.mp H
                                  obtain ⟨⟨t551, t552, t553, t554, t555, t556⟩, A480, H⟩ := H
                                  replace H : ((foolscaplaw9_same.f t545 t546 t547 t548 t549 t550 t551 t552 t553 t554 t555 t556).bind fun t557 => (if t557 = true then ((vert_Goto.f k2 l0 ((rd_T24 y482 x33_1).f0) ((rd_T24 y482 x33_1).f1) (rd y487 x42_2)).bind fun bt558 => ((foolscapref5_Goto.f k2 l0 ((rd_T24 y482 x33_1).f0) ((rd_T24 y482 x33_1).f1) (rd y487 x42_2)).bind fun bt564 => ((foolscaplaw9_same.f bt558.1 bt558.2.1 bt558.2.2.1 bt558.2.2.2.1 bt558.2.2.2.2.1 bt558.2.2.2.2.2 bt564.1 bt564.2.1 bt564.2.2.1 bt564.2.2.2.1 bt564.2.2.2.2.1 bt564.2.2.2.2.2).bind fun t570 => (if t570 = true then (foolscaplaw9_VertMove.l1 k2 l0 a4 a5 y482 (y482.length : Int) x33_1 y487 (y487.length : Int) (wrap64 (x42_2 + 1)) ((rd_T24 y482 x33_1).f0) ((rd_T24 y482 x33_1).f1)) else (some false))))) else (some false))) = some r := H
                                  have A48 := Aside0.mk A480
                                  clear A480
                                  replace H := Option.bind_eq_some_iff.mp H
                                  obtain ⟨t557, A490, H⟩ := H
                                  replace H : (if t557 = true then ((vert_Goto.f k2 l0 ((rd_T24 y482 x33_1).f0) ((rd_T24 y482 x33_1).f1) (rd y487 x42_2)).bind fun bt558 => ((foolscapref5_Goto.f k2 l0 ((rd_T24 y482 x33_1).f0) ((rd_T24 y482 x33_1).f1) (rd y487 x42_2)).bind fun bt564 => ((foolscaplaw9_same.f bt558.1 bt558.2.1 bt558.2.2.1 bt558.2.2.2.1 bt558.2.2.2.2.1 bt558.2.2.2.2.2 bt564.1 bt564.2.1 bt564.2.2.1 bt564.2.2.2.1 bt564.2.2.2.2.1 bt564.2.2.2.2.2).bind fun t570 => (if t570 = true then (foolscaplaw9_VertMove.l1 k2 l0 a4 a5 y482 (y482.length : Int) x33_1 y487 (y487.length : Int) (wrap64 (x42_2 + 1)) ((rd_T24 y482 x33_1).f0) ((rd_T24 y482 x33_1).f1)) else (some false))))) else (some false)) = some r := H
                                  have A49 := Aside0.mk A490
                                  clear A490
                                  by_cases c50 : t557 = true
                                  · subst c50
                                    have H1 : ((vert_Goto.f k2 l0 ((rd_T24 y482 x33_1).f0) ((rd_T24 y482 x33_1).f1) (rd y487 x42_2)).bind fun bt558 => ((foolscapref5_Goto.f k2 l0 ((rd_T24 y482 x33_1).f0) ((rd_T24 y482 x33_1).f1) (rd y487 x42_2)).bind fun bt564 => ((foolscaplaw9_same.f bt558.1 bt558.2.1 bt558.2.2.1 bt558.2.2.2.1 bt558.2.2.2.2.1 bt558.2.2.2.2.2 bt564.1 bt564.2.1 bt564.2.2.1 bt564.2.2.2.1 bt564.2.2.2.2.1 bt564.2.2.2.2.2).bind fun t570 => (if t570 = true then (foolscaplaw9_VertMove.l1 k2 l0 a4 a5 y482 (y482.length : Int) x33_1 y487 (y487.length : Int) (wrap64 (x42_2 + 1)) ((rd_T24 y482 x33_1).f0) ((rd_T24 y482 x33_1).f1)) else (some false))))) = some r := by rw [if_pos rfl] at H; exact H
                                    clear H
                                    have H := H1
                                    clear H1
                                    replace H := Option.bind_eq_some_iff.mp H
                                    obtain ⟨⟨t558, t559, t560, t561, t562, t563⟩, A510, H⟩ := H
                                    replace H : ((foolscapref5_Goto.f k2 l0 ((rd_T24 y482 x33_1).f0) ((rd_T24 y482 x33_1).f1) (rd y487 x42_2)).bind fun bt564 => ((foolscaplaw9_same.f t558 t559 t560 t561 t562 t563 bt564.1 bt564.2.1 bt564.2.2.1 bt564.2.2.2.1 bt564.2.2.2.2.1 bt564.2.2.2.2.2).bind fun t570 => (if t570 = true then (foolscaplaw9_VertMove.l1 k2 l0 a4 a5 y482 (y482.length : Int) x33_1 y487 (y487.length : Int) (wrap64 (x42_2 + 1)) ((rd_T24 y482 x33_1).f0) ((rd_T24 y482 x33_1).f1)) else (some false)))) = some r := H
                                    have A51 := Aside0.mk A510
                                    clear A510
                                    replace H := Option.bind_eq_some_iff.mp H
                                    obtain ⟨⟨t564, t565, t566, t567, t568, t569⟩, A520, H⟩ := H
                                    replace H : ((foolscaplaw9_same.f t558 t559 t560 t561 t562 t563 t564 t565 t566 t567 t568 t569).bind fun t570 => (if t570 = true then (foolscaplaw9_VertMove.l1 k2 l0 a4 a5 y482 (y482.length : Int) x33_1 y487 (y487.length : Int) (wrap64 (x42_2 + 1)) ((rd_T24 y482 x33_1).f0) ((rd_T24 y482 x33_1).f1)) else (some false))) = some r := H
                                    have A52 := Aside0.mk A520
                                    clear A520
                                    replace H := Option.bind_eq_some_iff.mp H
                                    obtain ⟨t570, A530, H⟩ := H
                                    replace H : (if t570 = true then (foolscaplaw9_VertMove.l1 k2 l0 a4 a5 y482 (y482.length : Int) x33_1 y487 (y487.length : Int) (wrap64 (x42_2 + 1)) ((rd_T24 y482 x33_1).f0) ((rd_T24 y482 x33_1).f1)) else (some false)) = some r := H
                                    have A53 := Aside0.mk A530
                                    clear A530
                                    by_cases c54 : t570 = true
                                    · subst c54
                                      have H1 : (foolscaplaw9_VertMove.l1 k2 l0 a4 a5 y482 (y482.length : Int) x33_1 y487 (y487.length : Int) (wrap64 (x42_2 + 1)) ((rd_T24 y482 x33_1).f0) ((rd_T24 y482 x33_1).f1)) = some r := by rw [if_pos rfl] at H; exact H
                                      clear H
                                      have H := H1
                                      clear H1
                                      have H' := Aside0.mk H
                                      clear H
                                      have p490 : 0 ≤ (x42_2 : Int) := of_decide_eq_true (by first | (with_reducible assumption) | assumption)
                                      have q490 : x42_2 < (y487.length : Int) := of_decide_eq_true (by first | (with_reducible assumption) | assumption)
                                      obtain ⟨ad490, e490, hx490_0⟩ := Kd.at_int (Kd.R_reads' HO_40.out).2.2 x42_2 p490 q490
                                      cases e490
                                      replace p490 := eq_true p490
                                      replace q490 := eq_true q490
                                      have hnb55 := NB486_477.out
                                      have hnc55 := NB477_486.out
                                      have hcz56_0 : wr.cell? ⟨gb486, 0, none⟩ = some (.int .i64 ((rd_T24 y482 x33_1).f0)) := (blk_cell BK486.out 0).trans rfl
                                      have hcz56_1 : wr.cell? ⟨gb486, 1, none⟩ = some (.int .i64 ((rd_T24 y482 x33_1).f1)) := (blk_cell BK486.out 1).trans rfl
                                      have hfz56_0 := blk_frozen BK486.out 0
                                      have hfz56_1 := blk_frozen BK486.out 1
                                      go_wp2_with (first | ((with_reducible refine gate_callee (f := 16) rfl ?_); refine goesL_ (some 51) rfl rfl Try.func16 (by kernel_rfl) rfl #[.slice A0 l0.length c0, .agg #[.int .i64 ((rd_T24 y482 x33_1).f0), .int .i64 ((rd_T24 y482 x33_1).f1)], .int .i64 (rd y487 x42_2), .int .i64 a5] rfl (by (try simp only [List.map_toArray, List.map_cons, List.map_nil]); first | done | rfl | (simp only [List.length_drop, List.length_take]; rfl)) ?_; (with_reducible refine (vert_Down.calls k2 _ _ l0 ((rd_T24 y482 x33_1).f0) ((rd_T24 y482 x33_1).f1) (rd y487 x42_2) a5 t491 t492 t493 t494 t495 t496 _ ?side1 ?side2 A31.out).mono ?_); (case side1 => repeat (first | exact (Kd.C_below HR0.out HB.out) | (with_reducible refine Kd.C_alloc ?_ _) | (with_reducible refine Kd.C_drewN ?_ _) | (with_reducible refine Kd.C_drew ?_))); (case side2 => exact HC0.out); rintro e w57 ⟨rfl, hb⟩; refine ⟨_, rfl, ?_⟩; have n0_ := Aside0.mk (Kd.R_below (by (with_reducible repeat (first | apply Kd.R_alloc | apply Kd.R_drewN | apply Kd.R_drew)); exact HO_31.out) hb); have n1_ := Aside0.mk (Kd.R_below (by (with_reducible repeat (first | apply Kd.R_alloc | apply Kd.R_drewN | apply Kd.R_drew)); exact HO_40.out) hb); have n2_ := Aside0.mk (blk_below (g := gb477) (o := .cells #[.int .i64 a1_0, .int .i64 a1_1] 24 (0, 0)) (by (with_reducible repeat (first | refine blk_drewN ?_ _ | refine blk_drew ?_ | refine blk_alloc ?_ _)); exact BK477.out) hb); have n3_ := Aside0.mk (blk_below (g := gb486) (o := .cells #[.int .i64 ((rd_T24 y482 x33_1).f0), .int .i64 ((rd_T24 y482 x33_1).f1)] 24 (0, 0)) (by (with_reducible repeat (first | refine blk_drewN ?_ _ | refine blk_drew ?_ | refine blk_alloc ?_ _)); exact BK486.out) hb); have n4_ := Aside0.mk (below_step (by repeat (first | (with_reducible first | exact HB.out | apply below_alloc | apply pw_below_drewN | apply below_drew1 | refine below_set ?_ GE477.out | refine below_set ?_ GE486.out) | exact HB.out)) hb); clear HO_31; clear HO_40; clear BK477; clear BK486; clear HB; have HO_31 := n0_; have HO_40 := n1_; have BK477 := n2_; have BK486 := n3_; have HB := n4_; clear n0_ n1_ n2_ n3_ n4_; (try clear hb); (try clear hb2); (try clear hk); (try clear hi)) | ((with_reducible refine gate_dst (N := 17) rfl ?_); refine box_event ?hg (N := 17) ?hd (cs := #[.int .i64 0, .int .i64 0, .int .i64 0, .bool false, .int .i64 0]) (t := 33) ?hr ?_; (case hd => rfl); (case hg => rfl); (case hr => first | (go_simp; done) | (go_simp; rfl)); intro gb497 hg w58 hbox hb; have n0_ := Aside0.mk (Kd.R_below (by (with_reducible repeat (first | apply Kd.R_alloc | apply Kd.R_drewN | apply Kd.R_drew)); exact HO_31.out) hb); have n1_ := Aside0.mk (Kd.R_below (by (with_reducible repeat (first | apply Kd.R_alloc | apply Kd.R_drewN | apply Kd.R_drew)); exact HO_40.out) hb); have n2_ := Aside0.mk (blk_below (g := gb477) (o := .cells #[.int .i64 a1_0, .int .i64 a1_1] 24 (0, 0)) (by (with_reducible repeat (first | refine blk_drewN ?_ _ | refine blk_drew ?_ | refine blk_alloc ?_ _)); exact BK477.out) hb); have n3_ := Aside0.mk (blk_below (g := gb486) (o := .cells #[.int .i64 ((rd_T24 y482 x33_1).f0), .int .i64 ((rd_T24 y482 x33_1).f1)] 24 (0, 0)) (by (with_reducible repeat (first | refine blk_drewN ?_ _ | refine blk_drew ?_ | refine blk_alloc ?_ _)); exact BK486.out) hb); have n4_ := Aside0.mk (below_step (by repeat (first | (with_reducible first | exact HB.out | apply below_alloc | apply pw_below_drewN | apply below_drew1 | refine below_set ?_ GE477.out | refine below_set ?_ GE486.out) | exact HB.out)) hb); have n5_ := Aside0.mk (hbox); have n6_ := Aside0.mk ((by rw [hg]; exact (below_size (by repeat (first | (with_reducible first | exact HB.out | apply below_alloc | apply pw_below_drewN | apply below_drew1 | refine below_set ?_ GE477.out | refine below_set ?_ GE486.out) | exact HB.out))) : w.heap.size ≤ gb497)); have n7_ := Aside0.mk ((by rw [hg]; exact (below_size (by repeat (first | (with_reducible first | exact HB.out | apply below_alloc | apply pw_below_drewN | apply below_drew1 | refine below_set ?_ GE477.out | refine below_set ?_ GE486.out) | exact HB.out))) : w.heap.size ≤ gb497)); have n8_ := Aside0.mk ((by rw [hg]; exact Nat.ne_of_lt (blk_lt (g := gb477) (o := .cells #[.int .i64 a1_0, .int .i64 a1_1] 24 (0, 0)) (by (with_reducible repeat (first | refine blk_drewN ?_ _ | refine blk_drew ?_ | refine blk_alloc ?_ _)); exact BK477.out)) : gb477 ≠ gb497)); have n9_ := Aside0.mk ((by rw [hg]; exact Nat.ne_of_gt (blk_lt (g := gb477) (o := .cells #[.int .i64 a1_0, .int .i64 a1_1] 24 (0, 0)) (by (with_reducible repeat (first | refine blk_drewN ?_ _ | refine blk_drew ?_ | refine blk_alloc ?_ _)); exact BK477.out)) : gb497 ≠ gb477)); have n10_ := Aside0.mk ((by rw [hg]; exact Nat.ne_of_lt (blk_lt (g := gb486) (o := .cells #[.int .i64 ((rd_T24 y482 x33_1).f0), .int .i64 ((rd_T24 y482 x33_1).f1)] 24 (0, 0)) (by (with_reducible repeat (first | refine blk_drewN ?_ _ | refine blk_drew ?_ | refine blk_alloc ?_ _)); exact BK486.out)) : gb486 ≠ gb497)); have n11_ := Aside0.mk ((by rw [hg]; exact Nat.ne_of_gt (blk_lt (g := gb486) (o := .cells #[.int .i64 ((rd_T24 y482 x33_1).f0), .int .i64 ((rd_T24 y482 x33_1).f1)] 24 (0, 0)) (by (with_reducible repeat (first | refine blk_drewN ?_ _ | refine blk_drew ?_ | refine blk_alloc ?_ _)); exact BK486.out)) : gb497 ≠ gb486)); clear HO_31; clear HO_40; clear BK477; clear BK486; clear HB; have HO_31 := n0_; have HO_40 := n1_; have BK477 := n2_; have BK486 := n3_; have HB := n4_; have BK497 := n5_; have GW497 := n6_; have GE497 := n7_; have NB477_497 := n8_; have NB497_477 := n9_; have NB486_497 := n10_; have NB497_486 := n11_; clear n0_ n1_ n2_ n3_ n4_ n5_ n6_ n7_ n8_ n9_ n10_ n11_; clear hb hbox hg; have hnb59 := NB497_477.out; have hnc59 := NB477_497.out; have hnb60 := NB497_486.out; have hnc60 := NB486_497.out; have hcz61_0 : w58.cell? ⟨gb497, 0, none⟩ = some (.int .i64 0) := (blk_cell BK497.out 0).trans rfl; have hcz61_1 : w58.cell? ⟨gb497, 1, none⟩ = some (.int .i64 0) := (blk_cell BK497.out 1).trans rfl; have hcz61_2 : w58.cell? ⟨gb497, 2, none⟩ = some (.int .i64 0) := (blk_cell BK497.out 2).trans rfl; have hcz61_3 : w58.cell? ⟨gb497, 3, none⟩ = some (.bool false) := (blk_cell BK497.out 3).trans rfl; have hcz61_4 : w58.cell? ⟨gb497, 4, none⟩ = some (.int .i64 0) := (blk_cell BK497.out 4).trans rfl; have hfz61_0 := blk_frozen BK497.out 0; have hfz61_1 := blk_frozen BK497.out 1; have hfz61_2 := blk_frozen BK497.out 2; have hfz61_3 := blk_frozen BK497.out 3; have hfz61_4 := blk_frozen BK497.out 4; have hcz62_0 : w58.cell? ⟨gb486, 0, none⟩ = some (.int .i64 ((rd_T24 y482 x33_1).f0)) := (blk_cell BK486.out 0).trans rfl; have hcz62_1 : w58.cell? ⟨gb486, 1, none⟩ = some (.int .i64 ((rd_T24 y482 x33_1).f1)) := (blk_cell BK486.out 1).trans rfl; have hfz62_0 := blk_frozen BK486.out 0; have hfz62_1 := blk_frozen BK486.out 1) | ((with_reducible refine gate_callee (f := 18) rfl ?_); refine goesL_ (some 59) rfl rfl Try.func18 (by kernel_rfl) rfl #[.slice A0 l0.length c0, .agg #[.int .i64 ((rd_T24 y482 x33_1).f0), .int .i64 ((rd_T24 y482 x33_1).f1)], .int .i64 (rd y487 x42_2), .int .i64 a5, .bool false] rfl (by (try simp only [List.map_toArray, List.map_cons, List.map_nil]); first | done | rfl | (simp only [List.length_drop, List.length_take]; rfl)) ?_; (with_reducible refine (foolscapref5_Vertical.calls k2 _ _ l0 ((rd_T24 y482 x33_1).f0) ((rd_T24 y482 x33_1).f1) (rd y487 x42_2) a5 false t498 t499 t500 t501 t502 t503 _ ?side1 ?side2 A32.out).mono ?_); (case side1 => exact Kd.C_below HR0.out (by repeat (first | (with_reducible first | exact HB.out | apply below_alloc | apply pw_below_drewN | apply below_drew1 | refine below_set ?_ GE477.out | refine below_set ?_ GE486.out | refine below_set ?_ GE497.out) | exact HB.out))); (case side2 => exact HC0.out); rintro e w63 ⟨rfl, hb⟩; refine ⟨_, rfl, ?_⟩; have n0_ := Aside0.mk (Kd.R_below (by (with_reducible repeat (first | apply Kd.R_alloc | apply Kd.R_drewN | apply Kd.R_drew)); exact (Kd.R_mono (Kd.R_far (p := ⟨gb497, 4, none⟩) (Kd.R_far (p := ⟨gb497, 3, none⟩) (Kd.R_far (p := ⟨gb497, 2, none⟩) (Kd.R_far (p := ⟨gb497, 1, none⟩) (Kd.R_far (p := ⟨gb497, 0, none⟩) (Kd.R_types HO_31.out BK497.out (by decide)) (fun _ hk => hk.2) (.int .i64 t491)) (fun _ hk => hk.2) (.int .i64 t492)) (fun _ hk => hk.2) (.int .i64 t493)) (fun _ hk => hk.2) (.bool t494)) (fun _ hk => hk.2) (.int .i64 t495)) (fun _ h_ => h_.1))) hb); have n1_ := Aside0.mk (Kd.R_below (by (with_reducible repeat (first | apply Kd.R_alloc | apply Kd.R_drewN | apply Kd.R_drew)); exact (Kd.R_mono (Kd.R_far (p := ⟨gb497, 4, none⟩) (Kd.R_far (p := ⟨gb497, 3, none⟩) (Kd.R_far (p := ⟨gb497, 2, none⟩) (Kd.R_far (p := ⟨gb497, 1, none⟩) (Kd.R_far (p := ⟨gb497, 0, none⟩) (Kd.R_types HO_40.out BK497.out (by decide)) (fun _ hk => hk.2) (.int .i64 t491)) (fun _ hk => hk.2) (.int .i64 t492)) (fun _ hk => hk.2) (.int .i64 t493)) (fun _ hk => hk.2) (.bool t494)) (fun _ hk => hk.2) (.int .i64 t495)) (fun _ h_ => h_.1))) hb); have n2_ := Aside0.mk (blk_below (g := gb477) (o := .cells #[.int .i64 a1_0, .int .i64 a1_1] 24 (0, 0)) (by (with_reducible repeat (first | refine blk_drewN ?_ _ | refine blk_drew ?_ | refine blk_alloc ?_ _)); refine blk_far ?_ NB477_497.out _; (with_reducible repeat (first | refine blk_drewN ?_ _ | refine blk_drew ?_ | refine blk_alloc ?_ _)); refine blk_far ?_ NB477_497.out _; (with_reducible repeat (first | refine blk_drewN ?_ _ | refine blk_drew ?_ | refine blk_alloc ?_ _)); refine blk_far ?_ NB477_497.out _; (with_reducible repeat (first | refine blk_drewN ?_ _ | refine blk_drew ?_ | refine blk_alloc ?_ _)); refine blk_far ?_ NB477_497.out _; (with_reducible repeat (first | refine blk_drewN ?_ _ | refine blk_drew ?_ | refine blk_alloc ?_ _)); refine blk_far ?_ NB477_497.out _; (with_reducible repeat (first | refine blk_drewN ?_ _ | refine blk_drew ?_ | refine blk_alloc ?_ _)); exact BK477.out) hb); have n3_ := Aside0.mk (blk_below (g := gb486) (o := .cells #[.int .i64 ((rd_T24 y482 x33_1).f0), .int .i64 ((rd_T24 y482 x33_1).f1)] 24 (0, 0)) (by (with_reducible repeat (first | refine blk_drewN ?_ _ | refine blk_drew ?_ | refine blk_alloc ?_ _)); refine blk_far ?_ NB486_497.out _; (with_reducible repeat (first | refine blk_drewN ?_ _ | refine blk_drew ?_ | refine blk_alloc ?_ _)); refine blk_far ?_ NB486_497.out _; (with_reducible repeat (first | refine blk_drewN ?_ _ | refine blk_drew ?_ | refine blk_alloc ?_ _)); refine blk_far ?_ NB486_497.out _; (with_reducible repeat (first | refine blk_drewN ?_ _ | refine blk_drew ?_ | refine blk_alloc ?_ _)); refine blk_far ?_ NB486_497.out _; (with_reducible repeat (first | refine blk_drewN ?_ _ | refine blk_drew ?_ | refine blk_alloc ?_ _)); refine blk_far ?_ NB486_497.out _; (with_reducible repeat (first | refine blk_drewN ?_ _ | refine blk_drew ?_ | refine blk_alloc ?_ _)); exact BK486.out) hb); have n4_ := Aside0.mk (blk_below (g := gb497) (o := .cells #[.int .i64 t491, .int .i64 t492, .int .i64 t493, .bool t494, .int .i64 t495] 33 (0, 0)) (by (with_reducible repeat (first | refine blk_drewN ?_ _ | refine blk_drew ?_ | refine blk_alloc ?_ _)); refine blk_put (cs := #[.int .i64 t491, .int .i64 t492, .int .i64 t493, .bool t494, .int .i64 0]) ?_ 4 _ rfl; (with_reducible repeat (first | refine blk_drewN ?_ _ | refine blk_drew ?_ | refine blk_alloc ?_ _)); refine blk_put (cs := #[.int .i64 t491, .int .i64 t492, .int .i64 t493, .bool false, .int .i64 0]) ?_ 3 _ rfl; (with_reducible repeat (first | refine blk_drewN ?_ _ | refine blk_drew ?_ | refine blk_alloc ?_ _)); refine blk_put (cs := #[.int .i64 t491, .int .i64 t492, .int .i64 0, .bool false, .int .i64 0]) ?_ 2 _ rfl; (with_reducible repeat (first | refine blk_drewN ?_ _ | refine blk_drew ?_ | refine blk_alloc ?_ _)); refine blk_put (cs := #[.int .i64 t491, .int .i64 0, .int .i64 0, .bool false, .int .i64 0]) ?_ 1 _ rfl; (with_reducible repeat (first | refine blk_drewN ?_ _ | refine blk_drew ?_ | refine blk_alloc ?_ _)); refine blk_put (cs := #[.int .i64 0, .int .i64 0, .int .i64 0, .bool false, .int .i64 0]) ?_ 0 _ rfl; (with_reducible repeat (first | refine blk_drewN ?_ _ | refine blk_drew ?_ | refine blk_alloc ?_ _)); exact BK497.out) hb); have n5_ := Aside0.mk (below_step (by repeat (first | (with_reducible first | exact HB.out | apply below_alloc | apply pw_below_drewN | apply below_drew1 | refine below_set ?_ GE477.out | refine below_set ?_ GE486.out | refine below_set ?_ GE497.out) | exact HB.out)) hb); clear HO_31; clear HO_40; clear BK477; clear BK486; clear BK497; clear HB; have HO_31 := n0_; have HO_40 := n1_; have BK477 := n2_; have BK486 := n3_; have BK497 := n4_; have HB := n5_; clear n0_ n1_ n2_ n3_ n4_ n5_; (try clear hb); (try clear hb2); (try clear hk); (try clear hi)) | ((with_reducible refine gate_dst (N := 19) rfl ?_); refine box_event ?hg (N := 19) ?hd (cs := #[.int .i64 0, .int .i64 0, .int .i64 0, .bool false, .int .i64 0]) (t := 33) ?hr ?_; (case hd => rfl); (case hg => rfl); (case hr => first | (go_simp; done) | (go_simp; rfl)); intro gb504 hg w64 hbox hb; have n0_ := Aside0.mk (Kd.R_below (by (with_reducible repeat (first | apply Kd.R_alloc | apply Kd.R_drewN | apply Kd.R_drew)); exact HO_31.out) hb); have n1_ := Aside0.mk (Kd.R_below (by (with_reducible repeat (first | apply Kd.R_alloc | apply Kd.R_drewN | apply Kd.R_drew)); exact HO_40.out) hb); have n2_ := Aside0.mk (blk_below (g := gb477) (o := .cells #[.int .i64 a1_0, .int .i64 a1_1] 24 (0, 0)) (by (with_reducible repeat (first | refine blk_drewN ?_ _ | refine blk_drew ?_ | refine blk_alloc ?_ _)); exact BK477.out) hb); have n3_ := Aside0.mk (blk_below (g := gb486) (o := .cells #[.int .i64 ((rd_T24 y482 x33_1).f0), .int .i64 ((rd_T24 y482 x33_1).f1)] 24 (0, 0)) (by (with_reducible repeat (first | refine blk_drewN ?_ _ | refine blk_drew ?_ | refine blk_alloc ?_ _)); exact BK486.out) hb); have n4_ := Aside0.mk (blk_below (g := gb497) (o := .cells #[.int .i64 t491, .int .i64 t492, .int .i64 t493, .bool t494, .int .i64 t495] 33 (0, 0)) (by (with_reducible repeat (first | refine blk_drewN ?_ _ | refine blk_drew ?_ | refine blk_alloc ?_ _)); exact BK497.out) hb); have n5_ := Aside0.mk (below_step (by repeat (first | (with_reducible first | exact HB.out | apply below_alloc | apply pw_below_drewN | apply below_drew1 | refine below_set ?_ GE477.out | refine below_set ?_ GE486.out | refine below_set ?_ GE497.out) | exact HB.out)) hb); have n6_ := Aside0.mk (hbox); have n7_ := Aside0.mk ((by rw [hg]; exact (below_size (by repeat (first | (with_reducible first | exact HB.out | apply below_alloc | apply pw_below_drewN | apply below_drew1 | refine below_set ?_ GE477.out | refine below_set ?_ GE486.out | refine below_set ?_ GE497.out) | exact HB.out))) : w.heap.size ≤ gb504)); have n8_ := Aside0.mk ((by rw [hg]; exact (below_size (by repeat (first | (with_reducible first | exact HB.out | apply below_alloc | apply pw_below_drewN | apply below_drew1 | refine below_set ?_ GE477.out | refine below_set ?_ GE486.out | refine below_set ?_ GE497.out) | exact HB.out))) : w.heap.size ≤ gb504)); have n9_ := Aside0.mk ((by rw [hg]; exact Nat.ne_of_lt (blk_lt (g := gb477) (o := .cells #[.int .i64 a1_0, .int .i64 a1_1] 24 (0, 0)) (by (with_reducible repeat (first | refine blk_drewN ?_ _ | refine blk_drew ?_ | refine blk_alloc ?_ _)); exact BK477.out)) : gb477 ≠ gb504)); have n10_ := Aside0.mk ((by rw [hg]; exact Nat.ne_of_gt (blk_lt (g := gb477) (o := .cells #[.int .i64 a1_0, .int .i64 a1_1] 24 (0, 0)) (by (with_reducible repeat (first | refine blk_drewN ?_ _ | refine blk_drew ?_ | refine blk_alloc ?_ _)); exact BK477.out)) : gb504 ≠ gb477)); have n11_ := Aside0.mk ((by rw [hg]; exact Nat.ne_of_lt (blk_lt (g := gb486) (o := .cells #[.int .i64 ((rd_T24 y482 x33_1).f0), .int .i64 ((rd_T24 y482 x33_1).f1)] 24 (0, 0)) (by (with_reducible repeat (first | refine blk_drewN ?_ _ | refine blk_drew ?_ | refine blk_alloc ?_ _)); exact BK486.out)) : gb486 ≠ gb504)); have n12_ := Aside0.mk ((by rw [hg]; exact Nat.ne_of_gt (blk_lt (g := gb486) (o := .cells #[.int .i64 ((rd_T24 y482 x33_1).f0), .int .i64 ((rd_T24 y482 x33_1).f1)] 24 (0, 0)) (by (with_reducible repeat (first | refine blk_drewN ?_ _ | refine blk_drew ?_ | refine blk_alloc ?_ _)); exact BK486.out)) : gb504 ≠ gb486)); have n13_ := Aside0.mk ((by rw [hg]; exact Nat.ne_of_lt (blk_lt (g := gb497) (o := .cells #[.int .i64 t491, .int .i64 t492, .int .i64 t493, .bool t494, .int .i64 t495] 33 (0, 0)) (by (with_reducible repeat (first | refine blk_drewN ?_ _ | refine blk_drew ?_ | refine blk_alloc ?_ _)); exact BK497.out)) : gb497 ≠ gb504)); have n14_ := Aside0.mk ((by rw [hg]; exact Nat.ne_of_gt (blk_lt (g := gb497) (o := .cells #[.int .i64 t491, .int .i64 t492, .int .i64 t493, .bool t494, .int .i64 t495] 33 (0, 0)) (by (with_reducible repeat (first | refine blk_drewN ?_ _ | refine blk_drew ?_ | refine blk_alloc ?_ _)); exact BK497.out)) : gb504 ≠ gb497)); clear HO_31; clear HO_40; clear BK477; clear BK486; clear BK497; clear HB; have HO_31 := n0_; have HO_40 := n1_; have BK477 := n2_; have BK486 := n3_; have BK497 := n4_; have HB := n5_; have BK504 := n6_; have GW504 := n7_; have GE504 := n8_; have NB477_504 := n9_; have NB504_477 := n10_; have NB486_504 := n11_; have NB504_486 := n12_; have NB497_504 := n13_; have NB504_497 := n14_; clear n0_ n1_ n2_ n3_ n4_ n5_ n6_ n7_ n8_ n9_ n10_ n11_ n12_ n13_ n14_; clear hb hbox hg; have hnb65 := NB504_477.out; have hnc65 := NB477_504.out; have hnb66 := NB504_486.out; have hnc66 := NB486_504.out; have hnb67 := NB504_497.out; have hnc67 := NB497_504.out; have hcz68_0 : w64.cell? ⟨gb504, 0, none⟩ = some (.int .i64 0) := (blk_cell BK504.out 0).trans rfl; have hcz68_1 : w64.cell? ⟨gb504, 1, none⟩ = some (.int .i64 0) := (blk_cell BK504.out 1).trans rfl; have hcz68_2 : w64.cell? ⟨gb504, 2, none⟩ = some (.int .i64 0) := (blk_cell BK504.out 2).trans rfl; have hcz68_3 : w64.cell? ⟨gb504, 3, none⟩ = some (.bool false) := (blk_cell BK504.out 3).trans rfl; have hcz68_4 : w64.cell? ⟨gb504, 4, none⟩ = some (.int .i64 0) := (blk_cell BK504.out 4).trans rfl; have hfz68_0 := blk_frozen BK504.out 0; have hfz68_1 := blk_frozen BK504.out 1; have hfz68_2 := blk_frozen BK504.out 2; have hfz68_3 := blk_frozen BK504.out 3; have hfz68_4 := blk_frozen BK504.out 4; have hcz69_0 : w64.cell? ⟨gb497, 0, none⟩ = some (.int .i64 t491) := (blk_cell BK497.out 0).trans rfl; have hcz69_1 : w64.cell? ⟨gb497, 1, none⟩ = some (.int .i64 t492) := (blk_cell BK497.out 1).trans rfl; have hcz69_2 : w64.cell? ⟨gb497, 2, none⟩ = some (.int .i64 t493) := (blk_cell BK497.out 2).trans rfl; have hcz69_3 : w64.cell? ⟨gb497, 3, none⟩ = some (.bool t494) := (blk_cell BK497.out 3).trans rfl; have hcz69_4 : w64.cell? ⟨gb497, 4, none⟩ = some (.int .i64 t495) := (blk_cell BK497.out 4).trans rfl; have hfz69_0 := blk_frozen BK497.out 0; have hfz69_1 := blk_frozen BK497.out 1; have hfz69_2 := blk_frozen BK497.out 2; have hfz69_3 := blk_frozen BK497.out 3; have hfz69_4 := blk_frozen BK497.out 4) | ((with_reducible refine gate_callee (f := 13) rfl ?_); refine goesL_ (some 66) rfl rfl Try.func13 (by kernel_rfl) rfl #[.agg #[.int .i64 t491, .int .i64 t492, .int .i64 t493, .bool t494, .int .i64 t495], .bool t496, .agg #[.int .i64 t498, .int .i64 t499, .int .i64 t500, .bool t501, .int .i64 t502], .bool t503] rfl (by (try simp only [List.map_toArray, List.map_cons, List.map_nil]); first | done | rfl | (simp only [List.length_drop, List.length_take]; rfl)) ?_; (with_reducible refine (foolscaplaw9_same.calls t491 t492 t493 t494 t495 t496 t498 t499 t500 t501 t502 t503 true _ A33.out).mono ?_); rintro e w70 ⟨rfl, hb⟩; refine ⟨_, rfl, ?_⟩; have n0_ := Aside0.mk (Kd.R_below (by (with_reducible repeat (first | apply Kd.R_alloc | apply Kd.R_drewN | apply Kd.R_drew)); exact (Kd.R_mono (Kd.R_far (p := ⟨gb504, 4, none⟩) (Kd.R_far (p := ⟨gb504, 3, none⟩) (Kd.R_far (p := ⟨gb504, 2, none⟩) (Kd.R_far (p := ⟨gb504, 1, none⟩) (Kd.R_far (p := ⟨gb504, 0, none⟩) (Kd.R_types HO_31.out BK504.out (by decide)) (fun _ hk => hk.2) (.int .i64 t498)) (fun _ hk => hk.2) (.int .i64 t499)) (fun _ hk => hk.2) (.int .i64 t500)) (fun _ hk => hk.2) (.bool t501)) (fun _ hk => hk.2) (.int .i64 t502)) (fun _ h_ => h_.1))) hb); have n1_ := Aside0.mk (Kd.R_below (by (with_reducible repeat (first | apply Kd.R_alloc | apply Kd.R_drewN | apply Kd.R_drew)); exact (Kd.R_mono (Kd.R_far (p := ⟨gb504, 4, none⟩) (Kd.R_far (p := ⟨gb504, 3, none⟩) (Kd.R_far (p := ⟨gb504, 2, none⟩) (Kd.R_far (p := ⟨gb504, 1, none⟩) (Kd.R_far (p := ⟨gb504, 0, none⟩) (Kd.R_types HO_40.out BK504.out (by decide)) (fun _ hk => hk.2) (.int .i64 t498)) (fun _ hk => hk.2) (.int .i64 t499)) (fun _ hk => hk.2) (.int .i64 t500)) (fun _ hk => hk.2) (.bool t501)) (fun _ hk => hk.2) (.int .i64 t502)) (fun _ h_ => h_.1))) hb); have n2_ := Aside0.mk (blk_below (g := gb477) (o := .cells #[.int .i64 a1_0, .int .i64 a1_1] 24 (0, 0)) (by (with_reducible repeat (first | refine blk_drewN ?_ _ | refine blk_drew ?_ | refine blk_alloc ?_ _)); refine blk_far ?_ NB477_504.out _; (with_reducible repeat (first | refine blk_drewN ?_ _ | refine blk_drew ?_ | refine blk_alloc ?_ _)); refine blk_far ?_ NB477_504.out _; (with_reducible repeat (first | refine blk_drewN ?_ _ | refine blk_drew ?_ | refine blk_alloc ?_ _)); refine blk_far ?_ NB477_504.out _; (with_reducible repeat (first | refine blk_drewN ?_ _ | refine blk_drew ?_ | refine blk_alloc ?_ _)); refine blk_far ?_ NB477_504.out _; (with_reducible repeat (first | refine blk_drewN ?_ _ | refine blk_drew ?_ | refine blk_alloc ?_ _)); refine blk_far ?_ NB477_504.out _; (with_reducible repeat (first | refine blk_drewN ?_ _ | refine blk_drew ?_ | refine blk_alloc ?_ _)); exact BK477.out) hb); have n3_ := Aside0.mk (blk_below (g := gb486) (o := .cells #[.int .i64 ((rd_T24 y482 x33_1).f0), .int .i64 ((rd_T24 y482 x33_1).f1)] 24 (0, 0)) (by (with_reducible repeat (first | refine blk_drewN ?_ _ | refine blk_drew ?_ | refine blk_alloc ?_ _)); refine blk_far ?_ NB486_504.out _; (with_reducible repeat (first | refine blk_drewN ?_ _ | refine blk_drew ?_ | refine blk_alloc ?_ _)); refine blk_far ?_ NB486_504.out _; (with_reducible repeat (first | refine blk_drewN ?_ _ | refine blk_drew ?_ | refine blk_alloc ?_ _)); refine blk_far ?_ NB486_504.out _; (with_reducible repeat (first | refine blk_drewN ?_ _ | refine blk_drew ?_ | refine blk_alloc ?_ _)); refine blk_far ?_ NB486_504.out _; (with_reducible repeat (first | refine blk_drewN ?_ _ | refine blk_drew ?_ | refine blk_alloc ?_ _)); refine blk_far ?_ NB486_504.out _; (with_reducible repeat (first | refine blk_drewN ?_ _ | refine blk_drew ?_ | refine blk_alloc ?_ _)); exact BK486.out) hb); have n4_ := Aside0.mk (blk_below (g := gb497) (o := .cells #[.int .i64 t491, .int .i64 t492, .int .i64 t493, .bool t494, .int .i64 t495] 33 (0, 0)) (by (with_reducible repeat (first | refine blk_drewN ?_ _ | refine blk_drew ?_ | refine blk_alloc ?_ _)); refine blk_far ?_ NB497_504.out _; (with_reducible repeat (first | refine blk_drewN ?_ _ | refine blk_drew ?_ | refine blk_alloc ?_ _)); refine blk_far ?_ NB497_504.out _; (with_reducible repeat (first | refine blk_drewN ?_ _ | refine blk_drew ?_ | refine blk_alloc ?_ _)); refine blk_far ?_ NB497_504.out _; (with_reducible repeat (first | refine blk_drewN ?_ _ | refine blk_drew ?_ | refine blk_alloc ?_ _)); refine blk_far ?_ NB497_504.out _; (with_reducible repeat (first | refine blk_drewN ?_ _ | refine blk_drew ?_ | refine blk_alloc ?_ _)); refine blk_far ?_ NB497_504.out _; (with_reducible repeat (first | refine blk_drewN ?_ _ | refine blk_drew ?_ | refine blk_alloc ?_ _)); exact BK497.out) hb); have n5_ := Aside0.mk (blk_below (g := gb504) (o := .cells #[.int .i64 t498, .int .i64 t499, .int .i64 t500, .bool t501, .int .i64 t502] 33 (0, 0)) (by (with_reducible repeat (first | refine blk_drewN ?_ _ | refine blk_drew ?_ | refine blk_alloc ?_ _)); refine blk_put (cs := #[.int .i64 t498, .int .i64 t499, .int .i64 t500, .bool t501, .int .i64 0]) ?_ 4 _ rfl; (with_reducible repeat (first | refine blk_drewN ?_ _ | refine blk_drew ?_ | refine blk_alloc ?_ _)); refine blk_put (cs := #[.int .i64 t498, .int .i64 t499, .int .i64 t500, .bool false, .int .i64 0]) ?_ 3 _ rfl; (with_reducible repeat (first | refine blk_drewN ?_ _ | refine blk_drew ?_ | refine blk_alloc ?_ _)); refine blk_put (cs := #[.int .i64 t498, .int .i64 t499, .int .i64 0, .bool false, .int .i64 0]) ?_ 2 _ rfl; (with_reducible repeat (first | refine blk_drewN ?_ _ | refine blk_drew ?_ | refine blk_alloc ?_ _)); refine blk_put (cs := #[.int .i64 t498, .int .i64 0, .int .i64 0, .bool false, .int .i64 0]) ?_ 1 _ rfl; (with_reducible repeat (first | refine blk_drewN ?_ _ | refine blk_drew ?_ | refine blk_alloc ?_ _)); refine blk_put (cs := #[.int .i64 0, .int .i64 0, .int .i64 0, .bool false, .int .i64 0]) ?_ 0 _ rfl; (with_reducible repeat (first | refine blk_drewN ?_ _ | refine blk_drew ?_ | refine blk_alloc ?_ _)); exact BK504.out) hb); have n6_ := Aside0.mk (below_step (by repeat (first | (with_reducible first | exact HB.out | apply below_alloc | apply pw_below_drewN | apply below_drew1 | refine below_set ?_ GE477.out | refine below_set ?_ GE486.out | refine below_set ?_ GE497.out | refine below_set ?_ GE504.out) | exact HB.out)) hb); clear HO_31; clear HO_40; clear BK477; clear BK486; clear BK497; clear BK504; clear HB; have HO_31 := n0_; have HO_40 := n1_; have BK477 := n2_; have BK486 := n3_; have BK497 := n4_; have BK504 := n5_; have HB := n6_; clear n0_ n1_ n2_ n3_ n4_ n5_ n6_; (try clear hb); (try clear hb2); (try clear hk); (try clear hi); have hcz71_0 : w70.cell? ⟨gb486, 0, none⟩ = some (.int .i64 ((rd_T24 y482 x33_1).f0)) := (blk_cell BK486.out 0).trans rfl; have hcz71_1 : w70.cell? ⟨gb486, 1, none⟩ = some (.int .i64 ((rd_T24 y482 x33_1).f1)) := (blk_cell BK486.out 1).trans rfl; have hfz71_0 := blk_frozen BK486.out 0; have hfz71_1 := blk_frozen BK486.out 1) | ((with_reducible refine gate_callee (f := 17) rfl ?_); refine goesL_ (some 74) rfl rfl Try.func17 (by kernel_rfl) rfl #[.slice A0 l0.length c0, .agg #[.int .i64 ((rd_T24 y482 x33_1).f0), .int .i64 ((rd_T24 y482 x33_1).f1)], .int .i64 (rd y487 x42_2), .int .i64 (Int.tmod a5 30)] rfl (by (try simp only [List.map_toArray, List.map_cons, List.map_nil]); first | done | rfl | (simp only [List.length_drop, List.length_take]; rfl)) ?_; (with_reducible refine (vert_Up.calls k2 _ _ l0 ((rd_T24 y482 x33_1).f0) ((rd_T24 y482 x33_1).f1) (rd y487 x42_2) (Int.tmod a5 30) t506 t507 t508 t509 t510 t511 _ ?side1 ?side2 A35.out).mono ?_); (case side1 => repeat (first | exact (Kd.C_below HR0.out HB.out) | (with_reducible refine Kd.C_alloc ?_ _) | (with_reducible refine Kd.C_drewN ?_ _) | (with_reducible refine Kd.C_drew ?_))); (case side2 => exact HC0.out); rintro e w72 ⟨rfl, hb⟩; refine ⟨_, rfl, ?_⟩; have n0_ := Aside0.mk (Kd.R_below (by (with_reducible repeat (first | apply Kd.R_alloc | apply Kd.R_drewN | apply Kd.R_drew)); exact HO_31.out) hb); have n1_ := Aside0.mk (Kd.R_below (by (with_reducible repeat (first | apply Kd.R_alloc | apply Kd.R_drewN | apply Kd.R_drew)); exact HO_40.out) hb); have n2_ := Aside0.mk (blk_below (g := gb477) (o := .cells #[.int .i64 a1_0, .int .i64 a1_1] 24 (0, 0)) (by (with_reducible repeat (first | refine blk_drewN ?_ _ | refine blk_drew ?_ | refine blk_alloc ?_ _)); exact BK477.out) hb); have n3_ := Aside0.mk (blk_below (g := gb486) (o := .cells #[.int .i64 ((rd_T24 y482 x33_1).f0), .int .i64 ((rd_T24 y482 x33_1).f1)] 24 (0, 0)) (by (with_reducible repeat (first | refine blk_drewN ?_ _ | refine blk_drew ?_ | refine blk_alloc ?_ _)); exact BK486.out) hb); have n4_ := Aside0.mk (blk_below (g := gb497) (o := .cells #[.int .i64 t491, .int .i64 t492, .int .i64 t493, .bool t494, .int .i64 t495] 33 (0, 0)) (by (with_reducible repeat (first | refine blk_drewN ?_ _ | refine blk_drew ?_ | refine blk_alloc ?_ _)); exact BK497.out) hb); have n5_ := Aside0.mk (blk_below (g := gb504) (o := .cells #[.int .i64 t498, .int .i64 t499, .int .i64 t500, .bool t501, .int .i64 t502] 33 (0, 0)) (by (with_reducible repeat (first | refine blk_drewN ?_ _ | refine blk_drew ?_ | refine blk_alloc ?_ _)); exact BK504.out) hb); have n6_ := Aside0.mk (below_step (by repeat (first | (with_reducible first | exact HB.out | apply below_alloc | apply pw_below_drewN | apply below_drew1 | refine below_set ?_ GE477.out | refine below_set ?_ GE486.out | refine below_set ?_ GE497.out | refine below_set ?_ GE504.out) | exact HB.out)) hb); clear HO_31; clear HO_40; clear BK477; clear BK486; clear BK497; clear BK504; clear HB; have HO_31 := n0_; have HO_40 := n1_; have BK477 := n2_; have BK486 := n3_; have BK497 := n4_; have BK504 := n5_; have HB := n6_; clear n0_ n1_ n2_ n3_ n4_ n5_ n6_; (try clear hb); (try clear hb2); (try clear hk); (try clear hi); have hcz73_0 : w72.cell? ⟨gb497, 0, none⟩ = some (.int .i64 t491) := (blk_cell BK497.out 0).trans rfl; have hcz73_1 : w72.cell? ⟨gb497, 1, none⟩ = some (.int .i64 t492) := (blk_cell BK497.out 1).trans rfl; have hcz73_2 : w72.cell? ⟨gb497, 2, none⟩ = some (.int .i64 t493) := (blk_cell BK497.out 2).trans rfl; have hcz73_3 : w72.cell? ⟨gb497, 3, none⟩ = some (.bool t494) := (blk_cell BK497.out 3).trans rfl; have hcz73_4 : w72.cell? ⟨gb497, 4, none⟩ = some (.int .i64 t495) := (blk_cell BK497.out 4).trans rfl; have hfz73_0 := blk_frozen BK497.out 0; have hfz73_1 := blk_frozen BK497.out 1; have hfz73_2 := blk_frozen BK497.out 2; have hfz73_3 := blk_frozen BK497.out 3; have hfz73_4 := blk_frozen BK497.out 4; have hcz74_0 : w72.cell? ⟨gb486, 0, none⟩ = some (.int .i64 ((rd_T24 y482 x33_1).f0)) := (blk_cell BK486.out 0).trans rfl; have hcz74_1 : w72.cell? ⟨gb486, 1, none⟩ = some (.int .i64 ((rd_T24 y482 x33_1).f1)) := (blk_cell BK486.out 1).trans rfl; have hfz74_0 := blk_frozen BK486.out 0; have hfz74_1 := blk_frozen BK486.out 1) | ((with_reducible refine gate_callee (f := 18) rfl ?_); refine goesL_ (some 83) rfl rfl Try.func18 (by kernel_rfl) rfl #[.slice A0 l0.length c0, .agg #[.int .i64 ((rd_T24 y482 x33_1).f0), .int .i64 ((rd_T24 y482 x33_1).f1)], .int .i64 (rd y487 x42_2), .int .i64 (Int.tmod a5 30), .bool true] rfl (by (try simp only [List.map_toArray, List.map_cons, List.map_nil]); first | done | rfl | (simp only [List.length_drop, List.length_take]; rfl)) ?_; (with_reducible refine (foolscapref5_Vertical.calls k2 _ _ l0 ((rd_T24 y482 x33_1).f0) ((rd_T24 y482 x33_1).f1) (rd y487 x42_2) (Int.tmod a5 30) true t512 t513 t514 t515 t516 t517 _ ?side1 ?side2 A36.out).mono ?_); (case side1 => exact Kd.C_below HR0.out (by repeat (first | (with_reducible first | exact HB.out | apply below_alloc | apply pw_below_drewN | apply below_drew1 | refine below_set ?_ GE477.out | refine below_set ?_ GE486.out | refine below_set ?_ GE497.out | refine below_set ?_ GE504.out) | exact HB.out))); (case side2 => exact HC0.out); rintro e w75 ⟨rfl, hb⟩; refine ⟨_, rfl, ?_⟩; have n0_ := Aside0.mk (Kd.R_below (by (with_reducible repeat (first | apply Kd.R_alloc | apply Kd.R_drewN | apply Kd.R_drew)); exact (Kd.R_mono (Kd.R_far (p := ⟨gb497, 4, none⟩) (Kd.R_far (p := ⟨gb497, 3, none⟩) (Kd.R_far (p := ⟨gb497, 2, none⟩) (Kd.R_far (p := ⟨gb497, 1, none⟩) (Kd.R_far (p := ⟨gb497, 0, none⟩) (Kd.R_types HO_31.out BK497.out (by decide)) (fun _ hk => hk.2) (.int .i64 t506)) (fun _ hk => hk.2) (.int .i64 t507)) (fun _ hk => hk.2) (.int .i64 t508)) (fun _ hk => hk.2) (.bool t509)) (fun _ hk => hk.2) (.int .i64 t510)) (fun _ h_ => h_.1))) hb); have n1_ := Aside0.mk (Kd.R_below (by (with_reducible repeat (first | apply Kd.R_alloc | apply Kd.R_drewN | apply Kd.R_drew)); exact (Kd.R_mono (Kd.R_far (p := ⟨gb497, 4, none⟩) (Kd.R_far (p := ⟨gb497, 3, none⟩) (Kd.R_far (p := ⟨gb497, 2, none⟩) (Kd.R_far (p := ⟨gb497, 1, none⟩) (Kd.R_far (p := ⟨gb497, 0, none⟩) (Kd.R_types HO_40.out BK497.out (by decide)) (fun _ hk => hk.2) (.int .i64 t506)) (fun _ hk => hk.2) (.int .i64 t507)) (fun _ hk => hk.2) (.int .i64 t508)) (fun _ hk => hk.2) (.bool t509)) (fun _ hk => hk.2) (.int .i64 t510)) (fun _ h_ => h_.1))) hb); have n2_ := Aside0.mk (blk_below (g := gb477) (o := .cells #[.int .i64 a1_0, .int .i64 a1_1] 24 (0, 0)) (by (with_reducible repeat (first | refine blk_drewN ?_ _ | refine blk_drew ?_ | refine blk_alloc ?_ _)); refine blk_far ?_ NB477_497.out _; (with_reducible repeat (first | refine blk_drewN ?_ _ | refine blk_drew ?_ | refine blk_alloc ?_ _)); refine blk_far ?_ NB477_497.out _; (with_reducible repeat (first | refine blk_drewN ?_ _ | refine blk_drew ?_ | refine blk_alloc ?_ _)); refine blk_far ?_ NB477_497.out _; (with_reducible repeat (first | refine blk_drewN ?_ _ | refine blk_drew ?_ | refine blk_alloc ?_ _)); refine blk_far ?_ NB477_497.out _; (with_reducible repeat (first | refine blk_drewN ?_ _ | refine blk_drew ?_ | refine blk_alloc ?_ _)); refine blk_far ?_ NB477_497.out _; (with_reducible repeat (first | refine blk_drewN ?_ _ | refine blk_drew ?_ | refine blk_alloc ?_ _)); exact BK477.out) hb); have n3_ := Aside0.mk (blk_below (g := gb486) (o := .cells #[.int .i64 ((rd_T24 y482 x33_1).f0), .int .i64 ((rd_T24 y482 x33_1).f1)] 24 (0, 0)) (by (with_reducible repeat (first | refine blk_drewN ?_ _ | refine blk_drew ?_ | refine blk_alloc ?_ _)); refine blk_far ?_ NB486_497.out _; (with_reducible repeat (first | refine blk_drewN ?_ _ | refine blk_drew ?_ | refine blk_alloc ?_ _)); refine blk_far ?_ NB486_497.out _; (with_reducible repeat (first | refine blk_drewN ?_ _ | refine blk_drew ?_ | refine blk_alloc ?_ _)); refine blk_far ?_ NB486_497.out _; (with_reducible repeat (first | refine blk_drewN ?_ _ | refine blk_drew ?_ | refine blk_alloc ?_ _)); refine blk_far ?_ NB486_497.out _; (with_reducible repeat (first | refine blk_drewN ?_ _ | refine blk_drew ?_ | refine blk_alloc ?_ _)); refine blk_far ?_ NB486_497.out _; (with_reducible repeat (first | refine blk_drewN ?_ _ | refine blk_drew ?_ | refine blk_alloc ?_ _)); exact BK486.out) hb); have n4_ := Aside0.mk (blk_below (g := gb497) (o := .cells #[.int .i64 t506, .int .i64 t507, .int .i64 t508, .bool t509, .int .i64 t510] 33 (0, 0)) (by (with_reducible repeat (first | refine blk_drewN ?_ _ | refine blk_drew ?_ | refine blk_alloc ?_ _)); refine blk_put (cs := #[.int .i64 t506, .int .i64 t507, .int .i64 t508, .bool t509, .int .i64 t495]) ?_ 4 _ rfl; (with_reducible repeat (first | refine blk_drewN ?_ _ | refine blk_drew ?_ | refine blk_alloc ?_ _)); refine blk_put (cs := #[.int .i64 t506, .int .i64 t507, .int .i64 t508, .bool t494, .int .i64 t495]) ?_ 3 _ rfl; (with_reducible repeat (first | refine blk_drewN ?_ _ | refine blk_drew ?_ | refine blk_alloc ?_ _)); refine blk_put (cs := #[.int .i64 t506, .int .i64 t507, .int .i64 t493, .bool t494, .int .i64 t495]) ?_ 2 _ rfl; (with_reducible repeat (first | refine blk_drewN ?_ _ | refine blk_drew ?_ | refine blk_alloc ?_ _)); refine blk_put (cs := #[.int .i64 t506, .int .i64 t492, .int .i64 t493, .bool t494, .int .i64 t495]) ?_ 1 _ rfl; (with_reducible repeat (first | refine blk_drewN ?_ _ | refine blk_drew ?_ | refine blk_alloc ?_ _)); refine blk_put (cs := #[.int .i64 t491, .int .i64 t492, .int .i64 t493, .bool t494, .int .i64 t495]) ?_ 0 _ rfl; (with_reducible repeat (first | refine blk_drewN ?_ _ | refine blk_drew ?_ | refine blk_alloc ?_ _)); exact BK497.out) hb); have n5_ := Aside0.mk (blk_below (g := gb504) (o := .cells #[.int .i64 t498, .int .i64 t499, .int .i64 t500, .bool t501, .int .i64 t502] 33 (0, 0)) (by (with_reducible repeat (first | refine blk_drewN ?_ _ | refine blk_drew ?_ | refine blk_alloc ?_ _)); refine blk_far ?_ NB504_497.out _; (with_reducible repeat (first | refine blk_drewN ?_ _ | refine blk_drew ?_ | refine blk_alloc ?_ _)); refine blk_far ?_ NB504_497.out _; (with_reducible repeat (first | refine blk_drewN ?_ _ | refine blk_drew ?_ | refine blk_alloc ?_ _)); refine blk_far ?_ NB504_497.out _; (with_reducible repeat (first | refine blk_drewN ?_ _ | refine blk_drew ?_ | refine blk_alloc ?_ _)); refine blk_far ?_ NB504_497.out _; (with_reducible repeat (first | refine blk_drewN ?_ _ | refine blk_drew ?_ | refine blk_alloc ?_ _)); refine blk_far ?_ NB504_497.out _; (with_reducible repeat (first | refine blk_drewN ?_ _ | refine blk_drew ?_ | refine blk_alloc ?_ _)); exact BK504.out) hb); have n6_ := Aside0.mk (below_step (by repeat (first | (with_reducible first | exact HB.out | apply below_alloc | apply pw_below_drewN | apply below_drew1 | refine below_set ?_ GE477.out | refine below_set ?_ GE486.out | refine below_set ?_ GE497.out | refine below_set ?_ GE504.out) | exact HB.out)) hb); clear HO_31; clear HO_40; clear BK477; clear BK486; clear BK497; clear BK504; clear HB; have HO_31 := n0_; have HO_40 := n1_; have BK477 := n2_; have BK486 := n3_; have BK497 := n4_; have BK504 := n5_; have HB := n6_; clear n0_ n1_ n2_ n3_ n4_ n5_ n6_; (try clear hb); (try clear hb2); (try clear hk); (try clear hi); have hcz76_0 : w75.cell? ⟨gb504, 0, none⟩ = some (.int .i64 t498) := (blk_cell BK504.out 0).trans rfl; have hcz76_1 : w75.cell? ⟨gb504, 1, none⟩ = some (.int .i64 t499) := (blk_cell BK504.out 1).trans rfl; have hcz76_2 : w75.cell? ⟨gb504, 2, none⟩ = some (.int .i64 t500) := (blk_cell BK504.out 2).trans rfl; have hcz76_3 : w75.cell? ⟨gb504, 3, none⟩ = some (.bool t501) := (blk_cell BK504.out 3).trans rfl; have hcz76_4 : w75.cell? ⟨gb504, 4, none⟩ = some (.int .i64 t502) := (blk_cell BK504.out 4).trans rfl; have hfz76_0 := blk_frozen BK504.out 0; have hfz76_1 := blk_frozen BK504.out 1; have hfz76_2 := blk_frozen BK504.out 2; have hfz76_3 := blk_frozen BK504.out 3; have hfz76_4 := blk_frozen BK504.out 4; have hcz77_0 : w75.cell? ⟨gb497, 0, none⟩ = some (.int .i64 t506) := (blk_cell BK497.out 0).trans rfl; have hcz77_1 : w75.cell? ⟨gb497, 1, none⟩ = some (.int .i64 t507) := (blk_cell BK497.out 1).trans rfl; have hcz77_2 : w75.cell? ⟨gb497, 2, none⟩ = some (.int .i64 t508) := (blk_cell BK497.out 2).trans rfl; have hcz77_3 : w75.cell? ⟨gb497, 3, none⟩ = some (.bool t509) := (blk_cell BK497.out 3).trans rfl; have hcz77_4 : w75.cell? ⟨gb497, 4, none⟩ = some (.int .i64 t510) := (blk_cell BK497.out 4).trans rfl; have hfz77_0 := blk_frozen BK497.out 0; have hfz77_1 := blk_frozen BK497.out 1; have hfz77_2 := blk_frozen BK497.out 2; have hfz77_3 := blk_frozen BK497.out 3; have hfz77_4 := blk_frozen BK497.out 4) | ((with_reducible refine gate_callee (f := 13) rfl ?_); refine goesL_ (some 90) rfl rfl Try.func13 (by kernel_rfl) rfl #[.agg #[.int .i64 t506, .int .i64 t507, .int .i64 t508, .bool t509, .int .i64 t510], .bool t511, .agg #[.int .i64 t512, .int .i64 t513, .int .i64 t514, .bool t515, .int .i64 t516], .bool t517] rfl (by (try simp only [List.map_toArray, List.map_cons, List.map_nil]); first | done | rfl | (simp only [List.length_drop, List.length_take]; rfl)) ?_; (with_reducible refine (foolscaplaw9_same.calls t506 t507 t508 t509 t510 t511 t512 t513 t514 t515 t516 t517 true _ A37.out).mono ?_); rintro e w78 ⟨rfl, hb⟩; refine ⟨_, rfl, ?_⟩; have n0_ := Aside0.mk (Kd.R_below (by (with_reducible repeat (first | apply Kd.R_alloc | apply Kd.R_drewN | apply Kd.R_drew)); exact (Kd.R_mono (Kd.R_far (p := ⟨gb504, 4, none⟩) (Kd.R_far (p := ⟨gb504, 3, none⟩) (Kd.R_far (p := ⟨gb504, 2, none⟩) (Kd.R_far (p := ⟨gb504, 1, none⟩) (Kd.R_far (p := ⟨gb504, 0, none⟩) (Kd.R_types HO_31.out BK504.out (by decide)) (fun _ hk => hk.2) (.int .i64 t512)) (fun _ hk => hk.2) (.int .i64 t513)) (fun _ hk => hk.2) (.int .i64 t514)) (fun _ hk => hk.2) (.bool t515)) (fun _ hk => hk.2) (.int .i64 t516)) (fun _ h_ => h_.1))) hb); have n1_ := Aside0.mk (Kd.R_below (by (with_reducible repeat (first | apply Kd.R_alloc | apply Kd.R_drewN | apply Kd.R_drew)); exact (Kd.R_mono (Kd.R_far (p := ⟨gb504, 4, none⟩) (Kd.R_far (p := ⟨gb504, 3, none⟩) (Kd.R_far (p := ⟨gb504, 2, none⟩) (Kd.R_far (p := ⟨gb504, 1, none⟩) (Kd.R_far (p := ⟨gb504, 0, none⟩) (Kd.R_types HO_40.out BK504.out (by decide)) (fun _ hk => hk.2) (.int .i64 t512)) (fun _ hk => hk.2) (.int .i64 t513)) (fun _ hk => hk.2) (.int .i64 t514)) (fun _ hk => hk.2) (.bool t515)) (fun _ hk => hk.2) (.int .i64 t516)) (fun _ h_ => h_.1))) hb); have n2_ := Aside0.mk (blk_below (g := gb477) (o := .cells #[.int .i64 a1_0, .int .i64 a1_1] 24 (0, 0)) (by (with_reducible repeat (first | refine blk_drewN ?_ _ | refine blk_drew ?_ | refine blk_alloc ?_ _)); refine blk_far ?_ NB477_504.out _; (with_reducible repeat (first | refine blk_drewN ?_ _ | refine blk_drew ?_ | refine blk_alloc ?_ _)); refine blk_far ?_ NB477_504.out _; (with_reducible repeat (first | refine blk_drewN ?_ _ | refine blk_drew ?_ | refine blk_alloc ?_ _)); refine blk_far ?_ NB477_504.out _; (with_reducible repeat (first | refine blk_drewN ?_ _ | refine blk_drew ?_ | refine blk_alloc ?_ _)); refine blk_far ?_ NB477_504.out _; (with_reducible repeat (first | refine blk_drewN ?_ _ | refine blk_drew ?_ | refine blk_alloc ?_ _)); refine blk_far ?_ NB477_504.out _; (with_reducible repeat (first | refine blk_drewN ?_ _ | refine blk_drew ?_ | refine blk_alloc ?_ _)); exact BK477.out) hb); have n3_ := Aside0.mk (blk_below (g := gb486) (o := .cells #[.int .i64 ((rd_T24 y482 x33_1).f0), .int .i64 ((rd_T24 y482 x33_1).f1)] 24 (0, 0)) (by (with_reducible repeat (first | refine blk_drewN ?_ _ | refine blk_drew ?_ | refine blk_alloc ?_ _)); refine blk_far ?_ NB486_504.out _; (with_reducible repeat (first | refine blk_drewN ?_ _ | refine blk_drew ?_ | refine blk_alloc ?_ _)); refine blk_far ?_ NB486_504.out _; (with_reducible repeat (first | refine blk_drewN ?_ _ | refine blk_drew ?_ | refine blk_alloc ?_ _)); refine blk_far ?_ NB486_504.out _; (with_reducible repeat (first | refine blk_drewN ?_ _ | refine blk_drew ?_ | refine blk_alloc ?_ _)); refine blk_far ?_ NB486_504.out _; (with_reducible repeat (first | refine blk_drewN ?_ _ | refine blk_drew ?_ | refine blk_alloc ?_ _)); refine blk_far ?_ NB486_504.out _; (with_reducible repeat (first | refine blk_drewN ?_ _ | refine blk_drew ?_ | refine blk_alloc ?_ _)); exact BK486.out) hb); have n4_ := Aside0.mk (blk_below (g := gb497) (o := .cells #[.int .i64 t506, .int .i64 t507, .int .i64 t508, .bool t509, .int .i64 t510] 33 (0, 0)) (by (with_reducible repeat (first | refine blk_drewN ?_ _ | refine blk_drew ?_ | refine blk_alloc ?_ _)); refine blk_far ?_ NB497_504.out _; (with_reducible repeat (first | refine blk_drewN ?_ _ | refine blk_drew ?_ | refine blk_alloc ?_ _)); refine blk_far ?_ NB497_504.out _; (with_reducible repeat (first | refine blk_drewN ?_ _ | refine blk_drew ?_ | refine blk_alloc ?_ _)); refine blk_far ?_ NB497_504.out _; (with_reducible repeat (first | refine blk_drewN ?_ _ | refine blk_drew ?_ | refine blk_alloc ?_ _)); refine blk_far ?_ NB497_504.out _; (with_reducible repeat (first | refine blk_drewN ?_ _ | refine blk_drew ?_ | refine blk_alloc ?_ _)); refine blk_far ?_ NB497_504.out _; (with_reducible repeat (first | refine blk_drewN ?_ _ | refine blk_drew ?_ | refine blk_alloc ?_ _)); exact BK497.out) hb); have n5_ := Aside0.mk (blk_below (g := gb504) (o := .cells #[.int .i64 t512, .int .i64 t513, .int .i64 t514, .bool t515, .int .i64 t516] 33 (0, 0)) (by (with_reducible repeat (first | refine blk_drewN ?_ _ | refine blk_drew ?_ | refine blk_alloc ?_ _)); refine blk_put (cs := #[.int .i64 t512, .int .i64 t513, .int .i64 t514, .bool t515, .int .i64 t502]) ?_ 4 _ rfl; (with_reducible repeat (first | refine blk_drewN ?_ _ | refine blk_drew ?_ | refine blk_alloc ?_ _)); refine blk_put (cs := #[.int .i64 t512, .int .i64 t513, .int .i64 t514, .bool t501, .int .i64 t502]) ?_ 3 _ rfl; (with_reducible repeat (first | refine blk_drewN ?_ _ | refine blk_drew ?_ | refine blk_alloc ?_ _)); refine blk_put (cs := #[.int .i64 t512, .int .i64 t513, .int .i64 t500, .bool t501, .int .i64 t502]) ?_ 2 _ rfl; (with_reducible repeat (first | refine blk_drewN ?_ _ | refine blk_drew ?_ | refine blk_alloc ?_ _)); refine blk_put (cs := #[.int .i64 t512, .int .i64 t499, .int .i64 t500, .bool t501, .int .i64 t502]) ?_ 1 _ rfl; (with_reducible repeat (first | refine blk_drewN ?_ _ | refine blk_drew ?_ | refine blk_alloc ?_ _)); refine blk_put (cs := #[.int .i64 t498, .int .i64 t499, .int .i64 t500, .bool t501, .int .i64 t502]) ?_ 0 _ rfl; (with_reducible repeat (first | refine blk_drewN ?_ _ | refine blk_drew ?_ | refine blk_alloc ?_ _)); exact BK504.out) hb); have n6_ := Aside0.mk (below_step (by repeat (first | (with_reducible first | exact HB.out | apply below_alloc | apply pw_below_drewN | apply below_drew1 | refine below_set ?_ GE477.out | refine below_set ?_ GE486.out | refine below_set ?_ GE497.out | refine below_set ?_ GE504.out) | exact HB.out)) hb); clear HO_31; clear HO_40; clear BK477; clear BK486; clear BK497; clear BK504; clear HB; have HO_31 := n0_; have HO_40 := n1_; have BK477 := n2_; have BK486 := n3_; have BK497 := n4_; have BK504 := n5_; have HB := n6_; clear n0_ n1_ n2_ n3_ n4_ n5_ n6_; (try clear hb); (try clear hb2); (try clear hk); (try clear hi); have hcz79_0 : w78.cell? ⟨gb486, 0, none⟩ = some (.int .i64 ((rd_T24 y482 x33_1).f0)) := (blk_cell BK486.out 0).trans rfl; have hcz79_1 : w78.cell? ⟨gb486, 1, none⟩ = some (.int .i64 ((rd_T24 y482 x33_1).f1)) := (blk_cell BK486.out 1).trans rfl; have hfz79_0 := blk_frozen BK486.out 0; have hfz79_1 := blk_frozen BK486.out 1) | ((with_reducible refine gate_callee (f := 19) rfl ?_); refine goesL_ (some 96) rfl rfl Try.func19 (by kernel_rfl) rfl #[.slice A0 l0.length c0, .agg #[.int .i64 ((rd_T24 y482 x33_1).f0), .int .i64 ((rd_T24 y482 x33_1).f1)], .int .i64 (rd y487 x42_2)] rfl (by (try simp only [List.map_toArray, List.map_cons, List.map_nil]); first | done | rfl | (simp only [List.length_drop, List.length_take]; rfl)) ?_; (with_reducible refine (vert_Plus.calls k2 _ _ l0 ((rd_T24 y482 x33_1).f0) ((rd_T24 y482 x33_1).f1) (rd y487 x42_2) t519 t520 t521 t522 t523 t524 _ ?side1 ?side2 A39.out).mono ?_); (case side1 => repeat (first | exact (Kd.C_below HR0.out HB.out) | (with_reducible refine Kd.C_alloc ?_ _) | (with_reducible refine Kd.C_drewN ?_ _) | (with_reducible refine Kd.C_drew ?_))); (case side2 => exact HC0.out); rintro e w80 ⟨rfl, hb⟩; refine ⟨_, rfl, ?_⟩; have n0_ := Aside0.mk (Kd.R_below (by (with_reducible repeat (first | apply Kd.R_alloc | apply Kd.R_drewN | apply Kd.R_drew)); exact HO_31.out) hb); have n1_ := Aside0.mk (Kd.R_below (by (with_reducible repeat (first | apply Kd.R_alloc | apply Kd.R_drewN | apply Kd.R_drew)); exact HO_40.out) hb); have n2_ := Aside0.mk (blk_below (g := gb477) (o := .cells #[.int .i64 a1_0, .int .i64 a1_1] 24 (0, 0)) (by (with_reducible repeat (first | refine blk_drewN ?_ _ | refine blk_drew ?_ | refine blk_alloc ?_ _)); exact BK477.out) hb); have n3_ := Aside0.mk (blk_below (g := gb486) (o := .cells #[.int .i64 ((rd_T24 y482 x33_1).f0), .int .i64 ((rd_T24 y482 x33_1).f1)] 24 (0, 0)) (by (with_reducible repeat (first | refine blk_drewN ?_ _ | refine blk_drew ?_ | refine blk_alloc ?_ _)); exact BK486.out) hb); have n4_ := Aside0.mk (blk_below (g := gb497) (o := .cells #[.int .i64 t506, .int .i64 t507, .int .i64 t508, .bool t509, .int .i64 t510] 33 (0, 0)) (by (with_reducible repeat (first | refine blk_drewN ?_ _ | refine blk_drew ?_ | refine blk_alloc ?_ _)); exact BK497.out) hb); have n5_ := Aside0.mk (blk_below (g := gb504) (o := .cells #[.int .i64 t512, .int .i64 t513, .int .i64 t514, .bool t515, .int .i64 t516] 33 (0, 0)) (by (with_reducible repeat (first | refine blk_drewN ?_ _ | refine blk_drew ?_ | refine blk_alloc ?_ _)); exact BK504.out) hb); have n6_ := Aside0.mk (below_step (by repeat (first | (with_reducible first | exact HB.out | apply below_alloc | apply pw_below_drewN | apply below_drew1 | refine below_set ?_ GE477.out | refine below_set ?_ GE486.out | refine below_set ?_ GE497.out | refine below_set ?_ GE504.out) | exact HB.out)) hb); clear HO_31; clear HO_40; clear BK477; clear BK486; clear BK497; clear BK504; clear HB; have HO_31 := n0_; have HO_40 := n1_; have BK477 := n2_; have BK486 := n3_; have BK497 := n4_; have BK504 := n5_; have HB := n6_; clear n0_ n1_ n2_ n3_ n4_ n5_ n6_; (try clear hb); (try clear hb2); (try clear hk); (try clear hi); have hcz81_0 : w80.cell? ⟨gb497, 0, none⟩ = some (.int .i64 t506) := (blk_cell BK497.out 0).trans rfl; have hcz81_1 : w80.cell? ⟨gb497, 1, none⟩ = some (.int .i64 t507) := (blk_cell BK497.out 1).trans rfl; have hcz81_2 : w80.cell? ⟨gb497, 2, none⟩ = some (.int .i64 t508) := (blk_cell BK497.out 2).trans rfl; have hcz81_3 : w80.cell? ⟨gb497, 3, none⟩ = some (.bool t509) := (blk_cell BK497.out 3).trans rfl; have hcz81_4 : w80.cell? ⟨gb497, 4, none⟩ = some (.int .i64 t510) := (blk_cell BK497.out 4).trans rfl; have hfz81_0 := blk_frozen BK497.out 0; have hfz81_1 := blk_frozen BK497.out 1; have hfz81_2 := blk_frozen BK497.out 2; have hfz81_3 := blk_frozen BK497.out 3; have hfz81_4 := blk_frozen BK497.out 4; have hcz82_0 : w80.cell? ⟨gb486, 0, none⟩ = some (.int .i64 ((rd_T24 y482 x33_1).f0)) := (blk_cell BK486.out 0).trans rfl; have hcz82_1 : w80.cell? ⟨gb486, 1, none⟩ = some (.int .i64 ((rd_T24 y482 x33_1).f1)) := (blk_cell BK486.out 1).trans rfl; have hfz82_0 := blk_frozen BK486.out 0; have hfz82_1 := blk_frozen BK486.out 1) | ((with_reducible refine gate_callee (f := 20) rfl ?_); refine goesL_ (some 103) rfl rfl Try.func20 (by kernel_rfl) rfl #[.slice A0 l0.length c0, .agg #[.int .i64 ((rd_T24 y482 x33_1).f0), .int .i64 ((rd_T24 y482 x33_1).f1)], .int .i64 (rd y487 x42_2)] rfl (by (try simp only [List.map_toArray, List.map_cons, List.map_nil]); first | done | rfl | (simp only [List.length_drop, List.length_take]; rfl)) ?_; (with_reducible refine (foolscapref5_Plus.calls k2 _ _ l0 ((rd_T24 y482 x33_1).f0) ((rd_T24 y482 x33_1).f1) (rd y487 x42_2) t525 t526 t527 t528 t529 t530 _ ?side1 ?side2 A40.out).mono ?_); (case side1 => exact Kd.C_below HR0.out (by repeat (first | (with_reducible first | exact HB.out | apply below_alloc | apply pw_below_drewN | apply below_drew1 | refine below_set ?_ GE477.out | refine below_set ?_ GE486.out | refine below_set ?_ GE497.out | refine below_set ?_ GE504.out) | exact HB.out))); (case side2 => exact HC0.out); rintro e w83 ⟨rfl, hb⟩; refine ⟨_, rfl, ?_⟩; have n0_ := Aside0.mk (Kd.R_below (by (with_reducible repeat (first | apply Kd.R_alloc | apply Kd.R_drewN | apply Kd.R_drew)); exact (Kd.R_mono (Kd.R_far (p := ⟨gb497, 4, none⟩) (Kd.R_far (p := ⟨gb497, 3, none⟩) (Kd.R_far (p := ⟨gb497, 2, none⟩) (Kd.R_far (p := ⟨gb497, 1, none⟩) (Kd.R_far (p := ⟨gb497, 0, none⟩) (Kd.R_types HO_31.out BK497.out (by decide)) (fun _ hk => hk.2) (.int .i64 t519)) (fun _ hk => hk.2) (.int .i64 t520)) (fun _ hk => hk.2) (.int .i64 t521)) (fun _ hk => hk.2) (.bool t522)) (fun _ hk => hk.2) (.int .i64 t523)) (fun _ h_ => h_.1))) hb); have n1_ := Aside0.mk (Kd.R_below (by (with_reducible repeat (first | apply Kd.R_alloc | apply Kd.R_drewN | apply Kd.R_drew)); exact (Kd.R_mono (Kd.R_far (p := ⟨gb497, 4, none⟩) (Kd.R_far (p := ⟨gb497, 3, none⟩) (Kd.R_far (p := ⟨gb497, 2, none⟩) (Kd.R_far (p := ⟨gb497, 1, none⟩) (Kd.R_far (p := ⟨gb497, 0, none⟩) (Kd.R_types HO_40.out BK497.out (by decide)) (fun _ hk => hk.2) (.int .i64 t519)) (fun _ hk => hk.2) (.int .i64 t520)) (fun _ hk => hk.2) (.int .i64 t521)) (fun _ hk => hk.2) (.bool t522)) (fun _ hk => hk.2) (.int .i64 t523)) (fun _ h_ => h_.1))) hb); have n2_ := Aside0.mk (blk_below (g := gb477) (o := .cells #[.int .i64 a1_0, .int .i64 a1_1] 24 (0, 0)) (by (with_reducible repeat (first | refine blk_drewN ?_ _ | refine blk_drew ?_ | refine blk_alloc ?_ _)); refine blk_far ?_ NB477_497.out _; (with_reducible repeat (first | refine blk_drewN ?_ _ | refine blk_drew ?_ | refine blk_alloc ?_ _)); refine blk_far ?_ NB477_497.out _; (with_reducible repeat (first | refine blk_drewN ?_ _ | refine blk_drew ?_ | refine blk_alloc ?_ _)); refine blk_far ?_ NB477_497.out _; (with_reducible repeat (first | refine blk_drewN ?_ _ | refine blk_drew ?_ | refine blk_alloc ?_ _)); refine blk_far ?_ NB477_497.out _; (with_reducible repeat (first | refine blk_drewN ?_ _ | refine blk_drew ?_ | refine blk_alloc ?_ _)); refine blk_far ?_ NB477_497.out _; (with_reducible repeat (first | refine blk_drewN ?_ _ | refine blk_drew ?_ | refine blk_alloc ?_ _)); exact BK477.out) hb); have n3_ := Aside0.mk (blk_below (g := gb486) (o := .cells #[.int .i64 ((rd_T24 y482 x33_1).f0), .int .i64 ((rd_T24 y482 x33_1).f1)] 24 (0, 0)) (by (with_reducible repeat (first | refine blk_drewN ?_ _ | refine blk_drew ?_ | refine blk_alloc ?_ _)); refine blk_far ?_ NB486_497.out _; (with_reducible repeat (first | refine blk_drewN ?_ _ | refine blk_drew ?_ | refine blk_alloc ?_ _)); refine blk_far ?_ NB486_497.out _; (with_reducible repeat (first | refine blk_drewN ?_ _ | refine blk_drew ?_ | refine blk_alloc ?_ _)); refine blk_far ?_ NB486_497.out _; (with_reducible repeat (first | refine blk_drewN ?_ _ | refine blk_drew ?_ | refine blk_alloc ?_ _)); refine blk_far ?_ NB486_497.out _; (with_reducible repeat (first | refine blk_drewN ?_ _ | refine blk_drew ?_ | refine blk_alloc ?_ _)); refine blk_far ?_ NB486_497.out _; (with_reducible repeat (first | refine blk_drewN ?_ _ | refine blk_drew ?_ | refine blk_alloc ?_ _)); exact BK486.out) hb); have n4_ := Aside0.mk (blk_below (g := gb497) (o := .cells #[.int .i64 t519, .int .i64 t520, .int .i64 t521, .bool t522, .int .i64 t523] 33 (0, 0)) (by (with_reducible repeat (first | refine blk_drewN ?_ _ | refine blk_drew ?_ | refine blk_alloc ?_ _)); refine blk_put (cs := #[.int .i64 t519, .int .i64 t520, .int .i64 t521, .bool t522, .int .i64 t510]) ?_ 4 _ rfl; (with_reducible repeat (first | refine blk_drewN ?_ _ | refine blk_drew ?_ | refine blk_alloc ?_ _)); refine blk_put (cs := #[.int .i64 t519, .int .i64 t520, .int .i64 t521, .bool t509, .int .i64 t510]) ?_ 3 _ rfl; (with_reducible repeat (first | refine blk_drewN ?_ _ | refine blk_drew ?_ | refine blk_alloc ?_ _)); refine blk_put (cs := #[.int .i64 t519, .int .i64 t520, .int .i64 t508, .bool t509, .int .i64 t510]) ?_ 2 _ rfl; (with_reducible repeat (first | refine blk_drewN ?_ _ | refine blk_drew ?_ | refine blk_alloc ?_ _)); refine blk_put (cs := #[.int .i64 t519, .int .i64 t507, .int .i64 t508, .bool t509, .int .i64 t510]) ?_ 1 _ rfl; (with_reducible repeat (first | refine blk_drewN ?_ _ | refine blk_drew ?_ | refine blk_alloc ?_ _)); refine blk_put (cs := #[.int .i64 t506, .int .i64 t507, .int .i64 t508, .bool t509, .int .i64 t510]) ?_ 0 _ rfl; (with_reducible repeat (first | refine blk_drewN ?_ _ | refine blk_drew ?_ | refine blk_alloc ?_ _)); exact BK497.out) hb); have n5_ := Aside0.mk (blk_below (g := gb504) (o := .cells #[.int .i64 t512, .int .i64 t513, .int .i64 t514, .bool t515, .int .i64 t516] 33 (0, 0)) (by (with_reducible repeat (first | refine blk_drewN ?_ _ | refine blk_drew ?_ | refine blk_alloc ?_ _)); refine blk_far ?_ NB504_497.out _; (with_reducible repeat (first | refine blk_drewN ?_ _ | refine blk_drew ?_ | refine blk_alloc ?_ _)); refine blk_far ?_ NB504_497.out _; (with_reducible repeat (first | refine blk_drewN ?_ _ | refine blk_drew ?_ | refine blk_alloc ?_ _)); refine blk_far ?_ NB504_497.out _; (with_reducible repeat (first | refine blk_drewN ?_ _ | refine blk_drew ?_ | refine blk_alloc ?_ _)); refine blk_far ?_ NB504_497.out _; (with_reducible repeat (first | refine blk_drewN ?_ _ | refine blk_drew ?_ | refine blk_alloc ?_ _)); refine blk_far ?_ NB504_497.out _; (with_reducible repeat (first | refine blk_drewN ?_ _ | refine blk_drew ?_ | refine blk_alloc ?_ _)); exact BK504.out) hb); have n6_ := Aside0.mk (below_step (by repeat (first | (with_reducible first | exact HB.out | apply below_alloc | apply pw_below_drewN | apply below_drew1 | refine below_set ?_ GE477.out | refine below_set ?_ GE486.out | refine below_set ?_ GE497.out | refine below_set ?_ GE504.out) | exact HB.out)) hb); clear HO_31; clear HO_40; clear BK477; clear BK486; clear BK497; clear BK504; clear HB; have HO_31 := n0_; have HO_40 := n1_; have BK477 := n2_; have BK486 := n3_; have BK497 := n4_; have BK504 := n5_; have HB := n6_; clear n0_ n1_ n2_ n3_ n4_ n5_ n6_; (try clear hb); (try clear hb2); (try clear hk); (try clear hi); have hcz84_0 : w83.cell? ⟨gb504, 0, none⟩ = some (.int .i64 t512) := (blk_cell BK504.out 0).trans rfl; have hcz84_1 : w83.cell? ⟨gb504, 1, none⟩ = some (.int .i64 t513) := (blk_cell BK504.out 1).trans rfl; have hcz84_2 : w83.cell? ⟨gb504, 2, none⟩ = some (.int .i64 t514) := (blk_cell BK504.out 2).trans rfl; have hcz84_3 : w83.cell? ⟨gb504, 3, none⟩ = some (.bool t515) := (blk_cell BK504.out 3).trans rfl; have hcz84_4 : w83.cell? ⟨gb504, 4, none⟩ = some (.int .i64 t516) := (blk_cell BK504.out 4).trans rfl; have hfz84_0 := blk_frozen BK504.out 0; have hfz84_1 := blk_frozen BK504.out 1; have hfz84_2 := blk_frozen BK504.out 2; have hfz84_3 := blk_frozen BK504.out 3; have hfz84_4 := blk_frozen BK504.out 4; have hcz85_0 : w83.cell? ⟨gb497, 0, none⟩ = some (.int .i64 t519) := (blk_cell BK497.out 0).trans rfl; have hcz85_1 : w83.cell? ⟨gb497, 1, none⟩ = some (.int .i64 t520) := (blk_cell BK497.out 1).trans rfl; have hcz85_2 : w83.cell? ⟨gb497, 2, none⟩ = some (.int .i64 t521) := (blk_cell BK497.out 2).trans rfl; have hcz85_3 : w83.cell? ⟨gb497, 3, none⟩ = some (.bool t522) := (blk_cell BK497.out 3).trans rfl; have hcz85_4 : w83.cell? ⟨gb497, 4, none⟩ = some (.int .i64 t523) := (blk_cell BK497.out 4).trans rfl; have hfz85_0 := blk_frozen BK497.out 0; have hfz85_1 := blk_frozen BK497.out 1; have hfz85_2 := blk_frozen BK497.out 2; have hfz85_3 := blk_frozen BK497.out 3; have hfz85_4 := blk_frozen BK497.out 4) | ((with_reducible refine gate_callee (f := 13) rfl ?_); refine goesL_ (some 110) rfl rfl Try.func13 (by kernel_rfl) rfl #[.agg #[.int .i64 t519, .int .i64 t520, .int .i64 t521, .bool t522, .int .i64 t523], .bool t524, .agg #[.int .i64 t525, .int .i64 t526, .int .i64 t527, .bool t528, .int .i64 t529], .bool t530] rfl (by (try simp only [List.map_toArray, List.map_cons, List.map_nil]); first | done | rfl | (simp only [List.length_drop, List.length_take]; rfl)) ?_; (with_reducible refine (foolscaplaw9_same.calls t519 t520 t521 t522 t523 t524 t525 t526 t527 t528 t529 t530 true _ A41.out).mono ?_); rintro e w86 ⟨rfl, hb⟩; refine ⟨_, rfl, ?_⟩; have n0_ := Aside0.mk (Kd.R_below (by (with_reducible repeat (first | apply Kd.R_alloc | apply Kd.R_drewN | apply Kd.R_drew)); exact (Kd.R_mono (Kd.R_far (p := ⟨gb504, 4, none⟩) (Kd.R_far (p := ⟨gb504, 3, none⟩) (Kd.R_far (p := ⟨gb504, 2, none⟩) (Kd.R_far (p := ⟨gb504, 1, none⟩) (Kd.R_far (p := ⟨gb504, 0, none⟩) (Kd.R_types HO_31.out BK504.out (by decide)) (fun _ hk => hk.2) (.int .i64 t525)) (fun _ hk => hk.2) (.int .i64 t526)) (fun _ hk => hk.2) (.int .i64 t527)) (fun _ hk => hk.2) (.bool t528)) (fun _ hk => hk.2) (.int .i64 t529)) (fun _ h_ => h_.1))) hb); have n1_ := Aside0.mk (Kd.R_below (by (with_reducible repeat (first | apply Kd.R_alloc | apply Kd.R_drewN | apply Kd.R_drew)); exact (Kd.R_mono (Kd.R_far (p := ⟨gb504, 4, none⟩) (Kd.R_far (p := ⟨gb504, 3, none⟩) (Kd.R_far (p := ⟨gb504, 2, none⟩) (Kd.R_far (p := ⟨gb504, 1, none⟩) (Kd.R_far (p := ⟨gb504, 0, none⟩) (Kd.R_types HO_40.out BK504.out (by decide)) (fun _ hk => hk.2) (.int .i64 t525)) (fun _ hk => hk.2) (.int .i64 t526)) (fun _ hk => hk.2) (.int .i64 t527)) (fun _ hk => hk.2) (.bool t528)) (fun _ hk => hk.2) (.int .i64 t529)) (fun _ h_ => h_.1))) hb); have n2_ := Aside0.mk (blk_below (g := gb477) (o := .cells #[.int .i64 a1_0, .int .i64 a1_1] 24 (0, 0)) (by (with_reducible repeat (first | refine blk_drewN ?_ _ | refine blk_drew ?_ | refine blk_alloc ?_ _)); refine blk_far ?_ NB477_504.out _; (with_reducible repeat (first | refine blk_drewN ?_ _ | refine blk_drew ?_ | refine blk_alloc ?_ _)); refine blk_far ?_ NB477_504.out _; (with_reducible repeat (first | refine blk_drewN ?_ _ | refine blk_drew ?_ | refine blk_alloc ?_ _)); refine blk_far ?_ NB477_504.out _; (with_reducible repeat (first | refine blk_drewN ?_ _ | refine blk_drew ?_ | refine blk_alloc ?_ _)); refine blk_far ?_ NB477_504.out _; (with_reducible repeat (first | refine blk_drewN ?_ _ | refine blk_drew ?_ | refine blk_alloc ?_ _)); refine blk_far ?_ NB477_504.out _; (with_reducible repeat (first | refine blk_drewN ?_ _ | refine blk_drew ?_ | refine blk_alloc ?_ _)); exact BK477.out) hb); have n3_ := Aside0.mk (blk_below (g := gb486) (o := .cells #[.int .i64 ((rd_T24 y482 x33_1).f0), .int .i64 ((rd_T24 y482 x33_1).f1)] 24 (0, 0)) (by (with_reducible repeat (first | refine blk_drewN ?_ _ | refine blk_drew ?_ | refine blk_alloc ?_ _)); refine blk_far ?_ NB486_504.out _; (with_reducible repeat (first | refine blk_drewN ?_ _ | refine blk_drew ?_ | refine blk_alloc ?_ _)); refine blk_far ?_ NB486_504.out _; (with_reducible repeat (first | refine blk_drewN ?_ _ | refine blk_drew ?_ | refine blk_alloc ?_ _)); refine blk_far ?_ NB486_504.out _; (with_reducible repeat (first | refine blk_drewN ?_ _ | refine blk_drew ?_ | refine blk_alloc ?_ _)); refine blk_far ?_ NB486_504.out _; (with_reducible repeat (first | refine blk_drewN ?_ _ | refine blk_drew ?_ | refine blk_alloc ?_ _)); refine blk_far ?_ NB486_504.out _; (with_reducible repeat (first | refine blk_drewN ?_ _ | refine blk_drew ?_ | refine blk_alloc ?_ _)); exact BK486.out) hb); have n4_ := Aside0.mk (blk_below (g := gb497) (o := .cells #[.int .i64 t519, .int .i64 t520, .int .i64 t521, .bool t522, .int .i64 t523] 33 (0, 0)) (by (with_reducible repeat (first | refine blk_drewN ?_ _ | refine blk_drew ?_ | refine blk_alloc ?_ _)); refine blk_far ?_ NB497_504.out _; (with_reducible repeat (first | refine blk_drewN ?_ _ | refine blk_drew ?_ | refine blk_alloc ?_ _)); refine blk_far ?_ NB497_504.out _; (with_reducible repeat (first | refine blk_drewN ?_ _ | refine blk_drew ?_ | refine blk_alloc ?_ _)); refine blk_far ?_ NB497_504.out _; (with_reducible repeat (first | refine blk_drewN ?_ _ | refine blk_drew ?_ | refine blk_alloc ?_ _)); refine blk_far ?_ NB497_504.out _; (with_reducible repeat (first | refine blk_drewN ?_ _ | refine blk_drew ?_ | refine blk_alloc ?_ _)); refine blk_far ?_ NB497_504.out _; (with_reducible repeat (first | refine blk_drewN ?_ _ | refine blk_drew ?_ | refine blk_alloc ?_ _)); exact BK497.out) hb); have n5_ := Aside0.mk (blk_below (g := gb504) (o := .cells #[.int .i64 t525, .int .i64 t526, .int .i64 t527, .bool t528, .int .i64 t529] 33 (0, 0)) (by (with_reducible repeat (first | refine blk_drewN ?_ _ | refine blk_drew ?_ | refine blk_alloc ?_ _)); refine blk_put (cs := #[.int .i64 t525, .int .i64 t526, .int .i64 t527, .bool t528, .int .i64 t516]) ?_ 4 _ rfl; (with_reducible repeat (first | refine blk_drewN ?_ _ | refine blk_drew ?_ | refine blk_alloc ?_ _)); refine blk_put (cs := #[.int .i64 t525, .int .i64 t526, .int .i64 t527, .bool t515, .int .i64 t516]) ?_ 3 _ rfl; (with_reducible repeat (first | refine blk_drewN ?_ _ | refine blk_drew ?_ | refine blk_alloc ?_ _)); refine blk_put (cs := #[.int .i64 t525, .int .i64 t526, .int .i64 t514, .bool t515, .int .i64 t516]) ?_ 2 _ rfl; (with_reducible repeat (first | refine blk_drewN ?_ _ | refine blk_drew ?_ | refine blk_alloc ?_ _)); refine blk_put (cs := #[.int .i64 t525, .int .i64 t513, .int .i64 t514, .bool t515, .int .i64 t516]) ?_ 1 _ rfl; (with_reducible repeat (first | refine blk_drewN ?_ _ | refine blk_drew ?_ | refine blk_alloc ?_ _)); refine blk_put (cs := #[.int .i64 t512, .int .i64 t513, .int .i64 t514, .bool t515, .int .i64 t516]) ?_ 0 _ rfl; (with_reducible repeat (first | refine blk_drewN ?_ _ | refine blk_drew ?_ | refine blk_alloc ?_ _)); exact BK504.out) hb); have n6_ := Aside0.mk (below_step (by repeat (first | (with_reducible first | exact HB.out | apply below_alloc | apply pw_below_drewN | apply below_drew1 | refine below_set ?_ GE477.out | refine below_set ?_ GE486.out | refine below_set ?_ GE497.out | refine below_set ?_ GE504.out) | exact HB.out)) hb); clear HO_31; clear HO_40; clear BK477; clear BK486; clear BK497; clear BK504; clear HB; have HO_31 := n0_; have HO_40 := n1_; have BK477 := n2_; have BK486 := n3_; have BK497 := n4_; have BK504 := n5_; have HB := n6_; clear n0_ n1_ n2_ n3_ n4_ n5_ n6_; (try clear hb); (try clear hb2); (try clear hk); (try clear hi); have hcz87_0 : w86.cell? ⟨gb486, 0, none⟩ = some (.int .i64 ((rd_T24 y482 x33_1).f0)) := (blk_cell BK486.out 0).trans rfl; have hcz87_1 : w86.cell? ⟨gb486, 1, none⟩ = some (.int .i64 ((rd_T24 y482 x33_1).f1)) := (blk_cell BK486.out 1).trans rfl; have hfz87_0 := blk_frozen BK486.out 0; have hfz87_1 := blk_frozen BK486.out 1) | ((with_reducible refine gate_callee (f := 21) rfl ?_); refine goesL_ (some 116) rfl rfl Try.func21 (by kernel_rfl) rfl #[.slice A0 l0.length c0, .agg #[.int .i64 ((rd_T24 y482 x33_1).f0), .int .i64 ((rd_T24 y482 x33_1).f1)], .int .i64 (rd y487 x42_2)] rfl (by (try simp only [List.map_toArray, List.map_cons, List.map_nil]); first | done | rfl | (simp only [List.length_drop, List.length_take]; rfl)) ?_; (with_reducible refine (vert_Minus.calls k2 _ _ l0 ((rd_T24 y482 x33_1).f0) ((rd_T24 y482 x33_1).f1) (rd y487 x42_2) t532 t533 t534 t535 t536 t537 _ ?side1 ?side2 A43.out).mono ?_); (case side1 => repeat (first | exact (Kd.C_below HR0.out HB.out) | (with_reducible refine Kd.C_alloc ?_ _) | (with_reducible refine Kd.C_drewN ?_ _) | (with_reducible refine Kd.C_drew ?_))); (case side2 => exact HC0.out); rintro e w88 ⟨rfl, hb⟩; refine ⟨_, rfl, ?_⟩; have n0_ := Aside0.mk (Kd.R_below (by (with_reducible repeat (first | apply Kd.R_alloc | apply Kd.R_drewN | apply Kd.R_drew)); exact HO_31.out) hb); have n1_ := Aside0.mk (Kd.R_below (by (with_reducible repeat (first | apply Kd.R_alloc | apply Kd.R_drewN | apply Kd.R_drew)); exact HO_40.out) hb); have n2_ := Aside0.mk (blk_below (g := gb477) (o := .cells #[.int .i64 a1_0, .int .i64 a1_1] 24 (0, 0)) (by (with_reducible repeat (first | refine blk_drewN ?_ _ | refine blk_drew ?_ | refine blk_alloc ?_ _)); exact BK477.out) hb); have n3_ := Aside0.mk (blk_below (g := gb486) (o := .cells #[.int .i64 ((rd_T24 y482 x33_1).f0), .int .i64 ((rd_T24 y482 x33_1).f1)] 24 (0, 0)) (by (with_reducible repeat (first | refine blk_drewN ?_ _ | refine blk_drew ?_ | refine blk_alloc ?_ _)); exact BK486.out) hb); have n4_ := Aside0.mk (blk_below (g := gb497) (o := .cells #[.int .i64 t519, .int .i64 t520, .int .i64 t521, .bool t522, .int .i64 t523] 33 (0, 0)) (by (with_reducible repeat (first | refine blk_drewN ?_ _ | refine blk_drew ?_ | refine blk_alloc ?_ _)); exact BK497.out) hb); have n5_ := Aside0.mk (blk_below (g := gb504) (o := .cells #[.int .i64 t525, .int .i64 t526, .int .i64 t527, .bool t528, .int .i64 t529] 33 (0, 0)) (by (with_reducible repeat (first | refine blk_drewN ?_ _ | refine blk_drew ?_ | refine blk_alloc ?_ _)); exact BK504.out) hb); have n6_ := Aside0.mk (below_step (by repeat (first | (with_reducible first | exact HB.out | apply below_alloc | apply pw_below_drewN | apply below_drew1 | refine below_set ?_ GE477.out | refine below_set ?_ GE486.out | refine below_set ?_ GE497.out | refine below_set ?_ GE504.out) | exact HB.out)) hb); clear HO_31; clear HO_40; clear BK477; clear BK486; clear BK497; clear BK504; clear HB; have HO_31 := n0_; have HO_40 := n1_; have BK477 := n2_; have BK486 := n3_; have BK497 := n4_; have BK504 := n5_; have HB := n6_; clear n0_ n1_ n2_ n3_ n4_ n5_ n6_; (try clear hb); (try clear hb2); (try clear hk); (try clear hi); have hcz89_0 : w88.cell? ⟨gb497, 0, none⟩ = some (.int .i64 t519) := (blk_cell BK497.out 0).trans rfl; have hcz89_1 : w88.cell? ⟨gb497, 1, none⟩ = some (.int .i64 t520) := (blk_cell BK497.out 1).trans rfl; have hcz89_2 : w88.cell? ⟨gb497, 2, none⟩ = some (.int .i64 t521) := (blk_cell BK497.out 2).trans rfl; have hcz89_3 : w88.cell? ⟨gb497, 3, none⟩ = some (.bool t522) := (blk_cell BK497.out 3).trans rfl; have hcz89_4 : w88.cell? ⟨gb497, 4, none⟩ = some (.int .i64 t523) := (blk_cell BK497.out 4).trans rfl; have hfz89_0 := blk_frozen BK497.out 0; have hfz89_1 := blk_frozen BK497.out 1; have hfz89_2 := blk_frozen BK497.out 2; have hfz89_3 := blk_frozen BK497.out 3; have hfz89_4 := blk_frozen BK497.out 4; have hcz90_0 : w88.cell? ⟨gb486, 0, none⟩ = some (.int .i64 ((rd_T24 y482 x33_1).f0)) := (blk_cell BK486.out 0).trans rfl; have hcz90_1 : w88.cell? ⟨gb486, 1, none⟩ = some (.int .i64 ((rd_T24 y482 x33_1).f1)) := (blk_cell BK486.out 1).trans rfl; have hfz90_0 := blk_frozen BK486.out 0; have hfz90_1 := blk_frozen BK486.out 1) | ((with_reducible refine gate_callee (f := 22) rfl ?_); refine goesL_ (some 123) rfl rfl Try.func22 (by kernel_rfl) rfl #[.slice A0 l0.length c0, .agg #[.int .i64 ((rd_T24 y482 x33_1).f0), .int .i64 ((rd_T24 y482 x33_1).f1)], .int .i64 (rd y487 x42_2)] rfl (by (try simp only [List.map_toArray, List.map_cons, List.map_nil]); first | done | rfl | (simp only [List.length_drop, List.length_take]; rfl)) ?_; (with_reducible refine (foolscapref5_Minus.calls k2 _ _ l0 ((rd_T24 y482 x33_1).f0) ((rd_T24 y482 x33_1).f1) (rd y487 x42_2) t538 t539 t540 t541 t542 t543 _ ?side1 ?side2 A44.out).mono ?_); (case side1 => exact Kd.C_below HR0.out (by repeat (first | (with_reducible first | exact HB.out | apply below_alloc | apply pw_below_drewN | apply below_drew1 | refine below_set ?_ GE477.out | refine below_set ?_ GE486.out | refine below_set ?_ GE497.out | refine below_set ?_ GE504.out) | exact HB.out))); (case side2 => exact HC0.out); rintro e w91 ⟨rfl, hb⟩; refine ⟨_, rfl, ?_⟩; have n0_ := Aside0.mk (Kd.R_below (by (with_reducible repeat (first | apply Kd.R_alloc | apply Kd.R_drewN | apply Kd.R_drew)); exact (Kd.R_mono (Kd.R_far (p := ⟨gb497, 4, none⟩) (Kd.R_far (p := ⟨gb497, 3, none⟩) (Kd.R_far (p := ⟨gb497, 2, none⟩) (Kd.R_far (p := ⟨gb497, 1, none⟩) (Kd.R_far (p := ⟨gb497, 0, none⟩) (Kd.R_types HO_31.out BK497.out (by decide)) (fun _ hk => hk.2) (.int .i64 t532)) (fun _ hk => hk.2) (.int .i64 t533)) (fun _ hk => hk.2) (.int .i64 t534)) (fun _ hk => hk.2) (.bool t535)) (fun _ hk => hk.2) (.int .i64 t536)) (fun _ h_ => h_.1))) hb); have n1_ := Aside0.mk (Kd.R_below (by (with_reducible repeat (first | apply Kd.R_alloc | apply Kd.R_drewN | apply Kd.R_drew)); exact (Kd.R_mono (Kd.R_far (p := ⟨gb497, 4, none⟩) (Kd.R_far (p := ⟨gb497, 3, none⟩) (Kd.R_far (p := ⟨gb497, 2, none⟩) (Kd.R_far (p := ⟨gb497, 1, none⟩) (Kd.R_far (p := ⟨gb497, 0, none⟩) (Kd.R_types HO_40.out BK497.out (by decide)) (fun _ hk => hk.2) (.int .i64 t532)) (fun _ hk => hk.2) (.int .i64 t533)) (fun _ hk => hk.2) (.int .i64 t534)) (fun _ hk => hk.2) (.bool t535)) (fun _ hk => hk.2) (.int .i64 t536)) (fun _ h_ => h_.1))) hb); have n2_ := Aside0.mk (blk_below (g := gb477) (o := .cells #[.int .i64 a1_0, .int .i64 a1_1] 24 (0, 0)) (by (with_reducible repeat (first | refine blk_drewN ?_ _ | refine blk_drew ?_ | refine blk_alloc ?_ _)); refine blk_far ?_ NB477_497.out _; (with_reducible repeat (first | refine blk_drewN ?_ _ | refine blk_drew ?_ | refine blk_alloc ?_ _)); refine blk_far ?_ NB477_497.out _; (with_reducible repeat (first | refine blk_drewN ?_ _ | refine blk_drew ?_ | refine blk_alloc ?_ _)); refine blk_far ?_ NB477_497.out _; (with_reducible repeat (first | refine blk_drewN ?_ _ | refine blk_drew ?_ | refine blk_alloc ?_ _)); refine blk_far ?_ NB477_497.out _; (with_reducible repeat (first | refine blk_drewN ?_ _ | refine blk_drew ?_ | refine blk_alloc ?_ _)); refine blk_far ?_ NB477_497.out _; (with_reducible repeat (first | refine blk_drewN ?_ _ | refine blk_drew ?_ | refine blk_alloc ?_ _)); exact BK477.out) hb); have n3_ := Aside0.mk (blk_below (g := gb486) (o := .cells #[.int .i64 ((rd_T24 y482 x33_1).f0), .int .i64 ((rd_T24 y482 x33_1).f1)] 24 (0, 0)) (by (with_reducible repeat (first | refine blk_drewN ?_ _ | refine blk_drew ?_ | refine blk_alloc ?_ _)); refine blk_far ?_ NB486_497.out _; (with_reducible repeat (first | refine blk_drewN ?_ _ | refine blk_drew ?_ | refine blk_alloc ?_ _)); refine blk_far ?_ NB486_497.out _; (with_reducible repeat (first | refine blk_drewN ?_ _ | refine blk_drew ?_ | refine blk_alloc ?_ _)); refine blk_far ?_ NB486_497.out _; (with_reducible repeat (first | refine blk_drewN ?_ _ | refine blk_drew ?_ | refine blk_alloc ?_ _)); refine blk_far ?_ NB486_497.out _; (with_reducible repeat (first | refine blk_drewN ?_ _ | refine blk_drew ?_ | refine blk_alloc ?_ _)); refine blk_far ?_ NB486_497.out _; (with_reducible repeat (first | refine blk_drewN ?_ _ | refine blk_drew ?_ | refine blk_alloc ?_ _)); exact BK486.out) hb); have n4_ := Aside0.mk (blk_below (g := gb497) (o := .cells #[.int .i64 t532, .int .i64 t533, .int .i64 t534, .bool t535, .int .i64 t536] 33 (0, 0)) (by (with_reducible repeat (first | refine blk_drewN ?_ _ | refine blk_drew ?_ | refine blk_alloc ?_ _)); refine blk_put (cs := #[.int .i64 t532, .int .i64 t533, .int .i64 t534, .bool t535, .int .i64 t523]) ?_ 4 _ rfl; (with_reducible repeat (first | refine blk_drewN ?_ _ | refine blk_drew ?_ | refine blk_alloc ?_ _)); refine blk_put (cs := #[.int .i64 t532, .int .i64 t533, .int .i64 t534, .bool t522, .int .i64 t523]) ?_ 3 _ rfl; (with_reducible repeat (first | refine blk_drewN ?_ _ | refine blk_drew ?_ | refine blk_alloc ?_ _)); refine blk_put (cs := #[.int .i64 t532, .int .i64 t533, .int .i64 t521, .bool t522, .int .i64 t523]) ?_ 2 _ rfl; (with_reducible repeat (first | refine blk_drewN ?_ _ | refine blk_drew ?_ | refine blk_alloc ?_ _)); refine blk_put (cs := #[.int .i64 t532, .int .i64 t520, .int .i64 t521, .bool t522, .int .i64 t523]) ?_ 1 _ rfl; (with_reducible repeat (first | refine blk_drewN ?_ _ | refine blk_drew ?_ | refine blk_alloc ?_ _)); refine blk_put (cs := #[.int .i64 t519, .int .i64 t520, .int .i64 t521, .bool t522, .int .i64 t523]) ?_ 0 _ rfl; (with_reducible repeat (first | refine blk_drewN ?_ _ | refine blk_drew ?_ | refine blk_alloc ?_ _)); exact BK497.out) hb); have n5_ := Aside0.mk (blk_below (g := gb504) (o := .cells #[.int .i64 t525, .int .i64 t526, .int .i64 t527, .bool t528, .int .i64 t529] 33 (0, 0)) (by (with_reducible repeat (first | refine blk_drewN ?_ _ | refine blk_drew ?_ | refine blk_alloc ?_ _)); refine blk_far ?_ NB504_497.out _; (with_reducible repeat (first | refine blk_drewN ?_ _ | refine blk_drew ?_ | refine blk_alloc ?_ _)); refine blk_far ?_ NB504_497.out _; (with_reducible repeat (first | refine blk_drewN ?_ _ | refine blk_drew ?_ | refine blk_alloc ?_ _)); refine blk_far ?_ NB504_497.out _; (with_reducible repeat (first | refine blk_drewN ?_ _ | refine blk_drew ?_ | refine blk_alloc ?_ _)); refine blk_far ?_ NB504_497.out _; (with_reducible repeat (first | refine blk_drewN ?_ _ | refine blk_drew ?_ | refine blk_alloc ?_ _)); refine blk_far ?_ NB504_497.out _; (with_reducible repeat (first | refine blk_drewN ?_ _ | refine blk_drew ?_ | refine blk_alloc ?_ _)); exact BK504.out) hb); have n6_ := Aside0.mk (below_step (by repeat (first | (with_reducible first | exact HB.out | apply below_alloc | apply pw_below_drewN | apply below_drew1 | refine below_set ?_ GE477.out | refine below_set ?_ GE486.out | refine below_set ?_ GE497.out | refine below_set ?_ GE504.out) | exact HB.out)) hb); clear HO_31; clear HO_40; clear BK477; clear BK486; clear BK497; clear BK504; clear HB; have HO_31 := n0_; have HO_40 := n1_; have BK477 := n2_; have BK486 := n3_; have BK497 := n4_; have BK504 := n5_; have HB := n6_; clear n0_ n1_ n2_ n3_ n4_ n5_ n6_; (try clear hb); (try clear hb2); (try clear hk); (try clear hi); have hcz92_0 : w91.cell? ⟨gb504, 0, none⟩ = some (.int .i64 t525) := (blk_cell BK504.out 0).trans rfl; have hcz92_1 : w91.cell? ⟨gb504, 1, none⟩ = some (.int .i64 t526) := (blk_cell BK504.out 1).trans rfl; have hcz92_2 : w91.cell? ⟨gb504, 2, none⟩ = some (.int .i64 t527) := (blk_cell BK504.out 2).trans rfl; have hcz92_3 : w91.cell? ⟨gb504, 3, none⟩ = some (.bool t528) := (blk_cell BK504.out 3).trans rfl; have hcz92_4 : w91.cell? ⟨gb504, 4, none⟩ = some (.int .i64 t529) := (blk_cell BK504.out 4).trans rfl; have hfz92_0 := blk_frozen BK504.out 0; have hfz92_1 := blk_frozen BK504.out 1; have hfz92_2 := blk_frozen BK504.out 2; have hfz92_3 := blk_frozen BK504.out 3; have hfz92_4 := blk_frozen BK504.out 4; have hcz93_0 : w91.cell? ⟨gb497, 0, none⟩ = some (.int .i64 t532) := (blk_cell BK497.out 0).trans rfl; have hcz93_1 : w91.cell? ⟨gb497, 1, none⟩ = some (.int .i64 t533) := (blk_cell BK497.out 1).trans rfl; have hcz93_2 : w91.cell? ⟨gb497, 2, none⟩ = some (.int .i64 t534) := (blk_cell BK497.out 2).trans rfl; have hcz93_3 : w91.cell? ⟨gb497, 3, none⟩ = some (.bool t535) := (blk_cell BK497.out 3).trans rfl; have hcz93_4 : w91.cell? ⟨gb497, 4, none⟩ = some (.int .i64 t536) := (blk_cell BK497.out 4).trans rfl; have hfz93_0 := blk_frozen BK497.out 0; have hfz93_1 := blk_frozen BK497.out 1; have hfz93_2 := blk_frozen BK497.out 2; have hfz93_3 := blk_frozen BK497.out 3; have hfz93_4 := blk_frozen BK497.out 4) | ((with_reducible refine gate_callee (f := 13) rfl ?_); refine goesL_ (some 130) rfl rfl Try.func13 (by kernel_rfl) rfl #[.agg #[.int .i64 t532, .int .i64 t533, .int .i64 t534, .bool t535, .int .i64 t536], .bool t537, .agg #[.int .i64 t538, .int .i64 t539, .int .i64 t540, .bool t541, .int .i64 t542], .bool t543] rfl (by (try simp only [List.map_toArray, List.map_cons, List.map_nil]); first | done | rfl | (simp only [List.length_drop, List.length_take]; rfl)) ?_; (with_reducible refine (foolscaplaw9_same.calls t532 t533 t534 t535 t536 t537 t538 t539 t540 t541 t542 t543 true _ A45.out).mono ?_); rintro e w94 ⟨rfl, hb⟩; refine ⟨_, rfl, ?_⟩; have n0_ := Aside0.mk (Kd.R_below (by (with_reducible repeat (first | apply Kd.R_alloc | apply Kd.R_drewN | apply Kd.R_drew)); exact (Kd.R_mono (Kd.R_far (p := ⟨gb504, 4, none⟩) (Kd.R_far (p := ⟨gb504, 3, none⟩) (Kd.R_far (p := ⟨gb504, 2, none⟩) (Kd.R_far (p := ⟨gb504, 1, none⟩) (Kd.R_far (p := ⟨gb504, 0, none⟩) (Kd.R_types HO_31.out BK504.out (by decide)) (fun _ hk => hk.2) (.int .i64 t538)) (fun _ hk => hk.2) (.int .i64 t539)) (fun _ hk => hk.2) (.int .i64 t540)) (fun _ hk => hk.2) (.bool t541)) (fun _ hk => hk.2) (.int .i64 t542)) (fun _ h_ => h_.1))) hb); have n1_ := Aside0.mk (Kd.R_below (by (with_reducible repeat (first | apply Kd.R_alloc | apply Kd.R_drewN | apply Kd.R_drew)); exact (Kd.R_mono (Kd.R_far (p := ⟨gb504, 4, none⟩) (Kd.R_far (p := ⟨gb504, 3, none⟩) (Kd.R_far (p := ⟨gb504, 2, none⟩) (Kd.R_far (p := ⟨gb504, 1, none⟩) (Kd.R_far (p := ⟨gb504, 0, none⟩) (Kd.R_types HO_40.out BK504.out (by decide)) (fun _ hk => hk.2) (.int .i64 t538)) (fun _ hk => hk.2) (.int .i64 t539)) (fun _ hk => hk.2) (.int .i64 t540)) (fun _ hk => hk.2) (.bool t541)) (fun _ hk => hk.2) (.int .i64 t542)) (fun _ h_ => h_.1))) hb); have n2_ := Aside0.mk (blk_below (g := gb477) (o := .cells #[.int .i64 a1_0, .int .i64 a1_1] 24 (0, 0)) (by (with_reducible repeat (first | refine blk_drewN ?_ _ | refine blk_drew ?_ | refine blk_alloc ?_ _)); refine blk_far ?_ NB477_504.out _; (with_reducible repeat (first | refine blk_drewN ?_ _ | refine blk_drew ?_ | refine blk_alloc ?_ _)); refine blk_far ?_ NB477_504.out _; (with_reducible repeat (first | refine blk_drewN ?_ _ | refine blk_drew ?_ | refine blk_alloc ?_ _)); refine blk_far ?_ NB477_504.out _; (with_reducible repeat (first | refine blk_drewN ?_ _ | refine blk_drew ?_ | refine blk_alloc ?_ _)); refine blk_far ?_ NB477_504.out _; (with_reducible repeat (first | refine blk_drewN ?_ _ | refine blk_drew ?_ | refine blk_alloc ?_ _)); refine blk_far ?_ NB477_504.out _; (with_reducible repeat (first | refine blk_drewN ?_ _ | refine blk_drew ?_ | refine blk_alloc ?_ _)); exact BK477.out) hb); have n3_ := Aside0.mk (blk_below (g := gb486) (o := .cells #[.int .i64 ((rd_T24 y482 x33_1).f0), .int .i64 ((rd_T24 y482 x33_1).f1)] 24 (0, 0)) (by (with_reducible repeat (first | refine blk_drewN ?_ _ | refine blk_drew ?_ | refine blk_alloc ?_ _)); refine blk_far ?_ NB486_504.out _; (with_reducible repeat (first | refine blk_drewN ?_ _ | refine blk_drew ?_ | refine blk_alloc ?_ _)); refine blk_far ?_ NB486_504.out _; (with_reducible repeat (first | refine blk_drewN ?_ _ | refine blk_drew ?_ | refine blk_alloc ?_ _)); refine blk_far ?_ NB486_504.out _; (with_reducible repeat (first | refine blk_drewN ?_ _ | refine blk_drew ?_ | refine blk_alloc ?_ _)); refine blk_far ?_ NB486_504.out _; (with_reducible repeat (first | refine blk_drewN ?_ _ | refine blk_drew ?_ | refine blk_alloc ?_ _)); refine blk_far ?_ NB486_504.out _; (with_reducible repeat (first | refine blk_drewN ?_ _ | refine blk_drew ?_ | refine blk_alloc ?_ _)); exact BK486.out) hb); have n4_ := Aside0.mk (blk_below (g := gb497) (o := .cells #[.int .i64 t532, .int .i64 t533, .int .i64 t534, .bool t535, .int .i64 t536] 33 (0, 0)) (by (with_reducible repeat (first | refine blk_drewN ?_ _ | refine blk_drew ?_ | refine blk_alloc ?_ _)); refine blk_far ?_ NB497_504.out _; (with_reducible repeat (first | refine blk_drewN ?_ _ | refine blk_drew ?_ | refine blk_alloc ?_ _)); refine blk_far ?_ NB497_504.out _; (with_reducible repeat (first | refine blk_drewN ?_ _ | refine blk_drew ?_ | refine blk_alloc ?_ _)); refine blk_far ?_ NB497_504.out _; (with_reducible repeat (first | refine blk_drewN ?_ _ | refine blk_drew ?_ | refine blk_alloc ?_ _)); refine blk_far ?_ NB497_504.out _; (with_reducible repeat (first | refine blk_drewN ?_ _ | refine blk_drew ?_ | refine blk_alloc ?_ _)); refine blk_far ?_ NB497_504.out _; (with_reducible repeat (first | refine blk_drewN ?_ _ | refine blk_drew ?_ | refine blk_alloc ?_ _)); exact BK497.out) hb); have n5_ := Aside0.mk (blk_below (g := gb504) (o := .cells #[.int .i64 t538, .int .i64 t539, .int .i64 t540, .bool t541, .int .i64 t542] 33 (0, 0)) (by (with_reducible repeat (first | refine blk_drewN ?_ _ | refine blk_drew ?_ | refine blk_alloc ?_ _)); refine blk_put (cs := #[.int .i64 t538, .int .i64 t539, .int .i64 t540, .bool t541, .int .i64 t529]) ?_ 4 _ rfl; (with_reducible repeat (first | refine blk_drewN ?_ _ | refine blk_drew ?_ | refine blk_alloc ?_ _)); refine blk_put (cs := #[.int .i64 t538, .int .i64 t539, .int .i64 t540, .bool t528, .int .i64 t529]) ?_ 3 _ rfl; (with_reducible repeat (first | refine blk_drewN ?_ _ | refine blk_drew ?_ | refine blk_alloc ?_ _)); refine blk_put (cs := #[.int .i64 t538, .int .i64 t539, .int .i64 t527, .bool t528, .int .i64 t529]) ?_ 2 _ rfl; (with_reducible repeat (first | refine blk_drewN ?_ _ | refine blk_drew ?_ | refine blk_alloc ?_ _)); refine blk_put (cs := #[.int .i64 t538, .int .i64 t526, .int .i64 t527, .bool t528, .int .i64 t529]) ?_ 1 _ rfl; (with_reducible repeat (first | refine blk_drewN ?_ _ | refine blk_drew ?_ | refine blk_alloc ?_ _)); refine blk_put (cs := #[.int .i64 t525, .int .i64 t526, .int .i64 t527, .bool t528, .int .i64 t529]) ?_ 0 _ rfl; (with_reducible repeat (first | refine blk_drewN ?_ _ | refine blk_drew ?_ | refine blk_alloc ?_ _)); exact BK504.out) hb); have n6_ := Aside0.mk (below_step (by repeat (first | (with_reducible first | exact HB.out | apply below_alloc | apply pw_below_drewN | apply below_drew1 | refine below_set ?_ GE477.out | refine below_set ?_ GE486.out | refine below_set ?_ GE497.out | refine below_set ?_ GE504.out) | exact HB.out)) hb); clear HO_31; clear HO_40; clear BK477; clear BK486; clear BK497; clear BK504; clear HB; have HO_31 := n0_; have HO_40 := n1_; have BK477 := n2_; have BK486 := n3_; have BK497 := n4_; have BK504 := n5_; have HB := n6_; clear n0_ n1_ n2_ n3_ n4_ n5_ n6_; (try clear hb); (try clear hb2); (try clear hk); (try clear hi); have hcz95_0 : w94.cell? ⟨gb486, 0, none⟩ = some (.int .i64 ((rd_T24 y482 x33_1).f0)) := (blk_cell BK486.out 0).trans rfl; have hcz95_1 : w94.cell? ⟨gb486, 1, none⟩ = some (.int .i64 ((rd_T24 y482 x33_1).f1)) := (blk_cell BK486.out 1).trans rfl; have hfz95_0 := blk_frozen BK486.out 0; have hfz95_1 := blk_frozen BK486.out 1) | ((with_reducible refine gate_callee (f := 23) rfl ?_); refine goesL_ (some 136) rfl rfl Try.func23 (by kernel_rfl) rfl #[.slice A0 l0.length c0, .agg #[.int .i64 ((rd_T24 y482 x33_1).f0), .int .i64 ((rd_T24 y482 x33_1).f1)], .int .i64 (rd y487 x42_2)] rfl (by (try simp only [List.map_toArray, List.map_cons, List.map_nil]); first | done | rfl | (simp only [List.length_drop, List.length_take]; rfl)) ?_; (with_reducible refine (vert_Under.calls k2 _ _ l0 ((rd_T24 y482 x33_1).f0) ((rd_T24 y482 x33_1).f1) (rd y487 x42_2) t545 t546 t547 t548 t549 t550 _ ?side1 ?side2 A47.out).mono ?_); (case side1 => repeat (first | exact (Kd.C_below HR0.out HB.out) | (with_reducible refine Kd.C_alloc ?_ _) | (with_reducible refine Kd.C_drewN ?_ _) | (with_reducible refine Kd.C_drew ?_))); (case side2 => exact HC0.out); rintro e w96 ⟨rfl, hb⟩; refine ⟨_, rfl, ?_⟩; have n0_ := Aside0.mk (Kd.R_below (by (with_reducible repeat (first | apply Kd.R_alloc | apply Kd.R_drewN | apply Kd.R_drew)); exact HO_31.out) hb); have n1_ := Aside0.mk (Kd.R_below (by (with_reducible repeat (first | apply Kd.R_alloc | apply Kd.R_drewN | apply Kd.R_drew)); exact HO_40.out) hb); have n2_ := Aside0.mk (blk_below (g := gb477) (o := .cells #[.int .i64 a1_0, .int .i64 a1_1] 24 (0, 0)) (by (with_reducible repeat (first | refine blk_drewN ?_ _ | refine blk_drew ?_ | refine blk_alloc ?_ _)); exact BK477.out) hb); have n3_ := Aside0.mk (blk_below (g := gb486) (o := .cells #[.int .i64 ((rd_T24 y482 x33_1).f0), .int .i64 ((rd_T24 y482 x33_1).f1)] 24 (0, 0)) (by (with_reducible repeat (first | refine blk_drewN ?_ _ | refine blk_drew ?_ | refine blk_alloc ?_ _)); exact BK486.out) hb); have n4_ := Aside0.mk (blk_below (g := gb497) (o := .cells #[.int .i64 t532, .int .i64 t533, .int .i64 t534, .bool t535, .int .i64 t536] 33 (0, 0)) (by (with_reducible repeat (first | refine blk_drewN ?_ _ | refine blk_drew ?_ | refine blk_alloc ?_ _)); exact BK497.out) hb); have n5_ := Aside0.mk (blk_below (g := gb504) (o := .cells #[.int .i64 t538, .int .i64 t539, .int .i64 t540, .bool t541, .int .i64 t542] 33 (0, 0)) (by (with_reducible repeat (first | refine blk_drewN ?_ _ | refine blk_drew ?_ | refine blk_alloc ?_ _)); exact BK504.out) hb); have n6_ := Aside0.mk (below_step (by repeat (first | (with_reducible first | exact HB.out | apply below_alloc | apply pw_below_drewN | apply below_drew1 | refine below_set ?_ GE477.out | refine below_set ?_ GE486.out | refine below_set ?_ GE497.out | refine below_set ?_ GE504.out) | exact HB.out)) hb); clear HO_31; clear HO_40; clear BK477; clear BK486; clear BK497; clear BK504; clear HB; have HO_31 := n0_; have HO_40 := n1_; have BK477 := n2_; have BK486 := n3_; have BK497 := n4_; have BK504 := n5_; have HB := n6_; clear n0_ n1_ n2_ n3_ n4_ n5_ n6_; (try clear hb); (try clear hb2); (try clear hk); (try clear hi); have hcz97_0 : w96.cell? ⟨gb497, 0, none⟩ = some (.int .i64 t532) := (blk_cell BK497.out 0).trans rfl; have hcz97_1 : w96.cell? ⟨gb497, 1, none⟩ = some (.int .i64 t533) := (blk_cell BK497.out 1).trans rfl; have hcz97_2 : w96.cell? ⟨gb497, 2, none⟩ = some (.int .i64 t534) := (blk_cell BK497.out 2).trans rfl; have hcz97_3 : w96.cell? ⟨gb497, 3, none⟩ = some (.bool t535) := (blk_cell BK497.out 3).trans rfl; have hcz97_4 : w96.cell? ⟨gb497, 4, none⟩ = some (.int .i64 t536) := (blk_cell BK497.out 4).trans rfl; have hfz97_0 := blk_frozen BK497.out 0; have hfz97_1 := blk_frozen BK497.out 1; have hfz97_2 := blk_frozen BK497.out 2; have hfz97_3 := blk_frozen BK497.out 3; have hfz97_4 := blk_frozen BK497.out 4; have hcz98_0 : w96.cell? ⟨gb486, 0, none⟩ = some (.int .i64 ((rd_T24 y482 x33_1).f0)) := (blk_cell BK486.out 0).trans rfl; have hcz98_1 : w96.cell? ⟨gb486, 1, none⟩ = some (.int .i64 ((rd_T24 y482 x33_1).f1)) := (blk_cell BK486.out 1).trans rfl; have hfz98_0 := blk_frozen BK486.out 0; have hfz98_1 := blk_frozen BK486.out 1) | ((with_reducible refine gate_callee (f := 24) rfl ?_); refine goesL_ (some 143) rfl rfl Try.func24 (by kernel_rfl) rfl #[.slice A0 l0.length c0, .agg #[.int .i64 ((rd_T24 y482 x33_1).f0), .int .i64 ((rd_T24 y482 x33_1).f1)], .int .i64 (rd y487 x42_2)] rfl (by (try simp only [List.map_toArray, List.map_cons, List.map_nil]); first | done | rfl | (simp only [List.length_drop, List.length_take]; rfl)) ?_; (with_reducible refine (foolscapref5_Under.calls k2 _ _ l0 ((rd_T24 y482 x33_1).f0) ((rd_T24 y482 x33_1).f1) (rd y487 x42_2) t551 t552 t553 t554 t555 t556 _ ?side1 ?side2 A48.out).mono ?_); (case side1 => exact Kd.C_below HR0.out (by repeat (first | (with_reducible first | exact HB.out | apply below_alloc | apply pw_below_drewN | apply below_drew1 | refine below_set ?_ GE477.out | refine below_set ?_ GE486.out | refine below_set ?_ GE497.out | refine below_set ?_ GE504.out) | exact HB.out))); (case side2 => exact HC0.out); rintro e w99 ⟨rfl, hb⟩; refine ⟨_, rfl, ?_⟩; have n0_ := Aside0.mk (Kd.R_below (by (with_reducible repeat (first | apply Kd.R_alloc | apply Kd.R_drewN | apply Kd.R_drew)); exact (Kd.R_mono (Kd.R_far (p := ⟨gb497, 4, none⟩) (Kd.R_far (p := ⟨gb497, 3, none⟩) (Kd.R_far (p := ⟨gb497, 2, none⟩) (Kd.R_far (p := ⟨gb497, 1, none⟩) (Kd.R_far (p := ⟨gb497, 0, none⟩) (Kd.R_types HO_31.out BK497.out (by decide)) (fun _ hk => hk.2) (.int .i64 t545)) (fun _ hk => hk.2) (.int .i64 t546)) (fun _ hk => hk.2) (.int .i64 t547)) (fun _ hk => hk.2) (.bool t548)) (fun _ hk => hk.2) (.int .i64 t549)) (fun _ h_ => h_.1))) hb); have n1_ := Aside0.mk (Kd.R_below (by (with_reducible repeat (first | apply Kd.R_alloc | apply Kd.R_drewN | apply Kd.R_drew)); exact (Kd.R_mono (Kd.R_far (p := ⟨gb497, 4, none⟩) (Kd.R_far (p := ⟨gb497, 3, none⟩) (Kd.R_far (p := ⟨gb497, 2, none⟩) (Kd.R_far (p := ⟨gb497, 1, none⟩) (Kd.R_far (p := ⟨gb497, 0, none⟩) (Kd.R_types HO_40.out BK497.out (by decide)) (fun _ hk => hk.2) (.int .i64 t545)) (fun _ hk => hk.2) (.int .i64 t546)) (fun _ hk => hk.2) (.int .i64 t547)) (fun _ hk => hk.2) (.bool t548)) (fun _ hk => hk.2) (.int .i64 t549)) (fun _ h_ => h_.1))) hb); have n2_ := Aside0.mk (blk_below (g := gb477) (o := .cells #[.int .i64 a1_0, .int .i64 a1_1] 24 (0, 0)) (by (with_reducible repeat (first | refine blk_drewN ?_ _ | refine blk_drew ?_ | refine blk_alloc ?_ _)); refine blk_far ?_ NB477_497.out _; (with_reducible repeat (first | refine blk_drewN ?_ _ | refine blk_drew ?_ | refine blk_alloc ?_ _)); refine blk_far ?_ NB477_497.out _; (with_reducible repeat (first | refine blk_drewN ?_ _ | refine blk_drew ?_ | refine blk_alloc ?_ _)); refine blk_far ?_ NB477_497.out _; (with_reducible repeat (first | refine blk_drewN ?_ _ | refine blk_drew ?_ | refine blk_alloc ?_ _)); refine blk_far ?_ NB477_497.out _; (with_reducible repeat (first | refine blk_drewN ?_ _ | refine blk_drew ?_ | refine blk_alloc ?_ _)); refine blk_far ?_ NB477_497.out _; (with_reducible repeat (first | refine blk_drewN ?_ _ | refine blk_drew ?_ | refine blk_alloc ?_ _)); exact BK477.out) hb); have n3_ := Aside0.mk (blk_below (g := gb486) (o := .cells #[.int .i64 ((rd_T24 y482 x33_1).f0), .int .i64 ((rd_T24 y482 x33_1).f1)] 24 (0, 0)) (by (with_reducible repeat (first | refine blk_drewN ?_ _ | refine blk_drew ?_ | refine blk_alloc ?_ _)); refine blk_far ?_ NB486_497.out _; (with_reducible repeat (first | refine blk_drewN ?_ _ | refine blk_drew ?_ | refine blk_alloc ?_ _)); refine blk_far ?_ NB486_497.out _; (with_reducible repeat (first | refine blk_drewN ?_ _ | refine blk_drew ?_ | refine blk_alloc ?_ _)); refine blk_far ?_ NB486_497.out _; (with_reducible repeat (first | refine blk_drewN ?_ _ | refine blk_drew ?_ | refine blk_alloc ?_ _)); refine blk_far ?_ NB486_497.out _; (with_reducible repeat (first | refine blk_drewN ?_ _ | refine blk_drew ?_ | refine blk_alloc ?_ _)); refine blk_far ?_ NB486_497.out _; (with_reducible repeat (first | refine blk_drewN ?_ _ | refine blk_drew ?_ | refine blk_alloc ?_ _)); exact BK486.out) hb); have n4_ := Aside0.mk (blk_below (g := gb497) (o := .cells #[.int .i64 t545, .int .i64 t546, .int .i64 t547, .bool t548, .int .i64 t549] 33 (0, 0)) (by (with_reducible repeat (first | refine blk_drewN ?_ _ | refine blk_drew ?_ | refine blk_alloc ?_ _)); refine blk_put (cs := #[.int .i64 t545, .int .i64 t546, .int .i64 t547, .bool t548, .int .i64 t536]) ?_ 4 _ rfl; (with_reducible repeat (first | refine blk_drewN ?_ _ | refine blk_drew ?_ | refine blk_alloc ?_ _)); refine blk_put (cs := #[.int .i64 t545, .int .i64 t546, .int .i64 t547, .bool t535, .int .i64 t536]) ?_ 3 _ rfl; (with_reducible repeat (first | refine blk_drewN ?_ _ | refine blk_drew ?_ | refine blk_alloc ?_ _)); refine blk_put (cs := #[.int .i64 t545, .int .i64 t546, .int .i64 t534, .bool t535, .int .i64 t536]) ?_ 2 _ rfl; (with_reducible repeat (first | refine blk_drewN ?_ _ | refine blk_drew ?_ | refine blk_alloc ?_ _)); refine blk_put (cs := #[.int .i64 t545, .int .i64 t533, .int .i64 t534, .bool t535, .int .i64 t536]) ?_ 1 _ rfl; (with_reducible repeat (first | refine blk_drewN ?_ _ | refine blk_drew ?_ | refine blk_alloc ?_ _)); refine blk_put (cs := #[.int .i64 t532, .int .i64 t533, .int .i64 t534, .bool t535, .int .i64 t536]) ?_ 0 _ rfl; (with_reducible repeat (first | refine blk_drewN ?_ _ | refine blk_drew ?_ | refine blk_alloc ?_ _)); exact BK497.out) hb); have n5_ := Aside0.mk (blk_below (g := gb504) (o := .cells #[.int .i64 t538, .int .i64 t539, .int .i64 t540, .bool t541, .int .i64 t542] 33 (0, 0)) (by (with_reducible repeat (first | refine blk_drewN ?_ _ | refine blk_drew ?_ | refine blk_alloc ?_ _)); refine blk_far ?_ NB504_497.out _; (with_reducible repeat (first | refine blk_drewN ?_ _ | refine blk_drew ?_ | refine blk_alloc ?_ _)); refine blk_far ?_ NB504_497.out _; (with_reducible repeat (first | refine blk_drewN ?_ _ | refine blk_drew ?_ | refine blk_alloc ?_ _)); refine blk_far ?_ NB504_497.out _; (with_reducible repeat (first | refine blk_drewN ?_ _ | refine blk_drew ?_ | refine blk_alloc ?_ _)); refine blk_far ?_ NB504_497.out _; (with_reducible repeat (first | refine blk_drewN ?_ _ | refine blk_drew ?_ | refine blk_alloc ?_ _)); refine blk_far ?_ NB504_497.out _; (with_reducible repeat (first | refine blk_drewN ?_ _ | refine blk_drew ?_ | refine blk_alloc ?_ _)); exact BK504.out) hb); have n6_ := Aside0.mk (below_step (by repeat (first | (with_reducible first | exact HB.out | apply below_alloc | apply pw_below_drewN | apply below_drew1 | refine below_set ?_ GE477.out | refine below_set ?_ GE486.out | refine below_set ?_ GE497.out | refine below_set ?_ GE504.out) | exact HB.out)) hb); clear HO_31; clear HO_40; clear BK477; clear BK486; clear BK497; clear BK504; clear HB; have HO_31 := n0_; have HO_40 := n1_; have BK477 := n2_; have BK486 := n3_; have BK497 := n4_; have BK504 := n5_; have HB := n6_; clear n0_ n1_ n2_ n3_ n4_ n5_ n6_; (try clear hb); (try clear hb2); (try clear hk); (try clear hi); have hcz100_0 : w99.cell? ⟨gb504, 0, none⟩ = some (.int .i64 t538) := (blk_cell BK504.out 0).trans rfl; have hcz100_1 : w99.cell? ⟨gb504, 1, none⟩ = some (.int .i64 t539) := (blk_cell BK504.out 1).trans rfl; have hcz100_2 : w99.cell? ⟨gb504, 2, none⟩ = some (.int .i64 t540) := (blk_cell BK504.out 2).trans rfl; have hcz100_3 : w99.cell? ⟨gb504, 3, none⟩ = some (.bool t541) := (blk_cell BK504.out 3).trans rfl; have hcz100_4 : w99.cell? ⟨gb504, 4, none⟩ = some (.int .i64 t542) := (blk_cell BK504.out 4).trans rfl; have hfz100_0 := blk_frozen BK504.out 0; have hfz100_1 := blk_frozen BK504.out 1; have hfz100_2 := blk_frozen BK504.out 2; have hfz100_3 := blk_frozen BK504.out 3; have hfz100_4 := blk_frozen BK504.out 4; have hcz101_0 : w99.cell? ⟨gb497, 0, none⟩ = some (.int .i64 t545) := (blk_cell BK497.out 0).trans rfl; have hcz101_1 : w99.cell? ⟨gb497, 1, none⟩ = some (.int .i64 t546) := (blk_cell BK497.out 1).trans rfl; have hcz101_2 : w99.cell? ⟨gb497, 2, none⟩ = some (.int .i64 t547) := (blk_cell BK497.out 2).trans rfl; have hcz101_3 : w99.cell? ⟨gb497, 3, none⟩ = some (.bool t548) := (blk_cell BK497.out 3).trans rfl; have hcz101_4 : w99.cell? ⟨gb497, 4, none⟩ = some (.int .i64 t549) := (blk_cell BK497.out 4).trans rfl; have hfz101_0 := blk_frozen BK497.out 0; have hfz101_1 := blk_frozen BK497.out 1; have hfz101_2 := blk_frozen BK497.out 2; have hfz101_3 := blk_frozen BK497.out 3; have hfz101_4 := blk_frozen BK497.out 4) | ((with_reducible refine gate_callee (f := 13) rfl ?_); refine goesL_ (some 150) rfl rfl Try.func13 (by kernel_rfl) rfl #[.agg #[.int .i64 t545, .int .i64 t546, .int .i64 t547, .bool t548, .int .i64 t549], .bool t550, .agg #[.int .i64 t551, .int .i64 t552, .int .i64 t553, .bool t554, .int .i64 t555], .bool t556] rfl (by (try simp only [List.map_toArray, List.map_cons, List.map_nil]); first | done | rfl | (simp only [List.length_drop, List.length_take]; rfl)) ?_; (with_reducible refine (foolscaplaw9_same.calls t545 t546 t547 t548 t549 t550 t551 t552 t553 t554 t555 t556 true _ A49.out).mono ?_); rintro e w102 ⟨rfl, hb⟩; refine ⟨_, rfl, ?_⟩; have n0_ := Aside0.mk (Kd.R_below (by (with_reducible repeat (first | apply Kd.R_alloc | apply Kd.R_drewN | apply Kd.R_drew)); exact (Kd.R_mono (Kd.R_far (p := ⟨gb504, 4, none⟩) (Kd.R_far (p := ⟨gb504, 3, none⟩) (Kd.R_far (p := ⟨gb504, 2, none⟩) (Kd.R_far (p := ⟨gb504, 1, none⟩) (Kd.R_far (p := ⟨gb504, 0, none⟩) (Kd.R_types HO_31.out BK504.out (by decide)) (fun _ hk => hk.2) (.int .i64 t551)) (fun _ hk => hk.2) (.int .i64 t552)) (fun _ hk => hk.2) (.int .i64 t553)) (fun _ hk => hk.2) (.bool t554)) (fun _ hk => hk.2) (.int .i64 t555)) (fun _ h_ => h_.1))) hb); have n1_ := Aside0.mk (Kd.R_below (by (with_reducible repeat (first | apply Kd.R_alloc | apply Kd.R_drewN | apply Kd.R_drew)); exact (Kd.R_mono (Kd.R_far (p := ⟨gb504, 4, none⟩) (Kd.R_far (p := ⟨gb504, 3, none⟩) (Kd.R_far (p := ⟨gb504, 2, none⟩) (Kd.R_far (p := ⟨gb504, 1, none⟩) (Kd.R_far (p := ⟨gb504, 0, none⟩) (Kd.R_types HO_40.out BK504.out (by decide)) (fun _ hk => hk.2) (.int .i64 t551)) (fun _ hk => hk.2) (.int .i64 t552)) (fun _ hk => hk.2) (.int .i64 t553)) (fun _ hk => hk.2) (.bool t554)) (fun _ hk => hk.2) (.int .i64 t555)) (fun _ h_ => h_.1))) hb); have n2_ := Aside0.mk (blk_below (g := gb477) (o := .cells #[.int .i64 a1_0, .int .i64 a1_1] 24 (0, 0)) (by (with_reducible repeat (first | refine blk_drewN ?_ _ | refine blk_drew ?_ | refine blk_alloc ?_ _)); refine blk_far ?_ NB477_504.out _; (with_reducible repeat (first | refine blk_drewN ?_ _ | refine blk_drew ?_ | refine blk_alloc ?_ _)); refine blk_far ?_ NB477_504.out _; (with_reducible repeat (first | refine blk_drewN ?_ _ | refine blk_drew ?_ | refine blk_alloc ?_ _)); refine blk_far ?_ NB477_504.out _; (with_reducible repeat (first | refine blk_drewN ?_ _ | refine blk_drew ?_ | refine blk_alloc ?_ _)); refine blk_far ?_ NB477_504.out _; (with_reducible repeat (first | refine blk_drewN ?_ _ | refine blk_drew ?_ | refine blk_alloc ?_ _)); refine blk_far ?_ NB477_504.out _; (with_reducible repeat (first | refine blk_drewN ?_ _ | refine blk_drew ?_ | refine blk_alloc ?_ _)); exact BK477.out) hb); have n3_ := Aside0.mk (blk_below (g := gb486) (o := .cells #[.int .i64 ((rd_T24 y482 x33_1).f0), .int .i64 ((rd_T24 y482 x33_1).f1)] 24 (0, 0)) (by (with_reducible repeat (first | refine blk_drewN ?_ _ | refine blk_drew ?_ | refine blk_alloc ?_ _)); refine blk_far ?_ NB486_504.out _; (with_reducible repeat (first | refine blk_drewN ?_ _ | refine blk_drew ?_ | refine blk_alloc ?_ _)); refine blk_far ?_ NB486_504.out _; (with_reducible repeat (first | refine blk_drewN ?_ _ | refine blk_drew ?_ | refine blk_alloc ?_ _)); refine blk_far ?_ NB486_504.out _; (with_reducible repeat (first | refine blk_drewN ?_ _ | refine blk_drew ?_ | refine blk_alloc ?_ _)); refine blk_far ?_ NB486_504.out _; (with_reducible repeat (first | refine blk_drewN ?_ _ | refine blk_drew ?_ | refine blk_alloc ?_ _)); refine blk_far ?_ NB486_504.out _; (with_reducible repeat (first | refine blk_drewN ?_ _ | refine blk_drew ?_ | refine blk_alloc ?_ _)); exact BK486.out) hb); have n4_ := Aside0.mk (blk_below (g := gb497) (o := .cells #[.int .i64 t545, .int .i64 t546, .int .i64 t547, .bool t548, .int .i64 t549] 33 (0, 0)) (by (with_reducible repeat (first | refine blk_drewN ?_ _ | refine blk_drew ?_ | refine blk_alloc ?_ _)); refine blk_far ?_ NB497_504.out _; (with_reducible repeat (first | refine blk_drewN ?_ _ | refine blk_drew ?_ | refine blk_alloc ?_ _)); refine blk_far ?_ NB497_504.out _; (with_reducible repeat (first | refine blk_drewN ?_ _ | refine blk_drew ?_ | refine blk_alloc ?_ _)); refine blk_far ?_ NB497_504.out _; (with_reducible repeat (first | refine blk_drewN ?_ _ | refine blk_drew ?_ | refine blk_alloc ?_ _)); refine blk_far ?_ NB497_504.out _; (with_reducible repeat (first | refine blk_drewN ?_ _ | refine blk_drew ?_ | refine blk_alloc ?_ _)); refine blk_far ?_ NB497_504.out _; (with_reducible repeat (first | refine blk_drewN ?_ _ | refine blk_drew ?_ | refine blk_alloc ?_ _)); exact BK497.out) hb); have n5_ := Aside0.mk (blk_below (g := gb504) (o := .cells #[.int .i64 t551, .int .i64 t552, .int .i64 t553, .bool t554, .int .i64 t555] 33 (0, 0)) (by (with_reducible repeat (first | refine blk_drewN ?_ _ | refine blk_drew ?_ | refine blk_alloc ?_ _)); refine blk_put (cs := #[.int .i64 t551, .int .i64 t552, .int .i64 t553, .bool t554, .int .i64 t542]) ?_ 4 _ rfl; (with_reducible repeat (first | refine blk_drewN ?_ _ | refine blk_drew ?_ | refine blk_alloc ?_ _)); refine blk_put (cs := #[.int .i64 t551, .int .i64 t552, .int .i64 t553, .bool t541, .int .i64 t542]) ?_ 3 _ rfl; (with_reducible repeat (first | refine blk_drewN ?_ _ | refine blk_drew ?_ | refine blk_alloc ?_ _)); refine blk_put (cs := #[.int .i64 t551, .int .i64 t552, .int .i64 t540, .bool t541, .int .i64 t542]) ?_ 2 _ rfl; (with_reducible repeat (first | refine blk_drewN ?_ _ | refine blk_drew ?_ | refine blk_alloc ?_ _)); refine blk_put (cs := #[.int .i64 t551, .int .i64 t539, .int .i64 t540, .bool t541, .int .i64 t542]) ?_ 1 _ rfl; (with_reducible repeat (first | refine blk_drewN ?_ _ | refine blk_drew ?_ | refine blk_alloc ?_ _)); refine blk_put (cs := #[.int .i64 t538, .int .i64 t539, .int .i64 t540, .bool t541, .int .i64 t542]) ?_ 0 _ rfl; (with_reducible repeat (first | refine blk_drewN ?_ _ | refine blk_drew ?_ | refine blk_alloc ?_ _)); exact BK504.out) hb); have n6_ := Aside0.mk (below_step (by repeat (first | (with_reducible first | exact HB.out | apply below_alloc | apply pw_below_drewN | apply below_drew1 | refine below_set ?_ GE477.out | refine below_set ?_ GE486.out | refine below_set ?_ GE497.out | refine below_set ?_ GE504.out) | exact HB.out)) hb); clear HO_31; clear HO_40; clear BK477; clear BK486; clear BK497; clear BK504; clear HB; have HO_31 := n0_; have HO_40 := n1_; have BK477 := n2_; have BK486 := n3_; have BK497 := n4_; have BK504 := n5_; have HB := n6_; clear n0_ n1_ n2_ n3_ n4_ n5_ n6_; (try clear hb); (try clear hb2); (try clear hk); (try clear hi); have hcz103_0 : w102.cell? ⟨gb486, 0, none⟩ = some (.int .i64 ((rd_T24 y482 x33_1).f0)) := (blk_cell BK486.out 0).trans rfl; have hcz103_1 : w102.cell? ⟨gb486, 1, none⟩ = some (.int .i64 ((rd_T24 y482 x33_1).f1)) := (blk_cell BK486.out 1).trans rfl; have hfz103_0 := blk_frozen BK486.out 0; have hfz103_1 := blk_frozen BK486.out 1) | ((with_reducible refine gate_callee (f := 14) rfl ?_); refine goesL_ (some 156) rfl rfl Try.func14 (by kernel_rfl) rfl #[.slice A0 l0.length c0, .agg #[.int .i64 ((rd_T24 y482 x33_1).f0), .int .i64 ((rd_T24 y482 x33_1).f1)], .int .i64 (rd y487 x42_2)] rfl (by (try simp only [List.map_toArray, List.map_cons, List.map_nil]); first | done | rfl | (simp only [List.length_drop, List.length_take]; rfl)) ?_; (with_reducible refine (vert_Goto.calls k2 _ _ l0 ((rd_T24 y482 x33_1).f0) ((rd_T24 y482 x33_1).f1) (rd y487 x42_2) t558 t559 t560 t561 t562 t563 _ ?side1 ?side2 A51.out).mono ?_); (case side1 => repeat (first | exact (Kd.C_below HR0.out HB.out) | (with_reducible refine Kd.C_alloc ?_ _) | (with_reducible refine Kd.C_drewN ?_ _) | (with_reducible refine Kd.C_drew ?_))); (case side2 => exact HC0.out); rintro e w104 ⟨rfl, hb⟩; refine ⟨_, rfl, ?_⟩; have n0_ := Aside0.mk (Kd.R_below (by (with_reducible repeat (first | apply Kd.R_alloc | apply Kd.R_drewN | apply Kd.R_drew)); exact HO_31.out) hb); have n1_ := Aside0.mk (Kd.R_below (by (with_reducible repeat (first | apply Kd.R_alloc | apply Kd.R_drewN | apply Kd.R_drew)); exact HO_40.out) hb); have n2_ := Aside0.mk (blk_below (g := gb477) (o := .cells #[.int .i64 a1_0, .int .i64 a1_1] 24 (0, 0)) (by (with_reducible repeat (first | refine blk_drewN ?_ _ | refine blk_drew ?_ | refine blk_alloc ?_ _)); exact BK477.out) hb); have n3_ := Aside0.mk (blk_below (g := gb486) (o := .cells #[.int .i64 ((rd_T24 y482 x33_1).f0), .int .i64 ((rd_T24 y482 x33_1).f1)] 24 (0, 0)) (by (with_reducible repeat (first | refine blk_drewN ?_ _ | refine blk_drew ?_ | refine blk_alloc ?_ _)); exact BK486.out) hb); have n4_ := Aside0.mk (blk_below (g := gb497) (o := .cells #[.int .i64 t545, .int .i64 t546, .int .i64 t547, .bool t548, .int .i64 t549] 33 (0, 0)) (by (with_reducible repeat (first | refine blk_drewN ?_ _ | refine blk_drew ?_ | refine blk_alloc ?_ _)); exact BK497.out) hb); have n5_ := Aside0.mk (blk_below (g := gb504) (o := .cells #[.int .i64 t551, .int .i64 t552, .int .i64 t553, .bool t554, .int .i64 t555] 33 (0, 0)) (by (with_reducible repeat (first | refine blk_drewN ?_ _ | refine blk_drew ?_ | refine blk_alloc ?_ _)); exact BK504.out) hb); have n6_ := Aside0.mk (below_step (by repeat (first | (with_reducible first | exact HB.out | apply below_alloc | apply pw_below_drewN | apply below_drew1 | refine below_set ?_ GE477.out | refine below_set ?_ GE486.out | refine below_set ?_ GE497.out | refine below_set ?_ GE504.out) | exact HB.out)) hb); clear HO_31; clear HO_40; clear BK477; clear BK486; clear BK497; clear BK504; clear HB; have HO_31 := n0_; have HO_40 := n1_; have BK477 := n2_; have BK486 := n3_; have BK497 := n4_; have BK504 := n5_; have HB := n6_; clear n0_ n1_ n2_ n3_ n4_ n5_ n6_; (try clear hb); (try clear hb2); (try clear hk); (try clear hi); have hcz105_0 : w104.cell? ⟨gb497, 0, none⟩ = some (.int .i64 t545) := (blk_cell BK497.out 0).trans rfl; have hcz105_1 : w104.cell? ⟨gb497, 1, none⟩ = some (.int .i64 t546) := (blk_cell BK497.out 1).trans rfl; have hcz105_2 : w104.cell? ⟨gb497, 2, none⟩ = some (.int .i64 t547) := (blk_cell BK497.out 2).trans rfl; have hcz105_3 : w104.cell? ⟨gb497, 3, none⟩ = some (.bool t548) := (blk_cell BK497.out 3).trans rfl; have hcz105_4 : w104.cell? ⟨gb497, 4, none⟩ = some (.int .i64 t549) := (blk_cell BK497.out 4).trans rfl; have hfz105_0 := blk_frozen BK497.out 0; have hfz105_1 := blk_frozen BK497.out 1; have hfz105_2 := blk_frozen BK497.out 2; have hfz105_3 := blk_frozen BK497.out 3; have hfz105_4 := blk_frozen BK497.out 4; have hcz106_0 : w104.cell? ⟨gb486, 0, none⟩ = some (.int .i64 ((rd_T24 y482 x33_1).f0)) := (blk_cell BK486.out 0).trans rfl; have hcz106_1 : w104.cell? ⟨gb486, 1, none⟩ = some (.int .i64 ((rd_T24 y482 x33_1).f1)) := (blk_cell BK486.out 1).trans rfl; have hfz106_0 := blk_frozen BK486.out 0; have hfz106_1 := blk_frozen BK486.out 1) | ((with_reducible refine gate_callee (f := 25) rfl ?_); refine goesL_ (some 163) rfl rfl Try.func25 (by kernel_rfl) rfl #[.slice A0 l0.length c0, .agg #[.int .i64 ((rd_T24 y482 x33_1).f0), .int .i64 ((rd_T24 y482 x33_1).f1)], .int .i64 (rd y487 x42_2)] rfl (by (try simp only [List.map_toArray, List.map_cons, List.map_nil]); first | done | rfl | (simp only [List.length_drop, List.length_take]; rfl)) ?_; (with_reducible refine (foolscapref5_Goto.calls k2 _ _ l0 ((rd_T24 y482 x33_1).f0) ((rd_T24 y482 x33_1).f1) (rd y487 x42_2) t564 t565 t566 t567 t568 t569 _ ?side1 ?side2 A52.out).mono ?_); (case side1 => exact Kd.C_below HR0.out (by repeat (first | (with_reducible first | exact HB.out | apply below_alloc | apply pw_below_drewN | apply below_drew1 | refine below_set ?_ GE477.out | refine below_set ?_ GE486.out | refine below_set ?_ GE497.out | refine below_set ?_ GE504.out) | exact HB.out))); (case side2 => exact HC0.out); rintro e w107 ⟨rfl, hb⟩; refine ⟨_, rfl, ?_⟩; have n0_ := Aside0.mk (Kd.R_below (by (with_reducible repeat (first | apply Kd.R_alloc | apply Kd.R_drewN | apply Kd.R_drew)); exact (Kd.R_mono (Kd.R_far (p := ⟨gb497, 4, none⟩) (Kd.R_far (p := ⟨gb497, 3, none⟩) (Kd.R_far (p := ⟨gb497, 2, none⟩) (Kd.R_far (p := ⟨gb497, 1, none⟩) (Kd.R_far (p := ⟨gb497, 0, none⟩) (Kd.R_types HO_31.out BK497.out (by decide)) (fun _ hk => hk.2) (.int .i64 t558)) (fun _ hk => hk.2) (.int .i64 t559)) (fun _ hk => hk.2) (.int .i64 t560)) (fun _ hk => hk.2) (.bool t561)) (fun _ hk => hk.2) (.int .i64 t562)) (fun _ h_ => h_.1))) hb); have n1_ := Aside0.mk (Kd.R_below (by (with_reducible repeat (first | apply Kd.R_alloc | apply Kd.R_drewN | apply Kd.R_drew)); exact (Kd.R_mono (Kd.R_far (p := ⟨gb497, 4, none⟩) (Kd.R_far (p := ⟨gb497, 3, none⟩) (Kd.R_far (p := ⟨gb497, 2, none⟩) (Kd.R_far (p := ⟨gb497, 1, none⟩) (Kd.R_far (p := ⟨gb497, 0, none⟩) (Kd.R_types HO_40.out BK497.out (by decide)) (fun _ hk => hk.2) (.int .i64 t558)) (fun _ hk => hk.2) (.int .i64 t559)) (fun _ hk => hk.2) (.int .i64 t560)) (fun _ hk => hk.2) (.bool t561)) (fun _ hk => hk.2) (.int .i64 t562)) (fun _ h_ => h_.1))) hb); have n2_ := Aside0.mk (blk_below (g := gb477) (o := .cells #[.int .i64 a1_0, .int .i64 a1_1] 24 (0, 0)) (by (with_reducible repeat (first | refine blk_drewN ?_ _ | refine blk_drew ?_ | refine blk_alloc ?_ _)); refine blk_far ?_ NB477_497.out _; (with_reducible repeat (first | refine blk_drewN ?_ _ | refine blk_drew ?_ | refine blk_alloc ?_ _)); refine blk_far ?_ NB477_497.out _; (with_reducible repeat (first | refine blk_drewN ?_ _ | refine blk_drew ?_ | refine blk_alloc ?_ _)); refine blk_far ?_ NB477_497.out _; (with_reducible repeat (first | refine blk_drewN ?_ _ | refine blk_drew ?_ | refine blk_alloc ?_ _)); refine blk_far ?_ NB477_497.out _; (with_reducible repeat (first | refine blk_drewN ?_ _ | refine blk_drew ?_ | refine blk_alloc ?_ _)); refine blk_far ?_ NB477_497.out _; (with_reducible repeat (first | refine blk_drewN ?_ _ | refine blk_drew ?_ | refine blk_alloc ?_ _)); exact BK477.out) hb); have n3_ := Aside0.mk (blk_below (g := gb486) (o := .cells #[.int .i64 ((rd_T24 y482 x33_1).f0), .int .i64 ((rd_T24 y482 x33_1).f1)] 24 (0, 0)) (by (with_reducible repeat (first | refine blk_drewN ?_ _ | refine blk_drew ?_ | refine blk_alloc ?_ _)); refine blk_far ?_ NB486_497.out _; (with_reducible repeat (first | refine blk_drewN ?_ _ | refine blk_drew ?_ | refine blk_alloc ?_ _)); refine blk_far ?_ NB486_497.out _; (with_reducible repeat (first | refine blk_drewN ?_ _ | refine blk_drew ?_ | refine blk_alloc ?_ _)); refine blk_far ?_ NB486_497.out _; (with_reducible repeat (first | refine blk_drewN ?_ _ | refine blk_drew ?_ | refine blk_alloc ?_ _)); refine blk_far ?_ NB486_497.out _; (with_reducible repeat (first | refine blk_drewN ?_ _ | refine blk_drew ?_ | refine blk_alloc ?_ _)); refine blk_far ?_ NB486_497.out _; (with_reducible repeat (first | refine blk_drewN ?_ _ | refine blk_drew ?_ | refine blk_alloc ?_ _)); exact BK486.out) hb); have n4_ := Aside0.mk (blk_below (g := gb497) (o := .cells #[.int .i64 t558, .int .i64 t559, .int .i64 t560, .bool t561, .int .i64 t562] 33 (0, 0)) (by (with_reducible repeat (first | refine blk_drewN ?_ _ | refine blk_drew ?_ | refine blk_alloc ?_ _)); refine blk_put (cs := #[.int .i64 t558, .int .i64 t559, .int .i64 t560, .bool t561, .int .i64 t549]) ?_ 4 _ rfl; (with_reducible repeat (first | refine blk_drewN ?_ _ | refine blk_drew ?_ | refine blk_alloc ?_ _)); refine blk_put (cs := #[.int .i64 t558, .int .i64 t559, .int .i64 t560, .bool t548, .int .i64 t549]) ?_ 3 _ rfl; (with_reducible repeat (first | refine blk_drewN ?_ _ | refine blk_drew ?_ | refine blk_alloc ?_ _)); refine blk_put (cs := #[.int .i64 t558, .int .i64 t559, .int .i64 t547, .bool t548, .int .i64 t549]) ?_ 2 _ rfl; (with_reducible repeat (first | refine blk_drewN ?_ _ | refine blk_drew ?_ | refine blk_alloc ?_ _)); refine blk_put (cs := #[.int .i64 t558, .int .i64 t546, .int .i64 t547, .bool t548, .int .i64 t549]) ?_ 1 _ rfl; (with_reducible repeat (first | refine blk_drewN ?_ _ | refine blk_drew ?_ | refine blk_alloc ?_ _)); refine blk_put (cs := #[.int .i64 t545, .int .i64 t546, .int .i64 t547, .bool t548, .int .i64 t549]) ?_ 0 _ rfl; (with_reducible repeat (first | refine blk_drewN ?_ _ | refine blk_drew ?_ | refine blk_alloc ?_ _)); exact BK497.out) hb); have n5_ := Aside0.mk (blk_below (g := gb504) (o := .cells #[.int .i64 t551, .int .i64 t552, .int .i64 t553, .bool t554, .int .i64 t555] 33 (0, 0)) (by (with_reducible repeat (first | refine blk_drewN ?_ _ | refine blk_drew ?_ | refine blk_alloc ?_ _)); refine blk_far ?_ NB504_497.out _; (with_reducible repeat (first | refine blk_drewN ?_ _ | refine blk_drew ?_ | refine blk_alloc ?_ _)); refine blk_far ?_ NB504_497.out _; (with_reducible repeat (first | refine blk_drewN ?_ _ | refine blk_drew ?_ | refine blk_alloc ?_ _)); refine blk_far ?_ NB504_497.out _; (with_reducible repeat (first | refine blk_drewN ?_ _ | refine blk_drew ?_ | refine blk_alloc ?_ _)); refine blk_far ?_ NB504_497.out _; (with_reducible repeat (first | refine blk_drewN ?_ _ | refine blk_drew ?_ | refine blk_alloc ?_ _)); refine blk_far ?_ NB504_497.out _; (with_reducible repeat (first | refine blk_drewN ?_ _ | refine blk_drew ?_ | refine blk_alloc ?_ _)); exact BK504.out) hb); have n6_ := Aside0.mk (below_step (by repeat (first | (with_reducible first | exact HB.out | apply below_alloc | apply pw_below_drewN | apply below_drew1 | refine below_set ?_ GE477.out | refine below_set ?_ GE486.out | refine below_set ?_ GE497.out | refine below_set ?_ GE504.out) | exact HB.out)) hb); clear HO_31; clear HO_40; clear BK477; clear BK486; clear BK497; clear BK504; clear HB; have HO_31 := n0_; have HO_40 := n1_; have BK477 := n2_; have BK486 := n3_; have BK497 := n4_; have BK504 := n5_; have HB := n6_; clear n0_ n1_ n2_ n3_ n4_ n5_ n6_; (try clear hb); (try clear hb2); (try clear hk); (try clear hi); have hcz108_0 : w107.cell? ⟨gb504, 0, none⟩ = some (.int .i64 t551) := (blk_cell BK504.out 0).trans rfl; have hcz108_1 : w107.cell? ⟨gb504, 1, none⟩ = some (.int .i64 t552) := (blk_cell BK504.out 1).trans rfl; have hcz108_2 : w107.cell? ⟨gb504, 2, none⟩ = some (.int .i64 t553) := (blk_cell BK504.out 2).trans rfl; have hcz108_3 : w107.cell? ⟨gb504, 3, none⟩ = some (.bool t554) := (blk_cell BK504.out 3).trans rfl; have hcz108_4 : w107.cell? ⟨gb504, 4, none⟩ = some (.int .i64 t555) := (blk_cell BK504.out 4).trans rfl; have hfz108_0 := blk_frozen BK504.out 0; have hfz108_1 := blk_frozen BK504.out 1; have hfz108_2 := blk_frozen BK504.out 2; have hfz108_3 := blk_frozen BK504.out 3; have hfz108_4 := blk_frozen BK504.out 4; have hcz109_0 : w107.cell? ⟨gb497, 0, none⟩ = some (.int .i64 t558) := (blk_cell BK497.out 0).trans rfl; have hcz109_1 : w107.cell? ⟨gb497, 1, none⟩ = some (.int .i64 t559) := (blk_cell BK497.out 1).trans rfl; have hcz109_2 : w107.cell? ⟨gb497, 2, none⟩ = some (.int .i64 t560) := (blk_cell BK497.out 2).trans rfl; have hcz109_3 : w107.cell? ⟨gb497, 3, none⟩ = some (.bool t561) := (blk_cell BK497.out 3).trans rfl; have hcz109_4 : w107.cell? ⟨gb497, 4, none⟩ = some (.int .i64 t562) := (blk_cell BK497.out 4).trans rfl; have hfz109_0 := blk_frozen BK497.out 0; have hfz109_1 := blk_frozen BK497.out 1; have hfz109_2 := blk_frozen BK497.out 2; have hfz109_3 := blk_frozen BK497.out 3; have hfz109_4 := blk_frozen BK497.out 4) | ((with_reducible refine gate_callee (f := 13) rfl ?_); refine goesL_ (some 170) rfl rfl Try.func13 (by kernel_rfl) rfl #[.agg #[.int .i64 t558, .int .i64 t559, .int .i64 t560, .bool t561, .int .i64 t562], .bool t563, .agg #[.int .i64 t564, .int .i64 t565, .int .i64 t566, .bool t567, .int .i64 t568], .bool t569] rfl (by (try simp only [List.map_toArray, List.map_cons, List.map_nil]); first | done | rfl | (simp only [List.length_drop, List.length_take]; rfl)) ?_; (with_reducible refine (foolscaplaw9_same.calls t558 t559 t560 t561 t562 t563 t564 t565 t566 t567 t568 t569 true _ A53.out).mono ?_); rintro e w110 ⟨rfl, hb⟩; refine ⟨_, rfl, ?_⟩; have n0_ := Aside0.mk (Kd.R_below (by (with_reducible repeat (first | apply Kd.R_alloc | apply Kd.R_drewN | apply Kd.R_drew)); exact (Kd.R_mono (Kd.R_far (p := ⟨gb504, 4, none⟩) (Kd.R_far (p := ⟨gb504, 3, none⟩) (Kd.R_far (p := ⟨gb504, 2, none⟩) (Kd.R_far (p := ⟨gb504, 1, none⟩) (Kd.R_far (p := ⟨gb504, 0, none⟩) (Kd.R_types HO_31.out BK504.out (by decide)) (fun _ hk => hk.2) (.int .i64 t564)) (fun _ hk => hk.2) (.int .i64 t565)) (fun _ hk => hk.2) (.int .i64 t566)) (fun _ hk => hk.2) (.bool t567)) (fun _ hk => hk.2) (.int .i64 t568)) (fun _ h_ => h_.1))) hb); have n1_ := Aside0.mk (Kd.R_below (by (with_reducible repeat (first | apply Kd.R_alloc | apply Kd.R_drewN | apply Kd.R_drew)); exact (Kd.R_mono (Kd.R_far (p := ⟨gb504, 4, none⟩) (Kd.R_far (p := ⟨gb504, 3, none⟩) (Kd.R_far (p := ⟨gb504, 2, none⟩) (Kd.R_far (p := ⟨gb504, 1, none⟩) (Kd.R_far (p := ⟨gb504, 0, none⟩) (Kd.R_types HO_40.out BK504.out (by decide)) (fun _ hk => hk.2) (.int .i64 t564)) (fun _ hk => hk.2) (.int .i64 t565)) (fun _ hk => hk.2) (.int .i64 t566)) (fun _ hk => hk.2) (.bool t567)) (fun _ hk => hk.2) (.int .i64 t568)) (fun _ h_ => h_.1))) hb); have n2_ := Aside0.mk (blk_below (g := gb477) (o := .cells #[.int .i64 a1_0, .int .i64 a1_1] 24 (0, 0)) (by (with_reducible repeat (first | refine blk_drewN ?_ _ | refine blk_drew ?_ | refine blk_alloc ?_ _)); refine blk_far ?_ NB477_504.out _; (with_reducible repeat (first | refine blk_drewN ?_ _ | refine blk_drew ?_ | refine blk_alloc ?_ _)); refine blk_far ?_ NB477_504.out _; (with_reducible repeat (first | refine blk_drewN ?_ _ | refine blk_drew ?_ | refine blk_alloc ?_ _)); refine blk_far ?_ NB477_504.out _; (with_reducible repeat (first | refine blk_drewN ?_ _ | refine blk_drew ?_ | refine blk_alloc ?_ _)); refine blk_far ?_ NB477_504.out _; (with_reducible repeat (first | refine blk_drewN ?_ _ | refine blk_drew ?_ | refine blk_alloc ?_ _)); refine blk_far ?_ NB477_504.out _; (with_reducible repeat (first | refine blk_drewN ?_ _ | refine blk_drew ?_ | refine blk_alloc ?_ _)); exact BK477.out) hb); have n3_ := Aside0.mk (blk_below (g := gb486) (o := .cells #[.int .i64 ((rd_T24 y482 x33_1).f0), .int .i64 ((rd_T24 y482 x33_1).f1)] 24 (0, 0)) (by (with_reducible repeat (first | refine blk_drewN ?_ _ | refine blk_drew ?_ | refine blk_alloc ?_ _)); refine blk_far ?_ NB486_504.out _; (with_reducible repeat (first | refine blk_drewN ?_ _ | refine blk_drew ?_ | refine blk_alloc ?_ _)); refine blk_far ?_ NB486_504.out _; (with_reducible repeat (first | refine blk_drewN ?_ _ | refine blk_drew ?_ | refine blk_alloc ?_ _)); refine blk_far ?_ NB486_504.out _; (with_reducible repeat (first | refine blk_drewN ?_ _ | refine blk_drew ?_ | refine blk_alloc ?_ _)); refine blk_far ?_ NB486_504.out _; (with_reducible repeat (first | refine blk_drewN ?_ _ | refine blk_drew ?_ | refine blk_alloc ?_ _)); refine blk_far ?_ NB486_504.out _; (with_reducible repeat (first | refine blk_drewN ?_ _ | refine blk_drew ?_ | refine blk_alloc ?_ _)); exact BK486.out) hb); have n4_ := Aside0.mk (blk_below (g := gb497) (o := .cells #[.int .i64 t558, .int .i64 t559, .int .i64 t560, .bool t561, .int .i64 t562] 33 (0, 0)) (by (with_reducible repeat (first | refine blk_drewN ?_ _ | refine blk_drew ?_ | refine blk_alloc ?_ _)); refine blk_far ?_ NB497_504.out _; (with_reducible repeat (first | refine blk_drewN ?_ _ | refine blk_drew ?_ | refine blk_alloc ?_ _)); refine blk_far ?_ NB497_504.out _; (with_reducible repeat (first | refine blk_drewN ?_ _ | refine blk_drew ?_ | refine blk_alloc ?_ _)); refine blk_far ?_ NB497_504.out _; (with_reducible repeat (first | refine blk_drewN ?_ _ | refine blk_drew ?_ | refine blk_alloc ?_ _)); refine blk_far ?_ NB497_504.out _; (with_reducible repeat (first | refine blk_drewN ?_ _ | refine blk_drew ?_ | refine blk_alloc ?_ _)); refine blk_far ?_ NB497_504.out _; (with_reducible repeat (first | refine blk_drewN ?_ _ | refine blk_drew ?_ | refine blk_alloc ?_ _)); exact BK497.out) hb); have n5_ := Aside0.mk (blk_below (g := gb504) (o := .cells #[.int .i64 t564, .int .i64 t565, .int .i64 t566, .bool t567, .int .i64 t568] 33 (0, 0)) (by (with_reducible repeat (first | refine blk_drewN ?_ _ | refine blk_drew ?_ | refine blk_alloc ?_ _)); refine blk_put (cs := #[.int .i64 t564, .int .i64 t565, .int .i64 t566, .bool t567, .int .i64 t555]) ?_ 4 _ rfl; (with_reducible repeat (first | refine blk_drewN ?_ _ | refine blk_drew ?_ | refine blk_alloc ?_ _)); refine blk_put (cs := #[.int .i64 t564, .int .i64 t565, .int .i64 t566, .bool t554, .int .i64 t555]) ?_ 3 _ rfl; (with_reducible repeat (first | refine blk_drewN ?_ _ | refine blk_drew ?_ | refine blk_alloc ?_ _)); refine blk_put (cs := #[.int .i64 t564, .int .i64 t565, .int .i64 t553, .bool t554, .int .i64 t555]) ?_ 2 _ rfl; (with_reducible repeat (first | refine blk_drewN ?_ _ | refine blk_drew ?_ | refine blk_alloc ?_ _)); refine blk_put (cs := #[.int .i64 t564, .int .i64 t552, .int .i64 t553, .bool t554, .int .i64 t555]) ?_ 1 _ rfl; (with_reducible repeat (first | refine blk_drewN ?_ _ | refine blk_drew ?_ | refine blk_alloc ?_ _)); refine blk_put (cs := #[.int .i64 t551, .int .i64 t552, .int .i64 t553, .bool t554, .int .i64 t555]) ?_ 0 _ rfl; (with_reducible repeat (first | refine blk_drewN ?_ _ | refine blk_drew ?_ | refine blk_alloc ?_ _)); exact BK504.out) hb); have n6_ := Aside0.mk (below_step (by repeat (first | (with_reducible first | exact HB.out | apply below_alloc | apply pw_below_drewN | apply below_drew1 | refine below_set ?_ GE477.out | refine below_set ?_ GE486.out | refine below_set ?_ GE497.out | refine below_set ?_ GE504.out) | exact HB.out)) hb); clear HO_31; clear HO_40; clear BK477; clear BK486; clear BK497; clear BK504; clear HB; have HO_31 := n0_; have HO_40 := n1_; have BK477 := n2_; have BK486 := n3_; have BK497 := n4_; have BK504 := n5_; have HB := n6_; clear n0_ n1_ n2_ n3_ n4_ n5_ n6_; (try clear hb); (try clear hb2); (try clear hk); (try clear hi)))
                                      go_roundg k2
                                      case measure => have := HK1.out; have := HK2.out; omega
                                      case rel => exact ⟨(wrap64 (x42_2 + 1)), (by first | rfl | (simp; done) | (simp [*]; done)), H', ⟨by have := HK1.out; have := HK2.out; omega⟩, ⟨by (with_reducible repeat (first | apply Kd.R_alloc | apply Kd.R_drewN | apply Kd.R_drew)); exact HO_31.out⟩, ⟨by (with_reducible repeat (first | apply Kd.R_alloc | apply Kd.R_drewN | apply Kd.R_drew)); exact HO_40.out⟩, ⟨by (with_reducible repeat (first | refine blk_drewN ?_ _ | refine blk_drew ?_ | refine blk_alloc ?_ _)); exact BK477.out⟩, ⟨by (with_reducible repeat (first | refine blk_drewN ?_ _ | refine blk_drew ?_ | refine blk_alloc ?_ _)); exact BK486.out⟩, ⟨by repeat (first | (with_reducible first | exact HB.out | apply below_alloc | apply pw_below_drewN | apply below_drew1 | refine below_set ?_ GE477.out | refine below_set ?_ GE486.out | refine below_set ?_ GE497.out | refine below_set ?_ GE504.out) | exact HB.out)⟩⟩
                                    · replace c54 := Bool.eq_false_iff.mpr c54
                                      subst c54
                                      have H1 : (some false) = some r := by rw [if_neg (show ¬ (false = true) by decide)] at H; exact H
                                      clear H
                                      have H := H1
                                      clear H1
                                      exact absurd ((Option.some.inj H).trans HT.out) (by decide)
                                  · replace c50 := Bool.eq_false_iff.mpr c50
                                    subst c50
                                    have H1 : (some false) = some r := by rw [if_neg (show ¬ (false = true) by decide)] at H; exact H
                                    clear H
                                    have H := H1
                                    clear H1
                                    exact absurd ((Option.some.inj H).trans HT.out) (by decide)
                                · replace c46 := Bool.eq_false_iff.mpr c46
                                  subst c46
                                  have H1 : (some false) = some r := by rw [if_neg (show ¬ (false = true) by decide)] at H; exact H
                                  clear H
                                  have H := H1
                                  clear H1
                                  exact absurd ((Option.some.inj H).trans HT.out) (by decide)
                              · replace c42 := Bool.eq_false_iff.mpr c42
                                subst c42
                                have H1 : (some false) = some r := by rw [if_neg (show ¬ (false = true) by decide)] at H; exact H
                                clear H
                                have H := H1
                                clear H1
                                exact absurd ((Option.some.inj H).trans HT.out) (by decide)
                            · replace c38 := Bool.eq_false_iff.mpr c38
                              subst c38
                              have H1 : (some false) = some r := by rw [if_neg (show ¬ (false = true) by decide)] at H; exact H
                              clear H
                              have H := H1
                              clear H1
                              exact absurd ((Option.some.inj H).trans HT.out) (by decide)
                          · replace c34 := Bool.eq_false_iff.mpr c34
                            subst c34
                            have H1 : (some false) = some r := by rw [if_neg (show ¬ (false = true) by decide)] at H; exact H
                            clear H
                            have H := H1
                            clear H1
                            exact absurd ((Option.some.inj H).trans HT.out) (by decide)
                        · rw [if_neg c30] at H
                          exact absurd H (by simp)
                      · rw [if_neg c29] at H
                        exact absurd H (by simp)
                    · rw [if_neg c28] at H
                      have c28b0 : decide (x42_2 < (y487.length : Int)) = false := decide_eq_false c28
                      clear c28
                      have H' := Aside0.mk H
                      clear H
                      go_wp2
                      go_roundg k2
                      case measure => have := HK1.out; have := HK2.out; omega
                      case rel => exact ⟨(wrap64 (x33_1 + 1)), (by first | rfl | (simp; done) | (simp [*]; done)), H', ⟨by have := HK1.out; have := HK2.out; omega⟩, ⟨by (with_reducible repeat (first | apply Kd.R_alloc | apply Kd.R_drewN | apply Kd.R_drew)); exact Kd.R_mono HO_31.out (fun _ hk => hk.1)⟩, ⟨by (with_reducible repeat (first | refine blk_drewN ?_ _ | refine blk_drew ?_ | refine blk_alloc ?_ _)); exact BK477.out⟩, ⟨by repeat (first | (with_reducible first | exact HB.out | apply below_alloc | apply pw_below_drewN | apply below_drew1 | refine below_set ?_ GE477.out | refine below_set ?_ GE486.out) | exact HB.out)⟩⟩
              · rw [if_neg c21] at H
                exact absurd H (by simp)
            · rw [if_neg c20] at H
              exact absurd H (by simp)
          · rw [if_neg c19] at H
            have c19b0 : decide (x33_1 < (y482.length : Int)) = false := decide_eq_false c19
            clear c19
            obtain rfl := Option.some.inj H
            go_wp2
            go_ret
            exact ⟨by first | rfl | (simp [errW_none, errW_some] <;> rfl) | (simp [*, errW_none, errW_some] <;> rfl), by repeat (first | (with_reducible first | exact HB.out | apply below_alloc | apply pw_below_drewN | apply below_drew1 | refine below_set ?_ GE477.out) | exact HB.out)⟩
    · replace c10 := Bool.eq_false_iff.mpr c10
      subst c10
      have H1 : (some true) = some r := by rw [if_neg (show ¬ (false = true) by decide)] at H; exact H
      clear H
      have H := H1
      clear H1
      obtain rfl := Option.some.inj H
      go_enter Try.func7, Try.ntmps7
      go_wp2_with (first | ((with_reducible refine gate_dst (N := 7) rfl ?_); refine box_event ?hg (N := 7) ?hd (cs := #[.int .i64 a1_0, .int .i64 a1_1]) (t := 24) ?hr ?_; (case hd => rfl); (case hg => rfl); (case hr => first | (go_simp; done) | (go_simp; rfl)); intro gb477 hg w327 hbox hb; have n0_ := Aside0.mk (below_step (by repeat (first | (with_reducible first | exact HB.out | apply below_alloc | apply pw_below_drewN | apply below_drew1) | exact HB.out)) hb); have n1_ := Aside0.mk (hbox); have n2_ := Aside0.mk ((by rw [hg]; exact (below_size (by repeat (first | (with_reducible first | exact HB.out | apply below_alloc | apply pw_below_drewN | apply below_drew1) | exact HB.out))) : w.heap.size ≤ gb477)); have n3_ := Aside0.mk ((by rw [hg]; exact (below_size (by repeat (first | (with_reducible first | exact HB.out | apply below_alloc | apply pw_below_drewN | apply below_drew1) | exact HB.out))) : w.heap.size ≤ gb477)); clear HB; have HB := n0_; have BK477 := n1_; have GW477 := n2_; have GE477 := n3_; clear n0_ n1_ n2_ n3_; clear hb hbox hg) | ((with_reducible refine gate_callee (f := 8) rfl ?_); refine goesL_ (some 21) rfl rfl Try.func8 (by kernel_rfl) rfl #[] rfl (by (try simp only [List.map_toArray, List.map_cons, List.map_nil]); first | done | rfl | (simp only [List.length_drop, List.length_take]; rfl)) ?_; (with_reducible refine (foolscaplaw9_known.calls k  true _ A7.out rfl).mono ?_); rintro e w328 ⟨rfl, hb⟩; refine ⟨_, rfl, ?_⟩; have n0_ := Aside0.mk (blk_below (g := gb477) (o := .cells #[.int .i64 a1_0, .int .i64 a1_1] 24 (0, 0)) (by (with_reducible repeat (first | refine blk_drewN ?_ _ | refine blk_drew ?_ | refine blk_alloc ?_ _)); exact BK477.out) hb); have n1_ := Aside0.mk (below_step (by repeat (first | (with_reducible first | exact HB.out | apply below_alloc | apply pw_below_drewN | apply below_drew1 | refine below_set ?_ GE477.out) | exact HB.out)) hb); clear BK477; clear HB; have BK477 := n0_; have HB := n1_; clear n0_ n1_; (try clear hb); (try clear hb2); (try clear hk); (try clear hi)) | ((with_reducible refine gate_callee (f := 9) rfl ?_); refine goesL_ (some 24) rfl rfl Try.func9 (by kernel_rfl) rfl #[.slice A0 l0.length c0] rfl (by (try simp only [List.map_toArray, List.map_cons, List.map_nil]); first | done | rfl | (simp only [List.length_drop, List.length_take]; rfl)) ?_; (with_reducible refine (foolscaphelp_Text.calls k _ _ l0 false _ ?side1 ?side2 A9.out).mono ?_); (case side1 => repeat (first | exact (Kd.C_below HR0.out HB.out) | (with_reducible refine Kd.C_alloc ?_ _) | (with_reducible refine Kd.C_drewN ?_ _) | (with_reducible refine Kd.C_drew ?_))); (case side2 => exact HC0.out); rintro e w' ⟨rfl, ⟨nd, rfl⟩⟩; refine ⟨_, rfl, ?_⟩))
      go_ret
      exact ⟨by first | rfl | (simp [errW_none, errW_some] <;> rfl) | (simp [*, errW_none, errW_some] <;> rfl), by repeat (first | (with_reducible first | exact HB.out | apply below_alloc | apply pw_below_drewN | apply below_drew1 | refine below_set ?_ GE477.out) | exact HB.out)⟩
  · replace c8 := Bool.eq_false_iff.mpr c8
    subst c8
    have H1 : (some false) = some r := by rw [if_neg (show ¬ (false = true) by decide)] at H; exact H
    clear H
    have H := H1
    clear H1
    exact absurd ((Option.some.inj H).trans HT.out) (by decide)
end Go.Proofs.Ytngkpgocjeiheaa.V
namespace Go.Proofs.Ytngkpgocjeiheaa.Pure
open Go.RowKit Go.Proofs.Ytngkpgocjeiheaa.V Go.Proofs.YtngkpgocjeiheaaW.PrintWords Go.Proofs.YtngkpgocjeiheaaW.PrintLast Go.Proofs.YtngkpgocjeiheaaW.PrintMore

theorem known_true (k : Nat) (hk : 20 ≤ k) : foolscaplaw9_known.f k = some true := at_rounds foolscaplaw9_known.mono hk (by decide +kernel)

end Go.Proofs.Ytngkpgocjeiheaa.Pure
namespace Go.Proofs.Ytngkpgocjeiheaa.Pure
open Go.RowKit Go.Proofs.Ytngkpgocjeiheaa.V Go.Proofs.YtngkpgocjeiheaaW.PrintWords Go.Proofs.YtngkpgocjeiheaaW.PrintLast Go.Proofs.YtngkpgocjeiheaaW.PrintMore

theorem w64 {x : Int} (h0 : -9223372036854775808 ≤ x) (h1 : x < 9223372036854775808) : wrap64 x = x := by unfold wrap64; omega

def ofS (c : Int) (big : Bool) : Int :=
  if c = 32 ∨ c = 9 then 0 else if big = true then 1
  else if (97 ≤ c ∧ c ≤ 122) ∨ (65 ≤ c ∧ c ≤ 90) ∨ (48 ≤ c ∧ c ≤ 57) ∨ c = 95 ∨ 128 ≤ c then 1 else 2

theorem ofS_else {c : Int} (h1 : ¬ c = 32) (h2 : ¬ c = 9) (b : Bool) : ofS c b = if b = true then 1 else if (97 ≤ c ∧ c ≤ 122) ∨ (65 ≤ c ∧ c ≤ 90) ∨ (48 ≤ c ∧ c ≤ 57) ∨ c = 95 ∨ 128 ≤ c then 1 else 2 := by
  unfold ofS
  rw [if_neg (by omega)]

theorem mn_le {a b : Int} (h : a ≤ b) : mn a b = a := by unfold mn; rw [if_neg (by omega)]
theorem mn_ge {a b : Int} (h : b ≤ a) : mn a b = b := by unfold mn; split <;> omega
theorem mx_le {a b : Int} (h : a ≤ b) : mx a b = b := by unfold mx; split <;> omega
theorem mx_ge {a b : Int} (h : b ≤ a) : mx a b = a := by unfold mx; rw [if_neg (by omega)]

/-- a motion: where to, its way, whether it jumps, what is wanted; is there one? -/
abbrev Mv := Int × Int × Int × Bool × Int × Bool
abbrev no : Mv := (0, 0, 0, false, 0, false)


theorem ln_mem {l : List ByteArray} {j : Int} (h0 : 0 ≤ j) (h1 : j < l.length) : rdOf ByteArray.empty l j ∈ l := by
  unfold rdOf
  rw [List.getD, List.getElem?_eq_getElem (by omega)]
  exact List.getElem_mem _

/-- what 'Text' tells of lines. -/
def Small (l : List ByteArray) : Prop := 0 < l.length ∧ l.length ≤ 40 ∧ ∀ s ∈ l, s.size ≤ 1200

theorem light_l (l : List ByteArray) (hs : ∀ s ∈ l, s.size ≤ 140737488351232) (hl : l.length ≤ 40) (d : Nat) :
    (∀ (k : Nat) (n : Int) (i : Nat), i ≤ l.length → l.length - i = d → 0 ≤ n → n ≤ 1200 → d * 1210 + 1 ≤ k →
      ∃ b, foolscaphelp_Light.l0 k l n (i : Int) = some b ∧ (b = true → ∀ j : Int, (i : Int) ≤ j → j < l.length → (rdOf ByteArray.empty l j).size ≤ 1200)) := by
  induction d with
  | zero =>
    intro k n i hi hd h0 h1 hk
    obtain ⟨k, rfl⟩ : ∃ m, k = m + 1 := ⟨k - 1, by omega⟩
    refine ⟨true, ?_, fun _ j h1 h2 => by omega⟩
    simp only [foolscaphelp_Light.l0]
    rw [if_neg (by omega)]
  | succ d ih =>
    intro k n i hi hd h0 h1 hk
    obtain ⟨k, rfl⟩ : ∃ m, k = m + 1 := ⟨k - 1, by omega⟩
    have hz := hs _ (ln_mem (l := l) (j := i) (by omega) (by omega))
    have e1 : wrap64 (n + ((rdOf ByteArray.empty l i).size : Int)) = n + ((rdOf ByteArray.empty l i).size : Int) := w64 (by omega) (by omega)
    simp only [foolscaphelp_Light.l0]
    rw [if_pos (by omega), if_pos (by omega), e1]
    by_cases hb : n + ((rdOf ByteArray.empty l i).size : Int) > 1200
    · rw [if_pos hb]
      exact ⟨false, rfl, fun h => by cases h⟩
    · rw [if_neg hb]
      obtain ⟨m, hm⟩ : ∃ m, m = d * 1210 + 1 := ⟨_, rfl⟩
      have hmk : (rdOf ByteArray.empty l (i : Int)).size + m + 2 ≤ k := by omega
      rw [← hm] at ih
      clear hm hk
      have inner : ∀ (e : Nat) (k c : Nat), c ≤ (rdOf ByteArray.empty l i).size → (rdOf ByteArray.empty l i).size - c = e → e + m + 2 ≤ k →
          ∃ b, foolscaphelp_Light.l1 k l (n + ((rdOf ByteArray.empty l i).size : Int)) (i : Int) (c : Int) = some b ∧ (b = true → ∀ j : Int, ((i + 1 : Nat) : Int) ≤ j → j < l.length → (rdOf ByteArray.empty l j).size ≤ 1200) := by
        intro e
        induction e with
        | zero =>
          intro k c hc he hk
          obtain ⟨k, rfl⟩ : ∃ m, k = m + 1 := ⟨k - 1, by omega⟩
          simp only [foolscaphelp_Light.l1]
          rw [if_pos (by omega), if_pos (by omega), if_neg (by omega), w64 (by omega) (by omega)]
          exact ih k _ (i + 1) (by omega) (by omega) (by omega) (by omega) (by omega)
        | succ e ih2 =>
          intro k c hc he hk
          obtain ⟨k, rfl⟩ : ∃ m, k = m + 1 := ⟨k - 1, by omega⟩
          simp only [foolscaphelp_Light.l1]
          rw [if_pos (by omega), if_pos (by omega), if_pos (by omega), if_pos (by omega)]
          split
          · exact ⟨false, rfl, fun h => by cases h⟩
          · rw [w64 (by omega) (by omega)]
            exact ih2 k (c + 1) (by omega) (by omega) (by omega)
      obtain ⟨b, hb1, hb2⟩ := inner (rdOf ByteArray.empty l i).size k 0 (Nat.zero_le _) (Nat.sub_zero _) hmk
      refine ⟨b, hb1, fun h j h2 h3 => ?_⟩
      by_cases hj : j = i
      · subst hj
        omega
      · exact hb2 h j (by omega) h3

theorem text_tells (l : List ByteArray) (hs : ∀ s ∈ l, s.size ≤ 140737488351232) (k : Nat) (hk : 50000 ≤ k) :
    ∃ b, foolscaphelp_Text.f k l = some b ∧ (b = true → Small l) := by
  unfold foolscaphelp_Text.f
  by_cases h : (l.length : Int) > 0
  · rw [if_pos h]
    unfold foolscaphelp_Light.f
    by_cases h2 : (l.length : Int) > 40
    · rw [if_pos h2]
      exact ⟨false, rfl, fun h => by cases h⟩
    · rw [if_neg h2]
      obtain ⟨b, hb, hb2⟩ := light_l l hs (by omega) l.length k 0 0 (by omega) (by omega) (by omega) (by omega) (by omega)
      refine ⟨b, by rw [show ((0 : Nat) : Int) = 0 from rfl] at hb; rw [hb]; rfl, fun ht => ⟨by omega, by omega, fun s hs => ?_⟩⟩
      obtain ⟨j, hj, rfl⟩ := List.getElem_of_mem hs
      have := hb2 ht j (by omega) (by omega)
      unfold rdOf at this
      rw [List.getD, List.getElem?_eq_getElem (by omega)] at this
      exact this
  · rw [if_neg h]
    exact ⟨false, rfl, fun h => by cases h⟩

theorem Small.at {l : List ByteArray} (h : Small l) {j : Int} (h0 : 0 ≤ j) (h1 : j < l.length) : (rdOf ByteArray.empty l j).size ≤ 1200 := h.2.2 _ (ln_mem h0 h1)

end Go.Proofs.Ytngkpgocjeiheaa.Pure
namespace Go.Proofs.Ytngkpgocjeiheaa.Pure
open Go.RowKit Go.Proofs.Ytngkpgocjeiheaa.V Go.Proofs.YtngkpgocjeiheaaW.PrintWords Go.Proofs.YtngkpgocjeiheaaW.PrintLast Go.Proofs.YtngkpgocjeiheaaW.PrintMore

/-- is (a, b) a place of the lines? -/
def PlaceP (l : List ByteArray) (a b : Int) : Prop := 0 ≤ a ∧ a < l.length ∧ 0 ≤ b ∧ b ≤ (rdOf ByteArray.empty l a).size
instance (l : List ByteArray) (a b : Int) : Decidable (PlaceP l a b) := by unfold PlaceP; infer_instance

theorem place_class (l : List ByteArray) (a b : Int) : class_Place.f l a b = some (decide (PlaceP l a b)) := by
  unfold class_Place.f
  by_cases h1 : a ≥ 0
  · rw [if_pos h1]
    by_cases h2 : a < l.length
    · rw [if_pos h2]
      by_cases h3 : b ≥ 0
      · rw [if_pos h3, if_pos h1]
        congr 1
        simp only [decide_eq_decide]
        exact ⟨fun h => ⟨h1, h2, h3, h⟩, fun h => h.2.2.2⟩
      · rw [if_neg h3, decide_eq_false (fun h => h3 h.2.2.1)]
    · rw [if_neg h2, decide_eq_false (fun h => h2 h.2.1)]
  · rw [if_neg h1, decide_eq_false (fun h => h1 h.1)]

/-- the place that two numbers name. -/
theorem seat_place {l : List ByteArray} (hl : Small l) (a b : Int) (ha : 0 ≤ a) (ha2 : a ≤ 65535) (hb : 0 ≤ b) (hb2 : b ≤ 65535) :
    ∃ x y, foolscapseat_Place.f l a b = some (x, y) ∧ PlaceP l x y := by
  obtain ⟨h1, h2, h3⟩ := hl
  have e : Int.tmod a l.length = a % l.length := Int.tmod_eq_emod_of_nonneg ha
  have g0 : 0 ≤ a % (l.length : Int) := Int.emod_nonneg _ (by omega)
  have g1 : a % (l.length : Int) < l.length := Int.emod_lt_of_pos _ (by omega)
  have hz := Small.at ⟨h1, h2, h3⟩ g0 g1
  unfold foolscapseat_Place.f
  rw [if_neg (by omega), w64 (x := a) (by omega) (by omega), e, if_pos g0, if_pos g1, w64 (x := b) (by omega) (by omega), w64 (x := ((rdOf ByteArray.empty l (a % (l.length : Int))).size : Int) + 1) (by omega) (by omega), if_neg (by omega)]
  refine ⟨_, _, rfl, g0, g1, ?_, ?_⟩
  · rw [Int.tmod_eq_emod_of_nonneg hb]
    exact Int.emod_nonneg _ (by omega)
  · rw [Int.tmod_eq_emod_of_nonneg hb]
    have := Int.emod_lt_of_pos b (b := ((rdOf ByteArray.empty l (a % (l.length : Int))).size : Int) + 1) (by omega)
    omega

end Go.Proofs.Ytngkpgocjeiheaa.Pure
namespace Go.Proofs.Ytngkpgocjeiheaa.Pure
open Go.RowKit Go.Proofs.Ytngkpgocjeiheaa.V Go.Proofs.YtngkpgocjeiheaaW.PrintWords Go.Proofs.YtngkpgocjeiheaaW.PrintLast Go.Proofs.YtngkpgocjeiheaaW.PrintMore

/-- the move by lines that wants a column. -/
def vertS (l : List ByteArray) (p0 p1 n want : Int) (up : Bool) : Mv :=
  if PlaceP l p0 p1 ∧ 1 ≤ n ∧ (if up = true then n ≤ p0 else n < l.length - p0) then
    ((if up = true then p0 - n else p0 + n), mn (mn (mx want 0) 1073741824) (mx (((rdOf ByteArray.empty l (if up = true then p0 - n else p0 + n)).size : Int) - 1) 0), 2, false, mn (mx want 0) 1073741824, true)
  else no

theorem line_vert (l : List ByteArray) (hl : l.length ≤ 40) (p0 p1 n : Int) (hn : n < 9223372036854775808) (up : Bool) (k : Nat) (hk : 1 ≤ k) :
    ∃ t b, vert_line.f k l p0 p1 n up = some (t, b) ∧ (b = true ↔ 0 ≤ n ∧ PlaceP l p0 p1 ∧ (if up = true then n ≤ p0 else n < l.length - p0)) ∧ (b = true → t = if up = true then p0 - n else p0 + n) := by
  obtain ⟨k, rfl⟩ : ∃ m, k = m + 1 := ⟨k - 1, by omega⟩
  unfold vert_line.f
  simp only [vert_line.j0]
  by_cases h0 : n < 0
  · rw [if_pos h0, if_pos trivial]
    exact ⟨0, false, rfl, ⟨fun h => (by cases h), fun h => (by omega)⟩, fun h => (by cases h)⟩
  · rw [if_neg h0, place_class]
    simp only [Option.bind_some]
    by_cases hp : PlaceP l p0 p1
    · rw [decide_eq_true hp]
      simp only [Bool.not_true, Bool.false_eq_true, if_false]
      have hp' := hp
      obtain ⟨a1, a2, a3, a4⟩ := hp
      cases up with
      | true =>
        simp only [if_true]
        refine ⟨_, _, rfl, ?_, fun h => w64 (by omega) (by omega)⟩
        rw [decide_eq_true_iff]
        exact ⟨fun h => ⟨by omega, hp', h⟩, fun h => h.2.2⟩
      | false =>
        simp only [Bool.false_eq_true, if_false]
        have e1 : wrap64 ((l.length : Int) - p0) = l.length - p0 := w64 (by omega) (by omega)
        rw [e1]
        refine ⟨_, _, rfl, ?_, fun h => ?_⟩
        · rw [decide_eq_true_iff]
          exact ⟨fun h => ⟨by omega, hp', h⟩, fun h => h.2.2⟩
        · rw [decide_eq_true_iff] at h
          rw [mn_le (by omega)]
          exact w64 (by omega) (by omega)
    · rw [decide_eq_false hp]
      simp only [Bool.not_false, if_true]
      exact ⟨0, false, rfl, ⟨fun h => (by cases h), fun h => absurd h.2.1 hp⟩, fun h => (by cases h)⟩

theorem by_vert {l : List ByteArray} (hl : Small l) (p0 p1 n want : Int) (hn : n < 9223372036854775808) (up : Bool) (k : Nat) (hk : 1 ≤ k) :
    vert_by.f k l p0 p1 n want up = some (vertS l p0 p1 n want up) := by
  obtain ⟨t, b, h1, h2, h3⟩ := line_vert l hl.2.1 p0 p1 n hn up k hk
  unfold vert_by.f vertS
  rw [h1]
  simp only [Option.bind_some]
  cases b with
  | false =>
    rw [if_neg (by decide), if_neg]
    intro h
    exact absurd (h2.2 ⟨by omega, h.1, h.2.2⟩) (by decide)
  | true =>
    obtain ⟨g1, g2, g3⟩ := h2.1 rfl
    have g4 := h3 rfl
    rw [if_pos rfl]
    by_cases h5 : n < 1
    · rw [if_pos h5, if_neg (by omega)]
    · rw [if_neg h5]
      obtain ⟨a1, a2, a3, a4⟩ := id g2
      have ht : 0 ≤ t ∧ t < l.length := by cases up <;> simp at g3 g4 <;> omega
      have hz := hl.at ht.1 ht.2
      rw [if_pos ht.1, if_pos ht.2, if_pos ⟨g2, by omega, g3⟩, ← g4, w64 (by omega) (by omega)]

theorem down_vert {l : List ByteArray} (hl : Small l) (p0 p1 n want : Int) (hn : n < 9223372036854775808) (k : Nat) (hk : 1 ≤ k) :
    vert_Down.f k l p0 p1 n want = some (vertS l p0 p1 n want false) := by
  unfold vert_Down.f
  rw [by_vert hl p0 p1 n want hn false k hk]
  rfl

theorem up_vert {l : List ByteArray} (hl : Small l) (p0 p1 n want : Int) (hn : n < 9223372036854775808) (k : Nat) (hk : 1 ≤ k) :
    vert_Up.f k l p0 p1 n want = some (vertS l p0 p1 n want true) := by
  unfold vert_Up.f
  rw [by_vert hl p0 p1 n want hn true k hk]
  rfl


end Go.Proofs.Ytngkpgocjeiheaa.Pure
namespace Go.Proofs.Ytngkpgocjeiheaa.Pure
open Go.RowKit Go.Proofs.Ytngkpgocjeiheaa.V Go.Proofs.YtngkpgocjeiheaaW.PrintWords Go.Proofs.YtngkpgocjeiheaaW.PrintLast Go.Proofs.YtngkpgocjeiheaaW.PrintMore

theorem of_class (k : Nat) (c : Int) (b : Bool) (hk : 5 ≤ k) : class_Of.f k c b = some (ofS c b) := by
  obtain ⟨k, rfl⟩ : ∃ m, k = m + 1 + 1 + 1 + 1 + 1 := ⟨k - 5, by omega⟩
  unfold class_Of.f
  simp only [class_Of.j0, class_Of.j1, class_Of.j2, class_Of.j3]
  by_cases h1 : c = 32
  · subst h1; simp [ofS]
  · rw [if_neg h1]
    by_cases h2 : c = 9
    · subst h2; simp [ofS]
    · have h3 : (c == 9) = false := by simpa using h2
      rw [ofS_else h1 h2]
      simp only [h3, Bool.false_eq_true, if_false]
      cases b with
      | true => rfl
      | false =>
        simp only [Bool.false_eq_true, if_false]
        (repeat' split) <;> first | rfl | (exfalso; (try simp only [decide_eq_true_eq] at *); omega)

theorem of_ref (k : Nat) (c : Int) (b : Bool) (hk : 1 ≤ k) : foolscapref5_Of.f k c b = some (ofS c b) := by
  obtain ⟨k, rfl⟩ : ∃ m, k = m + 1 := ⟨k - 1, by omega⟩
  unfold foolscapref5_Of.f
  simp only [foolscapref5_Of.j0]
  by_cases h1 : c = 32
  · subst h1; simp [ofS]
  · rw [if_neg h1]
    by_cases h2 : c = 9
    · subst h2; simp [ofS]
    · have h3 : (c == 9) = false := by simpa using h2
      rw [ofS_else h1 h2]
      simp only [h3, Bool.false_eq_true, if_false]
      cases b with
      | true => rfl
      | false =>
        simp only [Bool.false_eq_true, if_false]
        (repeat' split) <;> first | rfl | (exfalso; omega)

/-- the first byte that is no blank, from i on. -/
def firstS (s : ByteArray) (i : Nat) : Int :=
  if i < s.size then (if ofS (bt s i) true = 0 then firstS s (i + 1) else i) else mx ((s.size : Int) - 1) 0
termination_by s.size - i

theorem first_class_l (s : ByteArray) (hs : s.size ≤ 140737488351232) (d : Nat) : ∀ (k i : Nat), i ≤ s.size → s.size - i = d → d + 6 ≤ k →
    class_First.l0 k s (s.size : Int) (i : Int) = some (firstS s i) := by
  induction d with
  | zero =>
    intro k i hi hd hk
    obtain ⟨k, rfl⟩ : ∃ m, k = m + 1 := ⟨k - 1, by omega⟩
    simp only [class_First.l0]
    unfold firstS
    rw [if_neg (by omega), if_neg (by omega), w64 (by omega) (by omega)]
  | succ d ih =>
    intro k i hi hd hk
    obtain ⟨k, rfl⟩ : ∃ m, k = m + 1 := ⟨k - 1, by omega⟩
    simp only [class_First.l0]
    unfold firstS
    rw [if_pos (by omega), if_pos (by omega), if_pos (by omega), if_pos (by omega), of_class k _ _ (by omega)]
    simp only [Option.bind_some]
    split
    · rw [w64 (by omega) (by omega)]
      exact ih k (i + 1) (by omega) (by omega) (by omega)
    · rfl

theorem first_class (s : ByteArray) (hs : s.size ≤ 140737488351232) (k : Nat) (hk : s.size + 6 ≤ k) : class_First.f k s = some (firstS s 0) := by
  unfold class_First.f
  exact first_class_l s hs s.size k 0 (by omega) (by omega) (by omega)

theorem first_ref_l (s : ByteArray) (hs : s.size ≤ 140737488351232) (d : Nat) : ∀ (k i : Nat), i ≤ s.size → s.size - i = d → d + 6 ≤ k →
    foolscapref5_First.l0 k s (i : Int) = some (firstS s i) := by
  induction d with
  | zero =>
    intro k i hi hd hk
    obtain ⟨k, rfl⟩ : ∃ m, k = m + 1 := ⟨k - 1, by omega⟩
    simp only [foolscapref5_First.l0]
    unfold firstS
    rw [if_neg (by omega), if_neg (by omega), w64 (by omega) (by omega)]
  | succ d ih =>
    intro k i hi hd hk
    obtain ⟨k, rfl⟩ : ∃ m, k = m + 1 := ⟨k - 1, by omega⟩
    simp only [foolscapref5_First.l0]
    unfold firstS
    rw [if_pos (by omega), if_pos (by omega), if_pos (by omega), of_ref k _ _ (by omega)]
    simp only [Option.bind_some]
    split
    · rw [w64 (by omega) (by omega)]
      exact ih k (i + 1) (by omega) (by omega) (by omega)
    · rfl

theorem first_ref (s : ByteArray) (hs : s.size ≤ 140737488351232) (k : Nat) (hk : s.size + 6 ≤ k) : foolscapref5_First.f k s = some (firstS s 0) := by
  unfold foolscapref5_First.f
  exact first_ref_l s hs s.size k 0 (by omega) (by omega) (by omega)



end Go.Proofs.Ytngkpgocjeiheaa.Pure
namespace Go.Proofs.Ytngkpgocjeiheaa.Pure
open Go.RowKit Go.Proofs.Ytngkpgocjeiheaa.V Go.Proofs.YtngkpgocjeiheaaW.PrintWords Go.Proofs.YtngkpgocjeiheaaW.PrintLast Go.Proofs.YtngkpgocjeiheaaW.PrintMore

/-- the move to a line. -/
def lineS (l : List ByteArray) (t : Int) (jump : Bool) : Mv :=
  if 0 ≤ t ∧ t < l.length then (t, firstS (rdOf ByteArray.empty l t) 0, 2, jump, -1, true) else no

theorem first_vert {l : List ByteArray} (hl : Small l) {t : Int} (h0 : 0 ≤ t) (h1 : t < l.length) (k : Nat) (hk : 1300 ≤ k) :
    vert_first.f k l t = some (t, firstS (rdOf ByteArray.empty l t) 0, 2, false, -1) := by
  have hz := hl.at h0 h1
  unfold vert_first.f
  rw [if_pos h0, if_pos h1, first_class _ (by omega) k (by omega)]
  rfl


end Go.Proofs.Ytngkpgocjeiheaa.Pure
namespace Go.Proofs.Ytngkpgocjeiheaa.Pure
open Go.RowKit Go.Proofs.Ytngkpgocjeiheaa.V Go.Proofs.YtngkpgocjeiheaaW.PrintWords Go.Proofs.YtngkpgocjeiheaaW.PrintLast Go.Proofs.YtngkpgocjeiheaaW.PrintMore

theorem goto_vert {l : List ByteArray} (hl : Small l) (p0 p1 n : Int) (k : Nat) (hk : 1300 ≤ k) :
    vert_Goto.f k l p0 p1 n = some (if 1 ≤ n ∧ PlaceP l p0 p1 then lineS l (n - 1) true else no) := by
  unfold vert_Goto.f
  have h40 := hl.2.1
  by_cases h : n < 1
  · rw [if_pos h, if_neg (by omega)]
  · rw [if_neg h]
    by_cases h2 : n > l.length
    · rw [if_pos h2]
      unfold lineS
      split
      · rw [if_neg (by omega)]
      · rfl
    · rw [if_neg h2, place_class]
      simp only [Option.bind_some]
      by_cases hp : PlaceP l p0 p1
      · rw [decide_eq_true hp, if_pos rfl, w64 (by omega) (by omega), first_vert hl (t := n - 1) (by omega) (by omega) k hk, if_pos ⟨by omega, hp⟩]
        unfold lineS
        rw [if_pos (by omega)]
        rfl
      · rw [decide_eq_false hp, if_neg (by decide), if_neg (fun h => hp h.2)]


end Go.Proofs.Ytngkpgocjeiheaa.Pure
namespace Go.Proofs.Ytngkpgocjeiheaa.Pure
open Go.RowKit Go.Proofs.Ytngkpgocjeiheaa.V Go.Proofs.YtngkpgocjeiheaaW.PrintWords Go.Proofs.YtngkpgocjeiheaaW.PrintLast Go.Proofs.YtngkpgocjeiheaaW.PrintMore

theorem place_ref (l : List ByteArray) (a b : Int) : foolscapref5_Place.f l a b = some (decide (PlaceP l a b)) := place_class l a b

theorem may_ref (l : List ByteArray) (a b n : Int) : foolscapref5_may.f l a b n = some (decide (PlaceP l a b ∧ 1 ≤ n)) := by
  unfold foolscapref5_may.f
  rw [place_ref]
  simp only [Option.bind_some]
  by_cases h : PlaceP l a b
  · rw [decide_eq_true h, if_pos rfl]
    congr 1
    simp only [decide_eq_decide]
    exact ⟨fun h2 => ⟨h, h2⟩, fun h2 => h2.2⟩
  · rw [decide_eq_false h, if_neg (by decide), decide_eq_false (fun h2 => h h2.1)]


end Go.Proofs.Ytngkpgocjeiheaa.Pure
namespace Go.Proofs.Ytngkpgocjeiheaa.Pure
open Go.RowKit Go.Proofs.Ytngkpgocjeiheaa.V Go.Proofs.YtngkpgocjeiheaaW.PrintWords Go.Proofs.YtngkpgocjeiheaaW.PrintLast Go.Proofs.YtngkpgocjeiheaaW.PrintMore

theorem line_ref {l : List ByteArray} (hl : Small l) (t : Int) (jump : Bool) (k : Nat) (hk : 1300 ≤ k) :
    foolscapref5_line.f k l t jump = some (lineS l t jump) := by
  obtain ⟨k, rfl⟩ : ∃ m, k = m + 1 := ⟨k - 1, by omega⟩
  unfold foolscapref5_line.f lineS
  simp only [foolscapref5_line.j0, foolscapref5_none.f, Option.bind_some]
  by_cases h0 : t < 0
  · rw [if_pos h0, if_pos trivial, if_neg (by omega)]
  · rw [if_neg h0]
    by_cases h1 : t ≥ l.length
    · rw [decide_eq_true h1, if_pos rfl, if_neg (by omega)]
    · have hz := hl.at (j := t) (by omega) (by omega)
      rw [decide_eq_false h1, if_neg (by decide), if_pos (by omega), if_pos (by omega), if_pos (by omega), first_ref _ (by omega) k (by omega)]
      rfl


end Go.Proofs.Ytngkpgocjeiheaa.Pure
namespace Go.Proofs.Ytngkpgocjeiheaa.Pure
open Go.RowKit Go.Proofs.Ytngkpgocjeiheaa.V Go.Proofs.YtngkpgocjeiheaaW.PrintWords Go.Proofs.YtngkpgocjeiheaaW.PrintLast Go.Proofs.YtngkpgocjeiheaaW.PrintMore

theorem capped_small (n : Int) : (n ≤ 1073741824 ∧ mn n 1073741824 = n) ∨ (1073741824 < n ∧ mn n 1073741824 = 1073741824) := by
  by_cases h : n ≤ 1073741824
  · exact .inl ⟨h, mn_le h⟩
  · exact .inr ⟨by omega, mn_ge (by omega)⟩

theorem vertical_ref {l : List ByteArray} (hl : Small l) (p0 p1 n want : Int) (up : Bool) (k : Nat) (hk : 2 ≤ k) :
    foolscapref5_Vertical.f k l p0 p1 n want up = some (vertS l p0 p1 n want up) := by
  obtain ⟨k, rfl⟩ : ∃ m, k = m + 1 + 1 := ⟨k - 2, by omega⟩
  unfold foolscapref5_Vertical.f vertS
  rw [may_ref]
  simp only [Option.bind_some, foolscapref5_Vertical.j0, foolscapref5_Vertical.j1, foolscapref5_none.f, foolscapref5_capped.f, foolscapref5_last.f]
  by_cases hp : PlaceP l p0 p1 ∧ 1 ≤ n
  · rw [decide_eq_true hp, if_pos rfl]
    obtain ⟨hp, h1⟩ := hp
    have hp' := hp
    obtain ⟨a1, a2, a3, a4⟩ := hp
    have hc := capped_small n
    have h40 := hl.2.1
    cases up with
    | true =>
      simp only [if_true]
      rw [w64 (x := p0 - mn n 1073741824) (by omega) (by omega)]
      by_cases h2 : n ≤ p0
      · rw [if_neg (by omega), decide_eq_false (by omega), if_neg (by decide), if_pos (by omega), if_pos (by omega), if_pos ⟨hp', h1, h2⟩]
        have hm : mn n 1073741824 = n := by omega
        have hz := hl.at (j := p0 - n) (by omega) (by omega)
        rw [hm, w64 (by omega) (by omega)]
      · rw [if_pos (by omega), if_neg (by omega)]
    | false =>
      simp only [Bool.false_eq_true, if_false]
      rw [w64 (x := p0 + mn n 1073741824) (by omega) (by omega)]
      by_cases h2 : n < l.length - p0
      · have hm : mn n 1073741824 = n := by omega
        have hz := hl.at (j := p0 + n) (by omega) (by omega)
        rw [hm, if_neg (by omega), decide_eq_false (by omega), if_neg (by decide), if_pos (by omega), if_pos (by omega), if_pos ⟨hp', h1, h2⟩, w64 (by omega) (by omega)]
      · rw [if_neg (by omega), decide_eq_true (by omega), if_pos rfl, if_neg (by omega)]
  · rw [decide_eq_false hp, if_neg (by decide), if_neg (fun h => hp ⟨h.1, h.2.1⟩)]

theorem firstBy_vert {l : List ByteArray} (hl : Small l) (p0 p1 n : Int) (hn : n < 9223372036854775808) (up : Bool) (k : Nat) (hk : 1300 ≤ k) :
    vert_firstBy.f k l p0 p1 n up = some (if 0 ≤ n ∧ PlaceP l p0 p1 then lineS l (if up = true then p0 - n else p0 + n) false else no) := by
  obtain ⟨t, b, h1, h2, h3⟩ := line_vert l hl.2.1 p0 p1 n hn up k (by omega)
  unfold vert_firstBy.f lineS
  rw [h1]
  simp only [Option.bind_some]
  cases b with
  | false =>
    rw [if_neg (by decide)]
    by_cases hp : 0 ≤ n ∧ PlaceP l p0 p1
    · rw [if_pos hp, if_neg]
      intro h
      refine absurd (h2.2 ⟨hp.1, hp.2, ?_⟩) (by decide)
      cases up <;> simp at h ⊢ <;> omega
    · rw [if_neg hp]
  | true =>
    obtain ⟨g1, g2, g3⟩ := h2.1 rfl
    have g4 := h3 rfl
    obtain ⟨a1, a2, a3, a4⟩ := id g2
    have ht : 0 ≤ t ∧ t < l.length := by cases up <;> simp at g3 g4 <;> omega
    rw [if_pos rfl, first_vert hl ht.1 ht.2 k hk, if_pos ⟨g1, g2⟩, ← g4, if_pos ht]
    rfl

theorem plus_vert {l : List ByteArray} (hl : Small l) (p0 p1 n : Int) (hn : n < 9223372036854775808) (k : Nat) (hk : 1300 ≤ k) :
    vert_Plus.f k l p0 p1 n = some (if 1 ≤ n ∧ PlaceP l p0 p1 then lineS l (p0 + n) false else no) := by
  unfold vert_Plus.f
  rw [firstBy_vert hl p0 p1 n hn false k hk]
  by_cases h : n < 1
  · rw [if_pos h, if_neg (by omega)]
  · rw [if_neg h]
    simp only [Option.bind_some, Bool.false_eq_true, if_false]
    by_cases hp : PlaceP l p0 p1
    · rw [if_pos ⟨by omega, hp⟩, if_pos ⟨by omega, hp⟩]
    · rw [if_neg (fun h => hp h.2), if_neg (fun h => hp h.2)]

theorem minus_vert {l : List ByteArray} (hl : Small l) (p0 p1 n : Int) (hn : n < 9223372036854775808) (k : Nat) (hk : 1300 ≤ k) :
    vert_Minus.f k l p0 p1 n = some (if 1 ≤ n ∧ PlaceP l p0 p1 then lineS l (p0 - n) false else no) := by
  unfold vert_Minus.f
  rw [firstBy_vert hl p0 p1 n hn true k hk]
  by_cases h : n < 1
  · rw [if_pos h, if_neg (by omega)]
  · rw [if_neg h]
    simp only [Option.bind_some, if_true]
    by_cases hp : PlaceP l p0 p1
    · rw [if_pos ⟨by omega, hp⟩, if_pos ⟨by omega, hp⟩]
    · rw [if_neg (fun h => hp h.2), if_neg (fun h => hp h.2)]

theorem under_vert {l : List ByteArray} (hl : Small l) (p0 p1 n : Int) (hn : n < 9223372036854775808) (k : Nat) (hk : 1300 ≤ k) :
    vert_Under.f k l p0 p1 n = some (if 1 ≤ n ∧ PlaceP l p0 p1 then lineS l (p0 + n - 1) false else no) := by
  unfold vert_Under.f
  by_cases h : n < 1
  · rw [if_pos h, if_neg (by omega)]
  · rw [if_neg h, w64 (by omega) (by omega), firstBy_vert hl p0 p1 (n - 1) (by omega) false k hk]
    simp only [Option.bind_some, Bool.false_eq_true, if_false]
    by_cases hp : PlaceP l p0 p1
    · rw [if_pos ⟨by omega, hp⟩, if_pos ⟨by omega, hp⟩, show p0 + n - 1 = p0 + (n - 1) by omega]
    · rw [if_neg (fun h => hp h.2), if_neg (fun h => hp h.2)]

/-- a count that is cut at 2^30 leads to no other line. -/
theorem lineS_far {l : List ByteArray} {a b : Int} (jump : Bool) (h : a = b ∨ (a < 0 ∨ l.length ≤ a) ∧ (b < 0 ∨ l.length ≤ b)) : lineS l a jump = lineS l b jump := by
  rcases h with rfl | ⟨h1, h2⟩
  · rfl
  · unfold lineS
    rw [if_neg (by omega), if_neg (by omega)]

theorem plus_ref {l : List ByteArray} (hl : Small l) (p0 p1 n : Int) (k : Nat) (hk : 1300 ≤ k) :
    foolscapref5_Plus.f k l p0 p1 n = some (if 1 ≤ n ∧ PlaceP l p0 p1 then lineS l (p0 + n) false else no) := by
  unfold foolscapref5_Plus.f
  rw [may_ref]
  simp only [Option.bind_some, foolscapref5_none.f, foolscapref5_capped.f]
  by_cases hp : PlaceP l p0 p1 ∧ 1 ≤ n
  · rw [decide_eq_true hp, if_pos rfl, line_ref hl _ false k hk, if_pos ⟨hp.2, hp.1⟩]
    obtain ⟨⟨a1, a2, a3, a4⟩, h1⟩ := hp
    have hc := capped_small n
    have h40 := hl.2.1
    simp only [Option.bind_some]
    rw [w64 (by omega) (by omega), lineS_far (b := p0 + n) false (by omega)]
  · rw [decide_eq_false hp, if_neg (by decide), if_neg (fun h => hp ⟨h.2, h.1⟩)]

theorem minus_ref {l : List ByteArray} (hl : Small l) (p0 p1 n : Int) (k : Nat) (hk : 1300 ≤ k) :
    foolscapref5_Minus.f k l p0 p1 n = some (if 1 ≤ n ∧ PlaceP l p0 p1 then lineS l (p0 - n) false else no) := by
  unfold foolscapref5_Minus.f
  rw [may_ref]
  simp only [Option.bind_some, foolscapref5_none.f, foolscapref5_capped.f]
  by_cases hp : PlaceP l p0 p1 ∧ 1 ≤ n
  · rw [decide_eq_true hp, if_pos rfl, line_ref hl _ false k hk, if_pos ⟨hp.2, hp.1⟩]
    obtain ⟨⟨a1, a2, a3, a4⟩, h1⟩ := hp
    have hc := capped_small n
    have h40 := hl.2.1
    simp only [Option.bind_some]
    rw [w64 (by omega) (by omega), lineS_far (b := p0 - n) false (by omega)]
  · rw [decide_eq_false hp, if_neg (by decide), if_neg (fun h => hp ⟨h.2, h.1⟩)]

theorem under_ref {l : List ByteArray} (hl : Small l) (p0 p1 n : Int) (k : Nat) (hk : 1300 ≤ k) :
    foolscapref5_Under.f k l p0 p1 n = some (if 1 ≤ n ∧ PlaceP l p0 p1 then lineS l (p0 + n - 1) false else no) := by
  unfold foolscapref5_Under.f
  rw [may_ref]
  simp only [Option.bind_some, foolscapref5_none.f, foolscapref5_capped.f]
  by_cases hp : PlaceP l p0 p1 ∧ 1 ≤ n
  · rw [decide_eq_true hp, if_pos rfl, line_ref hl _ false k hk, if_pos ⟨hp.2, hp.1⟩]
    obtain ⟨⟨a1, a2, a3, a4⟩, h1⟩ := hp
    have hc := capped_small n
    have h40 := hl.2.1
    simp only [Option.bind_some]
    rw [w64 (x := p0 + mn n 1073741824) (by omega) (by omega), w64 (by omega) (by omega), lineS_far (b := p0 + n - 1) false (by omega)]
  · rw [decide_eq_false hp, if_neg (by decide), if_neg (fun h => hp ⟨h.2, h.1⟩)]

theorem goto_ref {l : List ByteArray} (hl : Small l) (p0 p1 n : Int) (k : Nat) (hk : 1300 ≤ k) :
    foolscapref5_Goto.f k l p0 p1 n = some (if 1 ≤ n ∧ PlaceP l p0 p1 then lineS l (n - 1) true else no) := by
  unfold foolscapref5_Goto.f
  rw [may_ref]
  simp only [Option.bind_some, foolscapref5_none.f, foolscapref5_capped.f]
  by_cases hp : PlaceP l p0 p1 ∧ 1 ≤ n
  · rw [decide_eq_true hp, if_pos rfl, line_ref hl _ true k hk, if_pos ⟨hp.2, hp.1⟩]
    have hc := capped_small n
    have h40 := hl.2.1
    simp only [Option.bind_some]
    rw [w64 (by omega) (by omega), lineS_far (b := n - 1) true (by omega)]
  · rw [decide_eq_false hp, if_neg (by decide), if_neg (fun h => hp ⟨h.2, h.1⟩)]

theorem same_self (r : Mv) : foolscaplaw9_same.f r.1 r.2.1 r.2.2.1 r.2.2.2.1 r.2.2.2.2.1 r.2.2.2.2.2 r.1 r.2.1 r.2.2.1 r.2.2.2.1 r.2.2.2.2.1 r.2.2.2.2.2 = some true := by
  unfold foolscaplaw9_same.f
  rw [if_pos (by simp)]
  simp


end Go.Proofs.Ytngkpgocjeiheaa.Pure
namespace Go.Proofs.Ytngkpgocjeiheaa.Pure
open Go.RowKit Go.Proofs.Ytngkpgocjeiheaa.V Go.Proofs.YtngkpgocjeiheaaW.PrintWords Go.Proofs.YtngkpgocjeiheaaW.PrintLast Go.Proofs.YtngkpgocjeiheaaW.PrintMore

theorem move_l1 {l : List ByteArray} (hl : Small l) (n want : Int) (ps : List S24) (pn pi : Int) (ns : List Int) (ht : ns.length ≤ 100) (hns : ∀ j : Int, rd ns j < 9223372036854775808) (p0 p1 : Int) (K : Nat) (hK : 1400 ≤ K)
    (H : ∀ k, K ≤ k → foolscaplaw9_VertMove.l0 k l n want ps pn (wrap64 (pi + 1)) = some true) (d : Nat) :
    ∀ (k j : Nat), j ≤ ns.length → ns.length - j = d → K + d + 1 ≤ k → foolscaplaw9_VertMove.l1 k l n want ps pn pi ns (ns.length : Int) (j : Int) p0 p1 = some true := by
  induction d with
  | zero =>
    intro k j hj hd hk
    obtain ⟨k, rfl⟩ : ∃ m, k = m + 1 := ⟨k - 1, by omega⟩
    simp only [foolscaplaw9_VertMove.l1]
    rw [if_neg (by omega)]
    exact H k (by omega)
  | succ d ih =>
    intro k j hj hd hk
    obtain ⟨k, rfl⟩ : ∃ m, k = m + 1 := ⟨k - 1, by omega⟩
    have hn := hns j
    simp only [foolscaplaw9_VertMove.l1]
    rw [if_pos (by omega), if_pos (by omega), if_pos (by omega), down_vert hl p0 p1 _ want hn k (by omega), vertical_ref hl p0 p1 _ want false k (by omega)]
    simp only [Option.bind_some]
    rw [same_self]
    simp only [Option.bind_some, if_true]
    rw [up_vert hl p0 p1 _ _ hn k (by omega), vertical_ref hl p0 p1 _ _ true k (by omega)]
    simp only [Option.bind_some]
    rw [same_self]
    simp only [Option.bind_some, if_true]
    rw [plus_vert hl p0 p1 _ hn k (by omega), plus_ref hl p0 p1 _ k (by omega)]
    simp only [Option.bind_some]
    rw [same_self]
    simp only [Option.bind_some, if_true]
    rw [minus_vert hl p0 p1 _ hn k (by omega), minus_ref hl p0 p1 _ k (by omega)]
    simp only [Option.bind_some]
    rw [same_self]
    simp only [Option.bind_some, if_true]
    rw [under_vert hl p0 p1 _ hn k (by omega), under_ref hl p0 p1 _ k (by omega)]
    simp only [Option.bind_some]
    rw [same_self]
    simp only [Option.bind_some, if_true]
    rw [goto_vert hl p0 p1 _ k (by omega), goto_ref hl p0 p1 _ k (by omega)]
    simp only [Option.bind_some]
    rw [same_self]
    simp only [Option.bind_some, if_true]
    rw [w64 (by omega) (by omega)]
    exact ih k (j + 1) (by omega) (by omega) (by omega)

theorem move_counts {n : Int} (h : n < 9223372036854775808) (j : Int) : rd [n, Int.tmod n 9, 1] j < 9223372036854775808 := by
  have e : Int.tmod n 9 < 9 := Int.tmod_lt_of_pos n (by omega)
  unfold rd
  rcases h : j.toNat with _ | _ | _ | m <;> simp <;> omega

theorem move_l0 {l : List ByteArray} (hl : Small l) (n want : Int) (hn : n < 9223372036854775808) (ps : List S24) (ht : ps.length ≤ 100) (d : Nat) :
    ∀ (k j : Nat), j ≤ ps.length → ps.length - j = d → 1400 + 30 * d + 1 ≤ k → foolscaplaw9_VertMove.l0 k l n want ps (ps.length : Int) (j : Int) = some true := by
  induction d with
  | zero =>
    intro k j hj hd hk
    obtain ⟨k, rfl⟩ : ∃ m, k = m + 1 := ⟨k - 1, by omega⟩
    simp only [foolscaplaw9_VertMove.l0]
    rw [if_neg (by omega)]
  | succ d ih =>
    intro k j hj hd hk
    obtain ⟨k, rfl⟩ : ∃ m, k = m + 1 := ⟨k - 1, by omega⟩
    simp only [foolscaplaw9_VertMove.l0]
    rw [if_pos (by omega), if_pos (by omega), if_pos (by omega)]
    simp only [Option.bind_some]
    refine move_l1 hl n want ps _ _ [n, Int.tmod n 9, 1] (by simp) (move_counts hn) _ _ (1400 + 30 * d + 1) (by omega) (fun k hk => ?_) 3 k 0 (by simp) (by simp) (by omega)
    rw [w64 (by omega) (by omega)]
    exact ih k (j + 1) (by omega) (by omega) (by omega)

theorem VertMove (l0 : List ByteArray) (a1_0 a1_1 : Int) (a2 a3 a4 a5 : Int) (_ : l0.length * 16 ≤ 140737488351232) (hs0 : ∀ s ∈ l0, s.size ≤ 140737488351232) (_ : (Lit.int .i64 a1_0).wf = true) (_ : (Lit.int .i64 a1_1).wf = true)
    (w2 : (Lit.int .u16 a2).wf = true) (w3 : (Lit.int .u16 a3).wf = true) (w4 : (Lit.int .i64 a4).wf = true) (_ : (Lit.int .i64 a5).wf = true) : ∃ k, foolscaplaw9_VertMove.f k l0 a1_0 a1_1 a2 a3 a4 a5 = some true := by
  obtain ⟨k, hk⟩ : ∃ k : Nat, 60000 ≤ k := ⟨60000, Nat.le_refl _⟩
  refine ⟨k, ?_⟩
  unfold foolscaplaw9_VertMove.f
  obtain ⟨b, hb, ht⟩ := text_tells l0 hs0 k (by omega)
  rw [known_true k (by omega)]
  simp only [Option.bind_some, if_true]
  rw [hb]
  simp only [Option.bind_some]
  cases b with
  | false => rfl
  | true =>
    have g2 := bounds_u16 w2
    have g3 := bounds_u16 w3
    have g4 := bounds_i64 w4
    obtain ⟨x, y, h1, -⟩ := seat_place (ht rfl) a2 a3 g2.1 g2.2 g3.1 g3.2
    rw [if_pos rfl, h1]
    simp only [Option.bind_some]
    exact move_l0 (ht rfl) a4 a5 (by omega) [⟨a1_0, a1_1⟩, ⟨x, y⟩] (by simp) 2 k 0 (by simp) (by simp) (by omega)

end Go.Proofs.Ytngkpgocjeiheaa.Pure
namespace Go.Proofs.Ytngkpgocjeiheaa.vertMove
open Go.ChangeShapes Go.WideShapes Go.ChangeAt Go.RowKit Go.Proofs.YtngkpgocjeiheaaW.PrintWords
open Go.ChangeMaps (open_string shut_string)
set_option linter.unusedVariables false
theorem own : ownKnob Try.prog.godebug = none := by kernel_rfl
theorem laidOut : laidOutB Try.prog = true := by kernel_rfl
theorem weightsAll_mem {H : Type} {P : Program} {e : TypeId} {n : Nat} : ∀ {l : List (DataW H)} {d : DataW H}, d ∈ l → n ∈ d.weights P e → n ∈ DataW.weightsAll P e l
  | x :: r, d, hd, hn => by
    simp only [DataW.weightsAll, List.mem_append]
    rcases List.mem_cons.1 hd with rfl | h
    · exact Or.inl hn
    · exact Or.inr (weightsAll_mem h hn)
  | [], _, hd, _ => by simp at hd
theorem open_lines {H : Type} {enc : TypeId × Value → H} {P : Program} {W : World} {base : Nat} {held : Bool} {t e : TypeId} {a : Option Addr} {len cap : Nat} {d : DataW H} {ps : List MemPlace} {ts : List TypeId} {ds : List (DataW H)} {j : Nat}
    (hsz : (DataW.weightsEach P ts ds).all (· ≤ reachBytes) = true) (ht : ts[j]? = some t) (hd : ds[j]? = some d) (hu : P.underlying t = some (.slice e)) (he : P.underlying e = some .string) (hc : P.cellsOf e = 1) (hB : P.bytesOf e = 16)
    (h : DataW.Trod enc P W base (fun _ => true) held t (.slice a len cap) d ps) :
    ∃ l : List ByteArray, len = l.length ∧ ReadsOf Value.string ByteArray.empty W a l.length l ∧ l.length ≤ cap ∧ l.length * 16 ≤ 140737488351232 ∧ ∀ s ∈ l, s.size ≤ 140737488351232 := by
  obtain ⟨fuel, hf⟩ := h
  rcases open_strings hu he hc hf with ⟨hcs, _⟩ | ⟨x, l, c, ss, hcs, _, hl, hm, hz, hx, hcell, _⟩
  · simp [Value.cells] at hcs
    obtain ⟨rfl, rfl, rfl⟩ := hcs
    exact ⟨[], rfl, ReadsOf.nil _ _ _, by simp, by simp, by simp⟩
  · simp [Value.cells] at hcs
    obtain ⟨rfl, rfl, rfl⟩ := hcs
    obtain ⟨hx, _⟩ := Prod.mk.inj hx
    subst hx
    have z := sized_slice hsz ht hd hu
    rw [hB] at z
    have hz : ss.length = cap := by simpa using hz
    have hl2 : (ss.take len).length = len := by rw [List.length_take]; omega
    have z1 : (strs (H := H) (ss.take len)).length + (strs (H := H) (ss.drop len)).length = ss.length := by simp only [strs, List.length_map, List.length_take, List.length_drop]; omega
    rw [z1] at z
    have z : ss.length * 16 ≤ 140737488351232 := z
    unfold maxLen at hm
    refine ⟨ss.take len, hl2.symm, ⟨rfl, by omega, fun hn => ⟨x, rfl, fun i hi => ?_⟩⟩, by omega, by omega, fun s hs => ?_⟩
    · rw [hl2] at hi
      rw [hcell i (by omega)]
      simp only [List.getD]
      rw [List.getElem?_take_of_lt hi]
    · have := List.all_eq_true.1 hsz _ (DataW.weights_mem_each ht hd s.data.toList.length (by
        simp only [DataW.weights, hu]
        refine List.mem_cons_of_mem _ (List.mem_append_left _ (weightsAll_mem (d := .lit (.string s.data.toList)) ?_ (by simp [DataW.weights])))
        exact List.mem_map.2 ⟨s, hs, rfl⟩))
      have := of_decide_eq_true this
      rw [Array.length_toList] at this
      exact this
set_option maxRecDepth 100000 in
theorem lifted (os : Os) (started : os.Started) (H : Type) (enc : TypeId × Value → H) :
    ReturnsInHanded {} Try.checked os 7 .any (Rows.vertMoveSpec.pre6 enc Try.prog Try.f7 Rows.vertMoveRow.domain false) (Rows.vertMoveSpec.post enc Try.prog Try.f7 false true false false) := by
  refine returnsInHanded_of_change_sized (C := Try.checked) own started (by kernel_rfl) Try.func7
    (ChangeSpec.witness6 (enc := enc) (C := Try.checked) false ⟨#[], #[.slice none 0 0, .agg #[.int .i64 0, .int .i64 0], .int .u16 0, .int .u16 0, .int .i64 0, .int .i64 0], []⟩ 8 (by kernel_rfl) (by kernel_rfl) (by kernel_rfl) (by kernel_rfl)) ?_
  intro W base args ds gs before hval0 hW hcnd hsz0 _
  have hsz : (DataW.weightsEach Try.prog (Try.f7.params.toList ++ Rows.vertMoveSpec.plain.varTypes Try.prog) (ds ++ gs)).all (· ≤ reachBytes) = true := hsz0
  have hval : ∀ (j : Nat) t v, Try.f7.params[j]? = some t → args[j]? = some v → Value.okWide Try.prog W .any base t v := hval0
  have hW' := hW
  obtain ⟨p, q, hA0, hV, rfl, hfz, hnd⟩ := hW
  have hA : DataW.TrodAll enc Try.prog W 0 (fun _ => true) true Try.f7.params.toList args.toList ds p := hA0
  rw [Try.params7] at hA hval hsz
  obtain ⟨v0, vs0, d0, ds0, p0, q0, hargs, rfl, rfl, h0, r0⟩ := trodAll_cons hA
  obtain ⟨v1, vs1, d1, ds1, p1, q1, rfl, rfl, rfl, h1, r1⟩ := trodAll_cons r0
  obtain ⟨v2, vs2, d2, ds2, p2, q2, rfl, rfl, rfl, h2, r2⟩ := trodAll_cons r1
  obtain ⟨v3, vs3, d3, ds3, p3, q3, rfl, rfl, rfl, h3, r3⟩ := trodAll_cons r2
  obtain ⟨v4, vs4, d4, ds4, p4, q4, rfl, rfl, rfl, h4, r4⟩ := trodAll_cons r3
  obtain ⟨v5, vs5, d5, ds5, p5, q5, rfl, rfl, rfl, h5, r5⟩ := trodAll_cons r4
  obtain ⟨rfl, rfl, rfl⟩ := trodAll_nil r5
  obtain rfl : args = #[v0, v1, v2, v3, v4, v5] := by cases args; simp_all
  obtain ⟨rfl, rfl⟩ := trodVars_none hV
  obtain ⟨a0, len0, cap0, rfl⟩ := okWide_slice Try.underlying22 (hval 0 22 v0 rfl rfl)
  have k0 := h0
  have lt0 : ∀ x ∈ p0, x.block < W.heap.size := by obtain ⟨m, hm⟩ := k0; exact DataW.trod_lt m _ _ _ hm
  obtain ⟨l0, rfl, hr0, hc0, hl0, hs0⟩ := open_lines hsz (j := 0) (t := 22) rfl rfl Try.underlying22 Try.underlying9 (by kernel_rfl) (by kernel_rfl) h0
  have k1 := h1
  have lt1 : ∀ x ∈ p1, x.block < W.heap.size := by obtain ⟨m, hm⟩ := k1; exact DataW.trod_lt m _ _ _ hm
  obtain ⟨c10, c11, y10, y11, m1, rfl, hdd1, hpp1, hy10, hy11⟩ := Go.Joins.open_agg2 Try.underlying24 (by kernel_rfl) (by kernel_rfl) (hval 1 24 v1 rfl rfl) h1
  obtain ⟨a1_0, e10, -, w1_0⟩ := DataW.trod_int Try.underlying3 hy10
  obtain ⟨a1_1, e11, -, w1_1⟩ := DataW.trod_int Try.underlying3 hy11
  simp only [List.cons.injEq, and_true] at e10 e11
  subst e10
  subst e11
  obtain ⟨a2, rfl, rfl, rfl, w2⟩ := open_int Try.underlying25 (hval 2 25 v2 rfl rfl) h2
  obtain ⟨a3, rfl, rfl, rfl, w3⟩ := open_int Try.underlying25 (hval 3 25 v3 rfl rfl) h3
  obtain ⟨a4, rfl, rfl, rfl, w4⟩ := open_int Try.underlying3 (hval 4 3 v4 rfl rfl) h4
  obtain ⟨a5, rfl, rfl, rfl, w5⟩ := open_int Try.underlying3 (hval 5 3 v5 rfl rfl) h5
  clear hA0 hval0 hsz0 hsz
  obtain ⟨k, h⟩ := Pure.VertMove l0 a1_0 a1_1 a2 a3 a4 a5 hl0 hs0 w1_0 w1_1 w2 w3 w4 w5
  refine (V.foolscaplaw9_VertMove.calls k _ _ l0 a1_0 a1_1 a2 a3 a4 a5 true W (Kd.C_of_reads (d := ByteArray.empty) (h1 := fun _ => rfl) hr0) hc0 h rfl).mono fun e W' ⟨he, bel⟩ => ?_
  subst he
  exact ⟨_, rfl, _, _, _, [], _, [], hW', trodAll_mk1 (shut_bool Try.underlying4 _), (trodAll_cons_mk (Below.trod laidOut (by kernel_rfl) (of_decide_eq_true (by kernel_rfl)) k0 bel lt0) (trodAll_cons_mk (Below.trod laidOut (by kernel_rfl) (of_decide_eq_true (by kernel_rfl)) k1 bel lt1) (trodAll_cons_mk (shut_int Try.underlying25 w2) (trodAll_cons_mk (shut_int Try.underlying25 w3) (trodAll_cons_mk (shut_int Try.underlying3 w4) (trodAll_cons_mk (shut_int Try.underlying3 w5) trodAll_mk0)))))), rfl, bel.frame _, fun h => by cases h⟩
theorem over : Rows.vertMoveRow.holds Try.pinned (OpenSpec.ofChange Rows.vertMoveSpec) :=
  OpenClaim.holds_of_wide 7 Try.f7 rfl rfl rfl rfl rfl rfl rfl ⟨rfl, rfl, rfl, rfl, rfl⟩ rfl rfl rfl rfl rfl (by kernel_rfl) Try.func7 (by kernel_rfl)
    (of_decide_eq_true (by kernel_rfl)) (by unfold Func.isWrapper; first | (rw [if_pos (by decide +kernel)]; kernel_rfl) | (rw [if_neg (by decide +kernel)]; exact ⟨rfl, rfl⟩))
    (fun os started H enc _ => lifted os started H enc)
theorem proved : Rows.VertMoveSaid := over
#print axioms proved
end Go.Proofs.Ytngkpgocjeiheaa.vertMove
namespace Go.Proofs.Ytngkpgocjeiheaa
/-- The row, under a short name, for the claim. -/
theorem vertMove_holds : Rows.VertMoveSaid := vertMove.proved
end Go.Proofs.Ytngkpgocjeiheaa
