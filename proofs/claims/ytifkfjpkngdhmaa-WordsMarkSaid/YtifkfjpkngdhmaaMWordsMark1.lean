/- Texts of the proof of 'WordsMark', merged in build order (part 1 of 3). -/
import Derived.Test.YtifkfjpkngdhmaaProg
import Derived.Below
import Derived.Deep.Draws
import Derived.Deep.AppendLies
import Derived.Maps.AppendAt
import Derived.OwnWalk
import Derived.Laws.BytesArg
import Derived.Laws.MakeOwn
import Derived.Laws.OwnMore
import Derived.Deep.OwnRows
import Derived.Tactics
import Derived.Lib.ConvBytes
import Derived.Laws.Slices
import Derived.WalkKit
import Derived.KernelRfl
import Derived.RowKit3
import Derived.Deep.LoopGhost
import Derived.Deep.QuietTactic
import Derived.BigQuiet
import Derived.WideLaws
import Derived.Deep.DeepCutAuto
import Derived.Deep.CutBlock
import Derived.Deep.RegionHeld3
import Derived.Laws.Rows
import Derived.Lib.AppendStr
import Derived.ArgAppend
import Derived.Laws.IdiomCopy
import Derived.OrdersHeld
import Derived.Laws.BitsLemmas
import Derived.RowKit
import Derived.Test.YtifkfjpkngdhmaaMWordsMarkW
import Derived.OpenShut
import Derived.RangeFuncNested
import Derived.RangeFuncBound
import Derived.RangeFuncCalls
import Derived.RangeFuncLeaves
import Derived.Shelf.Abstract
import Derived.Shelf.RegionOpen
import Derived.OwnWalkIn
import Derived.TacticsInMore
import Derived.LoopNIn
import Derived.LoopIn
import Derived.Lib.Hide
namespace Go.Proofs.Ytifkfjpkngdhmaa.V
open Go.RowKit Go.Proofs.YtifkfjpkngdhmaaW.PrintWords Go.Proofs.YtifkfjpkngdhmaaW.PrintLast Go.Proofs.YtifkfjpkngdhmaaW.PrintMore
attribute [local go_sem] max2_int min2_int max_two min_two max_three min_three max_four min_four   -- for this text's walks alone
set_option linter.unusedVariables false
set_option linter.unusedSimpArgs false




def errW : Option Int → Value
  | none => .nilIface
  | some c => .iface 0 (.int .i64 c)
theorem errW_none : errW none = .nilIface := rfl
theorem errW_some (c : Int) : errW (some c) = .iface 0 (.int .i64 c) := rfl

theorem info3 : (Try.prog.info? 3).map (fun i => (i.zero, i.size, i.bytes)) = some (some (.int .i64 0), 1, 8) := by kernel_rfl
theorem info9 : (Try.prog.info? 9).map (fun i => (i.zero, i.size, i.bytes)) = some (some (.string ⟨#[]⟩), 1, 16) := by kernel_rfl
theorem info24 : (Try.prog.info? 24).map (fun i => (i.zero, i.size, i.bytes)) = some (some (.agg #[(.int .i64 0), (.int .i64 0)]), 2, 16) := by kernel_rfl
-- the values' own types
/-! #### struct type 24 -/
structure S24 where
  f0 : Int
  f1 : Int
def z24 : S24 := ⟨(0 : Int), (0 : Int)⟩
def k24 : Kd S24 := Kd.iso (Kd.pair (Kd.int .i64) (Kd.int .i64)) (fun x : S24 => (x.f0, x.f1))
theorem k24_open {w : World} {x : S24} {cs : List Value} (h : k24.K w x cs) : cs = [.int .i64 x.f0, .int .i64 x.f1] := by
  obtain ⟨_, _, rfl, rfl, rfl⟩ := h
  exact rfl
theorem k24_openM {w : World} {base : Nat} {ok : Nat → Prop} {x : S24} {cs : List Value} (h : k24.M w base ok x cs) : cs = [.int .i64 x.f0, .int .i64 x.f1] := by
  obtain ⟨_, _, rfl, rfl, rfl⟩ := h
  exact rfl
theorem k24_mk (w : World) (x : S24)  : k24.K w x [.int .i64 x.f0, .int .i64 x.f1] := ⟨[.int .i64 x.f0], [.int .i64 x.f1], rfl, rfl, rfl⟩
theorem k24_mkM (w : World) (base : Nat) (ok : Nat → Prop) (x : S24)  : k24.M w base ok x [.int .i64 x.f0, .int .i64 x.f1] := ⟨[.int .i64 x.f0], [.int .i64 x.f1], rfl, rfl, rfl⟩
def rd_T24 (xs : List S24) (i : Int) : S24 := xs.getD i.toNat z24
theorem at_T24 {w : World} {A : Option Addr} {n : Nat} {xs : List S24} (h : Kd.C k24 w A n xs) (i : Int) (h0 : 0 ≤ i) (h1 : i < n) : ∃ ad , A = some ad ∧ w.cell? (ad.add (i.toNat * 2)) = some (.int .i64 (rd_T24 xs i).f0) ∧ w.cell? ⟨(ad.add (i.toNat * 2)).block, (ad.add (i.toNat * 2)).off + 1, none⟩ = some (.int .i64 (rd_T24 xs i).f1) := by
  obtain ⟨ad, c, e, _, hK, hc0⟩ := Kd.C_get h z24 i h0 h1
  have hc : ∀ j u, c[j]? = some u → w.cell? (ad.add (i.toNat * 2 + j)) = some u := hc0
  obtain rfl := k24_open hK
  exact ⟨ad, e, hc 0 _ rfl, by rw [← add_field _ _ 1 (by omega)]; exact hc 1 _ rfl⟩


theorem eqA24 (d : Nat) (w : World) (x0 y0 : Int) (x1 y1 : Int) :
    (Op.equalIn (d + 2) 24 (.agg #[.int .i64 x0, .int .i64 x1]) (.agg #[.int .i64 y0, .int .i64 y1])).run Try.prog w = .ok (x0 == y0 && (x1 == y1)) w := by
  refine eqA_of Try.underlying24 (by kernel_rfl) ?_
  refine eqf_cons (by rfl) (by go_simp; rfl) (by go_simp; rfl) (by go_simp) ?_
  exact eqf_last (by rfl) (by go_simp; rfl) (by go_simp; rfl) (by go_simp)

theorem eqA32 (d : Nat) (w : World) (x0 y0 : Int) (x1 y1 : Int) (x2 y2 : Int) (x3 y3 : Bool) (x4 y4 : Int) :
    (Op.equalIn (d + 3) 32 (.agg #[.int .i64 x0, .int .i64 x1, .int .i64 x2, .bool x3, .int .i64 x4]) (.agg #[.int .i64 y0, .int .i64 y1, .int .i64 y2, .bool y3, .int .i64 y4])).run Try.prog w = .ok ((x0 == y0 && (x1 == y1)) && (x2 == y2 && (x3 == y3 && (x4 == y4)))) w := by
  refine eqA_of Try.underlying32 (by kernel_rfl) ?_
  refine eqf_cons (by rfl) (by go_simp) (by go_simp) (eqA24 (d + 0) w _ _ _ _) ?_
  refine eqf_cons (by rfl) (by go_simp; rfl) (by go_simp; rfl) (by go_simp) ?_
  refine eqf_cons (by rfl) (by go_simp; rfl) (by go_simp; rfl) (by go_simp) ?_
  exact eqf_last (by rfl) (by go_simp; rfl) (by go_simp; rfl) (by go_simp)

-- NOT PRINTED: function 39 (words_at)

-- NOT PRINTED: function 22 (words_Starts)

end Go.Proofs.Ytifkfjpkngdhmaa.V
namespace Go.Proofs.Ytifkfjpkngdhmaa.V
open Go.RowKit Go.Proofs.YtifkfjpkngdhmaaW.PrintWords Go.Proofs.YtifkfjpkngdhmaaW.PrintLast Go.Proofs.YtifkfjpkngdhmaaW.PrintMore
attribute [local go_sem] max2_int min2_int max_two min_two max_three min_three max_four min_four   -- for this text's walks alone
set_option linter.unusedVariables false
set_option linter.unusedSimpArgs false

/-! ### class_Of: function 41 -/
mutual
def class_Of.j0 : Nat → Int → Bool → Bool → Option (Int)
  | 0, _, _, _ => none
  | k + 1, x0, x1, x5 => if x5 = true then (some 0) else (if x1 = true then (some 1) else (if x0 ≥ 97 then (class_Of.j1 k x0 (decide (x0 ≤ 122))) else (class_Of.j1 k x0 false)))
def class_Of.j1 : Nat → Int → Bool → Option (Int)
  | 0, _, _ => none
  | k + 1, x0, x14 => if x14 = true then (some 1) else (if x0 ≥ 65 then (class_Of.j2 k x0 (decide (x0 ≤ 90))) else (class_Of.j2 k x0 false))
def class_Of.j2 : Nat → Int → Bool → Option (Int)
  | 0, _, _ => none
  | k + 1, x0, x14 => if x14 = true then (some 1) else (if x0 ≥ 48 then (class_Of.j3 k x0 (decide (x0 ≤ 57))) else (class_Of.j3 k x0 false))
def class_Of.j3 : Nat → Int → Bool → Option (Int)
  | 0, _, _ => none
  | k + 1, x0, x14 => if x14 = true then (some 1) else (if x0 = 95 then (some 1) else (if x0 ≥ 128 then (some 1) else (some 2)))
end
def class_Of.f (k : Nat) (a0 : Int) (a1 : Bool) : Option (Int) := if a0 = 32 then (class_Of.j0 k a0 a1 true) else (class_Of.j0 k a0 a1 (a0 == 9))
theorem class_Of.mono_l : ∀ k, (∀ y0 y1 y2, LeO (class_Of.j0 k y0 y1 y2) (class_Of.j0 (k + 1) y0 y1 y2)) ∧ (∀ y0 y1, LeO (class_Of.j1 k y0 y1) (class_Of.j1 (k + 1) y0 y1)) ∧ (∀ y0 y1, LeO (class_Of.j2 k y0 y1) (class_Of.j2 (k + 1) y0 y1)) ∧ (∀ y0 y1, LeO (class_Of.j3 k y0 y1) (class_Of.j3 (k + 1) y0 y1))
  | 0 => ⟨fun _ _ _ r h => by simp [class_Of.j0] at h, fun _ _ r h => by simp [class_Of.j1] at h, fun _ _ r h => by simp [class_Of.j2] at h, fun _ _ r h => by simp [class_Of.j3] at h⟩
  | k + 1 => by
    obtain ⟨ih0, ih1, ih2, ih3⟩ := class_Of.mono_l k
    refine ⟨?_, ?_, ?_, ?_⟩
    · intro y0 y1 y2
      unfold class_Of.j0
      repeat' first
      | (with_reducible exact ih0 _ _ _)
      | (with_reducible exact ih1 _ _)
      | (with_reducible exact ih2 _ _)
      | (with_reducible exact ih3 _ _)
      | (with_reducible exact LeO.refl _)
      | (with_reducible exact LeO.none _)
      | (with_reducible refine LeO.ite ?_ ?_)
      | (with_reducible refine LeO.bind ?_ (fun _ => ?_))
      | exact ih0 _ _ _
      | exact ih1 _ _
      | exact ih2 _ _
      | exact ih3 _ _
      | exact LeO.none _
      | refine LeO.ite ?_ ?_
      | refine LeO.bind ?_ (fun _ => ?_)
    · intro y0 y1
      unfold class_Of.j1
      repeat' first
      | (with_reducible exact ih0 _ _ _)
      | (with_reducible exact ih1 _ _)
      | (with_reducible exact ih2 _ _)
      | (with_reducible exact ih3 _ _)
      | (with_reducible exact LeO.refl _)
      | (with_reducible exact LeO.none _)
      | (with_reducible refine LeO.ite ?_ ?_)
      | (with_reducible refine LeO.bind ?_ (fun _ => ?_))
      | exact ih0 _ _ _
      | exact ih1 _ _
      | exact ih2 _ _
      | exact ih3 _ _
      | exact LeO.none _
      | refine LeO.ite ?_ ?_
      | refine LeO.bind ?_ (fun _ => ?_)
    · intro y0 y1
      unfold class_Of.j2
      repeat' first
      | (with_reducible exact ih0 _ _ _)
      | (with_reducible exact ih1 _ _)
      | (with_reducible exact ih2 _ _)
      | (with_reducible exact ih3 _ _)
      | (with_reducible exact LeO.refl _)
      | (with_reducible exact LeO.none _)
      | (with_reducible refine LeO.ite ?_ ?_)
      | (with_reducible refine LeO.bind ?_ (fun _ => ?_))
      | exact ih0 _ _ _
      | exact ih1 _ _
      | exact ih2 _ _
      | exact ih3 _ _
      | exact LeO.none _
      | refine LeO.ite ?_ ?_
      | refine LeO.bind ?_ (fun _ => ?_)
    · intro y0 y1
      unfold class_Of.j3
      repeat' first
      | (with_reducible exact ih0 _ _ _)
      | (with_reducible exact ih1 _ _)
      | (with_reducible exact ih2 _ _)
      | (with_reducible exact ih3 _ _)
      | (with_reducible exact LeO.refl _)
      | (with_reducible exact LeO.none _)
      | (with_reducible refine LeO.ite ?_ ?_)
      | (with_reducible refine LeO.bind ?_ (fun _ => ?_))
      | exact ih0 _ _ _
      | exact ih1 _ _
      | exact ih2 _ _
      | exact ih3 _ _
      | exact LeO.none _
      | refine LeO.ite ?_ ?_
      | refine LeO.bind ?_ (fun _ => ?_)
theorem class_Of.mono : ∀ a0 a1 k, LeO (class_Of.f k a0 a1) (class_Of.f (k + 1) a0 a1) := by
  intro a0 a1 k
  obtain ⟨ih0, ih1, ih2, ih3⟩ := class_Of.mono_l k
  unfold class_Of.f
  repeat' first
      | (with_reducible exact ih0 _ _ _)
      | (with_reducible exact ih1 _ _)
      | (with_reducible exact ih2 _ _)
      | (with_reducible exact ih3 _ _)
      | (with_reducible exact LeO.refl _)
      | (with_reducible exact LeO.none _)
      | (with_reducible refine LeO.ite ?_ ?_)
      | (with_reducible refine LeO.bind ?_ (fun _ => ?_))
      | exact ih0 _ _ _
      | exact ih1 _ _
      | exact ih2 _ _
      | exact ih3 _ _
      | exact LeO.none _
      | refine LeO.ite ?_ ?_
      | refine LeO.bind ?_ (fun _ => ?_)
set_option maxHeartbeats 8000000 in
set_option maxRecDepth 100000 in
theorem class_Of.calls (k : Nat) (a0 : Int) (a1 : Bool) (r : Int) (w : World) (h : class_Of.f k a0 a1 = some r) :
    Calls Try.prog 41 #[.int .u8 a0, .bool a1] w fun e w' => e = .returned (.int .i64 r) ∧ Drawn0 w w' := by
  have H : (if a0 = 32 then (class_Of.j0 k a0 a1 true) else (class_Of.j0 k a0 a1 (a0 == 9))) = some r := h
  clear h
  have HC3 := Aside0.mk H
  clear H
  go_enter Try.func41, Try.ntmps41
  go_upto_region 1 with (fail)
  go_cut [5] (fun v5 wc => ∃ (kq : Nat) (x5_2 : Bool), v5 = .bool x5_2 ∧ Aside0 (class_Of.j0 kq a0 a1 x5_2 = some r) ∧ Aside0 (kq ≤ k) ∧ Drawn0 w wc)
  case first =>
    have H := HC3.out
    clear HC3
    by_cases c4 : a0 = 32
    · rw [if_pos c4] at H
      have c4b0 : (a0 == 32) = true := beq_iff_eq.mpr c4
      have c4b1 : (a0 != 32) = false := bne_eq_false_iff_eq.mpr c4
      clear c4
      (first | rw [c4b0] | (simp only [i64_w, i32_w]; rw [c4b0]) | skip)
      have H' := Aside0.mk H
      clear H
      go_wp2
      go_meet
      case rel => exact ⟨_, (true), (by first | rfl | (simp; done) | (simp [*]; done)), H', ⟨by first | omega | exact Nat.le_refl _⟩, by repeat (first | exact Drawn0.refl _ | apply Drawn0.step)⟩
    · rw [if_neg c4] at H
      have c4b0 : (a0 == 32) = false := beq_eq_false_iff_ne.mpr c4
      have c4b1 : (a0 != 32) = true := bne_iff_ne.mpr c4
      (first | rw [c4b0] | (simp only [i64_w, i32_w]; rw [c4b0]) | skip)
      have H' := Aside0.mk H
      clear H
      go_wp2
      go_meet
      case rel => exact ⟨_, ((a0 == 9)), (by first | rfl | (simp; done) | (simp [*]; done)), H', ⟨by first | omega | exact Nat.le_refl _⟩, by repeat (first | exact Drawn0.refl _ | apply Drawn0.step)⟩
  case rest =>
    clear HC3
    try clear p2
    try clear c4
    try clear c4b0
    try clear c4b1
    obtain ⟨kq, x5_2, rfl, HA, HJ2, ⟨mc2, rfl⟩⟩ := hcut
    cases kq with
    | zero => exact absurd HA.out (by simp [class_Of.j0])
    | succ kj2 =>
      have H := HA.out
      clear HA
      simp only [class_Of.j0] at H
      by_cases c5 : x5_2 = true
      · subst c5
        have H1 : (some 0) = some r := by rw [if_pos rfl] at H; exact H
        clear H
        have H := H1
        clear H1
        obtain rfl := Option.some.inj H
        go_wp2
        go_ret
        exact ⟨by first | rfl | (simp; done) | (simp [*]; done), by repeat (first | exact Drawn0.refl _ | apply Drawn0.step)⟩
      · replace c5 := Bool.eq_false_iff.mpr c5
        subst c5
        have H1 : (if a1 = true then (some 1) else (if a0 ≥ 97 then (class_Of.j1 kj2 a0 (decide (a0 ≤ 122))) else (class_Of.j1 kj2 a0 false))) = some r := by rw [if_neg (show ¬ (false = true) by decide)] at H; exact H
        clear H
        have H := H1
        clear H1
        by_cases c6 : a1 = true
        · subst c6
          have H1 : (some 1) = some r := by rw [if_pos rfl] at H; exact H
          clear H
          have H := H1
          clear H1
          obtain rfl := Option.some.inj H
          go_wp2
          go_ret
          exact ⟨by first | rfl | (simp; done) | (simp [*]; done), by repeat (first | exact Drawn0.refl _ | apply Drawn0.step)⟩
        · replace c6 := Bool.eq_false_iff.mpr c6
          subst c6
          have H1 : (if a0 ≥ 97 then (class_Of.j1 kj2 a0 (decide (a0 ≤ 122))) else (class_Of.j1 kj2 a0 false)) = some r := by rw [if_neg (show ¬ (false = true) by decide)] at H; exact H
          clear H
          have H := H1
          clear H1
          have HC7 := Aside0.mk H
          clear H
          go_upto_region 5 with (fail)
          go_cut [14] (fun v14 wc => ∃ (kq : Nat) (x14_6 : Bool), v14 = .bool x14_6 ∧ Aside0 (class_Of.j1 kq a0 x14_6 = some r) ∧ Aside0 (kq ≤ kj2) ∧ Drawn0 w wc)
          case first =>
            have H := HC7.out
            clear HC7
            by_cases c8 : a0 ≥ 97
            · rw [if_pos c8] at H
              have c8b0 : decide (97 ≤ a0) = true := decide_eq_true c8
              clear c8
              (first | rw [c8b0] | (simp only [i64_w, i32_w]; rw [c8b0]) | skip)
              have H' := Aside0.mk H
              clear H
              go_wp2
              go_meet
              case rel => exact ⟨_, (decide (a0 ≤ 122)), (by first | rfl | (simp; done) | (simp [*]; done)), H', ⟨by have := HJ2.out; first | omega | exact Nat.le_refl _⟩, by repeat (first | exact Drawn0.refl _ | apply Drawn0.step)⟩
            · rw [if_neg c8] at H
              have c8b0 : decide (97 ≤ a0) = false := decide_eq_false c8
              clear c8
              (first | rw [c8b0] | (simp only [i64_w, i32_w]; rw [c8b0]) | skip)
              have H' := Aside0.mk H
              clear H
              go_wp2
              go_meet
              case rel => exact ⟨_, (false), (by first | rfl | (simp; done) | (simp [*]; done)), H', ⟨by have := HJ2.out; first | omega | exact Nat.le_refl _⟩, by repeat (first | exact Drawn0.refl _ | apply Drawn0.step)⟩
          case rest =>
            clear HC7
            try clear c2
            try clear p2
            try clear c4
            try clear c4b0
            try clear c4b1
            try clear c5
            try clear c6
            try clear c8
            try clear c8b0
            try clear p2
            obtain ⟨kq, x14_6, rfl, HA, HJ6, ⟨mc6, rfl⟩⟩ := hcut
            cases kq with
            | zero => exact absurd HA.out (by simp [class_Of.j1])
            | succ kj6 =>
              have H := HA.out
              clear HA
              simp only [class_Of.j1] at H
              by_cases c9 : x14_6 = true
              · subst c9
                have H1 : (some 1) = some r := by rw [if_pos rfl] at H; exact H
                clear H
                have H := H1
                clear H1
                obtain rfl := Option.some.inj H
                go_wp2
                go_ret
                exact ⟨by first | rfl | (simp; done) | (simp [*]; done), by repeat (first | exact Drawn0.refl _ | apply Drawn0.step)⟩
              · replace c9 := Bool.eq_false_iff.mpr c9
                subst c9
                have H1 : (if a0 ≥ 65 then (class_Of.j2 kj6 a0 (decide (a0 ≤ 90))) else (class_Of.j2 kj6 a0 false)) = some r := by rw [if_neg (show ¬ (false = true) by decide)] at H; exact H
                clear H
                have H := H1
                clear H1
                have HC10 := Aside0.mk H
                clear H
                go_upto_region 6 with (fail)
                go_cut [14] (fun v14 wc => ∃ (kq : Nat) (x14_9 : Bool), v14 = .bool x14_9 ∧ Aside0 (class_Of.j2 kq a0 x14_9 = some r) ∧ Aside0 (kq ≤ kj6) ∧ Drawn0 w wc)
                case first =>
                  have H := HC10.out
                  clear HC10
                  by_cases c11 : a0 ≥ 65
                  · rw [if_pos c11] at H
                    have c11b0 : decide (65 ≤ a0) = true := decide_eq_true c11
                    clear c11
                    (first | rw [c11b0] | (simp only [i64_w, i32_w]; rw [c11b0]) | skip)
                    have H' := Aside0.mk H
                    clear H
                    go_wp2
                    go_meet
                    case rel => exact ⟨_, (decide (a0 ≤ 90)), (by first | rfl | (simp; done) | (simp [*]; done)), H', ⟨by have := HJ2.out; have := HJ6.out; first | omega | exact Nat.le_refl _⟩, by repeat (first | exact Drawn0.refl _ | apply Drawn0.step)⟩
                  · rw [if_neg c11] at H
                    have c11b0 : decide (65 ≤ a0) = false := decide_eq_false c11
                    clear c11
                    (first | rw [c11b0] | (simp only [i64_w, i32_w]; rw [c11b0]) | skip)
                    have H' := Aside0.mk H
                    clear H
                    go_wp2
                    go_meet
                    case rel => exact ⟨_, (false), (by first | rfl | (simp; done) | (simp [*]; done)), H', ⟨by have := HJ2.out; have := HJ6.out; first | omega | exact Nat.le_refl _⟩, by repeat (first | exact Drawn0.refl _ | apply Drawn0.step)⟩
                case rest =>
                  clear HC10
                  try clear c1
                  try clear c2
                  try clear p2
                  try clear c4
                  try clear c4b0
                  try clear c4b1
                  try clear c5
                  try clear c6
                  try clear c8
                  try clear c8b0
                  try clear c9
                  try clear c11
                  try clear c11b0
                  try clear p2
                  obtain ⟨kq, x14_9, rfl, HA, HJ9, ⟨mc9, rfl⟩⟩ := hcut
                  cases kq with
                  | zero => exact absurd HA.out (by simp [class_Of.j2])
                  | succ kj9 =>
                    have H := HA.out
                    clear HA
                    simp only [class_Of.j2] at H
                    by_cases c12 : x14_9 = true
                    · subst c12
                      have H1 : (some 1) = some r := by rw [if_pos rfl] at H; exact H
                      clear H
                      have H := H1
                      clear H1
                      obtain rfl := Option.some.inj H
                      go_wp2
                      go_ret
                      exact ⟨by first | rfl | (simp; done) | (simp [*]; done), by repeat (first | exact Drawn0.refl _ | apply Drawn0.step)⟩
                    · replace c12 := Bool.eq_false_iff.mpr c12
                      subst c12
                      have H1 : (if a0 ≥ 48 then (class_Of.j3 kj9 a0 (decide (a0 ≤ 57))) else (class_Of.j3 kj9 a0 false)) = some r := by rw [if_neg (show ¬ (false = true) by decide)] at H; exact H
                      clear H
                      have H := H1
                      clear H1
                      have HC13 := Aside0.mk H
                      clear H
                      go_upto_region 7 with (fail)
                      go_cut [14] (fun v14 wc => ∃ (kq : Nat) (x14_12 : Bool), v14 = .bool x14_12 ∧ Aside0 (class_Of.j3 kq a0 x14_12 = some r) ∧ Aside0 (kq ≤ kj9) ∧ Drawn0 w wc)
                      case first =>
                        have H := HC13.out
                        clear HC13
                        by_cases c14 : a0 ≥ 48
                        · rw [if_pos c14] at H
                          have c14b0 : decide (48 ≤ a0) = true := decide_eq_true c14
                          clear c14
                          (first | rw [c14b0] | (simp only [i64_w, i32_w]; rw [c14b0]) | skip)
                          have H' := Aside0.mk H
                          clear H
                          go_wp2
                          go_meet
                          case rel => exact ⟨_, (decide (a0 ≤ 57)), (by first | rfl | (simp; done) | (simp [*]; done)), H', ⟨by have := HJ2.out; have := HJ6.out; have := HJ9.out; first | omega | exact Nat.le_refl _⟩, by repeat (first | exact Drawn0.refl _ | apply Drawn0.step)⟩
                        · rw [if_neg c14] at H
                          have c14b0 : decide (48 ≤ a0) = false := decide_eq_false c14
                          clear c14
                          (first | rw [c14b0] | (simp only [i64_w, i32_w]; rw [c14b0]) | skip)
                          have H' := Aside0.mk H
                          clear H
                          go_wp2
                          go_meet
                          case rel => exact ⟨_, (false), (by first | rfl | (simp; done) | (simp [*]; done)), H', ⟨by have := HJ2.out; have := HJ6.out; have := HJ9.out; first | omega | exact Nat.le_refl _⟩, by repeat (first | exact Drawn0.refl _ | apply Drawn0.step)⟩
                      case rest =>
                        clear HC13
                        try clear c1
                        try clear c2
                        try clear p2
                        try clear c4
                        try clear c4b0
                        try clear c4b1
                        try clear c5
                        try clear c6
                        try clear c8
                        try clear c8b0
                        try clear c9
                        try clear c11
                        try clear c11b0
                        try clear c12
                        try clear c14
                        try clear c14b0
                        try clear p2
                        obtain ⟨kq, x14_12, rfl, HA, HJ12, ⟨mc12, rfl⟩⟩ := hcut
                        cases kq with
                        | zero => exact absurd HA.out (by simp [class_Of.j3])
                        | succ kj12 =>
                          have H := HA.out
                          clear HA
                          simp only [class_Of.j3] at H
                          by_cases c15 : x14_12 = true
                          · subst c15
                            have H1 : (some 1) = some r := by rw [if_pos rfl] at H; exact H
                            clear H
                            have H := H1
                            clear H1
                            obtain rfl := Option.some.inj H
                            go_wp2
                            go_ret
                            exact ⟨by first | rfl | (simp; done) | (simp [*]; done), by repeat (first | exact Drawn0.refl _ | apply Drawn0.step)⟩
                          · replace c15 := Bool.eq_false_iff.mpr c15
                            subst c15
                            have H1 : (if a0 = 95 then (some 1) else (if a0 ≥ 128 then (some 1) else (some 2))) = some r := by rw [if_neg (show ¬ (false = true) by decide)] at H; exact H
                            clear H
                            have H := H1
                            clear H1
                            by_cases c16 : a0 = 95
                            · rw [if_pos c16] at H
                              have c16b0 : (a0 == 95) = true := beq_iff_eq.mpr c16
                              have c16b1 : (a0 != 95) = false := bne_eq_false_iff_eq.mpr c16
                              clear c16
                              obtain rfl := Option.some.inj H
                              go_wp2
                              go_ret
                              exact ⟨by first | rfl | (simp; done) | (simp [*]; done), by repeat (first | exact Drawn0.refl _ | apply Drawn0.step)⟩
                            · rw [if_neg c16] at H
                              have c16b0 : (a0 == 95) = false := beq_eq_false_iff_ne.mpr c16
                              have c16b1 : (a0 != 95) = true := bne_iff_ne.mpr c16
                              by_cases c17 : a0 ≥ 128
                              · rw [if_pos c17] at H
                                have c17b0 : decide (128 ≤ a0) = true := decide_eq_true c17
                                clear c17
                                obtain rfl := Option.some.inj H
                                go_wp2
                                go_ret
                                exact ⟨by first | rfl | (simp; done) | (simp [*]; done), by repeat (first | exact Drawn0.refl _ | apply Drawn0.step)⟩
                              · rw [if_neg c17] at H
                                have c17b0 : decide (128 ≤ a0) = false := decide_eq_false c17
                                clear c17
                                obtain rfl := Option.some.inj H
                                go_wp2
                                go_ret
                                exact ⟨by first | rfl | (simp; done) | (simp [*]; done), by repeat (first | exact Drawn0.refl _ | apply Drawn0.step)⟩

end Go.Proofs.Ytifkfjpkngdhmaa.V
namespace Go.Proofs.Ytifkfjpkngdhmaa.V
open Go.RowKit Go.Proofs.YtifkfjpkngdhmaaW.PrintWords Go.Proofs.YtifkfjpkngdhmaaW.PrintLast Go.Proofs.YtifkfjpkngdhmaaW.PrintMore
attribute [local go_sem] max2_int min2_int max_two min_two max_three min_three max_four min_four   -- for this text's walks alone
set_option linter.unusedVariables false
set_option linter.unusedSimpArgs false

/-! ### foolscapref5_Of: function 43 -/
def foolscapref5_Of.j0 : Nat → Int → Bool → Bool → Option (Int)
  | 0, _, _, _ => none
  | k + 1, x0, x1, x5 => if x5 = true then (some 0) else (if x1 = true then (some 1) else (if x0 ≥ 97 then (if x0 ≤ 122 then (some 1) else (if x0 ≥ 65 then (if x0 ≤ 90 then (some 1) else (if x0 ≥ 48 then (if x0 ≤ 57 then (some 1) else (if x0 = 95 then (some 1) else (if x0 ≥ 128 then (some 1) else (some 2)))) else (if x0 = 95 then (some 1) else (if x0 ≥ 128 then (some 1) else (some 2))))) else (if x0 ≥ 48 then (if x0 ≤ 57 then (some 1) else (if x0 = 95 then (some 1) else (if x0 ≥ 128 then (some 1) else (some 2)))) else (if x0 = 95 then (some 1) else (if x0 ≥ 128 then (some 1) else (some 2)))))) else (if x0 ≥ 65 then (if x0 ≤ 90 then (some 1) else (if x0 ≥ 48 then (if x0 ≤ 57 then (some 1) else (if x0 = 95 then (some 1) else (if x0 ≥ 128 then (some 1) else (some 2)))) else (if x0 = 95 then (some 1) else (if x0 ≥ 128 then (some 1) else (some 2))))) else (if x0 ≥ 48 then (if x0 ≤ 57 then (some 1) else (if x0 = 95 then (some 1) else (if x0 ≥ 128 then (some 1) else (some 2)))) else (if x0 = 95 then (some 1) else (if x0 ≥ 128 then (some 1) else (some 2)))))))
def foolscapref5_Of.f (k : Nat) (a0 : Int) (a1 : Bool) : Option (Int) := if a0 = 32 then (foolscapref5_Of.j0 k a0 a1 true) else (foolscapref5_Of.j0 k a0 a1 (a0 == 9))
theorem foolscapref5_Of.mono_l : ∀ k, (∀ y0 y1 y2, LeO (foolscapref5_Of.j0 k y0 y1 y2) (foolscapref5_Of.j0 (k + 1) y0 y1 y2))
  | 0 => fun _ _ _ r h => by simp [foolscapref5_Of.j0] at h
  | k + 1 => by
    have ih0 := foolscapref5_Of.mono_l k
    · intro y0 y1 y2
      unfold foolscapref5_Of.j0
      repeat' first
      | (with_reducible exact ih0 _ _ _)
      | (with_reducible exact LeO.refl _)
      | (with_reducible exact LeO.none _)
      | (with_reducible refine LeO.ite ?_ ?_)
      | (with_reducible refine LeO.bind ?_ (fun _ => ?_))
      | exact ih0 _ _ _
      | exact LeO.none _
      | refine LeO.ite ?_ ?_
      | refine LeO.bind ?_ (fun _ => ?_)
theorem foolscapref5_Of.mono : ∀ a0 a1 k, LeO (foolscapref5_Of.f k a0 a1) (foolscapref5_Of.f (k + 1) a0 a1) := by
  intro a0 a1 k
  have ih0 := foolscapref5_Of.mono_l k
  unfold foolscapref5_Of.f
  repeat' first
      | (with_reducible exact ih0 _ _ _)
      | (with_reducible exact LeO.refl _)
      | (with_reducible exact LeO.none _)
      | (with_reducible refine LeO.ite ?_ ?_)
      | (with_reducible refine LeO.bind ?_ (fun _ => ?_))
      | exact ih0 _ _ _
      | exact LeO.none _
      | refine LeO.ite ?_ ?_
      | refine LeO.bind ?_ (fun _ => ?_)
set_option maxHeartbeats 8000000 in
set_option maxRecDepth 100000 in
theorem foolscapref5_Of.calls (k : Nat) (a0 : Int) (a1 : Bool) (r : Int) (w : World) (h : foolscapref5_Of.f k a0 a1 = some r) :
    Calls Try.prog 43 #[.int .u8 a0, .bool a1] w fun e w' => e = .returned (.int .i64 r) ∧ Drawn0 w w' := by
  have H : (if a0 = 32 then (foolscapref5_Of.j0 k a0 a1 true) else (foolscapref5_Of.j0 k a0 a1 (a0 == 9))) = some r := h
  clear h
  have HC3 := Aside0.mk H
  clear H
  go_enter Try.func43, Try.ntmps43
  go_upto_region 1 with (fail)
  go_cut [5] (fun v5 wc => ∃ (kq : Nat) (x5_2 : Bool), v5 = .bool x5_2 ∧ Aside0 (foolscapref5_Of.j0 kq a0 a1 x5_2 = some r) ∧ Aside0 (kq ≤ k) ∧ Drawn0 w wc)
  case first =>
    have H := HC3.out
    clear HC3
    by_cases c4 : a0 = 32
    · rw [if_pos c4] at H
      have c4b0 : (a0 == 32) = true := beq_iff_eq.mpr c4
      have c4b1 : (a0 != 32) = false := bne_eq_false_iff_eq.mpr c4
      clear c4
      (first | rw [c4b0] | (simp only [i64_w, i32_w]; rw [c4b0]) | skip)
      have H' := Aside0.mk H
      clear H
      go_wp2
      go_meet
      case rel => exact ⟨_, (true), (by first | rfl | (simp; done) | (simp [*]; done)), H', ⟨by first | omega | exact Nat.le_refl _⟩, by repeat (first | exact Drawn0.refl _ | apply Drawn0.step)⟩
    · rw [if_neg c4] at H
      have c4b0 : (a0 == 32) = false := beq_eq_false_iff_ne.mpr c4
      have c4b1 : (a0 != 32) = true := bne_iff_ne.mpr c4
      (first | rw [c4b0] | (simp only [i64_w, i32_w]; rw [c4b0]) | skip)
      have H' := Aside0.mk H
      clear H
      go_wp2
      go_meet
      case rel => exact ⟨_, ((a0 == 9)), (by first | rfl | (simp; done) | (simp [*]; done)), H', ⟨by first | omega | exact Nat.le_refl _⟩, by repeat (first | exact Drawn0.refl _ | apply Drawn0.step)⟩
  case rest =>
    clear HC3
    try clear p2
    try clear c4
    try clear c4b0
    try clear c4b1
    obtain ⟨kq, x5_2, rfl, HA, HJ2, ⟨mc2, rfl⟩⟩ := hcut
    cases kq with
    | zero => exact absurd HA.out (by simp [foolscapref5_Of.j0])
    | succ kj2 =>
      have H := HA.out
      clear HA
      simp only [foolscapref5_Of.j0] at H
      by_cases c5 : x5_2 = true
      · subst c5
        have H1 : (some 0) = some r := by rw [if_pos rfl] at H; exact H
        clear H
        have H := H1
        clear H1
        obtain rfl := Option.some.inj H
        go_wp2
        go_ret
        exact ⟨by first | rfl | (simp; done) | (simp [*]; done), by repeat (first | exact Drawn0.refl _ | apply Drawn0.step)⟩
      · replace c5 := Bool.eq_false_iff.mpr c5
        subst c5
        have H1 : (if a1 = true then (some 1) else (if a0 ≥ 97 then (if a0 ≤ 122 then (some 1) else (if a0 ≥ 65 then (if a0 ≤ 90 then (some 1) else (if a0 ≥ 48 then (if a0 ≤ 57 then (some 1) else (if a0 = 95 then (some 1) else (if a0 ≥ 128 then (some 1) else (some 2)))) else (if a0 = 95 then (some 1) else (if a0 ≥ 128 then (some 1) else (some 2))))) else (if a0 ≥ 48 then (if a0 ≤ 57 then (some 1) else (if a0 = 95 then (some 1) else (if a0 ≥ 128 then (some 1) else (some 2)))) else (if a0 = 95 then (some 1) else (if a0 ≥ 128 then (some 1) else (some 2)))))) else (if a0 ≥ 65 then (if a0 ≤ 90 then (some 1) else (if a0 ≥ 48 then (if a0 ≤ 57 then (some 1) else (if a0 = 95 then (some 1) else (if a0 ≥ 128 then (some 1) else (some 2)))) else (if a0 = 95 then (some 1) else (if a0 ≥ 128 then (some 1) else (some 2))))) else (if a0 ≥ 48 then (if a0 ≤ 57 then (some 1) else (if a0 = 95 then (some 1) else (if a0 ≥ 128 then (some 1) else (some 2)))) else (if a0 = 95 then (some 1) else (if a0 ≥ 128 then (some 1) else (some 2))))))) = some r := by rw [if_neg (show ¬ (false = true) by decide)] at H; exact H
        clear H
        have H := H1
        clear H1
        by_cases c6 : a1 = true
        · subst c6
          have H1 : (some 1) = some r := by rw [if_pos rfl] at H; exact H
          clear H
          have H := H1
          clear H1
          obtain rfl := Option.some.inj H
          go_wp2
          go_ret
          exact ⟨by first | rfl | (simp; done) | (simp [*]; done), by repeat (first | exact Drawn0.refl _ | apply Drawn0.step)⟩
        · replace c6 := Bool.eq_false_iff.mpr c6
          subst c6
          have H1 : (if a0 ≥ 97 then (if a0 ≤ 122 then (some 1) else (if a0 ≥ 65 then (if a0 ≤ 90 then (some 1) else (if a0 ≥ 48 then (if a0 ≤ 57 then (some 1) else (if a0 = 95 then (some 1) else (if a0 ≥ 128 then (some 1) else (some 2)))) else (if a0 = 95 then (some 1) else (if a0 ≥ 128 then (some 1) else (some 2))))) else (if a0 ≥ 48 then (if a0 ≤ 57 then (some 1) else (if a0 = 95 then (some 1) else (if a0 ≥ 128 then (some 1) else (some 2)))) else (if a0 = 95 then (some 1) else (if a0 ≥ 128 then (some 1) else (some 2)))))) else (if a0 ≥ 65 then (if a0 ≤ 90 then (some 1) else (if a0 ≥ 48 then (if a0 ≤ 57 then (some 1) else (if a0 = 95 then (some 1) else (if a0 ≥ 128 then (some 1) else (some 2)))) else (if a0 = 95 then (some 1) else (if a0 ≥ 128 then (some 1) else (some 2))))) else (if a0 ≥ 48 then (if a0 ≤ 57 then (some 1) else (if a0 = 95 then (some 1) else (if a0 ≥ 128 then (some 1) else (some 2)))) else (if a0 = 95 then (some 1) else (if a0 ≥ 128 then (some 1) else (some 2)))))) = some r := by rw [if_neg (show ¬ (false = true) by decide)] at H; exact H
          clear H
          have H := H1
          clear H1
          by_cases c7 : a0 ≥ 97
          · rw [if_pos c7] at H
            have c7b0 : decide (97 ≤ a0) = true := decide_eq_true c7
            clear c7
            by_cases c8 : a0 ≤ 122
            · rw [if_pos c8] at H
              have c8b0 : decide (a0 ≤ 122) = true := decide_eq_true c8
              clear c8
              obtain rfl := Option.some.inj H
              go_wp2
              go_ret
              exact ⟨by first | rfl | (simp; done) | (simp [*]; done), by repeat (first | exact Drawn0.refl _ | apply Drawn0.step)⟩
            · rw [if_neg c8] at H
              have c8b0 : decide (a0 ≤ 122) = false := decide_eq_false c8
              clear c8
              by_cases c9 : a0 ≥ 65
              · rw [if_pos c9] at H
                have c9b0 : decide (65 ≤ a0) = true := decide_eq_true c9
                clear c9
                by_cases c10 : a0 ≤ 90
                · rw [if_pos c10] at H
                  have c10b0 : decide (a0 ≤ 90) = true := decide_eq_true c10
                  clear c10
                  obtain rfl := Option.some.inj H
                  go_wp2
                  go_ret
                  exact ⟨by first | rfl | (simp; done) | (simp [*]; done), by repeat (first | exact Drawn0.refl _ | apply Drawn0.step)⟩
                · rw [if_neg c10] at H
                  have c10b0 : decide (a0 ≤ 90) = false := decide_eq_false c10
                  clear c10
                  by_cases c11 : a0 ≥ 48
                  · rw [if_pos c11] at H
                    have c11b0 : decide (48 ≤ a0) = true := decide_eq_true c11
                    clear c11
                    by_cases c12 : a0 ≤ 57
                    · rw [if_pos c12] at H
                      have c12b0 : decide (a0 ≤ 57) = true := decide_eq_true c12
                      clear c12
                      obtain rfl := Option.some.inj H
                      go_wp2
                      go_ret
                      exact ⟨by first | rfl | (simp; done) | (simp [*]; done), by repeat (first | exact Drawn0.refl _ | apply Drawn0.step)⟩
                    · rw [if_neg c12] at H
                      have c12b0 : decide (a0 ≤ 57) = false := decide_eq_false c12
                      clear c12
                      by_cases c13 : a0 = 95
                      · rw [if_pos c13] at H
                        have c13b0 : (a0 == 95) = true := beq_iff_eq.mpr c13
                        have c13b1 : (a0 != 95) = false := bne_eq_false_iff_eq.mpr c13
                        clear c13
                        obtain rfl := Option.some.inj H
                        go_wp2
                        go_ret
                        exact ⟨by first | rfl | (simp; done) | (simp [*]; done), by repeat (first | exact Drawn0.refl _ | apply Drawn0.step)⟩
                      · rw [if_neg c13] at H
                        have c13b0 : (a0 == 95) = false := beq_eq_false_iff_ne.mpr c13
                        have c13b1 : (a0 != 95) = true := bne_iff_ne.mpr c13
                        by_cases c14 : a0 ≥ 128
                        · rw [if_pos c14] at H
                          have c14b0 : decide (128 ≤ a0) = true := decide_eq_true c14
                          clear c14
                          obtain rfl := Option.some.inj H
                          go_wp2
                          go_ret
                          exact ⟨by first | rfl | (simp; done) | (simp [*]; done), by repeat (first | exact Drawn0.refl _ | apply Drawn0.step)⟩
                        · rw [if_neg c14] at H
                          have c14b0 : decide (128 ≤ a0) = false := decide_eq_false c14
                          clear c14
                          obtain rfl := Option.some.inj H
                          go_wp2
                          go_ret
                          exact ⟨by first | rfl | (simp; done) | (simp [*]; done), by repeat (first | exact Drawn0.refl _ | apply Drawn0.step)⟩
                  · rw [if_neg c11] at H
                    have c11b0 : decide (48 ≤ a0) = false := decide_eq_false c11
                    clear c11
                    by_cases c15 : a0 = 95
                    · rw [if_pos c15] at H
                      have c15b0 : (a0 == 95) = true := beq_iff_eq.mpr c15
                      have c15b1 : (a0 != 95) = false := bne_eq_false_iff_eq.mpr c15
                      clear c15
                      obtain rfl := Option.some.inj H
                      go_wp2
                      go_ret
                      exact ⟨by first | rfl | (simp; done) | (simp [*]; done), by repeat (first | exact Drawn0.refl _ | apply Drawn0.step)⟩
                    · rw [if_neg c15] at H
                      have c15b0 : (a0 == 95) = false := beq_eq_false_iff_ne.mpr c15
                      have c15b1 : (a0 != 95) = true := bne_iff_ne.mpr c15
                      by_cases c16 : a0 ≥ 128
                      · rw [if_pos c16] at H
                        have c16b0 : decide (128 ≤ a0) = true := decide_eq_true c16
                        clear c16
                        obtain rfl := Option.some.inj H
                        go_wp2
                        go_ret
                        exact ⟨by first | rfl | (simp; done) | (simp [*]; done), by repeat (first | exact Drawn0.refl _ | apply Drawn0.step)⟩
                      · rw [if_neg c16] at H
                        have c16b0 : decide (128 ≤ a0) = false := decide_eq_false c16
                        clear c16
                        obtain rfl := Option.some.inj H
                        go_wp2
                        go_ret
                        exact ⟨by first | rfl | (simp; done) | (simp [*]; done), by repeat (first | exact Drawn0.refl _ | apply Drawn0.step)⟩
              · rw [if_neg c9] at H
                have c9b0 : decide (65 ≤ a0) = false := decide_eq_false c9
                clear c9
                by_cases c17 : a0 ≥ 48
                · rw [if_pos c17] at H
                  have c17b0 : decide (48 ≤ a0) = true := decide_eq_true c17
                  clear c17
                  by_cases c18 : a0 ≤ 57
                  · rw [if_pos c18] at H
                    have c18b0 : decide (a0 ≤ 57) = true := decide_eq_true c18
                    clear c18
                    obtain rfl := Option.some.inj H
                    go_wp2
                    go_ret
                    exact ⟨by first | rfl | (simp; done) | (simp [*]; done), by repeat (first | exact Drawn0.refl _ | apply Drawn0.step)⟩
                  · rw [if_neg c18] at H
                    have c18b0 : decide (a0 ≤ 57) = false := decide_eq_false c18
                    clear c18
                    by_cases c19 : a0 = 95
                    · rw [if_pos c19] at H
                      have c19b0 : (a0 == 95) = true := beq_iff_eq.mpr c19
                      have c19b1 : (a0 != 95) = false := bne_eq_false_iff_eq.mpr c19
                      clear c19
                      obtain rfl := Option.some.inj H
                      go_wp2
                      go_ret
                      exact ⟨by first | rfl | (simp; done) | (simp [*]; done), by repeat (first | exact Drawn0.refl _ | apply Drawn0.step)⟩
                    · rw [if_neg c19] at H
                      have c19b0 : (a0 == 95) = false := beq_eq_false_iff_ne.mpr c19
                      have c19b1 : (a0 != 95) = true := bne_iff_ne.mpr c19
                      by_cases c20 : a0 ≥ 128
                      · rw [if_pos c20] at H
                        have c20b0 : decide (128 ≤ a0) = true := decide_eq_true c20
                        clear c20
                        obtain rfl := Option.some.inj H
                        go_wp2
                        go_ret
                        exact ⟨by first | rfl | (simp; done) | (simp [*]; done), by repeat (first | exact Drawn0.refl _ | apply Drawn0.step)⟩
                      · rw [if_neg c20] at H
                        have c20b0 : decide (128 ≤ a0) = false := decide_eq_false c20
                        clear c20
                        obtain rfl := Option.some.inj H
                        go_wp2
                        go_ret
                        exact ⟨by first | rfl | (simp; done) | (simp [*]; done), by repeat (first | exact Drawn0.refl _ | apply Drawn0.step)⟩
                · rw [if_neg c17] at H
                  have c17b0 : decide (48 ≤ a0) = false := decide_eq_false c17
                  clear c17
                  by_cases c21 : a0 = 95
                  · rw [if_pos c21] at H
                    have c21b0 : (a0 == 95) = true := beq_iff_eq.mpr c21
                    have c21b1 : (a0 != 95) = false := bne_eq_false_iff_eq.mpr c21
                    clear c21
                    obtain rfl := Option.some.inj H
                    go_wp2
                    go_ret
                    exact ⟨by first | rfl | (simp; done) | (simp [*]; done), by repeat (first | exact Drawn0.refl _ | apply Drawn0.step)⟩
                  · rw [if_neg c21] at H
                    have c21b0 : (a0 == 95) = false := beq_eq_false_iff_ne.mpr c21
                    have c21b1 : (a0 != 95) = true := bne_iff_ne.mpr c21
                    by_cases c22 : a0 ≥ 128
                    · rw [if_pos c22] at H
                      have c22b0 : decide (128 ≤ a0) = true := decide_eq_true c22
                      clear c22
                      obtain rfl := Option.some.inj H
                      go_wp2
                      go_ret
                      exact ⟨by first | rfl | (simp; done) | (simp [*]; done), by repeat (first | exact Drawn0.refl _ | apply Drawn0.step)⟩
                    · rw [if_neg c22] at H
                      have c22b0 : decide (128 ≤ a0) = false := decide_eq_false c22
                      clear c22
                      obtain rfl := Option.some.inj H
                      go_wp2
                      go_ret
                      exact ⟨by first | rfl | (simp; done) | (simp [*]; done), by repeat (first | exact Drawn0.refl _ | apply Drawn0.step)⟩
          · rw [if_neg c7] at H
            have c7b0 : decide (97 ≤ a0) = false := decide_eq_false c7
            clear c7
            by_cases c23 : a0 ≥ 65
            · rw [if_pos c23] at H
              have c23b0 : decide (65 ≤ a0) = true := decide_eq_true c23
              clear c23
              by_cases c24 : a0 ≤ 90
              · rw [if_pos c24] at H
                have c24b0 : decide (a0 ≤ 90) = true := decide_eq_true c24
                clear c24
                obtain rfl := Option.some.inj H
                go_wp2
                go_ret
                exact ⟨by first | rfl | (simp; done) | (simp [*]; done), by repeat (first | exact Drawn0.refl _ | apply Drawn0.step)⟩
              · rw [if_neg c24] at H
                have c24b0 : decide (a0 ≤ 90) = false := decide_eq_false c24
                clear c24
                by_cases c25 : a0 ≥ 48
                · rw [if_pos c25] at H
                  have c25b0 : decide (48 ≤ a0) = true := decide_eq_true c25
                  clear c25
                  by_cases c26 : a0 ≤ 57
                  · rw [if_pos c26] at H
                    have c26b0 : decide (a0 ≤ 57) = true := decide_eq_true c26
                    clear c26
                    obtain rfl := Option.some.inj H
                    go_wp2
                    go_ret
                    exact ⟨by first | rfl | (simp; done) | (simp [*]; done), by repeat (first | exact Drawn0.refl _ | apply Drawn0.step)⟩
                  · rw [if_neg c26] at H
                    have c26b0 : decide (a0 ≤ 57) = false := decide_eq_false c26
                    clear c26
                    by_cases c27 : a0 = 95
                    · rw [if_pos c27] at H
                      have c27b0 : (a0 == 95) = true := beq_iff_eq.mpr c27
                      have c27b1 : (a0 != 95) = false := bne_eq_false_iff_eq.mpr c27
                      clear c27
                      obtain rfl := Option.some.inj H
                      go_wp2
                      go_ret
                      exact ⟨by first | rfl | (simp; done) | (simp [*]; done), by repeat (first | exact Drawn0.refl _ | apply Drawn0.step)⟩
                    · rw [if_neg c27] at H
                      have c27b0 : (a0 == 95) = false := beq_eq_false_iff_ne.mpr c27
                      have c27b1 : (a0 != 95) = true := bne_iff_ne.mpr c27
                      by_cases c28 : a0 ≥ 128
                      · rw [if_pos c28] at H
                        have c28b0 : decide (128 ≤ a0) = true := decide_eq_true c28
                        clear c28
                        obtain rfl := Option.some.inj H
                        go_wp2
                        go_ret
                        exact ⟨by first | rfl | (simp; done) | (simp [*]; done), by repeat (first | exact Drawn0.refl _ | apply Drawn0.step)⟩
                      · rw [if_neg c28] at H
                        have c28b0 : decide (128 ≤ a0) = false := decide_eq_false c28
                        clear c28
                        obtain rfl := Option.some.inj H
                        go_wp2
                        go_ret
                        exact ⟨by first | rfl | (simp; done) | (simp [*]; done), by repeat (first | exact Drawn0.refl _ | apply Drawn0.step)⟩
                · rw [if_neg c25] at H
                  have c25b0 : decide (48 ≤ a0) = false := decide_eq_false c25
                  clear c25
                  by_cases c29 : a0 = 95
                  · rw [if_pos c29] at H
                    have c29b0 : (a0 == 95) = true := beq_iff_eq.mpr c29
                    have c29b1 : (a0 != 95) = false := bne_eq_false_iff_eq.mpr c29
                    clear c29
                    obtain rfl := Option.some.inj H
                    go_wp2
                    go_ret
                    exact ⟨by first | rfl | (simp; done) | (simp [*]; done), by repeat (first | exact Drawn0.refl _ | apply Drawn0.step)⟩
                  · rw [if_neg c29] at H
                    have c29b0 : (a0 == 95) = false := beq_eq_false_iff_ne.mpr c29
                    have c29b1 : (a0 != 95) = true := bne_iff_ne.mpr c29
                    by_cases c30 : a0 ≥ 128
                    · rw [if_pos c30] at H
                      have c30b0 : decide (128 ≤ a0) = true := decide_eq_true c30
                      clear c30
                      obtain rfl := Option.some.inj H
                      go_wp2
                      go_ret
                      exact ⟨by first | rfl | (simp; done) | (simp [*]; done), by repeat (first | exact Drawn0.refl _ | apply Drawn0.step)⟩
                    · rw [if_neg c30] at H
                      have c30b0 : decide (128 ≤ a0) = false := decide_eq_false c30
                      clear c30
                      obtain rfl := Option.some.inj H
                      go_wp2
                      go_ret
                      exact ⟨by first | rfl | (simp; done) | (simp [*]; done), by repeat (first | exact Drawn0.refl _ | apply Drawn0.step)⟩
            · rw [if_neg c23] at H
              have c23b0 : decide (65 ≤ a0) = false := decide_eq_false c23
              clear c23
              by_cases c31 : a0 ≥ 48
              · rw [if_pos c31] at H
                have c31b0 : decide (48 ≤ a0) = true := decide_eq_true c31
                clear c31
                by_cases c32 : a0 ≤ 57
                · rw [if_pos c32] at H
                  have c32b0 : decide (a0 ≤ 57) = true := decide_eq_true c32
                  clear c32
                  obtain rfl := Option.some.inj H
                  go_wp2
                  go_ret
                  exact ⟨by first | rfl | (simp; done) | (simp [*]; done), by repeat (first | exact Drawn0.refl _ | apply Drawn0.step)⟩
                · rw [if_neg c32] at H
                  have c32b0 : decide (a0 ≤ 57) = false := decide_eq_false c32
                  clear c32
                  by_cases c33 : a0 = 95
                  · rw [if_pos c33] at H
                    have c33b0 : (a0 == 95) = true := beq_iff_eq.mpr c33
                    have c33b1 : (a0 != 95) = false := bne_eq_false_iff_eq.mpr c33
                    clear c33
                    obtain rfl := Option.some.inj H
                    go_wp2
                    go_ret
                    exact ⟨by first | rfl | (simp; done) | (simp [*]; done), by repeat (first | exact Drawn0.refl _ | apply Drawn0.step)⟩
                  · rw [if_neg c33] at H
                    have c33b0 : (a0 == 95) = false := beq_eq_false_iff_ne.mpr c33
                    have c33b1 : (a0 != 95) = true := bne_iff_ne.mpr c33
                    by_cases c34 : a0 ≥ 128
                    · rw [if_pos c34] at H
                      have c34b0 : decide (128 ≤ a0) = true := decide_eq_true c34
                      clear c34
                      obtain rfl := Option.some.inj H
                      go_wp2
                      go_ret
                      exact ⟨by first | rfl | (simp; done) | (simp [*]; done), by repeat (first | exact Drawn0.refl _ | apply Drawn0.step)⟩
                    · rw [if_neg c34] at H
                      have c34b0 : decide (128 ≤ a0) = false := decide_eq_false c34
                      clear c34
                      obtain rfl := Option.some.inj H
                      go_wp2
                      go_ret
                      exact ⟨by first | rfl | (simp; done) | (simp [*]; done), by repeat (first | exact Drawn0.refl _ | apply Drawn0.step)⟩
              · rw [if_neg c31] at H
                have c31b0 : decide (48 ≤ a0) = false := decide_eq_false c31
                clear c31
                by_cases c35 : a0 = 95
                · rw [if_pos c35] at H
                  have c35b0 : (a0 == 95) = true := beq_iff_eq.mpr c35
                  have c35b1 : (a0 != 95) = false := bne_eq_false_iff_eq.mpr c35
                  clear c35
                  obtain rfl := Option.some.inj H
                  go_wp2
                  go_ret
                  exact ⟨by first | rfl | (simp; done) | (simp [*]; done), by repeat (first | exact Drawn0.refl _ | apply Drawn0.step)⟩
                · rw [if_neg c35] at H
                  have c35b0 : (a0 == 95) = false := beq_eq_false_iff_ne.mpr c35
                  have c35b1 : (a0 != 95) = true := bne_iff_ne.mpr c35
                  by_cases c36 : a0 ≥ 128
                  · rw [if_pos c36] at H
                    have c36b0 : decide (128 ≤ a0) = true := decide_eq_true c36
                    clear c36
                    obtain rfl := Option.some.inj H
                    go_wp2
                    go_ret
                    exact ⟨by first | rfl | (simp; done) | (simp [*]; done), by repeat (first | exact Drawn0.refl _ | apply Drawn0.step)⟩
                  · rw [if_neg c36] at H
                    have c36b0 : decide (128 ≤ a0) = false := decide_eq_false c36
                    clear c36
                    obtain rfl := Option.some.inj H
                    go_wp2
                    go_ret
                    exact ⟨by first | rfl | (simp; done) | (simp [*]; done), by repeat (first | exact Drawn0.refl _ | apply Drawn0.step)⟩

end Go.Proofs.Ytifkfjpkngdhmaa.V
namespace Go.Proofs.Ytifkfjpkngdhmaa.V
open Go.RowKit Go.Proofs.YtifkfjpkngdhmaaW.PrintWords Go.Proofs.YtifkfjpkngdhmaaW.PrintLast Go.Proofs.YtifkfjpkngdhmaaW.PrintMore
attribute [local go_sem] max2_int min2_int max_two min_two max_three min_three max_four min_four   -- for this text's walks alone
set_option linter.unusedVariables false
set_option linter.unusedSimpArgs false

/-! ### foolscaphelp_Light: function 20 -/
mutual
def foolscaphelp_Light.l0 : Nat → List ByteArray → Int → Int → Option (Bool)
  | 0, _, _, _ => none
  | k + 1, x0, x3, x4 => if x4 < (x0.length : Int) then (if 0 ≤ x4 then (if (wrap64 (x3 + ((rdOf ByteArray.empty x0 x4).size : Int))) > 1200 then (some false) else (foolscaphelp_Light.l1 k x0 (wrap64 (x3 + ((rdOf ByteArray.empty x0 x4).size : Int))) x4 0)) else (none)) else (some true)
def foolscaphelp_Light.l1 : Nat → List ByteArray → Int → Int → Int → Option (Bool)
  | 0, _, _, _, _ => none
  | k + 1, x0, x3, x4, x5 => if 0 ≤ x4 then (if x4 < (x0.length : Int) then (if x5 < ((rdOf ByteArray.empty x0 x4).size : Int) then (if 0 ≤ x5 then (if (bt (rdOf ByteArray.empty x0 x4) x5) = 10 then (some false) else (foolscaphelp_Light.l1 k x0 x3 x4 (wrap64 (x5 + 1)))) else (none)) else (foolscaphelp_Light.l0 k x0 x3 (wrap64 (x4 + 1)))) else (none)) else (none)
end
def foolscaphelp_Light.f (k : Nat) (l0 : List ByteArray) : Option (Bool) := if (l0.length : Int) > 40 then (some false) else (foolscaphelp_Light.l0 k l0 0 0)
theorem foolscaphelp_Light.mono_l : ∀ k, (∀ y0 y1 y2, LeO (foolscaphelp_Light.l0 k y0 y1 y2) (foolscaphelp_Light.l0 (k + 1) y0 y1 y2)) ∧ (∀ y0 y1 y2 y3, LeO (foolscaphelp_Light.l1 k y0 y1 y2 y3) (foolscaphelp_Light.l1 (k + 1) y0 y1 y2 y3))
  | 0 => ⟨fun _ _ _ r h => by simp [foolscaphelp_Light.l0] at h, fun _ _ _ _ r h => by simp [foolscaphelp_Light.l1] at h⟩
  | k + 1 => by
    obtain ⟨ih0, ih1⟩ := foolscaphelp_Light.mono_l k
    refine ⟨?_, ?_⟩
    · intro y0 y1 y2
      unfold foolscaphelp_Light.l0
      repeat' first
      | (with_reducible exact ih0 _ _ _)
      | (with_reducible exact ih1 _ _ _ _)
      | (with_reducible exact LeO.refl _)
      | (with_reducible exact LeO.none _)
      | (with_reducible refine LeO.ite ?_ ?_)
      | (with_reducible refine LeO.bind ?_ (fun _ => ?_))
      | exact ih0 _ _ _
      | exact ih1 _ _ _ _
      | exact LeO.none _
      | refine LeO.ite ?_ ?_
      | refine LeO.bind ?_ (fun _ => ?_)
    · intro y0 y1 y2 y3
      unfold foolscaphelp_Light.l1
      repeat' first
      | (with_reducible exact ih0 _ _ _)
      | (with_reducible exact ih1 _ _ _ _)
      | (with_reducible exact LeO.refl _)
      | (with_reducible exact LeO.none _)
      | (with_reducible refine LeO.ite ?_ ?_)
      | (with_reducible refine LeO.bind ?_ (fun _ => ?_))
      | exact ih0 _ _ _
      | exact ih1 _ _ _ _
      | exact LeO.none _
      | refine LeO.ite ?_ ?_
      | refine LeO.bind ?_ (fun _ => ?_)
theorem foolscaphelp_Light.mono : ∀ a0 k, LeO (foolscaphelp_Light.f k a0) (foolscaphelp_Light.f (k + 1) a0) := by
  intro a0 k
  obtain ⟨ih0, ih1⟩ := foolscaphelp_Light.mono_l k
  unfold foolscaphelp_Light.f
  repeat' first
      | (with_reducible exact ih0 _ _ _)
      | (with_reducible exact ih1 _ _ _ _)
      | (with_reducible exact LeO.refl _)
      | (with_reducible exact LeO.none _)
      | (with_reducible refine LeO.ite ?_ ?_)
      | (with_reducible refine LeO.bind ?_ (fun _ => ?_))
      | exact ih0 _ _ _
      | exact ih1 _ _ _ _
      | exact LeO.none _
      | refine LeO.ite ?_ ?_
      | refine LeO.bind ?_ (fun _ => ?_)
set_option maxHeartbeats 8000000 in
set_option maxRecDepth 100000 in
theorem foolscaphelp_Light.calls (k : Nat) (A0 : Option Addr) (c0 : Nat) (l0 : List ByteArray) (r : Bool) (w : World) (hr0 : Kd.C Kd.string w A0 l0.length l0) (hc0 : l0.length ≤ c0) (h : foolscaphelp_Light.f k l0 = some r) :
    Calls Try.prog 20 #[.slice A0 l0.length c0] w fun e w' => e = .returned (.bool r) ∧ Drawn0 w w' := by
  have HR0 := Aside0.mk hr0
  have HC0 := Aside0.mk hc0
  clear hr0 hc0
  have H : (if (l0.length : Int) > 40 then (some false) else (foolscaphelp_Light.l0 k l0 0 0)) = some r := h
  clear h
  by_cases c2 : (l0.length : Int) > 40
  · rw [if_pos c2] at H
    have c2b0 : decide (40 < (l0.length : Int)) = true := decide_eq_true c2
    have c2b1 : decide (40 < l0.length) = true := decide_eq_true (by omega)
    clear c2
    obtain rfl := Option.some.inj H
    go_enter Try.func20, Try.ntmps20
    go_wp2
    go_ret
    exact ⟨by first | rfl | (simp; done) | (simp [*]; done), by repeat (first | exact Drawn0.refl _ | apply Drawn0.step)⟩
  · rw [if_neg c2] at H
    have c2b0 : decide (40 < (l0.length : Int)) = false := decide_eq_false c2
    have c2b1 : decide (40 < l0.length) = false := decide_eq_false (by omega)
    clear c2
    have H' := Aside0.mk H
    clear H
    go_enter Try.func20, Try.ntmps20
    go_wp2
    go_loopg [3, 4] k (fun kq v3 v4 w' => ∃ (x3_1 : Int) (x4_1 : Int), v3 = .int .i64 x3_1 ∧ v4 = .int .i64 x4_1 ∧ Aside0 (foolscaphelp_Light.l0 kq l0 x3_1 x4_1 = some r) ∧ Aside0 (kq ≤ k) ∧ Drawn0 w w')
    case atStart => exact ⟨(0), (0), (by first | rfl | (simp; done) | (simp [*]; done)), (by first | rfl | (simp; done) | (simp [*]; done)), H', ⟨Nat.le_refl _⟩, by repeat (first | exact Drawn0.refl _ | apply Drawn0.step)⟩
    case round =>
      clear H'
      try clear c2
      try clear c2b0
      try clear c2b1
      try clear p2
      obtain ⟨x3_1, x4_1, rfl, rfl, HA, HK1, ⟨m1, rfl⟩⟩ := hrel
      cases gk with
      | zero => exact absurd HA.out (by simp [foolscaphelp_Light.l0])
      | succ k1 =>
        have H := HA.out
        clear HA
        simp only [foolscaphelp_Light.l0] at H
        by_cases c3 : x4_1 < (l0.length : Int)
        · rw [if_pos c3] at H
          have c3b0 : decide (x4_1 < (l0.length : Int)) = true := decide_eq_true c3
          clear c3
          by_cases c4 : 0 ≤ x4_1
          · rw [if_pos c4] at H
            have c4b0 : decide (0 ≤ x4_1) = true := decide_eq_true c4
            clear c4
            by_cases c5 : (wrap64 (x3_1 + ((rdOf ByteArray.empty l0 x4_1).size : Int))) > 1200
            · rw [if_pos c5] at H
              have c5b0 : decide (1200 < (wrap64 (x3_1 + ((rdOf ByteArray.empty l0 x4_1).size : Int)))) = true := decide_eq_true c5
              clear c5
              obtain rfl := Option.some.inj H
              have p143 : 0 ≤ (x4_1 : Int) := of_decide_eq_true (by first | (with_reducible assumption) | assumption)
              have q143 : x4_1 < (l0.length : Int) := of_decide_eq_true (by first | (with_reducible assumption) | assumption)
              obtain ⟨ad143, e143, hx143_0⟩ := Kd.at_string HR0.out x4_1 p143 q143
              cases e143
              replace p143 := eq_true p143
              replace q143 := eq_true q143
              go_wp2
              go_ret
              exact ⟨by first | rfl | (simp; done) | (simp [*]; done), by repeat (first | exact Drawn0.refl _ | apply Drawn0.step)⟩
            · rw [if_neg c5] at H
              have c5b0 : decide (1200 < (wrap64 (x3_1 + ((rdOf ByteArray.empty l0 x4_1).size : Int)))) = false := decide_eq_false c5
              clear c5
              have H' := Aside0.mk H
              clear H
              have p143 : 0 ≤ (x4_1 : Int) := of_decide_eq_true (by first | (with_reducible assumption) | assumption)
              have q143 : x4_1 < (l0.length : Int) := of_decide_eq_true (by first | (with_reducible assumption) | assumption)
              obtain ⟨ad143, e143, hx143_0⟩ := Kd.at_string HR0.out x4_1 p143 q143
              cases e143
              replace p143 := eq_true p143
              replace q143 := eq_true q143
              go_wp2
              go_loopg [5] k1 (fun kq v5 w' => ∃ (x5_2 : Int), v5 = .int .i64 x5_2 ∧ Aside0 (foolscaphelp_Light.l1 kq l0 (wrap64 (x3_1 + ((rdOf ByteArray.empty l0 x4_1).size : Int))) x4_1 x5_2 = some r) ∧ Aside0 (kq ≤ k1) ∧ Drawn0 w w')
              case atStart => exact ⟨(0), (by first | rfl | (simp; done) | (simp [*]; done)), H', ⟨Nat.le_refl _⟩, by repeat (first | exact Drawn0.refl _ | apply Drawn0.step)⟩
              case round =>
                clear H'
                try clear p1
                try clear q1
                try clear hx1
                try clear c2
                try clear c2b0
                try clear c2b1
                try clear p2
                try clear c3
                try clear c3b0
                try clear c4
                try clear c4b0
                try clear c5
                try clear c5b0
                try clear hx143_0
                try clear p143
                try clear p2
                try clear q143
                obtain ⟨x5_2, rfl, HA, HK2, ⟨m2, rfl⟩⟩ := hrel
                cases gk with
                | zero => exact absurd HA.out (by simp [foolscaphelp_Light.l1])
                | succ k2 =>
                  have H := HA.out
                  clear HA
                  simp only [foolscaphelp_Light.l1] at H
                  by_cases c6 : 0 ≤ x4_1
                  · rw [if_pos c6] at H
                    have c6b0 : decide (0 ≤ x4_1) = true := decide_eq_true c6
                    clear c6
                    by_cases c7 : x4_1 < (l0.length : Int)
                    · rw [if_pos c7] at H
                      have c7b0 : decide (x4_1 < (l0.length : Int)) = true := decide_eq_true c7
                      clear c7
                      by_cases c8 : x5_2 < ((rdOf ByteArray.empty l0 x4_1).size : Int)
                      · rw [if_pos c8] at H
                        have c8b0 : decide (x5_2 < ((rdOf ByteArray.empty l0 x4_1).size : Int)) = true := decide_eq_true c8
                        clear c8
                        by_cases c9 : 0 ≤ x5_2
                        · rw [if_pos c9] at H
                          have c9b0 : decide (0 ≤ x5_2) = true := decide_eq_true c9
                          clear c9
                          by_cases c11 : (bt (rdOf ByteArray.empty l0 x4_1) x5_2) = 10
                          · rw [if_pos c11] at H
                            have c11b0 : ((bt (rdOf ByteArray.empty l0 x4_1) x5_2) == 10) = true := beq_iff_eq.mpr c11
                            have c11b1 : ((bt (rdOf ByteArray.empty l0 x4_1) x5_2) != 10) = false := bne_eq_false_iff_eq.mpr c11
                            clear c11
                            obtain rfl := Option.some.inj H
                            have p144 : 0 ≤ (x4_1 : Int) := of_decide_eq_true (by first | (with_reducible assumption) | assumption)
                            have q144 : x4_1 < (l0.length : Int) := of_decide_eq_true (by first | (with_reducible assumption) | assumption)
                            obtain ⟨ad144, e144, hx144_0⟩ := Kd.at_string HR0.out x4_1 p144 q144
                            obtain rfl : ad143 = ad144 := (by injection e144)
                            replace p144 := eq_true p144
                            replace q144 := eq_true q144
                            have p145 : 0 ≤ (x4_1 : Int) := of_decide_eq_true (by first | (with_reducible assumption) | assumption)
                            have q145 : x4_1 < (l0.length : Int) := of_decide_eq_true (by first | (with_reducible assumption) | assumption)
                            obtain ⟨ad145, e145, hx145_0⟩ := Kd.at_string HR0.out x4_1 p145 q145
                            obtain rfl : ad143 = ad145 := (by injection e145)
                            replace p145 := eq_true p145
                            replace q145 := eq_true q145
                            have p10 : 0 ≤ (x5_2 : Int) := of_decide_eq_true (by first | (with_reducible assumption) | assumption)
                            have q10 : x5_2 < ((rdOf ByteArray.empty l0 x4_1).size : Int) := of_decide_eq_true (by first | (with_reducible assumption) | assumption)
                            have hx10 := bt_at (rdOf ByteArray.empty l0 x4_1) x5_2
                            replace p10 := eq_true p10
                            replace q10 := eq_true q10
                            go_wp2
                            go_ret
                            exact ⟨by first | rfl | (simp; done) | (simp [*]; done), by repeat (first | exact Drawn0.refl _ | apply Drawn0.step)⟩
                          · rw [if_neg c11] at H
                            have c11b0 : ((bt (rdOf ByteArray.empty l0 x4_1) x5_2) == 10) = false := beq_eq_false_iff_ne.mpr c11
                            have c11b1 : ((bt (rdOf ByteArray.empty l0 x4_1) x5_2) != 10) = true := bne_iff_ne.mpr c11
                            have H' := Aside0.mk H
                            clear H
                            have p144 : 0 ≤ (x4_1 : Int) := of_decide_eq_true (by first | (with_reducible assumption) | assumption)
                            have q144 : x4_1 < (l0.length : Int) := of_decide_eq_true (by first | (with_reducible assumption) | assumption)
                            obtain ⟨ad144, e144, hx144_0⟩ := Kd.at_string HR0.out x4_1 p144 q144
                            obtain rfl : ad143 = ad144 := (by injection e144)
                            replace p144 := eq_true p144
                            replace q144 := eq_true q144
                            have p145 : 0 ≤ (x4_1 : Int) := of_decide_eq_true (by first | (with_reducible assumption) | assumption)
                            have q145 : x4_1 < (l0.length : Int) := of_decide_eq_true (by first | (with_reducible assumption) | assumption)
                            obtain ⟨ad145, e145, hx145_0⟩ := Kd.at_string HR0.out x4_1 p145 q145
                            obtain rfl : ad143 = ad145 := (by injection e145)
                            replace p145 := eq_true p145
                            replace q145 := eq_true q145
                            have p10 : 0 ≤ (x5_2 : Int) := of_decide_eq_true (by first | (with_reducible assumption) | assumption)
                            have q10 : x5_2 < ((rdOf ByteArray.empty l0 x4_1).size : Int) := of_decide_eq_true (by first | (with_reducible assumption) | assumption)
                            have hx10 := bt_at (rdOf ByteArray.empty l0 x4_1) x5_2
                            replace p10 := eq_true p10
                            replace q10 := eq_true q10
                            go_wp2
                            go_roundg k2
                            case measure => have := HK1.out; have := HK2.out; omega
                            case rel => exact ⟨(wrap64 (x5_2 + 1)), (by first | rfl | (simp; done) | (simp [*]; done)), H', ⟨by have := HK1.out; have := HK2.out; omega⟩, by repeat (first | exact Drawn0.refl _ | apply Drawn0.step)⟩
                        · rw [if_neg c9] at H
                          exact absurd H (by simp)
                      · rw [if_neg c8] at H
                        have c8b0 : decide (x5_2 < ((rdOf ByteArray.empty l0 x4_1).size : Int)) = false := decide_eq_false c8
                        clear c8
                        have H' := Aside0.mk H
                        clear H
                        have p144 : 0 ≤ (x4_1 : Int) := of_decide_eq_true (by first | (with_reducible assumption) | assumption)
                        have q144 : x4_1 < (l0.length : Int) := of_decide_eq_true (by first | (with_reducible assumption) | assumption)
                        obtain ⟨ad144, e144, hx144_0⟩ := Kd.at_string HR0.out x4_1 p144 q144
                        obtain rfl : ad143 = ad144 := (by injection e144)
                        replace p144 := eq_true p144
                        replace q144 := eq_true q144
                        go_wp2
                        go_roundg k2
                        case measure => have := HK1.out; have := HK2.out; omega
                        case rel => exact ⟨((wrap64 (x3_1 + ((rdOf ByteArray.empty l0 x4_1).size : Int)))), (wrap64 (x4_1 + 1)), (by first | rfl | (simp; done) | (simp [*]; done)), (by first | rfl | (simp; done) | (simp [*]; done)), H', ⟨by have := HK1.out; have := HK2.out; omega⟩, by repeat (first | exact Drawn0.refl _ | apply Drawn0.step)⟩
                    · rw [if_neg c7] at H
                      exact absurd H (by simp)
                  · rw [if_neg c6] at H
                    exact absurd H (by simp)
          · rw [if_neg c4] at H
            exact absurd H (by simp)
        · rw [if_neg c3] at H
          have c3b0 : decide (x4_1 < (l0.length : Int)) = false := decide_eq_false c3
          clear c3
          obtain rfl := Option.some.inj H
          go_wp2
          go_ret
          exact ⟨by first | rfl | (simp; done) | (simp [*]; done), by repeat (first | exact Drawn0.refl _ | apply Drawn0.step)⟩

end Go.Proofs.Ytifkfjpkngdhmaa.V
namespace Go.Proofs.Ytifkfjpkngdhmaa.V
open Go.RowKit Go.Proofs.YtifkfjpkngdhmaaW.PrintWords Go.Proofs.YtifkfjpkngdhmaaW.PrintLast Go.Proofs.YtifkfjpkngdhmaaW.PrintMore
attribute [local go_sem] max2_int min2_int max_two min_two max_three min_three max_four min_four   -- for this text's walks alone
set_option linter.unusedVariables false
set_option linter.unusedSimpArgs false

/-! ### foolscaphelp_Text: function 9 -/
def foolscaphelp_Text.f (k : Nat) (l0 : List ByteArray) : Option (Bool) := if (l0.length : Int) > 0 then ((foolscaphelp_Light.f k l0).bind fun t146 => (some t146)) else (some false)
theorem foolscaphelp_Text.mono : ∀ a0 k, LeO (foolscaphelp_Text.f k a0) (foolscaphelp_Text.f (k + 1) a0) := by
  intro a0 k
  unfold foolscaphelp_Text.f
  repeat' first
      | (with_reducible exact foolscaphelp_Light.mono _ _)
      | (with_reducible exact LeO.refl _)
      | (with_reducible exact LeO.none _)
      | (with_reducible refine LeO.ite ?_ ?_)
      | (with_reducible refine LeO.bind ?_ (fun _ => ?_))
      | exact foolscaphelp_Light.mono _ _
      | exact LeO.none _
      | refine LeO.ite ?_ ?_
      | refine LeO.bind ?_ (fun _ => ?_)
set_option maxHeartbeats 8000000 in
set_option maxRecDepth 100000 in
theorem foolscaphelp_Text.calls (k : Nat) (A0 : Option Addr) (c0 : Nat) (l0 : List ByteArray) (r : Bool) (w : World) (hr0 : Kd.C Kd.string w A0 l0.length l0) (hc0 : l0.length ≤ c0) (h : foolscaphelp_Text.f k l0 = some r) :
    Calls Try.prog 9 #[.slice A0 l0.length c0] w fun e w' => e = .returned (.bool r) ∧ Drawn0 w w' := by
  have HR0 := Aside0.mk hr0
  have HC0 := Aside0.mk hc0
  clear hr0 hc0
  have H : (if (l0.length : Int) > 0 then ((foolscaphelp_Light.f k l0).bind fun t146 => (some t146)) else (some false)) = some r := h
  clear h
  by_cases c2 : (l0.length : Int) > 0
  · rw [if_pos c2] at H
    have c2b0 : decide (0 < (l0.length : Int)) = true := decide_eq_true c2
    have c2b1 : decide (0 < l0.length) = true := decide_eq_true (by omega)
    clear c2
    replace H := Option.bind_eq_some_iff.mp H
    obtain ⟨t146, A30, H⟩ := H
    replace H : (some t146) = some r := H
    have A3 := Aside0.mk A30
    clear A30
    obtain rfl := Option.some.inj H
    go_enter Try.func9, Try.ntmps9
    go_wp2_with (first | (go_at_call 20; (with_reducible refine (foolscaphelp_Light.calls k _ _ l0 t146 _ ?side1 ?side2 A3.out).mono ?_); (case side1 => repeat (first | exact HR0.out | (with_reducible refine Kd.C_alloc ?_ _) | (with_reducible refine Kd.C_drewN ?_ _) | (with_reducible refine Kd.C_drew ?_))); (case side2 => exact HC0.out); rintro e w' ⟨rfl, ⟨nd, rfl⟩⟩))
    go_ret
    exact ⟨by first | rfl | (simp; done) | (simp [*]; done), by repeat (first | exact Drawn0.refl _ | apply Drawn0.step)⟩
  · rw [if_neg c2] at H
    have c2b0 : decide (0 < (l0.length : Int)) = false := decide_eq_false c2
    have c2b1 : decide (0 < l0.length) = false := decide_eq_false (by omega)
    clear c2
    obtain rfl := Option.some.inj H
    go_enter Try.func9, Try.ntmps9
    go_wp2
    go_ret
    exact ⟨by first | rfl | (simp; done) | (simp [*]; done), by repeat (first | exact Drawn0.refl _ | apply Drawn0.step)⟩

end Go.Proofs.Ytifkfjpkngdhmaa.V
namespace Go.Proofs.Ytifkfjpkngdhmaa.Pure
open Go.RowKit Go.Proofs.Ytifkfjpkngdhmaa.V Go.Proofs.YtifkfjpkngdhmaaW.PrintWords Go.Proofs.YtifkfjpkngdhmaaW.PrintLast Go.Proofs.YtifkfjpkngdhmaaW.PrintMore

theorem w64 {x : Int} (h0 : -9223372036854775808 ≤ x) (h1 : x < 9223372036854775808) : wrap64 x = x := by unfold wrap64; omega

def ofS (c : Int) (big : Bool) : Int :=
  if c = 32 ∨ c = 9 then 0 else if big = true then 1
  else if (97 ≤ c ∧ c ≤ 122) ∨ (65 ≤ c ∧ c ≤ 90) ∨ (48 ≤ c ∧ c ≤ 57) ∨ c = 95 ∨ 128 ≤ c then 1 else 2

theorem ofS_else {c : Int} (h1 : ¬ c = 32) (h2 : ¬ c = 9) (b : Bool) : ofS c b = if b = true then 1 else if (97 ≤ c ∧ c ≤ 122) ∨ (65 ≤ c ∧ c ≤ 90) ∨ (48 ≤ c ∧ c ≤ 57) ∨ c = 95 ∨ 128 ≤ c then 1 else 2 := by
  unfold ofS
  rw [if_neg (by omega)]

theorem mn_le {a b : Int} (h : a ≤ b) : mn a b = a := by unfold mn; rw [if_neg (by omega)]
theorem mn_ge {a b : Int} (h : b ≤ a) : mn a b = b := by unfold mn; split <;> omega
theorem mx_le {a b : Int} (h : a ≤ b) : mx a b = b := by unfold mx; split <;> omega
theorem mx_ge {a b : Int} (h : b ≤ a) : mx a b = a := by unfold mx; rw [if_neg (by omega)]

/-- a motion: where to, its way, whether it jumps, what is wanted; is there one? -/
abbrev Mv := Int × Int × Int × Bool × Int × Bool
abbrev no : Mv := (0, 0, 0, false, 0, false)


theorem ln_mem {l : List ByteArray} {j : Int} (h0 : 0 ≤ j) (h1 : j < l.length) : rdOf ByteArray.empty l j ∈ l := by
  unfold rdOf
  rw [List.getD, List.getElem?_eq_getElem (by omega)]
  exact List.getElem_mem _

/-- what 'Text' tells of lines. -/
def Small (l : List ByteArray) : Prop := 0 < l.length ∧ l.length ≤ 40 ∧ ∀ s ∈ l, s.size ≤ 1200

theorem light_l (l : List ByteArray) (hs : ∀ s ∈ l, s.size ≤ 140737488351232) (hl : l.length ≤ 40) (d : Nat) :
    (∀ (k : Nat) (n : Int) (i : Nat), i ≤ l.length → l.length - i = d → 0 ≤ n → n ≤ 1200 → d * 1210 + 1 ≤ k →
      ∃ b, foolscaphelp_Light.l0 k l n (i : Int) = some b ∧ (b = true → ∀ j : Int, (i : Int) ≤ j → j < l.length → (rdOf ByteArray.empty l j).size ≤ 1200)) := by
  induction d with
  | zero =>
    intro k n i hi hd h0 h1 hk
    obtain ⟨k, rfl⟩ : ∃ m, k = m + 1 := ⟨k - 1, by omega⟩
    refine ⟨true, ?_, fun _ j h1 h2 => by omega⟩
    simp only [foolscaphelp_Light.l0]
    rw [if_neg (by omega)]
  | succ d ih =>
    intro k n i hi hd h0 h1 hk
    obtain ⟨k, rfl⟩ : ∃ m, k = m + 1 := ⟨k - 1, by omega⟩
    have hz := hs _ (ln_mem (l := l) (j := i) (by omega) (by omega))
    have e1 : wrap64 (n + ((rdOf ByteArray.empty l i).size : Int)) = n + ((rdOf ByteArray.empty l i).size : Int) := w64 (by omega) (by omega)
    simp only [foolscaphelp_Light.l0]
    rw [if_pos (by omega), if_pos (by omega), e1]
    by_cases hb : n + ((rdOf ByteArray.empty l i).size : Int) > 1200
    · rw [if_pos hb]
      exact ⟨false, rfl, fun h => by cases h⟩
    · rw [if_neg hb]
      obtain ⟨m, hm⟩ : ∃ m, m = d * 1210 + 1 := ⟨_, rfl⟩
      have hmk : (rdOf ByteArray.empty l (i : Int)).size + m + 2 ≤ k := by omega
      rw [← hm] at ih
      clear hm hk
      have inner : ∀ (e : Nat) (k c : Nat), c ≤ (rdOf ByteArray.empty l i).size → (rdOf ByteArray.empty l i).size - c = e → e + m + 2 ≤ k →
          ∃ b, foolscaphelp_Light.l1 k l (n + ((rdOf ByteArray.empty l i).size : Int)) (i : Int) (c : Int) = some b ∧ (b = true → ∀ j : Int, ((i + 1 : Nat) : Int) ≤ j → j < l.length → (rdOf ByteArray.empty l j).size ≤ 1200) := by
        intro e
        induction e with
        | zero =>
          intro k c hc he hk
          obtain ⟨k, rfl⟩ : ∃ m, k = m + 1 := ⟨k - 1, by omega⟩
          simp only [foolscaphelp_Light.l1]
          rw [if_pos (by omega), if_pos (by omega), if_neg (by omega), w64 (by omega) (by omega)]
          exact ih k _ (i + 1) (by omega) (by omega) (by omega) (by omega) (by omega)
        | succ e ih2 =>
          intro k c hc he hk
          obtain ⟨k, rfl⟩ : ∃ m, k = m + 1 := ⟨k - 1, by omega⟩
          simp only [foolscaphelp_Light.l1]
          rw [if_pos (by omega), if_pos (by omega), if_pos (by omega), if_pos (by omega)]
          split
          · exact ⟨false, rfl, fun h => by cases h⟩
          · rw [w64 (by omega) (by omega)]
            exact ih2 k (c + 1) (by omega) (by omega) (by omega)
      obtain ⟨b, hb1, hb2⟩ := inner (rdOf ByteArray.empty l i).size k 0 (Nat.zero_le _) (Nat.sub_zero _) hmk
      refine ⟨b, hb1, fun h j h2 h3 => ?_⟩
      by_cases hj : j = i
      · subst hj
        omega
      · exact hb2 h j (by omega) h3

theorem text_tells (l : List ByteArray) (hs : ∀ s ∈ l, s.size ≤ 140737488351232) (k : Nat) (hk : 50000 ≤ k) :
    ∃ b, foolscaphelp_Text.f k l = some b ∧ (b = true → Small l) := by
  unfold foolscaphelp_Text.f
  by_cases h : (l.length : Int) > 0
  · rw [if_pos h]
    unfold foolscaphelp_Light.f
    by_cases h2 : (l.length : Int) > 40
    · rw [if_pos h2]
      exact ⟨false, rfl, fun h => by cases h⟩
    · rw [if_neg h2]
      obtain ⟨b, hb, hb2⟩ := light_l l hs (by omega) l.length k 0 0 (by omega) (by omega) (by omega) (by omega) (by omega)
      refine ⟨b, by rw [show ((0 : Nat) : Int) = 0 from rfl] at hb; rw [hb]; rfl, fun ht => ⟨by omega, by omega, fun s hs => ?_⟩⟩
      obtain ⟨j, hj, rfl⟩ := List.getElem_of_mem hs
      have := hb2 ht j (by omega) (by omega)
      unfold rdOf at this
      rw [List.getD, List.getElem?_eq_getElem (by omega)] at this
      exact this
  · rw [if_neg h]
    exact ⟨false, rfl, fun h => by cases h⟩

theorem Small.at {l : List ByteArray} (h : Small l) {j : Int} (h0 : 0 ≤ j) (h1 : j < l.length) : (rdOf ByteArray.empty l j).size ≤ 1200 := h.2.2 _ (ln_mem h0 h1)

end Go.Proofs.Ytifkfjpkngdhmaa.Pure
namespace Go.Proofs.Ytifkfjpkngdhmaa.Pure
open Go.RowKit Go.Proofs.Ytifkfjpkngdhmaa.V Go.Proofs.YtifkfjpkngdhmaaW.PrintWords Go.Proofs.YtifkfjpkngdhmaaW.PrintLast Go.Proofs.YtifkfjpkngdhmaaW.PrintMore

theorem of_class (k : Nat) (c : Int) (b : Bool) (hk : 5 ≤ k) : class_Of.f k c b = some (ofS c b) := by
  obtain ⟨k, rfl⟩ : ∃ m, k = m + 1 + 1 + 1 + 1 + 1 := ⟨k - 5, by omega⟩
  unfold class_Of.f
  simp only [class_Of.j0, class_Of.j1, class_Of.j2, class_Of.j3]
  by_cases h1 : c = 32
  · subst h1; simp [ofS]
  · rw [if_neg h1]
    by_cases h2 : c = 9
    · subst h2; simp [ofS]
    · have h3 : (c == 9) = false := by simpa using h2
      rw [ofS_else h1 h2]
      simp only [h3, Bool.false_eq_true, if_false]
      cases b with
      | true => rfl
      | false =>
        simp only [Bool.false_eq_true, if_false]
        (repeat' split) <;> first | rfl | (exfalso; (try simp only [decide_eq_true_eq] at *); omega)

theorem of_ref (k : Nat) (c : Int) (b : Bool) (hk : 1 ≤ k) : foolscapref5_Of.f k c b = some (ofS c b) := by
  obtain ⟨k, rfl⟩ : ∃ m, k = m + 1 := ⟨k - 1, by omega⟩
  unfold foolscapref5_Of.f
  simp only [foolscapref5_Of.j0]
  by_cases h1 : c = 32
  · subst h1; simp [ofS]
  · rw [if_neg h1]
    by_cases h2 : c = 9
    · subst h2; simp [ofS]
    · have h3 : (c == 9) = false := by simpa using h2
      rw [ofS_else h1 h2]
      simp only [h3, Bool.false_eq_true, if_false]
      cases b with
      | true => rfl
      | false =>
        simp only [Bool.false_eq_true, if_false]
        (repeat' split) <;> first | rfl | (exfalso; omega)

end Go.Proofs.Ytifkfjpkngdhmaa.Pure
namespace Go.Proofs.Ytifkfjpkngdhmaa.Pure
open Go.RowKit Go.Proofs.Ytifkfjpkngdhmaa.V Go.Proofs.YtifkfjpkngdhmaaW.PrintWords Go.Proofs.YtifkfjpkngdhmaaW.PrintLast Go.Proofs.YtifkfjpkngdhmaaW.PrintMore
set_option linter.unusedVariables false
set_option linter.unusedSimpArgs false

/-- a word begins at byte x. -/
def startB (s : ByteArray) (big : Bool) (x : Int) : Bool :=
  ofS (bt s x) big != 0 && (x == 0 || ofS (bt s (x - 1)) big != ofS (bt s x) big)
/-- a word ends at byte x. -/
def endB (s : ByteArray) (big : Bool) (x : Int) : Bool :=
  ofS (bt s x) big != 0 && (x == (s.size : Int) - 1 || ofS (bt s (x + 1)) big != ofS (bt s x) big)

set_option maxHeartbeats 2000000 in
set_option maxRecDepth 100000 in
theorem starts1_calls (s : ByteArray) (x : Int) (big : Bool) (B : Nat) (w : World) (h0 : 0 ≤ x) (h1 : x < s.size) (hs : s.size ≤ 140737488351232) (hB : w.cell? ⟨B, 0, none⟩ = some (.bool big)) :
    Calls Try.prog 40 #[.string s, .int .i64 x, .pointer (some ⟨B, 0, none⟩)] w fun e w' => e = .returned (.bool (startB s big x)) ∧ Drawn0 w w' := by
  obtain ⟨c, hc⟩ : ∃ c, ofS (bt s x) big = c := ⟨_, rfl⟩
  have HC := Aside0.mk (show class_Of.f 5 (bt s x) big = some c by rw [of_class 5 _ _ (Nat.le_refl _), hc])
  have hx5 := bt_at s x
  have k0 := h0
  have k1 := h1
  have p5 := eq_true h0
  have q5 := eq_true h1
  by_cases e0 : c = 0
  · have hres : startB s big x = false := by unfold startB; rw [hc, e0]; rfl
    rw [hres]
    subst e0
    clear hres hc h0 h1 k0 k1
    go_enter Try.func40, Try.ntmps40
    go_wp2
    go_quiet (first | (go_at_call 41; (with_reducible refine (class_Of.calls 5 (bt s x) big 0 _ HC.out).mono ?_); rintro e w' ⟨rfl, ⟨nd, rfl⟩⟩; (try first | exact ⟨rfl, _, World.drewN_drewN _ _ _⟩ | exact ⟨rfl, _, Eq.trans (World.drewN_drewN _ _ _) (congrArg (World.drewN _) (Nat.add_assoc _ _ _))⟩)))
    go_wp2
    go_quiet (first | (go_at_call 41; (with_reducible refine (class_Of.calls 5 (bt s x) big 0 _ HC.out).mono ?_); rintro e w' ⟨rfl, ⟨nd, rfl⟩⟩; (try first | exact ⟨rfl, _, World.drewN_drewN _ _ _⟩ | exact ⟨rfl, _, Eq.trans (World.drewN_drewN _ _ _) (congrArg (World.drewN _) (Nat.add_assoc _ _ _))⟩)))
    go_wp2
    go_ret
    exact ⟨rfl, ⟨_, World.drewN_drewN _ _ _⟩⟩
  · have n0 : (c == 0) = false := beq_eq_false_iff_ne.mpr e0
    have n1 : (c != 0) = true := bne_iff_ne.mpr e0
    by_cases e1 : x = 0
    · have hres : startB s big x = true := by unfold startB; rw [hc, n1, show (x == 0) = true from beq_iff_eq.mpr e1]; rfl
      rw [hres]
      have n2 : (x == 0) = true := beq_iff_eq.mpr e1
      clear hres hc h0 h1 k0 k1 e0 e1
      go_enter Try.func40, Try.ntmps40
      go_wp2
      go_quiet (first | (go_at_call 41; (with_reducible refine (class_Of.calls 5 (bt s x) big c _ HC.out).mono ?_); rintro e w' ⟨rfl, ⟨nd, rfl⟩⟩; (try first | exact ⟨rfl, _, World.drewN_drewN _ _ _⟩ | exact ⟨rfl, _, Eq.trans (World.drewN_drewN _ _ _) (congrArg (World.drewN _) (Nat.add_assoc _ _ _))⟩)))
      go_wp2
      go_quiet (first | (go_at_call 41; (with_reducible refine (class_Of.calls 5 (bt s x) big c _ HC.out).mono ?_); rintro e w' ⟨rfl, ⟨nd, rfl⟩⟩; (try first | exact ⟨rfl, _, World.drewN_drewN _ _ _⟩ | exact ⟨rfl, _, Eq.trans (World.drewN_drewN _ _ _) (congrArg (World.drewN _) (Nat.add_assoc _ _ _))⟩)))
      go_wp2
      go_ret
      exact ⟨rfl, ⟨_, World.drewN_drewN _ _ _⟩⟩
    · obtain ⟨d, hd⟩ : ∃ d, ofS (bt s (x - 1)) big = d := ⟨_, rfl⟩
      have hres : startB s big x = (d != c) := by unfold startB; rw [hc, hd, n1, show (x == 0) = false from beq_eq_false_iff_ne.mpr e1]; simp
      rw [hres]
      have n2 : (x == 0) = false := beq_eq_false_iff_ne.mpr e1
      obtain ⟨y, hy⟩ : ∃ y, x - 1 = y := ⟨_, rfl⟩
      have wx : IntKind.i64.wrap (x - 1) = y := by rw [Go.IntWalk.i64_in _ (by omega)]; exact hy
      rw [hy] at hd
      have HD := Aside0.mk (show class_Of.f 5 (bt s y) big = some d by rw [of_class 5 _ _ (Nat.le_refl _), hd])
      have hx6 := bt_at s y
      have m0 : 0 ≤ y := by omega
      have m1 : y < s.size := by omega
      have p6 := eq_true m0
      have q6 := eq_true m1
      clear hres hc hd e0 e1 hy
      go_enter Try.func40, Try.ntmps40
      go_wp2
      go_quiet (first | (go_at_call 41; (with_reducible refine (class_Of.calls 5 (bt s x) big c _ HC.out).mono ?_); rintro e w' ⟨rfl, ⟨nd, rfl⟩⟩; (try first | exact ⟨rfl, _, World.drewN_drewN _ _ _⟩ | exact ⟨rfl, _, Eq.trans (World.drewN_drewN _ _ _) (congrArg (World.drewN _) (Nat.add_assoc _ _ _))⟩)) | (go_at_call 41; (with_reducible refine (class_Of.calls 5 (bt s y) big d _ HD.out).mono ?_); rintro e w' ⟨rfl, ⟨nd, rfl⟩⟩; (try first | exact ⟨rfl, _, World.drewN_drewN _ _ _⟩ | exact ⟨rfl, _, Eq.trans (World.drewN_drewN _ _ _) (congrArg (World.drewN _) (Nat.add_assoc _ _ _))⟩)))
      go_wp2
      go_quiet (first | (go_at_call 41; (with_reducible refine (class_Of.calls 5 (bt s x) big c _ HC.out).mono ?_); rintro e w' ⟨rfl, ⟨nd, rfl⟩⟩; (try first | exact ⟨rfl, _, World.drewN_drewN _ _ _⟩ | exact ⟨rfl, _, Eq.trans (World.drewN_drewN _ _ _) (congrArg (World.drewN _) (Nat.add_assoc _ _ _))⟩)) | (go_at_call 41; (with_reducible refine (class_Of.calls 5 (bt s y) big d _ HD.out).mono ?_); rintro e w' ⟨rfl, ⟨nd, rfl⟩⟩; (try first | exact ⟨rfl, _, World.drewN_drewN _ _ _⟩ | exact ⟨rfl, _, Eq.trans (World.drewN_drewN _ _ _) (congrArg (World.drewN _) (Nat.add_assoc _ _ _))⟩)))
      go_wp2
      go_ret
      exact ⟨rfl, ⟨_, World.drewN_drewN _ _ _⟩⟩

set_option maxHeartbeats 2000000 in
set_option maxRecDepth 100000 in
theorem ends1_calls (s : ByteArray) (x : Int) (big : Bool) (B : Nat) (w : World) (h0 : 0 ≤ x) (h1 : x < s.size) (hs : s.size ≤ 140737488351232) (hB : w.cell? ⟨B, 0, none⟩ = some (.bool big)) :
    Calls Try.prog 42 #[.string s, .int .i64 x, .pointer (some ⟨B, 0, none⟩)] w fun e w' => e = .returned (.bool (endB s big x)) ∧ Drawn0 w w' := by
  obtain ⟨c, hc⟩ : ∃ c, ofS (bt s x) big = c := ⟨_, rfl⟩
  have HC := Aside0.mk (show class_Of.f 5 (bt s x) big = some c by rw [of_class 5 _ _ (Nat.le_refl _), hc])
  have hx5 := bt_at s x
  have k0 := h0
  have k1 := h1
  have p5 := eq_true h0
  have q5 := eq_true h1
  by_cases e0 : c = 0
  · have hres : endB s big x = false := by unfold endB; rw [hc, e0]; rfl
    rw [hres]
    subst e0
    clear hres hc h0 h1 k0 k1
    go_enter Try.func42, Try.ntmps42
    go_wp2
    go_quiet (first | (go_at_call 41; (with_reducible refine (class_Of.calls 5 (bt s x) big 0 _ HC.out).mono ?_); rintro e w' ⟨rfl, ⟨nd, rfl⟩⟩; (try first | exact ⟨rfl, _, World.drewN_drewN _ _ _⟩ | exact ⟨rfl, _, Eq.trans (World.drewN_drewN _ _ _) (congrArg (World.drewN _) (Nat.add_assoc _ _ _))⟩)))
    go_wp2
    go_quiet (first | (go_at_call 41; (with_reducible refine (class_Of.calls 5 (bt s x) big 0 _ HC.out).mono ?_); rintro e w' ⟨rfl, ⟨nd, rfl⟩⟩; (try first | exact ⟨rfl, _, World.drewN_drewN _ _ _⟩ | exact ⟨rfl, _, Eq.trans (World.drewN_drewN _ _ _) (congrArg (World.drewN _) (Nat.add_assoc _ _ _))⟩)))
    go_wp2
    go_ret
    exact ⟨rfl, ⟨_, World.drewN_drewN _ _ _⟩⟩
  · have n0 : (c == 0) = false := beq_eq_false_iff_ne.mpr e0
    have n1 : (c != 0) = true := bne_iff_ne.mpr e0
    by_cases e1 : x = (s.size : Int) - 1
    · have hres : endB s big x = true := by unfold endB; rw [hc, n1, show (x == (s.size : Int) - 1) = true from beq_iff_eq.mpr e1]; rfl
      rw [hres]
      have n2 : (x == (s.size : Int) - 1) = true := beq_iff_eq.mpr e1
      have wz : IntKind.i64.wrap ((s.size : Int) - 1) = (s.size : Int) - 1 := Go.IntWalk.i64_in _ (by omega)
      clear hres hc h0 h1 k0 k1 e0 e1
      go_enter Try.func42, Try.ntmps42
      go_wp2
      go_quiet (first | (go_at_call 41; (with_reducible refine (class_Of.calls 5 (bt s x) big c _ HC.out).mono ?_); rintro e w' ⟨rfl, ⟨nd, rfl⟩⟩; (try first | exact ⟨rfl, _, World.drewN_drewN _ _ _⟩ | exact ⟨rfl, _, Eq.trans (World.drewN_drewN _ _ _) (congrArg (World.drewN _) (Nat.add_assoc _ _ _))⟩)))
      go_wp2
      go_quiet (first | (go_at_call 41; (with_reducible refine (class_Of.calls 5 (bt s x) big c _ HC.out).mono ?_); rintro e w' ⟨rfl, ⟨nd, rfl⟩⟩; (try first | exact ⟨rfl, _, World.drewN_drewN _ _ _⟩ | exact ⟨rfl, _, Eq.trans (World.drewN_drewN _ _ _) (congrArg (World.drewN _) (Nat.add_assoc _ _ _))⟩)))
      go_wp2
      go_ret
      exact ⟨rfl, ⟨_, World.drewN_drewN _ _ _⟩⟩
    · obtain ⟨d, hd⟩ : ∃ d, ofS (bt s (x + 1)) big = d := ⟨_, rfl⟩
      have hres : endB s big x = (d != c) := by unfold endB; rw [hc, hd, n1, show (x == (s.size : Int) - 1) = false from beq_eq_false_iff_ne.mpr e1]; simp
      rw [hres]
      have n2 : (x == (s.size : Int) - 1) = false := beq_eq_false_iff_ne.mpr e1
      obtain ⟨y, hy⟩ : ∃ y, x + 1 = y := ⟨_, rfl⟩
      have wx : IntKind.i64.wrap (x + 1) = y := by rw [Go.IntWalk.i64_in _ (by omega)]; exact hy
      rw [hy] at hd
      have HD := Aside0.mk (show class_Of.f 5 (bt s y) big = some d by rw [of_class 5 _ _ (Nat.le_refl _), hd])
      have hx6 := bt_at s y
      have m0 : 0 ≤ y := by omega
      have m1 : y < s.size := by omega
      have p6 := eq_true m0
      have q6 := eq_true m1
      have wz : IntKind.i64.wrap ((s.size : Int) - 1) = (s.size : Int) - 1 := Go.IntWalk.i64_in _ (by omega)
      clear hres hc hd e0 e1 hy
      go_enter Try.func42, Try.ntmps42
      go_wp2
      go_quiet (first | (go_at_call 41; (with_reducible refine (class_Of.calls 5 (bt s x) big c _ HC.out).mono ?_); rintro e w' ⟨rfl, ⟨nd, rfl⟩⟩; (try first | exact ⟨rfl, _, World.drewN_drewN _ _ _⟩ | exact ⟨rfl, _, Eq.trans (World.drewN_drewN _ _ _) (congrArg (World.drewN _) (Nat.add_assoc _ _ _))⟩)) | (go_at_call 41; (with_reducible refine (class_Of.calls 5 (bt s y) big d _ HD.out).mono ?_); rintro e w' ⟨rfl, ⟨nd, rfl⟩⟩; (try first | exact ⟨rfl, _, World.drewN_drewN _ _ _⟩ | exact ⟨rfl, _, Eq.trans (World.drewN_drewN _ _ _) (congrArg (World.drewN _) (Nat.add_assoc _ _ _))⟩)))
      go_wp2
      go_quiet (first | (go_at_call 41; (with_reducible refine (class_Of.calls 5 (bt s x) big c _ HC.out).mono ?_); rintro e w' ⟨rfl, ⟨nd, rfl⟩⟩; (try first | exact ⟨rfl, _, World.drewN_drewN _ _ _⟩ | exact ⟨rfl, _, Eq.trans (World.drewN_drewN _ _ _) (congrArg (World.drewN _) (Nat.add_assoc _ _ _))⟩)) | (go_at_call 41; (with_reducible refine (class_Of.calls 5 (bt s y) big d _ HD.out).mono ?_); rintro e w' ⟨rfl, ⟨nd, rfl⟩⟩; (try first | exact ⟨rfl, _, World.drewN_drewN _ _ _⟩ | exact ⟨rfl, _, Eq.trans (World.drewN_drewN _ _ _) (congrArg (World.drewN _) (Nat.add_assoc _ _ _))⟩)))
      go_wp2
      go_ret
      exact ⟨rfl, ⟨_, World.drewN_drewN _ _ _⟩⟩

end Go.Proofs.Ytifkfjpkngdhmaa.Pure
namespace Go.Proofs.Ytifkfjpkngdhmaa.Pure
open Go.RowKit Go.Shelf Go.Proofs.Ytifkfjpkngdhmaa.V Go.Proofs.YtifkfjpkngdhmaaW.PrintWords Go.Proofs.YtifkfjpkngdhmaaW.PrintLast Go.Proofs.YtifkfjpkngdhmaaW.PrintMore
set_option linter.unusedVariables false
set_option linter.unusedSimpArgs false
attribute [local go_sem] Oper.semAt_some

/-- the places of the first m bytes of line j at which is asked with yes (and of an empty line's beginning). -/
def lineP (empty : Bool) (ask : ByteArray → Int → Bool) (j : Nat) (s : ByteArray) (m : Nat) : List S24 :=
  (if empty = true ∧ s.size = 0 then [⟨(j : Int), 0⟩] else []) ++ ((List.range m).filter fun (i : Nat) => ask s (i : Int)).map fun (i : Nat) => ⟨(j : Int), (i : Int)⟩
/-- the places of the first k lines. -/
def plc (empty : Bool) (ask : ByteArray → Int → Bool) (l : List ByteArray) (k : Nat) : List S24 :=
  (List.range k).flatMap fun j => lineP empty ask j (rdOf ByteArray.empty l (j : Int)) (rdOf ByteArray.empty l (j : Int)).size

theorem plc_succ (empty : Bool) (ask : ByteArray → Int → Bool) (l : List ByteArray) (k : Nat) :
    plc empty ask l (k + 1) = plc empty ask l k ++ lineP empty ask k (rdOf ByteArray.empty l (k : Int)) (rdOf ByteArray.empty l (k : Int)).size := by
  simp [plc, List.range_succ]
theorem lineP_zero (empty : Bool) (ask : ByteArray → Int → Bool) (j : Nat) (s : ByteArray) : lineP empty ask j s 0 = if empty = true ∧ s.size = 0 then [⟨(j : Int), 0⟩] else [] := by simp [lineP]
theorem lineP_yes (empty : Bool) (ask : ByteArray → Int → Bool) (j : Nat) (s : ByteArray) (m : Nat) (h : ask s (m : Int) = true) : lineP empty ask j s (m + 1) = lineP empty ask j s m ++ [⟨(j : Int), (m : Int)⟩] := by
  simp [lineP, List.range_succ, List.filter_append, h]
theorem lineP_no (empty : Bool) (ask : ByteArray → Int → Bool) (j : Nat) (s : ByteArray) (m : Nat) (h : ask s (m : Int) = false) : lineP empty ask j s (m + 1) = lineP empty ask j s m := by
  simp [lineP, List.range_succ, List.filter_append, h]

theorem lineP_pre (empty : Bool) (ask : ByteArray → Int → Bool) (j : Nat) (s : ByteArray) (m d : Nat) : lineP empty ask j s m <+: lineP empty ask j s (m + d) := by
  induction d with
  | zero => exact List.prefix_refl _
  | succ d ih =>
    refine ih.trans ?_
    cases h : ask s ((m + d : Nat) : Int) with
    | true => rw [show m + (d + 1) = m + d + 1 by omega, lineP_yes _ _ _ _ _ h]; exact List.prefix_append _ _
    | false => rw [show m + (d + 1) = m + d + 1 by omega, lineP_no _ _ _ _ _ h]; exact List.prefix_refl _
theorem plc_pre (empty : Bool) (ask : ByteArray → Int → Bool) (l : List ByteArray) (k d : Nat) : plc empty ask l k <+: plc empty ask l (k + d) := by
  induction d with
  | zero => exact List.prefix_refl _
  | succ d ih => rw [show k + (d + 1) = k + d + 1 by omega, plc_succ]; exact ih.trans (List.prefix_append _ _)
/-- what has come within a line is a beginning of all. -/
theorem part_pre (empty : Bool) (ask : ByteArray → Int → Bool) (l : List ByteArray) (k : Nat) (hk : k < l.length) (m : Nat) (hm : m ≤ (rdOf ByteArray.empty l (k : Int)).size) :
    plc empty ask l k ++ lineP empty ask k (rdOf ByteArray.empty l (k : Int)) m <+: plc empty ask l l.length := by
  obtain ⟨d, hd⟩ : ∃ d, l.length = k + 1 + d := ⟨l.length - (k + 1), by omega⟩
  obtain ⟨e, he⟩ : ∃ e, (rdOf ByteArray.empty l (k : Int)).size = m + e := ⟨(rdOf ByteArray.empty l (k : Int)).size - m, by omega⟩
  rw [hd]
  refine List.IsPrefix.trans ?_ (plc_pre empty ask l (k + 1) d)
  rw [plc_succ, List.prefix_append_right_inj, he]
  exact lineP_pre _ _ _ _ _ _

/-- one byte more, one line more. -/
theorem step_yes {empty : Bool} {ask : ByteArray → Int → Bool} {ls : List ByteArray} {s : ByteArray} {x y : Int} (hx : 0 ≤ x) (hy : 0 ≤ y) (h : ask s y = true) :
    plc empty ask ls x.toNat ++ lineP empty ask x.toNat s y.toNat ++ [⟨x, y⟩] = plc empty ask ls x.toNat ++ lineP empty ask x.toNat s (y + 1).toNat := by
  have e1 : ((x.toNat : Nat) : Int) = x := by omega
  have e2 : ((y.toNat : Nat) : Int) = y := by omega
  rw [show (y + 1).toNat = y.toNat + 1 by omega, lineP_yes empty ask x.toNat s y.toNat (by rw [e2]; exact h), e1, e2, List.append_assoc]
theorem step_no {empty : Bool} {ask : ByteArray → Int → Bool} {ls : List ByteArray} {s : ByteArray} {x y : Int} (hy : 0 ≤ y) (h : ask s y = false) :
    plc empty ask ls x.toNat ++ lineP empty ask x.toNat s y.toNat = plc empty ask ls x.toNat ++ lineP empty ask x.toNat s (y + 1).toNat := by
  have e2 : ((y.toNat : Nat) : Int) = y := by omega
  rw [show (y + 1).toNat = y.toNat + 1 by omega, lineP_no empty ask x.toNat s y.toNat (by rw [e2]; exact h)]
theorem step_line {empty : Bool} {ask : ByteArray → Int → Bool} {ls : List ByteArray} {s : ByteArray} {x : Int} (hx : 0 ≤ x) (h : rdOf ByteArray.empty ls x = s) :
    plc empty ask ls x.toNat ++ lineP empty ask x.toNat s s.size = plc empty ask ls (x + 1).toNat := by
  have e1 : ((x.toNat : Nat) : Int) = x := by omega
  rw [show (x + 1).toNat = x.toNat + 1 by omega, plc_succ, e1, h]
theorem part_of {empty : Bool} {ask : ByteArray → Int → Bool} {ls : List ByteArray} {s : ByteArray} {x : Int} (hx : 0 ≤ x) (hlt : x < ls.length) (h : rdOf ByteArray.empty ls x = s) {m : Nat} (hm : m ≤ s.size) :
    plc empty ask ls x.toNat ++ lineP empty ask x.toNat s m <+: plc empty ask ls ls.length := by
  have e1 : ((x.toNat : Nat) : Int) = x := by omega
  have := part_pre empty ask ls x.toNat (by omega) m (by rw [e1, h]; exact hm)
  rw [e1, h] at this
  exact this

theorem toList_size (s : ByteArray) : s.toList.isEmpty = decide (s.size = 0) := by
  rw [ByteArray.toList_eq]
  have : s.size = s.data.toList.length := by simp
  rw [this]
  cases s.data.toList <;> rfl

/-- what the iterator owes behind its call: all have come, or a beginning of them, a round having said no more. -/
def AtSaid (J Jx : List S24 → World → Prop) (L : List S24) (W : World) : Prop := (∃ ys, ys = L ∧ J ys W) ∨ (∃ pre, pre <+: L ∧ Jx pre W)

set_option maxRecDepth 100000 in
set_option maxHeartbeats 4000000 in
theorem at1_in40 (n : Nat) (hn : 3 ≤ n) (l Bl Be Ba Bb : Nat) (A0 : Option Addr) (c0 : Nat) (ls : List ByteArray) (hl : ls.length ≤ 40) (hs : ∀ s ∈ ls, s.size ≤ 1200) (empty : Bool) (ask : ByteArray → Int → Bool)
    (J Jx : List S24 → World → Prop) (Kp : World → World → Prop) (OK : World → Prop) (W : World)
    (hJd : ∀ s A d, J s A → J s (A.drewN d)) (hOd : ∀ A d, OK A → OK (A.drewN d)) (hOk : ∀ A B, OK A → Kp A B → OK B)
    (hOe : ∀ A, OK A → A.cell? ⟨Be, 0, none⟩ = some (.bool empty)) (hOa : ∀ A, OK A → A.cell? ⟨Ba, 0, none⟩ = some (.func (.func 40) #[] #[.pointer (some ⟨Bb, 0, none⟩)]))
    (hOl : ∀ A, OK A → Kd.string.C A A0 ls.length ls)
    (hask : ∀ A s x, OK A → s.size ≤ 1200 → 0 ≤ x → x < s.size → Calls Try.prog 40 #[.string s, .int .i64 x, .pointer (some ⟨Bb, 0, none⟩)] A fun e A' => e = .returned (.bool (ask s x)) ∧ Drawn0 A A')
    (hY : ∀ pre x A, J pre A → pre ++ [x] <+: plc empty ask ls ls.length → YieldAt Fence.wide (n - 1) Try.prog l #[.agg #[.int .i64 x.f0, .int .i64 x.f1]] A fun e A' =>
      (e = .returned (.bool true) ∧ J (pre ++ [x]) A' ∧ Kp A A') ∨ (e = .returned (.bool false) ∧ Jx (pre ++ [x]) A'))
    (hW : OK W) (hWl : W.cell? ⟨Bl, 0, none⟩ = some (.slice A0 ls.length c0)) (h0 : J [] W) :
    CallsIn Fence.wide n Try.prog 46 #[.func (.yield l) #[] #[], .pointer (some ⟨Bl, 0, none⟩), .pointer (some ⟨Be, 0, none⟩), .pointer (some ⟨Ba, 0, none⟩)] W fun e W' => (∃ v, e = .returned v) ∧ AtSaid J Jx (plc empty ask ls ls.length) W' := by
  have h1n : 1 ≤ n := by omega
  refine callsIn_of_wp Try.func46 rfl trivial ?_ rfl
  simp only [Try.ntmps46, List.size_toArray, List.length_cons, List.length_nil, Nat.reduceAdd, Nat.reduceSub, Array.replicate_succ, Array.replicate_zero, List.push_toArray, List.append_toArray, List.nil_append, List.cons_append]
  gi_wp2
  gi_loopw [10] (fun v wr => ∃ x : Int, v = .int .i64 x ∧ 0 ≤ x ∧ x ≤ ls.length ∧ J (plc empty ask ls x.toNat) wr ∧ OK wr) (fun v _ => ls.length - (intOf v).toNat)
  case atStart => exact ⟨0, rfl, by omega, by omega, h0, hW⟩
  case round =>
    obtain ⟨x, rfl, hx0, hx1, hJ, hO⟩ := hrel
    by_cases hlt : x < ls.length
    · obtain ⟨ad, e149, hcL⟩ := Kd.at_string (hOl wr hO) x hx0 hlt
      cases e149
      have hcE := hOe wr hO
      have hcA := hOa wr hO
      have hsz : (rdOf ByteArray.empty ls x).size ≤ 1200 := hs _ (ln_mem hx0 hlt)
      have p1 := eq_true hx0
      have q1 := eq_true hlt
      obtain ⟨s, hse⟩ : ∃ s, rdOf ByteArray.empty ls x = s := ⟨_, rfl⟩
      rw [hse] at hcL hsz
      by_cases he : empty = true
      · subst he
        by_cases hz : s.size = 0
        · have hz2 : s.toList.isEmpty = true := by rw [toList_size]; exact decide_eq_true hz
          obtain ⟨fn, tmps, assign, body, hy, hR⟩ := hY _ ⟨x, 0⟩ wr hJ (by
            have := part_of (empty := true) (ask := ask) hx0 hlt hse (m := 0) (by omega)
            rw [lineP_zero, if_pos ⟨rfl, hz⟩, show ((x.toNat : Nat) : Int) = x by omega] at this
            exact this)
          dsimp only at hy
          gi_wp2
          refine hR.mono ?_
          rintro e W3 (⟨rfl, hJ3, hk3⟩ | ⟨rfl, hJx3⟩)
          · gi_wp2
            gi_loopw [29] (fun v wr2 => ∃ y : Int, v = .int .i64 y ∧ 0 ≤ y ∧ y ≤ s.size ∧ J (plc true ask ls x.toNat ++ lineP true ask x.toNat s y.toNat) wr2 ∧ OK wr2) (fun v _ => s.size - (intOf v).toNat)
            case atStart => exact ⟨0, rfl, by omega, by omega, by rw [show (0 : Int).toNat = 0 from rfl, lineP_zero, if_pos ⟨rfl, hz⟩, show ((x.toNat : Nat) : Int) = x by omega]; exact hJ3, hOk _ _ hO hk3⟩
            case round =>
              obtain ⟨y, rfl, hy0, hy1, hJ2, hO2⟩ := hrel
              by_cases hylt : y < s.size
              · exact absurd hylt (by omega)
              · obtain rfl : y = s.size := by omega
                gi_wp2
                go_roundw
                case rel => exact ⟨x + 1, by go_num, by omega, by omega, by rw [← step_line hx0 hse]; simpa using hJ2, hO2⟩
                case measure => simp [intOf]; omega
          · gi_wp2
            refine bodyPost_ret (results_none rfl _ _ _) rfl ?_
            refine ⟨⟨_, rfl⟩, .inr ⟨_, ?_, hJx3⟩⟩
            have := part_of (empty := true) (ask := ask) hx0 hlt hse (m := 0) (by omega)
            rw [lineP_zero, if_pos ⟨rfl, hz⟩, show ((x.toNat : Nat) : Int) = x by omega] at this
            exact this
        · have hz2 : s.toList.isEmpty = false := by rw [toList_size]; exact decide_eq_false hz
          gi_wp2
          refine ⟨fun _ h => (by cases h), ?_⟩
          gi_wp2
          gi_loopw [29] (fun v wr2 => ∃ y : Int, v = .int .i64 y ∧ 0 ≤ y ∧ y ≤ s.size ∧ J (plc true ask ls x.toNat ++ lineP true ask x.toNat s y.toNat) wr2 ∧ OK wr2) (fun v _ => s.size - (intOf v).toNat)
          case atStart => exact ⟨0, rfl, by omega, by omega, by rw [show (0 : Int).toNat = 0 from rfl, lineP_zero, if_neg (fun h => hz h.2), List.append_nil]; exact hJ, hO⟩
          case round =>
            obtain ⟨y, rfl, hy0, hy1, hJ2, hO2⟩ := hrel
            by_cases hylt : y < s.size
            · have hcA2 := hOa _ hO2
              obtain ⟨b, hb⟩ : ∃ b, ask s y = b := ⟨_, rfl⟩
              have HA := Lib.hid (hb ▸ hask _ s y hO2 hsz hy0 hylt)
              have HB := Lib.hid hb
              clear hb
              cases b with
              | true =>
                have hlen : (plc true ask ls x.toNat ++ lineP true ask x.toNat s y.toNat) ++ [⟨x, y⟩] <+: plc true ask ls ls.length := by
                  rw [step_yes hx0 hy0 HB.out]
                  exact part_of hx0 hlt hse (by omega)
                gi_wp2_with (refine ⟨trivial, ?_⟩; gi_at_call 40; (with_reducible refine (callsIn_wide.2 HA.out).mono ?_); rintro e A' ⟨rfl, ⟨nd, rfl⟩⟩; obtain ⟨fn, tmps, assign, body, hy, hR⟩ := hY _ ⟨x, y⟩ (wr.drewN nd) (hJd _ _ nd hJ2) hlen; dsimp only at hy)
                gi_wp2
                refine hR.mono ?_
                rintro e W3 (⟨rfl, hJ3, hk3⟩ | ⟨rfl, hJx3⟩)
                · gi_wp2
                  go_roundw
                  case rel => exact ⟨y + 1, by go_num, by omega, by omega, step_yes hx0 hy0 HB.out ▸ hJ3, hOk _ _ (hOd _ nd hO2) hk3⟩
                  case measure => simp [intOf]; omega
                · gi_wp2
                  refine bodyPost_ret (results_none rfl _ _ _) rfl ?_
                  refine ⟨⟨_, rfl⟩, .inr ⟨_, ?_, hJx3⟩⟩
                  rw [step_yes hx0 hy0 HB.out]
                  exact part_of hx0 hlt hse (by omega)
              | false =>
                gi_wp2_with (refine ⟨trivial, ?_⟩; gi_at_call 40; (with_reducible refine (callsIn_wide.2 HA.out).mono ?_); rintro e A' ⟨rfl, ⟨nd, rfl⟩⟩)
                refine ⟨fun _ h => (by cases h), ?_⟩
                gi_wp2
                go_roundw
                case rel => exact ⟨y + 1, by go_num, by omega, by omega, step_no hy0 HB.out ▸ hJd _ _ nd hJ2, hOd _ nd hO2⟩
                case measure => simp [intOf]; omega
            · obtain rfl : y = s.size := by omega
              gi_wp2
              go_roundw
              case rel => exact ⟨x + 1, by go_num, by omega, by omega, by rw [← step_line hx0 hse]; simpa using hJ2, hO2⟩
              case measure => simp [intOf]; omega
      · obtain rfl : empty = false := by simpa using he
        clear he
        gi_wp2
        refine ⟨fun _ h => (by cases h), ?_⟩
        gi_wp2
        gi_loopw [29] (fun v wr2 => ∃ y : Int, v = .int .i64 y ∧ 0 ≤ y ∧ y ≤ s.size ∧ J (plc false ask ls x.toNat ++ lineP false ask x.toNat s y.toNat) wr2 ∧ OK wr2) (fun v _ => s.size - (intOf v).toNat)
        case atStart => exact ⟨0, rfl, by omega, by omega, by simpa [lineP_zero] using hJ, hO⟩
        case round =>
          obtain ⟨y, rfl, hy0, hy1, hJ2, hO2⟩ := hrel
          by_cases hylt : y < s.size
          · have hcA2 := hOa _ hO2
            obtain ⟨b, hb⟩ : ∃ b, ask s y = b := ⟨_, rfl⟩
            have HA := Lib.hid (hb ▸ hask _ s y hO2 hsz hy0 hylt)
            have HB := Lib.hid hb
            clear hb
            cases b with
            | true =>
              have hlen : (plc false ask ls x.toNat ++ lineP false ask x.toNat s y.toNat) ++ [⟨x, y⟩] <+: plc false ask ls ls.length := by
                rw [step_yes hx0 hy0 HB.out]
                exact part_of hx0 hlt hse (by omega)
              gi_wp2_with (refine ⟨trivial, ?_⟩; gi_at_call 40; (with_reducible refine (callsIn_wide.2 HA.out).mono ?_); rintro e A' ⟨rfl, ⟨nd, rfl⟩⟩; obtain ⟨fn, tmps, assign, body, hy, hR⟩ := hY _ ⟨x, y⟩ (wr.drewN nd) (hJd _ _ nd hJ2) hlen; dsimp only at hy)
              gi_wp2
              refine hR.mono ?_
              rintro e W3 (⟨rfl, hJ3, hk3⟩ | ⟨rfl, hJx3⟩)
              · gi_wp2
                go_roundw
                case rel => exact ⟨y + 1, by go_num, by omega, by omega, step_yes hx0 hy0 HB.out ▸ hJ3, hOk _ _ (hOd _ nd hO2) hk3⟩
                case measure => simp [intOf]; omega
              · gi_wp2
                refine bodyPost_ret (results_none rfl _ _ _) rfl ?_
                refine ⟨⟨_, rfl⟩, .inr ⟨_, ?_, hJx3⟩⟩
                rw [step_yes hx0 hy0 HB.out]
                exact part_of hx0 hlt hse (by omega)
            | false =>
              gi_wp2_with (refine ⟨trivial, ?_⟩; gi_at_call 40; (with_reducible refine (callsIn_wide.2 HA.out).mono ?_); rintro e A' ⟨rfl, ⟨nd, rfl⟩⟩)
              refine ⟨fun _ h => (by cases h), ?_⟩
              gi_wp2
              go_roundw
              case rel => exact ⟨y + 1, by go_num, by omega, by omega, step_no hy0 HB.out ▸ hJd _ _ nd hJ2, hOd _ nd hO2⟩
              case measure => simp [intOf]; omega
          · obtain rfl : y = s.size := by omega
            gi_wp2
            go_roundw
            case rel => exact ⟨x + 1, by go_num, by omega, by omega, by rw [← step_line hx0 hse]; simpa using hJ2, hO2⟩
            case measure => simp [intOf]; omega
    · obtain rfl : x = ls.length := by omega
      gi_wp2
      go_end0
      rw [show ((ls.length : Int)).toNat = ls.length by omega] at hJ
      exact ⟨⟨_, rfl⟩, .inl ⟨_, rfl, hJ⟩⟩


end Go.Proofs.Ytifkfjpkngdhmaa.Pure
namespace Go.Proofs.Ytifkfjpkngdhmaa.Pure
open Go.RowKit Go.Shelf Go.Proofs.Ytifkfjpkngdhmaa.V Go.Proofs.YtifkfjpkngdhmaaW.PrintWords Go.Proofs.YtifkfjpkngdhmaaW.PrintLast Go.Proofs.YtifkfjpkngdhmaaW.PrintMore
set_option linter.unusedVariables false
set_option linter.unusedSimpArgs false
attribute [local go_sem] Oper.semAt_some

set_option maxRecDepth 100000 in
set_option maxHeartbeats 4000000 in
theorem at1_in42 (n : Nat) (hn : 3 ≤ n) (l Bl Be Ba Bb : Nat) (A0 : Option Addr) (c0 : Nat) (ls : List ByteArray) (hl : ls.length ≤ 40) (hs : ∀ s ∈ ls, s.size ≤ 1200) (empty : Bool) (ask : ByteArray → Int → Bool)
    (J Jx : List S24 → World → Prop) (Kp : World → World → Prop) (OK : World → Prop) (W : World)
    (hJd : ∀ s A d, J s A → J s (A.drewN d)) (hOd : ∀ A d, OK A → OK (A.drewN d)) (hOk : ∀ A B, OK A → Kp A B → OK B)
    (hOe : ∀ A, OK A → A.cell? ⟨Be, 0, none⟩ = some (.bool empty)) (hOa : ∀ A, OK A → A.cell? ⟨Ba, 0, none⟩ = some (.func (.func 42) #[] #[.pointer (some ⟨Bb, 0, none⟩)]))
    (hOl : ∀ A, OK A → Kd.string.C A A0 ls.length ls)
    (hask : ∀ A s x, OK A → s.size ≤ 1200 → 0 ≤ x → x < s.size → Calls Try.prog 42 #[.string s, .int .i64 x, .pointer (some ⟨Bb, 0, none⟩)] A fun e A' => e = .returned (.bool (ask s x)) ∧ Drawn0 A A')
    (hY : ∀ pre x A, J pre A → pre ++ [x] <+: plc empty ask ls ls.length → YieldAt Fence.wide (n - 1) Try.prog l #[.agg #[.int .i64 x.f0, .int .i64 x.f1]] A fun e A' =>
      (e = .returned (.bool true) ∧ J (pre ++ [x]) A' ∧ Kp A A') ∨ (e = .returned (.bool false) ∧ Jx (pre ++ [x]) A'))
    (hW : OK W) (hWl : W.cell? ⟨Bl, 0, none⟩ = some (.slice A0 ls.length c0)) (h0 : J [] W) :
    CallsIn Fence.wide n Try.prog 46 #[.func (.yield l) #[] #[], .pointer (some ⟨Bl, 0, none⟩), .pointer (some ⟨Be, 0, none⟩), .pointer (some ⟨Ba, 0, none⟩)] W fun e W' => (∃ v, e = .returned v) ∧ AtSaid J Jx (plc empty ask ls ls.length) W' := by
  have h1n : 1 ≤ n := by omega
  refine callsIn_of_wp Try.func46 rfl trivial ?_ rfl
  simp only [Try.ntmps46, List.size_toArray, List.length_cons, List.length_nil, Nat.reduceAdd, Nat.reduceSub, Array.replicate_succ, Array.replicate_zero, List.push_toArray, List.append_toArray, List.nil_append, List.cons_append]
  gi_wp2
  gi_loopw [10] (fun v wr => ∃ x : Int, v = .int .i64 x ∧ 0 ≤ x ∧ x ≤ ls.length ∧ J (plc empty ask ls x.toNat) wr ∧ OK wr) (fun v _ => ls.length - (intOf v).toNat)
  case atStart => exact ⟨0, rfl, by omega, by omega, h0, hW⟩
  case round =>
    obtain ⟨x, rfl, hx0, hx1, hJ, hO⟩ := hrel
    by_cases hlt : x < ls.length
    · obtain ⟨ad, e149, hcL⟩ := Kd.at_string (hOl wr hO) x hx0 hlt
      cases e149
      have hcE := hOe wr hO
      have hcA := hOa wr hO
      have hsz : (rdOf ByteArray.empty ls x).size ≤ 1200 := hs _ (ln_mem hx0 hlt)
      have p1 := eq_true hx0
      have q1 := eq_true hlt
      obtain ⟨s, hse⟩ : ∃ s, rdOf ByteArray.empty ls x = s := ⟨_, rfl⟩
      rw [hse] at hcL hsz
      by_cases he : empty = true
      · subst he
        by_cases hz : s.size = 0
        · have hz2 : s.toList.isEmpty = true := by rw [toList_size]; exact decide_eq_true hz
          obtain ⟨fn, tmps, assign, body, hy, hR⟩ := hY _ ⟨x, 0⟩ wr hJ (by
            have := part_of (empty := true) (ask := ask) hx0 hlt hse (m := 0) (by omega)
            rw [lineP_zero, if_pos ⟨rfl, hz⟩, show ((x.toNat : Nat) : Int) = x by omega] at this
            exact this)
          dsimp only at hy
          gi_wp2
          refine hR.mono ?_
          rintro e W3 (⟨rfl, hJ3, hk3⟩ | ⟨rfl, hJx3⟩)
          · gi_wp2
            gi_loopw [29] (fun v wr2 => ∃ y : Int, v = .int .i64 y ∧ 0 ≤ y ∧ y ≤ s.size ∧ J (plc true ask ls x.toNat ++ lineP true ask x.toNat s y.toNat) wr2 ∧ OK wr2) (fun v _ => s.size - (intOf v).toNat)
            case atStart => exact ⟨0, rfl, by omega, by omega, by rw [show (0 : Int).toNat = 0 from rfl, lineP_zero, if_pos ⟨rfl, hz⟩, show ((x.toNat : Nat) : Int) = x by omega]; exact hJ3, hOk _ _ hO hk3⟩
            case round =>
              obtain ⟨y, rfl, hy0, hy1, hJ2, hO2⟩ := hrel
              by_cases hylt : y < s.size
              · exact absurd hylt (by omega)
              · obtain rfl : y = s.size := by omega
                gi_wp2
                go_roundw
                case rel => exact ⟨x + 1, by go_num, by omega, by omega, by rw [← step_line hx0 hse]; simpa using hJ2, hO2⟩
                case measure => simp [intOf]; omega
          · gi_wp2
            refine bodyPost_ret (results_none rfl _ _ _) rfl ?_
            refine ⟨⟨_, rfl⟩, .inr ⟨_, ?_, hJx3⟩⟩
            have := part_of (empty := true) (ask := ask) hx0 hlt hse (m := 0) (by omega)
            rw [lineP_zero, if_pos ⟨rfl, hz⟩, show ((x.toNat : Nat) : Int) = x by omega] at this
            exact this
        · have hz2 : s.toList.isEmpty = false := by rw [toList_size]; exact decide_eq_false hz
          gi_wp2
          refine ⟨fun _ h => (by cases h), ?_⟩
          gi_wp2
          gi_loopw [29] (fun v wr2 => ∃ y : Int, v = .int .i64 y ∧ 0 ≤ y ∧ y ≤ s.size ∧ J (plc true ask ls x.toNat ++ lineP true ask x.toNat s y.toNat) wr2 ∧ OK wr2) (fun v _ => s.size - (intOf v).toNat)
          case atStart => exact ⟨0, rfl, by omega, by omega, by rw [show (0 : Int).toNat = 0 from rfl, lineP_zero, if_neg (fun h => hz h.2), List.append_nil]; exact hJ, hO⟩
          case round =>
            obtain ⟨y, rfl, hy0, hy1, hJ2, hO2⟩ := hrel
            by_cases hylt : y < s.size
            · have hcA2 := hOa _ hO2
              obtain ⟨b, hb⟩ : ∃ b, ask s y = b := ⟨_, rfl⟩
              have HA := Lib.hid (hb ▸ hask _ s y hO2 hsz hy0 hylt)
              have HB := Lib.hid hb
              clear hb
              cases b with
              | true =>
                have hlen : (plc true ask ls x.toNat ++ lineP true ask x.toNat s y.toNat) ++ [⟨x, y⟩] <+: plc true ask ls ls.length := by
                  rw [step_yes hx0 hy0 HB.out]
                  exact part_of hx0 hlt hse (by omega)
                gi_wp2_with (refine ⟨trivial, ?_⟩; gi_at_call 42; (with_reducible refine (callsIn_wide.2 HA.out).mono ?_); rintro e A' ⟨rfl, ⟨nd, rfl⟩⟩; obtain ⟨fn, tmps, assign, body, hy, hR⟩ := hY _ ⟨x, y⟩ (wr.drewN nd) (hJd _ _ nd hJ2) hlen; dsimp only at hy)
                gi_wp2
                refine hR.mono ?_
                rintro e W3 (⟨rfl, hJ3, hk3⟩ | ⟨rfl, hJx3⟩)
                · gi_wp2
                  go_roundw
                  case rel => exact ⟨y + 1, by go_num, by omega, by omega, step_yes hx0 hy0 HB.out ▸ hJ3, hOk _ _ (hOd _ nd hO2) hk3⟩
                  case measure => simp [intOf]; omega
                · gi_wp2
                  refine bodyPost_ret (results_none rfl _ _ _) rfl ?_
                  refine ⟨⟨_, rfl⟩, .inr ⟨_, ?_, hJx3⟩⟩
                  rw [step_yes hx0 hy0 HB.out]
                  exact part_of hx0 hlt hse (by omega)
              | false =>
                gi_wp2_with (refine ⟨trivial, ?_⟩; gi_at_call 42; (with_reducible refine (callsIn_wide.2 HA.out).mono ?_); rintro e A' ⟨rfl, ⟨nd, rfl⟩⟩)
                refine ⟨fun _ h => (by cases h), ?_⟩
                gi_wp2
                go_roundw
                case rel => exact ⟨y + 1, by go_num, by omega, by omega, step_no hy0 HB.out ▸ hJd _ _ nd hJ2, hOd _ nd hO2⟩
                case measure => simp [intOf]; omega
            · obtain rfl : y = s.size := by omega
              gi_wp2
              go_roundw
              case rel => exact ⟨x + 1, by go_num, by omega, by omega, by rw [← step_line hx0 hse]; simpa using hJ2, hO2⟩
              case measure => simp [intOf]; omega
      · obtain rfl : empty = false := by simpa using he
        clear he
        gi_wp2
        refine ⟨fun _ h => (by cases h), ?_⟩
        gi_wp2
        gi_loopw [29] (fun v wr2 => ∃ y : Int, v = .int .i64 y ∧ 0 ≤ y ∧ y ≤ s.size ∧ J (plc false ask ls x.toNat ++ lineP false ask x.toNat s y.toNat) wr2 ∧ OK wr2) (fun v _ => s.size - (intOf v).toNat)
        case atStart => exact ⟨0, rfl, by omega, by omega, by simpa [lineP_zero] using hJ, hO⟩
        case round =>
          obtain ⟨y, rfl, hy0, hy1, hJ2, hO2⟩ := hrel
          by_cases hylt : y < s.size
          · have hcA2 := hOa _ hO2
            obtain ⟨b, hb⟩ : ∃ b, ask s y = b := ⟨_, rfl⟩
            have HA := Lib.hid (hb ▸ hask _ s y hO2 hsz hy0 hylt)
            have HB := Lib.hid hb
            clear hb
            cases b with
            | true =>
              have hlen : (plc false ask ls x.toNat ++ lineP false ask x.toNat s y.toNat) ++ [⟨x, y⟩] <+: plc false ask ls ls.length := by
                rw [step_yes hx0 hy0 HB.out]
                exact part_of hx0 hlt hse (by omega)
              gi_wp2_with (refine ⟨trivial, ?_⟩; gi_at_call 42; (with_reducible refine (callsIn_wide.2 HA.out).mono ?_); rintro e A' ⟨rfl, ⟨nd, rfl⟩⟩; obtain ⟨fn, tmps, assign, body, hy, hR⟩ := hY _ ⟨x, y⟩ (wr.drewN nd) (hJd _ _ nd hJ2) hlen; dsimp only at hy)
              gi_wp2
              refine hR.mono ?_
              rintro e W3 (⟨rfl, hJ3, hk3⟩ | ⟨rfl, hJx3⟩)
              · gi_wp2
                go_roundw
                case rel => exact ⟨y + 1, by go_num, by omega, by omega, step_yes hx0 hy0 HB.out ▸ hJ3, hOk _ _ (hOd _ nd hO2) hk3⟩
                case measure => simp [intOf]; omega
              · gi_wp2
                refine bodyPost_ret (results_none rfl _ _ _) rfl ?_
                refine ⟨⟨_, rfl⟩, .inr ⟨_, ?_, hJx3⟩⟩
                rw [step_yes hx0 hy0 HB.out]
                exact part_of hx0 hlt hse (by omega)
            | false =>
              gi_wp2_with (refine ⟨trivial, ?_⟩; gi_at_call 42; (with_reducible refine (callsIn_wide.2 HA.out).mono ?_); rintro e A' ⟨rfl, ⟨nd, rfl⟩⟩)
              refine ⟨fun _ h => (by cases h), ?_⟩
              gi_wp2
              go_roundw
              case rel => exact ⟨y + 1, by go_num, by omega, by omega, step_no hy0 HB.out ▸ hJd _ _ nd hJ2, hOd _ nd hO2⟩
              case measure => simp [intOf]; omega
          · obtain rfl : y = s.size := by omega
            gi_wp2
            go_roundw
            case rel => exact ⟨x + 1, by go_num, by omega, by omega, by rw [← step_line hx0 hse]; simpa using hJ2, hO2⟩
            case measure => simp [intOf]; omega
    · obtain rfl : x = ls.length := by omega
      gi_wp2
      go_end0
      rw [show ((ls.length : Int)).toNat = ls.length by omega] at hJ
      exact ⟨⟨_, rfl⟩, .inl ⟨_, rfl, hJ⟩⟩


end Go.Proofs.Ytifkfjpkngdhmaa.Pure
namespace Go.Proofs.Ytifkfjpkngdhmaa.Pure
open Go.RowKit Go.Shelf Go.Proofs.Ytifkfjpkngdhmaa.V Go.Proofs.YtifkfjpkngdhmaaW.PrintWords Go.Proofs.YtifkfjpkngdhmaaW.PrintLast Go.Proofs.YtifkfjpkngdhmaaW.PrintMore
set_option linter.unusedVariables false
set_option linter.unusedSimpArgs false
attribute [local go_sem] Oper.semAt_some

/-- block B holds the cells cs of type t. -/
def Blk (W : World) (B : Nat) (t : TypeId) (cs : Array Value) : Prop := W.heap[B]? = some (.cells cs t (0, 0))
theorem Blk.lt {W : World} {B : Nat} {t : TypeId} {cs : Array Value} (h : Blk W B t cs) : B < W.heap.size := blk_lt h
theorem Blk.below {W W' : World} {B : Nat} {t : TypeId} {cs : Array Value} (h : Blk W B t cs) (hb : Below W.heap.size W W') : Blk W' B t cs := blk_below h hb
theorem Blk.drewN {W : World} {B : Nat} {t : TypeId} {cs : Array Value} (h : Blk W B t cs) (d : Nat) : Blk (W.drewN d) B t cs := h
theorem Blk.alloc {W : World} {B : Nat} {t : TypeId} {cs : Array Value} (h : Blk W B t cs) (o : Obj) : Blk (W.alloc o) B t cs := blk_alloc h o
theorem Blk.new (W : World) (t : TypeId) (cs : Array Value) : Blk (W.alloc (.cells cs t)) W.heap.size t cs := blk_new W _
theorem Blk.same {W W' : World} {B : Nat} {t : TypeId} {cs : Array Value} (h : Blk W B t cs) (e : W'.heap[B]? = W.heap[B]?) : Blk W' B t cs := e.trans h
theorem Blk.own {β : Type} (B : Nat) (t : TypeId) (f : β → Array Value) : Own (fun s W => Blk W B t (f s)) := fun s X Y row hs hg hrow =>
  blk_grown hs hg (fun e' => by obtain ⟨o, ho, hc⟩ := hrow B e'.symm; rw [show X.heap[B]? = _ from hs] at ho; cases ho; cases hc)
theorem Blk.keeps {W W' : World} {B : Nat} {t : TypeId} {cs : Array Value} (h : Blk W B t cs) (hb : Below W.heap.size W W') : Blk W' B t cs := blk_below h hb

/-- all that lay below n₀ lies as it lay, and so do the four boxes from a on. -/
def KeepB (n₀ a : Nat) (A B : World) : Prop := Below n₀ A B ∧ ∀ k, a ≤ k → k < a + 4 → B.heap[k]? = A.heap[k]?
theorem keepB_t {n₀ a : Nat} {A B C : World} (h : KeepB n₀ a A B) (k : KeepB n₀ a B C) : KeepB n₀ a A C := ⟨h.1.trans k.1, fun i h1 h2 => (k.2 i h1 h2).trans (h.2 i h1 h2)⟩
theorem keepB_b {n₀ a : Nat} {w : World} (hn : n₀ ≤ w.heap.size) (ha : a + 4 ≤ w.heap.size) (W : World) (l : Nat) (o o' : Obj) (hl : w.heap.size ≤ l) (h : W.heap[l]? = some o) (h1 : o.isCells = false) (h2 : o.isWalk = false) : KeepB n₀ a W (W.putObj l o') :=
  ⟨belowK_b hn W l o o' hl h h1 h2, fun k _ hk => World.putObj_heap_other (by omega)⟩
theorem keepB_of {n₀ a : Nat} {A B : World} (hn : n₀ ≤ A.heap.size) (ha : a + 4 ≤ A.heap.size) (h : Below A.heap.size A B) : KeepB n₀ a A B :=
  ⟨h.mono hn, fun k _ hk => h.block k (by omega)⟩
theorem keepB_refl (n₀ a : Nat) (A : World) : KeepB n₀ a A A := ⟨Below.refl _ _, fun _ _ _ => rfl⟩
theorem keepB_set {n₀ a : Nat} {A B : World} (h : KeepB n₀ a A B) {g i : Nat} (hg : n₀ ≤ g) (hg2 : g < a ∨ a + 4 ≤ g) (u : Value) : KeepB n₀ a A (B.setCell ⟨g, i, none⟩ u) :=
  ⟨h.1.setCell (p := ⟨g, i, none⟩) hg u, fun k h1 h2 => (Below.heap_setCell B ⟨g, i, none⟩ u k (by show k ≠ g; omega)).trans (h.2 k h1 h2)⟩

theorem grown_drewN (W : World) (d : Nat) : W.grownBy (W.drewN d) none := ⟨rfl, rfl, rfl, Nat.le_refl _, fun _ _ _ => rfl⟩

/-- Starts lays four boxes and hands the iterator over them back. -/
theorem starts_calls (A0 : Option Addr) (n c : Nat) (big : Bool) (w : World) :
    Calls Try.prog 22 #[.slice A0 n c, .bool big] w fun e w' => e = .returned (.func (.func 46) #[] #[.pointer (some ⟨w.heap.size + 1, 0, none⟩), .pointer (some ⟨w.heap.size + 1 + 1, 0, none⟩), .pointer (some ⟨w.heap.size + 1 + 1 + 1, 0, none⟩)]) ∧
      w' = (((w.alloc (.cells #[.bool big] 4)).alloc (.cells #[.slice A0 n c] 22)).alloc (.cells #[.bool true] 4)).alloc (.cells #[.func (.func 40) #[] #[.pointer (some ⟨w.heap.size, 0, none⟩)]] 61) := by
  have H : ∀ W, Calls Try.prog 39 #[.slice A0 n c, .bool true, .func (.func 40) #[] #[.pointer (some ⟨w.heap.size, 0, none⟩)]] W fun e w' => e = .returned (.func (.func 46) #[] #[.pointer (some ⟨W.heap.size, 0, none⟩), .pointer (some ⟨W.heap.size + 1, 0, none⟩), .pointer (some ⟨W.heap.size + 1 + 1, 0, none⟩)]) ∧
      w' = ((W.alloc (.cells #[.slice A0 n c] 22)).alloc (.cells #[.bool true] 4)).alloc (.cells #[.func (.func 40) #[] #[.pointer (some ⟨w.heap.size, 0, none⟩)]] 61) := by
    intro W
    refine (callsIn_wide (n := 3)).1 (callsIn_of_wp Try.func39 rfl trivial ?_ rfl)
    simp only [Try.ntmps39, List.size_toArray, List.length_cons, List.length_nil, Nat.reduceAdd, Nat.reduceSub, Array.replicate_succ, Array.replicate_zero, List.push_toArray, List.append_toArray, List.nil_append, List.cons_append]
    gi_wp2
    go_ret
    exact ⟨rfl, rfl⟩
  refine (callsIn_wide (n := 3)).1 (callsIn_of_wp Try.func22 rfl trivial ?_ rfl)
  simp only [Try.ntmps22, List.size_toArray, List.length_cons, List.length_nil, Nat.reduceAdd, Nat.reduceSub, Array.replicate_succ, Array.replicate_zero, List.push_toArray, List.append_toArray, List.nil_append, List.cons_append]
  gi_wp2_with (refine ⟨trivial, ?_⟩; gi_at_call 39; (with_reducible refine (callsIn_wide.2 (H _)).mono ?_); rintro e w' ⟨rfl, rfl⟩)
  go_ret
  exact ⟨by simp, rfl⟩

/-- Ends does likewise. -/
theorem ends_calls (A0 : Option Addr) (n c : Nat) (big : Bool) (w : World) :
    Calls Try.prog 23 #[.slice A0 n c, .bool big] w fun e w' => e = .returned (.func (.func 46) #[] #[.pointer (some ⟨w.heap.size + 1, 0, none⟩), .pointer (some ⟨w.heap.size + 1 + 1, 0, none⟩), .pointer (some ⟨w.heap.size + 1 + 1 + 1, 0, none⟩)]) ∧
      w' = (((w.alloc (.cells #[.bool big] 4)).alloc (.cells #[.slice A0 n c] 22)).alloc (.cells #[.bool false] 4)).alloc (.cells #[.func (.func 42) #[] #[.pointer (some ⟨w.heap.size, 0, none⟩)]] 61) := by
  have H : ∀ W, Calls Try.prog 39 #[.slice A0 n c, .bool false, .func (.func 42) #[] #[.pointer (some ⟨w.heap.size, 0, none⟩)]] W fun e w' => e = .returned (.func (.func 46) #[] #[.pointer (some ⟨W.heap.size, 0, none⟩), .pointer (some ⟨W.heap.size + 1, 0, none⟩), .pointer (some ⟨W.heap.size + 1 + 1, 0, none⟩)]) ∧
      w' = ((W.alloc (.cells #[.slice A0 n c] 22)).alloc (.cells #[.bool false] 4)).alloc (.cells #[.func (.func 42) #[] #[.pointer (some ⟨w.heap.size, 0, none⟩)]] 61) := by
    intro W
    refine (callsIn_wide (n := 3)).1 (callsIn_of_wp Try.func39 rfl trivial ?_ rfl)
    simp only [Try.ntmps39, List.size_toArray, List.length_cons, List.length_nil, Nat.reduceAdd, Nat.reduceSub, Array.replicate_succ, Array.replicate_zero, List.push_toArray, List.append_toArray, List.nil_append, List.cons_append]
    gi_wp2
    go_ret
    exact ⟨rfl, rfl⟩
  refine (callsIn_wide (n := 3)).1 (callsIn_of_wp Try.func23 rfl trivial ?_ rfl)
  simp only [Try.ntmps23, List.size_toArray, List.length_cons, List.length_nil, Nat.reduceAdd, Nat.reduceSub, Array.replicate_succ, Array.replicate_zero, List.push_toArray, List.append_toArray, List.nil_append, List.cons_append]
  gi_wp2_with (refine ⟨trivial, ?_⟩; gi_at_call 39; (with_reducible refine (callsIn_wide.2 (H _)).mono ?_); rintro e w' ⟨rfl, rfl⟩)
  go_ret
  exact ⟨by simp, rfl⟩

/-- the places where words begin, and where they end. -/
def startsL (ls : List ByteArray) (big : Bool) : List S24 := plc true (fun s x => startB s big x) ls ls.length
def endsL (ls : List ByteArray) (big : Bool) : List S24 := plc false (fun s x => endB s big x) ls ls.length
def posV (x : S24) : Array Value := #[.agg #[.int .i64 x.f0, .int .i64 x.f1]]

theorem pre_mem {L pre : List S24} {x : S24} (h : pre ++ [x] <+: L) : x ∈ L := h.subset (by simp)
theorem pre_lt {L pre : List S24} {x : S24} (h : pre ++ [x] <+: L) : pre.length < L.length := by have := h.length_le; simp at this; omega

theorem starts_stops (n : Nat) (hn : 3 ≤ n) (w W0 : World) (A0 : Option Addr) (c0 : Nat) (ls : List ByteArray) (hl : ls.length ≤ 40) (hs : ∀ s ∈ ls, s.size ≤ 1200) (big : Bool) (a : Nat)
    (hC : Kd.C Kd.string w A0 ls.length ls) (hb : Below w.heap.size w W0) (h0 : Blk W0 a 4 #[.bool big]) (h1 : Blk W0 (a + 1) 22 #[.slice A0 ls.length c0]) (h2 : Blk W0 (a + 1 + 1) 4 #[.bool true])
    (h3 : Blk W0 (a + 1 + 1 + 1) 61 #[.func (.func 40) #[] #[.pointer (some ⟨a, 0, none⟩)]]) :
    SeqStopsK Fence.wide n Try.prog 46 #[.pointer (some ⟨a + 1, 0, none⟩), .pointer (some ⟨a + 1 + 1, 0, none⟩), .pointer (some ⟨a + 1 + 1 + 1, 0, none⟩)]
      (fun x : {x : S24 // x ∈ startsL ls big} => posV x.1) (KeepB w.heap.size a) (fun ys => ys.map Subtype.val = startsL ls big) (fun pre => pre.map Subtype.val <+: startsL ls big) (startsL ls big).length W0 := by
  intro l J Jx W hW hJ _ hY hJ0
  have K := at1_in40 n hn l (a + 1) (a + 1 + 1) (a + 1 + 1 + 1) a A0 c0 ls hl hs true (fun s x => startB s big x)
    (fun s A => ∃ s' : List {x : S24 // x ∈ startsL ls big}, s'.map Subtype.val = s ∧ J s' A) (fun s A => ∃ s' : List {x : S24 // x ∈ startsL ls big}, s'.map Subtype.val = s ∧ Jx s' A)
    (KeepB w.heap.size a) (fun A => Below w.heap.size w A ∧ Blk A a 4 #[.bool big] ∧ Blk A (a + 1 + 1) 4 #[.bool true] ∧ Blk A (a + 1 + 1 + 1) 61 #[.func (.func 40) #[] #[.pointer (some ⟨a, 0, none⟩)]]) W
    (fun s A d ⟨s', e, h⟩ => ⟨s', e, hJ s' A _ none h (grown_drewN A d) (fun r e => by cases e)⟩)
    (fun A d ⟨q1, q2, q3, q4⟩ => ⟨pw_below_drewN q1 d, q2.drewN d, q3.drewN d, q4.drewN d⟩)
    (fun A B ⟨q1, q2, q3, q4⟩ k => ⟨q1.trans k.1, q2.same (k.2 _ (by omega) (by omega)), q3.same (k.2 _ (by omega) (by omega)), q4.same (k.2 _ (by omega) (by omega))⟩)
    (fun A ⟨_, _, q, _⟩ => (blk_cell q 0).trans rfl) (fun A ⟨_, _, _, q⟩ => (blk_cell q 0).trans rfl)
    (fun A ⟨q, _⟩ => Kd.C_below hC q)
    (fun A s x ⟨_, q, _⟩ h1 h2 h3 => starts1_calls s x big a A h2 h3 (by omega) ((blk_cell q 0).trans rfl))
    (by
      rintro pre x A ⟨s', rfl, hJ'⟩ hp
      obtain ⟨fn, tmps, assign, body, hy, hR⟩ := hY s' ⟨x, pre_mem hp⟩ A hJ' (by have := pre_lt hp; rw [List.length_map] at this; exact this)
      refine ⟨fn, tmps, assign, body, hy, hR.mono ?_⟩
      rintro e W3 (⟨rfl, h4, h5⟩ | ⟨rfl, h4⟩)
      · exact .inl ⟨rfl, ⟨_, by simp, h4⟩, h5⟩
      · exact .inr ⟨rfl, ⟨_, by simp, h4⟩⟩)
    ⟨hb.trans (hW.mono hb.size), h0.below hW, h2.below hW, h3.below hW⟩ ((blk_cell (h1.below hW) 0).trans rfl) ⟨[], rfl, hJ0⟩
  refine K.mono ?_
  rintro e W' ⟨hv, (⟨ys, rfl, s', e1, h⟩ | ⟨pre, hp, s', e1, h⟩)⟩
  · exact ⟨hv, .inl ⟨s', e1, h⟩⟩
  · exact ⟨hv, .inr ⟨s', (by show s'.map Subtype.val <+: _; rw [e1]; exact hp), h⟩⟩

theorem ends_stops (n : Nat) (hn : 3 ≤ n) (w W0 : World) (A0 : Option Addr) (c0 : Nat) (ls : List ByteArray) (hl : ls.length ≤ 40) (hs : ∀ s ∈ ls, s.size ≤ 1200) (big : Bool) (a : Nat)
    (hC : Kd.C Kd.string w A0 ls.length ls) (hb : Below w.heap.size w W0) (h0 : Blk W0 a 4 #[.bool big]) (h1 : Blk W0 (a + 1) 22 #[.slice A0 ls.length c0]) (h2 : Blk W0 (a + 1 + 1) 4 #[.bool false])
    (h3 : Blk W0 (a + 1 + 1 + 1) 61 #[.func (.func 42) #[] #[.pointer (some ⟨a, 0, none⟩)]]) :
    SeqStopsK Fence.wide n Try.prog 46 #[.pointer (some ⟨a + 1, 0, none⟩), .pointer (some ⟨a + 1 + 1, 0, none⟩), .pointer (some ⟨a + 1 + 1 + 1, 0, none⟩)]
      (fun x : {x : S24 // x ∈ endsL ls big} => posV x.1) (KeepB w.heap.size a) (fun ys => ys.map Subtype.val = endsL ls big) (fun pre => pre.map Subtype.val <+: endsL ls big) (endsL ls big).length W0 := by
  intro l J Jx W hW hJ _ hY hJ0
  have K := at1_in42 n hn l (a + 1) (a + 1 + 1) (a + 1 + 1 + 1) a A0 c0 ls hl hs false (fun s x => endB s big x)
    (fun s A => ∃ s' : List {x : S24 // x ∈ endsL ls big}, s'.map Subtype.val = s ∧ J s' A) (fun s A => ∃ s' : List {x : S24 // x ∈ endsL ls big}, s'.map Subtype.val = s ∧ Jx s' A)
    (KeepB w.heap.size a) (fun A => Below w.heap.size w A ∧ Blk A a 4 #[.bool big] ∧ Blk A (a + 1 + 1) 4 #[.bool false] ∧ Blk A (a + 1 + 1 + 1) 61 #[.func (.func 42) #[] #[.pointer (some ⟨a, 0, none⟩)]]) W
    (fun s A d ⟨s', e, h⟩ => ⟨s', e, hJ s' A _ none h (grown_drewN A d) (fun r e => by cases e)⟩)
    (fun A d ⟨q1, q2, q3, q4⟩ => ⟨pw_below_drewN q1 d, q2.drewN d, q3.drewN d, q4.drewN d⟩)
    (fun A B ⟨q1, q2, q3, q4⟩ k => ⟨q1.trans k.1, q2.same (k.2 _ (by omega) (by omega)), q3.same (k.2 _ (by omega) (by omega)), q4.same (k.2 _ (by omega) (by omega))⟩)
    (fun A ⟨_, _, q, _⟩ => (blk_cell q 0).trans rfl) (fun A ⟨_, _, _, q⟩ => (blk_cell q 0).trans rfl)
    (fun A ⟨q, _⟩ => Kd.C_below hC q)
    (fun A s x ⟨_, q, _⟩ h1 h2 h3 => ends1_calls s x big a A h2 h3 (by omega) ((blk_cell q 0).trans rfl))
    (by
      rintro pre x A ⟨s', rfl, hJ'⟩ hp
      obtain ⟨fn, tmps, assign, body, hy, hR⟩ := hY s' ⟨x, pre_mem hp⟩ A hJ' (by have := pre_lt hp; rw [List.length_map] at this; exact this)
      refine ⟨fn, tmps, assign, body, hy, hR.mono ?_⟩
      rintro e W3 (⟨rfl, h4, h5⟩ | ⟨rfl, h4⟩)
      · exact .inl ⟨rfl, ⟨_, by simp, h4⟩, h5⟩
      · exact .inr ⟨rfl, ⟨_, by simp, h4⟩⟩)
    ⟨hb.trans (hW.mono hb.size), h0.below hW, h2.below hW, h3.below hW⟩ ((blk_cell (h1.below hW) 0).trans rfl) ⟨[], rfl, hJ0⟩
  refine K.mono ?_
  rintro e W' ⟨hv, (⟨ys, rfl, s', e1, h⟩ | ⟨pre, hp, s', e1, h⟩)⟩
  · exact ⟨hv, .inl ⟨s', e1, h⟩⟩
  · exact ⟨hv, .inr ⟨s', (by show s'.map Subtype.val <+: _; rw [e1]; exact hp), h⟩⟩

/-! boxes laid one behind another from a world's end on -/
def Boxes (w : World) (l : List (TypeId × Array Value)) (W : World) : Prop := Below w.heap.size w W ∧ ∀ i t cs, l[i]? = some (t, cs) → Blk W (w.heap.size + i) t cs
theorem Boxes.nil (w : World) : Boxes w [] w := ⟨Below.refl _ _, fun i t cs h => by simp at h⟩
theorem Boxes.push {w W : World} {l : List (TypeId × Array Value)} (h : Boxes w l W) (hsz : W.heap.size = w.heap.size + l.length) (t : TypeId) (cs : Array Value) : Boxes w (l ++ [(t, cs)]) (W.alloc (.cells cs t)) := by
  refine ⟨h.1.alloc h.1.size _, fun i t' cs' hi => ?_⟩
  by_cases hlt : i < l.length
  · rw [List.getElem?_append_left hlt] at hi
    exact (h.2 i t' cs' hi).alloc _
  · rw [List.getElem?_append_right (by omega)] at hi
    have h0 : i - l.length = 0 := by
      cases hd : i - l.length with
      | zero => rfl
      | succ k => rw [hd] at hi; simp at hi
    rw [h0] at hi
    obtain ⟨rfl, rfl⟩ : t = t' ∧ cs = cs' := by simpa using hi
    have := Blk.new W t cs
    rwa [hsz, show l.length = i by omega] at this
theorem Boxes.below {w W W' : World} {l : List (TypeId × Array Value)} (h : Boxes w l W) (hb : Below W.heap.size W W') : Boxes w l W' := ⟨h.1.trans (hb.mono h.1.size), fun i t cs hi => (h.2 i t cs hi).below hb⟩
theorem Boxes.grown {w W W' : World} {l : List (TypeId × Array Value)} {row : Option Nat} {B : Nat} (h : Boxes w l W) (hB : w.heap.size ≤ B) (hg : W.grownBy W' row) (hr : ∀ r, row = some r → B ≤ r ∧ ∃ o : Obj, W.heap[r]? = some o ∧ o.isCells = false) : Boxes w l W' :=
  ⟨h.1.grown hg h.1.size (fun k e => Nat.le_trans hB (hr k e).1), fun i t cs hi => Blk.own (β := Unit) _ t (fun _ => cs) () W W' row (h.2 i t cs hi) hg (fun r e => (hr r e).2)⟩
theorem Boxes.set {w W : World} {l : List (TypeId × Array Value)} (h : Boxes w l W) {i : Nat} {t : TypeId} {cs : Array Value} (hi : l[i]? = some (t, cs)) (j : Nat) (u : Value) : Boxes w (l.set i (t, cs.setIfInBounds j u)) (W.setCell ⟨w.heap.size + i, j, none⟩ u) := by
  refine ⟨h.1.setCell (p := ⟨w.heap.size + i, j, none⟩) (Nat.le_add_right _ _) _, fun k t' cs' hk => ?_⟩
  have hil : i < l.length := (List.getElem?_eq_some_iff.1 hi).1
  by_cases e : i = k
  · subst e
    rw [List.getElem?_set_self hil] at hk
    obtain ⟨rfl, rfl⟩ : t = t' ∧ cs.setIfInBounds j u = cs' := by simpa using hk
    exact blk_set (h.2 i t cs hi) j u
  · rw [List.getElem?_set_ne e] at hk
    exact blk_far (h.2 k t' cs' hk) (by show w.heap.size + k ≠ w.heap.size + i; omega) u
theorem Boxes.size {w W : World} {l : List (TypeId × Array Value)} (h : Boxes w l W) {i : Nat} {x : TypeId × Array Value} (hi : l[i]? = some x) : w.heap.size + i < W.heap.size := (h.2 i x.1 x.2 hi).lt
theorem keepsFrom_below {B : Nat} {W W' : World} (hb : Below W.heap.size W W') : KeepsFrom B W W' := ⟨hb.size, fun k o _ hk _ => (hb.block k (Array.getElem?_eq_some_iff.1 hk).1).trans hk⟩
theorem keepsFrom_set {B : Nat} {W W' : World} (h : KeepsFrom B W W') (p : Addr) (u : Value) : KeepsFrom B W (W'.setCell p u) := h.trans ((KeepsOthers.setCell _ _ _).from _)

end Go.Proofs.Ytifkfjpkngdhmaa.Pure
namespace Go.Proofs.Ytifkfjpkngdhmaa.V
open Go.RowKit Go.Proofs.YtifkfjpkngdhmaaW.PrintWords Go.Proofs.YtifkfjpkngdhmaaW.PrintLast Go.Proofs.YtifkfjpkngdhmaaW.PrintMore
attribute [local go_sem] max2_int min2_int max_two min_two max_three min_three max_four min_four   -- for this text's walks alone
set_option linter.unusedVariables false
set_option linter.unusedSimpArgs false

/-! ### class_Place: function 44 -/
def class_Place.f (l0 : List ByteArray) (a1_0 : Int) (a1_1 : Int) : Option (Bool) := if a1_0 ≥ 0 then (if a1_0 < (l0.length : Int) then (if a1_1 ≥ 0 then (if 0 ≤ a1_0 then (some (decide (a1_1 ≤ ((rdOf ByteArray.empty l0 a1_0).size : Int)))) else (none)) else (some false)) else (some false)) else (some false)
set_option maxHeartbeats 8000000 in
set_option maxRecDepth 100000 in
theorem class_Place.calls (A0 : Option Addr) (c0 : Nat) (l0 : List ByteArray) (a1_0 : Int) (a1_1 : Int) (r : Bool) (w : World) (hr0 : Kd.C Kd.string w A0 l0.length l0) (hc0 : l0.length ≤ c0) (h : class_Place.f l0 a1_0 a1_1 = some r) :
    Calls Try.prog 44 #[.slice A0 l0.length c0, .agg #[.int .i64 a1_0, .int .i64 a1_1]] w fun e w' => e = .returned (.bool r) ∧ Below w.heap.size w w' := by
  have hu24 := Try.underlying24
  have HR0 := Aside0.mk hr0
  have HC0 := Aside0.mk hc0
  clear hr0 hc0
  have HB := Aside0.mk (Below.refl w.heap.size w)
  have H : (if a1_0 ≥ 0 then (if a1_0 < (l0.length : Int) then (if a1_1 ≥ 0 then (if 0 ≤ a1_0 then (some (decide (a1_1 ≤ ((rdOf ByteArray.empty l0 a1_0).size : Int)))) else (none)) else (some false)) else (some false)) else (some false)) = some r := h
  clear h
  by_cases c3 : a1_0 ≥ 0
  · rw [if_pos c3] at H
    have c3b0 : decide (0 ≤ a1_0) = true := decide_eq_true c3
    clear c3
    by_cases c4 : a1_0 < (l0.length : Int)
    · rw [if_pos c4] at H
      have c4b0 : decide (a1_0 < (l0.length : Int)) = true := decide_eq_true c4
      clear c4
      by_cases c5 : a1_1 ≥ 0
      · rw [if_pos c5] at H
        have c5b0 : decide (0 ≤ a1_1) = true := decide_eq_true c5
        clear c5
        by_cases c6 : 0 ≤ a1_0
        · rw [if_pos c6] at H
          have c6b0 : decide (0 ≤ a1_0) = true := decide_eq_true c6
          clear c6
          obtain rfl := Option.some.inj H
          go_enter Try.func44, Try.ntmps44
          go_wp2_with (first | ((with_reducible refine gate_dst (N := 3) rfl ?_); (try (refine gate_guard (by rfl) ?_; dsimp only)); refine box_event ?hg (N := 3) ?hd (cs := #[.int .i64 a1_0, .int .i64 a1_1]) (t := 24) ?hr ?_; (case hd => rfl); (case hg => rfl); (case hr => first | (go_simp; done) | (go_simp; rfl)); intro gb101 hg w7 hbox hb; have n0_ := Aside0.mk (below_step (by repeat (first | (with_reducible first | exact HB.out | apply below_alloc | apply pw_below_drewN | apply below_drew1) | exact HB.out)) hb); have n1_ := Aside0.mk (hbox); have n2_ := Aside0.mk ((by rw [hg]; exact (below_size (by repeat (first | (with_reducible first | exact HB.out | apply below_alloc | apply pw_below_drewN | apply below_drew1) | exact HB.out))) : w.heap.size ≤ gb101)); have n3_ := Aside0.mk ((by rw [hg]; exact (below_size (by repeat (first | (with_reducible first | exact HB.out | apply below_alloc | apply pw_below_drewN | apply below_drew1) | exact HB.out))) : w.heap.size ≤ gb101)); clear HB; have HB := n0_; have BK101 := n1_; have GW101 := n2_; have GE101 := n3_; clear n0_ n1_ n2_ n3_; clear hb hbox hg; have hcz8_0 : w7.cell? ⟨gb101, 0, none⟩ = some (.int .i64 a1_0) := (blk_cell BK101.out 0).trans rfl; have hcz8_1 : w7.cell? ⟨gb101, 1, none⟩ = some (.int .i64 a1_1) := (blk_cell BK101.out 1).trans rfl; have hfz8_0 := blk_frozen BK101.out 0; have hfz8_1 := blk_frozen BK101.out 1; have p102 : 0 ≤ (a1_0 : Int) := of_decide_eq_true (by first | (with_reducible assumption) | assumption); have q102 : a1_0 < (l0.length : Int) := of_decide_eq_true (by first | (with_reducible assumption) | assumption); obtain ⟨ad102, e102, hx102_0⟩ := Kd.at_string HR0.out a1_0 p102 q102; cases e102; replace hx102_0 := (HB.out.cell (World.block_lt_of_cell? w _ hx102_0)).trans hx102_0; replace p102 := eq_true p102; replace q102 := eq_true q102))
          repeat (go_quiet (first | ((with_reducible refine gate_dst (N := 3) rfl ?_); (try (refine gate_guard (by rfl) ?_; dsimp only)); refine box_event ?hg (N := 3) ?hd (cs := #[.int .i64 a1_0, .int .i64 a1_1]) (t := 24) ?hr ?_; (case hd => rfl); (case hg => rfl); (case hr => first | (go_simp; done) | (go_simp; rfl)); intro gb101 hg w7 hbox hb; have n0_ := Aside0.mk (below_step (by repeat (first | (with_reducible first | exact HB.out | apply below_alloc | apply pw_below_drewN | apply below_drew1) | exact HB.out)) hb); have n1_ := Aside0.mk (hbox); have n2_ := Aside0.mk ((by rw [hg]; exact (below_size (by repeat (first | (with_reducible first | exact HB.out | apply below_alloc | apply pw_below_drewN | apply below_drew1) | exact HB.out))) : w.heap.size ≤ gb101)); have n3_ := Aside0.mk ((by rw [hg]; exact (below_size (by repeat (first | (with_reducible first | exact HB.out | apply below_alloc | apply pw_below_drewN | apply below_drew1) | exact HB.out))) : w.heap.size ≤ gb101)); clear HB; have HB := n0_; have BK101 := n1_; have GW101 := n2_; have GE101 := n3_; clear n0_ n1_ n2_ n3_; clear hb hbox hg; have hcz8_0 : w7.cell? ⟨gb101, 0, none⟩ = some (.int .i64 a1_0) := (blk_cell BK101.out 0).trans rfl; have hcz8_1 : w7.cell? ⟨gb101, 1, none⟩ = some (.int .i64 a1_1) := (blk_cell BK101.out 1).trans rfl; have hfz8_0 := blk_frozen BK101.out 0; have hfz8_1 := blk_frozen BK101.out 1; have p102 : 0 ≤ (a1_0 : Int) := of_decide_eq_true (by first | (with_reducible assumption) | assumption); have q102 : a1_0 < (l0.length : Int) := of_decide_eq_true (by first | (with_reducible assumption) | assumption); obtain ⟨ad102, e102, hx102_0⟩ := Kd.at_string HR0.out a1_0 p102 q102; cases e102; replace hx102_0 := (HB.out.cell (World.block_lt_of_cell? w _ hx102_0)).trans hx102_0; replace p102 := eq_true p102; replace q102 := eq_true q102)); try go_wp2_with (first | ((with_reducible refine gate_dst (N := 3) rfl ?_); (try (refine gate_guard (by rfl) ?_; dsimp only)); refine box_event ?hg (N := 3) ?hd (cs := #[.int .i64 a1_0, .int .i64 a1_1]) (t := 24) ?hr ?_; (case hd => rfl); (case hg => rfl); (case hr => first | (go_simp; done) | (go_simp; rfl)); intro gb101 hg w7 hbox hb; have n0_ := Aside0.mk (below_step (by repeat (first | (with_reducible first | exact HB.out | apply below_alloc | apply pw_below_drewN | apply below_drew1) | exact HB.out)) hb); have n1_ := Aside0.mk (hbox); have n2_ := Aside0.mk ((by rw [hg]; exact (below_size (by repeat (first | (with_reducible first | exact HB.out | apply below_alloc | apply pw_below_drewN | apply below_drew1) | exact HB.out))) : w.heap.size ≤ gb101)); have n3_ := Aside0.mk ((by rw [hg]; exact (below_size (by repeat (first | (with_reducible first | exact HB.out | apply below_alloc | apply pw_below_drewN | apply below_drew1) | exact HB.out))) : w.heap.size ≤ gb101)); clear HB; have HB := n0_; have BK101 := n1_; have GW101 := n2_; have GE101 := n3_; clear n0_ n1_ n2_ n3_; clear hb hbox hg; have hcz8_0 : w7.cell? ⟨gb101, 0, none⟩ = some (.int .i64 a1_0) := (blk_cell BK101.out 0).trans rfl; have hcz8_1 : w7.cell? ⟨gb101, 1, none⟩ = some (.int .i64 a1_1) := (blk_cell BK101.out 1).trans rfl; have hfz8_0 := blk_frozen BK101.out 0; have hfz8_1 := blk_frozen BK101.out 1; have p102 : 0 ≤ (a1_0 : Int) := of_decide_eq_true (by first | (with_reducible assumption) | assumption); have q102 : a1_0 < (l0.length : Int) := of_decide_eq_true (by first | (with_reducible assumption) | assumption); obtain ⟨ad102, e102, hx102_0⟩ := Kd.at_string HR0.out a1_0 p102 q102; cases e102; replace hx102_0 := (HB.out.cell (World.block_lt_of_cell? w _ hx102_0)).trans hx102_0; replace p102 := eq_true p102; replace q102 := eq_true q102)))
          go_ret
          exact ⟨by first | rfl | (simp [errW_none, errW_some] <;> rfl) | (simp [*, errW_none, errW_some] <;> rfl), by repeat (first | (with_reducible first | exact HB.out | apply below_alloc | apply pw_below_drewN | apply below_drew1 | refine below_set ?_ GE101.out) | exact HB.out)⟩
        · rw [if_neg c6] at H
          exact absurd H (by simp)
      · rw [if_neg c5] at H
        have c5b0 : decide (0 ≤ a1_1) = false := decide_eq_false c5
        clear c5
        obtain rfl := Option.some.inj H
        go_enter Try.func44, Try.ntmps44
        go_wp2_with (first | ((with_reducible refine gate_dst (N := 3) rfl ?_); (try (refine gate_guard (by rfl) ?_; dsimp only)); refine box_event ?hg (N := 3) ?hd (cs := #[.int .i64 a1_0, .int .i64 a1_1]) (t := 24) ?hr ?_; (case hd => rfl); (case hg => rfl); (case hr => first | (go_simp; done) | (go_simp; rfl)); intro gb101 hg w9 hbox hb; have n0_ := Aside0.mk (below_step (by repeat (first | (with_reducible first | exact HB.out | apply below_alloc | apply pw_below_drewN | apply below_drew1) | exact HB.out)) hb); have n1_ := Aside0.mk (hbox); have n2_ := Aside0.mk ((by rw [hg]; exact (below_size (by repeat (first | (with_reducible first | exact HB.out | apply below_alloc | apply pw_below_drewN | apply below_drew1) | exact HB.out))) : w.heap.size ≤ gb101)); have n3_ := Aside0.mk ((by rw [hg]; exact (below_size (by repeat (first | (with_reducible first | exact HB.out | apply below_alloc | apply pw_below_drewN | apply below_drew1) | exact HB.out))) : w.heap.size ≤ gb101)); clear HB; have HB := n0_; have BK101 := n1_; have GW101 := n2_; have GE101 := n3_; clear n0_ n1_ n2_ n3_; clear hb hbox hg; have hcz10_0 : w9.cell? ⟨gb101, 0, none⟩ = some (.int .i64 a1_0) := (blk_cell BK101.out 0).trans rfl; have hcz10_1 : w9.cell? ⟨gb101, 1, none⟩ = some (.int .i64 a1_1) := (blk_cell BK101.out 1).trans rfl; have hfz10_0 := blk_frozen BK101.out 0; have hfz10_1 := blk_frozen BK101.out 1))
        repeat (go_quiet (first | ((with_reducible refine gate_dst (N := 3) rfl ?_); (try (refine gate_guard (by rfl) ?_; dsimp only)); refine box_event ?hg (N := 3) ?hd (cs := #[.int .i64 a1_0, .int .i64 a1_1]) (t := 24) ?hr ?_; (case hd => rfl); (case hg => rfl); (case hr => first | (go_simp; done) | (go_simp; rfl)); intro gb101 hg w9 hbox hb; have n0_ := Aside0.mk (below_step (by repeat (first | (with_reducible first | exact HB.out | apply below_alloc | apply pw_below_drewN | apply below_drew1) | exact HB.out)) hb); have n1_ := Aside0.mk (hbox); have n2_ := Aside0.mk ((by rw [hg]; exact (below_size (by repeat (first | (with_reducible first | exact HB.out | apply below_alloc | apply pw_below_drewN | apply below_drew1) | exact HB.out))) : w.heap.size ≤ gb101)); have n3_ := Aside0.mk ((by rw [hg]; exact (below_size (by repeat (first | (with_reducible first | exact HB.out | apply below_alloc | apply pw_below_drewN | apply below_drew1) | exact HB.out))) : w.heap.size ≤ gb101)); clear HB; have HB := n0_; have BK101 := n1_; have GW101 := n2_; have GE101 := n3_; clear n0_ n1_ n2_ n3_; clear hb hbox hg; have hcz10_0 : w9.cell? ⟨gb101, 0, none⟩ = some (.int .i64 a1_0) := (blk_cell BK101.out 0).trans rfl; have hcz10_1 : w9.cell? ⟨gb101, 1, none⟩ = some (.int .i64 a1_1) := (blk_cell BK101.out 1).trans rfl; have hfz10_0 := blk_frozen BK101.out 0; have hfz10_1 := blk_frozen BK101.out 1)); try go_wp2_with (first | ((with_reducible refine gate_dst (N := 3) rfl ?_); (try (refine gate_guard (by rfl) ?_; dsimp only)); refine box_event ?hg (N := 3) ?hd (cs := #[.int .i64 a1_0, .int .i64 a1_1]) (t := 24) ?hr ?_; (case hd => rfl); (case hg => rfl); (case hr => first | (go_simp; done) | (go_simp; rfl)); intro gb101 hg w9 hbox hb; have n0_ := Aside0.mk (below_step (by repeat (first | (with_reducible first | exact HB.out | apply below_alloc | apply pw_below_drewN | apply below_drew1) | exact HB.out)) hb); have n1_ := Aside0.mk (hbox); have n2_ := Aside0.mk ((by rw [hg]; exact (below_size (by repeat (first | (with_reducible first | exact HB.out | apply below_alloc | apply pw_below_drewN | apply below_drew1) | exact HB.out))) : w.heap.size ≤ gb101)); have n3_ := Aside0.mk ((by rw [hg]; exact (below_size (by repeat (first | (with_reducible first | exact HB.out | apply below_alloc | apply pw_below_drewN | apply below_drew1) | exact HB.out))) : w.heap.size ≤ gb101)); clear HB; have HB := n0_; have BK101 := n1_; have GW101 := n2_; have GE101 := n3_; clear n0_ n1_ n2_ n3_; clear hb hbox hg; have hcz10_0 : w9.cell? ⟨gb101, 0, none⟩ = some (.int .i64 a1_0) := (blk_cell BK101.out 0).trans rfl; have hcz10_1 : w9.cell? ⟨gb101, 1, none⟩ = some (.int .i64 a1_1) := (blk_cell BK101.out 1).trans rfl; have hfz10_0 := blk_frozen BK101.out 0; have hfz10_1 := blk_frozen BK101.out 1)))
        go_ret
        exact ⟨by first | rfl | (simp [errW_none, errW_some] <;> rfl) | (simp [*, errW_none, errW_some] <;> rfl), by repeat (first | (with_reducible first | exact HB.out | apply below_alloc | apply pw_below_drewN | apply below_drew1 | refine below_set ?_ GE101.out) | exact HB.out)⟩
    · rw [if_neg c4] at H
      have c4b0 : decide (a1_0 < (l0.length : Int)) = false := decide_eq_false c4
      clear c4
      obtain rfl := Option.some.inj H
      go_enter Try.func44, Try.ntmps44
      go_wp2_with (first | ((with_reducible refine gate_dst (N := 3) rfl ?_); (try (refine gate_guard (by rfl) ?_; dsimp only)); refine box_event ?hg (N := 3) ?hd (cs := #[.int .i64 a1_0, .int .i64 a1_1]) (t := 24) ?hr ?_; (case hd => rfl); (case hg => rfl); (case hr => first | (go_simp; done) | (go_simp; rfl)); intro gb101 hg w11 hbox hb; have n0_ := Aside0.mk (below_step (by repeat (first | (with_reducible first | exact HB.out | apply below_alloc | apply pw_below_drewN | apply below_drew1) | exact HB.out)) hb); have n1_ := Aside0.mk (hbox); have n2_ := Aside0.mk ((by rw [hg]; exact (below_size (by repeat (first | (with_reducible first | exact HB.out | apply below_alloc | apply pw_below_drewN | apply below_drew1) | exact HB.out))) : w.heap.size ≤ gb101)); have n3_ := Aside0.mk ((by rw [hg]; exact (below_size (by repeat (first | (with_reducible first | exact HB.out | apply below_alloc | apply pw_below_drewN | apply below_drew1) | exact HB.out))) : w.heap.size ≤ gb101)); clear HB; have HB := n0_; have BK101 := n1_; have GW101 := n2_; have GE101 := n3_; clear n0_ n1_ n2_ n3_; clear hb hbox hg; have hcz12_0 : w11.cell? ⟨gb101, 0, none⟩ = some (.int .i64 a1_0) := (blk_cell BK101.out 0).trans rfl; have hcz12_1 : w11.cell? ⟨gb101, 1, none⟩ = some (.int .i64 a1_1) := (blk_cell BK101.out 1).trans rfl; have hfz12_0 := blk_frozen BK101.out 0; have hfz12_1 := blk_frozen BK101.out 1))
      repeat (go_quiet (first | ((with_reducible refine gate_dst (N := 3) rfl ?_); (try (refine gate_guard (by rfl) ?_; dsimp only)); refine box_event ?hg (N := 3) ?hd (cs := #[.int .i64 a1_0, .int .i64 a1_1]) (t := 24) ?hr ?_; (case hd => rfl); (case hg => rfl); (case hr => first | (go_simp; done) | (go_simp; rfl)); intro gb101 hg w11 hbox hb; have n0_ := Aside0.mk (below_step (by repeat (first | (with_reducible first | exact HB.out | apply below_alloc | apply pw_below_drewN | apply below_drew1) | exact HB.out)) hb); have n1_ := Aside0.mk (hbox); have n2_ := Aside0.mk ((by rw [hg]; exact (below_size (by repeat (first | (with_reducible first | exact HB.out | apply below_alloc | apply pw_below_drewN | apply below_drew1) | exact HB.out))) : w.heap.size ≤ gb101)); have n3_ := Aside0.mk ((by rw [hg]; exact (below_size (by repeat (first | (with_reducible first | exact HB.out | apply below_alloc | apply pw_below_drewN | apply below_drew1) | exact HB.out))) : w.heap.size ≤ gb101)); clear HB; have HB := n0_; have BK101 := n1_; have GW101 := n2_; have GE101 := n3_; clear n0_ n1_ n2_ n3_; clear hb hbox hg; have hcz12_0 : w11.cell? ⟨gb101, 0, none⟩ = some (.int .i64 a1_0) := (blk_cell BK101.out 0).trans rfl; have hcz12_1 : w11.cell? ⟨gb101, 1, none⟩ = some (.int .i64 a1_1) := (blk_cell BK101.out 1).trans rfl; have hfz12_0 := blk_frozen BK101.out 0; have hfz12_1 := blk_frozen BK101.out 1)); try go_wp2_with (first | ((with_reducible refine gate_dst (N := 3) rfl ?_); (try (refine gate_guard (by rfl) ?_; dsimp only)); refine box_event ?hg (N := 3) ?hd (cs := #[.int .i64 a1_0, .int .i64 a1_1]) (t := 24) ?hr ?_; (case hd => rfl); (case hg => rfl); (case hr => first | (go_simp; done) | (go_simp; rfl)); intro gb101 hg w11 hbox hb; have n0_ := Aside0.mk (below_step (by repeat (first | (with_reducible first | exact HB.out | apply below_alloc | apply pw_below_drewN | apply below_drew1) | exact HB.out)) hb); have n1_ := Aside0.mk (hbox); have n2_ := Aside0.mk ((by rw [hg]; exact (below_size (by repeat (first | (with_reducible first | exact HB.out | apply below_alloc | apply pw_below_drewN | apply below_drew1) | exact HB.out))) : w.heap.size ≤ gb101)); have n3_ := Aside0.mk ((by rw [hg]; exact (below_size (by repeat (first | (with_reducible first | exact HB.out | apply below_alloc | apply pw_below_drewN | apply below_drew1) | exact HB.out))) : w.heap.size ≤ gb101)); clear HB; have HB := n0_; have BK101 := n1_; have GW101 := n2_; have GE101 := n3_; clear n0_ n1_ n2_ n3_; clear hb hbox hg; have hcz12_0 : w11.cell? ⟨gb101, 0, none⟩ = some (.int .i64 a1_0) := (blk_cell BK101.out 0).trans rfl; have hcz12_1 : w11.cell? ⟨gb101, 1, none⟩ = some (.int .i64 a1_1) := (blk_cell BK101.out 1).trans rfl; have hfz12_0 := blk_frozen BK101.out 0; have hfz12_1 := blk_frozen BK101.out 1)))
      go_ret
      exact ⟨by first | rfl | (simp [errW_none, errW_some] <;> rfl) | (simp [*, errW_none, errW_some] <;> rfl), by repeat (first | (with_reducible first | exact HB.out | apply below_alloc | apply pw_below_drewN | apply below_drew1 | refine below_set ?_ GE101.out) | exact HB.out)⟩
  · rw [if_neg c3] at H
    have c3b0 : decide (0 ≤ a1_0) = false := decide_eq_false c3
    clear c3
    obtain rfl := Option.some.inj H
    go_enter Try.func44, Try.ntmps44
    go_wp2_with (first | ((with_reducible refine gate_dst (N := 3) rfl ?_); (try (refine gate_guard (by rfl) ?_; dsimp only)); refine box_event ?hg (N := 3) ?hd (cs := #[.int .i64 a1_0, .int .i64 a1_1]) (t := 24) ?hr ?_; (case hd => rfl); (case hg => rfl); (case hr => first | (go_simp; done) | (go_simp; rfl)); intro gb101 hg w13 hbox hb; have n0_ := Aside0.mk (below_step (by repeat (first | (with_reducible first | exact HB.out | apply below_alloc | apply pw_below_drewN | apply below_drew1) | exact HB.out)) hb); have n1_ := Aside0.mk (hbox); have n2_ := Aside0.mk ((by rw [hg]; exact (below_size (by repeat (first | (with_reducible first | exact HB.out | apply below_alloc | apply pw_below_drewN | apply below_drew1) | exact HB.out))) : w.heap.size ≤ gb101)); have n3_ := Aside0.mk ((by rw [hg]; exact (below_size (by repeat (first | (with_reducible first | exact HB.out | apply below_alloc | apply pw_below_drewN | apply below_drew1) | exact HB.out))) : w.heap.size ≤ gb101)); clear HB; have HB := n0_; have BK101 := n1_; have GW101 := n2_; have GE101 := n3_; clear n0_ n1_ n2_ n3_; clear hb hbox hg; have hcz14_0 : w13.cell? ⟨gb101, 0, none⟩ = some (.int .i64 a1_0) := (blk_cell BK101.out 0).trans rfl; have hcz14_1 : w13.cell? ⟨gb101, 1, none⟩ = some (.int .i64 a1_1) := (blk_cell BK101.out 1).trans rfl; have hfz14_0 := blk_frozen BK101.out 0; have hfz14_1 := blk_frozen BK101.out 1))
    repeat (go_quiet (first | ((with_reducible refine gate_dst (N := 3) rfl ?_); (try (refine gate_guard (by rfl) ?_; dsimp only)); refine box_event ?hg (N := 3) ?hd (cs := #[.int .i64 a1_0, .int .i64 a1_1]) (t := 24) ?hr ?_; (case hd => rfl); (case hg => rfl); (case hr => first | (go_simp; done) | (go_simp; rfl)); intro gb101 hg w13 hbox hb; have n0_ := Aside0.mk (below_step (by repeat (first | (with_reducible first | exact HB.out | apply below_alloc | apply pw_below_drewN | apply below_drew1) | exact HB.out)) hb); have n1_ := Aside0.mk (hbox); have n2_ := Aside0.mk ((by rw [hg]; exact (below_size (by repeat (first | (with_reducible first | exact HB.out | apply below_alloc | apply pw_below_drewN | apply below_drew1) | exact HB.out))) : w.heap.size ≤ gb101)); have n3_ := Aside0.mk ((by rw [hg]; exact (below_size (by repeat (first | (with_reducible first | exact HB.out | apply below_alloc | apply pw_below_drewN | apply below_drew1) | exact HB.out))) : w.heap.size ≤ gb101)); clear HB; have HB := n0_; have BK101 := n1_; have GW101 := n2_; have GE101 := n3_; clear n0_ n1_ n2_ n3_; clear hb hbox hg; have hcz14_0 : w13.cell? ⟨gb101, 0, none⟩ = some (.int .i64 a1_0) := (blk_cell BK101.out 0).trans rfl; have hcz14_1 : w13.cell? ⟨gb101, 1, none⟩ = some (.int .i64 a1_1) := (blk_cell BK101.out 1).trans rfl; have hfz14_0 := blk_frozen BK101.out 0; have hfz14_1 := blk_frozen BK101.out 1)); try go_wp2_with (first | ((with_reducible refine gate_dst (N := 3) rfl ?_); (try (refine gate_guard (by rfl) ?_; dsimp only)); refine box_event ?hg (N := 3) ?hd (cs := #[.int .i64 a1_0, .int .i64 a1_1]) (t := 24) ?hr ?_; (case hd => rfl); (case hg => rfl); (case hr => first | (go_simp; done) | (go_simp; rfl)); intro gb101 hg w13 hbox hb; have n0_ := Aside0.mk (below_step (by repeat (first | (with_reducible first | exact HB.out | apply below_alloc | apply pw_below_drewN | apply below_drew1) | exact HB.out)) hb); have n1_ := Aside0.mk (hbox); have n2_ := Aside0.mk ((by rw [hg]; exact (below_size (by repeat (first | (with_reducible first | exact HB.out | apply below_alloc | apply pw_below_drewN | apply below_drew1) | exact HB.out))) : w.heap.size ≤ gb101)); have n3_ := Aside0.mk ((by rw [hg]; exact (below_size (by repeat (first | (with_reducible first | exact HB.out | apply below_alloc | apply pw_below_drewN | apply below_drew1) | exact HB.out))) : w.heap.size ≤ gb101)); clear HB; have HB := n0_; have BK101 := n1_; have GW101 := n2_; have GE101 := n3_; clear n0_ n1_ n2_ n3_; clear hb hbox hg; have hcz14_0 : w13.cell? ⟨gb101, 0, none⟩ = some (.int .i64 a1_0) := (blk_cell BK101.out 0).trans rfl; have hcz14_1 : w13.cell? ⟨gb101, 1, none⟩ = some (.int .i64 a1_1) := (blk_cell BK101.out 1).trans rfl; have hfz14_0 := blk_frozen BK101.out 0; have hfz14_1 := blk_frozen BK101.out 1)))
    go_ret
    exact ⟨by first | rfl | (simp [errW_none, errW_some] <;> rfl) | (simp [*, errW_none, errW_some] <;> rfl), by repeat (first | (with_reducible first | exact HB.out | apply below_alloc | apply pw_below_drewN | apply below_drew1 | refine below_set ?_ GE101.out) | exact HB.out)⟩

end Go.Proofs.Ytifkfjpkngdhmaa.V
namespace Go.Proofs.Ytifkfjpkngdhmaa.V
open Go.RowKit Go.Proofs.YtifkfjpkngdhmaaW.PrintWords Go.Proofs.YtifkfjpkngdhmaaW.PrintLast Go.Proofs.YtifkfjpkngdhmaaW.PrintMore
attribute [local go_sem] max2_int min2_int max_two min_two max_three min_three max_four min_four   -- for this text's walks alone
set_option linter.unusedVariables false
set_option linter.unusedSimpArgs false

/-! ### words_fails: function 28 -/
def words_fails.f (l0 : List ByteArray) (a1_0 : Int) (a1_1 : Int) (a2 : Int) : Option (Bool) := if a2 < 1 then (some true) else ((class_Place.f l0 a1_0 a1_1).bind fun t104 => (some (!t104)))
set_option maxHeartbeats 8000000 in
set_option maxRecDepth 100000 in
theorem words_fails.calls (A0 : Option Addr) (c0 : Nat) (l0 : List ByteArray) (a1_0 : Int) (a1_1 : Int) (a2 : Int) (r : Bool) (w : World) (hr0 : Kd.C Kd.string w A0 l0.length l0) (hc0 : l0.length ≤ c0) (h : words_fails.f l0 a1_0 a1_1 a2 = some r) :
    Calls Try.prog 28 #[.slice A0 l0.length c0, .agg #[.int .i64 a1_0, .int .i64 a1_1], .int .i64 a2] w fun e w' => e = .returned (.bool r) ∧ Below w.heap.size w w' := by
  have hu24 := Try.underlying24
  have HR0 := Aside0.mk hr0
  have HC0 := Aside0.mk hc0
  clear hr0 hc0
  have HB := Aside0.mk (Below.refl w.heap.size w)
  have H : (if a2 < 1 then (some true) else ((class_Place.f l0 a1_0 a1_1).bind fun t104 => (some (!t104)))) = some r := h
  clear h
  by_cases c4 : a2 < 1
  · rw [if_pos c4] at H
    have c4b0 : decide (a2 < 1) = true := decide_eq_true c4
    clear c4
    obtain rfl := Option.some.inj H
    go_enter Try.func28, Try.ntmps28
    go_wp2_with (first | ((with_reducible refine gate_dst (N := 4) rfl ?_); refine box_event ?hg (N := 4) ?hd (cs := #[.int .i64 a1_0, .int .i64 a1_1]) (t := 24) ?hr ?_; (case hd => rfl); (case hg => rfl); (case hr => first | (go_simp; done) | (go_simp; rfl)); intro gb103 hg w5 hbox hb; have n0_ := Aside0.mk (below_step (by repeat (first | (with_reducible first | exact HB.out | apply below_alloc | apply pw_below_drewN | apply below_drew1) | exact HB.out)) hb); have n1_ := Aside0.mk (hbox); have n2_ := Aside0.mk ((by rw [hg]; exact (below_size (by repeat (first | (with_reducible first | exact HB.out | apply below_alloc | apply pw_below_drewN | apply below_drew1) | exact HB.out))) : w.heap.size ≤ gb103)); have n3_ := Aside0.mk ((by rw [hg]; exact (below_size (by repeat (first | (with_reducible first | exact HB.out | apply below_alloc | apply pw_below_drewN | apply below_drew1) | exact HB.out))) : w.heap.size ≤ gb103)); clear HB; have HB := n0_; have BK103 := n1_; have GW103 := n2_; have GE103 := n3_; clear n0_ n1_ n2_ n3_; clear hb hbox hg))
    go_ret
    exact ⟨by first | rfl | (simp [errW_none, errW_some] <;> rfl) | (simp [*, errW_none, errW_some] <;> rfl), by repeat (first | (with_reducible first | exact HB.out | apply below_alloc | apply pw_below_drewN | apply below_drew1 | refine below_set ?_ GE103.out) | exact HB.out)⟩
  · rw [if_neg c4] at H
    have c4b0 : decide (a2 < 1) = false := decide_eq_false c4
    clear c4
    replace H := Option.bind_eq_some_iff.mp H
    obtain ⟨t104, A60, H⟩ := H
    replace H : (some (!t104)) = some r := H
    have A6 := Aside0.mk A60
    clear A60
    obtain rfl := Option.some.inj H
    go_enter Try.func28, Try.ntmps28
    go_wp2_with (first | ((with_reducible refine gate_dst (N := 4) rfl ?_); refine box_event ?hg (N := 4) ?hd (cs := #[.int .i64 a1_0, .int .i64 a1_1]) (t := 24) ?hr ?_; (case hd => rfl); (case hg => rfl); (case hr => first | (go_simp; done) | (go_simp; rfl)); intro gb103 hg w7 hbox hb; have n0_ := Aside0.mk (below_step (by repeat (first | (with_reducible first | exact HB.out | apply below_alloc | apply pw_below_drewN | apply below_drew1) | exact HB.out)) hb); have n1_ := Aside0.mk (hbox); have n2_ := Aside0.mk ((by rw [hg]; exact (below_size (by repeat (first | (with_reducible first | exact HB.out | apply below_alloc | apply pw_below_drewN | apply below_drew1) | exact HB.out))) : w.heap.size ≤ gb103)); have n3_ := Aside0.mk ((by rw [hg]; exact (below_size (by repeat (first | (with_reducible first | exact HB.out | apply below_alloc | apply pw_below_drewN | apply below_drew1) | exact HB.out))) : w.heap.size ≤ gb103)); clear HB; have HB := n0_; have BK103 := n1_; have GW103 := n2_; have GE103 := n3_; clear n0_ n1_ n2_ n3_; clear hb hbox hg; have hcz8_0 : w7.cell? ⟨gb103, 0, none⟩ = some (.int .i64 a1_0) := (blk_cell BK103.out 0).trans rfl; have hcz8_1 : w7.cell? ⟨gb103, 1, none⟩ = some (.int .i64 a1_1) := (blk_cell BK103.out 1).trans rfl; have hfz8_0 := blk_frozen BK103.out 0; have hfz8_1 := blk_frozen BK103.out 1) | (go_at_call 44; (with_reducible refine (class_Place.calls _ _ l0 a1_0 a1_1 t104 _ ?side1 ?side2 A6.out).mono ?_); (case side1 => repeat (first | exact (Kd.C_below HR0.out HB.out) | (with_reducible refine Kd.C_alloc ?_ _) | (with_reducible refine Kd.C_drewN ?_ _) | (with_reducible refine Kd.C_drew ?_))); (case side2 => exact HC0.out); rintro e w9 ⟨rfl, hb⟩; have n0_ := Aside0.mk (blk_below (g := gb103) (o := .cells #[.int .i64 a1_0, .int .i64 a1_1] 24 (0, 0)) (by (with_reducible repeat (first | refine blk_drewN ?_ _ | refine blk_drew ?_ | refine blk_alloc ?_ _)); exact BK103.out) hb); have n1_ := Aside0.mk (below_step (by repeat (first | (with_reducible first | exact HB.out | apply below_alloc | apply pw_below_drewN | apply below_drew1 | refine below_set ?_ GE103.out) | exact HB.out)) hb); clear BK103; clear HB; have BK103 := n0_; have HB := n1_; clear n0_ n1_; (try clear hb); (try clear hb2); (try clear hk); (try clear hi)))
    go_ret
    exact ⟨by first | rfl | (simp [errW_none, errW_some] <;> rfl) | (simp [*, errW_none, errW_some] <;> rfl), by repeat (first | (with_reducible first | exact HB.out | apply below_alloc | apply pw_below_drewN | apply below_drew1 | refine below_set ?_ GE103.out) | exact HB.out)⟩

end Go.Proofs.Ytifkfjpkngdhmaa.V
namespace Go.Proofs.Ytifkfjpkngdhmaa.V
open Go.RowKit Go.Proofs.YtifkfjpkngdhmaaW.PrintWords Go.Proofs.YtifkfjpkngdhmaaW.PrintLast Go.Proofs.YtifkfjpkngdhmaaW.PrintMore
attribute [local go_sem] max2_int min2_int max_two min_two max_three min_three max_four min_four   -- for this text's walks alone
set_option linter.unusedVariables false
set_option linter.unusedSimpArgs false

/-! ### span_Less: function 29 -/
def span_Less.f (a0_0 : Int) (a0_1 : Int) (a1_0 : Int) (a1_1 : Int) : Option (Bool) := if a0_0 < a1_0 then (some true) else (if a0_0 = a1_0 then (some (decide (a0_1 < a1_1))) else (some false))
set_option maxHeartbeats 8000000 in
set_option maxRecDepth 100000 in
theorem span_Less.calls (a0_0 : Int) (a0_1 : Int) (a1_0 : Int) (a1_1 : Int) (r : Bool) (w : World) (h : span_Less.f a0_0 a0_1 a1_0 a1_1 = some r) :
    Calls Try.prog 29 #[.agg #[.int .i64 a0_0, .int .i64 a0_1], .agg #[.int .i64 a1_0, .int .i64 a1_1]] w fun e w' => e = .returned (.bool r) ∧ Below w.heap.size w w' := by
  have hu24 := Try.underlying24
  have HB := Aside0.mk (Below.refl w.heap.size w)
  have H : (if a0_0 < a1_0 then (some true) else (if a0_0 = a1_0 then (some (decide (a0_1 < a1_1))) else (some false))) = some r := h
  clear h
  by_cases c3 : a0_0 < a1_0
  · rw [if_pos c3] at H
    have c3b0 : decide (a0_0 < a1_0) = true := decide_eq_true c3
    clear c3
    obtain rfl := Option.some.inj H
    go_enter Try.func29, Try.ntmps29
    go_wp2_with (first | ((with_reducible refine gate_dst (N := 2) rfl ?_); refine box_event ?hg (N := 2) ?hd (cs := #[.int .i64 a0_0, .int .i64 a0_1]) (t := 24) ?hr ?_; (case hd => rfl); (case hg => rfl); (case hr => first | (go_simp; done) | (go_simp; rfl)); intro gb105 hg w4 hbox hb; have n0_ := Aside0.mk (below_step (by repeat (first | (with_reducible first | exact HB.out | apply below_alloc | apply pw_below_drewN | apply below_drew1) | exact HB.out)) hb); have n1_ := Aside0.mk (hbox); have n2_ := Aside0.mk ((by rw [hg]; exact (below_size (by repeat (first | (with_reducible first | exact HB.out | apply below_alloc | apply pw_below_drewN | apply below_drew1) | exact HB.out))) : w.heap.size ≤ gb105)); have n3_ := Aside0.mk ((by rw [hg]; exact (below_size (by repeat (first | (with_reducible first | exact HB.out | apply below_alloc | apply pw_below_drewN | apply below_drew1) | exact HB.out))) : w.heap.size ≤ gb105)); clear HB; have HB := n0_; have BK105 := n1_; have GW105 := n2_; have GE105 := n3_; clear n0_ n1_ n2_ n3_; clear hb hbox hg) | ((with_reducible refine gate_dst (N := 3) rfl ?_); refine box_event ?hg (N := 3) ?hd (cs := #[.int .i64 a1_0, .int .i64 a1_1]) (t := 24) ?hr ?_; (case hd => rfl); (case hg => rfl); (case hr => first | (go_simp; done) | (go_simp; rfl)); intro gb106 hg w5 hbox hb; have n0_ := Aside0.mk (blk_below (g := gb105) (o := .cells #[.int .i64 a0_0, .int .i64 a0_1] 24 (0, 0)) (by (with_reducible repeat (first | refine blk_drewN ?_ _ | refine blk_drew ?_ | refine blk_alloc ?_ _)); exact BK105.out) hb); have n1_ := Aside0.mk (below_step (by repeat (first | (with_reducible first | exact HB.out | apply below_alloc | apply pw_below_drewN | apply below_drew1 | refine below_set ?_ GE105.out) | exact HB.out)) hb); have n2_ := Aside0.mk (hbox); have n3_ := Aside0.mk ((by rw [hg]; exact (below_size (by repeat (first | (with_reducible first | exact HB.out | apply below_alloc | apply pw_below_drewN | apply below_drew1 | refine below_set ?_ GE105.out) | exact HB.out))) : w.heap.size ≤ gb106)); have n4_ := Aside0.mk ((by rw [hg]; exact (below_size (by repeat (first | (with_reducible first | exact HB.out | apply below_alloc | apply pw_below_drewN | apply below_drew1 | refine below_set ?_ GE105.out) | exact HB.out))) : w.heap.size ≤ gb106)); have n5_ := Aside0.mk ((by rw [hg]; exact Nat.ne_of_lt (blk_lt (g := gb105) (o := .cells #[.int .i64 a0_0, .int .i64 a0_1] 24 (0, 0)) (by (with_reducible repeat (first | refine blk_drewN ?_ _ | refine blk_drew ?_ | refine blk_alloc ?_ _)); exact BK105.out)) : gb105 ≠ gb106)); have n6_ := Aside0.mk ((by rw [hg]; exact Nat.ne_of_gt (blk_lt (g := gb105) (o := .cells #[.int .i64 a0_0, .int .i64 a0_1] 24 (0, 0)) (by (with_reducible repeat (first | refine blk_drewN ?_ _ | refine blk_drew ?_ | refine blk_alloc ?_ _)); exact BK105.out)) : gb106 ≠ gb105)); clear BK105; clear HB; have BK105 := n0_; have HB := n1_; have BK106 := n2_; have GW106 := n3_; have GE106 := n4_; have NB105_106 := n5_; have NB106_105 := n6_; clear n0_ n1_ n2_ n3_ n4_ n5_ n6_; clear hb hbox hg; have hnb6 := NB105_106.out; have hnc6 := NB106_105.out; have hcz7_0 : w5.cell? ⟨gb105, 0, none⟩ = some (.int .i64 a0_0) := (blk_cell BK105.out 0).trans rfl; have hcz7_1 : w5.cell? ⟨gb105, 1, none⟩ = some (.int .i64 a0_1) := (blk_cell BK105.out 1).trans rfl; have hfz7_0 := blk_frozen BK105.out 0; have hfz7_1 := blk_frozen BK105.out 1; have hcz8_0 : w5.cell? ⟨gb106, 0, none⟩ = some (.int .i64 a1_0) := (blk_cell BK106.out 0).trans rfl; have hcz8_1 : w5.cell? ⟨gb106, 1, none⟩ = some (.int .i64 a1_1) := (blk_cell BK106.out 1).trans rfl; have hfz8_0 := blk_frozen BK106.out 0; have hfz8_1 := blk_frozen BK106.out 1))
    go_ret
    exact ⟨by first | rfl | (simp [errW_none, errW_some] <;> rfl) | (simp [*, errW_none, errW_some] <;> rfl), by repeat (first | (with_reducible first | exact HB.out | apply below_alloc | apply pw_below_drewN | apply below_drew1 | refine below_set ?_ GE105.out | refine below_set ?_ GE106.out) | exact HB.out)⟩
  · rw [if_neg c3] at H
    have c3b0 : decide (a0_0 < a1_0) = false := decide_eq_false c3
    clear c3
    by_cases c9 : a0_0 = a1_0
    · rw [if_pos c9] at H
      have c9b0 : (a0_0 == a1_0) = true := beq_iff_eq.mpr c9
      have c9b1 : (a0_0 != a1_0) = false := bne_eq_false_iff_eq.mpr c9
      clear c9
      obtain rfl := Option.some.inj H
      go_enter Try.func29, Try.ntmps29
      go_wp2_with (first | ((with_reducible refine gate_dst (N := 2) rfl ?_); refine box_event ?hg (N := 2) ?hd (cs := #[.int .i64 a0_0, .int .i64 a0_1]) (t := 24) ?hr ?_; (case hd => rfl); (case hg => rfl); (case hr => first | (go_simp; done) | (go_simp; rfl)); intro gb105 hg w10 hbox hb; have n0_ := Aside0.mk (below_step (by repeat (first | (with_reducible first | exact HB.out | apply below_alloc | apply pw_below_drewN | apply below_drew1) | exact HB.out)) hb); have n1_ := Aside0.mk (hbox); have n2_ := Aside0.mk ((by rw [hg]; exact (below_size (by repeat (first | (with_reducible first | exact HB.out | apply below_alloc | apply pw_below_drewN | apply below_drew1) | exact HB.out))) : w.heap.size ≤ gb105)); have n3_ := Aside0.mk ((by rw [hg]; exact (below_size (by repeat (first | (with_reducible first | exact HB.out | apply below_alloc | apply pw_below_drewN | apply below_drew1) | exact HB.out))) : w.heap.size ≤ gb105)); clear HB; have HB := n0_; have BK105 := n1_; have GW105 := n2_; have GE105 := n3_; clear n0_ n1_ n2_ n3_; clear hb hbox hg) | ((with_reducible refine gate_dst (N := 3) rfl ?_); refine box_event ?hg (N := 3) ?hd (cs := #[.int .i64 a1_0, .int .i64 a1_1]) (t := 24) ?hr ?_; (case hd => rfl); (case hg => rfl); (case hr => first | (go_simp; done) | (go_simp; rfl)); intro gb106 hg w11 hbox hb; have n0_ := Aside0.mk (blk_below (g := gb105) (o := .cells #[.int .i64 a0_0, .int .i64 a0_1] 24 (0, 0)) (by (with_reducible repeat (first | refine blk_drewN ?_ _ | refine blk_drew ?_ | refine blk_alloc ?_ _)); exact BK105.out) hb); have n1_ := Aside0.mk (below_step (by repeat (first | (with_reducible first | exact HB.out | apply below_alloc | apply pw_below_drewN | apply below_drew1 | refine below_set ?_ GE105.out) | exact HB.out)) hb); have n2_ := Aside0.mk (hbox); have n3_ := Aside0.mk ((by rw [hg]; exact (below_size (by repeat (first | (with_reducible first | exact HB.out | apply below_alloc | apply pw_below_drewN | apply below_drew1 | refine below_set ?_ GE105.out) | exact HB.out))) : w.heap.size ≤ gb106)); have n4_ := Aside0.mk ((by rw [hg]; exact (below_size (by repeat (first | (with_reducible first | exact HB.out | apply below_alloc | apply pw_below_drewN | apply below_drew1 | refine below_set ?_ GE105.out) | exact HB.out))) : w.heap.size ≤ gb106)); have n5_ := Aside0.mk ((by rw [hg]; exact Nat.ne_of_lt (blk_lt (g := gb105) (o := .cells #[.int .i64 a0_0, .int .i64 a0_1] 24 (0, 0)) (by (with_reducible repeat (first | refine blk_drewN ?_ _ | refine blk_drew ?_ | refine blk_alloc ?_ _)); exact BK105.out)) : gb105 ≠ gb106)); have n6_ := Aside0.mk ((by rw [hg]; exact Nat.ne_of_gt (blk_lt (g := gb105) (o := .cells #[.int .i64 a0_0, .int .i64 a0_1] 24 (0, 0)) (by (with_reducible repeat (first | refine blk_drewN ?_ _ | refine blk_drew ?_ | refine blk_alloc ?_ _)); exact BK105.out)) : gb106 ≠ gb105)); clear BK105; clear HB; have BK105 := n0_; have HB := n1_; have BK106 := n2_; have GW106 := n3_; have GE106 := n4_; have NB105_106 := n5_; have NB106_105 := n6_; clear n0_ n1_ n2_ n3_ n4_ n5_ n6_; clear hb hbox hg; have hnb12 := NB105_106.out; have hnc12 := NB106_105.out; have hcz13_0 : w11.cell? ⟨gb105, 0, none⟩ = some (.int .i64 a0_0) := (blk_cell BK105.out 0).trans rfl; have hcz13_1 : w11.cell? ⟨gb105, 1, none⟩ = some (.int .i64 a0_1) := (blk_cell BK105.out 1).trans rfl; have hfz13_0 := blk_frozen BK105.out 0; have hfz13_1 := blk_frozen BK105.out 1; have hcz14_0 : w11.cell? ⟨gb106, 0, none⟩ = some (.int .i64 a1_0) := (blk_cell BK106.out 0).trans rfl; have hcz14_1 : w11.cell? ⟨gb106, 1, none⟩ = some (.int .i64 a1_1) := (blk_cell BK106.out 1).trans rfl; have hfz14_0 := blk_frozen BK106.out 0; have hfz14_1 := blk_frozen BK106.out 1))
      go_ret
      exact ⟨by first | rfl | (simp [errW_none, errW_some] <;> rfl) | (simp [*, errW_none, errW_some] <;> rfl), by repeat (first | (with_reducible first | exact HB.out | apply below_alloc | apply pw_below_drewN | apply below_drew1 | refine below_set ?_ GE105.out | refine below_set ?_ GE106.out) | exact HB.out)⟩
    · rw [if_neg c9] at H
      have c9b0 : (a0_0 == a1_0) = false := beq_eq_false_iff_ne.mpr c9
      have c9b1 : (a0_0 != a1_0) = true := bne_iff_ne.mpr c9
      obtain rfl := Option.some.inj H
      go_enter Try.func29, Try.ntmps29
      go_wp2_with (first | ((with_reducible refine gate_dst (N := 2) rfl ?_); refine box_event ?hg (N := 2) ?hd (cs := #[.int .i64 a0_0, .int .i64 a0_1]) (t := 24) ?hr ?_; (case hd => rfl); (case hg => rfl); (case hr => first | (go_simp; done) | (go_simp; rfl)); intro gb105 hg w15 hbox hb; have n0_ := Aside0.mk (below_step (by repeat (first | (with_reducible first | exact HB.out | apply below_alloc | apply pw_below_drewN | apply below_drew1) | exact HB.out)) hb); have n1_ := Aside0.mk (hbox); have n2_ := Aside0.mk ((by rw [hg]; exact (below_size (by repeat (first | (with_reducible first | exact HB.out | apply below_alloc | apply pw_below_drewN | apply below_drew1) | exact HB.out))) : w.heap.size ≤ gb105)); have n3_ := Aside0.mk ((by rw [hg]; exact (below_size (by repeat (first | (with_reducible first | exact HB.out | apply below_alloc | apply pw_below_drewN | apply below_drew1) | exact HB.out))) : w.heap.size ≤ gb105)); clear HB; have HB := n0_; have BK105 := n1_; have GW105 := n2_; have GE105 := n3_; clear n0_ n1_ n2_ n3_; clear hb hbox hg) | ((with_reducible refine gate_dst (N := 3) rfl ?_); refine box_event ?hg (N := 3) ?hd (cs := #[.int .i64 a1_0, .int .i64 a1_1]) (t := 24) ?hr ?_; (case hd => rfl); (case hg => rfl); (case hr => first | (go_simp; done) | (go_simp; rfl)); intro gb106 hg w16 hbox hb; have n0_ := Aside0.mk (blk_below (g := gb105) (o := .cells #[.int .i64 a0_0, .int .i64 a0_1] 24 (0, 0)) (by (with_reducible repeat (first | refine blk_drewN ?_ _ | refine blk_drew ?_ | refine blk_alloc ?_ _)); exact BK105.out) hb); have n1_ := Aside0.mk (below_step (by repeat (first | (with_reducible first | exact HB.out | apply below_alloc | apply pw_below_drewN | apply below_drew1 | refine below_set ?_ GE105.out) | exact HB.out)) hb); have n2_ := Aside0.mk (hbox); have n3_ := Aside0.mk ((by rw [hg]; exact (below_size (by repeat (first | (with_reducible first | exact HB.out | apply below_alloc | apply pw_below_drewN | apply below_drew1 | refine below_set ?_ GE105.out) | exact HB.out))) : w.heap.size ≤ gb106)); have n4_ := Aside0.mk ((by rw [hg]; exact (below_size (by repeat (first | (with_reducible first | exact HB.out | apply below_alloc | apply pw_below_drewN | apply below_drew1 | refine below_set ?_ GE105.out) | exact HB.out))) : w.heap.size ≤ gb106)); have n5_ := Aside0.mk ((by rw [hg]; exact Nat.ne_of_lt (blk_lt (g := gb105) (o := .cells #[.int .i64 a0_0, .int .i64 a0_1] 24 (0, 0)) (by (with_reducible repeat (first | refine blk_drewN ?_ _ | refine blk_drew ?_ | refine blk_alloc ?_ _)); exact BK105.out)) : gb105 ≠ gb106)); have n6_ := Aside0.mk ((by rw [hg]; exact Nat.ne_of_gt (blk_lt (g := gb105) (o := .cells #[.int .i64 a0_0, .int .i64 a0_1] 24 (0, 0)) (by (with_reducible repeat (first | refine blk_drewN ?_ _ | refine blk_drew ?_ | refine blk_alloc ?_ _)); exact BK105.out)) : gb106 ≠ gb105)); clear BK105; clear HB; have BK105 := n0_; have HB := n1_; have BK106 := n2_; have GW106 := n3_; have GE106 := n4_; have NB105_106 := n5_; have NB106_105 := n6_; clear n0_ n1_ n2_ n3_ n4_ n5_ n6_; clear hb hbox hg; have hnb17 := NB105_106.out; have hnc17 := NB106_105.out; have hcz18_0 : w16.cell? ⟨gb105, 0, none⟩ = some (.int .i64 a0_0) := (blk_cell BK105.out 0).trans rfl; have hcz18_1 : w16.cell? ⟨gb105, 1, none⟩ = some (.int .i64 a0_1) := (blk_cell BK105.out 1).trans rfl; have hfz18_0 := blk_frozen BK105.out 0; have hfz18_1 := blk_frozen BK105.out 1; have hcz19_0 : w16.cell? ⟨gb106, 0, none⟩ = some (.int .i64 a1_0) := (blk_cell BK106.out 0).trans rfl; have hcz19_1 : w16.cell? ⟨gb106, 1, none⟩ = some (.int .i64 a1_1) := (blk_cell BK106.out 1).trans rfl; have hfz19_0 := blk_frozen BK106.out 0; have hfz19_1 := blk_frozen BK106.out 1))
      go_ret
      exact ⟨by first | rfl | (simp [errW_none, errW_some] <;> rfl) | (simp [*, errW_none, errW_some] <;> rfl), by repeat (first | (with_reducible first | exact HB.out | apply below_alloc | apply pw_below_drewN | apply below_drew1 | refine below_set ?_ GE105.out | refine below_set ?_ GE106.out) | exact HB.out)⟩

end Go.Proofs.Ytifkfjpkngdhmaa.V
namespace Go.Proofs.Ytifkfjpkngdhmaa.V
open Go.RowKit Go.Proofs.YtifkfjpkngdhmaaW.PrintWords Go.Proofs.YtifkfjpkngdhmaaW.PrintLast Go.Proofs.YtifkfjpkngdhmaaW.PrintMore
attribute [local go_sem] max2_int min2_int max_two min_two max_three min_three max_four min_four   -- for this text's walks alone
set_option linter.unusedVariables false
set_option linter.unusedSimpArgs false

/-! ### words_end: function 30 -/
def words_end.f (l0 : List ByteArray) (a1_0 : Int) (a1_1 : Int) (a2 : Int) : Option (Int × Int × Int × Bool × Int × Bool) := if 0 ≤ a2 then (if a2 < (l0.length : Int) then ((span_Less.f a1_0 a1_1 a2 ((rdOf ByteArray.empty l0 a2).size : Int)).bind fun t111 => (if t111 = true then (some (a2, ((rdOf ByteArray.empty l0 a2).size : Int), 0, false, (-1), true)) else (some (0, 0, 0, false, 0, false)))) else (none)) else (none)
set_option maxHeartbeats 8000000 in
set_option maxRecDepth 100000 in
theorem words_end.calls (A0 : Option Addr) (c0 : Nat) (l0 : List ByteArray) (a1_0 : Int) (a1_1 : Int) (a2 : Int) (r1 : Int) (r2 : Int) (r3 : Int) (r4 : Bool) (r5 : Int) (r6 : Bool) (w : World) (hr0 : Kd.C Kd.string w A0 l0.length l0) (hc0 : l0.length ≤ c0) (h : words_end.f l0 a1_0 a1_1 a2 = some (r1, r2, r3, r4, r5, r6)) :
    Calls Try.prog 30 #[.slice A0 l0.length c0, .agg #[.int .i64 a1_0, .int .i64 a1_1], .int .i64 a2] w fun e w' => e = .returned (.tuple #[.agg #[.int .i64 r1, .int .i64 r2, .int .i64 r3, .bool r4, .int .i64 r5], .bool r6]) ∧ Below w.heap.size w w' := by
  have hu24 := Try.underlying24
  have hu32 := Try.underlying32
  have HR0 := Aside0.mk hr0
  have HC0 := Aside0.mk hc0
  clear hr0 hc0
  have HB := Aside0.mk (Below.refl w.heap.size w)
  have H : (if 0 ≤ a2 then (if a2 < (l0.length : Int) then ((span_Less.f a1_0 a1_1 a2 ((rdOf ByteArray.empty l0 a2).size : Int)).bind fun t111 => (if t111 = true then (some (a2, ((rdOf ByteArray.empty l0 a2).size : Int), 0, false, (-1), true)) else (some (0, 0, 0, false, 0, false)))) else (none)) else (none)) = some (r1, r2, r3, r4, r5, r6) := h
  clear h
  by_cases c4 : 0 ≤ a2
  · rw [if_pos c4] at H
    have c4b0 : decide (0 ≤ a2) = true := decide_eq_true c4
    clear c4
    by_cases c5 : a2 < (l0.length : Int)
    · rw [if_pos c5] at H
      have c5b0 : decide (a2 < (l0.length : Int)) = true := decide_eq_true c5
      clear c5
      replace H := Option.bind_eq_some_iff.mp H
      obtain ⟨t111, A60, H⟩ := H
      replace H : (if t111 = true then (some (a2, ((rdOf ByteArray.empty l0 a2).size : Int), 0, false, (-1), true)) else (some (0, 0, 0, false, 0, false))) = some (r1, r2, r3, r4, r5, r6) := H
      have A6 := Aside0.mk A60
      clear A60
      by_cases c7 : t111 = true
      · subst c7
        have H1 : (some (a2, ((rdOf ByteArray.empty l0 a2).size : Int), 0, false, (-1), true)) = some (r1, r2, r3, r4, r5, r6) := by rw [if_pos rfl] at H; exact H
        clear H
        have H := H1
        clear H1
        simp only [Option.some.injEq, Prod.mk.injEq] at H
        obtain ⟨rfl, rfl, rfl, rfl, rfl, rfl⟩ := H
        go_enter Try.func30, Try.ntmps30
        go_wp2_with (first | ((with_reducible refine gate_dst (N := 4) rfl ?_); refine box_event ?hg (N := 4) ?hd (cs := #[.int .i64 a1_0, .int .i64 a1_1]) (t := 24) ?hr ?_; (case hd => rfl); (case hg => rfl); (case hr => first | (go_simp; done) | (go_simp; rfl)); intro gb107 hg w8 hbox hb; have n0_ := Aside0.mk (below_step (by repeat (first | (with_reducible first | exact HB.out | apply below_alloc | apply pw_below_drewN | apply below_drew1) | exact HB.out)) hb); have n1_ := Aside0.mk (hbox); have n2_ := Aside0.mk ((by rw [hg]; exact (below_size (by repeat (first | (with_reducible first | exact HB.out | apply below_alloc | apply pw_below_drewN | apply below_drew1) | exact HB.out))) : w.heap.size ≤ gb107)); have n3_ := Aside0.mk ((by rw [hg]; exact (below_size (by repeat (first | (with_reducible first | exact HB.out | apply below_alloc | apply pw_below_drewN | apply below_drew1) | exact HB.out))) : w.heap.size ≤ gb107)); clear HB; have HB := n0_; have BK107 := n1_; have GW107 := n2_; have GE107 := n3_; clear n0_ n1_ n2_ n3_; clear hb hbox hg) | ((with_reducible refine gate_dst (N := 6) rfl ?_); refine box_event ?hg (N := 6) ?hd (cs := #[.int .i64 0, .int .i64 0, .int .i64 0, .bool false, .int .i64 0]) (t := 32) ?hr ?_; (case hd => rfl); (case hg => rfl); (case hr => first | (go_simp; done) | (go_simp; rfl)); intro gb108 hg w9 hbox hb; have n0_ := Aside0.mk (blk_below (g := gb107) (o := .cells #[.int .i64 a1_0, .int .i64 a1_1] 24 (0, 0)) (by (with_reducible repeat (first | refine blk_drewN ?_ _ | refine blk_drew ?_ | refine blk_alloc ?_ _)); exact BK107.out) hb); have n1_ := Aside0.mk (below_step (by repeat (first | (with_reducible first | exact HB.out | apply below_alloc | apply pw_below_drewN | apply below_drew1 | refine below_set ?_ GE107.out) | exact HB.out)) hb); have n2_ := Aside0.mk (hbox); have n3_ := Aside0.mk ((by rw [hg]; exact (below_size (by repeat (first | (with_reducible first | exact HB.out | apply below_alloc | apply pw_below_drewN | apply below_drew1 | refine below_set ?_ GE107.out) | exact HB.out))) : w.heap.size ≤ gb108)); have n4_ := Aside0.mk ((by rw [hg]; exact (below_size (by repeat (first | (with_reducible first | exact HB.out | apply below_alloc | apply pw_below_drewN | apply below_drew1 | refine below_set ?_ GE107.out) | exact HB.out))) : w.heap.size ≤ gb108)); have n5_ := Aside0.mk ((by rw [hg]; exact Nat.ne_of_lt (blk_lt (g := gb107) (o := .cells #[.int .i64 a1_0, .int .i64 a1_1] 24 (0, 0)) (by (with_reducible repeat (first | refine blk_drewN ?_ _ | refine blk_drew ?_ | refine blk_alloc ?_ _)); exact BK107.out)) : gb107 ≠ gb108)); have n6_ := Aside0.mk ((by rw [hg]; exact Nat.ne_of_gt (blk_lt (g := gb107) (o := .cells #[.int .i64 a1_0, .int .i64 a1_1] 24 (0, 0)) (by (with_reducible repeat (first | refine blk_drewN ?_ _ | refine blk_drew ?_ | refine blk_alloc ?_ _)); exact BK107.out)) : gb108 ≠ gb107)); clear BK107; clear HB; have BK107 := n0_; have HB := n1_; have BK108 := n2_; have GW108 := n3_; have GE108 := n4_; have NB107_108 := n5_; have NB108_107 := n6_; clear n0_ n1_ n2_ n3_ n4_ n5_ n6_; clear hb hbox hg; have p109 : 0 ≤ (a2 : Int) := of_decide_eq_true (by first | (with_reducible assumption) | assumption); have q109 : a2 < (l0.length : Int) := of_decide_eq_true (by first | (with_reducible assumption) | assumption); obtain ⟨ad109, e109, hx109_0⟩ := Kd.at_string HR0.out a2 p109 q109; cases e109; replace hx109_0 := (HB.out.cell (World.block_lt_of_cell? w _ hx109_0)).trans hx109_0; replace p109 := eq_true p109; replace q109 := eq_true q109) | ((with_reducible refine gate_dst (N := 8) rfl ?_); refine box_event ?hg (N := 8) ?hd (cs := #[.int .i64 0, .int .i64 0]) (t := 24) ?hr ?_; (case hd => rfl); (case hg => rfl); (case hr => first | (go_simp; done) | (go_simp; rfl)); intro gb110 hg w10 hbox hb; have n0_ := Aside0.mk (blk_below (g := gb107) (o := .cells #[.int .i64 a1_0, .int .i64 a1_1] 24 (0, 0)) (by (with_reducible repeat (first | refine blk_drewN ?_ _ | refine blk_drew ?_ | refine blk_alloc ?_ _)); exact BK107.out) hb); have n1_ := Aside0.mk (blk_below (g := gb108) (o := .cells #[.int .i64 0, .int .i64 0, .int .i64 0, .bool false, .int .i64 0] 32 (0, 0)) (by (with_reducible repeat (first | refine blk_drewN ?_ _ | refine blk_drew ?_ | refine blk_alloc ?_ _)); exact BK108.out) hb); have n2_ := Aside0.mk (below_step (by repeat (first | (with_reducible first | exact HB.out | apply below_alloc | apply pw_below_drewN | apply below_drew1 | refine below_set ?_ GE107.out | refine below_set ?_ GE108.out) | exact HB.out)) hb); have n3_ := Aside0.mk (hbox); have n4_ := Aside0.mk ((by rw [hg]; exact (below_size (by repeat (first | (with_reducible first | exact HB.out | apply below_alloc | apply pw_below_drewN | apply below_drew1 | refine below_set ?_ GE107.out | refine below_set ?_ GE108.out) | exact HB.out))) : w.heap.size ≤ gb110)); have n5_ := Aside0.mk ((by rw [hg]; exact (below_size (by repeat (first | (with_reducible first | exact HB.out | apply below_alloc | apply pw_below_drewN | apply below_drew1 | refine below_set ?_ GE107.out | refine below_set ?_ GE108.out) | exact HB.out))) : w.heap.size ≤ gb110)); have n6_ := Aside0.mk ((by rw [hg]; exact Nat.ne_of_lt (blk_lt (g := gb107) (o := .cells #[.int .i64 a1_0, .int .i64 a1_1] 24 (0, 0)) (by (with_reducible repeat (first | refine blk_drewN ?_ _ | refine blk_drew ?_ | refine blk_alloc ?_ _)); exact BK107.out)) : gb107 ≠ gb110)); have n7_ := Aside0.mk ((by rw [hg]; exact Nat.ne_of_gt (blk_lt (g := gb107) (o := .cells #[.int .i64 a1_0, .int .i64 a1_1] 24 (0, 0)) (by (with_reducible repeat (first | refine blk_drewN ?_ _ | refine blk_drew ?_ | refine blk_alloc ?_ _)); exact BK107.out)) : gb110 ≠ gb107)); have n8_ := Aside0.mk ((by rw [hg]; exact Nat.ne_of_lt (blk_lt (g := gb108) (o := .cells #[.int .i64 0, .int .i64 0, .int .i64 0, .bool false, .int .i64 0] 32 (0, 0)) (by (with_reducible repeat (first | refine blk_drewN ?_ _ | refine blk_drew ?_ | refine blk_alloc ?_ _)); exact BK108.out)) : gb108 ≠ gb110)); have n9_ := Aside0.mk ((by rw [hg]; exact Nat.ne_of_gt (blk_lt (g := gb108) (o := .cells #[.int .i64 0, .int .i64 0, .int .i64 0, .bool false, .int .i64 0] 32 (0, 0)) (by (with_reducible repeat (first | refine blk_drewN ?_ _ | refine blk_drew ?_ | refine blk_alloc ?_ _)); exact BK108.out)) : gb110 ≠ gb108)); clear BK107; clear BK108; clear HB; have BK107 := n0_; have BK108 := n1_; have HB := n2_; have BK110 := n3_; have GW110 := n4_; have GE110 := n5_; have NB107_110 := n6_; have NB110_107 := n7_; have NB108_110 := n8_; have NB110_108 := n9_; clear n0_ n1_ n2_ n3_ n4_ n5_ n6_ n7_ n8_ n9_; clear hb hbox hg; have hnb11 := NB110_107.out; have hnc11 := NB107_110.out; have hnb12 := NB110_108.out; have hnc12 := NB108_110.out; have hcz13_0 : w10.cell? ⟨gb110, 0, none⟩ = some (.int .i64 0) := (blk_cell BK110.out 0).trans rfl; have hcz13_1 : w10.cell? ⟨gb110, 1, none⟩ = some (.int .i64 0) := (blk_cell BK110.out 1).trans rfl; have hfz13_0 := blk_frozen BK110.out 0; have hfz13_1 := blk_frozen BK110.out 1; have hnb14 := NB107_108.out; have hnc14 := NB108_107.out; have hcz15_0 : w10.cell? ⟨gb107, 0, none⟩ = some (.int .i64 a1_0) := (blk_cell BK107.out 0).trans rfl; have hcz15_1 : w10.cell? ⟨gb107, 1, none⟩ = some (.int .i64 a1_1) := (blk_cell BK107.out 1).trans rfl; have hfz15_0 := blk_frozen BK107.out 0; have hfz15_1 := blk_frozen BK107.out 1) | ((with_reducible refine gate_callee (f := 29) rfl ?_); refine goesL_ (some 18) rfl rfl Try.func29 (by kernel_rfl) rfl #[.agg #[.int .i64 a1_0, .int .i64 a1_1], .agg #[.int .i64 a2, .int .i64 ((rdOf ByteArray.empty l0 a2).size : Int)]] rfl (by (try simp only [List.map_toArray, List.map_cons, List.map_nil]); first | done | rfl | (simp only [List.length_drop, List.length_take]; rfl)) ?_; (with_reducible refine (span_Less.calls a1_0 a1_1 a2 ((rdOf ByteArray.empty l0 a2).size : Int) true _ A6.out).mono ?_); rintro e w16 ⟨rfl, hb⟩; refine ⟨_, rfl, ?_⟩; have n0_ := Aside0.mk (blk_below (g := gb107) (o := .cells #[.int .i64 a1_0, .int .i64 a1_1] 24 (0, 0)) (by (with_reducible repeat (first | refine blk_drewN ?_ _ | refine blk_drew ?_ | refine blk_alloc ?_ _)); refine blk_far ?_ NB107_110.out _; (with_reducible repeat (first | refine blk_drewN ?_ _ | refine blk_drew ?_ | refine blk_alloc ?_ _)); refine blk_far ?_ NB107_110.out _; (with_reducible repeat (first | refine blk_drewN ?_ _ | refine blk_drew ?_ | refine blk_alloc ?_ _)); exact BK107.out) hb); have n1_ := Aside0.mk (blk_below (g := gb108) (o := .cells #[.int .i64 0, .int .i64 0, .int .i64 0, .bool false, .int .i64 0] 32 (0, 0)) (by (with_reducible repeat (first | refine blk_drewN ?_ _ | refine blk_drew ?_ | refine blk_alloc ?_ _)); refine blk_far ?_ NB108_110.out _; (with_reducible repeat (first | refine blk_drewN ?_ _ | refine blk_drew ?_ | refine blk_alloc ?_ _)); refine blk_far ?_ NB108_110.out _; (with_reducible repeat (first | refine blk_drewN ?_ _ | refine blk_drew ?_ | refine blk_alloc ?_ _)); exact BK108.out) hb); have n2_ := Aside0.mk (blk_below (g := gb110) (o := .cells #[.int .i64 a2, .int .i64 ((rdOf ByteArray.empty l0 a2).size : Int)] 24 (0, 0)) (by (with_reducible repeat (first | refine blk_drewN ?_ _ | refine blk_drew ?_ | refine blk_alloc ?_ _)); refine blk_put (cs := #[.int .i64 a2, .int .i64 0]) ?_ 1 _ rfl; (with_reducible repeat (first | refine blk_drewN ?_ _ | refine blk_drew ?_ | refine blk_alloc ?_ _)); refine blk_put (cs := #[.int .i64 0, .int .i64 0]) ?_ 0 _ rfl; (with_reducible repeat (first | refine blk_drewN ?_ _ | refine blk_drew ?_ | refine blk_alloc ?_ _)); exact BK110.out) hb); have n3_ := Aside0.mk (below_step (by repeat (first | (with_reducible first | exact HB.out | apply below_alloc | apply pw_below_drewN | apply below_drew1 | refine below_set ?_ GE107.out | refine below_set ?_ GE108.out | refine below_set ?_ GE110.out) | exact HB.out)) hb); clear BK107; clear BK108; clear BK110; clear HB; have BK107 := n0_; have BK108 := n1_; have BK110 := n2_; have HB := n3_; clear n0_ n1_ n2_ n3_; (try clear hb); (try clear hb2); (try clear hk); (try clear hi); have hcz17_0 : w16.cell? ⟨gb110, 0, none⟩ = some (.int .i64 a2) := (blk_cell BK110.out 0).trans rfl; have hcz17_1 : w16.cell? ⟨gb110, 1, none⟩ = some (.int .i64 ((rdOf ByteArray.empty l0 a2).size : Int)) := (blk_cell BK110.out 1).trans rfl; have hfz17_0 := blk_frozen BK110.out 0; have hfz17_1 := blk_frozen BK110.out 1; have hcz18_0 : w16.cell? ⟨gb108, 0, none⟩ = some (.int .i64 0) := (blk_cell BK108.out 0).trans rfl; have hcz18_1 : w16.cell? ⟨gb108, 1, none⟩ = some (.int .i64 0) := (blk_cell BK108.out 1).trans rfl; have hcz18_2 : w16.cell? ⟨gb108, 2, none⟩ = some (.int .i64 0) := (blk_cell BK108.out 2).trans rfl; have hcz18_3 : w16.cell? ⟨gb108, 3, none⟩ = some (.bool false) := (blk_cell BK108.out 3).trans rfl; have hcz18_4 : w16.cell? ⟨gb108, 4, none⟩ = some (.int .i64 0) := (blk_cell BK108.out 4).trans rfl; have hfz18_0 := blk_frozen BK108.out 0; have hfz18_1 := blk_frozen BK108.out 1; have hfz18_2 := blk_frozen BK108.out 2; have hfz18_3 := blk_frozen BK108.out 3; have hfz18_4 := blk_frozen BK108.out 4))
        refine bodyPost_ret (results_ct rfl _ _ gb108 32 #[.int .i64 a2, .int .i64 ((rdOf ByteArray.empty l0 a2).size : Int), .int .i64 0, .bool false, .int .i64 (-1)] (0, 0) _ rfl (by (with_reducible repeat (first | refine blk_drewN ?_ _ | refine blk_drew ?_ | refine blk_alloc ?_ _)); refine blk_put (cs := #[.int .i64 a2, .int .i64 ((rdOf ByteArray.empty l0 a2).size : Int), .int .i64 0, .bool false, .int .i64 0]) ?_ 4 _ rfl; (with_reducible repeat (first | refine blk_drewN ?_ _ | refine blk_drew ?_ | refine blk_alloc ?_ _)); refine blk_put (cs := #[.int .i64 a2, .int .i64 ((rdOf ByteArray.empty l0 a2).size : Int), .int .i64 0, .bool false, .int .i64 0]) ?_ 3 _ rfl; (with_reducible repeat (first | refine blk_drewN ?_ _ | refine blk_drew ?_ | refine blk_alloc ?_ _)); refine blk_put (cs := #[.int .i64 a2, .int .i64 ((rdOf ByteArray.empty l0 a2).size : Int), .int .i64 0, .bool false, .int .i64 0]) ?_ 2 _ rfl; (with_reducible repeat (first | refine blk_drewN ?_ _ | refine blk_drew ?_ | refine blk_alloc ?_ _)); refine blk_put (cs := #[.int .i64 a2, .int .i64 0, .int .i64 0, .bool false, .int .i64 0]) ?_ 1 _ rfl; (with_reducible repeat (first | refine blk_drewN ?_ _ | refine blk_drew ?_ | refine blk_alloc ?_ _)); refine blk_put (cs := #[.int .i64 0, .int .i64 0, .int .i64 0, .bool false, .int .i64 0]) ?_ 0 _ rfl; (with_reducible repeat (first | refine blk_drewN ?_ _ | refine blk_drew ?_ | refine blk_alloc ?_ _)); exact BK108.out) Try.underlying32 rfl (by kernel_rfl)) rfl ?_
        exact ⟨by first | rfl | (simp [errW_none, errW_some] <;> rfl) | (simp [*, errW_none, errW_some] <;> rfl), by repeat (first | (with_reducible first | exact HB.out | apply below_alloc | apply pw_below_drewN | apply below_drew1 | refine below_set ?_ GE107.out | refine below_set ?_ GE108.out | refine below_set ?_ GE110.out) | exact HB.out)⟩
      · replace c7 := Bool.eq_false_iff.mpr c7
        subst c7
        have H1 : (some (0, 0, 0, false, 0, false)) = some (r1, r2, r3, r4, r5, r6) := by rw [if_neg (show ¬ (false = true) by decide)] at H; exact H
        clear H
        have H := H1
        clear H1
        simp only [Option.some.injEq, Prod.mk.injEq] at H
        obtain ⟨rfl, rfl, rfl, rfl, rfl, rfl⟩ := H
        go_enter Try.func30, Try.ntmps30
        go_wp2_with (first | ((with_reducible refine gate_dst (N := 4) rfl ?_); refine box_event ?hg (N := 4) ?hd (cs := #[.int .i64 a1_0, .int .i64 a1_1]) (t := 24) ?hr ?_; (case hd => rfl); (case hg => rfl); (case hr => first | (go_simp; done) | (go_simp; rfl)); intro gb107 hg w19 hbox hb; have n0_ := Aside0.mk (below_step (by repeat (first | (with_reducible first | exact HB.out | apply below_alloc | apply pw_below_drewN | apply below_drew1) | exact HB.out)) hb); have n1_ := Aside0.mk (hbox); have n2_ := Aside0.mk ((by rw [hg]; exact (below_size (by repeat (first | (with_reducible first | exact HB.out | apply below_alloc | apply pw_below_drewN | apply below_drew1) | exact HB.out))) : w.heap.size ≤ gb107)); have n3_ := Aside0.mk ((by rw [hg]; exact (below_size (by repeat (first | (with_reducible first | exact HB.out | apply below_alloc | apply pw_below_drewN | apply below_drew1) | exact HB.out))) : w.heap.size ≤ gb107)); clear HB; have HB := n0_; have BK107 := n1_; have GW107 := n2_; have GE107 := n3_; clear n0_ n1_ n2_ n3_; clear hb hbox hg) | ((with_reducible refine gate_dst (N := 6) rfl ?_); refine box_event ?hg (N := 6) ?hd (cs := #[.int .i64 0, .int .i64 0, .int .i64 0, .bool false, .int .i64 0]) (t := 32) ?hr ?_; (case hd => rfl); (case hg => rfl); (case hr => first | (go_simp; done) | (go_simp; rfl)); intro gb108 hg w20 hbox hb; have n0_ := Aside0.mk (blk_below (g := gb107) (o := .cells #[.int .i64 a1_0, .int .i64 a1_1] 24 (0, 0)) (by (with_reducible repeat (first | refine blk_drewN ?_ _ | refine blk_drew ?_ | refine blk_alloc ?_ _)); exact BK107.out) hb); have n1_ := Aside0.mk (below_step (by repeat (first | (with_reducible first | exact HB.out | apply below_alloc | apply pw_below_drewN | apply below_drew1 | refine below_set ?_ GE107.out) | exact HB.out)) hb); have n2_ := Aside0.mk (hbox); have n3_ := Aside0.mk ((by rw [hg]; exact (below_size (by repeat (first | (with_reducible first | exact HB.out | apply below_alloc | apply pw_below_drewN | apply below_drew1 | refine below_set ?_ GE107.out) | exact HB.out))) : w.heap.size ≤ gb108)); have n4_ := Aside0.mk ((by rw [hg]; exact (below_size (by repeat (first | (with_reducible first | exact HB.out | apply below_alloc | apply pw_below_drewN | apply below_drew1 | refine below_set ?_ GE107.out) | exact HB.out))) : w.heap.size ≤ gb108)); have n5_ := Aside0.mk ((by rw [hg]; exact Nat.ne_of_lt (blk_lt (g := gb107) (o := .cells #[.int .i64 a1_0, .int .i64 a1_1] 24 (0, 0)) (by (with_reducible repeat (first | refine blk_drewN ?_ _ | refine blk_drew ?_ | refine blk_alloc ?_ _)); exact BK107.out)) : gb107 ≠ gb108)); have n6_ := Aside0.mk ((by rw [hg]; exact Nat.ne_of_gt (blk_lt (g := gb107) (o := .cells #[.int .i64 a1_0, .int .i64 a1_1] 24 (0, 0)) (by (with_reducible repeat (first | refine blk_drewN ?_ _ | refine blk_drew ?_ | refine blk_alloc ?_ _)); exact BK107.out)) : gb108 ≠ gb107)); clear BK107; clear HB; have BK107 := n0_; have HB := n1_; have BK108 := n2_; have GW108 := n3_; have GE108 := n4_; have NB107_108 := n5_; have NB108_107 := n6_; clear n0_ n1_ n2_ n3_ n4_ n5_ n6_; clear hb hbox hg; have p109 : 0 ≤ (a2 : Int) := of_decide_eq_true (by first | (with_reducible assumption) | assumption); have q109 : a2 < (l0.length : Int) := of_decide_eq_true (by first | (with_reducible assumption) | assumption); obtain ⟨ad109, e109, hx109_0⟩ := Kd.at_string HR0.out a2 p109 q109; cases e109; replace hx109_0 := (HB.out.cell (World.block_lt_of_cell? w _ hx109_0)).trans hx109_0; replace p109 := eq_true p109; replace q109 := eq_true q109) | ((with_reducible refine gate_dst (N := 8) rfl ?_); refine box_event ?hg (N := 8) ?hd (cs := #[.int .i64 0, .int .i64 0]) (t := 24) ?hr ?_; (case hd => rfl); (case hg => rfl); (case hr => first | (go_simp; done) | (go_simp; rfl)); intro gb110 hg w21 hbox hb; have n0_ := Aside0.mk (blk_below (g := gb107) (o := .cells #[.int .i64 a1_0, .int .i64 a1_1] 24 (0, 0)) (by (with_reducible repeat (first | refine blk_drewN ?_ _ | refine blk_drew ?_ | refine blk_alloc ?_ _)); exact BK107.out) hb); have n1_ := Aside0.mk (blk_below (g := gb108) (o := .cells #[.int .i64 0, .int .i64 0, .int .i64 0, .bool false, .int .i64 0] 32 (0, 0)) (by (with_reducible repeat (first | refine blk_drewN ?_ _ | refine blk_drew ?_ | refine blk_alloc ?_ _)); exact BK108.out) hb); have n2_ := Aside0.mk (below_step (by repeat (first | (with_reducible first | exact HB.out | apply below_alloc | apply pw_below_drewN | apply below_drew1 | refine below_set ?_ GE107.out | refine below_set ?_ GE108.out) | exact HB.out)) hb); have n3_ := Aside0.mk (hbox); have n4_ := Aside0.mk ((by rw [hg]; exact (below_size (by repeat (first | (with_reducible first | exact HB.out | apply below_alloc | apply pw_below_drewN | apply below_drew1 | refine below_set ?_ GE107.out | refine below_set ?_ GE108.out) | exact HB.out))) : w.heap.size ≤ gb110)); have n5_ := Aside0.mk ((by rw [hg]; exact (below_size (by repeat (first | (with_reducible first | exact HB.out | apply below_alloc | apply pw_below_drewN | apply below_drew1 | refine below_set ?_ GE107.out | refine below_set ?_ GE108.out) | exact HB.out))) : w.heap.size ≤ gb110)); have n6_ := Aside0.mk ((by rw [hg]; exact Nat.ne_of_lt (blk_lt (g := gb107) (o := .cells #[.int .i64 a1_0, .int .i64 a1_1] 24 (0, 0)) (by (with_reducible repeat (first | refine blk_drewN ?_ _ | refine blk_drew ?_ | refine blk_alloc ?_ _)); exact BK107.out)) : gb107 ≠ gb110)); have n7_ := Aside0.mk ((by rw [hg]; exact Nat.ne_of_gt (blk_lt (g := gb107) (o := .cells #[.int .i64 a1_0, .int .i64 a1_1] 24 (0, 0)) (by (with_reducible repeat (first | refine blk_drewN ?_ _ | refine blk_drew ?_ | refine blk_alloc ?_ _)); exact BK107.out)) : gb110 ≠ gb107)); have n8_ := Aside0.mk ((by rw [hg]; exact Nat.ne_of_lt (blk_lt (g := gb108) (o := .cells #[.int .i64 0, .int .i64 0, .int .i64 0, .bool false, .int .i64 0] 32 (0, 0)) (by (with_reducible repeat (first | refine blk_drewN ?_ _ | refine blk_drew ?_ | refine blk_alloc ?_ _)); exact BK108.out)) : gb108 ≠ gb110)); have n9_ := Aside0.mk ((by rw [hg]; exact Nat.ne_of_gt (blk_lt (g := gb108) (o := .cells #[.int .i64 0, .int .i64 0, .int .i64 0, .bool false, .int .i64 0] 32 (0, 0)) (by (with_reducible repeat (first | refine blk_drewN ?_ _ | refine blk_drew ?_ | refine blk_alloc ?_ _)); exact BK108.out)) : gb110 ≠ gb108)); clear BK107; clear BK108; clear HB; have BK107 := n0_; have BK108 := n1_; have HB := n2_; have BK110 := n3_; have GW110 := n4_; have GE110 := n5_; have NB107_110 := n6_; have NB110_107 := n7_; have NB108_110 := n8_; have NB110_108 := n9_; clear n0_ n1_ n2_ n3_ n4_ n5_ n6_ n7_ n8_ n9_; clear hb hbox hg; have hnb22 := NB110_107.out; have hnc22 := NB107_110.out; have hnb23 := NB110_108.out; have hnc23 := NB108_110.out; have hcz24_0 : w21.cell? ⟨gb110, 0, none⟩ = some (.int .i64 0) := (blk_cell BK110.out 0).trans rfl; have hcz24_1 : w21.cell? ⟨gb110, 1, none⟩ = some (.int .i64 0) := (blk_cell BK110.out 1).trans rfl; have hfz24_0 := blk_frozen BK110.out 0; have hfz24_1 := blk_frozen BK110.out 1; have hnb25 := NB107_108.out; have hnc25 := NB108_107.out; have hcz26_0 : w21.cell? ⟨gb107, 0, none⟩ = some (.int .i64 a1_0) := (blk_cell BK107.out 0).trans rfl; have hcz26_1 : w21.cell? ⟨gb107, 1, none⟩ = some (.int .i64 a1_1) := (blk_cell BK107.out 1).trans rfl; have hfz26_0 := blk_frozen BK107.out 0; have hfz26_1 := blk_frozen BK107.out 1) | ((with_reducible refine gate_callee (f := 29) rfl ?_); refine goesL_ (some 18) rfl rfl Try.func29 (by kernel_rfl) rfl #[.agg #[.int .i64 a1_0, .int .i64 a1_1], .agg #[.int .i64 a2, .int .i64 ((rdOf ByteArray.empty l0 a2).size : Int)]] rfl (by (try simp only [List.map_toArray, List.map_cons, List.map_nil]); first | done | rfl | (simp only [List.length_drop, List.length_take]; rfl)) ?_; (with_reducible refine (span_Less.calls a1_0 a1_1 a2 ((rdOf ByteArray.empty l0 a2).size : Int) false _ A6.out).mono ?_); rintro e w27 ⟨rfl, hb⟩; refine ⟨_, rfl, ?_⟩; have n0_ := Aside0.mk (blk_below (g := gb107) (o := .cells #[.int .i64 a1_0, .int .i64 a1_1] 24 (0, 0)) (by (with_reducible repeat (first | refine blk_drewN ?_ _ | refine blk_drew ?_ | refine blk_alloc ?_ _)); refine blk_far ?_ NB107_110.out _; (with_reducible repeat (first | refine blk_drewN ?_ _ | refine blk_drew ?_ | refine blk_alloc ?_ _)); refine blk_far ?_ NB107_110.out _; (with_reducible repeat (first | refine blk_drewN ?_ _ | refine blk_drew ?_ | refine blk_alloc ?_ _)); exact BK107.out) hb); have n1_ := Aside0.mk (blk_below (g := gb108) (o := .cells #[.int .i64 0, .int .i64 0, .int .i64 0, .bool false, .int .i64 0] 32 (0, 0)) (by (with_reducible repeat (first | refine blk_drewN ?_ _ | refine blk_drew ?_ | refine blk_alloc ?_ _)); refine blk_far ?_ NB108_110.out _; (with_reducible repeat (first | refine blk_drewN ?_ _ | refine blk_drew ?_ | refine blk_alloc ?_ _)); refine blk_far ?_ NB108_110.out _; (with_reducible repeat (first | refine blk_drewN ?_ _ | refine blk_drew ?_ | refine blk_alloc ?_ _)); exact BK108.out) hb); have n2_ := Aside0.mk (blk_below (g := gb110) (o := .cells #[.int .i64 a2, .int .i64 ((rdOf ByteArray.empty l0 a2).size : Int)] 24 (0, 0)) (by (with_reducible repeat (first | refine blk_drewN ?_ _ | refine blk_drew ?_ | refine blk_alloc ?_ _)); refine blk_put (cs := #[.int .i64 a2, .int .i64 0]) ?_ 1 _ rfl; (with_reducible repeat (first | refine blk_drewN ?_ _ | refine blk_drew ?_ | refine blk_alloc ?_ _)); refine blk_put (cs := #[.int .i64 0, .int .i64 0]) ?_ 0 _ rfl; (with_reducible repeat (first | refine blk_drewN ?_ _ | refine blk_drew ?_ | refine blk_alloc ?_ _)); exact BK110.out) hb); have n3_ := Aside0.mk (below_step (by repeat (first | (with_reducible first | exact HB.out | apply below_alloc | apply pw_below_drewN | apply below_drew1 | refine below_set ?_ GE107.out | refine below_set ?_ GE108.out | refine below_set ?_ GE110.out) | exact HB.out)) hb); clear BK107; clear BK108; clear BK110; clear HB; have BK107 := n0_; have BK108 := n1_; have BK110 := n2_; have HB := n3_; clear n0_ n1_ n2_ n3_; (try clear hb); (try clear hb2); (try clear hk); (try clear hi); have hcz28_0 : w27.cell? ⟨gb108, 0, none⟩ = some (.int .i64 0) := (blk_cell BK108.out 0).trans rfl; have hcz28_1 : w27.cell? ⟨gb108, 1, none⟩ = some (.int .i64 0) := (blk_cell BK108.out 1).trans rfl; have hcz28_2 : w27.cell? ⟨gb108, 2, none⟩ = some (.int .i64 0) := (blk_cell BK108.out 2).trans rfl; have hcz28_3 : w27.cell? ⟨gb108, 3, none⟩ = some (.bool false) := (blk_cell BK108.out 3).trans rfl; have hcz28_4 : w27.cell? ⟨gb108, 4, none⟩ = some (.int .i64 0) := (blk_cell BK108.out 4).trans rfl; have hfz28_0 := blk_frozen BK108.out 0; have hfz28_1 := blk_frozen BK108.out 1; have hfz28_2 := blk_frozen BK108.out 2; have hfz28_3 := blk_frozen BK108.out 3; have hfz28_4 := blk_frozen BK108.out 4))
        refine bodyPost_ret (results_ct rfl _ _ gb108 32 #[.int .i64 0, .int .i64 0, .int .i64 0, .bool false, .int .i64 0] (0, 0) _ rfl (by (with_reducible repeat (first | refine blk_drewN ?_ _ | refine blk_drew ?_ | refine blk_alloc ?_ _)); refine blk_put (cs := #[.int .i64 0, .int .i64 0, .int .i64 0, .bool false, .int .i64 0]) ?_ 4 _ rfl; (with_reducible repeat (first | refine blk_drewN ?_ _ | refine blk_drew ?_ | refine blk_alloc ?_ _)); refine blk_put (cs := #[.int .i64 0, .int .i64 0, .int .i64 0, .bool false, .int .i64 0]) ?_ 3 _ rfl; (with_reducible repeat (first | refine blk_drewN ?_ _ | refine blk_drew ?_ | refine blk_alloc ?_ _)); refine blk_put (cs := #[.int .i64 0, .int .i64 0, .int .i64 0, .bool false, .int .i64 0]) ?_ 2 _ rfl; (with_reducible repeat (first | refine blk_drewN ?_ _ | refine blk_drew ?_ | refine blk_alloc ?_ _)); refine blk_put (cs := #[.int .i64 0, .int .i64 0, .int .i64 0, .bool false, .int .i64 0]) ?_ 1 _ rfl; (with_reducible repeat (first | refine blk_drewN ?_ _ | refine blk_drew ?_ | refine blk_alloc ?_ _)); refine blk_put (cs := #[.int .i64 0, .int .i64 0, .int .i64 0, .bool false, .int .i64 0]) ?_ 0 _ rfl; (with_reducible repeat (first | refine blk_drewN ?_ _ | refine blk_drew ?_ | refine blk_alloc ?_ _)); exact BK108.out) Try.underlying32 rfl (by kernel_rfl)) rfl ?_
        exact ⟨by first | rfl | (simp [errW_none, errW_some] <;> rfl) | (simp [*, errW_none, errW_some] <;> rfl), by repeat (first | (with_reducible first | exact HB.out | apply below_alloc | apply pw_below_drewN | apply below_drew1 | refine below_set ?_ GE107.out | refine below_set ?_ GE108.out | refine below_set ?_ GE110.out) | exact HB.out)⟩
    · rw [if_neg c5] at H
      exact absurd H (by simp)
  · rw [if_neg c4] at H
    exact absurd H (by simp)

-- STUB: function 11 (words_Next)

-- NOT PRINTED: function 37 (words_back)

-- STUB: function 14 (words_Back)

-- NOT PRINTED: function 23 (words_Ends)

-- STUB: function 16 (words_Tail)

end Go.Proofs.Ytifkfjpkngdhmaa.V
namespace Go.Proofs.Ytifkfjpkngdhmaa.Pure
open Go.RowKit Go.Shelf Go.Proofs.Ytifkfjpkngdhmaa.V Go.Proofs.YtifkfjpkngdhmaaW.PrintWords Go.Proofs.YtifkfjpkngdhmaaW.PrintLast Go.Proofs.YtifkfjpkngdhmaaW.PrintMore
set_option linter.unusedVariables false
set_option linter.unusedSimpArgs false
attribute [local go_sem] Oper.semAt_some

/-- is the place (a, b) ahead of (c, d)? -/
def ltN (a b c d : Int) : Bool := decide (a < c) || (decide (a = c) && decide (b < d))
theorem less_eqN (a b c d : Int) : span_Less.f a b c d = some (ltN a b c d) := by
  unfold span_Less.f ltN
  by_cases h : a < c
  · simp [h]
  · by_cases h2 : a = c <;> simp [h, h2]

/-- what Next tells of places: m is what is still to come, ll the last place's line. -/
def nextGo (l0 : List ByteArray) (p0 p1 : Int) (op : Bool) : Int → Int → List S24 → Option (Int × Int × Int × Bool × Int × Bool)
  | m, ll, [] => if op = true ∧ m = 1 then words_end.f l0 p0 p1 ((l0.length : Int) - 1) else some (0, 0, 0, false, 0, false)
  | m, ll, s :: r => if ltN p0 p1 s.f0 s.f1 = false then nextGo l0 p0 p1 op m ll r else if 0 < m - 1 then nextGo l0 p0 p1 op (m - 1) s.f0 r
      else if op = true ∧ ll < s.f0 then words_end.f l0 p0 p1 ll else some (s.f0, s.f1, 0, false, -1, true)

theorem end_some (l0 : List ByteArray) (p0 p1 ll : Int) (h0 : 0 ≤ ll) (h1 : ll < l0.length) : ∃ e1 e2 e3 e4 e5 e6, words_end.f l0 p0 p1 ll = some (e1, e2, e3, e4, e5, e6) := by
  unfold words_end.f
  rw [if_pos h0, if_pos h1, less_eqN]
  cases h : ltN p0 p1 ll ((rdOf ByteArray.empty l0 ll).size : Int)
  · exact ⟨_, _, _, _, _, _, rfl⟩
  · exact ⟨_, _, _, _, _, _, rfl⟩
theorem fails_in {l0 : List ByteArray} {p0 p1 a2 : Int} (h : words_fails.f l0 p0 p1 a2 = some false) : 0 ≤ p0 ∧ p0 < l0.length := by
  unfold words_fails.f class_Place.f at h
  by_cases h1 : a2 < 1
  · rw [if_pos h1] at h; cases h
  · rw [if_neg h1] at h
    by_cases h2 : p0 ≥ 0
    · by_cases h3 : p0 < l0.length
      · exact ⟨h2, h3⟩
      · rw [if_pos h2, if_neg h3] at h; cases h
    · rw [if_neg h2] at h; cases h
theorem plc_in {empty : Bool} {ask : ByteArray → Int → Bool} {l : List ByteArray} {k : Nat} {x : S24} (h : x ∈ plc empty ask l k) : 0 ≤ x.f0 ∧ x.f0 < k := by
  unfold plc at h
  obtain ⟨j, hj, h⟩ := List.mem_flatMap.1 h
  have hj' : j < k := by simpa using hj
  unfold lineP at h
  rcases List.mem_append.1 h with h | h
  · split at h
    · obtain rfl : x = ⟨(j : Int), 0⟩ := by simpa using h
      exact ⟨by simp, by simpa using hj'⟩
    · simp at h
  · obtain ⟨i, _, rfl⟩ := List.mem_map.1 h
    exact ⟨by simp, by simpa using hj'⟩

/-- the boxes of Next. -/
abbrev nextB (A0 : Option Addr) (n c0 : Nat) (p0 p1 m : Int) (op : Bool) (v1 v2 v3 : Int) (v4 : Bool) (v5 : Int) (v6 : Bool) : List (TypeId × Array Value) :=
  [(22, #[.slice A0 n c0]), (24, #[.int .i64 p0, .int .i64 p1]), (3, #[.int .i64 m]), (4, #[.bool op]), (32, #[.int .i64 v1, .int .i64 v2, .int .i64 v3, .bool v4, .int .i64 v5]), (4, #[.bool v6])]
theorem next_facts {w W : World} {A0 : Option Addr} {n c0 : Nat} {p0 p1 m v1 v2 v3 v5 : Int} {op v4 v6 : Bool} (h : Boxes w (nextB A0 n c0 p0 p1 m op v1 v2 v3 v4 v5 v6) W) :
    W.cell? ⟨w.heap.size, 0, none⟩ = some (.slice A0 n c0) ∧ W.cell? ⟨w.heap.size + 1, 0, none⟩ = some (.int .i64 p0) ∧ W.cell? ⟨w.heap.size + 1, 1, none⟩ = some (.int .i64 p1) ∧ W.cell? ⟨w.heap.size + 1 + 1, 0, none⟩ = some (.int .i64 m) ∧ W.cell? ⟨w.heap.size + 1 + 1 + 1, 0, none⟩ = some (.bool op) ∧
    W.cell? ⟨w.heap.size + 1 + 1 + 1 + 1, 0, none⟩ = some (.int .i64 v1) ∧ W.cell? ⟨w.heap.size + 1 + 1 + 1 + 1, 1, none⟩ = some (.int .i64 v2) ∧ W.cell? ⟨w.heap.size + 1 + 1 + 1 + 1, 2, none⟩ = some (.int .i64 v3) ∧ W.cell? ⟨w.heap.size + 1 + 1 + 1 + 1, 3, none⟩ = some (.bool v4) ∧ W.cell? ⟨w.heap.size + 1 + 1 + 1 + 1, 4, none⟩ = some (.int .i64 v5) ∧ W.cell? ⟨w.heap.size + 1 + 1 + 1 + 1 + 1, 0, none⟩ = some (.bool v6) ∧
    W.frozen? ⟨w.heap.size + 1 + 1, 0, none⟩ = false ∧ W.frozen? ⟨w.heap.size + 1 + 1 + 1 + 1, 0, none⟩ = false ∧ W.frozen? ⟨w.heap.size + 1 + 1 + 1 + 1, 1, none⟩ = false ∧ W.frozen? ⟨w.heap.size + 1 + 1 + 1 + 1, 2, none⟩ = false ∧ W.frozen? ⟨w.heap.size + 1 + 1 + 1 + 1, 3, none⟩ = false ∧ W.frozen? ⟨w.heap.size + 1 + 1 + 1 + 1, 4, none⟩ = false ∧ W.frozen? ⟨w.heap.size + 1 + 1 + 1 + 1 + 1, 0, none⟩ = false :=
  ⟨(blk_cell (h.2 0 _ _ rfl) 0).trans rfl, (blk_cell (h.2 1 _ _ rfl) 0).trans rfl, (blk_cell (h.2 1 _ _ rfl) 1).trans rfl, (blk_cell (h.2 2 _ _ rfl) 0).trans rfl, (blk_cell (h.2 3 _ _ rfl) 0).trans rfl,
    (blk_cell (h.2 4 _ _ rfl) 0).trans rfl, (blk_cell (h.2 4 _ _ rfl) 1).trans rfl, (blk_cell (h.2 4 _ _ rfl) 2).trans rfl, (blk_cell (h.2 4 _ _ rfl) 3).trans rfl, (blk_cell (h.2 4 _ _ rfl) 4).trans rfl, (blk_cell (h.2 5 _ _ rfl) 0).trans rfl,
    blk_frozen (h.2 2 _ _ rfl) 0, blk_frozen (h.2 4 _ _ rfl) 0, blk_frozen (h.2 4 _ _ rfl) 1, blk_frozen (h.2 4 _ _ rfl) 2, blk_frozen (h.2 4 _ _ rfl) 3, blk_frozen (h.2 4 _ _ rfl) 4, blk_frozen (h.2 5 _ _ rfl) 0⟩
theorem next_cont {w W : World} {A0 : Option Addr} {n c0 : Nat} {p0 p1 m v1 v2 v3 v5 : Int} {op v4 v6 : Bool} (m' : Int) (h : Boxes w (nextB A0 n c0 p0 p1 m op v1 v2 v3 v4 v5 v6) W) :
    Boxes w (nextB A0 n c0 p0 p1 m' op v1 v2 v3 v4 v5 v6) (W.setCell ⟨w.heap.size + 1 + 1, 0, none⟩ (.int .i64 m')) := h.set (i := 2) rfl 0 _
theorem Boxes.far {w W : World} {l : List (TypeId × Array Value)} (h : Boxes w l W) {g : Nat} (hg : w.heap.size + l.length ≤ g) (j : Nat) (u : Value) : Boxes w l (W.setCell ⟨g, j, none⟩ u) :=
  ⟨h.1.setCell (p := ⟨g, j, none⟩) (by show w.heap.size ≤ g; omega) _, fun k t cs hk => blk_far (h.2 k t cs hk) (by have := (List.getElem?_eq_some_iff.1 hk).1; show w.heap.size + k ≠ g; omega) u⟩
theorem next_res {w W : World} {A0 : Option Addr} {n c0 : Nat} {p0 p1 m v1 v2 v3 v5 : Int} {op v4 v6 : Bool} (u1 u2 u3 : Int) (u4 : Bool) (u5 : Int) (u6 : Bool) (h : Boxes w (nextB A0 n c0 p0 p1 m op v1 v2 v3 v4 v5 v6) W) :
    Boxes w (nextB A0 n c0 p0 p1 m op u1 u2 u3 u4 u5 u6) ((((((W.setCell ⟨w.heap.size + 1 + 1 + 1 + 1, 0, none⟩ (.int .i64 u1)).setCell ⟨w.heap.size + 1 + 1 + 1 + 1, 1, none⟩ (.int .i64 u2)).setCell ⟨w.heap.size + 1 + 1 + 1 + 1, 2, none⟩ (.int .i64 u3)).setCell ⟨w.heap.size + 1 + 1 + 1 + 1, 3, none⟩ (.bool u4)).setCell ⟨w.heap.size + 1 + 1 + 1 + 1, 4, none⟩ (.int .i64 u5)).setCell ⟨w.heap.size + 1 + 1 + 1 + 1 + 1, 0, none⟩ (.bool u6)) :=
  (((((h.set (i := 4) rfl 0 _).set (i := 4) rfl 1 _).set (i := 4) rfl 2 _).set (i := 4) rfl 3 _).set (i := 4) rfl 4 _).set (i := 5) rfl 0 _
theorem keepsFrom_resN {B : Nat} {W W1 : World} (h : KeepsFrom B W W1) (a1 a2 a3 a4 a5 a6 : Addr) (u1 u2 u3 u4 u5 u6 : Value) :
    KeepsFrom B W ((((((W1.setCell a1 u1).setCell a2 u2).setCell a3 u3).setCell a4 u4).setCell a5 u5).setCell a6 u6) :=
  keepsFrom_set (keepsFrom_set (keepsFrom_set (keepsFrom_set (keepsFrom_set (keepsFrom_set h _ _) _ _) _ _) _ _) _ _) _ _

set_option maxHeartbeats 4000000 in
set_option maxRecDepth 100000 in
theorem next_walk (A0 : Option Addr) (c0 : Nat) (l0 : List ByteArray) (p0 p1 a2 : Int) (big op : Bool) (r1 r2 r3 : Int) (r4 : Bool) (r5 : Int) (r6 : Bool) (w : World) (hr0 : Kd.C Kd.string w A0 l0.length l0) (hc0 : l0.length ≤ c0)
    (hl : l0.length ≤ 40) (hs : ∀ s ∈ l0, s.size ≤ 1200) (hn1 : 1 ≤ a2) (hn2 : a2 ≤ 9223372036854775807) (hf : words_fails.f l0 p0 p1 a2 = some false) (h : nextGo l0 p0 p1 op a2 p0 (startsL l0 big) = some (r1, r2, r3, r4, r5, r6)) :
    Calls Try.prog 11 #[.slice A0 l0.length c0, .agg #[.int .i64 p0, .int .i64 p1], .int .i64 a2, .bool big, .bool op] w fun e w' => e = .returned (.tuple #[.agg #[.int .i64 r1, .int .i64 r2, .int .i64 r3, .bool r4, .int .i64 r5], .bool r6]) ∧ Below w.heap.size w w' := by
  refine (callsIn_wide (n := 8)).1 (callsIn_of_wp_marks Try.func11 rfl trivial ?_ rfl)
  simp only [Try.ntmps11, List.size_toArray, List.length_cons, List.length_nil, Nat.reduceAdd, Nat.reduceSub, Array.replicate_succ, Array.replicate_zero, List.push_toArray, List.append_toArray, List.nil_append, List.cons_append]
  have X0 := (((((((Boxes.nil w).push (by simp) 22 #[.slice A0 l0.length c0]).push (by simp) 24 #[.int .i64 p0, .int .i64 p1]).push (by simp) 3 #[.int .i64 a2]).push (by simp) 4 #[.bool op]).push (by simp) 32 #[.int .i64 0, .int .i64 0, .int .i64 0, .bool false, .int .i64 0]).push (by simp) 4 #[.bool false])
  simp only [List.nil_append, List.cons_append] at X0
  gi_wp2_with (first
    | (refine ⟨trivial, ?_⟩; gi_at_call 28; (with_reducible refine (callsIn_wide.2 (words_fails.calls A0 c0 l0 p0 p1 a2 false _ (by repeat (first | exact hr0 | (with_reducible refine Kd.C_alloc ?_ _))) hc0 hf)).mono ?_); rintro e w1 ⟨rfl, hb1⟩; have X1 := X0.below hb1; have hs1 : w.heap.size + 5 < w1.heap.size := X1.size (i := 5) rfl; obtain ⟨k0, k1, k2, k3, k4, k5, k6, k7, k8, k9, k10, k11, k12, k13, k14, k15, k16, k17⟩ := next_facts X1; have X2 := X1.below ((Below.refl _ w1).alloc (Nat.le_refl _) (.cells #[.int .i64 p0, .int .i64 p1] 24)); obtain ⟨j0, _⟩ := next_facts X2)
    | (refine ⟨trivial, ?_⟩; gi_at_call 22; (with_reducible refine (callsIn_wide.2 (starts_calls A0 l0.length c0 big _)).mono ?_); rintro e w2 ⟨rfl, rfl⟩))
  have X3 : Boxes w _ (((((w1.alloc (.cells #[.int .i64 p0, .int .i64 p1] 24)).alloc (.cells #[.bool big] 4)).alloc (.cells #[.slice A0 l0.length c0] 22)).alloc (.cells #[.bool true] 4)).alloc (.cells #[.func (.func 40) #[] #[.pointer (some ⟨w1.heap.size + 1, 0, none⟩)]] 61)) := ⟨(((X2.1.alloc X2.1.size _).alloc (by simp; omega) _).alloc (by simp; omega) _).alloc (by simp; omega) _, fun i t cs hi => ((((X2.2 i t cs hi).alloc _).alloc _).alloc _).alloc _⟩
  have YL : Blk (((((w1.alloc (.cells #[.int .i64 p0, .int .i64 p1] 24)).alloc (.cells #[.bool big] 4)).alloc (.cells #[.slice A0 l0.length c0] 22)).alloc (.cells #[.bool true] 4)).alloc (.cells #[.func (.func 40) #[] #[.pointer (some ⟨w1.heap.size + 1, 0, none⟩)]] 61)) w1.heap.size 24 #[.int .i64 p0, .int .i64 p1] := ((((Blk.new w1 _ _).alloc _).alloc _).alloc _).alloc _
  have Y0 : Blk (((((w1.alloc (.cells #[.int .i64 p0, .int .i64 p1] 24)).alloc (.cells #[.bool big] 4)).alloc (.cells #[.slice A0 l0.length c0] 22)).alloc (.cells #[.bool true] 4)).alloc (.cells #[.func (.func 40) #[] #[.pointer (some ⟨w1.heap.size + 1, 0, none⟩)]] 61)) (w1.heap.size + 1) 4 #[.bool big] := by
    have := (((Blk.new (w1.alloc (.cells #[.int .i64 p0, .int .i64 p1] 24)) 4 #[.bool big]).alloc (.cells #[.slice A0 l0.length c0] 22)).alloc (.cells #[.bool true] 4)).alloc (.cells #[.func (.func 40) #[] #[.pointer (some ⟨w1.heap.size + 1, 0, none⟩)]] 61)
    rwa [World.size_alloc] at this
  have Y1 : Blk (((((w1.alloc (.cells #[.int .i64 p0, .int .i64 p1] 24)).alloc (.cells #[.bool big] 4)).alloc (.cells #[.slice A0 l0.length c0] 22)).alloc (.cells #[.bool true] 4)).alloc (.cells #[.func (.func 40) #[] #[.pointer (some ⟨w1.heap.size + 1, 0, none⟩)]] 61)) (w1.heap.size + 1 + 1) 22 #[.slice A0 l0.length c0] := by
    have := ((Blk.new ((w1.alloc (.cells #[.int .i64 p0, .int .i64 p1] 24)).alloc (.cells #[.bool big] 4)) 22 #[.slice A0 l0.length c0]).alloc (.cells #[.bool true] 4)).alloc (.cells #[.func (.func 40) #[] #[.pointer (some ⟨w1.heap.size + 1, 0, none⟩)]] 61)
    rwa [World.size_alloc, World.size_alloc] at this
  have Y2 : Blk (((((w1.alloc (.cells #[.int .i64 p0, .int .i64 p1] 24)).alloc (.cells #[.bool big] 4)).alloc (.cells #[.slice A0 l0.length c0] 22)).alloc (.cells #[.bool true] 4)).alloc (.cells #[.func (.func 40) #[] #[.pointer (some ⟨w1.heap.size + 1, 0, none⟩)]] 61)) (w1.heap.size + 1 + 1 + 1) 4 #[.bool true] := by
    have := (Blk.new (((w1.alloc (.cells #[.int .i64 p0, .int .i64 p1] 24)).alloc (.cells #[.bool big] 4)).alloc (.cells #[.slice A0 l0.length c0] 22)) 4 #[.bool true]).alloc (.cells #[.func (.func 40) #[] #[.pointer (some ⟨w1.heap.size + 1, 0, none⟩)]] 61)
    rwa [World.size_alloc, World.size_alloc, World.size_alloc] at this
  have Y3 : Blk (((((w1.alloc (.cells #[.int .i64 p0, .int .i64 p1] 24)).alloc (.cells #[.bool big] 4)).alloc (.cells #[.slice A0 l0.length c0] 22)).alloc (.cells #[.bool true] 4)).alloc (.cells #[.func (.func 40) #[] #[.pointer (some ⟨w1.heap.size + 1, 0, none⟩)]] 61)) (w1.heap.size + 1 + 1 + 1 + 1) 61 #[.func (.func 40) #[] #[.pointer (some ⟨w1.heap.size + 1, 0, none⟩)]] := by
    have := Blk.new ((((w1.alloc (.cells #[.int .i64 p0, .int .i64 p1] 24)).alloc (.cells #[.bool big] 4)).alloc (.cells #[.slice A0 l0.length c0] 22)).alloc (.cells #[.bool true] 4)) 61 #[.func (.func 40) #[] #[.pointer (some ⟨w1.heap.size + 1, 0, none⟩)]]
    rwa [World.size_alloc, World.size_alloc, World.size_alloc, World.size_alloc] at this
  have Z : (((((w1.alloc (.cells #[.int .i64 p0, .int .i64 p1] 24)).alloc (.cells #[.bool big] 4)).alloc (.cells #[.slice A0 l0.length c0] 22)).alloc (.cells #[.bool true] 4)).alloc (.cells #[.func (.func 40) #[] #[.pointer (some ⟨w1.heap.size + 1, 0, none⟩)]] 61)).heap.size = w1.heap.size + 5 := by simp
  obtain ⟨W0, hW0⟩ : ∃ W0, (((((w1.alloc (.cells #[.int .i64 p0, .int .i64 p1] 24)).alloc (.cells #[.bool big] 4)).alloc (.cells #[.slice A0 l0.length c0] 22)).alloc (.cells #[.bool true] 4)).alloc (.cells #[.func (.func 40) #[] #[.pointer (some ⟨w1.heap.size + 1, 0, none⟩)]] 61)) = W0 := ⟨_, rfl⟩
  rw [hW0] at X3 YL Y0 Y1 Y2 Y3 Z ⊢
  clear hW0 X0 X1 X2 hb1 k0 k1 k2 k3 k4 k5 k6 k7 k8 k9 k10 k11 k12 k13 k14 k15 k16 k17 j0
  have e16 : 1 ≤ (8 : Nat) := by omega
  have N1 : w.heap.size + 5 < W0.heap.size := by omega
  refine wpIn_rangeFunc_ownH rfl e16 (gf := 46) (lb := #[.pointer (some ⟨w1.heap.size + 1 + 1, 0, none⟩), .pointer (some ⟨w1.heap.size + 1 + 1 + 1, 0, none⟩), .pointer (some ⟨w1.heap.size + 1 + 1 + 1 + 1, 0, none⟩)]) rfl trivial (enters_of Try.func46 (by kernel_rfl) rfl)
    (starts_stops 7 (by omega) w W0 A0 c0 l0 hl hs big (w1.heap.size + 1) hr0 X3.1 Y0 Y1 Y2 Y3) keepB_t (keepB_b (by omega) (by omega)) (Below.refl _ _) (fun _ => rfl)
    (fun pre W => ∃ m ll lc : Int, Boxes w (nextB A0 l0.length c0 p0 p1 m op 0 0 0 false 0 false) W ∧ Blk W w1.heap.size 24 #[.int .i64 ll, .int .i64 lc] ∧ W0.heap.size ≤ W.heap.size ∧ 1 ≤ m ∧ m ≤ a2 ∧ 0 ≤ ll ∧ ll < l0.length ∧
      ∀ rest, nextGo l0 p0 p1 op a2 p0 (pre.map Subtype.val ++ rest) = nextGo l0 p0 p1 op m ll rest)
    (fun c pre W => ∃ m v1 v2 v3 v4 v5 v6, c = .ret ∧ Boxes w (nextB A0 l0.length c0 p0 p1 m op v1 v2 v3 v4 v5 v6) W ∧
      ∀ rest, nextGo l0 p0 p1 op a2 p0 (pre.map Subtype.val ++ rest) = some (v1, v2, v3, v4, v5, v6))
    (fun pre W W' row ⟨m, ll, lc, h1, hL, h2, h3⟩ hg hr => ⟨m, ll, lc, h1.grown (by omega) hg hr, Blk.own (β := Unit) _ 24 (fun _ => #[.int .i64 ll, .int .i64 lc]) () _ _ row hL hg (fun r e => (hr r e).2), Nat.le_trans h2 hg.size, h3⟩)
    (fun c pre W W' row ⟨m, v1, v2, v3, v4, v5, v6, h0, h1, h2⟩ hg hr => ⟨m, v1, v2, v3, v4, v5, v6, h0, h1.grown (by omega) hg hr, h2⟩)
    ⟨a2, p0, p1, X3, YL, Nat.le_refl _, hn1, Int.le_refl _, (fails_in hf).1, (fails_in hf).2, fun rest => rfl⟩
    (fun x a' W => ∃ Bx, w1.heap.size < Bx ∧ Blk W Bx 24 #[.int .i64 x.1.f0, .int .i64 x.1.f1] ∧ a' = { tmps := #[.slice A0 l0.length c0, .agg #[.int .i64 p0, .int .i64 p1], .int .i64 a2, .bool big, .bool op, .pointer (some ⟨w.heap.size, 0, none⟩), .pointer (some ⟨w.heap.size + 1, 0, none⟩), .pointer (some ⟨w.heap.size + 1 + 1, 0, none⟩), undef, .pointer (some ⟨w.heap.size + 1 + 1 + 1, 0, none⟩), .pointer (some ⟨w.heap.size + 1 + 1 + 1 + 1, 0, none⟩), .pointer (some ⟨w.heap.size + 1 + 1 + 1 + 1 + 1, 0, none⟩), .pointer (some ⟨w1.heap.size, 0, none⟩), .pointer (some ⟨Bx, 0, none⟩), .slice A0 l0.length c0, .agg #[.int .i64 p0, .int .i64 p1], .int .i64 a2, .bool false, undef, .agg #[.int .i64 p0, .int .i64 p1], .slice A0 l0.length c0, .bool big, .func (.func 46) #[] #[.pointer (some ⟨w1.heap.size + 1 + 1, 0, none⟩), .pointer (some ⟨w1.heap.size + 1 + 1 + 1, 0, none⟩), .pointer (some ⟨w1.heap.size + 1 + 1 + 1 + 1, 0, none⟩)], .agg #[.int .i64 x.1.f0, .int .i64 x.1.f1], undef, undef, undef, undef, undef, undef, undef, undef, undef, undef, undef, undef, undef, undef, undef, undef, undef, undef, undef, undef, undef, undef, undef, undef, undef, undef, undef, undef, undef, undef, undef, undef, undef, undef, undef, undef, undef, undef, undef, undef], defers := [] })
    (fun x a' _ X Y row hs hg hr => by obtain ⟨Bx, h1, h2, h3⟩ := hs; exact ⟨Bx, h1, Blk.own (β := Unit) Bx 24 (fun _ => #[.int .i64 x.1.f0, .int .i64 x.1.f1]) () X Y row h2 hg (fun r e => (hr r e).2), h3⟩)
    ?assign ?body ?done ?stop
  case assign =>
    rintro l pre ⟨x, hx⟩ W K ⟨m, ll, lc, hB, hL, hsz, hm⟩ hK
    dsimp only [posV]
    gi_wp2
    have BA : Below W.heap.size W (W.alloc (.cells #[.int .i64 x.f0, .int .i64 x.f1] 24)) := (Below.refl _ W).alloc (Nat.le_refl _) _
    exact hK _ _ (keepsFrom_below BA) (keepB_of (by omega) (by omega) BA) ⟨m, ll, lc, hB.below BA, hL.below BA, by simp; omega, hm⟩ ⟨W.heap.size, by omega, Blk.new _ _ _, rfl⟩
  case body =>
    rintro l pre ⟨x, hx⟩ a' W hl' ⟨r, hr⟩ ⟨m, ll, lc, hB, hL, hsz, hm1, hm2, hl1, hl2, hgo⟩ ⟨Bx, hBx, bX, rfl⟩ hlt
    dsimp only at bX
    have d1 : 1 ≤ 8 - 1 - 1 := by omega
    have cx0 : W.cell? ⟨Bx, 0, none⟩ = some (.int .i64 x.f0) := (blk_cell bX 0).trans rfl
    have cx1 : W.cell? ⟨Bx, 1, none⟩ = some (.int .i64 x.f1) := (blk_cell bX 1).trans rfl
    have cp0 : W.cell? ⟨w.heap.size + 1, 0, none⟩ = some (.int .i64 p0) := (blk_cell (hB.2 1 _ _ rfl) 0).trans rfl
    have cp1 : W.cell? ⟨w.heap.size + 1, 1, none⟩ = some (.int .i64 p1) := (blk_cell (hB.2 1 _ _ rfl) 1).trans rfl
    obtain ⟨b, hbv⟩ : ∃ b, ltN p0 p1 x.f0 x.f1 = b := ⟨_, rfl⟩
    have HL := Aside0.mk (show span_Less.f p0 p1 x.f0 x.f1 = some b by rw [less_eqN, hbv])
    have HBX := Aside0.mk bX
    have HBB := Aside0.mk hB
    have HLL := Aside0.mk hL
    have HV := Aside0.mk hbv
    clear hbv
    obtain ⟨hx0, hx1⟩ := plc_in hx
    have hx0 : 0 ≤ x.f0 := hx0
    have hx1 : x.f0 < l0.length := hx1
    obtain ⟨e1, e2, e3, e4, e5, e6, hE⟩ := end_some l0 p0 p1 ll hl1 hl2
    have M : ∀ rest, (List.map Subtype.val (pre ++ [(⟨x, hx⟩ : {x : S24 // x ∈ startsL l0 big})])) ++ rest = List.map Subtype.val pre ++ (x :: rest) := fun rest => by simp
    cases b with
    | false =>
      gi_wp2_with (refine ⟨trivial, ?_⟩; gi_at_call 29; (with_reducible refine (CallsIn.inRound l (callsIn_wide.2 (span_Less.calls p0 p1 x.f0 x.f1 _ _ HL.out))).mono ?_); rintro e w3 ⟨rfl, hb3⟩)
      refine ⟨keepsFrom_below hb3, keepB_of (by omega) (by omega) hb3, m, ll, lc, hB.below hb3, hL.below hb3, Nat.le_trans hsz hb3.size, hm1, hm2, hl1, hl2, fun rest => ?_⟩
      rw [M, hgo, nextGo, if_pos HV.out]
    | true =>
      have nB : Bx ≠ w.heap.size + 1 + 1 := by omega
      cases op with
      | false =>
        gi_wp2_with (refine ⟨trivial, ?_⟩; gi_at_call 29; (with_reducible refine (CallsIn.inRound l (callsIn_wide.2 (span_Less.calls p0 p1 x.f0 x.f1 _ _ HL.out))).mono ?_); rintro e w3 ⟨rfl, hb3⟩; have cy0 : w3.cell? ⟨Bx, 0, none⟩ = some (.int .i64 x.f0) := (blk_cell (HBX.out.below hb3) 0).trans rfl; have cy1 : w3.cell? ⟨Bx, 1, none⟩ = some (.int .i64 x.f1) := (blk_cell (HBX.out.below hb3) 1).trans rfl; have cl0 : w3.cell? ⟨w1.heap.size, 0, none⟩ = some (.int .i64 ll) := (blk_cell (HLL.out.below hb3) 0).trans rfl; have cl1 : w3.cell? ⟨w1.heap.size, 1, none⟩ = some (.int .i64 lc) := (blk_cell (HLL.out.below hb3) 1).trans rfl; have fl0 : w3.frozen? ⟨w1.heap.size, 0, none⟩ = false := blk_frozen (HLL.out.below hb3) 0; have fl1 : w3.frozen? ⟨w1.heap.size, 1, none⟩ = false := blk_frozen (HLL.out.below hb3) 1; obtain ⟨k0, k1, k2, k3, k4, k5, k6, k7, k8, k9, k10, k11, k12, k13, k14, k15, k16, k17⟩ := next_facts (HBB.out.below hb3))
        all_goals have X := HBB.out.below hb3
        all_goals have L3 := HLL.out.below hb3
        · rename_i hm
          refine ⟨keepsFrom_set (keepsFrom_set (keepsFrom_set (keepsFrom_below hb3) _ _) _ _) _ _, keepB_set (keepB_set (keepB_set (keepB_of (by omega) (by omega) hb3) (by omega) (by omega) _) (by omega) (by omega) _) (by omega) (by omega) _, m - 1, x.f0, x.f1, ((next_cont (m - 1) X).far (by show w.heap.size + 6 ≤ w1.heap.size; omega) 0 _).far (by show w.heap.size + 6 ≤ w1.heap.size; omega) 1 _, blk_set (blk_set (blk_far L3 (by show w1.heap.size ≠ w.heap.size + 1 + 1; omega) _) 0 _) 1 _, by simp; exact Nat.le_trans hsz hb3.size, by omega, by omega, hx0, hx1, fun rest => ?_⟩
          rw [M, hgo, nextGo, if_neg (by rw [HV.out]; simp), if_pos (by omega)]
        · rename_i hm
          refine ⟨keepsFrom_resN (keepsFrom_set (keepsFrom_below hb3) _ _) _ _ _ _ _ _ _ _ _ _ _ _, m - 1, _, _, 0, false, -1, true, rfl, next_res _ _ _ _ _ _ (next_cont _ X), fun rest => ?_⟩
          rw [M, hgo, nextGo, if_neg (by rw [HV.out]; simp), if_neg (by omega), if_neg (by simp)]
      | true =>
        gi_wp2_with (first
          | (refine ⟨trivial, ?_⟩; gi_at_call 29; (with_reducible refine (CallsIn.inRound l (callsIn_wide.2 (span_Less.calls p0 p1 x.f0 x.f1 _ _ HL.out))).mono ?_); rintro e w3 ⟨rfl, hb3⟩; have cy0 : w3.cell? ⟨Bx, 0, none⟩ = some (.int .i64 x.f0) := (blk_cell (HBX.out.below hb3) 0).trans rfl; have cy1 : w3.cell? ⟨Bx, 1, none⟩ = some (.int .i64 x.f1) := (blk_cell (HBX.out.below hb3) 1).trans rfl; have cl0 : w3.cell? ⟨w1.heap.size, 0, none⟩ = some (.int .i64 ll) := (blk_cell (HLL.out.below hb3) 0).trans rfl; have cl1 : w3.cell? ⟨w1.heap.size, 1, none⟩ = some (.int .i64 lc) := (blk_cell (HLL.out.below hb3) 1).trans rfl; have fl0 : w3.frozen? ⟨w1.heap.size, 0, none⟩ = false := blk_frozen (HLL.out.below hb3) 0; have fl1 : w3.frozen? ⟨w1.heap.size, 1, none⟩ = false := blk_frozen (HLL.out.below hb3) 1; obtain ⟨k0, k1, k2, k3, k4, k5, k6, k7, k8, k9, k10, k11, k12, k13, k14, k15, k16, k17⟩ := next_facts (HBB.out.below hb3))
          | (refine ⟨trivial, ?_⟩; gi_at_call 30; have hCC := Kd.C_below hr0 (next_cont (m - 1) (HBB.out.below hb3)).1; (with_reducible refine (CallsIn.inRound l (callsIn_wide.2 (words_end.calls A0 c0 l0 p0 p1 ll e1 e2 e3 e4 e5 e6 _ hCC hc0 hE))).mono ?_); rintro e w4 ⟨rfl, hb4⟩; obtain ⟨q0, q1, q2, q3, q4, q5, q6, q7, q8, q9, q10, q11, q12, q13, q14, q15, q16, q17⟩ := next_facts ((next_cont (m - 1) (HBB.out.below hb3)).below hb4)))
        all_goals have X := HBB.out.below hb3
        all_goals have L3 := HLL.out.below hb3
        · refine ⟨keepsFrom_set (keepsFrom_set (keepsFrom_set (keepsFrom_below hb3) _ _) _ _) _ _, keepB_set (keepB_set (keepB_set (keepB_of (by omega) (by omega) hb3) (by omega) (by omega) _) (by omega) (by omega) _) (by omega) (by omega) _, m - 1, x.f0, x.f1, ((next_cont (m - 1) X).far (by show w.heap.size + 6 ≤ w1.heap.size; omega) 0 _).far (by show w.heap.size + 6 ≤ w1.heap.size; omega) 1 _, blk_set (blk_set (blk_far L3 (by show w1.heap.size ≠ w.heap.size + 1 + 1; omega) _) 0 _) 1 _, by simp; exact Nat.le_trans hsz hb3.size, by omega, by omega, hx0, hx1, fun rest => ?_⟩
          rw [M, hgo, nextGo, if_neg (by rw [HV.out]; simp), if_pos (by omega)]
        · refine ⟨keepsFrom_resN ((keepsFrom_set (keepsFrom_below hb3) _ _).trans (keepsFrom_below hb4)) _ _ _ _ _ _ _ _ _ _ _ _, m - 1, _, _, _, _, _, _, rfl, next_res _ _ _ _ _ _ ((next_cont _ X).below hb4), fun rest => ?_⟩
          rw [M, hgo, nextGo, if_neg (by rw [HV.out]; simp), if_neg (by omega), if_pos ⟨rfl, by omega⟩, hE]
        · refine ⟨keepsFrom_resN (keepsFrom_set (keepsFrom_below hb3) _ _) _ _ _ _ _ _ _ _ _ _ _ _, m - 1, _, _, 0, false, -1, true, rfl, next_res _ _ _ _ _ _ (next_cont _ X), fun rest => ?_⟩
          rw [M, hgo, nextGo, if_neg (by rw [HV.out]; simp), if_neg (by omega), if_neg (by omega)]
  case done =>
    rintro D ys W hD hys ⟨m, ll, lc, hB, hL, hsz, hm1, hm2, hl1, hl2, hgo⟩ hK
    have hg := hgo []
    rw [hys, List.append_nil, h, nextGo] at hg
    obtain ⟨k0, k1, k2, k3, k4, k5, k6, k7, k8, k9, k10, k11, k12, k13, k14, k15, k16, k17⟩ := next_facts hB
    have HBB := Aside0.mk hB
    clear hB
    have endz : ∀ (v1 v2 v3 : Int) (v4 : Bool) (v5 : Int) (v6 : Bool) (X : World), Boxes w (nextB A0 l0.length c0 p0 p1 m op v1 v2 v3 v4 v5 v6) X → X.heap[D]? = some (.deferred (some [])) → Boxes w (nextB A0 l0.length c0 p0 p1 m op v1 v2 v3 v4 v5 v6) (X.putObj D (.deferred none)) := fun v1 v2 v3 v4 v5 v6 X hX hk =>
      hX.grown (B := W0.heap.size) (by omega) (grownBy_putObj' _ D (.deferred none)) (fun r e => by cases e; exact ⟨hD, _, hk, rfl⟩)
    have keepz : ∀ (X : World) (u1 u2 u3 u4 u5 u6 : Value), X.heap[D]? = some (.deferred (some [])) → (((((((X.setCell ⟨w.heap.size + 1 + 1 + 1 + 1, 0, none⟩ u1).setCell ⟨w.heap.size + 1 + 1 + 1 + 1, 1, none⟩ u2).setCell ⟨w.heap.size + 1 + 1 + 1 + 1, 2, none⟩ u3).setCell ⟨w.heap.size + 1 + 1 + 1 + 1, 3, none⟩ u4).setCell ⟨w.heap.size + 1 + 1 + 1 + 1, 4, none⟩ u5).setCell ⟨w.heap.size + 1 + 1 + 1 + 1 + 1, 0, none⟩ u6)).heap[D]? = some (.deferred (some [])) := by
      intro X u1 u2 u3 u4 u5 u6 hk
      rw [Below.heap_setCell _ _ _ _ (by show D ≠ w.heap.size + 1 + 1 + 1 + 1 + 1; omega), Below.heap_setCell _ _ _ _ (by show D ≠ w.heap.size + 1 + 1 + 1 + 1; omega), Below.heap_setCell _ _ _ _ (by show D ≠ w.heap.size + 1 + 1 + 1 + 1; omega), Below.heap_setCell _ _ _ _ (by show D ≠ w.heap.size + 1 + 1 + 1 + 1; omega), Below.heap_setCell _ _ _ _ (by show D ≠ w.heap.size + 1 + 1 + 1 + 1; omega), Below.heap_setCell _ _ _ _ (by show D ≠ w.heap.size + 1 + 1 + 1 + 1; omega)]
      exact hk
    have hDW : D < W.heap.size := (Array.getElem?_eq_some_iff.1 hK).1
    obtain ⟨f0, f1⟩ := fails_in hf
    obtain ⟨e1, e2, e3, e4, e5, e6, hE⟩ := end_some l0 p0 p1 ((l0.length : Int) - 1) (by omega) (by omega)
    gi_wp2_with (refine ⟨trivial, ?_⟩; gi_at_call 30; have hCC := Kd.C_below hr0 HBB.out.1; (with_reducible refine (callsIn_wide.2 (words_end.calls A0 c0 l0 p0 p1 ((l0.length : Int) - 1) e1 e2 e3 e4 e5 e6 _ hCC hc0 hE)).mono ?_); rintro e w4 ⟨rfl, hb4⟩; obtain ⟨q0, q1, q2, q3, q4, q5, q6, q7, q8, q9, q10, q11, q12, q13, q14, q15, q16, q17⟩ := next_facts (HBB.out.below hb4))
    · rename_i ho hm
      rw [if_pos ⟨ho, by simpa using hm⟩, hE] at hg
      injection hg with hg
      injection hg with g1 hg; injection hg with g2 hg; injection hg with g3 hg; injection hg with g4 hg; injection hg with g5 g6
      subst g1 g2 g3 g4 g5 g6
      have hK4 : w4.heap[D]? = some (.deferred (some [])) := (hb4.block D hDW).trans hK
      have hK' := keepz w4 (.int .i64 r1) (.int .i64 r2) (.int .i64 r3) (.bool r4) (.int .i64 r5) (.bool r6) hK4
      refine ⟨by simp, .inl ⟨_, _, rfl, run_takeDeferred hK', ?_⟩⟩
      have HE := endz _ _ _ _ _ _ _ (next_res r1 r2 r3 r4 r5 r6 (HBB.out.below hb4)) hK'
      obtain ⟨j0, j1, j2, j3, j4, j5, j6, j7, j8, j9, j10, j11, j12, j13, j14, j15, j16, j17⟩ := next_facts HE
      refine ⟨_, ?_, rfl, HE.1⟩
      simp [results, Try.f11, go_sem, j5, j6, j7, j8, j9, j10]
    all_goals
      rw [if_neg (by rintro ⟨ho, rfl⟩; simp_all)] at hg
      injection hg with hg
      injection hg with g1 hg; injection hg with g2 hg; injection hg with g3 hg; injection hg with g4 hg; injection hg with g5 g6
      subst g1 g2 g3 g4 g5 g6
      have hK' := keepz W (.int .i64 0) (.int .i64 0) (.int .i64 0) (.bool false) (.int .i64 0) (.bool false) hK
      refine ⟨by simp, .inl ⟨_, _, rfl, run_takeDeferred hK', ?_⟩⟩
      have HE := endz _ _ _ _ _ _ _ (next_res 0 0 0 false 0 false HBB.out) hK'
      obtain ⟨j0, j1, j2, j3, j4, j5, j6, j7, j8, j9, j10, j11, j12, j13, j14, j15, j16, j17⟩ := next_facts HE
      refine ⟨_, ?_, rfl, HE.1⟩
      simp [results, Try.f11, go_sem, j5, j6, j7, j8, j9, j10]
  case stop =>
    rintro D c pre W hD hp ⟨m, v1, v2, v3, v4, v5, v6, rfl, hB, hgo⟩ hK
    obtain ⟨rest, hr⟩ := hp
    have hg := hgo rest
    rw [hr, h] at hg
    injection hg with hg
    injection hg with g1 hg; injection hg with g2 hg; injection hg with g3 hg; injection hg with g4 hg; injection hg with g5 g6
    subst g1 g2 g3 g4 g5 g6
    gi_wp2
    refine ⟨by simp, .inl ⟨_, _, rfl, run_takeDeferred hK, ?_⟩⟩
    have HE := hB.grown (B := W0.heap.size) (by omega) (grownBy_putObj' _ D (.deferred none)) (fun r e => by cases e; exact ⟨hD, _, hK, rfl⟩)
    obtain ⟨j0, j1, j2, j3, j4, j5, j6, j7, j8, j9, j10, j11, j12, j13, j14, j15, j16, j17⟩ := next_facts HE
    refine ⟨_, ?_, rfl, HE.1⟩
    simp [results, Try.f11, go_sem, j5, j6, j7, j8, j9, j10]

set_option maxHeartbeats 4000000 in
set_option maxRecDepth 100000 in
theorem next_fail (A0 : Option Addr) (c0 : Nat) (l0 : List ByteArray) (p0 p1 a2 : Int) (big op : Bool) (w : World) (hr0 : Kd.C Kd.string w A0 l0.length l0) (hc0 : l0.length ≤ c0) (hf : words_fails.f l0 p0 p1 a2 = some true) :
    Calls Try.prog 11 #[.slice A0 l0.length c0, .agg #[.int .i64 p0, .int .i64 p1], .int .i64 a2, .bool big, .bool op] w fun e w' => e = .returned (.tuple #[.agg #[.int .i64 0, .int .i64 0, .int .i64 0, .bool false, .int .i64 0], .bool false]) ∧ Below w.heap.size w w' := by
  refine (callsIn_wide (n := 3)).1 (callsIn_of_wp Try.func11 rfl trivial ?_ rfl)
  simp only [Try.ntmps11, List.size_toArray, List.length_cons, List.length_nil, Nat.reduceAdd, Nat.reduceSub, Array.replicate_succ, Array.replicate_zero, List.push_toArray, List.append_toArray, List.nil_append, List.cons_append]
  have X0 := (((((((Boxes.nil w).push (by simp) 22 #[.slice A0 l0.length c0]).push (by simp) 24 #[.int .i64 p0, .int .i64 p1]).push (by simp) 3 #[.int .i64 a2]).push (by simp) 4 #[.bool op]).push (by simp) 32 #[.int .i64 0, .int .i64 0, .int .i64 0, .bool false, .int .i64 0]).push (by simp) 4 #[.bool false])
  simp only [List.nil_append, List.cons_append] at X0
  gi_wp2_with (refine ⟨trivial, ?_⟩; gi_at_call 28; (with_reducible refine (callsIn_wide.2 (words_fails.calls A0 c0 l0 p0 p1 a2 true _ (by repeat (first | exact hr0 | (with_reducible refine Kd.C_alloc ?_ _))) hc0 hf)).mono ?_); rintro e w1 ⟨rfl, hb1⟩; obtain ⟨k0, k1, k2, k3, k4, k5, k6, k7, k8, k9, k10, k11, k12, k13, k14, k15, k16, k17⟩ := next_facts (X0.below hb1))
  have HE := next_res 0 0 0 false 0 false (X0.below hb1)
  obtain ⟨j0, j1, j2, j3, j4, j5, j6, j7, j8, j9, j10, j11, j12, j13, j14, j15, j16, j17⟩ := next_facts HE
  refine ⟨rfl, _, ?_, rfl, HE.1⟩
  simp [results, Try.f11, go_sem, j5, j6, j7, j8, j9, j10]

end Go.Proofs.Ytifkfjpkngdhmaa.Pure
namespace Go.Proofs.Ytifkfjpkngdhmaa.Pure
open Go.RowKit Go.Shelf Go.Proofs.Ytifkfjpkngdhmaa.V Go.Proofs.YtifkfjpkngdhmaaW.PrintWords Go.Proofs.YtifkfjpkngdhmaaW.PrintLast Go.Proofs.YtifkfjpkngdhmaaW.PrintMore
set_option linter.unusedVariables false
set_option linter.unusedSimpArgs false
attribute [local go_sem] Oper.semAt_some

/-- the places ahead of (p0, p1) with which L begins. -/
def aheadL (p0 p1 : Int) (L : List S24) : List S24 := L.takeWhile fun x => ltN x.f0 x.f1 p0 p1
/-- what back answers. -/
def backGo (p0 p1 n : Int) (L : List S24) : Int × Int × Bool :=
  if n > ((aheadL p0 p1 L).length : Int) then (0, 0, false) else (((aheadL p0 p1 L).getD ((aheadL p0 p1 L).length - n).toNat ⟨0, 0⟩).f0, ((aheadL p0 p1 L).getD ((aheadL p0 p1 L).length - n).toNat ⟨0, 0⟩).f1, true)
/-- the cells of a row of places. -/
def posC : List S24 → List Value
  | [] => []
  | x :: r => .int .i64 x.f0 :: .int .i64 x.f1 :: posC r
theorem posC_len : ∀ l : List S24, (posC l).length = l.length * 2
  | [] => rfl
  | x :: r => by rw [posC, List.length_cons, List.length_cons, posC_len r, List.length_cons]; omega
theorem posC_snoc : ∀ (l : List S24) (x : S24), posC (l ++ [x]) = posC l ++ [.int .i64 x.f0, .int .i64 x.f1]
  | [], x => rfl
  | y :: r, x => by rw [List.cons_append, posC, posC, posC_snoc r x]; rfl
theorem posC_0 : ∀ (l : List S24) (i : Nat), i < l.length → (posC l)[i * 2]? = some (.int .i64 (l.getD i ⟨0, 0⟩).f0)
  | x :: r, 0, _ => rfl
  | x :: r, i + 1, h => by
    have := posC_0 r i (by simpa using h)
    rw [posC, show (i + 1) * 2 = i * 2 + 1 + 1 by omega, List.getElem?_cons_succ, List.getElem?_cons_succ, this]
    simp
theorem posC_1 : ∀ (l : List S24) (i : Nat), i < l.length → (posC l)[i * 2 + 1]? = some (.int .i64 (l.getD i ⟨0, 0⟩).f1)
  | x :: r, 0, _ => rfl
  | x :: r, i + 1, h => by
    have := posC_1 r i (by simpa using h)
    rw [posC, show (i + 1) * 2 + 1 = i * 2 + 1 + 1 + 1 by omega, List.getElem?_cons_succ, List.getElem?_cons_succ, this]
    simp
theorem ahead_all {p0 p1 : Int} : ∀ {L : List S24}, (∀ x ∈ L, ltN x.f0 x.f1 p0 p1 = true) → aheadL p0 p1 L = L
  | [], _ => rfl
  | x :: r, h => by
    have := ahead_all (p0 := p0) (p1 := p1) (L := r) (fun y hy => h y (by simp [hy]))
    unfold aheadL at this ⊢
    rw [List.takeWhile_cons, if_pos (h x (by simp)), this]
theorem ahead_stop {p0 p1 : Int} {x : S24} (hx : ltN x.f0 x.f1 p0 p1 = false) (rest : List S24) : ∀ {pre : List S24}, (∀ x ∈ pre, ltN x.f0 x.f1 p0 p1 = true) → aheadL p0 p1 (pre ++ x :: rest) = pre
  | [], _ => by unfold aheadL; rw [List.nil_append, List.takeWhile_cons, if_neg (by rw [hx]; simp)]
  | y :: r, h => by
    have := ahead_stop hx rest (pre := r) (fun z hz => h z (by simp [hz]))
    unfold aheadL at this ⊢
    rw [List.cons_append, List.takeWhile_cons, if_pos (h y (by simp)), this]

theorem two_cells (W : World) (t : TypeId) (u v : Value) : ∀ j z, [u, v][j]? = some z → (W.alloc (.cells #[u, v] t)).cell? ((⟨W.heap.size, 0, none⟩ : Addr).add j) = some z := by
  intro j z hj
  have := blk_cell (Blk.new W t #[u, v]) j
  rw [show (⟨W.heap.size, 0, none⟩ : Addr).add j = ⟨W.heap.size, j, none⟩ by cases j <;> simp [Addr.add], this]
  simpa using hj

/-- the state of back. -/
structure BackS (w W : World) (p0 p1 : Int) (u0 u1 : Int) (v : Value) (l : List S24) : Prop where
  below : Below w.heap.size w W
  p : Blk W w.heap.size 24 #[.int .i64 p0, .int .i64 p1]
  res : Blk W (w.heap.size + 1) 24 #[.int .i64 u0, .int .i64 u1]
  box : Boxed W (w.heap.size + 1 + 1) 29 v
  row : W.ownsRow (w.heap.size + 1 + 1) 24 2 v l.length (posC l)

theorem BackS.grown {w W W' : World} {p0 p1 u0 u1 : Int} {v : Value} {l : List S24} {row : Option Nat} {B : Nat} (h : BackS w W p0 p1 u0 u1 v l) (hB : w.heap.size ≤ B) (hg : W.grownBy W' row) (hr : ∀ r, row = some r → B ≤ r ∧ ∃ o : Obj, W.heap[r]? = some o ∧ o.isCells = false) : BackS w W' p0 p1 u0 u1 v l where
  below := h.below.grown hg h.below.size (fun k e => Nat.le_trans hB (hr k e).1)
  p := Blk.own (β := Unit) _ 24 (fun _ => _) () W W' row h.p hg (fun r e => (hr r e).2)
  res := Blk.own (β := Unit) _ 24 (fun _ => _) () W W' row h.res hg (fun r e => (hr r e).2)
  box := h.box.kept hg (fun e' => by obtain ⟨o, ho, hc⟩ := (hr _ e'.symm).2; rw [show W.heap[w.heap.size + 1 + 1]? = _ from h.box] at ho; cases ho; cases hc)
  row := h.row.kept hg (by
    rcases h.row.2 with ⟨rfl, _⟩ | ⟨g, cap, cur, rfl, _, hgb, _⟩
    · exact .inl rfl
    · refine .inr fun e' => ?_
      obtain ⟨o, ho, hc⟩ := (hr g (by simpa [Value.ownBlock] using e'.symm)).2
      rw [hgb] at ho; cases ho; cases hc)
theorem BackS.below' {w W W' : World} {p0 p1 u0 u1 : Int} {v : Value} {l : List S24} (h : BackS w W p0 p1 u0 u1 v l) (hb : Below W.heap.size W W') : BackS w W' p0 p1 u0 u1 v l where
  below := h.below.trans (hb.mono h.below.size)
  p := h.p.below hb
  res := h.res.below hb
  box := (hb.block _ h.box.lt).trans h.box
  row := by
    refine ⟨h.row.1, ?_⟩
    rcases h.row.2 with hn | ⟨g, cap, cur, e, hb', hgb, rest⟩
    · exact .inl hn
    · exact .inr ⟨g, cap, cur, e, hb', (hb.block g (Array.getElem?_eq_some_iff.1 hgb).1).trans hgb, rest⟩

theorem back_end {w W : World} {D : Nat} {t0 t1 : Value} (u0 u1 : Value) (hB : Below w.heap.size w W) (hres : Blk W (w.heap.size + 1) 24 #[t0, t1]) (hD : w.heap.size + 2 ≤ D) (hK : W.heap[D]? = some (.deferred (some []))) :
    ((W.setCell ⟨w.heap.size + 1, 0, none⟩ u0).setCell ⟨w.heap.size + 1, 1, none⟩ u1).heap[D]? = some (.deferred (some [])) ∧
    (((W.setCell ⟨w.heap.size + 1, 0, none⟩ u0).setCell ⟨w.heap.size + 1, 1, none⟩ u1).putObj D (.deferred none)).cell? ⟨w.heap.size + 1, 0, none⟩ = some u0 ∧
    (((W.setCell ⟨w.heap.size + 1, 0, none⟩ u0).setCell ⟨w.heap.size + 1, 1, none⟩ u1).putObj D (.deferred none)).cell? ⟨w.heap.size + 1, 1, none⟩ = some u1 ∧
    Below w.heap.size w (((W.setCell ⟨w.heap.size + 1, 0, none⟩ u0).setCell ⟨w.heap.size + 1, 1, none⟩ u1).putObj D (.deferred none)) := by
  have hk : ((W.setCell ⟨w.heap.size + 1, 0, none⟩ u0).setCell ⟨w.heap.size + 1, 1, none⟩ u1).heap[D]? = some (.deferred (some [])) := by
    rw [Below.heap_setCell _ _ _ _ (by show D ≠ w.heap.size + 1; omega), Below.heap_setCell _ _ _ _ (by show D ≠ w.heap.size + 1; omega)]
    exact hK
  have hb2 : Blk ((W.setCell ⟨w.heap.size + 1, 0, none⟩ u0).setCell ⟨w.heap.size + 1, 1, none⟩ u1) (w.heap.size + 1) 24 #[u0, u1] := blk_set (blk_set hres 0 _) 1 _
  have hb3 : Blk (((W.setCell ⟨w.heap.size + 1, 0, none⟩ u0).setCell ⟨w.heap.size + 1, 1, none⟩ u1).putObj D (.deferred none)) (w.heap.size + 1) 24 #[u0, u1] := (World.putObj_heap_other (by omega)).trans hb2
  have hBB : Below w.heap.size w ((W.setCell ⟨w.heap.size + 1, 0, none⟩ u0).setCell ⟨w.heap.size + 1, 1, none⟩ u1) := (hB.setCell (p := ⟨w.heap.size + 1, 0, none⟩) (by show w.heap.size ≤ w.heap.size + 1; omega) u0).setCell (p := ⟨w.heap.size + 1, 1, none⟩) (by show w.heap.size ≤ w.heap.size + 1; omega) u1
  exact ⟨hk, (blk_cell hb3 0).trans rfl, (blk_cell hb3 1).trans rfl, hBB.trans (belowK_b (w := w) (Nat.le_refl _) _ D _ _ (by omega) hk rfl rfl)⟩
theorem row_cell {cur : Array Value} {xs : List Value} {k i : Nat} (h : cur.toList.take k = xs) (hi : i < k) : cur[i]? = xs[i]? := by
  rw [← h, List.getElem?_take, if_pos hi, Array.getElem?_toList]

set_option maxHeartbeats 4000000 in
set_option maxRecDepth 100000 in
theorem back_walk (p0 p1 n : Int) (L : List S24) (a : Nat) (lb : Array Value) (w : World) (ha : a + 4 ≤ w.heap.size) (hL : L.length ≤ 50000) (hn1 : 1 ≤ n) (hn2 : n ≤ 9223372036854775807)
    (hseq : ∀ W0, Below w.heap.size w W0 → SeqStopsK Fence.wide 7 Try.prog 46 lb (fun x : {x // x ∈ L} => posV x.1) (KeepB w.heap.size a) (fun ys => ys.map Subtype.val = L) (fun pre => pre.map Subtype.val <+: L) L.length W0) (r1 r2 : Int) (r3 : Bool) (h : backGo p0 p1 n L = (r1, r2, r3)) :
    Calls Try.prog 37 #[.func (.func 46) #[] lb, .agg #[.int .i64 p0, .int .i64 p1], .int .i64 n] w fun e w' => e = .returned (.tuple #[.agg #[.int .i64 r1, .int .i64 r2], .bool r3]) ∧ Below w.heap.size w w' := by
  obtain ⟨i0, hi, hz0, hz1, hz2⟩ := info_parts info24
  refine (callsIn_wide (n := 8)).1 (callsIn_of_wp_marks Try.func37 rfl trivial ?_ rfl)
  simp only [Try.ntmps37, List.size_toArray, List.length_cons, List.length_nil, Nat.reduceAdd, Nat.reduceSub, Array.replicate_succ, Array.replicate_zero, List.push_toArray, List.append_toArray, List.nil_append, List.cons_append]
  have X0 := ((((Boxes.nil w).push (by simp) 24 #[.int .i64 p0, .int .i64 p1]).push (by simp) 24 #[.int .i64 0, .int .i64 0]).push (by simp) 29 #[.slice none 0 0])
  simp only [List.nil_append, List.cons_append] at X0
  gi_wp2
  have S0 : BackS w (((w.alloc (.cells #[.int .i64 p0, .int .i64 p1] 24)).alloc (.cells #[.int .i64 0, .int .i64 0] 24)).alloc (.cells #[.slice none 0 0] 29)) p0 p1 0 0 (.slice none 0 0) [] := ⟨X0.1, X0.2 0 _ _ rfl, X0.2 1 _ _ rfl, X0.2 2 _ _ rfl, World.ownsRow_nil _ _ _ _⟩
  have Z : (((w.alloc (.cells #[.int .i64 p0, .int .i64 p1] 24)).alloc (.cells #[.int .i64 0, .int .i64 0] 24)).alloc (.cells #[.slice none 0 0] 29)).heap.size = w.heap.size + 3 := by simp
  obtain ⟨W0, hW0⟩ : ∃ W0, (((w.alloc (.cells #[.int .i64 p0, .int .i64 p1] 24)).alloc (.cells #[.int .i64 0, .int .i64 0] 24)).alloc (.cells #[.slice none 0 0] 29)) = W0 := ⟨_, rfl⟩
  rw [hW0] at S0 Z ⊢
  clear hW0 X0
  have e16 : 1 ≤ (8 : Nat) := by omega
  refine wpIn_rangeFunc_ownH rfl e16 (gf := 46) (lb := lb) rfl trivial (enters_of Try.func46 (by kernel_rfl) rfl)
    (hseq W0 S0.below) keepB_t (keepB_b (by omega) (by omega)) (Below.refl _ _) (fun _ => rfl)
    (fun pre W => ∃ v, BackS w W p0 p1 0 0 v (pre.map Subtype.val) ∧ W0.heap.size ≤ W.heap.size ∧ ∀ x ∈ pre.map Subtype.val, ltN x.f0 x.f1 p0 p1 = true)
    (fun c pre W => ∃ v pre' x, c = .exit 0 ∧ pre.map Subtype.val = pre' ++ [x] ∧ BackS w W p0 p1 0 0 v pre' ∧ (∀ x ∈ pre', ltN x.f0 x.f1 p0 p1 = true) ∧ ltN x.f0 x.f1 p0 p1 = false)
    (fun pre W W' row ⟨v, h1, h2, h3⟩ hg hr => ⟨v, h1.grown (by omega) hg hr, Nat.le_trans h2 hg.size, h3⟩)
    (fun c pre W W' row ⟨v, pre', x, h0, h1, h2, h3⟩ hg hr => ⟨v, pre', x, h0, h1, h2.grown (by omega) hg hr, h3⟩)
    ⟨_, S0, Nat.le_refl _, by simp⟩
    (fun x a' W => ∃ Bx, w.heap.size + 1 + 1 < Bx ∧ Blk W Bx 24 #[.int .i64 x.1.f0, .int .i64 x.1.f1] ∧ a' = { tmps := #[.func (.func 46) #[] lb, .agg #[.int .i64 p0, .int .i64 p1], .int .i64 n, undef, .pointer (some ⟨w.heap.size, 0, none⟩), undef, .pointer (some ⟨w.heap.size + 1, 0, none⟩), .bool false, .pointer (some ⟨w.heap.size + 1 + 1, 0, none⟩), .pointer (some ⟨Bx, 0, none⟩), .func (.func 46) #[] lb, .agg #[.int .i64 x.1.f0, .int .i64 x.1.f1], undef, undef, undef, undef, undef, undef, undef, undef, undef, undef, undef, undef, undef, undef, undef, undef, undef, undef, undef, undef], defers := [] })
    (fun x a' _ X Y row hs hg hr => by obtain ⟨Bx, h1, h2, h3⟩ := hs; exact ⟨Bx, h1, Blk.own (β := Unit) Bx 24 (fun _ => #[.int .i64 x.1.f0, .int .i64 x.1.f1]) () X Y row h2 hg (fun r e => (hr r e).2), h3⟩)
    ?assign ?body ?done ?stop
  case assign =>
    rintro l pre ⟨x, hx⟩ W K ⟨v, hS, hsz, hlt⟩ hK
    dsimp only [posV]
    gi_wp2
    have BA : Below W.heap.size W (W.alloc (.cells #[.int .i64 x.f0, .int .i64 x.f1] 24)) := (Below.refl _ W).alloc (Nat.le_refl _) _
    exact hK _ _ (keepsFrom_below BA) (keepB_of (by omega) (by omega) BA) ⟨v, hS.below' BA, by simp; omega, hlt⟩ ⟨W.heap.size, by omega, Blk.new _ _ _, rfl⟩
  case body =>
    rintro l pre ⟨x, hx⟩ a' W hl' ⟨r, hr⟩ ⟨v, hS, hsz, hlt⟩ ⟨Bx, hBx, bX, rfl⟩ hlen
    dsimp only at bX
    have d1 : 1 ≤ 8 - 1 - 1 := by omega
    have cx0 : W.cell? ⟨Bx, 0, none⟩ = some (.int .i64 x.f0) := (blk_cell bX 0).trans rfl
    have cx1 : W.cell? ⟨Bx, 1, none⟩ = some (.int .i64 x.f1) := (blk_cell bX 1).trans rfl
    have cp0 : W.cell? ⟨w.heap.size, 0, none⟩ = some (.int .i64 p0) := (blk_cell hS.p 0).trans rfl
    have cp1 : W.cell? ⟨w.heap.size, 1, none⟩ = some (.int .i64 p1) := (blk_cell hS.p 1).trans rfl
    obtain ⟨b, hbv⟩ : ∃ b, ltN x.f0 x.f1 p0 p1 = b := ⟨_, rfl⟩
    have HL := Aside0.mk (show span_Less.f x.f0 x.f1 p0 p1 = some b by rw [less_eqN, hbv])
    have HBX := Aside0.mk bX
    have HSS := Aside0.mk hS
    have HV := Aside0.mk hbv
    clear hbv
    have b1 : (pre.map Subtype.val).length + 1 ≤ maxLen := by rw [List.length_map]; have : (50001 : Nat) ≤ maxLen := by decide +kernel
                                                              omega
    have b2 : ((pre.map Subtype.val).length + 1) * 16 ≤ 140737488355328 := by rw [List.length_map]; omega
    cases b with
    | false =>
      gi_wp2_with (refine ⟨trivial, ?_⟩; gi_at_call 29; (with_reducible refine (CallsIn.inRound l (callsIn_wide.2 (span_Less.calls x.f0 x.f1 p0 p1 _ _ HL.out))).mono ?_); rintro e w3 ⟨rfl, hb3⟩)
      exact ⟨keepsFrom_below hb3, v, pre.map Subtype.val, x, rfl, by simp, hS.below' hb3, hlt, HV.out⟩
    | true =>
      gi_wp2_with (first
        | (refine ⟨trivial, ?_⟩; gi_at_call 29; (with_reducible refine (CallsIn.inRound l (callsIn_wide.2 (span_Less.calls x.f0 x.f1 p0 p1 _ _ HL.out))).mono ?_); rintro e w3 ⟨rfl, hb3⟩; have cy0 : w3.cell? ⟨Bx, 0, none⟩ = some (.int .i64 x.f0) := (blk_cell (HBX.out.below hb3) 0).trans rfl; have cy1 : w3.cell? ⟨Bx, 1, none⟩ = some (.int .i64 x.f1) := (blk_cell (HBX.out.below hb3) 1).trans rfl; have S3 := HSS.out.below' hb3; have hv := S3.box; have hc := hv.cell; have hrow := S3.row; have hsz3 := hb3.size)
        | (gi_at_builtin; refine wpListIn_append_own _ rfl _ _ 29 rfl (w.heap.size + 1 + 1) 24 i0 (.agg #[.int .i64 0, .int .i64 0]) 2 16 Try.underlying29 hi hz0 hz1 hz2 rfl (by decide) _ _ _ rfl (hrow.alloc _) ⟨w3.heap.size, 0, none⟩ 1 1 [.int .i64 x.f0, .int .i64 x.f1] rfl rfl (two_cells _ _ _ _) (by simp [Value.oneCell']) b1 b2 (by simp; omega) ?_; intro v' w1 hown' hgrow _; obtain ⟨g', cap', rfl⟩ := ownsRow_succ hown'; obtain ⟨hv1, hv2, hr2, hk2, hb2⟩ := hv.appended (by decide) hrow (by omega) (Nat.le_refl _) hown' hgrow; have hc1 := hv1.cell; have hf1 := hv1.frozen))
      simp only [List.length_map] at hv2 hr2 hk2 hb2
      have ex : List.map Subtype.val (pre ++ [(⟨x, hx⟩ : {x : S24 // x ∈ L})]) = pre.map Subtype.val ++ [x] := by simp
      refine ⟨(keepsFrom_below hb3).trans (hk2.from _), ⟨(hb3.mono (by omega)).trans (hb2.mono (by omega)), fun k _ hk => (hb2.block k (by omega)).trans (hb3.block k (by omega))⟩, _, ⟨S3.below.trans (hb2.mono (by omega)), (hb2.block _ (by omega)).trans S3.p, (hb2.block _ (by omega)).trans S3.res, hv2, ?_⟩, Nat.le_trans hsz (Nat.le_trans hb3.size hb2.size), ?_⟩
      · rw [ex, posC_snoc]
        simpa using hr2
      · rw [ex]
        intro y hy
        rcases List.mem_append.1 hy with h1 | h1
        · exact hlt y h1
        · obtain rfl : y = x := by simpa using h1
          exact HV.out
  case done =>
    rintro D ys W hD hys ⟨v, hS, hsz, hlt⟩ hK
    rw [hys] at hS hlt
    have hA := ahead_all hlt
    unfold backGo at h
    rw [hA] at h
    have kr0 : W.cell? ⟨w.heap.size + 1, 0, none⟩ = some (.int .i64 0) := (blk_cell hS.res 0).trans rfl
    have kr1 : W.cell? ⟨w.heap.size + 1, 1, none⟩ = some (.int .i64 0) := (blk_cell hS.res 1).trans rfl
    have kf0 : W.frozen? ⟨w.heap.size + 1, 0, none⟩ = false := blk_frozen hS.res 0
    have kf1 : W.frozen? ⟨w.heap.size + 1, 1, none⟩ = false := blk_frozen hS.res 1
    have hc := hS.box.cell
    have HSS := Aside0.mk hS
    rcases hS.row.2 with ⟨rfl, h0⟩ | ⟨g, cap, cur, rfl, hgb, hcur, hle, hmx, hcs, htake⟩
    · clear hS
      rw [if_pos (by omega)] at h
      injection h with g1 h; injection h with g2 g3
      subst g1 g2 g3
      gi_wp2
      obtain ⟨q0, q1, q2, q3⟩ := back_end (.int .i64 0) (.int .i64 0) HSS.out.below HSS.out.res (by omega) hK
      refine ⟨by simp, .inl ⟨_, _, rfl, run_takeDeferred q0, ?_⟩⟩
      refine ⟨_, ?_, rfl, q3⟩
      simp [results, Try.f37, go_sem, q1, q2]
    · clear hS
      by_cases hbig : (L.length : Int) < n
      · rw [if_pos (by omega)] at h
        injection h with g1 h; injection h with g2 g3
        subst g1 g2 g3
        gi_wp2
        obtain ⟨q0, q1, q2, q3⟩ := back_end (.int .i64 0) (.int .i64 0) HSS.out.below HSS.out.res (by omega) hK
        refine ⟨by simp, .inl ⟨_, _, rfl, run_takeDeferred q0, ?_⟩⟩
        refine ⟨_, ?_, rfl, q3⟩
        simp [results, Try.f37, go_sem, q1, q2]
      · rw [if_neg (by omega)] at h
        injection h with g1 h; injection h with g2 g3
        subst g3
        have hi : ((L.length : Int) - n).toNat < L.length := by omega
        have c0 : W.cell? ⟨g, ((L.length : Int) - n).toNat * 2, none⟩ = some (.int .i64 r1) := by
          refine (blk_cell hcur _).trans ?_
          rw [row_cell htake (by omega), posC_0 _ _ hi, g1]
        have c1 : W.cell? ⟨g, ((L.length : Int) - n).toNat * 2 + 1, none⟩ = some (.int .i64 r2) := by
          refine (blk_cell hcur _).trans ?_
          rw [row_cell htake (by omega), posC_1 _ _ hi, g2]
        gi_wp2
        obtain ⟨q0, q1, q2, q3⟩ := back_end (.int .i64 r1) (.int .i64 r2) HSS.out.below HSS.out.res (by omega) hK
        refine ⟨by simp, .inl ⟨_, _, rfl, run_takeDeferred q0, ?_⟩⟩
        refine ⟨_, ?_, rfl, q3⟩
        simp [results, Try.f37, go_sem, q1, q2]
  case stop =>
    rintro D c pre W hD ⟨rest, hp⟩ ⟨v, pre', x, rfl, hpx, hS, hlt, hnot⟩ hK
    rw [hpx, List.append_assoc, List.singleton_append] at hp
    have hA := ahead_stop hnot rest hlt
    rw [hp] at hA
    unfold backGo at h
    rw [hA] at h
    have hpl : pre'.length ≤ L.length := by rw [← hp]; simp
    have kr0 : W.cell? ⟨w.heap.size + 1, 0, none⟩ = some (.int .i64 0) := (blk_cell hS.res 0).trans rfl
    have kr1 : W.cell? ⟨w.heap.size + 1, 1, none⟩ = some (.int .i64 0) := (blk_cell hS.res 1).trans rfl
    have kf0 : W.frozen? ⟨w.heap.size + 1, 0, none⟩ = false := blk_frozen hS.res 0
    have kf1 : W.frozen? ⟨w.heap.size + 1, 1, none⟩ = false := blk_frozen hS.res 1
    have hc := hS.box.cell
    have HSS := Aside0.mk hS
    rcases hS.row.2 with ⟨rfl, h0⟩ | ⟨g, cap, cur, rfl, hgb, hcur, hle, hmx, hcs, htake⟩
    · clear hS
      rw [if_pos (by omega)] at h
      injection h with g1 h; injection h with g2 g3
      subst g1 g2 g3
      gi_wp2
      obtain ⟨q0, q1, q2, q3⟩ := back_end (.int .i64 0) (.int .i64 0) HSS.out.below HSS.out.res (by omega) hK
      refine ⟨by simp, .inl ⟨_, _, rfl, run_takeDeferred q0, ?_⟩⟩
      refine ⟨_, ?_, rfl, q3⟩
      simp [results, Try.f37, go_sem, q1, q2]
    · clear hS
      by_cases hbig : (pre'.length : Int) < n
      · rw [if_pos (by omega)] at h
        injection h with g1 h; injection h with g2 g3
        subst g1 g2 g3
        gi_wp2
        obtain ⟨q0, q1, q2, q3⟩ := back_end (.int .i64 0) (.int .i64 0) HSS.out.below HSS.out.res (by omega) hK
        refine ⟨by simp, .inl ⟨_, _, rfl, run_takeDeferred q0, ?_⟩⟩
        refine ⟨_, ?_, rfl, q3⟩
        simp [results, Try.f37, go_sem, q1, q2]
      · rw [if_neg (by omega)] at h
        injection h with g1 h; injection h with g2 g3
        subst g3
        have hi : ((pre'.length : Int) - n).toNat < pre'.length := by omega
        have c0 : W.cell? ⟨g, ((pre'.length : Int) - n).toNat * 2, none⟩ = some (.int .i64 r1) := by
          refine (blk_cell hcur _).trans ?_
          rw [row_cell htake (by omega), posC_0 _ _ hi, g1]
        have c1 : W.cell? ⟨g, ((pre'.length : Int) - n).toNat * 2 + 1, none⟩ = some (.int .i64 r2) := by
          refine (blk_cell hcur _).trans ?_
          rw [row_cell htake (by omega), posC_1 _ _ hi, g2]
        gi_wp2
        obtain ⟨q0, q1, q2, q3⟩ := back_end (.int .i64 r1) (.int .i64 r2) HSS.out.below HSS.out.res (by omega) hK
        refine ⟨by simp, .inl ⟨_, _, rfl, run_takeDeferred q0, ?_⟩⟩
        refine ⟨_, ?_, rfl, q3⟩
        simp [results, Try.f37, go_sem, q1, q2]

end Go.Proofs.Ytifkfjpkngdhmaa.Pure
namespace Go.Proofs.Ytifkfjpkngdhmaa.Pure
open Go.RowKit Go.Shelf Go.Proofs.Ytifkfjpkngdhmaa.V Go.Proofs.YtifkfjpkngdhmaaW.PrintWords Go.Proofs.YtifkfjpkngdhmaaW.PrintLast Go.Proofs.YtifkfjpkngdhmaaW.PrintMore
set_option linter.unusedVariables false
set_option linter.unusedSimpArgs false
attribute [local go_sem] Oper.semAt_some

/-- the state of heard. -/
structure HeardS (w W : World) (n : Int) (v : Value) (l : List S24) : Prop where
  below : Below w.heap.size w W
  most : Blk W w.heap.size 3 #[.int .i64 n]
  box : Boxed W (w.heap.size + 1) 29 v
  row : W.ownsRow (w.heap.size + 1) 24 2 v l.length (posC l)
theorem HeardS.grown {w W W' : World} {n : Int} {v : Value} {l : List S24} {row : Option Nat} {B : Nat} (h : HeardS w W n v l) (hB : w.heap.size ≤ B) (hg : W.grownBy W' row) (hr : ∀ r, row = some r → B ≤ r ∧ ∃ o : Obj, W.heap[r]? = some o ∧ o.isCells = false) : HeardS w W' n v l where
  below := h.below.grown hg h.below.size (fun k e => Nat.le_trans hB (hr k e).1)
  most := Blk.own (β := Unit) _ 3 (fun _ => _) () W W' row h.most hg (fun r e => (hr r e).2)
  box := h.box.kept hg (fun e' => by obtain ⟨o, ho, hc⟩ := (hr _ e'.symm).2; rw [show W.heap[w.heap.size + 1]? = _ from h.box] at ho; cases ho; cases hc)
  row := h.row.kept hg (by
    rcases h.row.2 with ⟨rfl, _⟩ | ⟨g, cap, cur, rfl, _, hgb, _⟩
    · exact .inl rfl
    · refine .inr fun e' => ?_
      obtain ⟨o, ho, hc⟩ := (hr g (by simpa [Value.ownBlock] using e'.symm)).2
      rw [hgb] at ho; cases ho; cases hc)
theorem row_below {W W' : World} {base : Nat} {v : Value} {l : List S24} (h : W.ownsRow base 24 2 v l.length (posC l)) (hb : Below W.heap.size W W') : W'.ownsRow base 24 2 v l.length (posC l) := by
  refine ⟨h.1, ?_⟩
  rcases h.2 with hn | ⟨g, cap, cur, e, hb', hgb, rest⟩
  · exact .inl hn
  · exact .inr ⟨g, cap, cur, e, hb', (hb.block g (Array.getElem?_eq_some_iff.1 hgb).1).trans hgb, rest⟩
theorem HeardS.below' {w W W' : World} {n : Int} {v : Value} {l : List S24} (h : HeardS w W n v l) (hb : Below W.heap.size W W') : HeardS w W' n v l where
  below := h.below.trans (hb.mono h.below.size)
  most := h.most.below hb
  box := (hb.block _ h.box.lt).trans h.box
  row := row_below h.row hb

/-- what owns a row of places may be read. -/
theorem reads_of_row {W : World} {base : Nat} {v : Value} {xs : List S24} (h : W.ownsRow base 24 2 v xs.length (posC xs)) (hl : xs.length ≤ 50000) : ∃ A c, v = .slice A xs.length c ∧ xs.length ≤ c ∧ Kd.C k24 W A xs.length xs := by
  rcases h.2 with ⟨rfl, h0⟩ | ⟨g, cap, cur, rfl, hgb, hcur, hle, hmx, hcs, htake⟩
  · rw [h0]
    exact ⟨none, 0, rfl, Nat.le_refl _, h0, by omega, fun hh => by omega⟩
  · refine ⟨some ⟨g, 0, none⟩, cap, rfl, hle, rfl, by omega, fun _ => ⟨⟨g, 0, none⟩, rfl, fun j p hj => ⟨[.int .i64 p.f0, .int .i64 p.f1], rfl, k24_mk W p, fun i u hu => ?_⟩⟩⟩
    have hj' : j < xs.length := (List.getElem?_eq_some_iff.1 hj).1
    have hp : xs.getD j ⟨0, 0⟩ = p := by rw [List.getD_eq_getElem?_getD, hj]; rfl
    have hadd : ∀ m : Nat, (⟨g, 0, none⟩ : Addr).add m = ⟨g, m, none⟩ := fun m => by cases m <;> simp [Addr.add]
    rw [show k24.sz = 2 from rfl, hadd]
    match i, hu with
    | 0, hu =>
      refine (blk_cell hcur _).trans ?_
      rw [row_cell htake (by omega), Nat.add_zero, posC_0 _ _ hj', hp]
      simpa using hu
    | 1, hu =>
      refine (blk_cell hcur _).trans ?_
      rw [row_cell htake (by omega), posC_1 _ _ hj', hp]
      simpa using hu
    | i + 2, hu => simp at hu

set_option maxHeartbeats 4000000 in
set_option maxRecDepth 100000 in
theorem heard_walk (n : Int) (L : List S24) (a : Nat) (lb : Array Value) (w : World) (ha : a + 4 ≤ w.heap.size) (hL : L.length ≤ 50000) (hn1 : 1 ≤ n) (hn2 : n ≤ 9223372036854775807)
    (hseq : ∀ W0, Below w.heap.size w W0 → SeqStopsK Fence.wide 7 Try.prog 46 lb (fun x : {x // x ∈ L} => posV x.1) (KeepB w.heap.size a) (fun ys => ys.map Subtype.val = L) (fun pre => pre.map Subtype.val <+: L) L.length W0) :
    Calls Try.prog 21 #[.func (.func 46) #[] lb, .int .i64 n] w fun e w' => ∃ A c, e = .returned (.tuple #[.slice A (L.take n.toNat).length c, .bool true]) ∧ (L.take n.toNat).length ≤ c ∧ Kd.C k24 w' A (L.take n.toNat).length (L.take n.toNat) ∧ Below w.heap.size w w' := by
  obtain ⟨i0, hi, hz0, hz1, hz2⟩ := info_parts info24
  refine (callsIn_wide (n := 8)).1 (callsIn_of_wp_marks Try.func21 rfl trivial ?_ rfl)
  simp only [Try.ntmps21, List.size_toArray, List.length_cons, List.length_nil, Nat.reduceAdd, Nat.reduceSub, Array.replicate_succ, Array.replicate_zero, List.push_toArray, List.append_toArray, List.nil_append, List.cons_append]
  have X0 := (((Boxes.nil w).push (by simp) 3 #[.int .i64 n]).push (by simp) 29 #[.slice none 0 0])
  simp only [List.nil_append, List.cons_append] at X0
  have hnil : ∀ W : World, (binOp BinOp.eql 40 (Value.func (Fn.func 46) #[] lb) Value.nilFunc).run Try.prog W = .ok (.bool false) W := by
    intro W
    rfl
  gi_wp2
  have S0 : HeardS w ((w.alloc (.cells #[.int .i64 n] 3)).alloc (.cells #[.slice none 0 0] 29)) n (.slice none 0 0) [] := ⟨X0.1, X0.2 0 _ _ rfl, X0.2 1 _ _ rfl, World.ownsRow_nil _ _ _ _⟩
  have Z : ((w.alloc (.cells #[.int .i64 n] 3)).alloc (.cells #[.slice none 0 0] 29)).heap.size = w.heap.size + 2 := by simp
  obtain ⟨W0, hW0⟩ : ∃ W0, ((w.alloc (.cells #[.int .i64 n] 3)).alloc (.cells #[.slice none 0 0] 29)) = W0 := ⟨_, rfl⟩
  rw [hW0] at S0 Z ⊢
  clear hW0 X0
  have e16 : 1 ≤ (8 : Nat) := by omega
  refine wpIn_rangeFunc_ownH rfl e16 (gf := 46) (lb := lb) rfl trivial (enters_of Try.func46 (by kernel_rfl) rfl)
    (hseq W0 S0.below) keepB_t (keepB_b (by omega) (by omega)) (Below.refl _ _) (fun _ => rfl)
    (fun pre W => ∃ v, HeardS w W n v (pre.map Subtype.val) ∧ W0.heap.size ≤ W.heap.size ∧ (pre.length : Int) < n)
    (fun c pre W => ∃ v, c = .exit 0 ∧ HeardS w W n v (pre.map Subtype.val) ∧ (pre.length : Int) = n)
    (fun pre W W' row ⟨v, h1, h2, h3⟩ hg hr => ⟨v, h1.grown (by omega) hg hr, Nat.le_trans h2 hg.size, h3⟩)
    (fun c pre W W' row ⟨v, h0, h1, h2⟩ hg hr => ⟨v, h0, h1.grown (by omega) hg hr, h2⟩)
    ⟨_, S0, Nat.le_refl _, by simp; omega⟩
    (fun x a' W => ∃ Bx, w.heap.size + 1 < Bx ∧ Blk W Bx 24 #[.int .i64 x.1.f0, .int .i64 x.1.f1] ∧ a' = { tmps := #[.func (.func 46) #[] lb, .int .i64 n, undef, .pointer (some ⟨w.heap.size, 0, none⟩), .slice none 0 0, .bool false, .pointer (some ⟨w.heap.size + 1, 0, none⟩), .pointer (some ⟨Bx, 0, none⟩), .func (.func 46) #[] lb, .bool false, .func (.func 46) #[] lb, .agg #[.int .i64 x.1.f0, .int .i64 x.1.f1], undef, undef, undef, undef, undef, undef, undef, undef, undef], defers := [] })
    (fun x a' _ X Y row hs hg hr => by obtain ⟨Bx, h1, h2, h3⟩ := hs; exact ⟨Bx, h1, Blk.own (β := Unit) Bx 24 (fun _ => #[.int .i64 x.1.f0, .int .i64 x.1.f1]) () X Y row h2 hg (fun r e => (hr r e).2), h3⟩)
    ?assign ?body ?done ?stop
  case assign =>
    rintro l pre ⟨x, hx⟩ W K ⟨v, hS, hsz, hlt⟩ hK
    dsimp only [posV]
    gi_wp2
    have BA : Below W.heap.size W (W.alloc (.cells #[.int .i64 x.f0, .int .i64 x.f1] 24)) := (Below.refl _ W).alloc (Nat.le_refl _) _
    exact hK _ _ (keepsFrom_below BA) (keepB_of (by omega) (by omega) BA) ⟨v, hS.below' BA, by simp; omega, hlt⟩ ⟨W.heap.size, by omega, Blk.new _ _ _, rfl⟩
  case body =>
    rintro l pre ⟨x, hx⟩ a' W hl' ⟨r, hr⟩ ⟨v, hS, hsz, hlt⟩ ⟨Bx, hBx, bX, rfl⟩ hlen
    dsimp only at bX
    have d1 : 1 ≤ 8 - 1 - 1 := by omega
    have cx0 : W.cell? ⟨Bx, 0, none⟩ = some (.int .i64 x.f0) := (blk_cell bX 0).trans rfl
    have cx1 : W.cell? ⟨Bx, 1, none⟩ = some (.int .i64 x.f1) := (blk_cell bX 1).trans rfl
    have cm : W.cell? ⟨w.heap.size, 0, none⟩ = some (.int .i64 n) := (blk_cell hS.most 0).trans rfl
    have b1 : (pre.map Subtype.val).length + 1 ≤ maxLen := by rw [List.length_map]; have : (50001 : Nat) ≤ maxLen := by decide +kernel
                                                              omega
    have b2 : ((pre.map Subtype.val).length + 1) * 16 ≤ 140737488355328 := by rw [List.length_map]; omega
    have hv := hS.box
    have hc := hv.cell
    have hrow := hS.row
    have hsz3 := hS.below.size
    have HM := Aside0.mk hS.most
    gi_wp2_with (gi_at_builtin; refine wpListIn_append_own _ rfl _ _ 29 rfl (w.heap.size + 1) 24 i0 (.agg #[.int .i64 0, .int .i64 0]) 2 16 Try.underlying29 hi hz0 hz1 hz2 rfl (by decide) _ _ _ rfl (hrow.alloc _) ⟨W.heap.size, 0, none⟩ 1 1 [.int .i64 x.f0, .int .i64 x.f1] rfl rfl (two_cells _ _ _ _) (by simp [Value.oneCell']) b1 b2 (by simp; omega) ?_; intro v' w1 hown' hgrow _; obtain ⟨g', cap', rfl⟩ := ownsRow_succ hown'; obtain ⟨hv1, hv2, hr2, hk2, hb2⟩ := hv.appended (by decide) hrow (by omega) (Nat.le_refl _) hown' hgrow; have hc1 := hv1.cell; have hf1 := hv1.frozen; have hc2 := hv2.cell; have bm : Blk _ w.heap.size 3 #[.int .i64 n] := (hb2.block _ (by omega)).trans HM.out; have bm1 : Blk w1 w.heap.size 3 #[.int .i64 n] := (Below.heap_setCell w1 ⟨w.heap.size + 1, 0, none⟩ _ w.heap.size (by show w.heap.size ≠ w.heap.size + 1; omega)).symm.trans bm; have cm1 : w1.cell? ⟨w.heap.size, 0, none⟩ = some (.int .i64 n) := (blk_cell bm1 0).trans rfl)
    all_goals simp only [List.length_map] at hv2 hr2 hk2 hb2
    all_goals have ex : List.map Subtype.val (pre ++ [(⟨x, hx⟩ : {x : S24 // x ∈ L})]) = pre.map Subtype.val ++ [x] := by simp
    all_goals have HN : HeardS w _ n _ (pre.map Subtype.val ++ [x]) := ⟨hS.below.trans (hb2.mono (by omega)), (hb2.block _ (by omega)).trans HM.out, hv2, by rw [posC_snoc]; simpa using hr2⟩
    all_goals have exu : (pre ++ [(⟨x, hx⟩ : {x : S24 // x ∈ L})]).unattach = pre.map Subtype.val ++ [x] := ex
    all_goals have exl : ((pre ++ [(⟨x, hx⟩ : {x : S24 // x ∈ L})]).length : Int) = (pre.length : Int) + 1 := by rw [List.length_append]; rfl
    · exact ⟨hk2.from _, rfl, ⟨_, by rw [exu]; exact HN⟩, by rw [exl]; omega⟩
    · exact ⟨hk2.from _, ⟨hb2.mono (by omega), fun k _ hk => hb2.block k (by omega)⟩, ⟨_, by rw [exu]; exact HN⟩, by have := hb2.size; omega, by rw [exl]; omega⟩
  case done =>
    rintro D ys W hD hys ⟨v, hS, hsz, hlt⟩ hK
    rw [hys] at hS
    have hlen : ys.length = L.length := by have := congrArg List.length hys; rwa [List.length_map] at this
    have htk : L.take n.toNat = L := List.take_of_length_le (by omega)
    obtain ⟨A, c, rfl, hAc, hC⟩ := reads_of_row (ownsRow_putObj hS.row (.deferred none) hK rfl) hL
    have hc := hS.box.cell
    have HSS := Aside0.mk hS
    have HCC := Aside0.mk hC
    clear hS hC
    gi_wp2
    refine ⟨by simp, .inl ⟨_, _, rfl, run_takeDeferred hK, ?_⟩⟩
    have hb := belowK_b (n₀ := w.heap.size) (w := w) (Nat.le_refl _) W D _ (.deferred none) (by omega) hK rfl rfl
    refine ⟨.tuple #[.slice A L.length c, .bool true], ?_, A, c, by rw [htk], by rw [htk]; exact hAc, by rw [htk]; exact HCC.out, HSS.out.below.trans hb⟩
    simp [results, Try.f21, go_sem]
  case stop =>
    rintro D c' pre W hD ⟨rest, hp⟩ ⟨v, rfl, hS, hlen⟩ hK
    obtain ⟨P, hP⟩ : ∃ P, List.map Subtype.val pre = P := ⟨_, rfl⟩
    have hPl : (P.length : Int) = n := by rw [← hP, List.length_map]; exact hlen
    rw [hP] at hS hp
    have htk : L.take n.toNat = P := by rw [← hp, show n.toNat = P.length by omega, List.take_left]
    have hPL : P.length ≤ 50000 := by
      have : P.length ≤ L.length := by rw [← hp]; simp
      omega
    obtain ⟨A, c, rfl, hAc, hC⟩ := reads_of_row (ownsRow_putObj hS.row (.deferred none) hK rfl) hPL
    have hc := hS.box.cell
    have HSS := Aside0.mk hS
    have HCC := Aside0.mk hC
    clear hS hC
    gi_wp2
    refine ⟨by simp, .inl ⟨_, _, rfl, run_takeDeferred hK, ?_⟩⟩
    have hb := belowK_b (n₀ := w.heap.size) (w := w) (Nat.le_refl _) W D _ (.deferred none) (by omega) hK rfl rfl
    refine ⟨.tuple #[.slice A P.length c, .bool true], ?_, A, c, by rw [htk], by rw [htk]; exact hAc, by rw [htk]; exact HCC.out, HSS.out.below.trans hb⟩
    simp [results, Try.f21, go_sem]

end Go.Proofs.Ytifkfjpkngdhmaa.Pure
