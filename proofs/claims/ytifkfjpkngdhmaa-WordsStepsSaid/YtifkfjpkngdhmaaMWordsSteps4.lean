/- Texts of the proof of 'WordsSteps', merged in build order (part 4 of 4). -/
import Derived.Test.YtifkfjpkngdhmaaRows
import Derived.WalkKit
import Derived.ProofKit
import Derived.OpenShut
import Derived.ShutString
import Derived.ChangeOld
import Derived.Below
import Derived.SizedLaws
import Derived.SliceStrings
import Derived.Lib.SmallJoins
import Derived.Test.YtifkfjpkngdhmaaMWordsSteps3
namespace Go.Proofs.Ytifkfjpkngdhmaa.Pure
open Go.RowKit Go.Proofs.Ytifkfjpkngdhmaa.V Go.Proofs.YtifkfjpkngdhmaaW.PrintWords Go.Proofs.YtifkfjpkngdhmaaW.PrintLast Go.Proofs.YtifkfjpkngdhmaaW.PrintMore

theorem known_true : foolscaplaw8_known.f = some true := by decide +kernel

end Go.Proofs.Ytifkfjpkngdhmaa.Pure
namespace Go.Proofs.Ytifkfjpkngdhmaa.Pure
open Go.RowKit Go.Proofs.Ytifkfjpkngdhmaa.V Go.Proofs.YtifkfjpkngdhmaaW.PrintWords Go.Proofs.YtifkfjpkngdhmaaW.PrintLast Go.Proofs.YtifkfjpkngdhmaaW.PrintMore

/-- is (a, b) a place of the lines? -/
def PlaceP (l : List ByteArray) (a b : Int) : Prop := 0 ≤ a ∧ a < l.length ∧ 0 ≤ b ∧ b ≤ (rdOf ByteArray.empty l a).size
instance (l : List ByteArray) (a b : Int) : Decidable (PlaceP l a b) := by unfold PlaceP; infer_instance

theorem place_class (l : List ByteArray) (a b : Int) : class_Place.f l a b = some (decide (PlaceP l a b)) := by
  unfold class_Place.f
  by_cases h1 : a ≥ 0
  · rw [if_pos h1]
    by_cases h2 : a < l.length
    · rw [if_pos h2]
      by_cases h3 : b ≥ 0
      · rw [if_pos h3, if_pos h1]
        congr 1
        simp only [decide_eq_decide]
        exact ⟨fun h => ⟨h1, h2, h3, h⟩, fun h => h.2.2.2⟩
      · rw [if_neg h3, decide_eq_false (fun h => h3 h.2.2.1)]
    · rw [if_neg h2, decide_eq_false (fun h => h2 h.2.1)]
  · rw [if_neg h1, decide_eq_false (fun h => h1 h.1)]

/-- the place that two numbers name. -/
theorem seat_place {l : List ByteArray} (hl : Small l) (a b : Int) (ha : 0 ≤ a) (ha2 : a ≤ 65535) (hb : 0 ≤ b) (hb2 : b ≤ 65535) :
    ∃ x y, foolscapseat_Place.f l a b = some (x, y) ∧ PlaceP l x y := by
  obtain ⟨h1, h2, h3⟩ := hl
  have e : Int.tmod a l.length = a % l.length := Int.tmod_eq_emod_of_nonneg ha
  have g0 : 0 ≤ a % (l.length : Int) := Int.emod_nonneg _ (by omega)
  have g1 : a % (l.length : Int) < l.length := Int.emod_lt_of_pos _ (by omega)
  have hz := Small.at ⟨h1, h2, h3⟩ g0 g1
  unfold foolscapseat_Place.f
  rw [if_neg (by omega), w64 (x := a) (by omega) (by omega), e, if_pos g0, if_pos g1, w64 (x := b) (by omega) (by omega), w64 (x := ((rdOf ByteArray.empty l (a % (l.length : Int))).size : Int) + 1) (by omega) (by omega), if_neg (by omega)]
  refine ⟨_, _, rfl, g0, g1, ?_, ?_⟩
  · rw [Int.tmod_eq_emod_of_nonneg hb]
    exact Int.emod_nonneg _ (by omega)
  · rw [Int.tmod_eq_emod_of_nonneg hb]
    have := Int.emod_lt_of_pos b (b := ((rdOf ByteArray.empty l (a % (l.length : Int))).size : Int) + 1) (by omega)
    omega

end Go.Proofs.Ytifkfjpkngdhmaa.Pure
namespace Go.Proofs.Ytifkfjpkngdhmaa.Pure
open Go.RowKit Go.Proofs.Ytifkfjpkngdhmaa.V Go.Proofs.YtifkfjpkngdhmaaW.PrintWords Go.Proofs.YtifkfjpkngdhmaaW.PrintLast Go.Proofs.YtifkfjpkngdhmaaW.PrintMore
set_option linter.unusedVariables false

theorem ltN_iff {a b c d : Int} : ltN a b c d = true ↔ a < c ∨ (a = c ∧ b < d) := by unfold ltN; simp
theorem ltN_no {a b c d : Int} : ltN a b c d = false ↔ ¬ (a < c ∨ (a = c ∧ b < d)) := by rw [← ltN_iff]; simp
theorem ltB_ltN (a b c d : Int) : ltB a b c d = ltN a b c d := rfl
/-- x is ahead of y. -/
abbrev LtS (x y : S24) : Prop := ltN x.f0 x.f1 y.f0 y.f1 = true

theorem lineP_in {empty : Bool} {ask : ByteArray → Int → Bool} {j : Nat} {s : ByteArray} {m : Nat} {x : S24} (h : x ∈ lineP empty ask j s m) :
    x.f0 = j ∧ ((empty = true ∧ s.size = 0 ∧ x.f1 = 0) ∨ (0 ≤ x.f1 ∧ x.f1 < m ∧ ask s x.f1 = true)) := by
  unfold lineP at h
  rcases List.mem_append.1 h with h | h
  · split at h
    · rename_i he
      obtain rfl : x = ⟨(j : Int), 0⟩ := by simpa using h
      exact ⟨rfl, .inl ⟨he.1, he.2, rfl⟩⟩
    · simp at h
  · obtain ⟨i, hi, rfl⟩ := List.mem_map.1 h
    obtain ⟨h1, h2⟩ := List.mem_filter.1 hi
    have : i < m := by simpa using h1
    exact ⟨rfl, .inr ⟨by simp, by simpa using this, h2⟩⟩
theorem in_lineP {empty : Bool} {ask : ByteArray → Int → Bool} {j : Nat} {s : ByteArray} {m : Nat} {y : Int} (h0 : 0 ≤ y) (h1 : y < m) (h : ask s y = true) : (⟨(j : Int), y⟩ : S24) ∈ lineP empty ask j s m := by
  unfold lineP
  refine List.mem_append.2 (.inr (List.mem_map.2 ⟨y.toNat, List.mem_filter.2 ⟨by simp; omega, ?_⟩, ?_⟩))
  · rw [show ((y.toNat : Nat) : Int) = y by omega]; exact h
  · rw [show ((y.toNat : Nat) : Int) = y by omega]
theorem lineP_sorted (empty : Bool) (ask : ByteArray → Int → Bool) (j : Nat) (s : ByteArray) (m : Nat) (hm : m ≤ s.size) : (lineP empty ask j s m).Pairwise LtS := by
  induction m with
  | zero => rw [lineP_zero]; split <;> simp
  | succ m ih =>
    have ih := ih (by omega)
    cases h : ask s (m : Int) with
    | false => rw [lineP_no _ _ _ _ _ h]; exact ih
    | true =>
      rw [lineP_yes _ _ _ _ _ h]
      refine List.pairwise_append.2 ⟨ih, by simp, fun x hx y hy => ?_⟩
      obtain rfl : y = ⟨(j : Int), (m : Int)⟩ := by simpa using hy
      obtain ⟨h1, h2⟩ := lineP_in hx
      refine ltN_iff.2 (.inr ⟨h1, ?_⟩)
      rcases h2 with ⟨_, h3, h4⟩ | ⟨_, h3, _⟩
      · omega
      · exact h3
/-- a place of plc is one of a line's. -/
theorem plc_mem {empty : Bool} {ask : ByteArray → Int → Bool} {l : List ByteArray} {k : Nat} {x : S24} : x ∈ plc empty ask l k ↔ ∃ j : Nat, j < k ∧ x ∈ lineP empty ask j (rdOf ByteArray.empty l (j : Int)) (rdOf ByteArray.empty l (j : Int)).size := by
  unfold plc
  rw [List.mem_flatMap]
  simp
theorem plc_sorted (empty : Bool) (ask : ByteArray → Int → Bool) (l : List ByteArray) (k : Nat) : (plc empty ask l k).Pairwise LtS := by
  induction k with
  | zero => simp [plc]
  | succ k ih =>
    rw [plc_succ]
    refine List.pairwise_append.2 ⟨ih, lineP_sorted _ _ _ _ _ (Nat.le_refl _), fun x hx y hy => ?_⟩
    obtain ⟨j, hj, h1⟩ := plc_mem.1 hx
    exact ltN_iff.2 (.inl (by rw [(lineP_in h1).1, (lineP_in hy).1]; omega))
/-- a place of plc lies in the lines. -/
theorem plc_place {empty : Bool} {ask : ByteArray → Int → Bool} {l : List ByteArray} {x : S24} (h : x ∈ plc empty ask l l.length) : PlaceP l x.f0 x.f1 := by
  obtain ⟨j, hj, h1⟩ := plc_mem.1 h
  obtain ⟨e, h2⟩ := lineP_in h1
  unfold PlaceP
  rw [e]
  refine ⟨by omega, by omega, ?_, ?_⟩
  · rcases h2 with ⟨_, _, h4⟩ | ⟨h3, _, _⟩ <;> omega
  · rcases h2 with ⟨_, h3, h4⟩ | ⟨_, h3, _⟩ <;> omega

/-- the places behind (x, y). -/
def behL (x y : Int) (L : List S24) : List S24 := L.filter fun s => ltN x y s.f0 s.f1
theorem behL_lt {x y : Int} {L : List S24} {s : S24} (h : s ∈ behL x y L) : ltN x y s.f0 s.f1 = true := (List.mem_filter.1 h).2
theorem behL_mem {x y : Int} {L : List S24} {s : S24} (h : s ∈ behL x y L) : s ∈ L := (List.mem_filter.1 h).1
theorem behL_in {x y : Int} {L : List S24} {s : S24} (h : s ∈ L) (hl : ltN x y s.f0 s.f1 = true) : s ∈ behL x y L := List.mem_filter.2 ⟨h, hl⟩

/-- what Next answers, by the places behind. -/
def nextW (l0 : List ByteArray) (p0 p1 : Int) (op : Bool) : Int → Int → List S24 → Option (Int × Int × Int × Bool × Int × Bool)
  | m, _, [] => if op = true ∧ m = 1 then words_end.f l0 p0 p1 ((l0.length : Int) - 1) else some (0, 0, 0, false, 0, false)
  | m, ll, s :: r => if 0 < m - 1 then nextW l0 p0 p1 op (m - 1) s.f0 r else if op = true ∧ ll < s.f0 then words_end.f l0 p0 p1 ll else some (s.f0, s.f1, 0, false, -1, true)
theorem nextGo_beh (l0 : List ByteArray) (p0 p1 : Int) (op : Bool) : ∀ (L : List S24) (m ll : Int), nextGo l0 p0 p1 op m ll L = nextW l0 p0 p1 op m ll (behL p0 p1 L)
  | [], m, ll => rfl
  | s :: r, m, ll => by
    rw [nextGo]
    unfold behL
    cases h : ltN p0 p1 s.f0 s.f1 with
    | false =>
      rw [if_pos rfl, List.filter_cons, if_neg (by rw [h]; simp)]
      exact nextGo_beh l0 p0 p1 op r m ll
    | true =>
      rw [if_neg (by simp), List.filter_cons, if_pos h, nextW]
      have := nextGo_beh l0 p0 p1 op r (m - 1) s.f0
      unfold behL at this
      rw [this]
/-- what Tail answers, by the places behind (or at the place, where here). -/
def behT (x y : Int) (here : Bool) (L : List S24) : List S24 := L.filter fun s => !skipB x y here s
def tailT : Int → List S24 → Int × Int × Int × Bool × Int × Bool
  | _, [] => (0, 0, 0, false, 0, false)
  | m, s :: r => if m - 1 = 0 then (s.f0, s.f1, 1, false, -1, true) else tailT (m - 1) r
theorem tailGo_beh (p0 p1 : Int) (here : Bool) : ∀ (L : List S24) (m : Int), tailGo p0 p1 here m L = tailT m (behT p0 p1 here L)
  | [], m => rfl
  | s :: r, m => by
    rw [tailGo]
    unfold behT
    cases h : skipB p0 p1 here s with
    | true =>
      rw [if_pos rfl, List.filter_cons, if_neg (show ¬ (!skipB p0 p1 here s) = true by rw [h]; simp)]
      exact tailGo_beh p0 p1 here r m
    | false =>
      rw [if_neg (by simp), List.filter_cons, if_pos (show (!skipB p0 p1 here s) = true by rw [h]; rfl), tailT]
      have := tailGo_beh p0 p1 here r (m - 1)
      unfold behT at this
      rw [this]
/-- without here: the places behind. -/
theorem behT_no (x y : Int) (L : List S24) : behT x y false L = behL x y L := by
  unfold behT behL
  congr 1
  funext s
  unfold skipB
  rw [ltB_ltN]
  by_cases h1 : ltN x y s.f0 s.f1 = true
  · rw [h1]
    have := ltN_iff.1 h1
    have e1 : ltN s.f0 s.f1 x y = false := ltN_no.2 (by omega)
    have e2 : decide (s.f0 = x ∧ s.f1 = y) = false := decide_eq_false (by omega)
    rw [e1, e2]; rfl
  · have h1 : ltN x y s.f0 s.f1 = false := by simpa using h1
    rw [h1]
    have := ltN_no.1 h1
    by_cases h2 : s.f0 = x ∧ s.f1 = y
    · rw [decide_eq_true h2]; simp
    · have e1 : ltN s.f0 s.f1 x y = true := ltN_iff.2 (by omega)
      rw [e1]; simp

theorem fails_no {l : List ByteArray} {x y n : Int} (hp : PlaceP l x y) (hn : 1 ≤ n) : words_fails.f l x y n = some false := by
  unfold words_fails.f
  rw [if_neg (by omega), place_class, decide_eq_true hp]
  rfl
theorem fails_yes {l : List ByteArray} {x y n : Int} (h : ¬ (PlaceP l x y ∧ 1 ≤ n)) : words_fails.f l x y n = some true := by
  unfold words_fails.f
  by_cases hn : n < 1
  · rw [if_pos hn]
  · rw [if_neg hn, place_class, decide_eq_false (fun hp => h ⟨hp, by omega⟩)]
    rfl
theorem next_beh {l : List ByteArray} (hl : Small l) {x y n : Int} (hp : PlaceP l x y) (hn : 1 ≤ n) (hn2 : n ≤ 9223372036854775807) (big op : Bool) : words_Next.f l x y n big op = nextW l x y op n x (behL x y (startsL l big)) := by
  unfold words_Next.f
  rw [fails_no hp hn]
  simp only [Option.bind_some, Bool.false_eq_true, if_false]
  rw [if_pos ⟨hl.2.1, hl.2.2, hn, hn2⟩, nextGo_beh]
theorem tail_beh {l : List ByteArray} (hl : Small l) {x y n : Int} (hp : PlaceP l x y) (hn : 1 ≤ n) (hn2 : n ≤ 9223372036854775807) (big here : Bool) : words_Tail.f l x y n big here = some (tailT n (behT x y here (endsL l big))) := by
  unfold words_Tail.f
  rw [fails_no hp hn]
  simp only [Option.bind_some, Bool.false_eq_true, if_false]
  rw [if_pos ⟨hl.2.1, hl.2.2, hn, hn2⟩, tailGo_beh]
/-- the motion to a line's end. -/
theorem end_val {l : List ByteArray} {x y z : Int} (h0 : 0 ≤ z) (h1 : z < l.length) : words_end.f l x y z = some (if ltN x y z (rdOf ByteArray.empty l z).size = true then (z, ((rdOf ByteArray.empty l z).size : Int), 0, false, -1, true) else (0, 0, 0, false, 0, false)) := by
  unfold words_end.f
  rw [if_pos h0, if_pos h1, less_eqN]
  cases ltN x y z ((rdOf ByteArray.empty l z).size : Int) <;> rfl

end Go.Proofs.Ytifkfjpkngdhmaa.Pure
namespace Go.Proofs.Ytifkfjpkngdhmaa.Pure
open Go.RowKit Go.Proofs.Ytifkfjpkngdhmaa.V Go.Proofs.YtifkfjpkngdhmaaW.PrintWords Go.Proofs.YtifkfjpkngdhmaaW.PrintLast Go.Proofs.YtifkfjpkngdhmaaW.PrintMore
set_option linter.unusedVariables false

/-- is there an i-th of B? -/
def okS (B : List S24) (i : Nat) : Bool := decide (i ≤ B.length)
/-- the i-th of B, counted from 1; p itself for none. -/
def psS (p : S24) (B : List S24) (i : Nat) : S24 := if i = 0 then p else B.getD (i - 1) z24
theorem okS_stay {B : List S24} {i : Nat} (h : okS B i = false) : okS B (i + 1) = false := by
  unfold okS at h ⊢
  have := of_decide_eq_false h
  exact decide_eq_false (by omega)
theorem psS_stay (p : S24) {B : List S24} {i : Nat} (h : okS B i = false) : psS p B (i + 1) = psS p B i := by
  have := of_decide_eq_false h
  unfold psS
  rw [if_neg (by omega), if_neg (by omega), List.getD_eq_getElem?_getD, List.getD_eq_getElem?_getD, List.getElem?_eq_none (by omega), List.getElem?_eq_none (by omega)]
/-- one motion further: the first of what is left. -/
theorem step_of {p : S24} {B : List S24} {i : Nat} (h : okS B i = true) (way : Int) (no' : Mv) (hno : no'.2.2.2.2.2 = false ∧ no'.1 = 0 ∧ no'.2.1 = 0) {v : Mv} (hv : v = match B.drop i with | [] => no' | s :: _ => (s.f0, s.f1, way, false, -1, true)) :
    v.2.2.2.2.2 = okS B (i + 1) ∧ v.1 = (psS p B (i + 1)).f0 ∧ v.2.1 = (psS p B (i + 1)).f1 := by
  have hi := of_decide_eq_true h
  unfold okS psS
  rw [if_neg (by omega), Nat.add_sub_cancel]
  by_cases hl : i < B.length
  · rw [List.drop_eq_getElem_cons hl] at hv
    subst hv
    rw [decide_eq_true (by omega), List.getD_eq_getElem?_getD, List.getElem?_eq_getElem hl]
    exact ⟨rfl, rfl, rfl⟩
  · rw [List.drop_eq_nil_of_le (by omega)] at hv
    subst hv
    rw [decide_eq_false (by omega), List.getD_eq_getElem?_getD, List.getElem?_eq_none (by omega)]
    exact ⟨hno.1, hno.2.1, hno.2.2⟩

theorem beh_at : ∀ {B : List S24}, B.Pairwise LtS → ∀ (i : Nat) (h : i < B.length), (B.filter fun s => ltN B[i].f0 B[i].f1 s.f0 s.f1) = B.drop (i + 1)
  | s :: r, hB, 0, h => by
    obtain ⟨h1, h2⟩ := List.pairwise_cons.1 hB
    have e : ltN s.f0 s.f1 s.f0 s.f1 = false := ltN_no.2 (by omega)
    simp only [List.getElem_cons_zero, List.filter_cons, e, Bool.false_eq_true, if_false]
    exact List.filter_eq_self.2 h1
  | s :: r, hB, i + 1, h => by
    obtain ⟨h1, h2⟩ := List.pairwise_cons.1 hB
    have hi : i < r.length := by simpa using h
    have h3 := ltN_iff.1 (h1 r[i] (List.getElem_mem hi))
    have e : ltN r[i].f0 r[i].f1 s.f0 s.f1 = false := ltN_no.2 (by omega)
    simp only [List.getElem_cons_succ, List.filter_cons, e, Bool.false_eq_true, if_false]
    exact beh_at h2 i hi
theorem ahd_at : ∀ {B : List S24}, B.Pairwise LtS → ∀ (i : Nat) (h : i < B.length), (B.filter fun s => ltN s.f0 s.f1 B[i].f0 B[i].f1) = B.take i
  | s :: r, hB, 0, h => by
    obtain ⟨h1, h2⟩ := List.pairwise_cons.1 hB
    have e : ltN s.f0 s.f1 s.f0 s.f1 = false := ltN_no.2 (by omega)
    simp only [List.getElem_cons_zero, List.filter_cons, e, Bool.false_eq_true, if_false, List.take_zero]
    refine List.filter_eq_nil_iff.2 (fun t ht => ?_)
    have h3 := ltN_iff.1 (h1 t ht)
    simp only [Bool.not_eq_true]
    exact ltN_no.2 (by omega)
  | s :: r, hB, i + 1, h => by
    obtain ⟨h1, h2⟩ := List.pairwise_cons.1 hB
    have hi : i < r.length := by simpa using h
    have e : ltN s.f0 s.f1 r[i].f0 r[i].f1 = true := h1 r[i] (List.getElem_mem hi)
    simp only [List.getElem_cons_succ, List.filter_cons, e, if_true, List.take_succ_cons]
    rw [ahd_at h2 i hi]
theorem ltN_trans {a b c d e f : Int} (h : ltN a b c d = true) (g : ltN c d e f = true) : ltN a b e f = true := by
  have h1 := ltN_iff.1 h
  have h2 := ltN_iff.1 g
  exact ltN_iff.2 (by omega)

/-- behind the i-th of those behind lie those behind the i-th. -/
theorem beh_step {S : List S24} (hS : S.Pairwise LtS) (x y : Int) (i : Nat) (hi : i ≤ (behL x y S).length) :
    behL (psS ⟨x, y⟩ (behL x y S) i).f0 (psS ⟨x, y⟩ (behL x y S) i).f1 S = (behL x y S).drop i := by
  unfold psS
  cases i with
  | zero => rfl
  | succ i =>
    rw [if_neg (by omega), Nat.add_sub_cancel, List.getD_eq_getElem?_getD, List.getElem?_eq_getElem (by omega)]
    have hB : (behL x y S).Pairwise LtS := hS.filter _
    have hm := behL_lt (List.getElem_mem (show i < (behL x y S).length by omega))
    rw [← beh_at hB i (by omega)]
    simp only [Option.getD_some]
    unfold behL at hm ⊢
    rw [List.filter_filter]
    refine List.filter_congr (fun s _ => ?_)
    cases hc : ltN ((S.filter fun s => ltN x y s.f0 s.f1)[i]'(by unfold behL at hi; omega)).f0 ((S.filter fun s => ltN x y s.f0 s.f1)[i]'(by unfold behL at hi; omega)).f1 s.f0 s.f1 with
    | false => simp
    | true => rw [ltN_trans hm hc]; rfl
/-- the places ahead of (x, y), the nearest first. -/
def ahdL (x y : Int) (S : List S24) : List S24 := (S.filter fun s => ltN s.f0 s.f1 x y).reverse
theorem ahd_step {S : List S24} (hS : S.Pairwise LtS) (x y : Int) (i : Nat) (hi : i ≤ (ahdL x y S).length) :
    ahdL (psS ⟨x, y⟩ (ahdL x y S) i).f0 (psS ⟨x, y⟩ (ahdL x y S) i).f1 S = (ahdL x y S).drop i := by
  unfold psS
  cases i with
  | zero => rfl
  | succ i =>
    obtain ⟨A, hA⟩ : ∃ A, (S.filter fun s => ltN s.f0 s.f1 x y) = A := ⟨_, rfl⟩
    have hAs : A.Pairwise LtS := by rw [← hA]; exact hS.filter _
    have hl : (ahdL x y S) = A.reverse := by unfold ahdL; rw [hA]
    rw [hl] at hi ⊢
    rw [List.length_reverse] at hi
    have hj : A.length - 1 - i < A.length := by omega
    rw [if_neg (by omega), Nat.add_sub_cancel, List.getD_eq_getElem?_getD, List.getElem?_reverse (by omega), List.getElem?_eq_getElem hj]
    simp only [Option.getD_some]
    have hm : ltN A[A.length - 1 - i].f0 A[A.length - 1 - i].f1 x y = true := by
      have : A[A.length - 1 - i] ∈ (S.filter fun s => ltN s.f0 s.f1 x y) := by rw [hA]; exact List.getElem_mem hj
      exact (List.mem_filter.1 this).2
    rw [List.drop_reverse, show A.length - (i + 1) = A.length - 1 - i by omega, ← ahd_at hAs _ hj]
    unfold ahdL
    congr 1
    have e : (S.filter fun s => ltN s.f0 s.f1 A[A.length - 1 - i].f0 A[A.length - 1 - i].f1) = ((S.filter fun s => ltN s.f0 s.f1 x y).filter fun s => ltN s.f0 s.f1 A[A.length - 1 - i].f0 A[A.length - 1 - i].f1) := by
      rw [List.filter_filter]
      refine List.filter_congr (fun s _ => ?_)
      cases hc : ltN s.f0 s.f1 A[A.length - 1 - i].f0 A[A.length - 1 - i].f1 with
      | false => simp
      | true => rw [ltN_trans hc hm]; rfl
    rw [e, hA]

theorem psS_place {l : List ByteArray} {x y : Int} (hp : PlaceP l x y) {B : List S24} (hB : ∀ s ∈ B, PlaceP l s.f0 s.f1) {i : Nat} (h : okS B i = true) : PlaceP l (psS ⟨x, y⟩ B i).f0 (psS ⟨x, y⟩ B i).f1 := by
  have hi := of_decide_eq_true h
  unfold psS
  cases i with
  | zero => exact hp
  | succ i =>
    rw [if_neg (by omega), Nat.add_sub_cancel, List.getD_eq_getElem?_getD, List.getElem?_eq_getElem (by omega)]
    exact hB _ (List.getElem_mem _)

theorem next_step {l : List ByteArray} (hl : Small l) {x y : Int} (hp : PlaceP l x y) (big : Bool) (i : Nat) (h : okS (behL x y (startsL l big)) i = true) :
    ∃ v : Mv, words_Next.f l (psS ⟨x, y⟩ (behL x y (startsL l big)) i).f0 (psS ⟨x, y⟩ (behL x y (startsL l big)) i).f1 1 big false = some v ∧
      v.2.2.2.2.2 = okS (behL x y (startsL l big)) (i + 1) ∧ v.1 = (psS ⟨x, y⟩ (behL x y (startsL l big)) (i + 1)).f0 ∧ v.2.1 = (psS ⟨x, y⟩ (behL x y (startsL l big)) (i + 1)).f1 := by
  have hq := psS_place hp (B := behL x y (startsL l big)) (fun s hs => plc_place (behL_mem hs)) h
  rw [next_beh hl hq (by omega) (by omega), beh_step (S := startsL l big) (plc_sorted _ _ _ _) x y i (of_decide_eq_true h)]
  refine ⟨match (behL x y (startsL l big)).drop i with | [] => no | s :: _ => (s.f0, s.f1, 0, false, -1, true), ?_, step_of h 0 no ⟨rfl, rfl, rfl⟩ rfl⟩
  cases (behL x y (startsL l big)).drop i with
  | nil => simp [nextW]
  | cons s r => simp [nextW]
theorem tail_step {l : List ByteArray} (hl : Small l) {x y : Int} (hp : PlaceP l x y) (big : Bool) (i : Nat) (h : okS (behL x y (endsL l big)) i = true) :
    ∃ v : Mv, words_Tail.f l (psS ⟨x, y⟩ (behL x y (endsL l big)) i).f0 (psS ⟨x, y⟩ (behL x y (endsL l big)) i).f1 1 big false = some v ∧
      v.2.2.2.2.2 = okS (behL x y (endsL l big)) (i + 1) ∧ v.1 = (psS ⟨x, y⟩ (behL x y (endsL l big)) (i + 1)).f0 ∧ v.2.1 = (psS ⟨x, y⟩ (behL x y (endsL l big)) (i + 1)).f1 := by
  have hq := psS_place hp (B := behL x y (endsL l big)) (fun s hs => plc_place (behL_mem hs)) h
  rw [tail_beh hl hq (by omega) (by omega), behT_no, beh_step (S := endsL l big) (plc_sorted _ _ _ _) x y i (of_decide_eq_true h)]
  refine ⟨match (behL x y (endsL l big)).drop i with | [] => no | s :: _ => (s.f0, s.f1, 1, false, -1, true), ?_, step_of h 1 no ⟨rfl, rfl, rfl⟩ rfl⟩
  cases (behL x y (endsL l big)).drop i with
  | nil => simp [tailT]
  | cons s r => simp [tailT]

/-- in order: those with which it begins that are ahead are all that are ahead. -/
theorem ahead_filterS {L : List S24} (hL : L.Pairwise LtS) (x y : Int) : aheadL x y L = L.filter fun s => ltN s.f0 s.f1 x y := by
  induction L with
  | nil => rfl
  | cons s r ih =>
    obtain ⟨h1, h2⟩ := List.pairwise_cons.1 hL
    have ih := ih h2
    unfold aheadL at ih ⊢
    rw [List.takeWhile_cons, List.filter_cons]
    cases hc : ltN s.f0 s.f1 x y with
    | true => simp only [if_true]; rw [ih]
    | false =>
      simp only [Bool.false_eq_true, if_false]
      refine (List.filter_eq_nil_iff.2 (fun t ht => ?_)).symm
      have h3 := ltN_iff.1 (h1 t ht)
      have h4 := ltN_no.1 hc
      simp only [Bool.not_eq_true]
      exact ltN_no.2 (by omega)
theorem back_ahd {l : List ByteArray} (hl : Small l) {x y n : Int} (hp : PlaceP l x y) (hn : 1 ≤ n) (hn2 : n ≤ 9223372036854775807) (big : Bool) :
    words_Back.f l x y n big = some (if n > ((ahdL x y (startsL l big)).length : Int) then no else (((ahdL x y (startsL l big)).getD (n - 1).toNat z24).f0, ((ahdL x y (startsL l big)).getD (n - 1).toNat z24).f1, 0, false, -1, true)) := by
  unfold words_Back.f
  rw [fails_no hp hn]
  simp only [Option.bind_some, Bool.false_eq_true, if_false]
  rw [if_pos ⟨hl.2.1, hl.2.2, hn, hn2⟩]
  unfold words_Back.m backGo
  rw [ahead_filterS (L := startsL l big) (plc_sorted _ _ _ _) x y]
  obtain ⟨A, hA⟩ : ∃ A, ((startsL l big).filter fun s => ltN s.f0 s.f1 x y) = A := ⟨_, rfl⟩
  have hlA : ahdL x y (startsL l big) = A.reverse := by unfold ahdL; rw [hA]
  rw [hA, hlA, List.length_reverse]
  by_cases h : n > (A.length : Int)
  · rw [if_pos h, if_pos h]
    rfl
  · rw [if_neg h, if_neg h]
    rw [List.getD_eq_getElem?_getD, List.getD_eq_getElem?_getD, List.getElem?_reverse (by omega), show A.length - 1 - (n - 1).toNat = ((A.length : Int) - n).toNat by omega, List.getElem?_eq_getElem (by omega)]
    rfl
theorem back_step {l : List ByteArray} (hl : Small l) {x y : Int} (hp : PlaceP l x y) (big : Bool) (i : Nat) (h : okS (ahdL x y (startsL l big)) i = true) :
    ∃ v : Mv, words_Back.f l (psS ⟨x, y⟩ (ahdL x y (startsL l big)) i).f0 (psS ⟨x, y⟩ (ahdL x y (startsL l big)) i).f1 1 big = some v ∧
      v.2.2.2.2.2 = okS (ahdL x y (startsL l big)) (i + 1) ∧ v.1 = (psS ⟨x, y⟩ (ahdL x y (startsL l big)) (i + 1)).f0 ∧ v.2.1 = (psS ⟨x, y⟩ (ahdL x y (startsL l big)) (i + 1)).f1 := by
  have hmem : ∀ s ∈ ahdL x y (startsL l big), PlaceP l s.f0 s.f1 := by
    intro s hs
    unfold ahdL at hs
    exact plc_place (List.mem_filter.1 (List.mem_reverse.1 hs)).1
  have hq := psS_place hp hmem h
  rw [back_ahd hl hq (by omega) (by omega), ahd_step (S := startsL l big) (plc_sorted _ _ _ _) x y i (of_decide_eq_true h)]
  refine ⟨match (ahdL x y (startsL l big)).drop i with | [] => no | s :: _ => (s.f0, s.f1, 0, false, -1, true), ?_, step_of h 0 no ⟨rfl, rfl, rfl⟩ rfl⟩
  cases (ahdL x y (startsL l big)).drop i with
  | nil => simp
  | cons s r => rw [if_neg (by simp; omega)]; rfl

/-- many at once: the n-th. -/
theorem nextW_n (l : List ByteArray) (x y : Int) : ∀ (B : List S24) (n ll : Int), 1 ≤ n → nextW l x y false n ll B = some (if n > (B.length : Int) then no else ((B.getD (n - 1).toNat z24).f0, (B.getD (n - 1).toNat z24).f1, 0, false, -1, true))
  | [], n, ll, hn => by
    rw [nextW, if_neg (by simp), if_pos (show n > (([] : List S24).length : Int) by simp; omega)]
  | s :: r, n, ll, hn => by
    have e0 : ((s :: r).length : Int) = (r.length : Int) + 1 := by simp
    rw [nextW, e0]
    by_cases h : 0 < n - 1
    · rw [if_pos h, nextW_n l x y r (n - 1) s.f0 (by omega), show (n - 1).toNat = (n - 1 - 1).toNat + 1 by omega]
      by_cases h2 : n > (r.length : Int) + 1
      · rw [if_pos (by omega), if_pos h2]
      · rw [if_neg (by omega), if_neg h2]
        rfl
    · obtain rfl : n = 1 := by omega
      rw [if_neg h, if_neg (by simp), if_neg (by omega)]
      rfl
theorem tailT_n : ∀ (B : List S24) (n : Int), 1 ≤ n → tailT n B = if n > (B.length : Int) then no else ((B.getD (n - 1).toNat z24).f0, (B.getD (n - 1).toNat z24).f1, 1, false, -1, true)
  | [], n, hn => by rw [tailT, if_pos (show n > (([] : List S24).length : Int) by simp; omega)]
  | s :: r, n, hn => by
    have e0 : ((s :: r).length : Int) = (r.length : Int) + 1 := by simp
    rw [tailT, e0]
    by_cases h : n - 1 = 0
    · rw [if_pos h, if_neg (by omega), h]
      rfl
    · rw [if_neg h, tailT_n r (n - 1) (by omega), show (n - 1).toNat = (n - 1 - 1).toNat + 1 by omega]
      by_cases h2 : n > (r.length : Int) + 1
      · rw [if_pos (by omega), if_pos h2]
      · rw [if_neg (by omega), if_neg h2]
        rfl
theorem all_of {p : S24} {B : List S24} {n : Nat} (hn : 1 ≤ n) (way : Int) {v : Mv} (hv : v = if (n : Int) > (B.length : Int) then no else ((B.getD ((n : Int) - 1).toNat z24).f0, (B.getD ((n : Int) - 1).toNat z24).f1, way, false, -1, true)) :
    v.2.2.2.2.2 = okS B n ∧ v.1 = (psS p B n).f0 ∧ v.2.1 = (psS p B n).f1 := by
  unfold okS psS
  rw [if_neg (by omega), show n - 1 = ((n : Int) - 1).toNat by omega]
  by_cases h : (n : Int) > (B.length : Int)
  · rw [if_pos h] at hv
    subst hv
    rw [decide_eq_false (by omega), List.getD_eq_getElem?_getD, List.getElem?_eq_none (by omega)]
    exact ⟨rfl, rfl, rfl⟩
  · rw [if_neg h] at hv
    subst hv
    rw [decide_eq_true (by omega)]
    exact ⟨rfl, rfl, rfl⟩

theorem steps_l0 {l : List ByteArray} (hl : Small l) {x y : Int} (hp : PlaceP l x y) (big : Bool) (n : Nat) (hn : 1 ≤ n) (hn2 : n ≤ 1000) : ∀ (d i k : Nat), i + d = n → 2 * d + 10 ≤ k →
    foolscaplaw8_WordsSteps.l0 k l big (n : Int) (okS (behL x y (startsL l big)) i) (okS (ahdL x y (startsL l big)) i) (okS (behL x y (endsL l big)) i) (i : Int) x y
      (psS ⟨x, y⟩ (behL x y (startsL l big)) i).f0 (psS ⟨x, y⟩ (behL x y (startsL l big)) i).f1 (psS ⟨x, y⟩ (ahdL x y (startsL l big)) i).f0 (psS ⟨x, y⟩ (ahdL x y (startsL l big)) i).f1 (psS ⟨x, y⟩ (behL x y (endsL l big)) i).f0 (psS ⟨x, y⟩ (behL x y (endsL l big)) i).f1 = some true := by
  intro d
  induction d with
  | zero =>
    intro i k hi hk
    obtain ⟨k, rfl⟩ : ∃ m, k = m + 1 := ⟨k - 1, by omega⟩
    obtain rfl : i = n := by omega
    rw [foolscaplaw8_WordsSteps.l0, if_neg (by omega), next_beh hl hp (by omega) (by omega), nextW_n _ _ _ _ _ _ (by omega), back_ahd hl hp (by omega) (by omega), tail_beh hl hp (by omega) (by omega), behT_no, tailT_n _ _ (by omega)]
    obtain ⟨u, hu⟩ : ∃ u : Mv, (if (i : Int) > ((behL x y (startsL l big)).length : Int) then no else (((behL x y (startsL l big)).getD ((i : Int) - 1).toNat z24).f0, ((behL x y (startsL l big)).getD ((i : Int) - 1).toNat z24).f1, 0, false, -1, true)) = u := ⟨_, rfl⟩
    obtain ⟨v, hv⟩ : ∃ u : Mv, (if (i : Int) > ((ahdL x y (startsL l big)).length : Int) then no else (((ahdL x y (startsL l big)).getD ((i : Int) - 1).toNat z24).f0, ((ahdL x y (startsL l big)).getD ((i : Int) - 1).toNat z24).f1, 0, false, -1, true)) = u := ⟨_, rfl⟩
    obtain ⟨w, hw⟩ : ∃ u : Mv, (if (i : Int) > ((behL x y (endsL l big)).length : Int) then no else (((behL x y (endsL l big)).getD ((i : Int) - 1).toNat z24).f0, ((behL x y (endsL l big)).getD ((i : Int) - 1).toNat z24).f1, 1, false, -1, true)) = u := ⟨_, rfl⟩
    obtain ⟨u1, u2, u3⟩ := all_of (p := ⟨x, y⟩) hn 0 hu.symm
    obtain ⟨v1, v2, v3⟩ := all_of (p := ⟨x, y⟩) hn 0 hv.symm
    obtain ⟨w1, w2, w3⟩ := all_of (p := ⟨x, y⟩) hn 1 hw.symm
    rw [hu, hv, hw]
    simp only [Option.bind_some]
    rw [u1, u2, u3, v1, v2, v3, w1, w2, w3]
    simp only [beq_self_eq_true, Bool.and_self, if_true]
    cases okS (behL x y (startsL l big)) i <;> cases okS (ahdL x y (startsL l big)) i <;> cases okS (behL x y (endsL l big)) i <;> rfl
  | succ d ih =>
    intro i k hi hk
    obtain ⟨k, rfl⟩ : ∃ m, k = m + 2 := ⟨k - 2, by omega⟩
    have next := ih (i + 1) k (by omega) (by omega)
    rw [show ((i + 1 : Nat) : Int) = (i : Int) + 1 by omega] at next
    have e1 : wrap64 ((i : Int) + 1) = (i : Int) + 1 := w64 (by omega) (by omega)
    have J : foolscaplaw8_WordsSteps.j1 (k + 1) l big (n : Int) (okS (behL x y (startsL l big)) (i + 1)) (okS (ahdL x y (startsL l big)) i) (okS (behL x y (endsL l big)) i) (i : Int) x y
      (psS ⟨x, y⟩ (behL x y (startsL l big)) (i + 1)).f0 (psS ⟨x, y⟩ (behL x y (startsL l big)) (i + 1)).f1 (psS ⟨x, y⟩ (ahdL x y (startsL l big)) i).f0 (psS ⟨x, y⟩ (ahdL x y (startsL l big)) i).f1 (psS ⟨x, y⟩ (behL x y (endsL l big)) i).f0 (psS ⟨x, y⟩ (behL x y (endsL l big)) i).f1 = some true := by
      rw [foolscaplaw8_WordsSteps.j1, e1]
      cases hb : okS (ahdL x y (startsL l big)) i with
      | true =>
        obtain ⟨v, v0, v1, v2, v3⟩ := back_step hl hp big i hb
        rw [if_pos rfl, v0]
        simp only [Option.bind_some]
        rw [v1, v2, v3]
        cases ht : okS (behL x y (endsL l big)) i with
        | true =>
          obtain ⟨w, w0, w1, w2, w3⟩ := tail_step hl hp big i ht
          rw [if_pos rfl, w0]
          simp only [Option.bind_some]
          rw [w1, w2, w3]
          exact next
        | false =>
          rw [if_neg (by simp)]
          rw [okS_stay ht, psS_stay ⟨x, y⟩ ht] at next
          exact next
      | false =>
        rw [if_neg (by simp)]
        rw [okS_stay hb, psS_stay ⟨x, y⟩ hb] at next
        cases ht : okS (behL x y (endsL l big)) i with
        | true =>
          obtain ⟨w, w0, w1, w2, w3⟩ := tail_step hl hp big i ht
          rw [if_pos rfl, w0]
          simp only [Option.bind_some]
          rw [w1, w2, w3]
          exact next
        | false =>
          rw [if_neg (by simp)]
          rw [okS_stay ht, psS_stay ⟨x, y⟩ ht] at next
          exact next
    rw [foolscaplaw8_WordsSteps.l0, if_pos (by omega)]
    cases hb : okS (behL x y (startsL l big)) i with
    | true =>
      obtain ⟨v, v0, v1, v2, v3⟩ := next_step hl hp big i hb
      rw [if_pos rfl, v0]
      simp only [Option.bind_some]
      rw [v1, v2, v3]
      exact J
    | false =>
      rw [if_neg (by simp)]
      rw [okS_stay hb, psS_stay ⟨x, y⟩ hb] at J
      exact J

theorem WordsSteps (l0 : List ByteArray) (a1 : Int) (a2 : Int) (a3 : Int) (a4 : Bool) (hl0 : l0.length * 16 ≤ 140737488351232) (hs0 : ∀ s ∈ l0, s.size ≤ 140737488351232) (w1 : (Lit.int .u16 a1).wf = true) (w2 : (Lit.int .u16 a2).wf = true) (w3 : (Lit.int .u8 a3).wf = true) : ∃ k, foolscaplaw8_WordsSteps.f k l0 a1 a2 a3 a4 = some true := by
  obtain ⟨k, hk⟩ : ∃ k : Nat, 60000 ≤ k := ⟨60000, Nat.le_refl _⟩
  refine ⟨k, ?_⟩
  unfold foolscaplaw8_WordsSteps.f
  obtain ⟨b, hb, ht⟩ := text_tells l0 hs0 k (by omega)
  rw [known_true]
  simp only [Option.bind_some, if_true]
  rw [hb]
  simp only [Option.bind_some]
  cases b with
  | false => rfl
  | true =>
    have hl := ht rfl
    have g1 := bounds_u16 w1
    have g2 := bounds_u16 w2
    have g3 := bounds_u8 w3
    obtain ⟨x, y, h1, hp⟩ := seat_place hl a1 a2 g1.1 g1.2 g2.1 g2.2
    rw [if_pos rfl, h1]
    simp only [Option.bind_some]
    have e6 : Int.tmod a3 6 = a3 % 6 := Int.tmod_eq_emod_of_nonneg g3.1
    rw [e6, w64 (x := a3 % 6) (by omega) (by omega), w64 (x := a3 % 6 + 1) (by omega) (by omega)]
    obtain ⟨n, hn⟩ : ∃ n : Nat, a3 % 6 + 1 = (n : Int) := ⟨(a3 % 6 + 1).toNat, by omega⟩
    rw [hn]
    exact steps_l0 hl hp a4 n (by omega) (by omega) n 0 k (by omega) (by omega)

end Go.Proofs.Ytifkfjpkngdhmaa.Pure
namespace Go.Proofs.Ytifkfjpkngdhmaa.wordsSteps
open Go.ChangeShapes Go.WideShapes Go.ChangeAt Go.RowKit Go.Proofs.YtifkfjpkngdhmaaW.PrintWords
open Go.ChangeMaps (open_string shut_string)
set_option linter.unusedVariables false
theorem own : ownKnob Try.prog.godebug = none := by kernel_rfl
theorem laidOut : laidOutB Try.prog = true := by kernel_rfl
theorem weightsAll_mem {H : Type} {P : Program} {e : TypeId} {n : Nat} : ∀ {l : List (DataW H)} {d : DataW H}, d ∈ l → n ∈ d.weights P e → n ∈ DataW.weightsAll P e l
  | x :: r, d, hd, hn => by
    simp only [DataW.weightsAll, List.mem_append]
    rcases List.mem_cons.1 hd with rfl | h
    · exact Or.inl hn
    · exact Or.inr (weightsAll_mem h hn)
  | [], _, hd, _ => by simp at hd
theorem open_lines {H : Type} {enc : TypeId × Value → H} {P : Program} {W : World} {base : Nat} {held : Bool} {t e : TypeId} {a : Option Addr} {len cap : Nat} {d : DataW H} {ps : List MemPlace} {ts : List TypeId} {ds : List (DataW H)} {j : Nat}
    (hsz : (DataW.weightsEach P ts ds).all (· ≤ reachBytes) = true) (ht : ts[j]? = some t) (hd : ds[j]? = some d) (hu : P.underlying t = some (.slice e)) (he : P.underlying e = some .string) (hc : P.cellsOf e = 1) (hB : P.bytesOf e = 16)
    (h : DataW.Trod enc P W base (fun _ => true) held t (.slice a len cap) d ps) :
    ∃ l : List ByteArray, len = l.length ∧ ReadsOf Value.string ByteArray.empty W a l.length l ∧ l.length ≤ cap ∧ l.length * 16 ≤ 140737488351232 ∧ ∀ s ∈ l, s.size ≤ 140737488351232 := by
  obtain ⟨fuel, hf⟩ := h
  rcases open_strings hu he hc hf with ⟨hcs, _⟩ | ⟨x, l, c, ss, hcs, _, hl, hm, hz, hx, hcell, _⟩
  · simp [Value.cells] at hcs
    obtain ⟨rfl, rfl, rfl⟩ := hcs
    exact ⟨[], rfl, ReadsOf.nil _ _ _, by simp, by simp, by simp⟩
  · simp [Value.cells] at hcs
    obtain ⟨rfl, rfl, rfl⟩ := hcs
    obtain ⟨hx, _⟩ := Prod.mk.inj hx
    subst hx
    have z := sized_slice hsz ht hd hu
    rw [hB] at z
    have hz : ss.length = cap := by simpa using hz
    have hl2 : (ss.take len).length = len := by rw [List.length_take]; omega
    have z1 : (strs (H := H) (ss.take len)).length + (strs (H := H) (ss.drop len)).length = ss.length := by simp only [strs, List.length_map, List.length_take, List.length_drop]; omega
    rw [z1] at z
    have z : ss.length * 16 ≤ 140737488351232 := z
    unfold maxLen at hm
    refine ⟨ss.take len, hl2.symm, ⟨rfl, by omega, fun hn => ⟨x, rfl, fun i hi => ?_⟩⟩, by omega, by omega, fun s hs => ?_⟩
    · rw [hl2] at hi
      rw [hcell i (by omega)]
      simp only [List.getD]
      rw [List.getElem?_take_of_lt hi]
    · have := List.all_eq_true.1 hsz _ (DataW.weights_mem_each ht hd s.data.toList.length (by
        simp only [DataW.weights, hu]
        refine List.mem_cons_of_mem _ (List.mem_append_left _ (weightsAll_mem (d := .lit (.string s.data.toList)) ?_ (by simp [DataW.weights])))
        exact List.mem_map.2 ⟨s, hs, rfl⟩))
      have := of_decide_eq_true this
      rw [Array.length_toList] at this
      exact this
set_option maxRecDepth 100000 in
theorem lifted (os : Os) (started : os.Started) (H : Type) (enc : TypeId × Value → H) :
    ReturnsInHanded {} Try.checked os 5 .any (Rows.wordsStepsSpec.pre6 enc Try.prog Try.f5 Rows.wordsStepsRow.domain false) (Rows.wordsStepsSpec.post enc Try.prog Try.f5 false true false false) := by
  refine returnsInHanded_of_change_sized (C := Try.checked) own started (by kernel_rfl) Try.func5
    (ChangeSpec.witness6 (enc := enc) (C := Try.checked) false ⟨#[], #[.slice none 0 0, .int .u16 0, .int .u16 0, .int .u8 0, .bool false], []⟩ 8 (by kernel_rfl) (by kernel_rfl) (by kernel_rfl) (by kernel_rfl)) ?_
  intro W base args ds gs before hval0 hW hcnd hsz0 _
  have hsz : (DataW.weightsEach Try.prog (Try.f5.params.toList ++ Rows.wordsStepsSpec.plain.varTypes Try.prog) (ds ++ gs)).all (· ≤ reachBytes) = true := hsz0
  have hval : ∀ (j : Nat) t v, Try.f5.params[j]? = some t → args[j]? = some v → Value.okWide Try.prog W .any base t v := hval0
  have hW' := hW
  obtain ⟨p, q, hA0, hV, rfl, hfz, hnd⟩ := hW
  have hA : DataW.TrodAll enc Try.prog W 0 (fun _ => true) true Try.f5.params.toList args.toList ds p := hA0
  rw [Try.params5] at hA hval hsz
  obtain ⟨v0, vs0, d0, ds0, p0, q0, hargs, rfl, rfl, h0, r0⟩ := trodAll_cons hA
  obtain ⟨v1, vs1, d1, ds1, p1, q1, rfl, rfl, rfl, h1, r1⟩ := trodAll_cons r0
  obtain ⟨v2, vs2, d2, ds2, p2, q2, rfl, rfl, rfl, h2, r2⟩ := trodAll_cons r1
  obtain ⟨v3, vs3, d3, ds3, p3, q3, rfl, rfl, rfl, h3, r3⟩ := trodAll_cons r2
  obtain ⟨v4, vs4, d4, ds4, p4, q4, rfl, rfl, rfl, h4, r4⟩ := trodAll_cons r3
  obtain ⟨rfl, rfl, rfl⟩ := trodAll_nil r4
  obtain rfl : args = #[v0, v1, v2, v3, v4] := by cases args; simp_all
  obtain ⟨rfl, rfl⟩ := trodVars_none hV
  obtain ⟨a0, len0, cap0, rfl⟩ := okWide_slice Try.underlying22 (hval 0 22 v0 rfl rfl)
  have k0 := h0
  have lt0 : ∀ x ∈ p0, x.block < W.heap.size := by obtain ⟨m, hm⟩ := k0; exact DataW.trod_lt m _ _ _ hm
  obtain ⟨l0, rfl, hr0, hc0, hl0, hs0⟩ := open_lines hsz (j := 0) (t := 22) rfl rfl Try.underlying22 Try.underlying9 (by kernel_rfl) (by kernel_rfl) h0
  obtain ⟨a1, rfl, rfl, rfl, w1⟩ := open_int Try.underlying25 (hval 1 25 v1 rfl rfl) h1
  obtain ⟨a2, rfl, rfl, rfl, w2⟩ := open_int Try.underlying25 (hval 2 25 v2 rfl rfl) h2
  obtain ⟨a3, rfl, rfl, rfl, w3⟩ := open_int Try.underlying5 (hval 3 5 v3 rfl rfl) h3
  obtain ⟨a4, rfl, rfl, rfl⟩ := open_bool Try.underlying4 (hval 4 4 v4 rfl rfl) h4
  clear hA0 hval0 hsz0 hsz
  obtain ⟨k, h⟩ := Pure.WordsSteps l0 a1 a2 a3 a4 hl0 hs0 w1 w2 w3
  refine (V.foolscaplaw8_WordsSteps.calls k _ _ l0 a1 a2 a3 a4 true W (Kd.C_of_reads (d := ByteArray.empty) (h1 := fun _ => rfl) hr0) hc0 h rfl).mono fun e W' ⟨he, bel⟩ => ?_
  subst he
  exact ⟨_, rfl, _, _, _, [], _, [], hW', trodAll_mk1 (shut_bool Try.underlying4 _), (trodAll_cons_mk (Below.trod laidOut (by kernel_rfl) (of_decide_eq_true (by kernel_rfl)) k0 bel lt0) (trodAll_cons_mk (shut_int Try.underlying25 w1) (trodAll_cons_mk (shut_int Try.underlying25 w2) (trodAll_cons_mk (shut_int Try.underlying5 w3) (trodAll_cons_mk (shut_bool Try.underlying4 _) trodAll_mk0))))), rfl, bel.frame _, fun h => by cases h⟩
theorem over : Rows.wordsStepsRow.holds Try.pinned (OpenSpec.ofChange Rows.wordsStepsSpec) :=
  OpenClaim.holds_of_wide 5 Try.f5 rfl rfl rfl rfl rfl rfl rfl ⟨rfl, rfl, rfl, rfl, rfl⟩ rfl rfl rfl rfl rfl (by kernel_rfl) Try.func5 (by kernel_rfl)
    (of_decide_eq_true (by kernel_rfl)) (by unfold Func.isWrapper; first | (rw [if_pos (by decide +kernel)]; kernel_rfl) | (rw [if_neg (by decide +kernel)]; exact ⟨rfl, rfl⟩))
    (fun os started H enc _ => lifted os started H enc)
theorem proved : Rows.WordsStepsSaid := over
#print axioms proved
end Go.Proofs.Ytifkfjpkngdhmaa.wordsSteps
namespace Go.Proofs.Ytifkfjpkngdhmaa
/-- The row, under a short name, for the claim. -/
theorem wordsSteps_holds : Rows.WordsStepsSaid := wordsSteps.proved
end Go.Proofs.Ytifkfjpkngdhmaa
