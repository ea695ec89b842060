/- Texts of the proof of 'WordsMark', merged in build order (part 3 of 3). -/
import Derived.Test.YtifkfjpkngdhmaaRows
import Derived.WalkKit
import Derived.ProofKit
import Derived.OpenShut
import Derived.ShutString
import Derived.ChangeOld
import Derived.Below
import Derived.SizedLaws
import Derived.SliceStrings
import Derived.Lib.SmallJoins
import Derived.Test.YtifkfjpkngdhmaaMWordsMark2
namespace Go.Proofs.Ytifkfjpkngdhmaa.Pure
open Go.RowKit Go.Proofs.Ytifkfjpkngdhmaa.V Go.Proofs.YtifkfjpkngdhmaaW.PrintWords Go.Proofs.YtifkfjpkngdhmaaW.PrintLast Go.Proofs.YtifkfjpkngdhmaaW.PrintMore

/-- is (a, b) a place of the lines? -/
def PlaceP (l : List ByteArray) (a b : Int) : Prop := 0 ≤ a ∧ a < l.length ∧ 0 ≤ b ∧ b ≤ (rdOf ByteArray.empty l a).size
instance (l : List ByteArray) (a b : Int) : Decidable (PlaceP l a b) := by unfold PlaceP; infer_instance

theorem place_class (l : List ByteArray) (a b : Int) : class_Place.f l a b = some (decide (PlaceP l a b)) := by
  unfold class_Place.f
  by_cases h1 : a ≥ 0
  · rw [if_pos h1]
    by_cases h2 : a < l.length
    · rw [if_pos h2]
      by_cases h3 : b ≥ 0
      · rw [if_pos h3, if_pos h1]
        congr 1
        simp only [decide_eq_decide]
        exact ⟨fun h => ⟨h1, h2, h3, h⟩, fun h => h.2.2.2⟩
      · rw [if_neg h3, decide_eq_false (fun h => h3 h.2.2.1)]
    · rw [if_neg h2, decide_eq_false (fun h => h2 h.2.1)]
  · rw [if_neg h1, decide_eq_false (fun h => h1 h.1)]

/-- the place that two numbers name. -/
theorem seat_place {l : List ByteArray} (hl : Small l) (a b : Int) (ha : 0 ≤ a) (ha2 : a ≤ 65535) (hb : 0 ≤ b) (hb2 : b ≤ 65535) :
    ∃ x y, foolscapseat_Place.f l a b = some (x, y) ∧ PlaceP l x y := by
  obtain ⟨h1, h2, h3⟩ := hl
  have e : Int.tmod a l.length = a % l.length := Int.tmod_eq_emod_of_nonneg ha
  have g0 : 0 ≤ a % (l.length : Int) := Int.emod_nonneg _ (by omega)
  have g1 : a % (l.length : Int) < l.length := Int.emod_lt_of_pos _ (by omega)
  have hz := Small.at ⟨h1, h2, h3⟩ g0 g1
  unfold foolscapseat_Place.f
  rw [if_neg (by omega), w64 (x := a) (by omega) (by omega), e, if_pos g0, if_pos g1, w64 (x := b) (by omega) (by omega), w64 (x := ((rdOf ByteArray.empty l (a % (l.length : Int))).size : Int) + 1) (by omega) (by omega), if_neg (by omega)]
  refine ⟨_, _, rfl, g0, g1, ?_, ?_⟩
  · rw [Int.tmod_eq_emod_of_nonneg hb]
    exact Int.emod_nonneg _ (by omega)
  · rw [Int.tmod_eq_emod_of_nonneg hb]
    have := Int.emod_lt_of_pos b (b := ((rdOf ByteArray.empty l (a % (l.length : Int))).size : Int) + 1) (by omega)
    omega

end Go.Proofs.Ytifkfjpkngdhmaa.Pure
namespace Go.Proofs.Ytifkfjpkngdhmaa.Pure
open Go.RowKit Go.Proofs.Ytifkfjpkngdhmaa.V Go.Proofs.YtifkfjpkngdhmaaW.PrintWords Go.Proofs.YtifkfjpkngdhmaaW.PrintLast Go.Proofs.YtifkfjpkngdhmaaW.PrintMore
set_option linter.unusedVariables false

theorem ltN_iff {a b c d : Int} : ltN a b c d = true ↔ a < c ∨ (a = c ∧ b < d) := by unfold ltN; simp
theorem ltN_no {a b c d : Int} : ltN a b c d = false ↔ ¬ (a < c ∨ (a = c ∧ b < d)) := by rw [← ltN_iff]; simp
theorem ltB_ltN (a b c d : Int) : ltB a b c d = ltN a b c d := rfl
/-- x is ahead of y. -/
abbrev LtS (x y : S24) : Prop := ltN x.f0 x.f1 y.f0 y.f1 = true

theorem lineP_in {empty : Bool} {ask : ByteArray → Int → Bool} {j : Nat} {s : ByteArray} {m : Nat} {x : S24} (h : x ∈ lineP empty ask j s m) :
    x.f0 = j ∧ ((empty = true ∧ s.size = 0 ∧ x.f1 = 0) ∨ (0 ≤ x.f1 ∧ x.f1 < m ∧ ask s x.f1 = true)) := by
  unfold lineP at h
  rcases List.mem_append.1 h with h | h
  · split at h
    · rename_i he
      obtain rfl : x = ⟨(j : Int), 0⟩ := by simpa using h
      exact ⟨rfl, .inl ⟨he.1, he.2, rfl⟩⟩
    · simp at h
  · obtain ⟨i, hi, rfl⟩ := List.mem_map.1 h
    obtain ⟨h1, h2⟩ := List.mem_filter.1 hi
    have : i < m := by simpa using h1
    exact ⟨rfl, .inr ⟨by simp, by simpa using this, h2⟩⟩
theorem in_lineP {empty : Bool} {ask : ByteArray → Int → Bool} {j : Nat} {s : ByteArray} {m : Nat} {y : Int} (h0 : 0 ≤ y) (h1 : y < m) (h : ask s y = true) : (⟨(j : Int), y⟩ : S24) ∈ lineP empty ask j s m := by
  unfold lineP
  refine List.mem_append.2 (.inr (List.mem_map.2 ⟨y.toNat, List.mem_filter.2 ⟨by simp; omega, ?_⟩, ?_⟩))
  · rw [show ((y.toNat : Nat) : Int) = y by omega]; exact h
  · rw [show ((y.toNat : Nat) : Int) = y by omega]
theorem lineP_sorted (empty : Bool) (ask : ByteArray → Int → Bool) (j : Nat) (s : ByteArray) (m : Nat) (hm : m ≤ s.size) : (lineP empty ask j s m).Pairwise LtS := by
  induction m with
  | zero => rw [lineP_zero]; split <;> simp
  | succ m ih =>
    have ih := ih (by omega)
    cases h : ask s (m : Int) with
    | false => rw [lineP_no _ _ _ _ _ h]; exact ih
    | true =>
      rw [lineP_yes _ _ _ _ _ h]
      refine List.pairwise_append.2 ⟨ih, by simp, fun x hx y hy => ?_⟩
      obtain rfl : y = ⟨(j : Int), (m : Int)⟩ := by simpa using hy
      obtain ⟨h1, h2⟩ := lineP_in hx
      refine ltN_iff.2 (.inr ⟨h1, ?_⟩)
      rcases h2 with ⟨_, h3, h4⟩ | ⟨_, h3, _⟩
      · omega
      · exact h3
/-- a place of plc is one of a line's. -/
theorem plc_mem {empty : Bool} {ask : ByteArray → Int → Bool} {l : List ByteArray} {k : Nat} {x : S24} : x ∈ plc empty ask l k ↔ ∃ j : Nat, j < k ∧ x ∈ lineP empty ask j (rdOf ByteArray.empty l (j : Int)) (rdOf ByteArray.empty l (j : Int)).size := by
  unfold plc
  rw [List.mem_flatMap]
  simp
theorem plc_sorted (empty : Bool) (ask : ByteArray → Int → Bool) (l : List ByteArray) (k : Nat) : (plc empty ask l k).Pairwise LtS := by
  induction k with
  | zero => simp [plc]
  | succ k ih =>
    rw [plc_succ]
    refine List.pairwise_append.2 ⟨ih, lineP_sorted _ _ _ _ _ (Nat.le_refl _), fun x hx y hy => ?_⟩
    obtain ⟨j, hj, h1⟩ := plc_mem.1 hx
    exact ltN_iff.2 (.inl (by rw [(lineP_in h1).1, (lineP_in hy).1]; omega))
/-- a place of plc lies in the lines. -/
theorem plc_place {empty : Bool} {ask : ByteArray → Int → Bool} {l : List ByteArray} {x : S24} (h : x ∈ plc empty ask l l.length) : PlaceP l x.f0 x.f1 := by
  obtain ⟨j, hj, h1⟩ := plc_mem.1 h
  obtain ⟨e, h2⟩ := lineP_in h1
  unfold PlaceP
  rw [e]
  refine ⟨by omega, by omega, ?_, ?_⟩
  · rcases h2 with ⟨_, _, h4⟩ | ⟨h3, _, _⟩ <;> omega
  · rcases h2 with ⟨_, h3, h4⟩ | ⟨_, h3, _⟩ <;> omega

/-- the places behind (x, y). -/
def behL (x y : Int) (L : List S24) : List S24 := L.filter fun s => ltN x y s.f0 s.f1
theorem behL_lt {x y : Int} {L : List S24} {s : S24} (h : s ∈ behL x y L) : ltN x y s.f0 s.f1 = true := (List.mem_filter.1 h).2
theorem behL_mem {x y : Int} {L : List S24} {s : S24} (h : s ∈ behL x y L) : s ∈ L := (List.mem_filter.1 h).1
theorem behL_in {x y : Int} {L : List S24} {s : S24} (h : s ∈ L) (hl : ltN x y s.f0 s.f1 = true) : s ∈ behL x y L := List.mem_filter.2 ⟨h, hl⟩

/-- what Next answers, by the places behind. -/
def nextW (l0 : List ByteArray) (p0 p1 : Int) (op : Bool) : Int → Int → List S24 → Option (Int × Int × Int × Bool × Int × Bool)
  | m, _, [] => if op = true ∧ m = 1 then words_end.f l0 p0 p1 ((l0.length : Int) - 1) else some (0, 0, 0, false, 0, false)
  | m, ll, s :: r => if 0 < m - 1 then nextW l0 p0 p1 op (m - 1) s.f0 r else if op = true ∧ ll < s.f0 then words_end.f l0 p0 p1 ll else some (s.f0, s.f1, 0, false, -1, true)
theorem nextGo_beh (l0 : List ByteArray) (p0 p1 : Int) (op : Bool) : ∀ (L : List S24) (m ll : Int), nextGo l0 p0 p1 op m ll L = nextW l0 p0 p1 op m ll (behL p0 p1 L)
  | [], m, ll => rfl
  | s :: r, m, ll => by
    rw [nextGo]
    unfold behL
    cases h : ltN p0 p1 s.f0 s.f1 with
    | false =>
      rw [if_pos rfl, List.filter_cons, if_neg (by rw [h]; simp)]
      exact nextGo_beh l0 p0 p1 op r m ll
    | true =>
      rw [if_neg (by simp), List.filter_cons, if_pos h, nextW]
      have := nextGo_beh l0 p0 p1 op r (m - 1) s.f0
      unfold behL at this
      rw [this]
/-- what Tail answers, by the places behind (or at the place, where here). -/
def behT (x y : Int) (here : Bool) (L : List S24) : List S24 := L.filter fun s => !skipB x y here s
def tailT : Int → List S24 → Int × Int × Int × Bool × Int × Bool
  | _, [] => (0, 0, 0, false, 0, false)
  | m, s :: r => if m - 1 = 0 then (s.f0, s.f1, 1, false, -1, true) else tailT (m - 1) r
theorem tailGo_beh (p0 p1 : Int) (here : Bool) : ∀ (L : List S24) (m : Int), tailGo p0 p1 here m L = tailT m (behT p0 p1 here L)
  | [], m => rfl
  | s :: r, m => by
    rw [tailGo]
    unfold behT
    cases h : skipB p0 p1 here s with
    | true =>
      rw [if_pos rfl, List.filter_cons, if_neg (show ¬ (!skipB p0 p1 here s) = true by rw [h]; simp)]
      exact tailGo_beh p0 p1 here r m
    | false =>
      rw [if_neg (by simp), List.filter_cons, if_pos (show (!skipB p0 p1 here s) = true by rw [h]; rfl), tailT]
      have := tailGo_beh p0 p1 here r (m - 1)
      unfold behT at this
      rw [this]
/-- without here: the places behind. -/
theorem behT_no (x y : Int) (L : List S24) : behT x y false L = behL x y L := by
  unfold behT behL
  congr 1
  funext s
  unfold skipB
  rw [ltB_ltN]
  by_cases h1 : ltN x y s.f0 s.f1 = true
  · rw [h1]
    have := ltN_iff.1 h1
    have e1 : ltN s.f0 s.f1 x y = false := ltN_no.2 (by omega)
    have e2 : decide (s.f0 = x ∧ s.f1 = y) = false := decide_eq_false (by omega)
    rw [e1, e2]; rfl
  · have h1 : ltN x y s.f0 s.f1 = false := by simpa using h1
    rw [h1]
    have := ltN_no.1 h1
    by_cases h2 : s.f0 = x ∧ s.f1 = y
    · rw [decide_eq_true h2]; simp
    · have e1 : ltN s.f0 s.f1 x y = true := ltN_iff.2 (by omega)
      rw [e1]; simp

theorem fails_no {l : List ByteArray} {x y n : Int} (hp : PlaceP l x y) (hn : 1 ≤ n) : words_fails.f l x y n = some false := by
  unfold words_fails.f
  rw [if_neg (by omega), place_class, decide_eq_true hp]
  rfl
theorem fails_yes {l : List ByteArray} {x y n : Int} (h : ¬ (PlaceP l x y ∧ 1 ≤ n)) : words_fails.f l x y n = some true := by
  unfold words_fails.f
  by_cases hn : n < 1
  · rw [if_pos hn]
  · rw [if_neg hn, place_class, decide_eq_false (fun hp => h ⟨hp, by omega⟩)]
    rfl
theorem next_beh {l : List ByteArray} (hl : Small l) {x y n : Int} (hp : PlaceP l x y) (hn : 1 ≤ n) (hn2 : n ≤ 9223372036854775807) (big op : Bool) : words_Next.f l x y n big op = nextW l x y op n x (behL x y (startsL l big)) := by
  unfold words_Next.f
  rw [fails_no hp hn]
  simp only [Option.bind_some, Bool.false_eq_true, if_false]
  rw [if_pos ⟨hl.2.1, hl.2.2, hn, hn2⟩, nextGo_beh]
theorem tail_beh {l : List ByteArray} (hl : Small l) {x y n : Int} (hp : PlaceP l x y) (hn : 1 ≤ n) (hn2 : n ≤ 9223372036854775807) (big here : Bool) : words_Tail.f l x y n big here = some (tailT n (behT x y here (endsL l big))) := by
  unfold words_Tail.f
  rw [fails_no hp hn]
  simp only [Option.bind_some, Bool.false_eq_true, if_false]
  rw [if_pos ⟨hl.2.1, hl.2.2, hn, hn2⟩, tailGo_beh]
/-- the motion to a line's end. -/
theorem end_val {l : List ByteArray} {x y z : Int} (h0 : 0 ≤ z) (h1 : z < l.length) : words_end.f l x y z = some (if ltN x y z (rdOf ByteArray.empty l z).size = true then (z, ((rdOf ByteArray.empty l z).size : Int), 0, false, -1, true) else (0, 0, 0, false, 0, false)) := by
  unfold words_end.f
  rw [if_pos h0, if_pos h1, less_eqN]
  cases ltN x y z ((rdOf ByteArray.empty l z).size : Int) <;> rfl

end Go.Proofs.Ytifkfjpkngdhmaa.Pure
namespace Go.Proofs.Ytifkfjpkngdhmaa.Pure
open Go.RowKit Go.Proofs.Ytifkfjpkngdhmaa.V Go.Proofs.YtifkfjpkngdhmaaW.PrintWords Go.Proofs.YtifkfjpkngdhmaaW.PrintLast Go.Proofs.YtifkfjpkngdhmaaW.PrintMore
set_option linter.unusedVariables false

theorem less_refM (a b c d : Int) : foolscapref5_Less.f a b c d = some (ltN a b c d) := by
  unfold foolscapref5_Less.f ltN
  by_cases h : a < c
  · simp [h]
  · by_cases h2 : a = c <;> simp [h, h2]

theorem lineP_len (empty : Bool) (ask : ByteArray → Int → Bool) (j : Nat) (s : ByteArray) (m : Nat) : (lineP empty ask j s m).length ≤ m + 1 := by
  unfold lineP
  rw [List.length_append, List.length_map]
  have h1 := List.length_filter_le (fun (i : Nat) => ask s (i : Int)) (List.range m)
  rw [List.length_range] at h1
  split <;> simp only [List.length_cons, List.length_nil] <;> omega

/-- a line of Starts. -/
theorem starts_l1 (l : List ByteArray) (big : Bool) (j : Nat) (hj : j ≤ 40) (s : ByteArray) (hs : s.size ≤ 1200) (A : List S24) (hA : A.length ≤ 50000) (m : Nat) (hm : 5 ≤ m) (R : Option (List S24))
    (H : ∀ k', m ≤ k' → foolscapref5_Starts.l0 k' l big (A ++ lineP true (fun s x => startB s big x) j s s.size) ((j : Int) + 1) = R) :
    ∀ (d k i : Nat), i + d = s.size → d + m + 1 ≤ k → foolscapref5_Starts.l1 k l big (A ++ lineP true (fun s x => startB s big x) j s i) (j : Int) s (i : Int) = R := by
  intro d
  induction d with
  | zero =>
    intro k i hi hk
    obtain ⟨k, rfl⟩ : ∃ m, k = m + 1 := ⟨k - 1, by omega⟩
    rw [foolscapref5_Starts.l1, if_neg (by omega), w64 (by omega) (by omega), show i = s.size by omega]
    exact H k (by omega)
  | succ d ih =>
    intro k i hi hk
    obtain ⟨k, rfl⟩ : ∃ m, k = m + 1 := ⟨k - 1, by omega⟩
    have hlen : (A ++ lineP true (fun s x => startB s big x) j s i).length < 8796093022208 := by
      have := lineP_len true (fun s x => startB s big x) j s i
      rw [List.length_append]; omega
    have next := ih k (i + 1) (by omega) (by omega)
    rw [show ((i + 1 : Nat) : Int) = (i : Int) + 1 by omega] at next
    rw [foolscapref5_Starts.l1, if_pos (by omega), if_pos (by omega), of_ref k _ _ (by omega)]
    simp only [Option.bind_some]
    rw [w64 (x := (i : Int) + 1) (by omega) (by omega)]
    by_cases h0 : ofS (bt s i) big = 0
    · rw [if_pos h0, ← lineP_no true (fun s x => startB s big x) j s i (by show startB s big i = false; unfold startB; rw [h0]; rfl)]
      exact next
    · rw [if_neg h0]
      have n0 : (ofS (bt s i) big != 0) = true := bne_iff_ne.mpr h0
      by_cases h1 : (i : Int) = 0
      · rw [if_pos h1, if_pos hlen, List.append_assoc, ← lineP_yes true (fun s x => startB s big x) j s i (by show startB s big i = true; unfold startB; rw [n0, show ((i : Int) == 0) = true from beq_iff_eq.mpr h1]; rfl)]
        exact next
      · rw [if_neg h1, w64 (x := (i : Int) - 1) (by omega) (by omega), if_pos (by omega), if_pos (by omega), of_ref k _ _ (by omega)]
        simp only [Option.bind_some]
        have n1 : ((i : Int) == 0) = false := beq_eq_false_iff_ne.mpr h1
        by_cases h2 : ofS (bt s ((i : Int) - 1)) big = ofS (bt s i) big
        · rw [if_pos h2, ← lineP_no true (fun s x => startB s big x) j s i (by show startB s big i = false; unfold startB; rw [n0, n1, h2]; simp)]
          exact next
        · rw [if_neg h2, if_pos hlen, List.append_assoc, ← lineP_yes true (fun s x => startB s big x) j s i (by show startB s big i = true; unfold startB; rw [n0, n1, bne_iff_ne.mpr h2]; rfl)]
          exact next

theorem starts_l0 {l : List ByteArray} (hl : Small l) (big : Bool) : ∀ (d k j : Nat), j + d = l.length → d * 1210 + 20 ≤ k →
    foolscapref5_Starts.l0 k l big (plc true (fun s x => startB s big x) l j) (j : Int) = some (startsL l big) := by
  intro d
  induction d with
  | zero =>
    intro k j hj hk
    obtain ⟨k, rfl⟩ : ∃ m, k = m + 1 := ⟨k - 1, by omega⟩
    rw [foolscapref5_Starts.l0, if_neg (by omega), show j = l.length by omega]
    rfl
  | succ d ih =>
    intro k j hj hk
    obtain ⟨k, rfl⟩ : ∃ m, k = m + 1 := ⟨k - 1, by omega⟩
    have hl2 := hl.2.1
    have hz := rd_size hl.2.2 j
    have hA := plc_len true (fun s x => startB s big x) hl.2.2 j
    obtain ⟨s, hse⟩ : ∃ s, rdOf ByteArray.empty l (j : Int) = s := ⟨_, rfl⟩
    have H : ∀ k', d * 1210 + 20 ≤ k' → foolscapref5_Starts.l0 k' l big (plc true (fun s x => startB s big x) l j ++ lineP true (fun s x => startB s big x) j s s.size) ((j : Int) + 1) = some (startsL l big) := by
      intro k' hk'
      have := ih k' (j + 1) (by omega) hk'
      rw [plc_succ, hse] at this
      exact this
    rw [hse] at hz
    have L1 := starts_l1 l big j (by omega) s hz _ (by omega) (d * 1210 + 20) (by omega) _ H s.size
    obtain ⟨k, rfl⟩ : ∃ m, k = m + 1 := ⟨k - 1, by omega⟩
    rw [foolscapref5_Starts.l0, if_pos (by omega), if_pos (by omega), hse]
    by_cases he : s.size = 0
    · have e1 : s.toList = ([] : List UInt8) := by
        have := toList_size s
        rw [decide_eq_true he] at this
        simpa using this
      have := L1 k 0 (by omega) (by omega)
      rw [lineP_zero, if_pos ⟨rfl, he⟩] at this
      rw [if_pos e1, if_pos (by omega), foolscapref5_Starts.j1]
      exact this
    · have e1 : ¬ s.toList = ([] : List UInt8) := by
        have := toList_size s
        rw [decide_eq_false he] at this
        simpa using this
      have := L1 k 0 (by omega) (by omega)
      rw [lineP_zero, if_neg (fun h => he h.2), List.append_nil] at this
      rw [if_neg e1, foolscapref5_Starts.j1]
      exact this
theorem starts_ref {l : List ByteArray} (hl : Small l) (big : Bool) (k : Nat) (hk : 60000 ≤ k) : foolscapref5_Starts.f k l big = some (startsL l big) := by
  have hl2 := hl.2.1
  exact starts_l0 hl big l.length k 0 (by omega) (by omega)

/-- a line of Ends. -/
theorem ends_l1 (l : List ByteArray) (big : Bool) (j : Nat) (hj : j ≤ 40) (s : ByteArray) (hs : s.size ≤ 1200) (A : List S24) (hA : A.length ≤ 50000) (m : Nat) (hm : 5 ≤ m) (R : Option (List S24))
    (H : ∀ k', m ≤ k' → foolscapref5_Ends.l0 k' l big (A ++ lineP false (fun s x => endB s big x) j s s.size) ((j : Int) + 1) = R) :
    ∀ (d k i : Nat), i + d = s.size → d + m + 1 ≤ k → foolscapref5_Ends.l1 k l big (A ++ lineP false (fun s x => endB s big x) j s i) (j : Int) s (i : Int) = R := by
  intro d
  induction d with
  | zero =>
    intro k i hi hk
    obtain ⟨k, rfl⟩ : ∃ m, k = m + 1 := ⟨k - 1, by omega⟩
    rw [foolscapref5_Ends.l1, if_neg (by omega), w64 (by omega) (by omega), show i = s.size by omega]
    exact H k (by omega)
  | succ d ih =>
    intro k i hi hk
    obtain ⟨k, rfl⟩ : ∃ m, k = m + 1 := ⟨k - 1, by omega⟩
    have hlen : (A ++ lineP false (fun s x => endB s big x) j s i).length < 8796093022208 := by
      have := lineP_len false (fun s x => endB s big x) j s i
      rw [List.length_append]; omega
    have next := ih k (i + 1) (by omega) (by omega)
    rw [show ((i + 1 : Nat) : Int) = (i : Int) + 1 by omega] at next
    rw [foolscapref5_Ends.l1, if_pos (by omega), if_pos (by omega), of_ref k _ _ (by omega)]
    simp only [Option.bind_some]
    rw [w64 (x := (i : Int) + 1) (by omega) (by omega), w64 (x := (s.size : Int) - 1) (by omega) (by omega)]
    by_cases h0 : ofS (bt s i) big = 0
    · rw [if_pos h0, ← lineP_no false (fun s x => endB s big x) j s i (by show endB s big i = false; unfold endB; rw [h0]; rfl)]
      exact next
    · rw [if_neg h0]
      have n0 : (ofS (bt s i) big != 0) = true := bne_iff_ne.mpr h0
      by_cases h1 : (i : Int) = (s.size : Int) - 1
      · rw [if_pos h1, if_pos hlen, List.append_assoc, ← lineP_yes false (fun s x => endB s big x) j s i (by show endB s big i = true; unfold endB; rw [n0, show ((i : Int) == (s.size : Int) - 1) = true from beq_iff_eq.mpr h1]; rfl)]
        exact next
      · rw [if_neg h1, if_pos (by omega), if_pos (by omega), of_ref k _ _ (by omega)]
        simp only [Option.bind_some]
        have n1 : ((i : Int) == (s.size : Int) - 1) = false := beq_eq_false_iff_ne.mpr h1
        by_cases h2 : ofS (bt s ((i : Int) + 1)) big = ofS (bt s i) big
        · rw [if_pos h2, ← lineP_no false (fun s x => endB s big x) j s i (by show endB s big i = false; unfold endB; rw [n0, n1, h2]; simp)]
          exact next
        · rw [if_neg h2, if_pos hlen, List.append_assoc, ← lineP_yes false (fun s x => endB s big x) j s i (by show endB s big i = true; unfold endB; rw [n0, n1, bne_iff_ne.mpr h2]; rfl)]
          exact next
theorem ends_l0 {l : List ByteArray} (hl : Small l) (big : Bool) : ∀ (d k j : Nat), j + d = l.length → d * 1210 + 20 ≤ k →
    foolscapref5_Ends.l0 k l big (plc false (fun s x => endB s big x) l j) (j : Int) = some (endsL l big) := by
  intro d
  induction d with
  | zero =>
    intro k j hj hk
    obtain ⟨k, rfl⟩ : ∃ m, k = m + 1 := ⟨k - 1, by omega⟩
    rw [foolscapref5_Ends.l0, if_neg (by omega), show j = l.length by omega]
    rfl
  | succ d ih =>
    intro k j hj hk
    obtain ⟨k, rfl⟩ : ∃ m, k = m + 1 := ⟨k - 1, by omega⟩
    have hl2 := hl.2.1
    have hz := rd_size hl.2.2 j
    have hA := plc_len false (fun s x => endB s big x) hl.2.2 j
    obtain ⟨s, hse⟩ : ∃ s, rdOf ByteArray.empty l (j : Int) = s := ⟨_, rfl⟩
    have H : ∀ k', d * 1210 + 20 ≤ k' → foolscapref5_Ends.l0 k' l big (plc false (fun s x => endB s big x) l j ++ lineP false (fun s x => endB s big x) j s s.size) ((j : Int) + 1) = some (endsL l big) := by
      intro k' hk'
      have := ih k' (j + 1) (by omega) hk'
      rw [plc_succ, hse] at this
      exact this
    rw [hse] at hz
    have := ends_l1 l big j (by omega) s hz _ (by omega) (d * 1210 + 20) (by omega) _ H s.size k 0 (by omega) (by omega)
    rw [lineP_zero, if_neg (by simp), List.append_nil] at this
    rw [foolscapref5_Ends.l0, if_pos (by omega), if_pos (by omega), hse]
    exact this
theorem ends_ref {l : List ByteArray} (hl : Small l) (big : Bool) (k : Nat) (hk : 60000 ≤ k) : foolscapref5_Ends.f k l big = some (endsL l big) := by
  have hl2 := hl.2.1
  exact ends_l0 hl big l.length k 0 (by omega) (by omega)

theorem rd_drop {L : List S24} {i : Nat} (h : i < L.length) : L.drop i = rd_T24 L (i : Int) :: L.drop (i + 1) := by
  rw [List.drop_eq_getElem_cons h]
  unfold rd_T24
  simp [List.getD_eq_getElem?_getD, List.getElem?_eq_getElem h]
theorem rd_take {L : List S24} {i : Nat} (h : i < L.length) : L.take (i + 1) = L.take i ++ [rd_T24 L (i : Int)] := by
  rw [List.take_add_one, List.getElem?_eq_getElem h]
  unfold rd_T24
  simp [List.getD_eq_getElem?_getD, List.getElem?_eq_getElem h]

/-- behind: what Tail and Next pass over is what it drops. -/
theorem skip_no (x y : Int) (here : Bool) (s : S24) : (!skipB x y here s) = (ltN x y s.f0 s.f1 || (here && (s.f0 == x && s.f1 == y))) := by
  unfold skipB
  rw [ltB_ltN]
  by_cases h1 : ltN x y s.f0 s.f1 = true
  · rw [h1]
    have := ltN_iff.1 h1
    have e1 : ltN s.f0 s.f1 x y = false := ltN_no.2 (by omega)
    have e2 : decide (s.f0 = x ∧ s.f1 = y) = false := decide_eq_false (by omega)
    rw [e1, e2]; rfl
  · have h1 : ltN x y s.f0 s.f1 = false := by simpa using h1
    rw [h1]
    have := ltN_no.1 h1
    by_cases h2 : s.f0 = x ∧ s.f1 = y
    · have e1 : ltN s.f0 s.f1 x y = false := ltN_no.2 (by omega)
      rw [decide_eq_true h2, e1, show (s.f0 == x) = true from beq_iff_eq.mpr h2.1, show (s.f1 == y) = true from beq_iff_eq.mpr h2.2]
      cases here <;> rfl
    · have e1 : ltN s.f0 s.f1 x y = true := ltN_iff.2 (by omega)
      rw [e1]
      by_cases h3 : s.f0 = x
      · rw [show (s.f1 == y) = false from beq_eq_false_iff_ne.mpr (fun h => h2 ⟨h3, h⟩)]; simp
      · rw [show (s.f0 == x) = false from beq_eq_false_iff_ne.mpr h3]; simp

theorem behind_l (L : List S24) (hL : L.length ≤ 50000) (here : Bool) (x y : Int) : ∀ (d k i : Nat) (acc : List S24), i + d = L.length → acc.length ≤ i → d + 1 ≤ k →
    foolscapref5_behind.l0 k L here acc (i : Int) x y = some (acc ++ (L.drop i).filter fun s => !skipB x y here s) := by
  intro d
  induction d with
  | zero =>
    intro k i acc hi ha hk
    obtain ⟨k, rfl⟩ : ∃ m, k = m + 1 := ⟨k - 1, by omega⟩
    rw [foolscapref5_behind.l0, if_neg (by omega), List.drop_eq_nil_of_le (by omega)]
    simp
  | succ d ih =>
    intro k i acc hi ha hk
    obtain ⟨k, rfl⟩ : ∃ m, k = m + 1 := ⟨k - 1, by omega⟩
    obtain ⟨s, hse⟩ : ∃ s, rd_T24 L (i : Int) = s := ⟨_, rfl⟩
    have e1 : wrap64 ((i : Int) + 1) = ((i + 1 : Nat) : Int) := by rw [w64 (by omega) (by omega)]; omega
    have yes : (!skipB x y here s) = true → foolscapref5_behind.l0 k L here (acc ++ [s]) ((i + 1 : Nat) : Int) x y = some (acc ++ (L.drop i).filter fun s => !skipB x y here s) := by
      intro h
      rw [ih k (i + 1) (acc ++ [s]) (by omega) (by simp; omega) (by omega), rd_drop (show i < L.length by omega), hse, List.filter_cons, if_pos h, List.append_assoc]
      rfl
    have no : (!skipB x y here s) = false → foolscapref5_behind.l0 k L here acc ((i + 1 : Nat) : Int) x y = some (acc ++ (L.drop i).filter fun s => !skipB x y here s) := by
      intro h
      rw [ih k (i + 1) acc (by omega) (by omega) (by omega), rd_drop (show i < L.length by omega), hse, List.filter_cons, if_neg (by rw [h]; simp)]
    rw [skip_no] at yes no
    rw [foolscapref5_behind.l0, if_pos (by omega), if_pos (by omega), less_refM, e1, hse]
    simp only [Option.bind_some]
    cases hc : ltN x y s.f0 s.f1 with
    | true =>
      rw [if_pos rfl, if_pos (by omega)]
      exact yes (by rw [hc]; rfl)
    | false =>
      rw [if_neg (by simp)]
      cases here with
      | false =>
        rw [if_neg (by simp)]
        exact no (by rw [hc]; rfl)
      | true =>
        rw [if_pos rfl]
        cases hd : (s.f0 == x && s.f1 == y) with
        | true =>
          rw [if_pos rfl, if_pos (by omega)]
          exact yes (by rw [hc, hd]; rfl)
        | false =>
          rw [if_neg (by simp)]
          exact no (by rw [hc, hd]; rfl)
theorem behind_ref (L : List S24) (hL : L.length ≤ 50000) (here : Bool) (x y : Int) (k : Nat) (hk : 60000 ≤ k) : foolscapref5_behind.f k L x y here = some (behT x y here L) := by
  have := behind_l L hL here x y L.length k 0 [] (by omega) (by simp) (by omega)
  exact this

theorem ahead_l (L : List S24) (hL : L.length ≤ 50000) (x y : Int) : ∀ (i k : Nat) (acc : List S24), i ≤ L.length → acc.length + i ≤ L.length → i + 1 ≤ k →
    foolscapref5_ahead.l0 k L acc ((i : Int) - 1) x y = some (acc ++ ((L.take i).filter fun s => ltN s.f0 s.f1 x y).reverse) := by
  intro i
  induction i with
  | zero =>
    intro k acc hi ha hk
    obtain ⟨k, rfl⟩ : ∃ m, k = m + 1 := ⟨k - 1, by omega⟩
    rw [foolscapref5_ahead.l0, if_neg (by omega)]
    simp
  | succ i ih =>
    intro k acc hi ha hk
    obtain ⟨k, rfl⟩ : ∃ m, k = m + 1 := ⟨k - 1, by omega⟩
    obtain ⟨s, hse⟩ : ∃ s, rd_T24 L (i : Int) = s := ⟨_, rfl⟩
    rw [show ((i + 1 : Nat) : Int) - 1 = (i : Int) by omega]
    rw [foolscapref5_ahead.l0, if_pos (by omega), if_pos (by omega), if_pos (by omega), less_refM, w64 (x := (i : Int) - 1) (by omega) (by omega), hse]
    simp only [Option.bind_some]
    rw [rd_take (show i < L.length by omega), List.filter_append, hse]
    cases hc : ltN s.f0 s.f1 x y with
    | true =>
      rw [if_pos rfl, if_pos (by omega), ih k _ (by omega) (by simp; omega) (by omega)]
      simp [hc]
    | false =>
      rw [if_neg (by simp), ih k _ (by omega) (by omega) (by omega)]
      simp [hc]
theorem ahead_ref (L : List S24) (hL : L.length ≤ 50000) (x y : Int) (k : Nat) (hk : 60000 ≤ k) : foolscapref5_ahead.f k L x y = some ((L.filter fun s => ltN s.f0 s.f1 x y).reverse) := by
  unfold foolscapref5_ahead.f
  rw [w64 (by omega) (by omega)]
  have := ahead_l L hL x y L.length k [] (Nat.le_refl _) (by simp) (by omega)
  rw [List.take_length] at this
  exact this
/-- in order: those with which it begins that are ahead are all that are ahead. -/
theorem ahead_filter {L : List S24} (hL : L.Pairwise LtS) (x y : Int) : aheadL x y L = L.filter fun s => ltN s.f0 s.f1 x y := by
  induction L with
  | nil => rfl
  | cons s r ih =>
    obtain ⟨h1, h2⟩ := List.pairwise_cons.1 hL
    have ih := ih h2
    unfold aheadL at ih ⊢
    rw [List.takeWhile_cons, List.filter_cons]
    cases hc : ltN s.f0 s.f1 x y with
    | true => simp only [if_true]; rw [ih]
    | false =>
      simp only [Bool.false_eq_true, if_false]
      refine (List.filter_eq_nil_iff.2 (fun t ht => ?_)).symm
      have h3 := ltN_iff.1 (h1 t ht)
      have h4 := ltN_no.1 hc
      simp only [Bool.not_eq_true]
      exact ltN_no.2 (by omega)
theorem nth_ref (L : List S24) (n way : Int) (hn : 1 ≤ n) (hn2 : n ≤ 9223372036854775807) : foolscapref5_nth.f L n way = some (if n > (L.length : Int) then no else ((rd_T24 L (n - 1)).f0, (rd_T24 L (n - 1)).f1, way, false, -1, true)) := by
  unfold foolscapref5_nth.f foolscapref5_none.f
  by_cases h : n > (L.length : Int)
  · rw [if_pos h, if_pos h]; rfl
  · rw [if_neg h, if_neg h, w64 (by omega) (by omega), if_pos (by omega), if_pos (by omega)]
theorem place_ref8 (l : List ByteArray) (a b : Int) : foolscapref5_Place.f l a b = some (decide (PlaceP l a b)) := place_class l a b
theorem may_ref8 (l : List ByteArray) (a b n : Int) : foolscapref5_may.f l a b n = some (decide (PlaceP l a b ∧ 1 ≤ n)) := by
  unfold foolscapref5_may.f
  rw [place_ref8]
  simp only [Option.bind_some]
  by_cases h : PlaceP l a b
  · rw [decide_eq_true h, if_pos rfl]
    simp [h]
  · rw [decide_eq_false h, if_neg (by simp), decide_eq_false (fun hh => h hh.1)]

end Go.Proofs.Ytifkfjpkngdhmaa.Pure
namespace Go.Proofs.Ytifkfjpkngdhmaa.V
open Go.RowKit Go.Shelf Go.Proofs.Ytifkfjpkngdhmaa.Pure Go.Proofs.YtifkfjpkngdhmaaW.PrintWords Go.Proofs.YtifkfjpkngdhmaaW.PrintLast Go.Proofs.YtifkfjpkngdhmaaW.PrintMore
set_option linter.unusedVariables false
/-- a motion out of what back answers. -/
def words_Back.m (b : Int × Int × Bool) : Int × Int × Int × Bool × Int × Bool := if b.2.2 = true then (b.1, b.2.1, 0, false, -1, true) else (0, 0, 0, false, 0, false)
/-- what words.Back answers, where the text is light and the count a machine's. -/
def words_Back.f (l0 : List ByteArray) (a1_0 a1_1 a2 : Int) (a3 : Bool) : Option (Int × Int × Int × Bool × Int × Bool) :=
  (words_fails.f l0 a1_0 a1_1 a2).bind fun t => if t = true then some (0, 0, 0, false, 0, false) else
    if l0.length ≤ 40 ∧ (∀ s ∈ l0, s.size ≤ 1200) ∧ 1 ≤ a2 ∧ a2 ≤ 9223372036854775807 then some (words_Back.m (backGo a1_0 a1_1 a2 (startsL l0 a3))) else none
theorem words_Back.calls (A0 : Option Addr) (c0 : Nat) (l0 : List ByteArray) (a1_0 a1_1 a2 : Int) (a3 : Bool) (r1 r2 r3 : Int) (r4 : Bool) (r5 : Int) (r6 : Bool) (w : World) (hr0 : Kd.C Kd.string w A0 l0.length l0) (hc0 : l0.length ≤ c0) (h : words_Back.f l0 a1_0 a1_1 a2 a3 = some (r1, r2, r3, r4, r5, r6)) :
    Calls Try.prog 14 #[.slice A0 l0.length c0, .agg #[.int .i64 a1_0, .int .i64 a1_1], .int .i64 a2, .bool a3] w fun e w' => e = .returned (.tuple #[.agg #[.int .i64 r1, .int .i64 r2, .int .i64 r3, .bool r4, .int .i64 r5], .bool r6]) ∧ Below w.heap.size w w' := by
  unfold words_Back.f at h
  cases hf : words_fails.f l0 a1_0 a1_1 a2 with
  | none => rw [hf] at h; cases h
  | some t =>
    rw [hf] at h
    have h : (if t = true then some (0, 0, 0, false, 0, false) else if l0.length ≤ 40 ∧ (∀ s ∈ l0, s.size ≤ 1200) ∧ 1 ≤ a2 ∧ a2 ≤ 9223372036854775807 then some (words_Back.m (backGo a1_0 a1_1 a2 (startsL l0 a3))) else none) = some (r1, r2, r3, r4, r5, r6) := h
    cases t with
    | true =>
      rw [if_pos rfl] at h
      injection h with h
      injection h with g1 h; injection h with g2 h; injection h with g3 h; injection h with g4 h; injection h with g5 g6
      subst g1 g2 g3 g4 g5 g6
      exact back14_fail A0 c0 l0 a1_0 a1_1 a2 a3 w hr0 hc0 hf
    | false =>
      rw [if_neg (by simp)] at h
      by_cases hb : l0.length ≤ 40 ∧ (∀ s ∈ l0, s.size ≤ 1200) ∧ 1 ≤ a2 ∧ a2 ≤ 9223372036854775807
      · rw [if_pos hb] at h
        obtain ⟨h1, h2, h3, h4⟩ := hb
        injection h with h
        obtain ⟨b1, b2, b3, hbk⟩ : ∃ b1 b2 b3, backGo a1_0 a1_1 a2 (startsL l0 a3) = (b1, b2, b3) := ⟨_, _, _, rfl⟩
        have K := back14_walk A0 c0 l0 a1_0 a1_1 a2 a3 b1 b2 b3 w hr0 hc0 h1 h2 h3 h4 hf hbk
        rw [hbk] at h
        unfold words_Back.m at h
        cases b3 with
        | true =>
          rw [if_pos rfl] at h
          injection h with g1 h; injection h with g2 h; injection h with g3 h; injection h with g4 h; injection h with g5 g6
          subst g1 g2 g3 g4 g5 g6
          exact K
        | false =>
          rw [if_neg (by simp)] at h
          injection h with g1 h; injection h with g2 h; injection h with g3 h; injection h with g4 h; injection h with g5 g6
          subst g1 g2 g3 g4 g5 g6
          exact K
      · rw [if_neg hb] at h; cases h
end Go.Proofs.Ytifkfjpkngdhmaa.V
namespace Go.Proofs.Ytifkfjpkngdhmaa.V
open Go.RowKit Go.Proofs.YtifkfjpkngdhmaaW.PrintWords Go.Proofs.YtifkfjpkngdhmaaW.PrintLast Go.Proofs.YtifkfjpkngdhmaaW.PrintMore
attribute [local go_sem] max2_int min2_int max_two min_two max_three min_three max_four min_four   -- for this text's walks alone
set_option linter.unusedVariables false
set_option linter.unusedSimpArgs false

/-! ### foolscaplaw8_known: function 8 -/
def foolscaplaw8_known.f  : Option (Bool) := (some (([(⟨#[97, 98, 32, 32, 99, 100]⟩ : ByteArray)] : List ByteArray) : List ByteArray)).bind fun y112 => ((words_Next.f y112 0 0 1 false false).bind fun bt115 => ((words_Tail.f y112 0 0 2 false false).bind fun bt122 => ((words_Back.f y112 0 0 1 false).bind fun bt129 => ((words_Next.f y112 0 4 1 false true).bind fun bt136 => (if bt115.2.2.2.2.2 = true then (if bt115.2.1 = 4 then (if bt122.2.2.2.2.2 = true then (if bt122.2.1 = 5 then (if bt122.2.2.1 = 1 then (if bt129.2.2.2.2.2 = true then (some false) else (if bt136.2.2.2.2.2 = true then (some (bt136.2.1 == 6)) else (some false))) else (some false)) else (some false)) else (some false)) else (some false)) else (some false))))))
set_option maxHeartbeats 8000000 in
set_option maxRecDepth 100000 in
theorem foolscaplaw8_known.calls  (r : Bool) (w : World) (h : foolscaplaw8_known.f  = some r) (hrT : r = true) :
    Calls Try.prog 8 #[] w fun e w' => e = .returned (.bool r) ∧ Below w.heap.size w w' := by
  have HT := Aside0.mk hrT
  clear hrT
  have hu24 := Try.underlying24
  have hu32 := Try.underlying32
  have HB := Aside0.mk (Below.refl w.heap.size w)
  have H : ((some (([(⟨#[97, 98, 32, 32, 99, 100]⟩ : ByteArray)] : List ByteArray) : List ByteArray)).bind fun y112 => ((words_Next.f y112 0 0 1 false false).bind fun bt115 => ((words_Tail.f y112 0 0 2 false false).bind fun bt122 => ((words_Back.f y112 0 0 1 false).bind fun bt129 => ((words_Next.f y112 0 4 1 false true).bind fun bt136 => (if bt115.2.2.2.2.2 = true then (if bt115.2.1 = 4 then (if bt122.2.2.2.2.2 = true then (if bt122.2.1 = 5 then (if bt122.2.2.1 = 1 then (if bt129.2.2.2.2.2 = true then (some false) else (if bt136.2.2.2.2.2 = true then (some (bt136.2.1 == 6)) else (some false))) else (some false)) else (some false)) else (some false)) else (some false)) else (some false))))))) = some r := h
  clear h
  obtain ⟨y112, hy112⟩ : ∃ y_ : List ByteArray, y_ = (([(⟨#[97, 98, 32, 32, 99, 100]⟩ : ByteArray)] : List ByteArray)) := ⟨_, rfl⟩
  replace H : ((words_Next.f y112 0 0 1 false false).bind fun bt115 => ((words_Tail.f y112 0 0 2 false false).bind fun bt122 => ((words_Back.f y112 0 0 1 false).bind fun bt129 => ((words_Next.f y112 0 4 1 false true).bind fun bt136 => (if bt115.2.2.2.2.2 = true then (if bt115.2.1 = 4 then (if bt122.2.2.2.2.2 = true then (if bt122.2.1 = 5 then (if bt122.2.2.1 = 1 then (if bt129.2.2.2.2.2 = true then (some false) else (if bt136.2.2.2.2.2 = true then (some (bt136.2.1 == 6)) else (some false))) else (some false)) else (some false)) else (some false)) else (some false)) else (some false)))))) = some r := by first | (rw [hy112]; with_reducible exact H) | (have H2_ := (Option.bind_some _ _).symm.trans H; rw [hy112]; with_reducible exact H2_) | (have H2_ := (Option.bind_some _ _).symm.trans H; with_reducible exact H2_) | with_reducible exact H | (rw [hy112]; exact H) | exact H
  have Ny112 := Aside0.mk hy112
  clear hy112
  replace H := Option.bind_eq_some_iff.mp H
  obtain ⟨⟨t115, t116, t117, t118, t119, t120⟩, A10, H⟩ := H
  replace H : ((words_Tail.f y112 0 0 2 false false).bind fun bt122 => ((words_Back.f y112 0 0 1 false).bind fun bt129 => ((words_Next.f y112 0 4 1 false true).bind fun bt136 => (if t120 = true then (if t116 = 4 then (if bt122.2.2.2.2.2 = true then (if bt122.2.1 = 5 then (if bt122.2.2.1 = 1 then (if bt129.2.2.2.2.2 = true then (some false) else (if bt136.2.2.2.2.2 = true then (some (bt136.2.1 == 6)) else (some false))) else (some false)) else (some false)) else (some false)) else (some false)) else (some false))))) = some r := H
  have A1 := Aside0.mk A10
  clear A10
  replace H := Option.bind_eq_some_iff.mp H
  obtain ⟨⟨t122, t123, t124, t125, t126, t127⟩, A20, H⟩ := H
  replace H : ((words_Back.f y112 0 0 1 false).bind fun bt129 => ((words_Next.f y112 0 4 1 false true).bind fun bt136 => (if t120 = true then (if t116 = 4 then (if t127 = true then (if t123 = 5 then (if t124 = 1 then (if bt129.2.2.2.2.2 = true then (some false) else (if bt136.2.2.2.2.2 = true then (some (bt136.2.1 == 6)) else (some false))) else (some false)) else (some false)) else (some false)) else (some false)) else (some false)))) = some r := H
  have A2 := Aside0.mk A20
  clear A20
  replace H := Option.bind_eq_some_iff.mp H
  obtain ⟨⟨t129, t130, t131, t132, t133, t134⟩, A30, H⟩ := H
  replace H : ((words_Next.f y112 0 4 1 false true).bind fun bt136 => (if t120 = true then (if t116 = 4 then (if t127 = true then (if t123 = 5 then (if t124 = 1 then (if t134 = true then (some false) else (if bt136.2.2.2.2.2 = true then (some (bt136.2.1 == 6)) else (some false))) else (some false)) else (some false)) else (some false)) else (some false)) else (some false))) = some r := H
  have A3 := Aside0.mk A30
  clear A30
  replace H := Option.bind_eq_some_iff.mp H
  obtain ⟨⟨t136, t137, t138, t139, t140, t141⟩, A40, H⟩ := H
  replace H : (if t120 = true then (if t116 = 4 then (if t127 = true then (if t123 = 5 then (if t124 = 1 then (if t134 = true then (some false) else (if t141 = true then (some (t137 == 6)) else (some false))) else (some false)) else (some false)) else (some false)) else (some false)) else (some false)) = some r := H
  have A4 := Aside0.mk A40
  clear A40
  by_cases c5 : t120 = true
  · subst c5
    have H1 : (if t116 = 4 then (if t127 = true then (if t123 = 5 then (if t124 = 1 then (if t134 = true then (some false) else (if t141 = true then (some (t137 == 6)) else (some false))) else (some false)) else (some false)) else (some false)) else (some false)) = some r := by rw [if_pos rfl] at H; exact H
    clear H
    have H := H1
    clear H1
    by_cases c6 : t116 = 4
    · rw [if_pos c6] at H
      have c6b0 : (t116 == 4) = true := beq_iff_eq.mpr c6
      have c6b1 : (t116 != 4) = false := bne_eq_false_iff_eq.mpr c6
      clear c6
      by_cases c7 : t127 = true
      · subst c7
        have H1 : (if t123 = 5 then (if t124 = 1 then (if t134 = true then (some false) else (if t141 = true then (some (t137 == 6)) else (some false))) else (some false)) else (some false)) = some r := by rw [if_pos rfl] at H; exact H
        clear H
        have H := H1
        clear H1
        by_cases c8 : t123 = 5
        · rw [if_pos c8] at H
          have c8b0 : (t123 == 5) = true := beq_iff_eq.mpr c8
          have c8b1 : (t123 != 5) = false := bne_eq_false_iff_eq.mpr c8
          clear c8
          by_cases c9 : t124 = 1
          · rw [if_pos c9] at H
            have c9b0 : (t124 == 1) = true := beq_iff_eq.mpr c9
            have c9b1 : (t124 != 1) = false := bne_eq_false_iff_eq.mpr c9
            clear c9
            by_cases c10 : t134 = true
            · subst c10
              have H1 : (some false) = some r := by rw [if_pos rfl] at H; exact H
              clear H
              have H := H1
              clear H1
              exact absurd ((Option.some.inj H).trans HT.out) (by decide)
            · replace c10 := Bool.eq_false_iff.mpr c10
              subst c10
              have H1 : (if t141 = true then (some (t137 == 6)) else (some false)) = some r := by rw [if_neg (show ¬ (false = true) by decide)] at H; exact H
              clear H
              have H := H1
              clear H1
              by_cases c34 : t141 = true
              · subst c34
                have H1 : (some (t137 == 6)) = some r := by rw [if_pos rfl] at H; exact H
                clear H
                have H := H1
                clear H1
                obtain rfl := Option.some.inj H
                go_enter Try.func8, Try.ntmps8
                go_wp2_with (first | ((with_reducible refine gate_dst (N := 10) rfl ?_); refine Kd.R_lit Kd.string _ 9 ?hg (N := 10) ?hd (xs := ([(⟨#[97, 98, 32, 32, 99, 100]⟩ : ByteArray)] : List ByteArray)) (inner := [.string (⟨#[97, 98, 32, 32, 99, 100]⟩ : ByteArray)]) (ok := fun _ => True) (okp := fun _ => True) ?hr ?hp (fun _ hk => hk) trivial (Below.refl _ _) (Nat.le_refl _) (by simp) ?_; (case hd => rfl); (case hg => rfl); (case hr => first | (go_simp; done) | (go_simp; rfl)); (case hp => exact (Reps.one (show Kd.M Kd.string _ _ _ (⟨#[97, 98, 32, 32, 99, 100]⟩ : ByteArray) [.string (⟨#[97, 98, 32, 32, 99, 100]⟩ : ByteArray)] from rfl) (Reps.none _ _))); intro v113 w35 ho36 hb hg_ hnew_; clear hg_ hnew_; (first | rw [← Ny112.out] at ho36 | (simp only [Int.reduceToNat] at ho36; rw [← Ny112.out] at ho36)); have n0_ := Aside0.mk (Kd.R_lower ho36 (below_size (by repeat (first | (with_reducible first | exact HB.out | apply below_alloc | apply pw_below_drewN | apply below_drew1) | exact HB.out)))); have n1_ := Aside0.mk (below_step (by repeat (first | (with_reducible first | exact HB.out | apply below_alloc | apply pw_below_drewN | apply below_drew1) | exact HB.out)) hb); clear HB; have HO114 := n0_; have HB := n1_; clear n0_ n1_; clear hb ho36; obtain ⟨Ao37, co37, eo37⟩ := Kd.R_slice HO114.out; subst eo37) | ((with_reducible refine gate_callee (f := 11) rfl ?_); refine goesL_ (some 14) rfl rfl Try.func11 (by kernel_rfl) rfl #[.slice Ao37 y112.length co37, .agg #[.int .i64 0, .int .i64 0], .int .i64 1, .bool false, .bool false] rfl (by (try simp only [List.map_toArray, List.map_cons, List.map_nil]); first | done | rfl | (simp only [List.length_drop, List.length_take]; rfl)) ?_; (with_reducible refine (words_Next.calls _ _ y112 0 0 1 false false t115 t116 t117 t118 t119 true _ ?side1 ?side2 A1.out).mono ?_); (case side1 => repeat (first | exact (Kd.R_reads' HO114.out).2.2 | (with_reducible refine Kd.C_alloc ?_ _) | (with_reducible refine Kd.C_drewN ?_ _) | (with_reducible refine Kd.C_drew ?_))); (case side2 => exact (Kd.R_reads' HO114.out).2.1); rintro e w38 ⟨rfl, hb⟩; refine ⟨_, rfl, ?_⟩; have n0_ := Aside0.mk (Kd.R_below (by (with_reducible repeat (first | apply Kd.R_alloc | apply Kd.R_drewN | apply Kd.R_drew)); exact HO114.out) hb); have n1_ := Aside0.mk (below_step (by repeat (first | (with_reducible first | exact HB.out | apply below_alloc | apply pw_below_drewN | apply below_drew1) | exact HB.out)) hb); clear HO114; clear HB; have HO114 := n0_; have HB := n1_; clear n0_ n1_; (try clear hb); (try clear hb2); (try clear hk); (try clear hi)) | ((with_reducible refine gate_dst (N := 2) rfl ?_); refine box_event ?hg (N := 2) ?hd (cs := #[.int .i64 0, .int .i64 0, .int .i64 0, .bool false, .int .i64 0]) (t := 32) ?hr ?_; (case hd => rfl); (case hg => rfl); (case hr => first | (go_simp; done) | (go_simp; rfl)); intro gb121 hg w39 hbox hb; have n0_ := Aside0.mk (Kd.R_below (by (with_reducible repeat (first | apply Kd.R_alloc | apply Kd.R_drewN | apply Kd.R_drew)); exact HO114.out) hb); have n1_ := Aside0.mk (below_step (by repeat (first | (with_reducible first | exact HB.out | apply below_alloc | apply pw_below_drewN | apply below_drew1) | exact HB.out)) hb); have n2_ := Aside0.mk (hbox); have n3_ := Aside0.mk ((by rw [hg]; exact (below_size (by repeat (first | (with_reducible first | exact HB.out | apply below_alloc | apply pw_below_drewN | apply below_drew1) | exact HB.out))) : w.heap.size ≤ gb121)); have n4_ := Aside0.mk ((by rw [hg]; exact (below_size (by repeat (first | (with_reducible first | exact HB.out | apply below_alloc | apply pw_below_drewN | apply below_drew1) | exact HB.out))) : w.heap.size ≤ gb121)); clear HO114; clear HB; have HO114 := n0_; have HB := n1_; have BK121 := n2_; have GW121 := n3_; have GE121 := n4_; clear n0_ n1_ n2_ n3_ n4_; clear hb hbox hg; have hcz40_0 : w39.cell? ⟨gb121, 0, none⟩ = some (.int .i64 0) := (blk_cell BK121.out 0).trans rfl; have hcz40_1 : w39.cell? ⟨gb121, 1, none⟩ = some (.int .i64 0) := (blk_cell BK121.out 1).trans rfl; have hcz40_2 : w39.cell? ⟨gb121, 2, none⟩ = some (.int .i64 0) := (blk_cell BK121.out 2).trans rfl; have hcz40_3 : w39.cell? ⟨gb121, 3, none⟩ = some (.bool false) := (blk_cell BK121.out 3).trans rfl; have hcz40_4 : w39.cell? ⟨gb121, 4, none⟩ = some (.int .i64 0) := (blk_cell BK121.out 4).trans rfl; have hfz40_0 := blk_frozen BK121.out 0; have hfz40_1 := blk_frozen BK121.out 1; have hfz40_2 := blk_frozen BK121.out 2; have hfz40_3 := blk_frozen BK121.out 3; have hfz40_4 := blk_frozen BK121.out 4) | ((with_reducible refine gate_callee (f := 16) rfl ?_); refine goesL_ (some 20) rfl rfl Try.func16 (by kernel_rfl) rfl #[.slice Ao37 y112.length co37, .agg #[.int .i64 0, .int .i64 0], .int .i64 2, .bool false, .bool false] rfl (by (try simp only [List.map_toArray, List.map_cons, List.map_nil]); first | done | rfl | (simp only [List.length_drop, List.length_take]; rfl)) ?_; (with_reducible refine (words_Tail.calls _ _ y112 0 0 2 false false t122 t123 t124 t125 t126 true _ ?side1 ?side2 A2.out).mono ?_); (case side1 => refine (Kd.R_reads' (e := 9) (base := w.heap.size) (ok := fun k_ => True) (n := y112.length) (c := co37) ?_).2.2; exact (by (with_reducible repeat (first | apply Kd.R_alloc | apply Kd.R_drewN | apply Kd.R_drew)); exact (Kd.R_mono (Kd.R_far (p := ⟨gb121, 4, none⟩) (Kd.R_far (p := ⟨gb121, 3, none⟩) (Kd.R_far (p := ⟨gb121, 2, none⟩) (Kd.R_far (p := ⟨gb121, 1, none⟩) (Kd.R_far (p := ⟨gb121, 0, none⟩) (Kd.R_types HO114.out BK121.out (by decide)) (fun _ hk => hk.2) (.int .i64 t115)) (fun _ hk => hk.2) (.int .i64 t116)) (fun _ hk => hk.2) (.int .i64 t117)) (fun _ hk => hk.2) (.bool t118)) (fun _ hk => hk.2) (.int .i64 t119)) (fun _ h_ => h_.1)))); (case side2 => exact (Kd.R_reads' HO114.out).2.1); rintro e w41 ⟨rfl, hb⟩; refine ⟨_, rfl, ?_⟩; have n0_ := Aside0.mk (Kd.R_below (by (with_reducible repeat (first | apply Kd.R_alloc | apply Kd.R_drewN | apply Kd.R_drew)); exact (Kd.R_mono (Kd.R_far (p := ⟨gb121, 4, none⟩) (Kd.R_far (p := ⟨gb121, 3, none⟩) (Kd.R_far (p := ⟨gb121, 2, none⟩) (Kd.R_far (p := ⟨gb121, 1, none⟩) (Kd.R_far (p := ⟨gb121, 0, none⟩) (Kd.R_types HO114.out BK121.out (by decide)) (fun _ hk => hk.2) (.int .i64 t115)) (fun _ hk => hk.2) (.int .i64 t116)) (fun _ hk => hk.2) (.int .i64 t117)) (fun _ hk => hk.2) (.bool t118)) (fun _ hk => hk.2) (.int .i64 t119)) (fun _ h_ => h_.1))) hb); have n1_ := Aside0.mk (blk_below (g := gb121) (o := .cells #[.int .i64 t115, .int .i64 t116, .int .i64 t117, .bool t118, .int .i64 t119] 32 (0, 0)) (by refine blk_put (cs := #[.int .i64 t115, .int .i64 t116, .int .i64 t117, .bool t118, .int .i64 0]) ?_ 4 _ rfl; refine blk_put (cs := #[.int .i64 t115, .int .i64 t116, .int .i64 t117, .bool false, .int .i64 0]) ?_ 3 _ rfl; refine blk_put (cs := #[.int .i64 t115, .int .i64 t116, .int .i64 0, .bool false, .int .i64 0]) ?_ 2 _ rfl; refine blk_put (cs := #[.int .i64 t115, .int .i64 0, .int .i64 0, .bool false, .int .i64 0]) ?_ 1 _ rfl; refine blk_put (cs := #[.int .i64 0, .int .i64 0, .int .i64 0, .bool false, .int .i64 0]) ?_ 0 _ rfl; exact BK121.out) hb); have n2_ := Aside0.mk (below_step (by repeat (first | (with_reducible first | exact HB.out | apply below_alloc | apply pw_below_drewN | apply below_drew1 | refine below_set ?_ GE121.out) | exact HB.out)) hb); clear HO114; clear BK121; clear HB; have HO114 := n0_; have BK121 := n1_; have HB := n2_; clear n0_ n1_ n2_; (try clear hb); (try clear hb2); (try clear hk); (try clear hi)) | ((with_reducible refine gate_dst (N := 4) rfl ?_); refine box_event ?hg (N := 4) ?hd (cs := #[.int .i64 0, .int .i64 0, .int .i64 0, .bool false, .int .i64 0]) (t := 32) ?hr ?_; (case hd => rfl); (case hg => rfl); (case hr => first | (go_simp; done) | (go_simp; rfl)); intro gb128 hg w42 hbox hb; have n0_ := Aside0.mk (Kd.R_below (by (with_reducible repeat (first | apply Kd.R_alloc | apply Kd.R_drewN | apply Kd.R_drew)); exact HO114.out) hb); have n1_ := Aside0.mk (blk_below (g := gb121) (o := .cells #[.int .i64 t115, .int .i64 t116, .int .i64 t117, .bool t118, .int .i64 t119] 32 (0, 0)) (by exact BK121.out) hb); have n2_ := Aside0.mk (below_step (by repeat (first | (with_reducible first | exact HB.out | apply below_alloc | apply pw_below_drewN | apply below_drew1 | refine below_set ?_ GE121.out) | exact HB.out)) hb); have n3_ := Aside0.mk (hbox); have n4_ := Aside0.mk ((by rw [hg]; exact (below_size (by repeat (first | (with_reducible first | exact HB.out | apply below_alloc | apply pw_below_drewN | apply below_drew1 | refine below_set ?_ GE121.out) | exact HB.out))) : w.heap.size ≤ gb128)); have n5_ := Aside0.mk ((by rw [hg]; exact (below_size (by repeat (first | (with_reducible first | exact HB.out | apply below_alloc | apply pw_below_drewN | apply below_drew1 | refine below_set ?_ GE121.out) | exact HB.out))) : w.heap.size ≤ gb128)); have n6_ := Aside0.mk ((by rw [hg]; exact Nat.ne_of_lt (blk_lt (g := gb121) (o := .cells #[.int .i64 t115, .int .i64 t116, .int .i64 t117, .bool t118, .int .i64 t119] 32 (0, 0)) (by exact BK121.out)) : gb121 ≠ gb128)); have n7_ := Aside0.mk ((by rw [hg]; exact Nat.ne_of_gt (blk_lt (g := gb121) (o := .cells #[.int .i64 t115, .int .i64 t116, .int .i64 t117, .bool t118, .int .i64 t119] 32 (0, 0)) (by exact BK121.out)) : gb128 ≠ gb121)); clear HO114; clear BK121; clear HB; have HO114 := n0_; have BK121 := n1_; have HB := n2_; have BK128 := n3_; have GW128 := n4_; have GE128 := n5_; have NB121_128 := n6_; have NB128_121 := n7_; clear n0_ n1_ n2_ n3_ n4_ n5_ n6_ n7_; clear hb hbox hg; have hnb43 := NB128_121.out; have hnc43 := NB121_128.out; have hcz44_0 : w42.cell? ⟨gb128, 0, none⟩ = some (.int .i64 0) := (blk_cell BK128.out 0).trans rfl; have hcz44_1 : w42.cell? ⟨gb128, 1, none⟩ = some (.int .i64 0) := (blk_cell BK128.out 1).trans rfl; have hcz44_2 : w42.cell? ⟨gb128, 2, none⟩ = some (.int .i64 0) := (blk_cell BK128.out 2).trans rfl; have hcz44_3 : w42.cell? ⟨gb128, 3, none⟩ = some (.bool false) := (blk_cell BK128.out 3).trans rfl; have hcz44_4 : w42.cell? ⟨gb128, 4, none⟩ = some (.int .i64 0) := (blk_cell BK128.out 4).trans rfl; have hfz44_0 := blk_frozen BK128.out 0; have hfz44_1 := blk_frozen BK128.out 1; have hfz44_2 := blk_frozen BK128.out 2; have hfz44_3 := blk_frozen BK128.out 3; have hfz44_4 := blk_frozen BK128.out 4) | ((with_reducible refine gate_callee (f := 14) rfl ?_); refine goesL_ (some 26) rfl rfl Try.func14 (by kernel_rfl) rfl #[.slice Ao37 y112.length co37, .agg #[.int .i64 0, .int .i64 0], .int .i64 1, .bool false] rfl (by (try simp only [List.map_toArray, List.map_cons, List.map_nil]); first | done | rfl | (simp only [List.length_drop, List.length_take]; rfl)) ?_; (with_reducible refine (words_Back.calls _ _ y112 0 0 1 false t129 t130 t131 t132 t133 false _ ?side1 ?side2 A3.out).mono ?_); (case side1 => refine (Kd.R_reads' (e := 9) (base := w.heap.size) (ok := fun k_ => True) (n := y112.length) (c := co37) ?_).2.2; exact (by (with_reducible repeat (first | apply Kd.R_alloc | apply Kd.R_drewN | apply Kd.R_drew)); exact (Kd.R_mono (Kd.R_far (p := ⟨gb128, 4, none⟩) (Kd.R_far (p := ⟨gb128, 3, none⟩) (Kd.R_far (p := ⟨gb128, 2, none⟩) (Kd.R_far (p := ⟨gb128, 1, none⟩) (Kd.R_far (p := ⟨gb128, 0, none⟩) (Kd.R_types HO114.out BK128.out (by decide)) (fun _ hk => hk.2) (.int .i64 t122)) (fun _ hk => hk.2) (.int .i64 t123)) (fun _ hk => hk.2) (.int .i64 t124)) (fun _ hk => hk.2) (.bool t125)) (fun _ hk => hk.2) (.int .i64 t126)) (fun _ h_ => h_.1)))); (case side2 => exact (Kd.R_reads' HO114.out).2.1); rintro e w45 ⟨rfl, hb⟩; refine ⟨_, rfl, ?_⟩; have n0_ := Aside0.mk (Kd.R_below (by (with_reducible repeat (first | apply Kd.R_alloc | apply Kd.R_drewN | apply Kd.R_drew)); exact (Kd.R_mono (Kd.R_far (p := ⟨gb128, 4, none⟩) (Kd.R_far (p := ⟨gb128, 3, none⟩) (Kd.R_far (p := ⟨gb128, 2, none⟩) (Kd.R_far (p := ⟨gb128, 1, none⟩) (Kd.R_far (p := ⟨gb128, 0, none⟩) (Kd.R_types HO114.out BK128.out (by decide)) (fun _ hk => hk.2) (.int .i64 t122)) (fun _ hk => hk.2) (.int .i64 t123)) (fun _ hk => hk.2) (.int .i64 t124)) (fun _ hk => hk.2) (.bool t125)) (fun _ hk => hk.2) (.int .i64 t126)) (fun _ h_ => h_.1))) hb); have n1_ := Aside0.mk (blk_below (g := gb121) (o := .cells #[.int .i64 t115, .int .i64 t116, .int .i64 t117, .bool t118, .int .i64 t119] 32 (0, 0)) (by refine blk_far ?_ NB121_128.out _; refine blk_far ?_ NB121_128.out _; refine blk_far ?_ NB121_128.out _; refine blk_far ?_ NB121_128.out _; refine blk_far ?_ NB121_128.out _; exact BK121.out) hb); have n2_ := Aside0.mk (blk_below (g := gb128) (o := .cells #[.int .i64 t122, .int .i64 t123, .int .i64 t124, .bool t125, .int .i64 t126] 32 (0, 0)) (by refine blk_put (cs := #[.int .i64 t122, .int .i64 t123, .int .i64 t124, .bool t125, .int .i64 0]) ?_ 4 _ rfl; refine blk_put (cs := #[.int .i64 t122, .int .i64 t123, .int .i64 t124, .bool false, .int .i64 0]) ?_ 3 _ rfl; refine blk_put (cs := #[.int .i64 t122, .int .i64 t123, .int .i64 0, .bool false, .int .i64 0]) ?_ 2 _ rfl; refine blk_put (cs := #[.int .i64 t122, .int .i64 0, .int .i64 0, .bool false, .int .i64 0]) ?_ 1 _ rfl; refine blk_put (cs := #[.int .i64 0, .int .i64 0, .int .i64 0, .bool false, .int .i64 0]) ?_ 0 _ rfl; exact BK128.out) hb); have n3_ := Aside0.mk (below_step (by repeat (first | (with_reducible first | exact HB.out | apply below_alloc | apply pw_below_drewN | apply below_drew1 | refine below_set ?_ GE121.out | refine below_set ?_ GE128.out) | exact HB.out)) hb); clear HO114; clear BK121; clear BK128; clear HB; have HO114 := n0_; have BK121 := n1_; have BK128 := n2_; have HB := n3_; clear n0_ n1_ n2_ n3_; (try clear hb); (try clear hb2); (try clear hk); (try clear hi)) | ((with_reducible refine gate_dst (N := 6) rfl ?_); refine box_event ?hg (N := 6) ?hd (cs := #[.int .i64 0, .int .i64 0, .int .i64 0, .bool false, .int .i64 0]) (t := 32) ?hr ?_; (case hd => rfl); (case hg => rfl); (case hr => first | (go_simp; done) | (go_simp; rfl)); intro gb135 hg w46 hbox hb; have n0_ := Aside0.mk (Kd.R_below (by (with_reducible repeat (first | apply Kd.R_alloc | apply Kd.R_drewN | apply Kd.R_drew)); exact HO114.out) hb); have n1_ := Aside0.mk (blk_below (g := gb121) (o := .cells #[.int .i64 t115, .int .i64 t116, .int .i64 t117, .bool t118, .int .i64 t119] 32 (0, 0)) (by exact BK121.out) hb); have n2_ := Aside0.mk (blk_below (g := gb128) (o := .cells #[.int .i64 t122, .int .i64 t123, .int .i64 t124, .bool t125, .int .i64 t126] 32 (0, 0)) (by exact BK128.out) hb); have n3_ := Aside0.mk (below_step (by repeat (first | (with_reducible first | exact HB.out | apply below_alloc | apply pw_below_drewN | apply below_drew1 | refine below_set ?_ GE121.out | refine below_set ?_ GE128.out) | exact HB.out)) hb); have n4_ := Aside0.mk (hbox); have n5_ := Aside0.mk ((by rw [hg]; exact (below_size (by repeat (first | (with_reducible first | exact HB.out | apply below_alloc | apply pw_below_drewN | apply below_drew1 | refine below_set ?_ GE121.out | refine below_set ?_ GE128.out) | exact HB.out))) : w.heap.size ≤ gb135)); have n6_ := Aside0.mk ((by rw [hg]; exact (below_size (by repeat (first | (with_reducible first | exact HB.out | apply below_alloc | apply pw_below_drewN | apply below_drew1 | refine below_set ?_ GE121.out | refine below_set ?_ GE128.out) | exact HB.out))) : w.heap.size ≤ gb135)); have n7_ := Aside0.mk ((by rw [hg]; exact Nat.ne_of_lt (blk_lt (g := gb121) (o := .cells #[.int .i64 t115, .int .i64 t116, .int .i64 t117, .bool t118, .int .i64 t119] 32 (0, 0)) (by exact BK121.out)) : gb121 ≠ gb135)); have n8_ := Aside0.mk ((by rw [hg]; exact Nat.ne_of_gt (blk_lt (g := gb121) (o := .cells #[.int .i64 t115, .int .i64 t116, .int .i64 t117, .bool t118, .int .i64 t119] 32 (0, 0)) (by exact BK121.out)) : gb135 ≠ gb121)); have n9_ := Aside0.mk ((by rw [hg]; exact Nat.ne_of_lt (blk_lt (g := gb128) (o := .cells #[.int .i64 t122, .int .i64 t123, .int .i64 t124, .bool t125, .int .i64 t126] 32 (0, 0)) (by exact BK128.out)) : gb128 ≠ gb135)); have n10_ := Aside0.mk ((by rw [hg]; exact Nat.ne_of_gt (blk_lt (g := gb128) (o := .cells #[.int .i64 t122, .int .i64 t123, .int .i64 t124, .bool t125, .int .i64 t126] 32 (0, 0)) (by exact BK128.out)) : gb135 ≠ gb128)); clear HO114; clear BK121; clear BK128; clear HB; have HO114 := n0_; have BK121 := n1_; have BK128 := n2_; have HB := n3_; have BK135 := n4_; have GW135 := n5_; have GE135 := n6_; have NB121_135 := n7_; have NB135_121 := n8_; have NB128_135 := n9_; have NB135_128 := n10_; clear n0_ n1_ n2_ n3_ n4_ n5_ n6_ n7_ n8_ n9_ n10_; clear hb hbox hg; have hnb47 := NB135_121.out; have hnc47 := NB121_135.out; have hnb48 := NB135_128.out; have hnc48 := NB128_135.out; have hcz49_0 : w46.cell? ⟨gb135, 0, none⟩ = some (.int .i64 0) := (blk_cell BK135.out 0).trans rfl; have hcz49_1 : w46.cell? ⟨gb135, 1, none⟩ = some (.int .i64 0) := (blk_cell BK135.out 1).trans rfl; have hcz49_2 : w46.cell? ⟨gb135, 2, none⟩ = some (.int .i64 0) := (blk_cell BK135.out 2).trans rfl; have hcz49_3 : w46.cell? ⟨gb135, 3, none⟩ = some (.bool false) := (blk_cell BK135.out 3).trans rfl; have hcz49_4 : w46.cell? ⟨gb135, 4, none⟩ = some (.int .i64 0) := (blk_cell BK135.out 4).trans rfl; have hfz49_0 := blk_frozen BK135.out 0; have hfz49_1 := blk_frozen BK135.out 1; have hfz49_2 := blk_frozen BK135.out 2; have hfz49_3 := blk_frozen BK135.out 3; have hfz49_4 := blk_frozen BK135.out 4) | ((with_reducible refine gate_callee (f := 11) rfl ?_); refine goesL_ (some 32) rfl rfl Try.func11 (by kernel_rfl) rfl #[.slice Ao37 y112.length co37, .agg #[.int .i64 0, .int .i64 4], .int .i64 1, .bool false, .bool true] rfl (by (try simp only [List.map_toArray, List.map_cons, List.map_nil]); first | done | rfl | (simp only [List.length_drop, List.length_take]; rfl)) ?_; (with_reducible refine (words_Next.calls _ _ y112 0 4 1 false true t136 t137 t138 t139 t140 true _ ?side1 ?side2 A4.out).mono ?_); (case side1 => refine (Kd.R_reads' (e := 9) (base := w.heap.size) (ok := fun k_ => True) (n := y112.length) (c := co37) ?_).2.2; exact (by (with_reducible repeat (first | apply Kd.R_alloc | apply Kd.R_drewN | apply Kd.R_drew)); exact (Kd.R_mono (Kd.R_far (p := ⟨gb135, 4, none⟩) (Kd.R_far (p := ⟨gb135, 3, none⟩) (Kd.R_far (p := ⟨gb135, 2, none⟩) (Kd.R_far (p := ⟨gb135, 1, none⟩) (Kd.R_far (p := ⟨gb135, 0, none⟩) (Kd.R_types HO114.out BK135.out (by decide)) (fun _ hk => hk.2) (.int .i64 t129)) (fun _ hk => hk.2) (.int .i64 t130)) (fun _ hk => hk.2) (.int .i64 t131)) (fun _ hk => hk.2) (.bool t132)) (fun _ hk => hk.2) (.int .i64 t133)) (fun _ h_ => h_.1)))); (case side2 => exact (Kd.R_reads' HO114.out).2.1); rintro e w50 ⟨rfl, hb⟩; refine ⟨_, rfl, ?_⟩; have n0_ := Aside0.mk (Kd.R_below (by (with_reducible repeat (first | apply Kd.R_alloc | apply Kd.R_drewN | apply Kd.R_drew)); exact (Kd.R_mono (Kd.R_far (p := ⟨gb135, 4, none⟩) (Kd.R_far (p := ⟨gb135, 3, none⟩) (Kd.R_far (p := ⟨gb135, 2, none⟩) (Kd.R_far (p := ⟨gb135, 1, none⟩) (Kd.R_far (p := ⟨gb135, 0, none⟩) (Kd.R_types HO114.out BK135.out (by decide)) (fun _ hk => hk.2) (.int .i64 t129)) (fun _ hk => hk.2) (.int .i64 t130)) (fun _ hk => hk.2) (.int .i64 t131)) (fun _ hk => hk.2) (.bool t132)) (fun _ hk => hk.2) (.int .i64 t133)) (fun _ h_ => h_.1))) hb); have n1_ := Aside0.mk (blk_below (g := gb121) (o := .cells #[.int .i64 t115, .int .i64 t116, .int .i64 t117, .bool t118, .int .i64 t119] 32 (0, 0)) (by refine blk_far ?_ NB121_135.out _; refine blk_far ?_ NB121_135.out _; refine blk_far ?_ NB121_135.out _; refine blk_far ?_ NB121_135.out _; refine blk_far ?_ NB121_135.out _; exact BK121.out) hb); have n2_ := Aside0.mk (blk_below (g := gb128) (o := .cells #[.int .i64 t122, .int .i64 t123, .int .i64 t124, .bool t125, .int .i64 t126] 32 (0, 0)) (by refine blk_far ?_ NB128_135.out _; refine blk_far ?_ NB128_135.out _; refine blk_far ?_ NB128_135.out _; refine blk_far ?_ NB128_135.out _; refine blk_far ?_ NB128_135.out _; exact BK128.out) hb); have n3_ := Aside0.mk (blk_below (g := gb135) (o := .cells #[.int .i64 t129, .int .i64 t130, .int .i64 t131, .bool t132, .int .i64 t133] 32 (0, 0)) (by refine blk_put (cs := #[.int .i64 t129, .int .i64 t130, .int .i64 t131, .bool t132, .int .i64 0]) ?_ 4 _ rfl; refine blk_put (cs := #[.int .i64 t129, .int .i64 t130, .int .i64 t131, .bool false, .int .i64 0]) ?_ 3 _ rfl; refine blk_put (cs := #[.int .i64 t129, .int .i64 t130, .int .i64 0, .bool false, .int .i64 0]) ?_ 2 _ rfl; refine blk_put (cs := #[.int .i64 t129, .int .i64 0, .int .i64 0, .bool false, .int .i64 0]) ?_ 1 _ rfl; refine blk_put (cs := #[.int .i64 0, .int .i64 0, .int .i64 0, .bool false, .int .i64 0]) ?_ 0 _ rfl; exact BK135.out) hb); have n4_ := Aside0.mk (below_step (by repeat (first | (with_reducible first | exact HB.out | apply below_alloc | apply pw_below_drewN | apply below_drew1 | refine below_set ?_ GE121.out | refine below_set ?_ GE128.out | refine below_set ?_ GE135.out) | exact HB.out)) hb); clear HO114; clear BK121; clear BK128; clear BK135; clear HB; have HO114 := n0_; have BK121 := n1_; have BK128 := n2_; have BK135 := n3_; have HB := n4_; clear n0_ n1_ n2_ n3_ n4_; (try clear hb); (try clear hb2); (try clear hk); (try clear hi)) | ((with_reducible refine gate_dst (N := 8) rfl ?_); refine box_event ?hg (N := 8) ?hd (cs := #[.int .i64 0, .int .i64 0, .int .i64 0, .bool false, .int .i64 0]) (t := 32) ?hr ?_; (case hd => rfl); (case hg => rfl); (case hr => first | (go_simp; done) | (go_simp; rfl)); intro gb142 hg w51 hbox hb; have n0_ := Aside0.mk (Kd.R_below (by (with_reducible repeat (first | apply Kd.R_alloc | apply Kd.R_drewN | apply Kd.R_drew)); exact HO114.out) hb); have n1_ := Aside0.mk (blk_below (g := gb121) (o := .cells #[.int .i64 t115, .int .i64 t116, .int .i64 t117, .bool t118, .int .i64 t119] 32 (0, 0)) (by exact BK121.out) hb); have n2_ := Aside0.mk (blk_below (g := gb128) (o := .cells #[.int .i64 t122, .int .i64 t123, .int .i64 t124, .bool t125, .int .i64 t126] 32 (0, 0)) (by exact BK128.out) hb); have n3_ := Aside0.mk (blk_below (g := gb135) (o := .cells #[.int .i64 t129, .int .i64 t130, .int .i64 t131, .bool t132, .int .i64 t133] 32 (0, 0)) (by exact BK135.out) hb); have n4_ := Aside0.mk (below_step (by repeat (first | (with_reducible first | exact HB.out | apply below_alloc | apply pw_below_drewN | apply below_drew1 | refine below_set ?_ GE121.out | refine below_set ?_ GE128.out | refine below_set ?_ GE135.out) | exact HB.out)) hb); have n5_ := Aside0.mk (hbox); have n6_ := Aside0.mk ((by rw [hg]; exact (below_size (by repeat (first | (with_reducible first | exact HB.out | apply below_alloc | apply pw_below_drewN | apply below_drew1 | refine below_set ?_ GE121.out | refine below_set ?_ GE128.out | refine below_set ?_ GE135.out) | exact HB.out))) : w.heap.size ≤ gb142)); have n7_ := Aside0.mk ((by rw [hg]; exact (below_size (by repeat (first | (with_reducible first | exact HB.out | apply below_alloc | apply pw_below_drewN | apply below_drew1 | refine below_set ?_ GE121.out | refine below_set ?_ GE128.out | refine below_set ?_ GE135.out) | exact HB.out))) : w.heap.size ≤ gb142)); have n8_ := Aside0.mk ((by rw [hg]; exact Nat.ne_of_lt (blk_lt (g := gb121) (o := .cells #[.int .i64 t115, .int .i64 t116, .int .i64 t117, .bool t118, .int .i64 t119] 32 (0, 0)) (by exact BK121.out)) : gb121 ≠ gb142)); have n9_ := Aside0.mk ((by rw [hg]; exact Nat.ne_of_gt (blk_lt (g := gb121) (o := .cells #[.int .i64 t115, .int .i64 t116, .int .i64 t117, .bool t118, .int .i64 t119] 32 (0, 0)) (by exact BK121.out)) : gb142 ≠ gb121)); have n10_ := Aside0.mk ((by rw [hg]; exact Nat.ne_of_lt (blk_lt (g := gb128) (o := .cells #[.int .i64 t122, .int .i64 t123, .int .i64 t124, .bool t125, .int .i64 t126] 32 (0, 0)) (by exact BK128.out)) : gb128 ≠ gb142)); have n11_ := Aside0.mk ((by rw [hg]; exact Nat.ne_of_gt (blk_lt (g := gb128) (o := .cells #[.int .i64 t122, .int .i64 t123, .int .i64 t124, .bool t125, .int .i64 t126] 32 (0, 0)) (by exact BK128.out)) : gb142 ≠ gb128)); have n12_ := Aside0.mk ((by rw [hg]; exact Nat.ne_of_lt (blk_lt (g := gb135) (o := .cells #[.int .i64 t129, .int .i64 t130, .int .i64 t131, .bool t132, .int .i64 t133] 32 (0, 0)) (by exact BK135.out)) : gb135 ≠ gb142)); have n13_ := Aside0.mk ((by rw [hg]; exact Nat.ne_of_gt (blk_lt (g := gb135) (o := .cells #[.int .i64 t129, .int .i64 t130, .int .i64 t131, .bool t132, .int .i64 t133] 32 (0, 0)) (by exact BK135.out)) : gb142 ≠ gb135)); clear HO114; clear BK121; clear BK128; clear BK135; clear HB; have HO114 := n0_; have BK121 := n1_; have BK128 := n2_; have BK135 := n3_; have HB := n4_; have BK142 := n5_; have GW142 := n6_; have GE142 := n7_; have NB121_142 := n8_; have NB142_121 := n9_; have NB128_142 := n10_; have NB142_128 := n11_; have NB135_142 := n12_; have NB142_135 := n13_; clear n0_ n1_ n2_ n3_ n4_ n5_ n6_ n7_ n8_ n9_ n10_ n11_ n12_ n13_; clear hb hbox hg; have hnb52 := NB142_121.out; have hnc52 := NB121_142.out; have hnb53 := NB142_128.out; have hnc53 := NB128_142.out; have hnb54 := NB142_135.out; have hnc54 := NB135_142.out; have hcz55_0 : w51.cell? ⟨gb142, 0, none⟩ = some (.int .i64 0) := (blk_cell BK142.out 0).trans rfl; have hcz55_1 : w51.cell? ⟨gb142, 1, none⟩ = some (.int .i64 0) := (blk_cell BK142.out 1).trans rfl; have hcz55_2 : w51.cell? ⟨gb142, 2, none⟩ = some (.int .i64 0) := (blk_cell BK142.out 2).trans rfl; have hcz55_3 : w51.cell? ⟨gb142, 3, none⟩ = some (.bool false) := (blk_cell BK142.out 3).trans rfl; have hcz55_4 : w51.cell? ⟨gb142, 4, none⟩ = some (.int .i64 0) := (blk_cell BK142.out 4).trans rfl; have hfz55_0 := blk_frozen BK142.out 0; have hfz55_1 := blk_frozen BK142.out 1; have hfz55_2 := blk_frozen BK142.out 2; have hfz55_3 := blk_frozen BK142.out 3; have hfz55_4 := blk_frozen BK142.out 4; have hcz56_0 : w51.cell? ⟨gb121, 0, none⟩ = some (.int .i64 t115) := (blk_cell BK121.out 0).trans rfl; have hcz56_1 : w51.cell? ⟨gb121, 1, none⟩ = some (.int .i64 t116) := (blk_cell BK121.out 1).trans rfl; have hcz56_2 : w51.cell? ⟨gb121, 2, none⟩ = some (.int .i64 t117) := (blk_cell BK121.out 2).trans rfl; have hcz56_3 : w51.cell? ⟨gb121, 3, none⟩ = some (.bool t118) := (blk_cell BK121.out 3).trans rfl; have hcz56_4 : w51.cell? ⟨gb121, 4, none⟩ = some (.int .i64 t119) := (blk_cell BK121.out 4).trans rfl; have hfz56_0 := blk_frozen BK121.out 0; have hfz56_1 := blk_frozen BK121.out 1; have hfz56_2 := blk_frozen BK121.out 2; have hfz56_3 := blk_frozen BK121.out 3; have hfz56_4 := blk_frozen BK121.out 4; have hcz57_0 : w51.cell? ⟨gb128, 0, none⟩ = some (.int .i64 t122) := (blk_cell BK128.out 0).trans rfl; have hcz57_1 : w51.cell? ⟨gb128, 1, none⟩ = some (.int .i64 t123) := (blk_cell BK128.out 1).trans rfl; have hcz57_2 : w51.cell? ⟨gb128, 2, none⟩ = some (.int .i64 t124) := (blk_cell BK128.out 2).trans rfl; have hcz57_3 : w51.cell? ⟨gb128, 3, none⟩ = some (.bool t125) := (blk_cell BK128.out 3).trans rfl; have hcz57_4 : w51.cell? ⟨gb128, 4, none⟩ = some (.int .i64 t126) := (blk_cell BK128.out 4).trans rfl; have hfz57_0 := blk_frozen BK128.out 0; have hfz57_1 := blk_frozen BK128.out 1; have hfz57_2 := blk_frozen BK128.out 2; have hfz57_3 := blk_frozen BK128.out 3; have hfz57_4 := blk_frozen BK128.out 4))
                go_ret
                exact ⟨by first | rfl | (simp [errW_none, errW_some] <;> rfl) | (simp [*, errW_none, errW_some] <;> rfl), by repeat (first | (with_reducible first | exact HB.out | apply below_alloc | apply pw_below_drewN | apply below_drew1 | refine below_set ?_ GE121.out | refine below_set ?_ GE128.out | refine below_set ?_ GE135.out | refine below_set ?_ GE142.out) | exact HB.out)⟩
              · replace c34 := Bool.eq_false_iff.mpr c34
                subst c34
                have H1 : (some false) = some r := by rw [if_neg (show ¬ (false = true) by decide)] at H; exact H
                clear H
                have H := H1
                clear H1
                exact absurd ((Option.some.inj H).trans HT.out) (by decide)
          · rw [if_neg c9] at H
            have c9b0 : (t124 == 1) = false := beq_eq_false_iff_ne.mpr c9
            have c9b1 : (t124 != 1) = true := bne_iff_ne.mpr c9
            exact absurd ((Option.some.inj H).trans HT.out) (by decide)
        · rw [if_neg c8] at H
          have c8b0 : (t123 == 5) = false := beq_eq_false_iff_ne.mpr c8
          have c8b1 : (t123 != 5) = true := bne_iff_ne.mpr c8
          exact absurd ((Option.some.inj H).trans HT.out) (by decide)
      · replace c7 := Bool.eq_false_iff.mpr c7
        subst c7
        have H1 : (some false) = some r := by rw [if_neg (show ¬ (false = true) by decide)] at H; exact H
        clear H
        have H := H1
        clear H1
        exact absurd ((Option.some.inj H).trans HT.out) (by decide)
    · rw [if_neg c6] at H
      have c6b0 : (t116 == 4) = false := beq_eq_false_iff_ne.mpr c6
      have c6b1 : (t116 != 4) = true := bne_iff_ne.mpr c6
      exact absurd ((Option.some.inj H).trans HT.out) (by decide)
  · replace c5 := Bool.eq_false_iff.mpr c5
    subst c5
    have H1 : (some false) = some r := by rw [if_neg (show ¬ (false = true) by decide)] at H; exact H
    clear H
    have H := H1
    clear H1
    exact absurd ((Option.some.inj H).trans HT.out) (by decide)
end Go.Proofs.Ytifkfjpkngdhmaa.V
namespace Go.Proofs.Ytifkfjpkngdhmaa.Pure
open Go.RowKit Go.Proofs.Ytifkfjpkngdhmaa.V Go.Proofs.YtifkfjpkngdhmaaW.PrintWords Go.Proofs.YtifkfjpkngdhmaaW.PrintLast Go.Proofs.YtifkfjpkngdhmaaW.PrintMore

theorem known_true : foolscaplaw8_known.f = some true := by decide +kernel

end Go.Proofs.Ytifkfjpkngdhmaa.Pure
namespace Go.Proofs.Ytifkfjpkngdhmaa.V
open Go.RowKit Go.Proofs.YtifkfjpkngdhmaaW.PrintWords Go.Proofs.YtifkfjpkngdhmaaW.PrintLast Go.Proofs.YtifkfjpkngdhmaaW.PrintMore
attribute [local go_sem] max2_int min2_int max_two min_two max_three min_three max_four min_four   -- for this text's walks alone
set_option linter.unusedVariables false
set_option linter.unusedSimpArgs false
attribute [local go_sem high] eqA24

/-! ### foolscaphelp_Places: function 26 -/
def foolscaphelp_Places.l0 : Nat → List (S24) → List (S24) → Int → Option (Bool)
  | 0, _, _, _ => none
  | k + 1, x0, x1, x5 => if x5 < (x0.length : Int) then (if 0 ≤ x5 then (if x5 < (x1.length : Int) then (if (!(((rd_T24 x0 x5).f0) == ((rd_T24 x1 x5).f0)) || (!(((rd_T24 x0 x5).f1) == ((rd_T24 x1 x5).f1)))) = true then (some false) else (foolscaphelp_Places.l0 k x0 x1 (wrap64 (x5 + 1)))) else (none)) else (none)) else (some true)
def foolscaphelp_Places.f (k : Nat) (l0 : List (S24)) (l1 : List (S24)) : Option (Bool) := if (l0.length : Int) = (l1.length : Int) then (foolscaphelp_Places.l0 k l0 l1 0) else (some false)
theorem foolscaphelp_Places.mono_l : ∀ k, (∀ y0 y1 y2, LeO (foolscaphelp_Places.l0 k y0 y1 y2) (foolscaphelp_Places.l0 (k + 1) y0 y1 y2))
  | 0 => fun _ _ _ r h => by simp [foolscaphelp_Places.l0] at h
  | k + 1 => by
    have ih0 := foolscaphelp_Places.mono_l k
    · intro y0 y1 y2
      unfold foolscaphelp_Places.l0
      repeat' first
      | (with_reducible exact ih0 _ _ _)
      | (with_reducible exact LeO.refl _)
      | (with_reducible exact LeO.none _)
      | (with_reducible refine LeO.ite ?_ ?_)
      | (with_reducible refine LeO.bind ?_ (fun _ => ?_))
      | exact ih0 _ _ _
      | exact LeO.none _
      | refine LeO.ite ?_ ?_
      | refine LeO.bind ?_ (fun _ => ?_)
theorem foolscaphelp_Places.mono : ∀ a0 a1 k, LeO (foolscaphelp_Places.f k a0 a1) (foolscaphelp_Places.f (k + 1) a0 a1) := by
  intro a0 a1 k
  have ih0 := foolscaphelp_Places.mono_l k
  unfold foolscaphelp_Places.f
  repeat' first
      | (with_reducible exact ih0 _ _ _)
      | (with_reducible exact LeO.refl _)
      | (with_reducible exact LeO.none _)
      | (with_reducible refine LeO.ite ?_ ?_)
      | (with_reducible refine LeO.bind ?_ (fun _ => ?_))
      | exact ih0 _ _ _
      | exact LeO.none _
      | refine LeO.ite ?_ ?_
      | refine LeO.bind ?_ (fun _ => ?_)
set_option maxHeartbeats 8000000 in
set_option maxRecDepth 100000 in
theorem foolscaphelp_Places.calls (k : Nat) (A0 : Option Addr) (c0 : Nat) (l0 : List (S24)) (A1 : Option Addr) (c1 : Nat) (l1 : List (S24)) (r : Bool) (w : World) (hr0 : Kd.C k24 w A0 l0.length l0) (hc0 : l0.length ≤ c0) (hr1 : Kd.C k24 w A1 l1.length l1) (hc1 : l1.length ≤ c1) (h : foolscaphelp_Places.f k l0 l1 = some r) :
    Calls Try.prog 26 #[.slice A0 l0.length c0, .slice A1 l1.length c1] w fun e w' => e = .returned (.bool r) ∧ Drawn0 w w' := by
  have hu24 := Try.underlying24
  have HR0 := Aside0.mk hr0
  have HC0 := Aside0.mk hc0
  clear hr0 hc0
  have HR1 := Aside0.mk hr1
  have HC1 := Aside0.mk hc1
  clear hr1 hc1
  have H : (if (l0.length : Int) = (l1.length : Int) then (foolscaphelp_Places.l0 k l0 l1 0) else (some false)) = some r := h
  clear h
  by_cases c3 : (l0.length : Int) = (l1.length : Int)
  · rw [if_pos c3] at H
    have c3b0 : ((l0.length : Int) == (l1.length : Int)) = true := beq_iff_eq.mpr c3
    have c3b1 : ((l0.length : Int) != (l1.length : Int)) = false := bne_eq_false_iff_eq.mpr c3
    have c3b2 : (l0.length == l1.length) = true := by first | simpa using c3 | (simp at c3 ⊢; omega)
    clear c3
    have H' := Aside0.mk H
    clear H
    go_enter Try.func26, Try.ntmps26
    go_wp2
    repeat (go_quiet (fail); try go_wp2)
    go_loopg [5] k (fun kq v5 w' => ∃ (x5_1 : Int), v5 = .int .i64 x5_1 ∧ Aside0 (foolscaphelp_Places.l0 kq l0 l1 x5_1 = some r) ∧ Aside0 (kq ≤ k) ∧ Drawn0 w w')
    case atStart => exact ⟨(0), (by first | rfl | (simp; done) | (simp [*]; done)), H', ⟨Nat.le_refl _⟩, by repeat (first | exact Drawn0.refl _ | apply Drawn0.step)⟩
    case round =>
      clear H'
      try clear c1
      try clear c2
      try clear p2
      try clear c3
      try clear c3b0
      try clear c3b1
      try clear c3b2
      obtain ⟨x5_1, rfl, HA, HK1, ⟨m1, rfl⟩⟩ := hrel
      cases gk with
      | zero => exact absurd HA.out (by simp [foolscaphelp_Places.l0])
      | succ k1 =>
        have H := HA.out
        clear HA
        simp only [foolscaphelp_Places.l0] at H
        by_cases c4 : x5_1 < (l0.length : Int)
        · rw [if_pos c4] at H
          have c4b0 : decide (x5_1 < (l0.length : Int)) = true := decide_eq_true c4
          clear c4
          by_cases c5 : 0 ≤ x5_1
          · rw [if_pos c5] at H
            have c5b0 : decide (0 ≤ x5_1) = true := decide_eq_true c5
            clear c5
            by_cases c6 : x5_1 < (l1.length : Int)
            · rw [if_pos c6] at H
              have c6b0 : decide (x5_1 < (l1.length : Int)) = true := decide_eq_true c6
              clear c6
              by_cases c7 : (!(((rd_T24 l0 x5_1).f0) == ((rd_T24 l1 x5_1).f0)) || (!(((rd_T24 l0 x5_1).f1) == ((rd_T24 l1 x5_1).f1)))) = true
              · rw [if_pos c7] at H
                have c7b0 : (!(((rd_T24 l0 x5_1).f0) == ((rd_T24 l1 x5_1).f0)) || (!(((rd_T24 l0 x5_1).f1) == ((rd_T24 l1 x5_1).f1)))) = true := c7
                clear c7
                obtain rfl := Option.some.inj H
                have p388 : 0 ≤ (x5_1 : Int) := of_decide_eq_true (by first | (with_reducible assumption) | assumption)
                have q388 : x5_1 < (l0.length : Int) := of_decide_eq_true (by first | (with_reducible assumption) | assumption)
                obtain ⟨ad388, e388, hx388_0, hx388_1⟩ := at_T24 HR0.out x5_1 p388 q388
                cases e388
                replace p388 := eq_true p388
                replace q388 := eq_true q388
                have p389 : 0 ≤ (x5_1 : Int) := of_decide_eq_true (by first | (with_reducible assumption) | assumption)
                have q389 : x5_1 < (l1.length : Int) := of_decide_eq_true (by first | (with_reducible assumption) | assumption)
                obtain ⟨ad389, e389, hx389_0, hx389_1⟩ := at_T24 HR1.out x5_1 p389 q389
                cases e389
                replace p389 := eq_true p389
                replace q389 := eq_true q389
                go_wp2
                repeat (go_quiet (fail); try go_wp2)
                go_ret
                exact ⟨by first | rfl | (simp; done) | (simp [*]; done), by repeat (first | exact Drawn0.refl _ | apply Drawn0.step)⟩
              · rw [if_neg c7] at H
                have c7b0 : (!(((rd_T24 l0 x5_1).f0) == ((rd_T24 l1 x5_1).f0)) || (!(((rd_T24 l0 x5_1).f1) == ((rd_T24 l1 x5_1).f1)))) = false := by simpa using c7
                clear c7
                have H' := Aside0.mk H
                clear H
                have p388 : 0 ≤ (x5_1 : Int) := of_decide_eq_true (by first | (with_reducible assumption) | assumption)
                have q388 : x5_1 < (l0.length : Int) := of_decide_eq_true (by first | (with_reducible assumption) | assumption)
                obtain ⟨ad388, e388, hx388_0, hx388_1⟩ := at_T24 HR0.out x5_1 p388 q388
                cases e388
                replace p388 := eq_true p388
                replace q388 := eq_true q388
                have p389 : 0 ≤ (x5_1 : Int) := of_decide_eq_true (by first | (with_reducible assumption) | assumption)
                have q389 : x5_1 < (l1.length : Int) := of_decide_eq_true (by first | (with_reducible assumption) | assumption)
                obtain ⟨ad389, e389, hx389_0, hx389_1⟩ := at_T24 HR1.out x5_1 p389 q389
                cases e389
                replace p389 := eq_true p389
                replace q389 := eq_true q389
                go_wp2
                repeat (go_quiet (fail); try go_wp2)
                go_roundg k1
                case measure => have := HK1.out; omega
                case rel => exact ⟨(wrap64 (x5_1 + 1)), (by first | rfl | (simp; done) | (simp [*]; done)), H', ⟨by have := HK1.out; omega⟩, by repeat (first | exact Drawn0.refl _ | apply Drawn0.step)⟩
            · rw [if_neg c6] at H
              exact absurd H (by simp)
          · rw [if_neg c5] at H
            exact absurd H (by simp)
        · rw [if_neg c4] at H
          have c4b0 : decide (x5_1 < (l0.length : Int)) = false := decide_eq_false c4
          clear c4
          obtain rfl := Option.some.inj H
          go_wp2
          repeat (go_quiet (fail); try go_wp2)
          go_ret
          exact ⟨by first | rfl | (simp; done) | (simp [*]; done), by repeat (first | exact Drawn0.refl _ | apply Drawn0.step)⟩
  · rw [if_neg c3] at H
    have c3b0 : ((l0.length : Int) == (l1.length : Int)) = false := beq_eq_false_iff_ne.mpr c3
    have c3b1 : ((l0.length : Int) != (l1.length : Int)) = true := bne_iff_ne.mpr c3
    have c3b2 : (l0.length == l1.length) = false := by first | simpa using c3 | (simp at c3 ⊢; omega)
    obtain rfl := Option.some.inj H
    go_enter Try.func26, Try.ntmps26
    go_wp2
    repeat (go_quiet (fail); try go_wp2)
    go_ret
    exact ⟨by first | rfl | (simp; done) | (simp [*]; done), by repeat (first | exact Drawn0.refl _ | apply Drawn0.step)⟩

-- NOT PRINTED: function 4 (foolscaplaw8_WordsMark)

end Go.Proofs.Ytifkfjpkngdhmaa.V
namespace Go.Proofs.Ytifkfjpkngdhmaa.Pure
open Go.RowKit Go.Shelf Go.Proofs.Ytifkfjpkngdhmaa.V Go.Proofs.YtifkfjpkngdhmaaW.PrintWords Go.Proofs.YtifkfjpkngdhmaaW.PrintLast Go.Proofs.YtifkfjpkngdhmaaW.PrintMore
set_option linter.unusedVariables false
set_option linter.unusedSimpArgs false

/-- the helper, over Starts' iterator. -/
theorem starts_heard (A0 : Option Addr) (c0 : Nat) (l0 : List ByteArray) (big : Bool) (n : Int) (hl : l0.length ≤ 40) (hs : ∀ s ∈ l0, s.size ≤ 1200) (hn1 : 1 ≤ n) (hn2 : n ≤ 9223372036854775807)
    (W X : World) (hCX : Kd.C Kd.string X A0 l0.length l0) (hX : X = ((((W.alloc (.cells #[.bool big] 4)).alloc (.cells #[.slice A0 l0.length c0] 22)).alloc (.cells #[.bool true] 4)).alloc (.cells #[.func (.func 40) #[] #[.pointer (some ⟨W.heap.size, 0, none⟩)]] 61))) (a : Nat) (ha : a = W.heap.size) :
    Calls Try.prog 21 #[.func (.func 46) #[] #[.pointer (some ⟨a + 1, 0, none⟩), .pointer (some ⟨a + 1 + 1, 0, none⟩), .pointer (some ⟨a + 1 + 1 + 1, 0, none⟩)], .int .i64 n] X fun e w' => ∃ A c, e = .returned (.tuple #[.slice A ((startsL l0 big).take n.toNat).length c, .bool true]) ∧ ((startsL l0 big).take n.toNat).length ≤ c ∧ Kd.C k24 w' A ((startsL l0 big).take n.toNat).length ((startsL l0 big).take n.toNat) ∧ Below X.heap.size X w' := by
  subst ha hX
  have Y0 := (((Blk.new W 4 #[.bool big]).alloc (.cells #[.slice A0 l0.length c0] 22)).alloc (.cells #[.bool true] 4)).alloc (.cells #[.func (.func 40) #[] #[.pointer (some ⟨W.heap.size, 0, none⟩)]] 61)
  have Y1 := ((Blk.new (W.alloc (.cells #[.bool big] 4)) 22 #[.slice A0 l0.length c0]).alloc (.cells #[.bool true] 4)).alloc (.cells #[.func (.func 40) #[] #[.pointer (some ⟨W.heap.size, 0, none⟩)]] 61)
  have Y2 := (Blk.new ((W.alloc (.cells #[.bool big] 4)).alloc (.cells #[.slice A0 l0.length c0] 22)) 4 #[.bool true]).alloc (.cells #[.func (.func 40) #[] #[.pointer (some ⟨W.heap.size, 0, none⟩)]] 61)
  have Y3 := Blk.new (((W.alloc (.cells #[.bool big] 4)).alloc (.cells #[.slice A0 l0.length c0] 22)).alloc (.cells #[.bool true] 4)) 61 #[.func (.func 40) #[] #[.pointer (some ⟨W.heap.size, 0, none⟩)]]
  rw [World.size_alloc] at Y1
  rw [World.size_alloc, World.size_alloc] at Y2
  rw [World.size_alloc, World.size_alloc, World.size_alloc] at Y3
  exact heard_walk n (startsL l0 big) W.heap.size _ _ (by simp) (startsL_len hl hs big) hn1 hn2
    (fun W0 hb => starts_stops 7 (by omega) _ W0 A0 c0 l0 hl hs big W.heap.size hCX hb (Y0.below hb) (Y1.below hb) (Y2.below hb) (Y3.below hb))

/-- the helper, over Ends' iterator. -/
theorem ends_heard (A0 : Option Addr) (c0 : Nat) (l0 : List ByteArray) (big : Bool) (n : Int) (hl : l0.length ≤ 40) (hs : ∀ s ∈ l0, s.size ≤ 1200) (hn1 : 1 ≤ n) (hn2 : n ≤ 9223372036854775807)
    (W X : World) (hCX : Kd.C Kd.string X A0 l0.length l0) (hX : X = ((((W.alloc (.cells #[.bool big] 4)).alloc (.cells #[.slice A0 l0.length c0] 22)).alloc (.cells #[.bool false] 4)).alloc (.cells #[.func (.func 42) #[] #[.pointer (some ⟨W.heap.size, 0, none⟩)]] 61))) (a : Nat) (ha : a = W.heap.size) :
    Calls Try.prog 21 #[.func (.func 46) #[] #[.pointer (some ⟨a + 1, 0, none⟩), .pointer (some ⟨a + 1 + 1, 0, none⟩), .pointer (some ⟨a + 1 + 1 + 1, 0, none⟩)], .int .i64 n] X fun e w' => ∃ A c, e = .returned (.tuple #[.slice A ((endsL l0 big).take n.toNat).length c, .bool true]) ∧ ((endsL l0 big).take n.toNat).length ≤ c ∧ Kd.C k24 w' A ((endsL l0 big).take n.toNat).length ((endsL l0 big).take n.toNat) ∧ Below X.heap.size X w' := by
  subst ha hX
  have Y0 := (((Blk.new W 4 #[.bool big]).alloc (.cells #[.slice A0 l0.length c0] 22)).alloc (.cells #[.bool false] 4)).alloc (.cells #[.func (.func 42) #[] #[.pointer (some ⟨W.heap.size, 0, none⟩)]] 61)
  have Y1 := ((Blk.new (W.alloc (.cells #[.bool big] 4)) 22 #[.slice A0 l0.length c0]).alloc (.cells #[.bool false] 4)).alloc (.cells #[.func (.func 42) #[] #[.pointer (some ⟨W.heap.size, 0, none⟩)]] 61)
  have Y2 := (Blk.new ((W.alloc (.cells #[.bool big] 4)).alloc (.cells #[.slice A0 l0.length c0] 22)) 4 #[.bool false]).alloc (.cells #[.func (.func 42) #[] #[.pointer (some ⟨W.heap.size, 0, none⟩)]] 61)
  have Y3 := Blk.new (((W.alloc (.cells #[.bool big] 4)).alloc (.cells #[.slice A0 l0.length c0] 22)).alloc (.cells #[.bool false] 4)) 61 #[.func (.func 42) #[] #[.pointer (some ⟨W.heap.size, 0, none⟩)]]
  rw [World.size_alloc] at Y1
  rw [World.size_alloc, World.size_alloc] at Y2
  rw [World.size_alloc, World.size_alloc, World.size_alloc] at Y3
  exact heard_walk n (endsL l0 big) W.heap.size _ _ (by simp) (endsL_len hl hs big) hn1 hn2
    (fun W0 hb => ends_stops 7 (by omega) _ W0 A0 c0 l0 hl hs big W.heap.size hCX hb (Y0.below hb) (Y1.below hb) (Y2.below hb) (Y3.below hb))

theorem drawn_below {w w' : World} (h : Drawn0 w w') : Below w.heap.size w w' := by
  obtain ⟨n, rfl⟩ := h.out
  exact pw_below_drewN (Below.refl _ _) n
/-- a row of places is as itself. -/
theorem places_self (L : List S24) (hL : L.length ≤ 50000) : ∀ (d k i : Nat), i + d = L.length → d + 1 ≤ k → foolscaphelp_Places.l0 k L L (i : Int) = some true := by
  intro d
  induction d with
  | zero =>
    intro k i hi hk
    obtain ⟨k, rfl⟩ : ∃ m, k = m + 1 := ⟨k - 1, by omega⟩
    rw [foolscaphelp_Places.l0, if_neg (by omega)]
  | succ d ih =>
    intro k i hi hk
    obtain ⟨k, rfl⟩ : ∃ m, k = m + 1 := ⟨k - 1, by omega⟩
    rw [foolscaphelp_Places.l0, if_pos (by omega), if_pos (by omega), if_pos (by omega), if_neg (by simp), w64 (by omega) (by omega), show (i : Int) + 1 = ((i + 1 : Nat) : Int) by omega]
    exact ih k (i + 1) (by omega) (by omega)
theorem places_same (L : List S24) (hL : L.length ≤ 50000) (k : Nat) (hk : 60000 ≤ k) : foolscaphelp_Places.f k L L = some true := by
  unfold foolscaphelp_Places.f
  rw [if_pos rfl]
  exact places_self L hL L.length k 0 (by omega) (by omega)

/-- so many of a row, at most, are as the first so many of the same row. -/
theorem first_same (K : Nat) (hK : 60000 ≤ K) (A : Option Addr) (c : Nat) (L : List S24) (A' : Option Addr) (c' : Nat) (hL : L.length ≤ 50000) (n : Nat) (w : World) (h1 : Kd.C k24 w A (L.take n).length (L.take n)) (hc1 : (L.take n).length ≤ c) (h2 : Kd.C k24 w A' L.length L) (hc2 : L.length ≤ c') :
    Calls Try.prog 26 #[.slice A (min n L.length) c, .slice A' (min n L.length) c'] w fun e w' => e = .returned (.bool true) ∧ Drawn0 w w' := by
  have hl : (L.take n).length = min n L.length := List.length_take
  have ht : L.take n = L.take (min n L.length) := by
    by_cases h : n ≤ L.length
    · rw [Nat.min_eq_left h]
    · rw [Nat.min_eq_right (by omega), List.take_length, List.take_of_length_le (by omega)]
  have h2' := Kd.C_take (m := min n L.length) h2 (Nat.min_le_right _ _)
  rw [← ht] at h2'
  have P := foolscaphelp_Places.calls K A c (L.take n) A' c' (L.take n) true w h1 hc1 h2' (by rw [hl]; have := Nat.min_le_right n L.length; omega) (places_same _ (by rw [hl]; have := Nat.min_le_right n L.length; omega) K hK)
  rw [hl] at P
  exact P

set_option maxHeartbeats 4000000 in
set_option maxRecDepth 100000 in
theorem mark_walk (A0 : Option Addr) (c0 : Nat) (l0 : List ByteArray) (big : Bool) (m : Int) (w : World) (hr0 : Kd.C Kd.string w A0 l0.length l0) (hc0 : l0.length ≤ c0) (K : Nat) (hK : 60000 ≤ K)
    (hm0 : 0 ≤ m) (hm1 : m ≤ 255) (hl : l0.length ≤ 40) (hs : ∀ s ∈ l0, s.size ≤ 1200) (hLi : foolscaphelp_Light.f K l0 = some true) (hRS : foolscapref5_Starts.f K l0 big = some (startsL l0 big)) (hRE : foolscapref5_Ends.f K l0 big = some (endsL l0 big)) (hS : (startsL l0 big).length ≤ 5000) (hE : (endsL l0 big).length ≤ 5000) :
    Calls Try.prog 4 #[.slice A0 l0.length c0, .bool big, .int .u8 m] w fun e w' => e = .returned (.bool true) ∧ Below w.heap.size w w' := by
  go_enter Try.func4, Try.ntmps4
  go_wp2_with (fail)
  refine (foolscaplaw8_known.calls true _ known_true rfl).mono ?_
  rintro e w1 ⟨rfl, hb1⟩
  have hC1 := Kd.C_below hr0 hb1
  go_wp2_with (fail)
  refine (foolscaphelp_Light.calls K _ _ l0 true _ hC1 hc0 hLi).mono ?_
  rintro e w2 ⟨rfl, hd2⟩
  have hb2 := drawn_below hd2
  have hC2 := Kd.C_below hC1 hb2
  clear hd2
  go_wp2_with (fail)
  refine (starts_calls A0 l0.length c0 big _).mono ?_
  rintro e w3 ⟨rfl, hw3_⟩
  have hb3 := starts_below hw3_
  have hw3 := Aside0.mk hw3_
  clear hw3_
  have hC3 := Kd.C_below hC2 hb3
  go_wp2_with (fail)
  refine (starts_heard A0 c0 l0 big 5000 hl hs (by omega) (by omega) w2 w3 hC3 hw3.out _ rfl).mono ?_
  rintro e w4 ⟨Aa, ca, rfl, hca, hCa, hb4⟩
  rw [show (5000 : Int).toNat = 5000 from rfl, List.take_of_length_le hS] at hca hCa ⊢
  have hC4 := Kd.C_below hC3 hb4
  go_wp2_with (fail)
  refine (ends_calls A0 l0.length c0 big _).mono ?_
  rintro e w5 ⟨rfl, hw5_⟩
  have hb5 := starts_below hw5_
  have hw5 := Aside0.mk hw5_
  clear hw5_
  have hC5 := Kd.C_below hC4 hb5
  go_wp2_with (fail)
  refine (ends_heard A0 c0 l0 big 5000 hl hs (by omega) (by omega) w4 w5 hC5 hw5.out _ rfl).mono ?_
  rintro e w6 ⟨Ab, cb, rfl, hcb, hCb, hb6⟩
  rw [show (5000 : Int).toNat = 5000 from rfl, List.take_of_length_le hE] at hcb hCb ⊢
  have hC6 := Kd.C_below hC5 hb6
  go_wp2_with (fail)
  refine (foolscapref5_Starts.calls K A0 c0 l0 big (startsL l0 big) _ hC6 hc0 hRS).mono ?_
  rintro e w7 ⟨v7, rfl, hR7, hb7⟩
  obtain ⟨A7, c7, rfl, hc7, hC7r⟩ := Kd.R_reads hR7
  clear hR7
  have hC7 := Kd.C_below hC6 hb7
  go_wp2_with (fail)
  refine (foolscapref5_Ends.calls K A0 c0 l0 big (endsL l0 big) _ hC7 hc0 hRE).mono ?_
  rintro e w8 ⟨v8, rfl, hR8, hb8⟩
  obtain ⟨A8, c8, rfl, hc8, hC8r⟩ := Kd.R_reads hR8
  clear hR8
  have hC8 := Kd.C_below hC7 hb8
  have ha8 := Kd.C_below (Kd.C_below (Kd.C_below (Kd.C_below hCa hb5) hb6) hb7) hb8
  have hb8b := Kd.C_below (Kd.C_below hCb hb7) hb8
  have hw8 := Kd.C_below hC7r hb8
  go_wp2_with (fail)
  refine (foolscaphelp_Places.calls K Aa ca (startsL l0 big) A7 c7 (startsL l0 big) true _ ha8 hca hw8 hc7 (places_same _ (by omega) K hK)).mono ?_
  rintro e w9 ⟨rfl, hd9⟩
  have hb9 := drawn_below hd9
  clear hd9
  go_wp2_with (fail)
  refine (foolscaphelp_Places.calls K Ab cb (endsL l0 big) A8 c8 (endsL l0 big) true _ (Kd.C_below hb8b hb9) hcb (Kd.C_below hC8r hb9) hc8 (places_same _ (by omega) K hK)).mono ?_
  rintro e w10 ⟨rfl, hd10⟩
  have hb10 := drawn_below hd10
  clear hd10
  have hC10 := Kd.C_below (Kd.C_below hC8 hb9) hb10
  go_wp2_with (fail)
  refine (starts_calls A0 l0.length c0 big _).mono ?_
  rintro e w11 ⟨rfl, hw11_⟩
  have hb11 := starts_below hw11_
  have hw11 := Aside0.mk hw11_
  clear hw11_
  have hC11 := Kd.C_below hC10 hb11
  go_wp2_with (fail)
  refine (starts_heard A0 c0 l0 big (m % 20 + 1) hl hs (by omega) (by omega) w10 w11 hC11 hw11.out _ rfl).mono ?_
  rintro e w12 ⟨Ac, cc, rfl, hcc, hCc, hb12⟩
  have hC12 := Kd.C_below hC11 hb12
  go_wp2_with (fail)
  refine (ends_calls A0 l0.length c0 big _).mono ?_
  rintro e w13 ⟨rfl, hw13_⟩
  have hb13 := starts_below hw13_
  have hw13 := Aside0.mk hw13_
  clear hw13_
  have hC13 := Kd.C_below hC12 hb13
  go_wp2_with (fail)
  refine (ends_heard A0 c0 l0 big (m % 20 + 1) hl hs (by omega) (by omega) w12 w13 hC13 hw13.out _ rfl).mono ?_
  rintro e w14 ⟨Ad, cd, rfl, hcd, hCd, hb14⟩
  have hC14 := Kd.C_below hC13 hb14
  have hc14 := Kd.C_below (Kd.C_below hCc hb13) hb14
  have h714 := Kd.C_below (Kd.C_below (Kd.C_below (Kd.C_below (Kd.C_below (Kd.C_below hw8 hb9) hb10) hb11) hb12) hb13) hb14
  have h814 := Kd.C_below (Kd.C_below (Kd.C_below (Kd.C_below (Kd.C_below (Kd.C_below hC8r hb9) hb10) hb11) hb12) hb13) hb14
  have HBW : Below w.heap.size w w14 := below_via (below_via (below_via (below_via (below_via (below_via (below_via (below_via (below_via (below_via (below_via (below_via (below_via hb1 (Nat.le_refl _) hb2) (Nat.le_refl _) hb3) (Nat.le_refl _) hb4) (Nat.le_refl _) hb5) (Nat.le_refl _) hb6) (Nat.le_refl _) hb7) (Nat.le_refl _) hb8) (Nat.le_refl _) hb9) (Nat.le_refl _) hb10) (Nat.le_refl _) hb11) (Nat.le_refl _) hb12) (Nat.le_refl _) hb13) (Nat.le_refl _) hb14
  obtain ⟨kn, hkn⟩ : ∃ kn, (m % 20 + 1).toNat = kn := ⟨_, rfl⟩
  have PA := first_same K hK Ac cc (startsL l0 big) A7 c7 (by omega) (m % 20 + 1).toNat w14 hc14 hcc h714 hc7
  have PB : ∀ W, Below w14.heap.size w14 W → _ := fun W hb => first_same K hK Ad cd (endsL l0 big) A8 c8 (by omega) (m % 20 + 1).toNat W (Kd.C_below hCd hb) hcd (Kd.C_below h814 hb) hc8
  go_wp2_with (fail)
  all_goals rw [hkn] at PA
  all_goals rw [hkn] at PB
  · have eA : min kn (startsL l0 big).length = (startsL l0 big).length := by omega
    rw [eA] at PA ⊢
    refine PA.mono ?_
    rintro e w15 ⟨rfl, hd15⟩
    have hb15 := drawn_below hd15
    have PC := PB w15 hb15
    have HB5 := below_via HBW (Nat.le_refl _) hb15
    clear hd15 hb15 PB PA
    go_wp2_with (fail)
    · have eB : min kn (endsL l0 big).length = (endsL l0 big).length := by omega
      rw [eB] at PC ⊢
      refine PC.mono ?_
      rintro e w16 ⟨rfl, hd16⟩
      have HB6 := below_via HB5 (Nat.le_refl _) (drawn_below hd16)
      clear hd16 PC
      go_wp2_with (fail)
      go_ret
      exact ⟨rfl, HB6⟩
    · have eB : min kn (endsL l0 big).length = kn := by omega
      rw [eB] at PC ⊢
      refine PC.mono ?_
      rintro e w16 ⟨rfl, hd16⟩
      have HB6 := below_via HB5 (Nat.le_refl _) (drawn_below hd16)
      clear hd16 PC
      go_wp2_with (fail)
      go_ret
      exact ⟨rfl, HB6⟩
  · have eA : min kn (startsL l0 big).length = kn := by omega
    rw [eA] at PA ⊢
    refine PA.mono ?_
    rintro e w15 ⟨rfl, hd15⟩
    have hb15 := drawn_below hd15
    have PC := PB w15 hb15
    have HB5 := below_via HBW (Nat.le_refl _) hb15
    clear hd15 hb15 PB PA
    go_wp2_with (fail)
    · have eB : min kn (endsL l0 big).length = (endsL l0 big).length := by omega
      rw [eB] at PC ⊢
      refine PC.mono ?_
      rintro e w16 ⟨rfl, hd16⟩
      have HB6 := below_via HB5 (Nat.le_refl _) (drawn_below hd16)
      clear hd16 PC
      go_wp2_with (fail)
      go_ret
      exact ⟨rfl, HB6⟩
    · have eB : min kn (endsL l0 big).length = kn := by omega
      rw [eB] at PC ⊢
      refine PC.mono ?_
      rintro e w16 ⟨rfl, hd16⟩
      have HB6 := below_via HB5 (Nat.le_refl _) (drawn_below hd16)
      clear hd16 PC
      go_wp2_with (fail)
      go_ret
      exact ⟨rfl, HB6⟩

end Go.Proofs.Ytifkfjpkngdhmaa.Pure
namespace Go.Proofs.Ytifkfjpkngdhmaa.Pure
open Go.RowKit Go.Proofs.Ytifkfjpkngdhmaa.V Go.Proofs.YtifkfjpkngdhmaaW.PrintWords Go.Proofs.YtifkfjpkngdhmaaW.PrintLast Go.Proofs.YtifkfjpkngdhmaaW.PrintMore
set_option linter.unusedVariables false

/-- the bytes of d lines from line i on. -/
def rs (l : List ByteArray) : Nat → Nat → Nat
  | _, 0 => 0
  | i, d + 1 => (rdOf ByteArray.empty l (i : Int)).size + rs l (i + 1) d
theorem rs_snoc (l : List ByteArray) : ∀ (d i : Nat), rs l i (d + 1) = rs l i d + (rdOf ByteArray.empty l ((i + d : Nat) : Int)).size
  | 0, i => by simp [rs]
  | d + 1, i => by
    have := rs_snoc l d (i + 1)
    rw [rs, this, rs, show i + 1 + d = i + (d + 1) by omega]
    omega
theorem rs_le (l : List ByteArray) : ∀ (d i j : Nat), i ≤ j → j < i + d → (rdOf ByteArray.empty l (j : Int)).size ≤ rs l i d
  | 0, i, j, h1, h2 => by omega
  | d + 1, i, j, h1, h2 => by
    rw [rs]
    by_cases h : j = i
    · subst h; omega
    · have := rs_le l d (i + 1) j (by omega) (by omega)
      omega
theorem plc_tot (empty : Bool) (ask : ByteArray → Int → Bool) (l : List ByteArray) : ∀ k, (plc empty ask l k).length ≤ rs l 0 k + k
  | 0 => by simp [plc]
  | k + 1 => by
    have ih := plc_tot empty ask l k
    have h := lineP_len empty ask k (rdOf ByteArray.empty l (k : Int)) (rdOf ByteArray.empty l (k : Int)).size
    rw [plc_succ, List.length_append, rs_snoc, Nat.zero_add]
    omega

theorem light_r (l : List ByteArray) (hs : ∀ s ∈ l, s.size ≤ 140737488351232) (hl : l.length ≤ 40) (d : Nat) :
    (∀ (k : Nat) (n : Int) (i : Nat), i ≤ l.length → l.length - i = d → 0 ≤ n → n ≤ 1200 → d * 1210 + 1 ≤ k →
      ∃ b, foolscaphelp_Light.l0 k l n (i : Int) = some b ∧ (b = true → n + (rs l i d : Int) ≤ 1200)) := by
  induction d with
  | zero =>
    intro k n i hi hd h0 h1 hk
    obtain ⟨k, rfl⟩ : ∃ m, k = m + 1 := ⟨k - 1, by omega⟩
    have hz0 : ((rs l i 0 : Nat) : Int) = 0 := rfl
    refine ⟨true, ?_, fun _ => by rw [hz0, Int.add_zero]; exact h1⟩
    simp only [foolscaphelp_Light.l0]
    rw [if_neg (by omega)]
  | succ d ih =>
    intro k n i hi hd h0 h1 hk
    obtain ⟨k, rfl⟩ : ∃ m, k = m + 1 := ⟨k - 1, by omega⟩
    have hz := hs _ (ln_mem (l := l) (j := i) (by omega) (by omega))
    have e1 : wrap64 (n + ((rdOf ByteArray.empty l i).size : Int)) = n + ((rdOf ByteArray.empty l i).size : Int) := w64 (by omega) (by omega)
    simp only [foolscaphelp_Light.l0]
    rw [if_pos (by omega), if_pos (by omega), e1]
    by_cases hb : n + ((rdOf ByteArray.empty l i).size : Int) > 1200
    · rw [if_pos hb]
      exact ⟨false, rfl, fun h => by cases h⟩
    · rw [if_neg hb]
      obtain ⟨m, hm⟩ : ∃ m, m = d * 1210 + 1 := ⟨_, rfl⟩
      have hmk : (rdOf ByteArray.empty l (i : Int)).size + m + 2 ≤ k := by omega
      rw [← hm] at ih
      clear hm hk
      have inner : ∀ (e : Nat) (k c : Nat), c ≤ (rdOf ByteArray.empty l i).size → (rdOf ByteArray.empty l i).size - c = e → e + m + 2 ≤ k →
          ∃ b, foolscaphelp_Light.l1 k l (n + ((rdOf ByteArray.empty l i).size : Int)) (i : Int) (c : Int) = some b ∧ (b = true → n + ((rdOf ByteArray.empty l i).size : Int) + (rs l (i + 1) d : Int) ≤ 1200) := by
        intro e
        induction e with
        | zero =>
          intro k c hc he hk
          obtain ⟨k, rfl⟩ : ∃ m, k = m + 1 := ⟨k - 1, by omega⟩
          simp only [foolscaphelp_Light.l1]
          rw [if_pos (by omega), if_pos (by omega), if_neg (by omega), w64 (by omega) (by omega)]
          exact ih k _ (i + 1) (by omega) (by omega) (by omega) (by omega) (by omega)
        | succ e ih2 =>
          intro k c hc he hk
          obtain ⟨k, rfl⟩ : ∃ m, k = m + 1 := ⟨k - 1, by omega⟩
          simp only [foolscaphelp_Light.l1]
          rw [if_pos (by omega), if_pos (by omega), if_pos (by omega), if_pos (by omega)]
          split
          · exact ⟨false, rfl, fun h => by cases h⟩
          · rw [w64 (by omega) (by omega)]
            exact ih2 k (c + 1) (by omega) (by omega) (by omega)
      obtain ⟨b, hb1, hb2⟩ := inner (rdOf ByteArray.empty l i).size k 0 (Nat.zero_le _) (Nat.sub_zero _) hmk
      refine ⟨b, hb1, fun h => ?_⟩
      have := hb2 h
      rw [rs]
      omega

theorem light_tells (l : List ByteArray) (hs : ∀ s ∈ l, s.size ≤ 140737488351232) (k : Nat) (hk : 60000 ≤ k) :
    ∃ b, foolscaphelp_Light.f k l = some b ∧ (b = true → l.length ≤ 40 ∧ (∀ s ∈ l, s.size ≤ 1200) ∧ rs l 0 l.length ≤ 1200) := by
  unfold foolscaphelp_Light.f
  by_cases h2 : (l.length : Int) > 40
  · rw [if_pos h2]
    exact ⟨false, rfl, fun h => by cases h⟩
  · rw [if_neg h2]
    obtain ⟨b, hb, hb2⟩ := light_r l hs (by omega) l.length k 0 0 (by omega) (by omega) (by omega) (by omega) (by omega)
    refine ⟨b, hb, fun ht => ?_⟩
    have ht := hb2 ht
    refine ⟨by omega, fun s hs => ?_, by omega⟩
    obtain ⟨j, hj, rfl⟩ := List.getElem_of_mem hs
    have := rs_le l l.length 0 j (by omega) (by omega)
    unfold rdOf at this
    rw [List.getD, List.getElem?_eq_getElem (by omega)] at this
    have e : (Option.some (l[((j : Int).toNat)]'(by omega))).getD ByteArray.empty = l[j] := by simp
    rw [e] at this
    omega

theorem starts_lo {l : List ByteArray} (h1 : l.length ≤ 40) (h2 : ∀ s ∈ l, s.size ≤ 1200) (big : Bool) : ∀ (d k j : Nat), j + d = l.length → d * 1210 + 20 ≤ k →
    foolscapref5_Starts.l0 k l big (plc true (fun s x => startB s big x) l j) (j : Int) = some (startsL l big) := by
  intro d
  induction d with
  | zero =>
    intro k j hj hk
    obtain ⟨k, rfl⟩ : ∃ m, k = m + 1 := ⟨k - 1, by omega⟩
    rw [foolscapref5_Starts.l0, if_neg (by omega), show j = l.length by omega]
    rfl
  | succ d ih =>
    intro k j hj hk
    obtain ⟨k, rfl⟩ : ∃ m, k = m + 1 := ⟨k - 1, by omega⟩
    have hz := rd_size h2 j
    have hA := plc_len true (fun s x => startB s big x) h2 j
    obtain ⟨s, hse⟩ : ∃ s, rdOf ByteArray.empty l (j : Int) = s := ⟨_, rfl⟩
    have H : ∀ k', d * 1210 + 20 ≤ k' → foolscapref5_Starts.l0 k' l big (plc true (fun s x => startB s big x) l j ++ lineP true (fun s x => startB s big x) j s s.size) ((j : Int) + 1) = some (startsL l big) := by
      intro k' hk'
      have := ih k' (j + 1) (by omega) hk'
      rw [plc_succ, hse] at this
      exact this
    rw [hse] at hz
    have L1 := starts_l1 l big j (by omega) s hz _ (by omega) (d * 1210 + 20) (by omega) _ H s.size
    obtain ⟨k, rfl⟩ : ∃ m, k = m + 1 := ⟨k - 1, by omega⟩
    rw [foolscapref5_Starts.l0, if_pos (by omega), if_pos (by omega), hse]
    by_cases he : s.size = 0
    · have e1 : s.toList = ([] : List UInt8) := by
        have := toList_size s
        rw [decide_eq_true he] at this
        simpa using this
      have := L1 k 0 (by omega) (by omega)
      rw [lineP_zero, if_pos ⟨rfl, he⟩] at this
      rw [if_pos e1, if_pos (by omega), foolscapref5_Starts.j1]
      exact this
    · have e1 : ¬ s.toList = ([] : List UInt8) := by
        have := toList_size s
        rw [decide_eq_false he] at this
        simpa using this
      have := L1 k 0 (by omega) (by omega)
      rw [lineP_zero, if_neg (fun h => he h.2), List.append_nil] at this
      rw [if_neg e1, foolscapref5_Starts.j1]
      exact this
theorem ends_lo {l : List ByteArray} (h1 : l.length ≤ 40) (h2 : ∀ s ∈ l, s.size ≤ 1200) (big : Bool) : ∀ (d k j : Nat), j + d = l.length → d * 1210 + 20 ≤ k →
    foolscapref5_Ends.l0 k l big (plc false (fun s x => endB s big x) l j) (j : Int) = some (endsL l big) := by
  intro d
  induction d with
  | zero =>
    intro k j hj hk
    obtain ⟨k, rfl⟩ : ∃ m, k = m + 1 := ⟨k - 1, by omega⟩
    rw [foolscapref5_Ends.l0, if_neg (by omega), show j = l.length by omega]
    rfl
  | succ d ih =>
    intro k j hj hk
    obtain ⟨k, rfl⟩ : ∃ m, k = m + 1 := ⟨k - 1, by omega⟩
    have hz := rd_size h2 j
    have hA := plc_len false (fun s x => endB s big x) h2 j
    obtain ⟨s, hse⟩ : ∃ s, rdOf ByteArray.empty l (j : Int) = s := ⟨_, rfl⟩
    have H : ∀ k', d * 1210 + 20 ≤ k' → foolscapref5_Ends.l0 k' l big (plc false (fun s x => endB s big x) l j ++ lineP false (fun s x => endB s big x) j s s.size) ((j : Int) + 1) = some (endsL l big) := by
      intro k' hk'
      have := ih k' (j + 1) (by omega) hk'
      rw [plc_succ, hse] at this
      exact this
    rw [hse] at hz
    have := ends_l1 l big j (by omega) s hz _ (by omega) (d * 1210 + 20) (by omega) _ H s.size k 0 (by omega) (by omega)
    rw [lineP_zero, if_neg (by simp), List.append_nil] at this
    rw [foolscapref5_Ends.l0, if_pos (by omega), if_pos (by omega), hse]
    exact this

set_option maxHeartbeats 4000000 in
set_option maxRecDepth 100000 in
theorem mark_dark (A0 : Option Addr) (c0 : Nat) (l0 : List ByteArray) (big : Bool) (m : Int) (w : World) (hr0 : Kd.C Kd.string w A0 l0.length l0) (hc0 : l0.length ≤ c0) (K : Nat) (hLi : foolscaphelp_Light.f K l0 = some false) :
    Calls Try.prog 4 #[.slice A0 l0.length c0, .bool big, .int .u8 m] w fun e w' => e = .returned (.bool true) ∧ Below w.heap.size w w' := by
  go_enter Try.func4, Try.ntmps4
  go_wp2_with (fail)
  refine (foolscaplaw8_known.calls true _ known_true rfl).mono ?_
  rintro e w1 ⟨rfl, hb1⟩
  have hC1 := Kd.C_below hr0 hb1
  go_wp2_with (fail)
  refine (foolscaphelp_Light.calls K _ _ l0 false _ hC1 hc0 hLi).mono ?_
  rintro e w2 ⟨rfl, hd2⟩
  have hb2 := drawn_below hd2
  clear hd2
  go_wp2_with (fail)
  go_ret
  exact ⟨rfl, below_via hb1 (Nat.le_refl _) hb2⟩

theorem mark_calls (A0 : Option Addr) (c0 : Nat) (l0 : List ByteArray) (big : Bool) (m : Int) (w : World) (hr0 : Kd.C Kd.string w A0 l0.length l0) (hc0 : l0.length ≤ c0) (hs : ∀ s ∈ l0, s.size ≤ 140737488351232) (hm0 : 0 ≤ m) (hm1 : m ≤ 255) :
    Calls Try.prog 4 #[.slice A0 l0.length c0, .bool big, .int .u8 m] w fun e w' => e = .returned (.bool true) ∧ Below w.heap.size w w' := by
  obtain ⟨K, hK⟩ : ∃ k : Nat, 60000 ≤ k := ⟨60000, Nat.le_refl _⟩
  obtain ⟨b, hb, ht⟩ := light_tells l0 hs K hK
  cases b with
  | false => exact mark_dark A0 c0 l0 big m w hr0 hc0 K hb
  | true =>
    obtain ⟨h1, h2, h3⟩ := ht rfl
    have t1 := plc_tot true (fun s x => startB s big x) l0 l0.length
    have t2 := plc_tot false (fun s x => endB s big x) l0 l0.length
    exact mark_walk A0 c0 l0 big m w hr0 hc0 K hK hm0 hm1 h1 h2 hb (starts_lo h1 h2 big l0.length K 0 (by omega) (by omega)) (ends_lo h1 h2 big l0.length K 0 (by omega) (by omega)) (by unfold startsL; omega) (by unfold endsL; omega)

end Go.Proofs.Ytifkfjpkngdhmaa.Pure
namespace Go.Proofs.Ytifkfjpkngdhmaa.V
open Go.RowKit Go.Shelf Go.Proofs.Ytifkfjpkngdhmaa.Pure Go.Proofs.YtifkfjpkngdhmaaW.PrintWords Go.Proofs.YtifkfjpkngdhmaaW.PrintLast Go.Proofs.YtifkfjpkngdhmaaW.PrintMore
set_option linter.unusedVariables false
/-- what the law answers, where no line is larger than any machine's and the count is a byte. -/
def foolscaplaw8_WordsMark.f (k : Nat) (l0 : List ByteArray) (a1 : Bool) (a2 : Int) : Option (Bool) := if (∀ s ∈ l0, s.size ≤ 140737488351232) ∧ 0 ≤ a2 ∧ a2 ≤ 255 then some true else none
theorem foolscaplaw8_WordsMark.calls (k : Nat) (A0 : Option Addr) (c0 : Nat) (l0 : List ByteArray) (a1 : Bool) (a2 : Int) (r : Bool) (w : World) (hr0 : Kd.C Kd.string w A0 l0.length l0) (hc0 : l0.length ≤ c0) (h : foolscaplaw8_WordsMark.f k l0 a1 a2 = some r) (hrT : r = true) :
    Calls Try.prog 4 #[.slice A0 l0.length c0, .bool a1, .int .u8 a2] w fun e w' => e = .returned (.bool r) ∧ Below w.heap.size w w' := by
  unfold foolscaplaw8_WordsMark.f at h
  by_cases hb : (∀ s ∈ l0, s.size ≤ 140737488351232) ∧ 0 ≤ a2 ∧ a2 ≤ 255
  · subst hrT
    exact mark_calls A0 c0 l0 a1 a2 w hr0 hc0 hb.1 hb.2.1 hb.2.2
  · rw [if_neg hb] at h; cases h
end Go.Proofs.Ytifkfjpkngdhmaa.V
namespace Go.Proofs.Ytifkfjpkngdhmaa.Pure
open Go.RowKit Go.Proofs.Ytifkfjpkngdhmaa.V Go.Proofs.YtifkfjpkngdhmaaW.PrintWords Go.Proofs.YtifkfjpkngdhmaaW.PrintLast Go.Proofs.YtifkfjpkngdhmaaW.PrintMore
set_option linter.unusedVariables false

theorem WordsMark (l0 : List ByteArray) (a1 : Bool) (a2 : Int) (hl0 : l0.length * 16 ≤ 140737488351232) (hs0 : ∀ s ∈ l0, s.size ≤ 140737488351232) (w2 : (Lit.int .u8 a2).wf = true) : ∃ k, foolscaplaw8_WordsMark.f k l0 a1 a2 = some true := by
  have g2 := bounds_u8 w2
  refine ⟨0, ?_⟩
  unfold foolscaplaw8_WordsMark.f
  exact if_pos ⟨hs0, g2.1, by have := g2.2; omega⟩

end Go.Proofs.Ytifkfjpkngdhmaa.Pure
namespace Go.Proofs.Ytifkfjpkngdhmaa.wordsMark
open Go.ChangeShapes Go.WideShapes Go.ChangeAt Go.RowKit Go.Proofs.YtifkfjpkngdhmaaW.PrintWords
open Go.ChangeMaps (open_string shut_string)
set_option linter.unusedVariables false
theorem own : ownKnob Try.prog.godebug = none := by kernel_rfl
theorem laidOut : laidOutB Try.prog = true := by kernel_rfl
theorem weightsAll_mem {H : Type} {P : Program} {e : TypeId} {n : Nat} : ∀ {l : List (DataW H)} {d : DataW H}, d ∈ l → n ∈ d.weights P e → n ∈ DataW.weightsAll P e l
  | x :: r, d, hd, hn => by
    simp only [DataW.weightsAll, List.mem_append]
    rcases List.mem_cons.1 hd with rfl | h
    · exact Or.inl hn
    · exact Or.inr (weightsAll_mem h hn)
  | [], _, hd, _ => by simp at hd
theorem open_lines {H : Type} {enc : TypeId × Value → H} {P : Program} {W : World} {base : Nat} {held : Bool} {t e : TypeId} {a : Option Addr} {len cap : Nat} {d : DataW H} {ps : List MemPlace} {ts : List TypeId} {ds : List (DataW H)} {j : Nat}
    (hsz : (DataW.weightsEach P ts ds).all (· ≤ reachBytes) = true) (ht : ts[j]? = some t) (hd : ds[j]? = some d) (hu : P.underlying t = some (.slice e)) (he : P.underlying e = some .string) (hc : P.cellsOf e = 1) (hB : P.bytesOf e = 16)
    (h : DataW.Trod enc P W base (fun _ => true) held t (.slice a len cap) d ps) :
    ∃ l : List ByteArray, len = l.length ∧ ReadsOf Value.string ByteArray.empty W a l.length l ∧ l.length ≤ cap ∧ l.length * 16 ≤ 140737488351232 ∧ ∀ s ∈ l, s.size ≤ 140737488351232 := by
  obtain ⟨fuel, hf⟩ := h
  rcases open_strings hu he hc hf with ⟨hcs, _⟩ | ⟨x, l, c, ss, hcs, _, hl, hm, hz, hx, hcell, _⟩
  · simp [Value.cells] at hcs
    obtain ⟨rfl, rfl, rfl⟩ := hcs
    exact ⟨[], rfl, ReadsOf.nil _ _ _, by simp, by simp, by simp⟩
  · simp [Value.cells] at hcs
    obtain ⟨rfl, rfl, rfl⟩ := hcs
    obtain ⟨hx, _⟩ := Prod.mk.inj hx
    subst hx
    have z := sized_slice hsz ht hd hu
    rw [hB] at z
    have hz : ss.length = cap := by simpa using hz
    have hl2 : (ss.take len).length = len := by rw [List.length_take]; omega
    have z1 : (strs (H := H) (ss.take len)).length + (strs (H := H) (ss.drop len)).length = ss.length := by simp only [strs, List.length_map, List.length_take, List.length_drop]; omega
    rw [z1] at z
    have z : ss.length * 16 ≤ 140737488351232 := z
    unfold maxLen at hm
    refine ⟨ss.take len, hl2.symm, ⟨rfl, by omega, fun hn => ⟨x, rfl, fun i hi => ?_⟩⟩, by omega, by omega, fun s hs => ?_⟩
    · rw [hl2] at hi
      rw [hcell i (by omega)]
      simp only [List.getD]
      rw [List.getElem?_take_of_lt hi]
    · have := List.all_eq_true.1 hsz _ (DataW.weights_mem_each ht hd s.data.toList.length (by
        simp only [DataW.weights, hu]
        refine List.mem_cons_of_mem _ (List.mem_append_left _ (weightsAll_mem (d := .lit (.string s.data.toList)) ?_ (by simp [DataW.weights])))
        exact List.mem_map.2 ⟨s, hs, rfl⟩))
      have := of_decide_eq_true this
      rw [Array.length_toList] at this
      exact this
set_option maxRecDepth 100000 in
theorem lifted (os : Os) (started : os.Started) (H : Type) (enc : TypeId × Value → H) :
    ReturnsInHanded {} Try.checked os 4 .any (Rows.wordsMarkSpec.pre6 enc Try.prog Try.f4 Rows.wordsMarkRow.domain false) (Rows.wordsMarkSpec.post enc Try.prog Try.f4 false true false false) := by
  refine returnsInHanded_of_change_sized (C := Try.checked) own started (by kernel_rfl) Try.func4
    (ChangeSpec.witness6 (enc := enc) (C := Try.checked) false ⟨#[], #[.slice none 0 0, .bool false, .int .u8 0], []⟩ 8 (by kernel_rfl) (by kernel_rfl) (by kernel_rfl) (by kernel_rfl)) ?_
  intro W base args ds gs before hval0 hW hcnd hsz0 _
  have hsz : (DataW.weightsEach Try.prog (Try.f4.params.toList ++ Rows.wordsMarkSpec.plain.varTypes Try.prog) (ds ++ gs)).all (· ≤ reachBytes) = true := hsz0
  have hval : ∀ (j : Nat) t v, Try.f4.params[j]? = some t → args[j]? = some v → Value.okWide Try.prog W .any base t v := hval0
  have hW' := hW
  obtain ⟨p, q, hA0, hV, rfl, hfz, hnd⟩ := hW
  have hA : DataW.TrodAll enc Try.prog W 0 (fun _ => true) true Try.f4.params.toList args.toList ds p := hA0
  rw [Try.params4] at hA hval hsz
  obtain ⟨v0, vs0, d0, ds0, p0, q0, hargs, rfl, rfl, h0, r0⟩ := trodAll_cons hA
  obtain ⟨v1, vs1, d1, ds1, p1, q1, rfl, rfl, rfl, h1, r1⟩ := trodAll_cons r0
  obtain ⟨v2, vs2, d2, ds2, p2, q2, rfl, rfl, rfl, h2, r2⟩ := trodAll_cons r1
  obtain ⟨rfl, rfl, rfl⟩ := trodAll_nil r2
  obtain rfl : args = #[v0, v1, v2] := by cases args; simp_all
  obtain ⟨rfl, rfl⟩ := trodVars_none hV
  obtain ⟨a0, len0, cap0, rfl⟩ := okWide_slice Try.underlying22 (hval 0 22 v0 rfl rfl)
  have k0 := h0
  have lt0 : ∀ x ∈ p0, x.block < W.heap.size := by obtain ⟨m, hm⟩ := k0; exact DataW.trod_lt m _ _ _ hm
  obtain ⟨l0, rfl, hr0, hc0, hl0, hs0⟩ := open_lines hsz (j := 0) (t := 22) rfl rfl Try.underlying22 Try.underlying9 (by kernel_rfl) (by kernel_rfl) h0
  obtain ⟨a1, rfl, rfl, rfl⟩ := open_bool Try.underlying4 (hval 1 4 v1 rfl rfl) h1
  obtain ⟨a2, rfl, rfl, rfl, w2⟩ := open_int Try.underlying5 (hval 2 5 v2 rfl rfl) h2
  clear hA0 hval0 hsz0 hsz
  obtain ⟨k, h⟩ := Pure.WordsMark l0 a1 a2 hl0 hs0 w2
  refine (V.foolscaplaw8_WordsMark.calls k _ _ l0 a1 a2 true W (Kd.C_of_reads (d := ByteArray.empty) (h1 := fun _ => rfl) hr0) hc0 h rfl).mono fun e W' ⟨he, bel⟩ => ?_
  subst he
  exact ⟨_, rfl, _, _, _, [], _, [], hW', trodAll_mk1 (shut_bool Try.underlying4 _), (trodAll_cons_mk (Below.trod laidOut (by kernel_rfl) (of_decide_eq_true (by kernel_rfl)) k0 bel lt0) (trodAll_cons_mk (shut_bool Try.underlying4 _) (trodAll_cons_mk (shut_int Try.underlying5 w2) trodAll_mk0))), rfl, bel.frame _, fun h => by cases h⟩
theorem over : Rows.wordsMarkRow.holds Try.pinned (OpenSpec.ofChange Rows.wordsMarkSpec) :=
  OpenClaim.holds_of_wide 4 Try.f4 rfl rfl rfl rfl rfl rfl rfl ⟨rfl, rfl, rfl, rfl, rfl⟩ rfl rfl rfl rfl rfl (by kernel_rfl) Try.func4 (by kernel_rfl)
    (of_decide_eq_true (by kernel_rfl)) (by unfold Func.isWrapper; first | (rw [if_pos (by decide +kernel)]; kernel_rfl) | (rw [if_neg (by decide +kernel)]; exact ⟨rfl, rfl⟩))
    (fun os started H enc _ => lifted os started H enc)
theorem proved : Rows.WordsMarkSaid := over
#print axioms proved
end Go.Proofs.Ytifkfjpkngdhmaa.wordsMark
namespace Go.Proofs.Ytifkfjpkngdhmaa
/-- The row, under a short name, for the claim. -/
theorem wordsMark_holds : Rows.WordsMarkSaid := wordsMark.proved
end Go.Proofs.Ytifkfjpkngdhmaa
