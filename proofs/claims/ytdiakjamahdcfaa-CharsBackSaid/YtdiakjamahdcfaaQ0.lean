/- Proved here: what 'Text' tells of lines (few, short ones); small words on whole numbers, and the class of a byte. -/
import Derived.OpenShut
import Derived.Test.YtdiakjamahdcfaaFFoolscaphelpText
namespace Go.Proofs.Ytdiakjamahdcfaa.Pure
open Go.RowKit Go.Proofs.Ytdiakjamahdcfaa.V Go.Proofs.YtdiakjamahdcfaaW.PrintWords Go.Proofs.YtdiakjamahdcfaaW.PrintLast Go.Proofs.YtdiakjamahdcfaaW.PrintMore

theorem w64 {x : Int} (h0 : -9223372036854775808 ≤ x) (h1 : x < 9223372036854775808) : wrap64 x = x := by unfold wrap64; omega

def ofS (c : Int) (big : Bool) : Int :=
  if c = 32 ∨ c = 9 then 0 else if big = true then 1
  else if (97 ≤ c ∧ c ≤ 122) ∨ (65 ≤ c ∧ c ≤ 90) ∨ (48 ≤ c ∧ c ≤ 57) ∨ c = 95 ∨ 128 ≤ c then 1 else 2

theorem ofS_else {c : Int} (h1 : ¬ c = 32) (h2 : ¬ c = 9) (b : Bool) : ofS c b = if b = true then 1 else if (97 ≤ c ∧ c ≤ 122) ∨ (65 ≤ c ∧ c ≤ 90) ∨ (48 ≤ c ∧ c ≤ 57) ∨ c = 95 ∨ 128 ≤ c then 1 else 2 := by
  unfold ofS
  rw [if_neg (by omega)]

theorem mn_le {a b : Int} (h : a ≤ b) : mn a b = a := by unfold mn; rw [if_neg (by omega)]
theorem mn_ge {a b : Int} (h : b ≤ a) : mn a b = b := by unfold mn; split <;> omega
theorem mx_le {a b : Int} (h : a ≤ b) : mx a b = b := by unfold mx; split <;> omega
theorem mx_ge {a b : Int} (h : b ≤ a) : mx a b = a := by unfold mx; rw [if_neg (by omega)]

/-- a motion: where to, its way, whether it jumps, what is wanted; is there one? -/
abbrev Mv := Int × Int × Int × Bool × Int × Bool
abbrev no : Mv := (0, 0, 0, false, 0, false)


theorem ln_mem {l : List ByteArray} {j : Int} (h0 : 0 ≤ j) (h1 : j < l.length) : rdOf ByteArray.empty l j ∈ l := by
  unfold rdOf
  rw [List.getD, List.getElem?_eq_getElem (by omega)]
  exact List.getElem_mem _

/-- what 'Text' tells of lines. -/
def Small (l : List ByteArray) : Prop := 0 < l.length ∧ l.length ≤ 40 ∧ ∀ s ∈ l, s.size ≤ 1200

theorem light_l (l : List ByteArray) (hs : ∀ s ∈ l, s.size ≤ 140737488351232) (hl : l.length ≤ 40) (d : Nat) :
    (∀ (k : Nat) (n : Int) (i : Nat), i ≤ l.length → l.length - i = d → 0 ≤ n → n ≤ 1200 → d * 1210 + 1 ≤ k →
      ∃ b, foolscaphelp_Light.l0 k l n (i : Int) = some b ∧ (b = true → ∀ j : Int, (i : Int) ≤ j → j < l.length → (rdOf ByteArray.empty l j).size ≤ 1200)) := by
  induction d with
  | zero =>
    intro k n i hi hd h0 h1 hk
    obtain ⟨k, rfl⟩ : ∃ m, k = m + 1 := ⟨k - 1, by omega⟩
    refine ⟨true, ?_, fun _ j h1 h2 => by omega⟩
    simp only [foolscaphelp_Light.l0]
    rw [if_neg (by omega)]
  | succ d ih =>
    intro k n i hi hd h0 h1 hk
    obtain ⟨k, rfl⟩ : ∃ m, k = m + 1 := ⟨k - 1, by omega⟩
    have hz := hs _ (ln_mem (l := l) (j := i) (by omega) (by omega))
    have e1 : wrap64 (n + ((rdOf ByteArray.empty l i).size : Int)) = n + ((rdOf ByteArray.empty l i).size : Int) := w64 (by omega) (by omega)
    simp only [foolscaphelp_Light.l0]
    rw [if_pos (by omega), if_pos (by omega), e1]
    by_cases hb : n + ((rdOf ByteArray.empty l i).size : Int) > 1200
    · rw [if_pos hb]
      exact ⟨false, rfl, fun h => by cases h⟩
    · rw [if_neg hb]
      obtain ⟨m, hm⟩ : ∃ m, m = d * 1210 + 1 := ⟨_, rfl⟩
      have hmk : (rdOf ByteArray.empty l (i : Int)).size + m + 2 ≤ k := by omega
      rw [← hm] at ih
      clear hm hk
      have inner : ∀ (e : Nat) (k c : Nat), c ≤ (rdOf ByteArray.empty l i).size → (rdOf ByteArray.empty l i).size - c = e → e + m + 2 ≤ k →
          ∃ b, foolscaphelp_Light.l1 k l (n + ((rdOf ByteArray.empty l i).size : Int)) (i : Int) (c : Int) = some b ∧ (b = true → ∀ j : Int, ((i + 1 : Nat) : Int) ≤ j → j < l.length → (rdOf ByteArray.empty l j).size ≤ 1200) := by
        intro e
        induction e with
        | zero =>
          intro k c hc he hk
          obtain ⟨k, rfl⟩ : ∃ m, k = m + 1 := ⟨k - 1, by omega⟩
          simp only [foolscaphelp_Light.l1]
          rw [if_pos (by omega), if_pos (by omega), if_neg (by omega), w64 (by omega) (by omega)]
          exact ih k _ (i + 1) (by omega) (by omega) (by omega) (by omega) (by omega)
        | succ e ih2 =>
          intro k c hc he hk
          obtain ⟨k, rfl⟩ : ∃ m, k = m + 1 := ⟨k - 1, by omega⟩
          simp only [foolscaphelp_Light.l1]
          rw [if_pos (by omega), if_pos (by omega), if_pos (by omega), if_pos (by omega)]
          split
          · exact ⟨false, rfl, fun h => by cases h⟩
          · rw [w64 (by omega) (by omega)]
            exact ih2 k (c + 1) (by omega) (by omega) (by omega)
      obtain ⟨b, hb1, hb2⟩ := inner (rdOf ByteArray.empty l i).size k 0 (Nat.zero_le _) (Nat.sub_zero _) hmk
      refine ⟨b, hb1, fun h j h2 h3 => ?_⟩
      by_cases hj : j = i
      · subst hj
        omega
      · exact hb2 h j (by omega) h3

theorem text_tells (l : List ByteArray) (hs : ∀ s ∈ l, s.size ≤ 140737488351232) (k : Nat) (hk : 50000 ≤ k) :
    ∃ b, foolscaphelp_Text.f k l = some b ∧ (b = true → Small l) := by
  unfold foolscaphelp_Text.f
  by_cases h : (l.length : Int) > 0
  · rw [if_pos h]
    unfold foolscaphelp_Light.f
    by_cases h2 : (l.length : Int) > 40
    · rw [if_pos h2]
      exact ⟨false, rfl, fun h => by cases h⟩
    · rw [if_neg h2]
      obtain ⟨b, hb, hb2⟩ := light_l l hs (by omega) l.length k 0 0 (by omega) (by omega) (by omega) (by omega) (by omega)
      refine ⟨b, by rw [show ((0 : Nat) : Int) = 0 from rfl] at hb; rw [hb]; rfl, fun ht => ⟨by omega, by omega, fun s hs => ?_⟩⟩
      obtain ⟨j, hj, rfl⟩ := List.getElem_of_mem hs
      have := hb2 ht j (by omega) (by omega)
      unfold rdOf at this
      rw [List.getD, List.getElem?_eq_getElem (by omega)] at this
      exact this
  · rw [if_neg h]
    exact ⟨false, rfl, fun h => by cases h⟩

theorem Small.at {l : List ByteArray} (h : Small l) {j : Int} (h0 : 0 ≤ j) (h1 : j < l.length) : (rdOf ByteArray.empty l j).size ≤ 1200 := h.2.2 _ (ln_mem h0 h1)

end Go.Proofs.Ytdiakjamahdcfaa.Pure
