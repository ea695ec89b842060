/- Proved here: what the program's search within a line computes, as a plain function; f and F lead forth and back. -/
import Derived.Test.YtdiakjamahdcfaaFCharsSeek
import Derived.Test.YtdiakjamahdcfaaQFail
namespace Go.Proofs.Ytdiakjamahdcfaa.Pure
open Go.RowKit Go.Proofs.Ytdiakjamahdcfaa.V Go.Proofs.YtdiakjamahdcfaaW.PrintWords Go.Proofs.YtdiakjamahdcfaaW.PrintLast Go.Proofs.YtdiakjamahdcfaaW.PrintMore

/-- the n-th c among d bytes from place i on. -/
def fwd (s : ByteArray) (c : Int) : Nat → Nat → Int → Option Nat
  | 0, _, _ => none
  | d + 1, i, n => if bt s i = c then (if n = 1 then some i else fwd s c d (i + 1) (n - 1)) else fwd s c d (i + 1) n
/-- the n-th c among the first i bytes, backward. -/
def bwd (s : ByteArray) (c : Int) : Nat → Int → Option Nat
  | 0, _ => none
  | i + 1, n => if bt s i = c then (if n = 1 then some i else bwd s c i (n - 1)) else bwd s c i n

theorem fwd_in {s : ByteArray} {c : Int} {j : Nat} : ∀ {d i : Nat} {n : Int}, fwd s c d i n = some j → i ≤ j ∧ j < i + d
  | 0, _, _, h => by simp [fwd] at h
  | d + 1, i, n, h => by
    simp only [fwd] at h
    split at h
    · split at h
      · obtain rfl := Option.some.inj h; omega
      · have := fwd_in h; omega
    · have := fwd_in h; omega
theorem bwd_in {s : ByteArray} {c : Int} {j : Nat} : ∀ {i : Nat} {n : Int}, bwd s c i n = some j → j < i
  | 0, _, h => by simp [bwd] at h
  | i + 1, n, h => by
    simp only [bwd] at h
    split at h
    · split at h
      · obtain rfl := Option.some.inj h; omega
      · have := bwd_in h; omega
    · have := bwd_in h; omega

/-- where f led over n of them, F leads back over n - 1 more of them. -/
theorem fwd_bwd {s : ByteArray} {c : Int} {j : Nat} : ∀ {d i : Nat} {n : Int} (m : Int), 1 ≤ n → 1 ≤ m → fwd s c d i n = some j → bwd s c j (n - 1 + m) = bwd s c i m
  | 0, _, _, _, _, _, h => by simp [fwd] at h
  | d + 1, i, n, m, hn, hm, h => by
    simp only [fwd] at h
    by_cases h1 : bt s i = c
    · rw [if_pos h1] at h
      by_cases h2 : n = 1
      · rw [if_pos h2] at h
        obtain rfl := Option.some.inj h
        rw [h2, show (1 : Int) - 1 + m = m by omega]
      · rw [if_neg h2] at h
        have := fwd_bwd (m + 1) (by omega) (by omega) h
        rw [show n - 1 - 1 + (m + 1) = n - 1 + m by omega] at this
        rw [this]
        simp only [bwd]
        rw [if_pos h1, if_neg (by omega), show m + 1 - 1 = m by omega]
    · rw [if_neg h1] at h
      have := fwd_bwd m hn hm h
      rw [this]
      simp only [bwd]
      rw [if_neg h1]

/-- a place, or -1. -/
def orNo : Option Nat → Int
  | some j => j
  | none => -1

theorem nth_fwd (s : ByteArray) (hs : s.size ≤ 1200) (c : Int) (col : Nat) (d : Nat) : ∀ (k i : Nat) (n : Int), s.size - (col + 1 + i) = d → 1 ≤ n → n < 9223372036854775808 → i ≤ s.size → col ≤ s.size → 3 * d + 4 ≤ k →
    chars_nth.l0 k s (col : Int) false c n (s.size : Int) (i : Int) = some (orNo (fwd s c d (col + 1 + i) n)) := by
  induction d with
  | zero =>
    intro k i n hd h1 h2 hi hc hk
    obtain ⟨k, rfl⟩ : ∃ m, k = m + 1 + 1 + 1 := ⟨k - 3, by omega⟩
    simp only [chars_nth.l0, chars_nth.j1, chars_nth.j2, fwd, orNo]
    by_cases h3 : (i : Int) < s.size
    · rw [if_pos h3]
      simp only [Bool.false_eq_true, if_false]
      rw [w64 (x := (col : Int) + 1) (by omega) (by omega), w64 (x := (col : Int) + 1 + i) (by omega) (by omega), if_neg (by omega), decide_eq_true (by omega), if_pos rfl]
    · rw [if_neg h3]
  | succ d ih =>
    intro k i n hd h1 h2 hi hc hk
    obtain ⟨k, rfl⟩ : ∃ m, k = m + 1 + 1 + 1 := ⟨k - 3, by omega⟩
    simp only [chars_nth.l0, chars_nth.j1, chars_nth.j2]
    rw [if_pos (by omega)]
    simp only [Bool.false_eq_true, if_false]
    rw [w64 (x := (col : Int) + 1) (by omega) (by omega), w64 (x := (col : Int) + 1 + i) (by omega) (by omega), if_neg (by omega), decide_eq_false (by omega), if_neg (by decide), if_pos (by omega), if_pos (by omega)]
    simp only [fwd]
    rw [show (col : Int) + 1 + i = ((col + 1 + i : Nat) : Int) by omega]
    by_cases h3 : bt s ((col + 1 + i : Nat) : Int) = c
    · rw [if_pos h3, if_pos h3, w64 (x := n - 1) (by omega) (by omega)]
      by_cases h4 : n = 1
      · rw [if_pos (by omega), if_pos h4]; rfl
      · rw [if_neg (by omega), if_neg h4, w64 (by omega) (by omega)]
        exact ih k (i + 1) (n - 1) (by omega) (by omega) (by omega) (by omega) hc (by omega)
    · rw [if_neg h3, if_neg h3, w64 (by omega) (by omega)]
      exact ih k (i + 1) n (by omega) h1 h2 (by omega) hc (by omega)

theorem nth_bwd (s : ByteArray) (hs : s.size ≤ 1200) (c : Int) (col : Nat) (m : Nat) : ∀ (k i : Nat) (n : Int), col - i = m → 1 ≤ n → n < 9223372036854775808 → i ≤ col → col ≤ s.size → 3 * m + 4 ≤ k →
    chars_nth.l0 k s (col : Int) true c n (s.size : Int) (i : Int) = some (orNo (bwd s c m n)) := by
  induction m with
  | zero =>
    intro k i n hd h1 h2 hi hc hk
    obtain ⟨k, rfl⟩ : ∃ m, k = m + 1 + 1 + 1 := ⟨k - 3, by omega⟩
    simp only [chars_nth.l0, chars_nth.j1, chars_nth.j2, bwd, orNo]
    by_cases h3 : (i : Int) < s.size
    · rw [if_pos h3]
      simp only [if_true]
      rw [w64 (x := (col : Int) - 1) (by omega) (by omega), w64 (x := (col : Int) - 1 - i) (by omega) (by omega), if_pos (by omega)]
    · rw [if_neg h3]
  | succ m ih =>
    intro k i n hd h1 h2 hi hc hk
    obtain ⟨k, rfl⟩ : ∃ m, k = m + 1 + 1 + 1 := ⟨k - 3, by omega⟩
    simp only [chars_nth.l0, chars_nth.j1, chars_nth.j2]
    rw [if_pos (by omega)]
    simp only [if_true]
    rw [w64 (x := (col : Int) - 1) (by omega) (by omega), w64 (x := (col : Int) - 1 - i) (by omega) (by omega), if_neg (by omega), decide_eq_false (by omega), if_neg (by decide), if_pos (by omega), if_pos (by omega)]
    simp only [bwd]
    rw [show (col : Int) - 1 - i = ((m : Nat) : Int) by omega]
    by_cases h3 : bt s ((m : Nat) : Int) = c
    · rw [if_pos h3, if_pos h3, w64 (x := n - 1) (by omega) (by omega)]
      by_cases h4 : n = 1
      · rw [if_pos (by omega), if_pos h4]; rfl
      · rw [if_neg (by omega), if_neg h4, w64 (by omega) (by omega)]
        exact ih k (i + 1) (n - 1) (by omega) (by omega) (by omega) (by omega) hc (by omega)
    · rw [if_neg h3, if_neg h3, w64 (by omega) (by omega)]
      exact ih k (i + 1) n (by omega) h1 h2 (by omega) hc (by omega)

/-- what is sought forward, backward from a place. -/
def fwdAt (l : List ByteArray) (p0 p1 c n : Int) : Option Nat := fwd (rdOf ByteArray.empty l p0) c ((rdOf ByteArray.empty l p0).size - (p1.toNat + 1)) (p1.toNat + 1) n
def bwdAt (l : List ByteArray) (p0 p1 c n : Int) : Option Nat := bwd (rdOf ByteArray.empty l p0) c p1.toNat n
/-- the motion to what is found, this far beside it. -/
def foundS (p0 beside way : Int) : Option Nat → Mv
  | some j => (p0, j + beside, way, false, -1, true)
  | none => no
/-- the search within a line. -/
def seekS (l : List ByteArray) (p0 p1 key c n : Int) : Mv :=
  if PlaceP l p0 p1 ∧ 1 ≤ n then
    (if key = 102 then foundS p0 0 1 (fwdAt l p0 p1 c n)
     else if key = 116 then foundS p0 (-1) 1 (fwdAt l p0 p1 c n)
     else if key = 70 then foundS p0 0 0 (bwdAt l p0 p1 c n)
     else if key = 84 then foundS p0 1 0 (bwdAt l p0 p1 c n)
     else no)
  else no

theorem seek_j0 {l : List ByteArray} (hl : Small l) {p0 p1 : Int} (hp : PlaceP l p0 p1) (c n : Int) (h1 : 1 ≤ n) (hn : n < 9223372036854775808) (back : Bool) (beside : Int) (hb : -1 ≤ beside) (hb2 : beside ≤ 1) (k : Nat) (hk : 4000 ≤ k) :
    chars_Seek.j0 k l c n back beside p0 p1 = some (foundS p0 beside (if back = true then 0 else 1) (if back = true then bwdAt l p0 p1 c n else fwdAt l p0 p1 c n)) := by
  obtain ⟨k, rfl⟩ : ∃ m, k = m + 1 := ⟨k - 1, by omega⟩
  have hp' := hp
  obtain ⟨a1, a2, a3, a4⟩ := hp
  have hz := hl.at a1 a2
  have ec : ((p1.toNat : Nat) : Int) = p1 := by omega
  simp only [chars_Seek.j0, chars_nth.f]
  rw [if_pos a1, if_pos a2]
  cases back with
  | true =>
    have := nth_bwd _ hz c p1.toNat p1.toNat k 0 n (by omega) h1 hn (by omega) (by omega) (by omega)
    rw [ec, show ((0 : Nat) : Int) = 0 from rfl] at this
    rw [this]
    simp only [Option.bind_some, if_true]
    show _ = some (foundS p0 beside 0 (bwd (rdOf ByteArray.empty l p0) c p1.toNat n))
    cases hj : bwd (rdOf ByteArray.empty l p0) c p1.toNat n with
    | none => rfl
    | some j =>
      have hj2 := bwd_in hj
      rw [show orNo (some j) = (j : Int) from rfl, if_neg (by omega)]
      simp only [chars_to.f, foundS, Option.bind_some]
      rw [w64 (by omega) (by omega)]
  | false =>
    have := nth_fwd _ hz c p1.toNat ((rdOf ByteArray.empty l p0).size - (p1.toNat + 1)) k 0 n (by omega) h1 hn (by omega) (by omega) (by omega)
    rw [ec, show ((0 : Nat) : Int) = 0 from rfl] at this
    rw [this]
    simp only [Option.bind_some, Bool.false_eq_true, if_false]
    show _ = some (foundS p0 beside 1 (fwd (rdOf ByteArray.empty l p0) c ((rdOf ByteArray.empty l p0).size - (p1.toNat + 1)) (p1.toNat + 1 + 0) n))
    cases hj : fwd (rdOf ByteArray.empty l p0) c ((rdOf ByteArray.empty l p0).size - (p1.toNat + 1)) (p1.toNat + 1 + 0) n with
    | none => rfl
    | some j =>
      have hj2 := fwd_in hj
      rw [show orNo (some j) = (j : Int) from rfl, if_neg (by omega)]
      simp only [chars_to.f, foundS, Option.bind_some]
      rw [w64 (by omega) (by omega)]

theorem seek_chars {l : List ByteArray} (hl : Small l) (p0 p1 key c n : Int) (hn : n < 9223372036854775808) (k : Nat) (hk : 4000 ≤ k) :
    chars_Seek.f k l p0 p1 key c n = some (seekS l p0 p1 key c n) := by
  unfold chars_Seek.f seekS
  rw [fails_chars]
  simp only [Option.bind_some]
  by_cases hp : PlaceP l p0 p1 ∧ 1 ≤ n
  · rw [decide_eq_true hp, Bool.not_true, if_neg (by decide), if_pos hp]
    obtain ⟨hp, h1⟩ := hp
    by_cases k1 : key = 102
    · rw [if_pos k1, if_pos k1, seek_j0 hl hp c n h1 hn false 0 (by omega) (by omega) k hk]; rfl
    · rw [if_neg k1, if_neg k1]
      by_cases k2 : key = 116
      · rw [if_pos k2, if_pos k2, seek_j0 hl hp c n h1 hn false (-1) (by omega) (by omega) k hk]; rfl
      · rw [if_neg k2, if_neg k2]
        by_cases k3 : key = 70
        · rw [if_pos k3, if_pos k3, seek_j0 hl hp c n h1 hn true 0 (by omega) (by omega) k hk]; rfl
        · rw [if_neg k3, if_neg k3]
          by_cases k4 : key = 84
          · rw [if_pos k4, if_pos k4, seek_j0 hl hp c n h1 hn true 1 (by omega) (by omega) k hk]; rfl
          · rw [if_neg k4, if_neg k4]
  · rw [decide_eq_false hp, Bool.not_false, if_pos rfl, if_neg hp]

end Go.Proofs.Ytdiakjamahdcfaa.Pure
