/- Proved here: the program's motion to a line of the window, as a plain function. -/
import Derived.Test.YtngkpgocjeiheaaFVertScreen
import Derived.Test.YtngkpgocjeiheaaQ3
namespace Go.Proofs.Ytngkpgocjeiheaa.Pure
open Go.RowKit Go.Proofs.Ytngkpgocjeiheaa.V Go.Proofs.YtngkpgocjeiheaaW.PrintWords Go.Proofs.YtngkpgocjeiheaaW.PrintLast Go.Proofs.YtngkpgocjeiheaaW.PrintMore

/-- the window's first line, its lines, a count within them. -/
def topS (top : Int) : Int := mx top 0
def cntS (l : List ByteArray) (top : Int) : Int := mn 10 (l.length - topS top)
def numS (l : List ByteArray) (top n : Int) : Int := mn n (cntS l top)

theorem win {l : List ByteArray} (hl : Small l) {top n : Int} (h : topS top < l.length) (hn : 1 ≤ n) :
    0 ≤ topS top ∧ 1 ≤ cntS l top ∧ cntS l top ≤ 10 ∧ topS top + cntS l top ≤ l.length ∧ 1 ≤ numS l top n ∧ numS l top n ≤ cntS l top ∧ l.length ≤ 40 := by
  have h1 := hl.2.1
  have a : 0 ≤ topS top := by unfold topS mx; split <;> omega
  have b : 1 ≤ cntS l top ∧ cntS l top ≤ 10 ∧ topS top + cntS l top ≤ l.length := by unfold cntS mn; split <;> omega
  have c : 1 ≤ numS l top n ∧ numS l top n ≤ cntS l top := by unfold numS mn; split <;> omega
  omega

/-- the motion to a line of the window. -/
def screenS (l : List ByteArray) (p0 p1 top key n : Int) : Mv :=
  if 1 ≤ n ∧ PlaceP l p0 p1 ∧ topS top < l.length then
    (if key = 72 then lineS l (topS top + numS l top n - 1) true
     else if key = 76 then lineS l (topS top + cntS l top - numS l top n) true
     else if key = 77 then lineS l (topS top + (cntS l top - 1) / 2) true
     else no)
  else no

theorem screenS_H {l : List ByteArray} {p0 p1 top n : Int} (h : 1 ≤ n ∧ PlaceP l p0 p1 ∧ topS top < l.length) : screenS l p0 p1 top 72 n = lineS l (topS top + numS l top n - 1) true := by
  unfold screenS; rw [if_pos h, if_pos rfl]
theorem screenS_L {l : List ByteArray} {p0 p1 top n : Int} (h : 1 ≤ n ∧ PlaceP l p0 p1 ∧ topS top < l.length) : screenS l p0 p1 top 76 n = lineS l (topS top + cntS l top - numS l top n) true := by
  unfold screenS; rw [if_pos h, if_neg (by decide), if_pos rfl]
theorem screenS_M {l : List ByteArray} {p0 p1 top n : Int} (h : 1 ≤ n ∧ PlaceP l p0 p1 ∧ topS top < l.length) : screenS l p0 p1 top 77 n = lineS l (topS top + (cntS l top - 1) / 2) true := by
  unfold screenS; rw [if_pos h, if_neg (by decide), if_neg (by decide), if_pos rfl]

theorem screen_vert {l : List ByteArray} (hl : Small l) (p0 p1 top key n : Int) (k : Nat) (hk : 1400 ≤ k) :
    vert_Screen.f k l p0 p1 top key n = some (screenS l p0 p1 top key n) := by
  obtain ⟨k, rfl⟩ : ∃ m, k = m + 1 := ⟨k - 1, by omega⟩
  unfold vert_Screen.f screenS
  simp only [vert_Screen.j0]
  rw [show mx top 0 = topS top from rfl]
  by_cases h1 : n < 1
  · rw [if_pos h1, if_pos trivial, if_neg (by omega)]
  · rw [if_neg h1, place_class]
    simp only [Option.bind_some]
    by_cases hp : PlaceP l p0 p1
    · rw [decide_eq_true hp, if_pos rfl]
      by_cases h2 : topS top ≥ l.length
      · rw [decide_eq_true h2, if_pos rfl, if_neg (by omega)]
      · obtain ⟨w1, w2, w3, w4, w5, w6, w7⟩ := win hl (top := top) (n := n) (by omega) (by omega)
        rw [decide_eq_false h2, if_neg (by decide), if_pos (show 1 ≤ n ∧ PlaceP l p0 p1 ∧ topS top < l.length from ⟨by omega, hp, by omega⟩), w64 (x := (l.length : Int) - topS top) (by omega) (by omega)]
        rw [show mn 10 ((l.length : Int) - topS top) = cntS l top from rfl, show mn n (cntS l top) = numS l top n from rfl]
        by_cases k1 : key = 72
        · rw [if_pos k1, if_pos k1, w64 (x := numS l top n - 1) (by omega) (by omega), w64 (x := topS top + (numS l top n - 1)) (by omega) (by omega),
            first_vert hl (by omega) (by omega) k (by omega), show topS top + (numS l top n - 1) = topS top + numS l top n - 1 by omega]
          unfold lineS
          rw [if_pos (by omega)]
          rfl
        · rw [if_neg k1, if_neg k1]
          by_cases k2 : key = 76
          · rw [if_pos k2, if_pos k2, w64 (x := cntS l top - numS l top n) (by omega) (by omega), w64 (x := topS top + (cntS l top - numS l top n)) (by omega) (by omega),
              first_vert hl (by omega) (by omega) k (by omega), show topS top + (cntS l top - numS l top n) = topS top + cntS l top - numS l top n by omega]
            unfold lineS
            rw [if_pos (by omega)]
            rfl
          · rw [if_neg k2, if_neg k2]
            by_cases k3 : key = 77
            · rw [if_pos k3, if_pos k3, w64 (x := cntS l top - 1) (by omega) (by omega), Int.tdiv_eq_ediv_of_nonneg (by omega), w64 (x := (cntS l top - 1) / 2) (by omega) (by omega), w64 (x := topS top + (cntS l top - 1) / 2) (by omega) (by omega),
                first_vert hl (by omega) (by omega) k (by omega)]
              unfold lineS
              rw [if_pos (by omega)]
              rfl
            · rw [if_neg k3, if_neg k3]
    · rw [decide_eq_false hp, if_neg (by decide), if_pos trivial, if_neg (fun h => hp h.2.1)]

end Go.Proofs.Ytngkpgocjeiheaa.Pure
