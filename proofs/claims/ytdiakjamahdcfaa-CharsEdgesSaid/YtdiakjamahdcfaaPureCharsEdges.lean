/- Proved here: what the law CharsEdges computes (a plain Lean function) is true for every text, place and count. -/
import Derived.Test.YtdiakjamahdcfaaFFoolscaplaw7CharsEdges
import Derived.Test.YtdiakjamahdcfaaQKnown
import Derived.Test.YtdiakjamahdcfaaQEdge
namespace Go.Proofs.Ytdiakjamahdcfaa.Pure
open Go.RowKit Go.Proofs.Ytdiakjamahdcfaa.V Go.Proofs.YtdiakjamahdcfaaW.PrintWords Go.Proofs.YtdiakjamahdcfaaW.PrintLast Go.Proofs.YtdiakjamahdcfaaW.PrintMore

theorem edges_j0 {l : List ByteArray} (hl : Small l) (x y n : Int) (hp : PlaceP l x y) (hn1 : 1 ≤ n) (hn2 : n ≤ 65536) (k : Nat) (hk : 10 ≤ k) :
    foolscaplaw7_CharsEdges.j0 k l (rdOf ByteArray.empty l x) n false x y = some true := by
  obtain ⟨k, rfl⟩ : ∃ m, k = m + 1 := ⟨k - 1, by omega⟩
  obtain ⟨p1, p2, p3, p4⟩ := id hp
  have hz := hl.at p1 p2
  simp only [foolscaplaw7_CharsEdges.j0, Bool.false_eq_true, if_false]
  rw [right_chars hl x y n false k (by omega), right_chars hl x y n true k (by omega)]
  rw [w64 (x := ((rdOf ByteArray.empty l x).size : Int) - 1) (by omega) (by omega), w64 (x := y + n) (by omega) (by omega)]
  simp only [Option.bind_some]
  have R : (if ((rightS l x y n true).2.2.2.2.2 == decide (y < (rdOf ByteArray.empty l x).size)) = true then
      (if (rightS l x y n true).2.2.2.2.2 = true then (if (rightS l x y n true).2.1 = mn (y + n) (rdOf ByteArray.empty l x).size then some ((rightS l x y n true).2.2.1 == 0) else some false) else some true) else some false) = some true := by
    by_cases h1 : y < (rdOf ByteArray.empty l x).size
    · have e : mn (y + n) ((rdOf ByteArray.empty l x).size : Int) = y + mn n ((rdOf ByteArray.empty l x).size - y) := by unfold mn; split <;> split <;> omega
      have r2 : rightS l x y n true = (x, y + mn n (((rdOf ByteArray.empty l x).size : Int) - y), 0, false, -1, true) := by
        unfold rightS
        rw [if_pos ⟨⟨hp, hn1⟩, by omega, by simpa [edge] using h1⟩]
        simp only [edge, if_true]
      rw [r2, decide_eq_true h1, e]
      simp
    · have r2 : rightS l x y n true = no := by
        unfold rightS
        rw [if_neg (fun h => h1 (by simpa [edge] using h.2.2))]
      rw [r2, decide_eq_false h1]
      simp
  by_cases h1 : y < ((rdOf ByteArray.empty l x).size : Int) - 1
  · have e : mn (y + n) (((rdOf ByteArray.empty l x).size : Int) - 1) = y + mn n ((rdOf ByteArray.empty l x).size - 1 - y) := by unfold mn; split <;> split <;> omega
    have r1 : rightS l x y n false = (x, y + mn n (((rdOf ByteArray.empty l x).size : Int) - 1 - y), 0, false, -1, true) := by
      unfold rightS
      rw [if_pos ⟨⟨hp, hn1⟩, by omega, by simpa [edge] using h1⟩]
      simp only [edge, Bool.false_eq_true, if_false]
    rw [r1, decide_eq_true h1]
    simp only [bne_self_eq_false, Bool.false_eq_true, if_false, if_true]
    rw [e, if_pos rfl]
    exact R
  · have r1 : rightS l x y n false = no := by
      unfold rightS
      rw [if_neg (fun h => h1 (by simpa [edge] using h.2.2))]
    rw [r1, decide_eq_false h1]
    simp only [bne_self_eq_false, Bool.false_eq_true, if_false]
    exact R

theorem CharsEdges (l0 : List ByteArray) (a1 a2 a3 : Int) (_ : l0.length * 16 ≤ 140737488351232) (hs0 : ∀ s ∈ l0, s.size ≤ 140737488351232) (w1 : (Lit.int .u16 a1).wf = true) (w2 : (Lit.int .u16 a2).wf = true) (w3 : (Lit.int .u16 a3).wf = true) :
    ∃ k, foolscaplaw7_CharsEdges.f k l0 a1 a2 a3 = some true := by
  obtain ⟨k, hk⟩ : ∃ k : Nat, 60000 ≤ k := ⟨60000, Nat.le_refl _⟩
  refine ⟨k, ?_⟩
  unfold foolscaplaw7_CharsEdges.f
  obtain ⟨b, hb, ht⟩ := text_tells l0 hs0 k (by omega)
  rw [known_true k (by omega)]
  simp only [Option.bind_some, if_true]
  rw [hb]
  simp only [Option.bind_some]
  cases b with
  | false => rfl
  | true =>
    have hl := ht rfl
    have g1 := bounds_u16 w1
    have g2 := bounds_u16 w2
    have g3 := bounds_u16 w3
    obtain ⟨x, y, h1, hp⟩ := seat_place hl a1 a2 g1.1 g1.2 g2.1 g2.2
    obtain ⟨p1, p2, p3, p4⟩ := id hp
    have hz := hl.at p1 p2
    rw [if_pos rfl, h1]
    simp only [Option.bind_some]
    rw [if_pos p1, if_pos p2, w64 (x := a3) (by omega) (by omega), w64 (x := a3 + 1) (by omega) (by omega)]
    obtain ⟨n, hn⟩ : ∃ n, a3 + 1 = n := ⟨_, rfl⟩
    have hn1 : 1 ≤ n := by omega
    have hn2 : n ≤ 65536 := by omega
    rw [hn]
    clear hn
    rw [left_chars hl x y n]
    simp only [Option.bind_some]
    have J := edges_j0 hl x y n hp hn1 hn2 k (by omega)
    by_cases h2 : y = 0
    · have r3 : leftS l0 x y n = no := by unfold leftS; rw [if_neg (fun h => h.2 h2)]
      rw [r3, decide_eq_false (by omega)]
      simp only [bne_self_eq_false, Bool.false_eq_true, if_false]
      exact J
    · have r3 : leftS l0 x y n = (x, y - mn n y, 0, false, -1, true) := by unfold leftS; rw [if_pos ⟨⟨hp, hn1⟩, h2⟩]
      rw [r3, decide_eq_true (by omega), w64 (x := y - n) (by omega) (by omega)]
      have e : mx (y - n) 0 = y - mn n y := by unfold mx mn; split <;> split <;> omega
      rw [e]
      simp only [bne_self_eq_false, Bool.false_eq_true, if_false, if_true]
      exact J

end Go.Proofs.Ytdiakjamahdcfaa.Pure
