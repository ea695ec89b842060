/- Proved here: what the law CharsColumn computes (a plain Lean function) is true for every text, place and column. -/
import Derived.Test.YtdiakjamahdcfaaFFoolscaplaw7CharsColumn
import Derived.Test.YtdiakjamahdcfaaQKnown
import Derived.Test.YtdiakjamahdcfaaQColumn
namespace Go.Proofs.Ytdiakjamahdcfaa.Pure
open Go.RowKit Go.Proofs.Ytdiakjamahdcfaa.V Go.Proofs.YtdiakjamahdcfaaW.PrintWords Go.Proofs.YtdiakjamahdcfaaW.PrintLast Go.Proofs.YtdiakjamahdcfaaW.PrintMore

theorem CharsColumn (l0 : List ByteArray) (a1 a2 a3 : Int) (_ : l0.length * 16 ≤ 140737488351232) (hs0 : ∀ s ∈ l0, s.size ≤ 140737488351232) (w1 : (Lit.int .u16 a1).wf = true) (w2 : (Lit.int .u16 a2).wf = true) (w3 : (Lit.int .u16 a3).wf = true) :
    ∃ k, foolscaplaw7_CharsColumn.f k l0 a1 a2 a3 = some true := by
  obtain ⟨k, hk⟩ : ∃ k : Nat, 60000 ≤ k := ⟨60000, Nat.le_refl _⟩
  refine ⟨k, ?_⟩
  unfold foolscaplaw7_CharsColumn.f
  obtain ⟨b, hb, ht⟩ := text_tells l0 hs0 k (by omega)
  rw [known_true k (by omega)]
  simp only [Option.bind_some, if_true]
  rw [hb]
  simp only [Option.bind_some]
  cases b with
  | false => rfl
  | true =>
    have hl := ht rfl
    have g1 := bounds_u16 w1
    have g2 := bounds_u16 w2
    have g3 := bounds_u16 w3
    obtain ⟨x, y, h1, hp⟩ := seat_place hl a1 a2 g1.1 g1.2 g2.1 g2.2
    obtain ⟨p1, p2, p3, p4⟩ := id hp
    have hz := hl.at p1 p2
    rw [if_pos rfl, h1]
    simp only [Option.bind_some]
    rw [w64 (x := a3) (by omega) (by omega), w64 (x := a3 + 1) (by omega) (by omega), column_chars hl, last_chars hl, w64 (x := a3 + 1 - 1) (by omega) (by omega), w64 (x := ((rdOf ByteArray.empty l0 x).size : Int) - 1) (by omega) (by omega)]
    unfold columnS endS2
    rw [if_pos ⟨hp, by omega⟩, if_pos ⟨⟨hp, by omega⟩, by omega⟩, show mn (a3 + 1) 1073741824 = a3 + 1 from mn_le (by omega), show x + 1 - 1 = x by omega]
    simp only [Option.bind_some]
    rw [if_pos p1, if_pos p2]
    simp [lastS]

end Go.Proofs.Ytdiakjamahdcfaa.Pure
