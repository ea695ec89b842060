/- Proved here: what the law CharsBack computes (a plain Lean function) is true for every text, place and count. -/
import Derived.Test.YtdiakjamahdcfaaFFoolscaplaw7CharsBack
import Derived.Test.YtdiakjamahdcfaaQKnown
import Derived.Test.YtdiakjamahdcfaaQSeek
namespace Go.Proofs.Ytdiakjamahdcfaa.Pure
open Go.RowKit Go.Proofs.Ytdiakjamahdcfaa.V Go.Proofs.YtdiakjamahdcfaaW.PrintWords Go.Proofs.YtdiakjamahdcfaaW.PrintLast Go.Proofs.YtdiakjamahdcfaaW.PrintMore

theorem CharsBack (l0 : List ByteArray) (a1 a2 a3 : Int) (_ : l0.length * 16 ≤ 140737488351232) (hs0 : ∀ s ∈ l0, s.size ≤ 140737488351232) (w1 : (Lit.int .u16 a1).wf = true) (w2 : (Lit.int .u16 a2).wf = true) (w3 : (Lit.int .u8 a3).wf = true) :
    ∃ k, foolscaplaw7_CharsBack.f k l0 a1 a2 a3 = some true := by
  obtain ⟨k, hk⟩ : ∃ k : Nat, 60000 ≤ k := ⟨60000, Nat.le_refl _⟩
  refine ⟨k, ?_⟩
  unfold foolscaplaw7_CharsBack.f
  obtain ⟨b, hb, ht⟩ := text_tells l0 hs0 k (by omega)
  rw [known_true k (by omega)]
  simp only [Option.bind_some, if_true]
  rw [hb]
  simp only [Option.bind_some]
  cases b with
  | false => rfl
  | true =>
    have hl := ht rfl
    have g1 := bounds_u16 w1
    have g2 := bounds_u16 w2
    have g3 := bounds_u8 w3
    obtain ⟨x, y, h1, hp⟩ := seat_place hl a1 a2 g1.1 g1.2 g2.1 g2.2
    have hp' := hp
    obtain ⟨p1, p2, p3, p4⟩ := hp
    have hz := hl.at p1 p2
    rw [if_pos rfl, h1]
    simp only [Option.bind_some]
    rw [if_pos p1, if_pos p2]
    by_cases h2 : y ≥ (rdOf ByteArray.empty l0 x).size
    · rw [if_pos h2]
    · rw [if_neg h2, if_pos p3, if_pos (by omega)]
      have e3 : Int.tmod a3 3 = a3 % 3 := Int.tmod_eq_emod_of_nonneg g3.1
      rw [e3, w64 (x := a3 % 3) (by omega) (by omega), w64 (x := a3 % 3 + 1) (by omega) (by omega)]
      obtain ⟨n, hn⟩ : ∃ n, a3 % 3 + 1 = n := ⟨_, rfl⟩
      have hn1 : 1 ≤ n := by omega
      have hn2 : n ≤ 3 := by omega
      rw [hn]
      clear hn
      rw [seek_chars hl x y 102 _ n (by omega) k (by omega)]
      unfold seekS
      rw [if_pos ⟨hp', hn1⟩, if_pos rfl]
      obtain ⟨c, hc⟩ : ∃ c, bt (rdOf ByteArray.empty l0 x) y = c := ⟨_, rfl⟩
      rw [hc]
      cases hj : fwdAt l0 x y c n with
      | none => rfl
      | some j =>
        have hj1 := fwd_in hj
        have hb1 := fwd_bwd 1 hn1 (by omega) hj
        have hq : PlaceP l0 x (j : Int) := ⟨p1, p2, by omega, by omega⟩
        have hb2 : bwdAt l0 x (j : Int) c n = some y.toNat := by
          unfold bwdAt
          rw [show n - 1 + 1 = n by omega] at hb1
          rw [show ((j : Int)).toNat = j by omega, hb1]
          simp only [bwd]
          rw [show ((y.toNat : Nat) : Int) = y by omega, if_pos hc]
          simp
        simp only [foundS, Option.bind_some, if_true]
        rw [show (j : Int) + 0 = j by omega, seek_chars hl x (j : Int) 70 c n (by omega) k (by omega)]
        unfold seekS
        rw [if_pos ⟨hq, hn1⟩, if_neg (by decide), if_neg (by decide), if_pos rfl, hb2]
        simp only [foundS, Option.bind_some, if_true]
        rw [show ((y.toNat : Nat) : Int) + 0 = y by omega]
        simp

end Go.Proofs.Ytdiakjamahdcfaa.Pure
