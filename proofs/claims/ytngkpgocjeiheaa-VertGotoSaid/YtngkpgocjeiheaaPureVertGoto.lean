/- Proved here: what the law VertGoto computes (a plain Lean function) is true for every text and number. -/
import Derived.Test.YtngkpgocjeiheaaFFoolscaplaw9VertGoto
import Derived.Test.YtngkpgocjeiheaaQKnown
import Derived.Test.YtngkpgocjeiheaaQGoto
namespace Go.Proofs.Ytngkpgocjeiheaa.Pure
open Go.RowKit Go.Proofs.Ytngkpgocjeiheaa.V Go.Proofs.YtngkpgocjeiheaaW.PrintWords Go.Proofs.YtngkpgocjeiheaaW.PrintLast Go.Proofs.YtngkpgocjeiheaaW.PrintMore

theorem vertGoto_l {l : List ByteArray} (hl : Small l) (a : Int) (d : Nat) : ∀ (k i : Nat), i ≤ l.length → l.length - i = d → d + 1400 ≤ k →
    foolscaplaw9_VertGoto.l0 k l a (i : Int) = some true := by
  have h0 : PlaceP l 0 0 := ⟨by omega, by have := hl.1; omega, by omega, by omega⟩
  have h40 := hl.2.1
  induction d with
  | zero =>
    intro k i hi hd hk
    obtain ⟨k, rfl⟩ : ∃ m, k = m + 1 := ⟨k - 1, by omega⟩
    simp only [foolscaplaw9_VertGoto.l0]
    rw [if_neg (by omega), goto_vert hl 0 0 a k (by omega)]
    simp only [Option.bind_some]
    by_cases h1 : a ≥ 1
    · rw [if_pos h1, if_pos ⟨h1, h0⟩]
      unfold lineS
      by_cases h2 : a ≤ l.length
      · rw [if_pos (by omega), decide_eq_true h2]; rfl
      · rw [if_neg (by omega), decide_eq_false h2]; rfl
    · rw [if_neg h1, if_neg (by omega)]; rfl
  | succ d ih =>
    intro k i hi hd hk
    obtain ⟨k, rfl⟩ : ∃ m, k = m + 1 := ⟨k - 1, by omega⟩
    have hz := hl.at (j := (i : Int)) (by omega) (by omega)
    simp only [foolscaplaw9_VertGoto.l0]
    rw [if_pos (by omega), w64 (by omega) (by omega), goto_vert hl 0 0 _ k (by omega), if_pos ⟨by omega, h0⟩]
    unfold lineS
    rw [if_pos (by omega), show (i : Int) + 1 - 1 = i by omega]
    simp only [Option.bind_some]
    rw [if_pos trivial, if_pos (by omega), first_ref _ (by omega) k (by omega)]
    simp only [Option.bind_some, beq_self_eq_true, Bool.not_true, Bool.or_self, Bool.false_eq_true, if_false, if_true]
    exact ih k (i + 1) (by omega) (by omega) (by omega)

theorem VertGoto (l0 : List ByteArray) (a1 : Int) (_ : l0.length * 16 ≤ 140737488351232) (hs0 : ∀ s ∈ l0, s.size ≤ 140737488351232) (_ : (Lit.int .i64 a1).wf = true) : ∃ k, foolscaplaw9_VertGoto.f k l0 a1 = some true := by
  obtain ⟨k, hk⟩ : ∃ k : Nat, 60000 ≤ k := ⟨60000, Nat.le_refl _⟩
  refine ⟨k, ?_⟩
  unfold foolscaplaw9_VertGoto.f
  obtain ⟨b, hb, ht⟩ := text_tells l0 hs0 k (by omega)
  rw [known_true k (by omega)]
  simp only [Option.bind_some, if_true]
  rw [hb]
  simp only [Option.bind_some]
  cases b with
  | false => rfl
  | true => exact vertGoto_l (ht rfl) a1 l0.length k 0 (by omega) (by omega) (by have := (ht rfl).2.1; omega)

end Go.Proofs.Ytngkpgocjeiheaa.Pure
