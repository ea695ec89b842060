/- Proved here: what the law VertWant computes (a plain Lean function) is true for every text, place, column and count. -/
import Derived.Test.YtngkpgocjeiheaaFFoolscaplaw9VertWant
import Derived.Test.YtngkpgocjeiheaaQKnown
import Derived.Test.YtngkpgocjeiheaaQVert
namespace Go.Proofs.Ytngkpgocjeiheaa.Pure
open Go.RowKit Go.Proofs.Ytngkpgocjeiheaa.V Go.Proofs.YtngkpgocjeiheaaW.PrintWords Go.Proofs.YtngkpgocjeiheaaW.PrintLast Go.Proofs.YtngkpgocjeiheaaW.PrintMore

theorem VertWant (l0 : List ByteArray) (a1 a2 a3 a4 : Int) (_ : l0.length * 16 ≤ 140737488351232) (hs0 : ∀ s ∈ l0, s.size ≤ 140737488351232) (w1 : (Lit.int .u16 a1).wf = true) (w2 : (Lit.int .u16 a2).wf = true)
    (w3 : (Lit.int .u8 a3).wf = true) (w4 : (Lit.int .u8 a4).wf = true) : ∃ k, foolscaplaw9_VertWant.f k l0 a1 a2 a3 a4 = some true := by
  obtain ⟨k, hk⟩ : ∃ k : Nat, 60000 ≤ k := ⟨60000, Nat.le_refl _⟩
  refine ⟨k, ?_⟩
  unfold foolscaplaw9_VertWant.f
  obtain ⟨b, hb, ht⟩ := text_tells l0 hs0 k (by omega)
  rw [known_true k (by omega)]
  simp only [Option.bind_some, if_true]
  rw [hb]
  simp only [Option.bind_some]
  cases b with
  | false => rfl
  | true =>
    have hl := ht rfl
    have h40 := hl.2.1
    obtain ⟨b1, b2⟩ := bounds_u16 w1
    obtain ⟨c1, c2⟩ := bounds_u16 w2
    obtain ⟨d1, d2⟩ := bounds_u8 w3
    obtain ⟨e1, e2⟩ := bounds_u8 w4
    obtain ⟨x, y, h1, hp⟩ := seat_place hl a1 a2 b1 b2 c1 c2
    have hp' := hp
    obtain ⟨p1, p2, p3, p4⟩ := hp
    rw [if_pos rfl, h1]
    simp only [Option.bind_some]
    have e3 : Int.tmod a4 10 = a4 % 10 := Int.tmod_eq_emod_of_nonneg e1
    rw [e3, w64 (x := a4 % 10) (by omega) (by omega), w64 (x := a4 % 10 + 1) (by omega) (by omega), w64 (x := a3) (by omega) (by omega)]
    obtain ⟨n, hn⟩ : ∃ n, a4 % 10 + 1 = n := ⟨_, rfl⟩
    have hn1 : 1 ≤ n := by omega
    have hn2 : n ≤ 10 := by omega
    rw [hn]
    clear hn
    rw [w64 (x := (l0.length : Int) - x) (by omega) (by omega), down_vert hl x y n a3 (by omega) k (by omega)]
    have ew : mn (mx a3 0) 1073741824 = a3 := by rw [mx_ge (by omega), mn_le (by omega)]
    by_cases h2 : n ≥ (l0.length : Int) - x
    · rw [if_pos h2]
      unfold vertS
      rw [if_neg (fun h => by have := h.2.2; simp at this; omega)]
      rfl
    · rw [if_neg h2]
      unfold vertS
      rw [if_pos ⟨hp', hn1, by simp; omega⟩]
      simp only [Bool.false_eq_true, if_false, Option.bind_some]
      rw [ew]
      have hz := hl.at (j := x + n) (by omega) (by omega)
      have hz2 := hl.at (j := x) (by omega) (by omega)
      rw [up_vert hl (x + n) _ n a3 (by omega) k (by omega)]
      have hq : PlaceP l0 (x + n) (mn a3 (mx (((rdOf ByteArray.empty l0 (x + n)).size : Int) - 1) 0)) := by
        refine ⟨by omega, by omega, ?_, ?_⟩ <;> (unfold mn mx; split <;> split <;> omega)
      unfold vertS
      rw [if_pos ⟨hq, hn1, by simp; omega⟩]
      simp only [if_true, Option.bind_some]
      rw [show x + n - n = x by omega, if_pos rfl, if_pos (by omega), if_pos (by omega), w64 (by omega) (by omega)]
      simp
      exact ⟨p2, by rw [ew]⟩

end Go.Proofs.Ytngkpgocjeiheaa.Pure
