/- Proved here: what the law VertWindow computes (a plain Lean function) is true for every text, window and count. -/
import Derived.Test.YtngkpgocjeiheaaFFoolscaplaw9VertWindow
import Derived.Test.YtngkpgocjeiheaaQKnown
import Derived.Test.YtngkpgocjeiheaaQScreen
namespace Go.Proofs.Ytngkpgocjeiheaa.Pure
open Go.RowKit Go.Proofs.Ytngkpgocjeiheaa.V Go.Proofs.YtngkpgocjeiheaaW.PrintWords Go.Proofs.YtngkpgocjeiheaaW.PrintLast Go.Proofs.YtngkpgocjeiheaaW.PrintMore

theorem lineS_pos {l : List ByteArray} {t : Int} (j : Bool) (h0 : 0 ≤ t) (h1 : t < l.length) : lineS l t j = (t, firstS (rdOf ByteArray.empty l t) 0, 2, j, -1, true) := if_pos ⟨h0, h1⟩

theorem VertWindow (l0 : List ByteArray) (a1 a2 : Int) (_ : l0.length * 16 ≤ 140737488351232) (hs0 : ∀ s ∈ l0, s.size ≤ 140737488351232) (w1 : (Lit.int .u8 a1).wf = true) (w2 : (Lit.int .u8 a2).wf = true) : ∃ k, foolscaplaw9_VertWindow.f k l0 a1 a2 = some true := by
  obtain ⟨k, hk⟩ : ∃ k : Nat, 60000 ≤ k := ⟨60000, Nat.le_refl _⟩
  refine ⟨k, ?_⟩
  unfold foolscaplaw9_VertWindow.f
  obtain ⟨b, hb, ht⟩ := text_tells l0 hs0 k (by omega)
  rw [known_true k (by omega)]
  simp only [Option.bind_some, if_true]
  rw [hb]
  simp only [Option.bind_some]
  cases b with
  | false => rfl
  | true =>
    have hl := ht rfl
    obtain ⟨b1, b2⟩ := bounds_u8 w1
    obtain ⟨c1, c2⟩ := bounds_u8 w2
    have hp : PlaceP l0 0 0 := ⟨by omega, by have := hl.1; omega, by omega, by omega⟩
    have h0 := hl.1
    rw [if_pos rfl, if_neg (by omega), w64 (x := a1) (by omega) (by omega)]
    have e1 : Int.tmod a1 l0.length = a1 % l0.length := Int.tmod_eq_emod_of_nonneg b1
    have t0 : 0 ≤ a1 % (l0.length : Int) := Int.emod_nonneg _ (by omega)
    have t1 : a1 % (l0.length : Int) < l0.length := Int.emod_lt_of_pos _ (by omega)
    have e2 : Int.tmod a2 12 = a2 % 12 := Int.tmod_eq_emod_of_nonneg c1
    rw [e1, e2]
    generalize a1 % (l0.length : Int) = t at t0 t1
    rw [w64 (x := a2 % 12) (by omega) (by omega), w64 (x := a2 % 12 + 1) (by omega) (by omega)]
    obtain ⟨n, hn⟩ : ∃ n, a2 % 12 + 1 = n := ⟨_, rfl⟩
    have hn1 : 1 ≤ n := by omega
    have hn2 : n ≤ 12 := by omega
    rw [hn]
    clear hn
    rw [screen_vert hl 0 0 t 72 n k (by omega), screen_vert hl 0 0 t 77 n k (by omega), screen_vert hl 0 0 t 76 n k (by omega)]
    have et : topS t = t := mx_ge t0
    have W := win hl (top := t) (n := n) (by rw [et]; exact t1) hn1
    have hw : 1 ≤ n ∧ PlaceP l0 0 0 ∧ topS t < l0.length := ⟨hn1, hp, by rw [et]; exact t1⟩
    rw [screenS_H hw, screenS_M hw, screenS_L hw]
    clear hw
    rw [et] at W ⊢
    obtain ⟨v1, v2, v3, v4, v5, v6, v7⟩ := W
    have hc : cntS l0 t = mn 10 (l0.length - t) := by unfold cntS; rw [et]
    have hm : numS l0 t n = mn n (cntS l0 t) := rfl
    generalize hcc : cntS l0 t = c at *
    generalize hmm : numS l0 t n = m at *
    rw [lineS_pos true (by omega) (by omega), lineS_pos true (by omega) (by omega), lineS_pos true (by omega) (by omega)]
    simp only [Option.bind_some, if_true]
    have f1 : mn (wrap64 (t + 10)) l0.length = t + c := by
      rw [w64 (by omega) (by omega), hc]
      unfold mn
      split <;> split <;> omega
    rw [f1]
    rw [w64 (x := t + c - 1) (by omega) (by omega), w64 (x := t + n) (by omega) (by omega), w64 (x := t + n - 1) (by omega) (by omega)]
    have f2 : mn (t + n - 1) (t + c - 1) = t + m - 1 := by
      rw [hm]
      unfold mn
      split <;> split <;> omega
    rw [f2, if_pos rfl, w64 (x := t + c - 1 - n) (by omega) (by omega), w64 (x := t + c - 1 - n + 1) (by omega) (by omega)]
    have f3 : mx (t + c - 1 - n + 1) t = t + c - m := by
      rw [hm]
      unfold mn mx
      split <;> split <;> omega
    rw [f3, if_pos rfl, if_pos (by omega), if_pos (by omega), w64 (x := t + (c - 1) / 2 - t) (by omega) (by omega), w64 (x := t + c - 1 - (t + (c - 1) / 2)) (by omega) (by omega), if_pos (by omega), w64 (by omega) (by omega)]
    rw [decide_eq_true (by omega)]

end Go.Proofs.Ytngkpgocjeiheaa.Pure
