/- Proved here: what the law CharsThere computes (a plain Lean function) is true for every line, place, byte and count. -/
import Derived.Test.YtdiakjamahdcfaaFFoolscaplaw7CharsThere
import Derived.Test.YtdiakjamahdcfaaQKnown
import Derived.Test.YtdiakjamahdcfaaQSeek
namespace Go.Proofs.Ytdiakjamahdcfaa.Pure
open Go.RowKit Go.Proofs.Ytdiakjamahdcfaa.V Go.Proofs.YtdiakjamahdcfaaW.PrintWords Go.Proofs.YtdiakjamahdcfaaW.PrintLast Go.Proofs.YtdiakjamahdcfaaW.PrintMore

/-- the law's own count goes where the search went. -/
theorem there_l0 (s : ByteArray) (hs : s.size ≤ 1200) (c n : Int) (hn : n ≤ 4) (p0 f0 f2 f4 t0 t2 t4 : Int) (f3 t3 : Bool) (d : Nat) : ∀ (k i : Nat) (m : Int) (o : Option Nat), s.size - i = d → i ≤ 1201 → 0 ≤ m → m < n → d + 1 ≤ k → fwd s c d i (n - m) = o →
    foolscaplaw7_CharsThere.l0 k s c n (foundS p0 0 1 o).2.2.2.2.2 m (i : Int) f0 (foundS p0 0 1 o).2.1 f2 f3 f4 t0 (foundS p0 (-1) 1 o).2.1 t2 t3 t4 = some true := by
  induction d with
  | zero =>
    intro k i m o hd hi h0 h1 hk ho
    obtain ⟨k, rfl⟩ : ∃ m, k = m + 1 := ⟨k - 1, by omega⟩
    simp only [fwd] at ho
    subst ho
    simp only [foolscaplaw7_CharsThere.l0]
    rw [if_neg (by omega)]
    rfl
  | succ d ih =>
    intro k i m o hd hi h0 h1 hk ho
    obtain ⟨k, rfl⟩ : ∃ m, k = m + 1 := ⟨k - 1, by omega⟩
    simp only [fwd] at ho
    simp only [foolscaplaw7_CharsThere.l0]
    rw [if_pos (by omega), if_pos (by omega)]
    by_cases h2 : bt s (i : Int) = c
    · rw [if_pos h2] at ho
      rw [if_pos h2, w64 (x := m + 1) (by omega) (by omega)]
      by_cases h3 : n - m = 1
      · rw [if_pos h3] at ho
        subst ho
        rw [if_pos (by omega)]
        rw [show (foundS p0 0 1 (some i)).2.2.2.2.2 = true from rfl, if_pos rfl, show (foundS p0 0 1 (some i)).2.1 = (i : Int) + 0 from rfl, if_pos (by omega), show (foundS p0 (-1) 1 (some i)).2.1 = (i : Int) + -1 from rfl, w64 (by omega) (by omega)]
        simp
        omega
      · rw [if_neg h3] at ho
        rw [if_neg (by omega), w64 (by omega) (by omega)]
        exact ih k (i + 1) (m + 1) o (by omega) (by omega) (by omega) (by omega) (by omega) (by rw [← ho]; congr 1; omega)
    · rw [if_neg h2] at ho
      rw [if_neg h2, w64 (by omega) (by omega)]
      exact ih k (i + 1) m o (by omega) (by omega) h0 h1 (by omega) ho

theorem light_one (s : ByteArray) (hs : s.size ≤ 140737488351232) (k : Nat) (hk : 50000 ≤ k) : ∃ b, foolscaphelp_Light.f k [s] = some b ∧ (b = true → Small [s]) := by
  obtain ⟨b, hb, ht⟩ := text_tells [s] (fun x hx => by rw [List.mem_singleton] at hx; rw [hx]; exact hs) k hk
  refine ⟨b, ?_, ht⟩
  unfold foolscaphelp_Text.f at hb
  have h1 : (([s] : List ByteArray).length : Int) > 0 := by rw [List.length_singleton]; omega
  rw [if_pos h1] at hb
  cases h : foolscaphelp_Light.f k [s] with
  | none => rw [h] at hb; cases hb
  | some x => rw [h] at hb; exact hb

theorem there_j0 (s : ByteArray) (hl : Small [s]) (a1 a2 a3 : Int) (g1 : 0 ≤ a1) (g2 : a1 ≤ 65535) (g3 : 0 ≤ a3) (k : Nat) (hk : 50000 ≤ k) : foolscaplaw7_CharsThere.j0 k s a1 a2 a3 false = some true := by
  obtain ⟨k, rfl⟩ : ∃ m, k = m + 1 := ⟨k - 1, by omega⟩
  simp only [foolscaplaw7_CharsThere.j0]
  obtain ⟨x, y, h1, hp⟩ := seat_place hl 0 a1 (by omega) (by omega) g1 g2
  have hx : x = 0 := by
    have h2 := hp.2.1
    have h3 := hp.1
    rw [List.length_singleton] at h2
    omega
  subst hx
  have e0 : rdOf ByteArray.empty [s] 0 = s := rfl
  have hp' := hp
  unfold PlaceP at hp
  rw [e0] at hp
  obtain ⟨-, -, p3, p4⟩ := hp
  have hz : s.size ≤ 1200 := hl.2.2 s (List.mem_singleton.2 rfl)
  rw [if_neg Bool.false_ne_true, Option.bind_some, h1, Option.bind_some]
  have e3 : Int.tmod a3 4 = a3 % 4 := Int.tmod_eq_emod_of_nonneg g3
  rw [e3, w64 (x := a3 % 4) (by omega) (by omega), w64 (x := a3 % 4 + 1) (by omega) (by omega)]
  obtain ⟨n, hn⟩ : ∃ n, a3 % 4 + 1 = n := ⟨_, rfl⟩
  have hn1 : 1 ≤ n := by omega
  have hn2 : n ≤ 4 := by omega
  rw [hn]
  clear hn
  rw [seek_chars hl 0 y 102 a2 n (by omega) k (by omega), seek_chars hl 0 y 116 a2 n (by omega) k (by omega)]
  have s1 : seekS [s] 0 y 102 a2 n = foundS 0 0 1 (fwdAt [s] 0 y a2 n) := by unfold seekS; rw [if_pos ⟨hp', hn1⟩, if_pos rfl]
  have s2 : seekS [s] 0 y 116 a2 n = foundS 0 (-1) 1 (fwdAt [s] 0 y a2 n) := by unfold seekS; rw [if_pos ⟨hp', hn1⟩, if_neg (by decide), if_pos rfl]
  rw [s1, s2, Option.bind_some, Option.bind_some]
  obtain ⟨o, ho⟩ : ∃ o, fwdAt [s] 0 y a2 n = o := ⟨_, rfl⟩
  have ho' : fwd s a2 (s.size - (y.toNat + 1)) (y.toNat + 1) (n - 0) = o := by
    rw [← ho, show n - 0 = n by omega]
    unfold fwdAt
    rw [e0]
  rw [ho]
  have e5 : ((foundS 0 0 1 o).2.2.2.2.2 != (foundS 0 (-1) 1 o).2.2.2.2.2) = false := by cases o <;> rfl
  rw [e5, if_neg Bool.false_ne_true, w64 (x := y + 1) (by omega) (by omega), show y + 1 = ((y.toNat + 1 : Nat) : Int) by omega]
  exact there_l0 s hz a2 n hn2 0 _ _ _ _ _ _ _ _ (s.size - (y.toNat + 1)) k (y.toNat + 1) 0 o rfl (by omega) (by omega) (by omega) (by omega) ho'

theorem CharsThere (a0 : ByteArray) (a1 a2 a3 : Int) (hs : a0.size ≤ 140737488351232) (w1 : (Lit.int .u16 a1).wf = true) (_ : (Lit.int .u8 a2).wf = true) (w3 : (Lit.int .u8 a3).wf = true) :
    ∃ k, foolscaplaw7_CharsThere.f k a0 a1 a2 a3 = some true := by
  obtain ⟨k, hk⟩ : ∃ k : Nat, 60000 ≤ k := ⟨60000, Nat.le_refl _⟩
  have g1 := bounds_u16 w1
  have g3 := bounds_u8 w3
  have yes : foolscaplaw7_CharsThere.j0 k a0 a1 a2 a3 true = some true := by
    obtain ⟨k, rfl⟩ : ∃ m, k = m + 1 := ⟨k - 1, by omega⟩
    simp only [foolscaplaw7_CharsThere.j0]
    rw [if_pos trivial]
  refine ⟨k, ?_⟩
  unfold foolscaplaw7_CharsThere.f
  rw [known_true k (by omega), Option.bind_some, if_pos rfl]
  by_cases h200 : (a0.size : Int) > 200
  · rw [if_pos h200]
    exact yes
  · rw [if_neg h200]
    obtain ⟨b, hb, ht⟩ := light_one a0 hs k (by omega)
    rw [hb, Option.bind_some]
    cases b with
    | false => exact yes
    | true => exact there_j0 a0 (ht rfl) a1 a2 a3 g1.1 g1.2 g3.1 k (by omega)

end Go.Proofs.Ytdiakjamahdcfaa.Pure
