/- Proved here: what the law VertScreen computes (a plain Lean function) is true for every text, place, window, count and key. -/
import Derived.Test.YtngkpgocjeiheaaFFoolscaplaw9VertScreen
import Derived.Test.YtngkpgocjeiheaaQKnown
import Derived.Test.YtngkpgocjeiheaaQScreenr
namespace Go.Proofs.Ytngkpgocjeiheaa.Pure
open Go.RowKit Go.Proofs.Ytngkpgocjeiheaa.V Go.Proofs.YtngkpgocjeiheaaW.PrintWords Go.Proofs.YtngkpgocjeiheaaW.PrintLast Go.Proofs.YtngkpgocjeiheaaW.PrintMore

theorem screen_l2 {l : List ByteArray} (hl : Small l) (t n key0 key : Int) (ps : List S24) (pn pi : Int) (ks : List Int) (kn ki : Int) (ts : List Int) (ht : ts.length ≤ 100) (p0 p1 : Int) (K : Nat) (hK : 1400 ≤ K)
    (H : ∀ k, K ≤ k → foolscaplaw9_VertScreen.l1 k l t n key0 ps pn pi ks kn (wrap64 (ki + 1)) p0 p1 = some true) (d : Nat) :
    ∀ (k j : Nat), j ≤ ts.length → ts.length - j = d → K + d + 1 ≤ k → foolscaplaw9_VertScreen.l2 k l t n key0 key ps pn pi ks kn ki ts (ts.length : Int) (j : Int) p0 p1 = some true := by
  induction d with
  | zero =>
    intro k j hj hd hk
    obtain ⟨k, rfl⟩ : ∃ m, k = m + 1 := ⟨k - 1, by omega⟩
    simp only [foolscaplaw9_VertScreen.l2]
    rw [if_neg (by omega)]
    exact H k (by omega)
  | succ d ih =>
    intro k j hj hd hk
    obtain ⟨k, rfl⟩ : ∃ m, k = m + 1 := ⟨k - 1, by omega⟩
    simp only [foolscaplaw9_VertScreen.l2]
    rw [if_pos (by omega), if_pos (by omega), if_pos (by omega), screen_vert hl p0 p1 _ key n k (by omega), screen_ref hl p0 p1 _ key n k (by omega)]
    simp only [Option.bind_some]
    rw [same_self]
    simp only [Option.bind_some, if_true]
    rw [screen_vert hl p0 p1 _ key _ k (by omega), screen_ref hl p0 p1 _ key _ k (by omega)]
    simp only [Option.bind_some]
    rw [same_self]
    simp only [Option.bind_some, if_true]
    rw [w64 (by omega) (by omega)]
    exact ih k (j + 1) (by omega) (by omega) (by omega)

theorem screen_l1 {l : List ByteArray} (hl : Small l) (t n key0 : Int) (ps : List S24) (pn pi : Int) (ks : List Int) (ht : ks.length ≤ 100) (p0 p1 : Int) (K : Nat) (hK : 1400 ≤ K)
    (H : ∀ k, K ≤ k → foolscaplaw9_VertScreen.l0 k l t n key0 ps pn (wrap64 (pi + 1)) = some true) (d : Nat) :
    ∀ (k j : Nat), j ≤ ks.length → ks.length - j = d → K + 5 * d + 1 ≤ k → foolscaplaw9_VertScreen.l1 k l t n key0 ps pn pi ks (ks.length : Int) (j : Int) p0 p1 = some true := by
  induction d with
  | zero =>
    intro k j hj hd hk
    obtain ⟨k, rfl⟩ : ∃ m, k = m + 1 := ⟨k - 1, by omega⟩
    simp only [foolscaplaw9_VertScreen.l1]
    rw [if_neg (by omega)]
    exact H k (by omega)
  | succ d ih =>
    intro k j hj hd hk
    obtain ⟨k, rfl⟩ : ∃ m, k = m + 1 := ⟨k - 1, by omega⟩
    simp only [foolscaplaw9_VertScreen.l1]
    rw [if_pos (by omega), if_pos (by omega), if_pos (by omega)]
    simp only [Option.bind_some]
    refine screen_l2 hl t n key0 _ ps pn pi ks _ _ [t, Int.tmod t 30] (by simp) p0 p1 (K + 5 * d + 1) (by omega) (fun k hk => ?_) 2 k 0 (by simp) (by simp) (by omega)
    rw [w64 (by omega) (by omega)]
    exact ih k (j + 1) (by omega) (by omega) (by omega)

theorem screen_l0 {l : List ByteArray} (hl : Small l) (t n key0 : Int) (ps : List S24) (ht : ps.length ≤ 100) (d : Nat) :
    ∀ (k j : Nat), j ≤ ps.length → ps.length - j = d → 1400 + 30 * d + 1 ≤ k → foolscaplaw9_VertScreen.l0 k l t n key0 ps (ps.length : Int) (j : Int) = some true := by
  induction d with
  | zero =>
    intro k j hj hd hk
    obtain ⟨k, rfl⟩ : ∃ m, k = m + 1 := ⟨k - 1, by omega⟩
    simp only [foolscaplaw9_VertScreen.l0]
    rw [if_neg (by omega)]
  | succ d ih =>
    intro k j hj hd hk
    obtain ⟨k, rfl⟩ : ∃ m, k = m + 1 := ⟨k - 1, by omega⟩
    simp only [foolscaplaw9_VertScreen.l0]
    rw [if_pos (by omega), if_pos (by omega), if_pos (by omega)]
    simp only [Option.bind_some]
    refine screen_l1 hl t n key0 ps _ _ [key0, 72, 77, 76] (by simp) _ _ (1400 + 30 * d + 1) (by omega) (fun k hk => ?_) 4 k 0 (by simp) (by simp) (by omega)
    rw [w64 (by omega) (by omega)]
    exact ih k (j + 1) (by omega) (by omega) (by omega)

theorem VertScreen (l0 : List ByteArray) (a1_0 a1_1 : Int) (a2 a3 a4 a5 a6 : Int) (_ : l0.length * 16 ≤ 140737488351232) (hs0 : ∀ s ∈ l0, s.size ≤ 140737488351232) (_ : (Lit.int .i64 a1_0).wf = true) (_ : (Lit.int .i64 a1_1).wf = true)
    (w2 : (Lit.int .u16 a2).wf = true) (w3 : (Lit.int .u16 a3).wf = true) (_ : (Lit.int .i64 a4).wf = true) (_ : (Lit.int .i64 a5).wf = true) (_ : (Lit.int .u8 a6).wf = true) : ∃ k, foolscaplaw9_VertScreen.f k l0 a1_0 a1_1 a2 a3 a4 a5 a6 = some true := by
  obtain ⟨k, hk⟩ : ∃ k : Nat, 60000 ≤ k := ⟨60000, Nat.le_refl _⟩
  refine ⟨k, ?_⟩
  unfold foolscaplaw9_VertScreen.f
  obtain ⟨b, hb, ht⟩ := text_tells l0 hs0 k (by omega)
  rw [known_true k (by omega)]
  simp only [Option.bind_some, if_true]
  rw [hb]
  simp only [Option.bind_some]
  cases b with
  | false => rfl
  | true =>
    have g2 := bounds_u16 w2
    have g3 := bounds_u16 w3
    obtain ⟨x, y, h1, -⟩ := seat_place (ht rfl) a2 a3 g2.1 g2.2 g3.1 g3.2
    rw [if_pos rfl, h1]
    simp only [Option.bind_some]
    exact screen_l0 (ht rfl) a4 a5 a6 [⟨a1_0, a1_1⟩, ⟨x, y⟩] (by simp) 2 k 0 (by simp) (by simp) (by omega)

end Go.Proofs.Ytngkpgocjeiheaa.Pure
