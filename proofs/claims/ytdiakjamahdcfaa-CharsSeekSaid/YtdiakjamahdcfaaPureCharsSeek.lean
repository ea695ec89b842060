/- Proved here: what the law CharsSeek computes (a plain Lean function) is true for every text, place, key, byte and count. -/
import Derived.Test.YtdiakjamahdcfaaFFoolscaplaw7CharsSeek
import Derived.Test.YtdiakjamahdcfaaQKnown
import Derived.Test.YtdiakjamahdcfaaQSeekr
namespace Go.Proofs.Ytdiakjamahdcfaa.Pure
open Go.RowKit Go.Proofs.Ytdiakjamahdcfaa.V Go.Proofs.YtdiakjamahdcfaaW.PrintWords Go.Proofs.YtdiakjamahdcfaaW.PrintLast Go.Proofs.YtdiakjamahdcfaaW.PrintMore

theorem seek_l2 {l : List ByteArray} (hl : Small l) (key0 c n key : Int) (ps : List S24) (pn pi : Int) (ks : List Int) (kn ki : Int) (ns : List Int) (ht : ns.length ≤ 100) (hns : ∀ j : Int, rd ns j < 9223372036854775808) (p0 p1 : Int) (K : Nat) (hK : 4000 ≤ K)
    (H : ∀ k, K ≤ k → foolscaplaw7_CharsSeek.l1 k l key0 c n ps pn pi ks kn (wrap64 (ki + 1)) p0 p1 = some true) (d : Nat) :
    ∀ (k j : Nat), j ≤ ns.length → ns.length - j = d → K + d + 1 ≤ k → foolscaplaw7_CharsSeek.l2 k l key0 c n key ps pn pi ks kn ki ns (ns.length : Int) (j : Int) p0 p1 = some true := by
  induction d with
  | zero =>
    intro k j hj hd hk
    obtain ⟨k, rfl⟩ : ∃ m, k = m + 1 := ⟨k - 1, by omega⟩
    simp only [foolscaplaw7_CharsSeek.l2]
    rw [if_neg (by omega)]
    exact H k (by omega)
  | succ d ih =>
    intro k j hj hd hk
    obtain ⟨k, rfl⟩ : ∃ m, k = m + 1 := ⟨k - 1, by omega⟩
    simp only [foolscaplaw7_CharsSeek.l2]
    rw [if_pos (by omega), if_pos (by omega), if_pos (by omega), seek_chars hl p0 p1 key c _ (hns _) k (by omega), seek_ref hl p0 p1 key c _ (hns _) k (by omega)]
    simp only [Option.bind_some]
    rw [same_self]
    simp only [Option.bind_some, if_true]
    rw [w64 (by omega) (by omega)]
    exact ih k (j + 1) (by omega) (by omega) (by omega)

theorem seek_counts {n : Int} (h : n < 9223372036854775808) (j : Int) : rd [n, Int.tmod n 4, 1] j < 9223372036854775808 := by
  have e : Int.tmod n 4 < 4 := Int.tmod_lt_of_pos n (by omega)
  unfold rd
  rcases h : j.toNat with _ | _ | _ | m <;> simp <;> omega

theorem seek_l1 {l : List ByteArray} (hl : Small l) (key0 c n : Int) (hn : n < 9223372036854775808) (ps : List S24) (pn pi : Int) (ks : List Int) (ht : ks.length ≤ 100) (p0 p1 : Int) (K : Nat) (hK : 4000 ≤ K)
    (H : ∀ k, K ≤ k → foolscaplaw7_CharsSeek.l0 k l key0 c n ps pn (wrap64 (pi + 1)) = some true) (d : Nat) :
    ∀ (k j : Nat), j ≤ ks.length → ks.length - j = d → K + 5 * d + 1 ≤ k → foolscaplaw7_CharsSeek.l1 k l key0 c n ps pn pi ks (ks.length : Int) (j : Int) p0 p1 = some true := by
  induction d with
  | zero =>
    intro k j hj hd hk
    obtain ⟨k, rfl⟩ : ∃ m, k = m + 1 := ⟨k - 1, by omega⟩
    simp only [foolscaplaw7_CharsSeek.l1]
    rw [if_neg (by omega)]
    exact H k (by omega)
  | succ d ih =>
    intro k j hj hd hk
    obtain ⟨k, rfl⟩ : ∃ m, k = m + 1 := ⟨k - 1, by omega⟩
    simp only [foolscaplaw7_CharsSeek.l1]
    rw [if_pos (by omega), if_pos (by omega), if_pos (by omega)]
    simp only [Option.bind_some]
    refine seek_l2 hl key0 c n _ ps pn pi ks _ _ [n, Int.tmod n 4, 1] (by simp) (seek_counts hn) p0 p1 (K + 5 * d + 1) (by omega) (fun k hk => ?_) 3 k 0 (by simp) (by simp) (by omega)
    rw [w64 (by omega) (by omega)]
    exact ih k (j + 1) (by omega) (by omega) (by omega)

theorem seek_l0 {l : List ByteArray} (hl : Small l) (key0 c n : Int) (hn : n < 9223372036854775808) (ps : List S24) (ht : ps.length ≤ 100) (d : Nat) :
    ∀ (k j : Nat), j ≤ ps.length → ps.length - j = d → 4000 + 30 * d + 1 ≤ k → foolscaplaw7_CharsSeek.l0 k l key0 c n ps (ps.length : Int) (j : Int) = some true := by
  induction d with
  | zero =>
    intro k j hj hd hk
    obtain ⟨k, rfl⟩ : ∃ m, k = m + 1 := ⟨k - 1, by omega⟩
    simp only [foolscaplaw7_CharsSeek.l0]
    rw [if_neg (by omega)]
  | succ d ih =>
    intro k j hj hd hk
    obtain ⟨k, rfl⟩ : ∃ m, k = m + 1 := ⟨k - 1, by omega⟩
    simp only [foolscaplaw7_CharsSeek.l0]
    rw [if_pos (by omega), if_pos (by omega), if_pos (by omega)]
    simp only [Option.bind_some]
    refine seek_l1 hl key0 c n hn ps _ _ [key0, 102, 70, 116, 84] (by simp) _ _ (4000 + 30 * d + 1) (by omega) (fun k hk => ?_) 5 k 0 (by simp) (by simp) (by omega)
    rw [w64 (by omega) (by omega)]
    exact ih k (j + 1) (by omega) (by omega) (by omega)

theorem CharsSeek (l0 : List ByteArray) (a1_0 a1_1 : Int) (a2 a3 a4 a5 a6 : Int) (_ : l0.length * 16 ≤ 140737488351232) (hs0 : ∀ s ∈ l0, s.size ≤ 140737488351232) (_ : (Lit.int .i64 a1_0).wf = true) (_ : (Lit.int .i64 a1_1).wf = true)
    (w2 : (Lit.int .u16 a2).wf = true) (w3 : (Lit.int .u16 a3).wf = true) (_ : (Lit.int .u8 a4).wf = true) (_ : (Lit.int .u8 a5).wf = true) (w6 : (Lit.int .i64 a6).wf = true) : ∃ k, foolscaplaw7_CharsSeek.f k l0 a1_0 a1_1 a2 a3 a4 a5 a6 = some true := by
  obtain ⟨k, hk⟩ : ∃ k : Nat, 60000 ≤ k := ⟨60000, Nat.le_refl _⟩
  refine ⟨k, ?_⟩
  unfold foolscaplaw7_CharsSeek.f
  obtain ⟨b, hb, ht⟩ := text_tells l0 hs0 k (by omega)
  rw [known_true k (by omega)]
  simp only [Option.bind_some, if_true]
  rw [hb]
  simp only [Option.bind_some]
  cases b with
  | false => rfl
  | true =>
    have g2 := bounds_u16 w2
    have g3 := bounds_u16 w3
    have g6 := bounds_i64 w6
    obtain ⟨x, y, h1, -⟩ := seat_place (ht rfl) a2 a3 g2.1 g2.2 g3.1 g3.2
    rw [if_pos rfl, h1]
    simp only [Option.bind_some]
    exact seek_l0 (ht rfl) a4 a5 a6 (by omega) [⟨a1_0, a1_1⟩, ⟨x, y⟩] (by simp) 2 k 0 (by simp) (by simp) (by omega)

end Go.Proofs.Ytdiakjamahdcfaa.Pure
