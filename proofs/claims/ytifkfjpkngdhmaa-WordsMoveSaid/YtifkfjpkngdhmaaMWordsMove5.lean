/- Texts of the proof of 'WordsMove', merged in build order (part 5 of 5). -/
import Derived.Test.YtifkfjpkngdhmaaRows
import Derived.WalkKit
import Derived.ProofKit
import Derived.OpenShut
import Derived.ShutString
import Derived.ChangeOld
import Derived.Below
import Derived.SizedLaws
import Derived.SliceStrings
import Derived.Lib.SmallJoins
import Derived.Test.YtifkfjpkngdhmaaMWordsMove4
namespace Go.Proofs.Ytifkfjpkngdhmaa.Pure
open Go.RowKit Go.Proofs.Ytifkfjpkngdhmaa.V Go.Proofs.YtifkfjpkngdhmaaW.PrintWords Go.Proofs.YtifkfjpkngdhmaaW.PrintLast Go.Proofs.YtifkfjpkngdhmaaW.PrintMore
set_option linter.unusedVariables false

theorem rd_cons {s : S24} {r : List S24} {i : Int} (h : 1 ≤ i) : rd_T24 (s :: r) i = rd_T24 r (i - 1) := by
  unfold rd_T24
  rw [show i.toNat = (i - 1).toNat + 1 by omega]
  rfl
theorem rd_zero {s : S24} {r : List S24} : rd_T24 (s :: r) 0 = s := rfl

/-- Next, closed. -/
theorem nextW_val (l : List ByteArray) (x y : Int) (op : Bool) : ∀ (B : List S24) (n ll : Int), 1 ≤ n → nextW l x y op n ll B =
    if n ≤ (B.length : Int) then (if op = true ∧ (if n > 1 then (rd_T24 B (n - 2)).f0 else ll) < (rd_T24 B (n - 1)).f0 then words_end.f l x y (if n > 1 then (rd_T24 B (n - 2)).f0 else ll) else some ((rd_T24 B (n - 1)).f0, (rd_T24 B (n - 1)).f1, 0, false, -1, true))
    else if op = true ∧ n = (B.length : Int) + 1 then words_end.f l x y ((l.length : Int) - 1) else some no
  | [], n, ll, hn => by
    rw [nextW, if_neg (show ¬ n ≤ (([] : List S24).length : Int) by simp; omega)]
    rfl
  | s :: r, n, ll, hn => by
    rw [nextW]
    have e0 : ((s :: r).length : Int) = (r.length : Int) + 1 := by simp
    by_cases h : 0 < n - 1
    · rw [if_pos h, nextW_val l x y op r (n - 1) s.f0 (by omega), e0]
      rw [rd_cons (s := s) (r := r) (i := n - 1) (by omega)]
      rw [if_pos (show n > 1 by omega)]
      by_cases h2 : n > 2
      · rw [if_pos (show n - 1 > 1 by omega), rd_cons (s := s) (r := r) (i := n - 2) (by omega), show n - 1 - 2 = n - 2 - 1 by omega]
        by_cases h3 : n ≤ (r.length : Int) + 1
        · rw [if_pos (show n - 1 ≤ (r.length : Int) by omega), if_pos h3]
        · rw [if_neg (show ¬ n - 1 ≤ (r.length : Int) by omega), if_neg h3]
          by_cases h4 : n = (r.length : Int) + 1 + 1
          · by_cases ho : op = true
            · rw [if_pos ⟨ho, by omega⟩, if_pos ⟨ho, h4⟩]
            · rw [if_neg (fun h => ho h.1), if_neg (fun h => ho h.1)]
          · rw [if_neg (fun h => h4 (by omega)), if_neg (fun h => h4 h.2)]
      · obtain rfl : n = 2 := by omega
        rw [if_neg (show ¬ (2 : Int) - 1 > 1 by omega), show (2 : Int) - 2 = 0 by omega, rd_zero]
        by_cases h3 : (2 : Int) ≤ (r.length : Int) + 1
        · rw [if_pos (show (2 : Int) - 1 ≤ (r.length : Int) by omega), if_pos h3]
        · rw [if_neg (show ¬ (2 : Int) - 1 ≤ (r.length : Int) by omega), if_neg h3]
          by_cases ho : op = true
          · rw [if_pos ⟨ho, by omega⟩, if_pos ⟨ho, by omega⟩]
          · rw [if_neg (fun h => ho h.1), if_neg (fun h => ho h.1)]
    · obtain rfl : n = 1 := by omega
      rw [if_neg h, e0, if_pos (show (1 : Int) ≤ (r.length : Int) + 1 by omega), if_neg (show ¬ (1 : Int) > 1 by omega), show (1 : Int) - 1 = 0 by omega, rd_zero]

theorem rd_mem {L : List S24} {i : Int} (h0 : 0 ≤ i) (h1 : i < L.length) : rd_T24 L i ∈ L := by
  unfold rd_T24
  rw [List.getD_eq_getElem?_getD, List.getElem?_eq_getElem (by omega)]
  exact List.getElem_mem _

theorem j0_ref (k : Nat) (hk : 1 ≤ k) (x y a b : Int) : foolscapref5_Next.j0 k x y a b = some (if ltN x y a b = true then (a, b, 0, false, -1, true) else no) := by
  obtain ⟨k, rfl⟩ : ∃ m, k = m + 1 := ⟨k - 1, by omega⟩
  rw [foolscapref5_Next.j0, less_refM]
  simp only [Option.bind_some]
  cases ltN x y a b <;> rfl

theorem next_same {l : List ByteArray} (hl : Small l) (x y n : Int) (hn2 : n ≤ 9223372036854775807) (big op : Bool) (k : Nat) (hk : 60000 ≤ k) : ∃ v : Mv, words_Next.f l x y n big op = some v ∧ foolscapref5_Next.f k l x y n big op = some v := by
  unfold foolscapref5_Next.f
  rw [may_ref8]
  simp only [Option.bind_some]
  by_cases hp : PlaceP l x y ∧ 1 ≤ n
  · obtain ⟨hp, hn⟩ := hp
    obtain ⟨p1, p2, p3, p4⟩ := id hp
    have hl1 := hl.1
    have hl2 := hl.2.1
    have hSL := startsL_len hl.2.1 hl.2.2 big
    rw [decide_eq_true ⟨hp, hn⟩, if_pos rfl, starts_ref hl big k hk]
    simp only [Option.bind_some]
    rw [behind_ref _ hSL false x y k hk, behT_no]
    simp only [Option.bind_some]
    obtain ⟨B, hB⟩ : ∃ B, behL x y (startsL l big) = B := ⟨_, rfl⟩
    have hBl : B.length ≤ 50000 := by
      have : B.length ≤ (startsL l big).length := by rw [← hB]; exact List.length_filter_le _ _
      omega
    have hBm : ∀ s ∈ B, PlaceP l s.f0 s.f1 ∧ ltN x y s.f0 s.f1 = true := by
      intro s hs
      rw [← hB] at hs
      exact ⟨plc_place (behL_mem hs), behL_lt hs⟩
    rw [next_beh hl hp hn hn2, hB, nextW_val l x y op B n x hn]
    cases op with
    | false =>
      simp only [Bool.false_eq_true, false_and, if_false]
      rw [nth_ref B n 0 hn hn2]
      simp only [Option.bind_some]
      by_cases h : n ≤ (B.length : Int)
      · rw [if_pos h, if_neg (show ¬ n > (B.length : Int) by omega)]
        exact ⟨_, rfl, rfl⟩
      · rw [if_neg h, if_pos (show n > (B.length : Int) by omega)]
        exact ⟨_, rfl, rfl⟩
    | true =>
      simp only [true_and, if_true]
      rw [w64 (x := n - 1) (by omega) (by omega)]
      by_cases h0 : (B.length : Int) < n - 1
      · rw [if_neg (show ¬ n ≤ (B.length : Int) by omega), if_neg (show ¬ n = (B.length : Int) + 1 by omega), if_pos h0]
        exact ⟨_, rfl, rfl⟩
      · have he : foolscapref5_end.f l = some ((l.length : Int) - 1, ((rdOf ByteArray.empty l ((l.length : Int) - 1)).size : Int)) := by
          unfold foolscapref5_end.f
          rw [w64 (by omega) (by omega), if_pos (by omega), if_pos (by omega)]
        rw [if_neg h0, he]
        simp only [Option.bind_some]
        by_cases h : n ≤ (B.length : Int)
        · obtain ⟨⟨t1, t2, t3, t4⟩, t5⟩ := hBm _ (rd_mem (i := n - 1) (by omega) (by omega))
          rw [if_pos h, if_pos (show (B.length : Int) ≥ n by omega), if_pos (show (0 : Int) ≤ n - 1 by omega), if_pos (show n - 1 < (B.length : Int) by omega)]
          by_cases h2 : n > 1
          · obtain ⟨⟨q1, q2, q3, q4⟩, q5⟩ := hBm _ (rd_mem (i := n - 2) (by omega) (by omega))
            rw [if_pos h2, if_pos h2, w64 (x := n - 2) (by omega) (by omega), if_pos (show (0 : Int) ≤ n - 2 by omega), if_pos (show n - 2 < (B.length : Int) by omega)]
            by_cases h3 : (rd_T24 B (n - 2)).f0 < (rd_T24 B (n - 1)).f0
            · rw [if_pos h3, if_pos (show (rd_T24 B (n - 1)).f0 > (rd_T24 B (n - 2)).f0 by omega), if_pos q1, if_pos q2, j0_ref k (by omega), end_val q1 q2]
              exact ⟨_, rfl, rfl⟩
            · rw [if_neg h3, if_neg (show ¬ (rd_T24 B (n - 1)).f0 > (rd_T24 B (n - 2)).f0 by omega), j0_ref k (by omega), if_pos t5]
              exact ⟨_, rfl, rfl⟩
          · rw [if_neg h2, if_neg h2]
            by_cases h3 : x < (rd_T24 B (n - 1)).f0
            · rw [if_pos h3, if_pos (show (rd_T24 B (n - 1)).f0 > x by omega), if_pos p1, if_pos p2, j0_ref k (by omega), end_val p1 p2]
              exact ⟨_, rfl, rfl⟩
            · rw [if_neg h3, if_neg (show ¬ (rd_T24 B (n - 1)).f0 > x by omega), j0_ref k (by omega), if_pos t5]
              exact ⟨_, rfl, rfl⟩
        · rw [if_neg h, if_pos (show n = (B.length : Int) + 1 by omega), if_neg (show ¬ (B.length : Int) ≥ n by omega), j0_ref k (by omega), end_val (by omega) (by omega)]
          exact ⟨_, rfl, rfl⟩
  · rw [decide_eq_false hp, if_neg (by simp)]
    unfold words_Next.f
    rw [fails_yes hp]
    exact ⟨_, rfl, rfl⟩

theorem tailT_val : ∀ (B : List S24) (n : Int), 1 ≤ n → tailT n B = if n > (B.length : Int) then no else ((rd_T24 B (n - 1)).f0, (rd_T24 B (n - 1)).f1, 1, false, -1, true)
  | [], n, hn => by rw [tailT, if_pos (show n > (([] : List S24).length : Int) by simp; omega)]
  | s :: r, n, hn => by
    have e0 : ((s :: r).length : Int) = (r.length : Int) + 1 := by simp
    rw [tailT, e0]
    by_cases h : n - 1 = 0
    · rw [if_pos h, if_neg (by omega), h, rd_zero]
    · rw [if_neg h, tailT_val r (n - 1) (by omega), rd_cons (s := s) (r := r) (i := n - 1) (by omega)]
      by_cases h2 : n > (r.length : Int) + 1
      · rw [if_pos (by omega), if_pos h2]
      · rw [if_neg (by omega), if_neg h2]

theorem tail_same {l : List ByteArray} (hl : Small l) (x y n : Int) (hn2 : n ≤ 9223372036854775807) (big here : Bool) (k : Nat) (hk : 60000 ≤ k) : ∃ v : Mv, words_Tail.f l x y n big here = some v ∧ foolscapref5_Tail.f k l x y n big here = some v := by
  unfold foolscapref5_Tail.f
  rw [may_ref8]
  simp only [Option.bind_some]
  by_cases hp : PlaceP l x y ∧ 1 ≤ n
  · obtain ⟨hp, hn⟩ := hp
    rw [decide_eq_true ⟨hp, hn⟩, if_pos rfl, ends_ref hl big k hk]
    simp only [Option.bind_some]
    rw [behind_ref _ (endsL_len hl.2.1 hl.2.2 big) here x y k hk]
    simp only [Option.bind_some]
    rw [nth_ref _ n 1 hn hn2, tail_beh hl hp hn hn2, tailT_val _ n hn]
    exact ⟨_, rfl, rfl⟩
  · rw [decide_eq_false hp, if_neg (by simp)]
    unfold words_Tail.f
    rw [fails_yes hp]
    exact ⟨_, rfl, rfl⟩

theorem rd_rev {A : List S24} {n : Int} (hn : 1 ≤ n) (h : n ≤ A.length) : rd_T24 A.reverse (n - 1) = A.getD ((A.length : Int) - n).toNat ⟨0, 0⟩ := by
  unfold rd_T24
  rw [List.getD_eq_getElem?_getD, List.getD_eq_getElem?_getD, List.getElem?_reverse (by omega), show A.length - 1 - (n - 1).toNat = ((A.length : Int) - n).toNat by omega]
  rfl

theorem back_same {l : List ByteArray} (hl : Small l) (x y n : Int) (hn2 : n ≤ 9223372036854775807) (big : Bool) (k : Nat) (hk : 60000 ≤ k) : ∃ v : Mv, words_Back.f l x y n big = some v ∧ foolscapref5_Back.f k l x y n big = some v := by
  unfold foolscapref5_Back.f
  rw [may_ref8]
  simp only [Option.bind_some]
  by_cases hp : PlaceP l x y ∧ 1 ≤ n
  · obtain ⟨hp, hn⟩ := hp
    rw [decide_eq_true ⟨hp, hn⟩, if_pos rfl, starts_ref hl big k hk]
    simp only [Option.bind_some]
    rw [ahead_ref _ (startsL_len hl.2.1 hl.2.2 big) x y k hk, ← ahead_filter (L := startsL l big) (plc_sorted _ _ _ _) x y]
    simp only [Option.bind_some]
    rw [nth_ref _ n 0 hn hn2]
    unfold words_Back.f
    rw [fails_no hp hn]
    simp only [Option.bind_some, Bool.false_eq_true, if_false]
    rw [if_pos ⟨hl.2.1, hl.2.2, hn, hn2⟩]
    unfold words_Back.m backGo
    rw [List.length_reverse]
    by_cases h : n > ((aheadL x y (startsL l big)).length : Int)
    · rw [if_pos h, if_pos h]
      exact ⟨_, rfl, rfl⟩
    · rw [if_neg h, if_neg h, rd_rev hn (by omega)]
      exact ⟨_, rfl, rfl⟩
  · rw [decide_eq_false hp, if_neg (by simp)]
    unfold words_Back.f
    rw [fails_yes hp]
    exact ⟨_, rfl, rfl⟩
theorem backtail_same {l : List ByteArray} (hl : Small l) (x y n : Int) (hn2 : n ≤ 9223372036854775807) (big : Bool) (k : Nat) (hk : 60000 ≤ k) : ∃ v : Mv, words_BackTail.f l x y n big = some v ∧ foolscapref5_BackTail.f k l x y n big = some v := by
  unfold foolscapref5_BackTail.f
  rw [may_ref8]
  simp only [Option.bind_some]
  by_cases hp : PlaceP l x y ∧ 1 ≤ n
  · obtain ⟨hp, hn⟩ := hp
    rw [decide_eq_true ⟨hp, hn⟩, if_pos rfl, ends_ref hl big k hk]
    simp only [Option.bind_some]
    rw [ahead_ref _ (endsL_len hl.2.1 hl.2.2 big) x y k hk, ← ahead_filter (L := endsL l big) (plc_sorted _ _ _ _) x y]
    simp only [Option.bind_some]
    rw [nth_ref _ n 1 hn hn2]
    unfold words_BackTail.f
    rw [fails_no hp hn]
    simp only [Option.bind_some, Bool.false_eq_true, if_false]
    rw [if_pos ⟨hl.2.1, hl.2.2, hn, hn2⟩]
    unfold words_BackTail.m backGo
    rw [List.length_reverse]
    by_cases h : n > ((aheadL x y (endsL l big)).length : Int)
    · rw [if_pos h, if_pos h]
      exact ⟨_, rfl, rfl⟩
    · rw [if_neg h, if_neg h, rd_rev hn (by omega)]
      exact ⟨_, rfl, rfl⟩
  · rw [decide_eq_false hp, if_neg (by simp)]
    unfold words_BackTail.f
    rw [fails_yes hp]
    exact ⟨_, rfl, rfl⟩

theorem same_self (v : Mv) : foolscaplaw8_same.f v.1 v.2.1 v.2.2.1 v.2.2.2.1 v.2.2.2.2.1 v.2.2.2.2.2 v.1 v.2.1 v.2.2.1 v.2.2.2.1 v.2.2.2.2.1 v.2.2.2.2.2 = some true := by
  unfold foolscaplaw8_same.f
  simp

end Go.Proofs.Ytifkfjpkngdhmaa.Pure
namespace Go.Proofs.Ytifkfjpkngdhmaa.Pure
open Go.RowKit Go.Proofs.Ytifkfjpkngdhmaa.V Go.Proofs.YtifkfjpkngdhmaaW.PrintWords Go.Proofs.YtifkfjpkngdhmaaW.PrintLast Go.Proofs.YtifkfjpkngdhmaaW.PrintMore
set_option linter.unusedVariables false

theorem move_l1 {l : List ByteArray} (hl : Small l) (n : Int) (big flag : Bool) (P : List S24) (m i : Int) (K : List Int) (hK : ∀ z ∈ K, z ≤ 9223372036854775807) (hKl : K.length ≤ 10) (x y : Int) (R : Option Bool) (mm : Nat) (hmm : 60000 ≤ mm)
    (hR : ∀ k, mm ≤ k → foolscaplaw8_WordsMove.l0 k l n big flag P m (wrap64 (i + 1)) = R) :
    ∀ (d j k : Nat), j + d = K.length → mm + d + 1 ≤ k → foolscaplaw8_WordsMove.l1 k l n big flag P m i K (K.length : Int) (j : Int) x y = R := by
  intro d
  induction d with
  | zero =>
    intro j k hj hk
    obtain ⟨k, rfl⟩ : ∃ m, k = m + 1 := ⟨k - 1, by omega⟩
    rw [foolscaplaw8_WordsMove.l1, if_neg (by omega)]
    exact hR k (by omega)
  | succ d ih =>
    intro j k hj hk
    obtain ⟨k, rfl⟩ : ∃ m, k = m + 1 := ⟨k - 1, by omega⟩
    have hz : rd K (j : Int) ≤ 9223372036854775807 := by
      refine hK _ ?_
      unfold rd
      rw [List.getD_eq_getElem?_getD, List.getElem?_eq_getElem (by simp; omega)]
      exact List.getElem_mem _
    obtain ⟨z, hze⟩ : ∃ z, rd K (j : Int) = z := ⟨_, rfl⟩
    rw [hze] at hz
    obtain ⟨v1, a1, b1⟩ := next_same hl x y z hz big flag k (by omega)
    obtain ⟨v2, a2, b2⟩ := back_same hl x y z hz big k (by omega)
    obtain ⟨v3, a3, b3⟩ := tail_same hl x y z hz big flag k (by omega)
    obtain ⟨v4, a4, b4⟩ := backtail_same hl x y z hz big k (by omega)
    rw [foolscaplaw8_WordsMove.l1, if_pos (by omega), if_pos (by omega), if_pos (by omega), hze, a1, b1]
    simp only [Option.bind_some, same_self, if_true]
    rw [a2, b2]
    simp only [Option.bind_some, same_self, if_true]
    rw [a3, b3]
    simp only [Option.bind_some, same_self, if_true]
    rw [a4, b4]
    simp only [Option.bind_some, same_self, if_true]
    rw [w64 (by omega) (by omega), show ((j : Int) + 1) = ((j + 1 : Nat) : Int) by omega]
    exact ih (j + 1) k (by omega) (by omega)

theorem move_l0 {l : List ByteArray} (hl : Small l) (n : Int) (hn : n ≤ 9223372036854775807) (big flag : Bool) (P : List S24) (hP : P.length ≤ 10) :
    ∀ (d j k : Nat), j + d = P.length → 60000 + d * 10 + 10 ≤ k → foolscaplaw8_WordsMove.l0 k l n big flag P (P.length : Int) (j : Int) = some true := by
  intro d
  induction d with
  | zero =>
    intro j k hj hk
    obtain ⟨k, rfl⟩ : ∃ m, k = m + 1 := ⟨k - 1, by omega⟩
    rw [foolscaplaw8_WordsMove.l0, if_neg (by omega)]
  | succ d ih =>
    intro j k hj hk
    obtain ⟨k, rfl⟩ : ∃ m, k = m + 1 := ⟨k - 1, by omega⟩
    rw [foolscaplaw8_WordsMove.l0, if_pos (by omega), if_pos (by omega), if_pos (by omega)]
    simp only [Option.bind_some]
    have h9 : Int.tmod n 9 ≤ 9 := by
      have := Int.tmod_lt_of_pos n (show (0 : Int) < 9 by omega)
      omega
    refine move_l1 hl n big flag P (P.length : Int) (j : Int) [n, Int.tmod n 9, 1] (fun z hz => ?_) (by simp) _ _ _ (60000 + d * 10 + 10) (by omega) (fun k' hk' => ?_) 3 0 k rfl (by omega)
    · rcases List.mem_cons.1 hz with h | hz
      · omega
      · rcases List.mem_cons.1 hz with h | hz
        · omega
        · have : z = 1 := by simpa using hz
          omega
    · rw [w64 (by omega) (by omega), show ((j : Int) + 1) = ((j + 1 : Nat) : Int) by omega]
      exact ih (j + 1) k' (by omega) hk'

theorem WordsMove (l0 : List ByteArray) (a1_0 a1_1 : Int) (a2 : Int) (a3 : Int) (a4 : Int) (a5 : Bool) (a6 : Bool) (hl0 : l0.length * 16 ≤ 140737488351232) (hs0 : ∀ s ∈ l0, s.size ≤ 140737488351232) (w1_0 : (Lit.int .i64 a1_0).wf = true) (w1_1 : (Lit.int .i64 a1_1).wf = true) (w2 : (Lit.int .u16 a2).wf = true) (w3 : (Lit.int .u16 a3).wf = true) (w4 : (Lit.int .i64 a4).wf = true) : ∃ k, foolscaplaw8_WordsMove.f k l0 a1_0 a1_1 a2 a3 a4 a5 a6 = some true := by
  obtain ⟨k, hk⟩ : ∃ k : Nat, 61000 ≤ k := ⟨61000, Nat.le_refl _⟩
  refine ⟨k, ?_⟩
  unfold foolscaplaw8_WordsMove.f
  obtain ⟨b, hb, ht⟩ := text_tells l0 hs0 k (by omega)
  rw [known_true]
  simp only [Option.bind_some, if_true]
  rw [hb]
  simp only [Option.bind_some]
  cases b with
  | false => rfl
  | true =>
    have hl := ht rfl
    have g2 := bounds_u16 w2
    have g3 := bounds_u16 w3
    have g4 := bounds_i64 w4
    obtain ⟨x, y, h1, hp⟩ := seat_place hl a2 a3 g2.1 g2.2 g3.1 g3.2
    rw [if_pos rfl, h1]
    simp only [Option.bind_some]
    exact move_l0 hl a4 (by omega) a5 a6 [⟨a1_0, a1_1⟩, ⟨x, y⟩] (by simp) 2 0 k rfl (by omega)

end Go.Proofs.Ytifkfjpkngdhmaa.Pure
namespace Go.Proofs.Ytifkfjpkngdhmaa.wordsMove
open Go.ChangeShapes Go.WideShapes Go.ChangeAt Go.RowKit Go.Proofs.YtifkfjpkngdhmaaW.PrintWords
open Go.ChangeMaps (open_string shut_string)
set_option linter.unusedVariables false
theorem own : ownKnob Try.prog.godebug = none := by kernel_rfl
theorem laidOut : laidOutB Try.prog = true := by kernel_rfl
theorem weightsAll_mem {H : Type} {P : Program} {e : TypeId} {n : Nat} : ∀ {l : List (DataW H)} {d : DataW H}, d ∈ l → n ∈ d.weights P e → n ∈ DataW.weightsAll P e l
  | x :: r, d, hd, hn => by
    simp only [DataW.weightsAll, List.mem_append]
    rcases List.mem_cons.1 hd with rfl | h
    · exact Or.inl hn
    · exact Or.inr (weightsAll_mem h hn)
  | [], _, hd, _ => by simp at hd
theorem open_lines {H : Type} {enc : TypeId × Value → H} {P : Program} {W : World} {base : Nat} {held : Bool} {t e : TypeId} {a : Option Addr} {len cap : Nat} {d : DataW H} {ps : List MemPlace} {ts : List TypeId} {ds : List (DataW H)} {j : Nat}
    (hsz : (DataW.weightsEach P ts ds).all (· ≤ reachBytes) = true) (ht : ts[j]? = some t) (hd : ds[j]? = some d) (hu : P.underlying t = some (.slice e)) (he : P.underlying e = some .string) (hc : P.cellsOf e = 1) (hB : P.bytesOf e = 16)
    (h : DataW.Trod enc P W base (fun _ => true) held t (.slice a len cap) d ps) :
    ∃ l : List ByteArray, len = l.length ∧ ReadsOf Value.string ByteArray.empty W a l.length l ∧ l.length ≤ cap ∧ l.length * 16 ≤ 140737488351232 ∧ ∀ s ∈ l, s.size ≤ 140737488351232 := by
  obtain ⟨fuel, hf⟩ := h
  rcases open_strings hu he hc hf with ⟨hcs, _⟩ | ⟨x, l, c, ss, hcs, _, hl, hm, hz, hx, hcell, _⟩
  · simp [Value.cells] at hcs
    obtain ⟨rfl, rfl, rfl⟩ := hcs
    exact ⟨[], rfl, ReadsOf.nil _ _ _, by simp, by simp, by simp⟩
  · simp [Value.cells] at hcs
    obtain ⟨rfl, rfl, rfl⟩ := hcs
    obtain ⟨hx, _⟩ := Prod.mk.inj hx
    subst hx
    have z := sized_slice hsz ht hd hu
    rw [hB] at z
    have hz : ss.length = cap := by simpa using hz
    have hl2 : (ss.take len).length = len := by rw [List.length_take]; omega
    have z1 : (strs (H := H) (ss.take len)).length + (strs (H := H) (ss.drop len)).length = ss.length := by simp only [strs, List.length_map, List.length_take, List.length_drop]; omega
    rw [z1] at z
    have z : ss.length * 16 ≤ 140737488351232 := z
    unfold maxLen at hm
    refine ⟨ss.take len, hl2.symm, ⟨rfl, by omega, fun hn => ⟨x, rfl, fun i hi => ?_⟩⟩, by omega, by omega, fun s hs => ?_⟩
    · rw [hl2] at hi
      rw [hcell i (by omega)]
      simp only [List.getD]
      rw [List.getElem?_take_of_lt hi]
    · have := List.all_eq_true.1 hsz _ (DataW.weights_mem_each ht hd s.data.toList.length (by
        simp only [DataW.weights, hu]
        refine List.mem_cons_of_mem _ (List.mem_append_left _ (weightsAll_mem (d := .lit (.string s.data.toList)) ?_ (by simp [DataW.weights])))
        exact List.mem_map.2 ⟨s, hs, rfl⟩))
      have := of_decide_eq_true this
      rw [Array.length_toList] at this
      exact this
set_option maxRecDepth 100000 in
theorem lifted (os : Os) (started : os.Started) (H : Type) (enc : TypeId × Value → H) :
    ReturnsInHanded {} Try.checked os 3 .any (Rows.wordsMoveSpec.pre6 enc Try.prog Try.f3 Rows.wordsMoveRow.domain false) (Rows.wordsMoveSpec.post enc Try.prog Try.f3 false true false false) := by
  refine returnsInHanded_of_change_sized (C := Try.checked) own started (by kernel_rfl) Try.func3
    (ChangeSpec.witness6 (enc := enc) (C := Try.checked) false ⟨#[], #[.slice none 0 0, .agg #[.int .i64 0, .int .i64 0], .int .u16 0, .int .u16 0, .int .i64 0, .bool false, .bool false], []⟩ 8 (by kernel_rfl) (by kernel_rfl) (by kernel_rfl) (by kernel_rfl)) ?_
  intro W base args ds gs before hval0 hW hcnd hsz0 _
  have hsz : (DataW.weightsEach Try.prog (Try.f3.params.toList ++ Rows.wordsMoveSpec.plain.varTypes Try.prog) (ds ++ gs)).all (· ≤ reachBytes) = true := hsz0
  have hval : ∀ (j : Nat) t v, Try.f3.params[j]? = some t → args[j]? = some v → Value.okWide Try.prog W .any base t v := hval0
  have hW' := hW
  obtain ⟨p, q, hA0, hV, rfl, hfz, hnd⟩ := hW
  have hA : DataW.TrodAll enc Try.prog W 0 (fun _ => true) true Try.f3.params.toList args.toList ds p := hA0
  rw [Try.params3] at hA hval hsz
  obtain ⟨v0, vs0, d0, ds0, p0, q0, hargs, rfl, rfl, h0, r0⟩ := trodAll_cons hA
  obtain ⟨v1, vs1, d1, ds1, p1, q1, rfl, rfl, rfl, h1, r1⟩ := trodAll_cons r0
  obtain ⟨v2, vs2, d2, ds2, p2, q2, rfl, rfl, rfl, h2, r2⟩ := trodAll_cons r1
  obtain ⟨v3, vs3, d3, ds3, p3, q3, rfl, rfl, rfl, h3, r3⟩ := trodAll_cons r2
  obtain ⟨v4, vs4, d4, ds4, p4, q4, rfl, rfl, rfl, h4, r4⟩ := trodAll_cons r3
  obtain ⟨v5, vs5, d5, ds5, p5, q5, rfl, rfl, rfl, h5, r5⟩ := trodAll_cons r4
  obtain ⟨v6, vs6, d6, ds6, p6, q6, rfl, rfl, rfl, h6, r6⟩ := trodAll_cons r5
  obtain ⟨rfl, rfl, rfl⟩ := trodAll_nil r6
  obtain rfl : args = #[v0, v1, v2, v3, v4, v5, v6] := by cases args; simp_all
  obtain ⟨rfl, rfl⟩ := trodVars_none hV
  obtain ⟨a0, len0, cap0, rfl⟩ := okWide_slice Try.underlying22 (hval 0 22 v0 rfl rfl)
  have k0 := h0
  have lt0 : ∀ x ∈ p0, x.block < W.heap.size := by obtain ⟨m, hm⟩ := k0; exact DataW.trod_lt m _ _ _ hm
  obtain ⟨l0, rfl, hr0, hc0, hl0, hs0⟩ := open_lines hsz (j := 0) (t := 22) rfl rfl Try.underlying22 Try.underlying9 (by kernel_rfl) (by kernel_rfl) h0
  have k1 := h1
  have lt1 : ∀ x ∈ p1, x.block < W.heap.size := by obtain ⟨m, hm⟩ := k1; exact DataW.trod_lt m _ _ _ hm
  obtain ⟨c10, c11, y10, y11, m1, rfl, hdd1, hpp1, hy10, hy11⟩ := Go.Joins.open_agg2 Try.underlying24 (by kernel_rfl) (by kernel_rfl) (hval 1 24 v1 rfl rfl) h1
  obtain ⟨a1_0, e10, -, w1_0⟩ := DataW.trod_int Try.underlying3 hy10
  obtain ⟨a1_1, e11, -, w1_1⟩ := DataW.trod_int Try.underlying3 hy11
  simp only [List.cons.injEq, and_true] at e10 e11
  subst e10
  subst e11
  obtain ⟨a2, rfl, rfl, rfl, w2⟩ := open_int Try.underlying25 (hval 2 25 v2 rfl rfl) h2
  obtain ⟨a3, rfl, rfl, rfl, w3⟩ := open_int Try.underlying25 (hval 3 25 v3 rfl rfl) h3
  obtain ⟨a4, rfl, rfl, rfl, w4⟩ := open_int Try.underlying3 (hval 4 3 v4 rfl rfl) h4
  obtain ⟨a5, rfl, rfl, rfl⟩ := open_bool Try.underlying4 (hval 5 4 v5 rfl rfl) h5
  obtain ⟨a6, rfl, rfl, rfl⟩ := open_bool Try.underlying4 (hval 6 4 v6 rfl rfl) h6
  clear hA0 hval0 hsz0 hsz
  obtain ⟨k, h⟩ := Pure.WordsMove l0 a1_0 a1_1 a2 a3 a4 a5 a6 hl0 hs0 w1_0 w1_1 w2 w3 w4
  refine (V.foolscaplaw8_WordsMove.calls k _ _ l0 a1_0 a1_1 a2 a3 a4 a5 a6 true W (Kd.C_of_reads (d := ByteArray.empty) (h1 := fun _ => rfl) hr0) hc0 h rfl).mono fun e W' ⟨he, bel⟩ => ?_
  subst he
  exact ⟨_, rfl, _, _, _, [], _, [], hW', trodAll_mk1 (shut_bool Try.underlying4 _), (trodAll_cons_mk (Below.trod laidOut (by kernel_rfl) (of_decide_eq_true (by kernel_rfl)) k0 bel lt0) (trodAll_cons_mk (Below.trod laidOut (by kernel_rfl) (of_decide_eq_true (by kernel_rfl)) k1 bel lt1) (trodAll_cons_mk (shut_int Try.underlying25 w2) (trodAll_cons_mk (shut_int Try.underlying25 w3) (trodAll_cons_mk (shut_int Try.underlying3 w4) (trodAll_cons_mk (shut_bool Try.underlying4 _) (trodAll_cons_mk (shut_bool Try.underlying4 _) trodAll_mk0))))))), rfl, bel.frame _, fun h => by cases h⟩
theorem over : Rows.wordsMoveRow.holds Try.pinned (OpenSpec.ofChange Rows.wordsMoveSpec) :=
  OpenClaim.holds_of_wide 3 Try.f3 rfl rfl rfl rfl rfl rfl rfl ⟨rfl, rfl, rfl, rfl, rfl⟩ rfl rfl rfl rfl rfl (by kernel_rfl) Try.func3 (by kernel_rfl)
    (of_decide_eq_true (by kernel_rfl)) (by unfold Func.isWrapper; first | (rw [if_pos (by decide +kernel)]; kernel_rfl) | (rw [if_neg (by decide +kernel)]; exact ⟨rfl, rfl⟩))
    (fun os started H enc _ => lifted os started H enc)
theorem proved : Rows.WordsMoveSaid := over
#print axioms proved
end Go.Proofs.Ytifkfjpkngdhmaa.wordsMove
namespace Go.Proofs.Ytifkfjpkngdhmaa
/-- The row, under a short name, for the claim. -/
theorem wordsMove_holds : Rows.WordsMoveSaid := wordsMove.proved
end Go.Proofs.Ytifkfjpkngdhmaa
