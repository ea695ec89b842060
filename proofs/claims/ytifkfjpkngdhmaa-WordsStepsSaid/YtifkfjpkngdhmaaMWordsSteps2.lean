/- Texts of the proof of 'WordsSteps', merged in build order (part 2 of 4). -/
import Derived.Test.YtifkfjpkngdhmaaMWordsSteps1
namespace Go.Proofs.Ytifkfjpkngdhmaa.Pure
open Go.RowKit Go.Shelf Go.Proofs.Ytifkfjpkngdhmaa.V Go.Proofs.YtifkfjpkngdhmaaW.PrintWords Go.Proofs.YtifkfjpkngdhmaaW.PrintLast Go.Proofs.YtifkfjpkngdhmaaW.PrintMore
set_option linter.unusedVariables false
set_option linter.unusedSimpArgs false
attribute [local go_sem] Oper.semAt_some

/-- is the place (a, b) ahead of (c, d)? -/
def ltB (a b c d : Int) : Bool := decide (a < c) || (decide (a = c) && decide (b < d))
theorem less_eq (a b c d : Int) : span_Less.f a b c d = some (ltB a b c d) := by
  unfold span_Less.f ltB
  by_cases h : a < c
  · simp [h]
  · by_cases h2 : a = c <;> simp [h, h2]

/-- is the place s passed over by Tail? -/
def skipB (p0 p1 : Int) (here : Bool) (s : S24) : Bool := ltB s.f0 s.f1 p0 p1 || (decide (s.f0 = p0 ∧ s.f1 = p1) && !here)
/-- what Tail tells of places. -/
def tailGo (p0 p1 : Int) (here : Bool) : Int → List S24 → (Int × Int × Int × Bool × Int × Bool)
  | _, [] => (0, 0, 0, false, 0, false)
  | m, s :: r => if skipB p0 p1 here s = true then tailGo p0 p1 here m r else if m - 1 = 0 then (s.f0, s.f1, 1, false, -1, true) else tailGo p0 p1 here (m - 1) r

theorem tail_facts {w W : World} {p0 p1 m v1 v2 v3 v5 : Int} {here v4 v6 : Bool} (h : Boxes w [(24, #[.int .i64 p0, .int .i64 p1]), (3, #[.int .i64 m]), (4, #[.bool here]), (32, #[.int .i64 v1, .int .i64 v2, .int .i64 v3, .bool v4, .int .i64 v5]), (4, #[.bool v6])] W) :
    W.cell? ⟨w.heap.size, 0, none⟩ = some (.int .i64 p0) ∧ W.cell? ⟨w.heap.size, 1, none⟩ = some (.int .i64 p1) ∧ W.cell? ⟨w.heap.size + 1, 0, none⟩ = some (.int .i64 m) ∧ W.cell? ⟨w.heap.size + 1 + 1, 0, none⟩ = some (.bool here) ∧ W.cell? ⟨w.heap.size + 1 + 1 + 1, 0, none⟩ = some (.int .i64 v1) ∧ W.cell? ⟨w.heap.size + 1 + 1 + 1, 1, none⟩ = some (.int .i64 v2) ∧ W.cell? ⟨w.heap.size + 1 + 1 + 1, 2, none⟩ = some (.int .i64 v3) ∧ W.cell? ⟨w.heap.size + 1 + 1 + 1, 3, none⟩ = some (.bool v4) ∧ W.cell? ⟨w.heap.size + 1 + 1 + 1, 4, none⟩ = some (.int .i64 v5) ∧ W.cell? ⟨w.heap.size + 1 + 1 + 1 + 1, 0, none⟩ = some (.bool v6) ∧ W.frozen? ⟨w.heap.size + 1, 0, none⟩ = false ∧ W.frozen? ⟨w.heap.size + 1 + 1 + 1, 0, none⟩ = false ∧ W.frozen? ⟨w.heap.size + 1 + 1 + 1, 1, none⟩ = false ∧ W.frozen? ⟨w.heap.size + 1 + 1 + 1, 2, none⟩ = false ∧ W.frozen? ⟨w.heap.size + 1 + 1 + 1, 3, none⟩ = false ∧ W.frozen? ⟨w.heap.size + 1 + 1 + 1, 4, none⟩ = false ∧ W.frozen? ⟨w.heap.size + 1 + 1 + 1 + 1, 0, none⟩ = false :=
  ⟨(blk_cell (h.2 0 _ _ rfl) 0).trans rfl, (blk_cell (h.2 0 _ _ rfl) 1).trans rfl, (blk_cell (h.2 1 _ _ rfl) 0).trans rfl, (blk_cell (h.2 2 _ _ rfl) 0).trans rfl, (blk_cell (h.2 3 _ _ rfl) 0).trans rfl, (blk_cell (h.2 3 _ _ rfl) 1).trans rfl, (blk_cell (h.2 3 _ _ rfl) 2).trans rfl, (blk_cell (h.2 3 _ _ rfl) 3).trans rfl, (blk_cell (h.2 3 _ _ rfl) 4).trans rfl, (blk_cell (h.2 4 _ _ rfl) 0).trans rfl, blk_frozen (h.2 1 _ _ rfl) 0, blk_frozen (h.2 3 _ _ rfl) 0, blk_frozen (h.2 3 _ _ rfl) 1, blk_frozen (h.2 3 _ _ rfl) 2, blk_frozen (h.2 3 _ _ rfl) 3, blk_frozen (h.2 3 _ _ rfl) 4, blk_frozen (h.2 4 _ _ rfl) 0⟩

theorem tail_cont {w W : World} {p0 p1 m v1 v2 v3 v5 : Int} {here v4 v6 : Bool} (m' : Int) (h : Boxes w [(24, #[.int .i64 p0, .int .i64 p1]), (3, #[.int .i64 m]), (4, #[.bool here]), (32, #[.int .i64 v1, .int .i64 v2, .int .i64 v3, .bool v4, .int .i64 v5]), (4, #[.bool v6])] W) :
    Boxes w [(24, #[.int .i64 p0, .int .i64 p1]), (3, #[.int .i64 m']), (4, #[.bool here]), (32, #[.int .i64 v1, .int .i64 v2, .int .i64 v3, .bool v4, .int .i64 v5]), (4, #[.bool v6])] (W.setCell ⟨w.heap.size + 1, 0, none⟩ (.int .i64 m')) := h.set (i := 1) rfl 0 _
theorem tail_res {w W : World} {p0 p1 m v1 v2 v3 v5 : Int} {here v4 v6 : Bool} (u1 u2 u3 : Int) (u4 : Bool) (u5 : Int) (u6 : Bool) (h : Boxes w [(24, #[.int .i64 p0, .int .i64 p1]), (3, #[.int .i64 m]), (4, #[.bool here]), (32, #[.int .i64 v1, .int .i64 v2, .int .i64 v3, .bool v4, .int .i64 v5]), (4, #[.bool v6])] W) :
    Boxes w [(24, #[.int .i64 p0, .int .i64 p1]), (3, #[.int .i64 m]), (4, #[.bool here]), (32, #[.int .i64 u1, .int .i64 u2, .int .i64 u3, .bool u4, .int .i64 u5]), (4, #[.bool u6])] ((((((W.setCell ⟨w.heap.size + 1 + 1 + 1, 0, none⟩ (.int .i64 u1)).setCell ⟨w.heap.size + 1 + 1 + 1, 1, none⟩ (.int .i64 u2)).setCell ⟨w.heap.size + 1 + 1 + 1, 2, none⟩ (.int .i64 u3)).setCell ⟨w.heap.size + 1 + 1 + 1, 3, none⟩ (.bool u4)).setCell ⟨w.heap.size + 1 + 1 + 1, 4, none⟩ (.int .i64 u5)).setCell ⟨w.heap.size + 1 + 1 + 1 + 1, 0, none⟩ (.bool u6)) :=
  (((((h.set (i := 3) rfl 0 _).set (i := 3) rfl 1 _).set (i := 3) rfl 2 _).set (i := 3) rfl 3 _).set (i := 3) rfl 4 _).set (i := 4) rfl 0 _
theorem keepsFrom_res {B : Nat} {W W1 : World} (h : KeepsFrom B W W1) (a1 a2 a3 a4 a5 a6 : Addr) (u1 u2 u3 u4 u5 u6 : Value) :
    KeepsFrom B W ((((((W1.setCell a1 u1).setCell a2 u2).setCell a3 u3).setCell a4 u4).setCell a5 u5).setCell a6 u6) :=
  keepsFrom_set (keepsFrom_set (keepsFrom_set (keepsFrom_set (keepsFrom_set (keepsFrom_set h _ _) _ _) _ _) _ _) _ _) _ _

set_option maxHeartbeats 4000000 in
set_option maxRecDepth 100000 in
theorem tail_walk (A0 : Option Addr) (c0 : Nat) (l0 : List ByteArray) (p0 p1 a2 : Int) (big here : Bool) (r1 r2 r3 : Int) (r4 : Bool) (r5 : Int) (r6 : Bool) (w : World) (hr0 : Kd.C Kd.string w A0 l0.length l0) (hc0 : l0.length ≤ c0)
    (hl : l0.length ≤ 40) (hs : ∀ s ∈ l0, s.size ≤ 1200) (hn1 : 1 ≤ a2) (hn2 : a2 ≤ 9223372036854775807) (hf : words_fails.f l0 p0 p1 a2 = some false) (h : tailGo p0 p1 here a2 (endsL l0 big) = (r1, r2, r3, r4, r5, r6)) :
    Calls Try.prog 16 #[.slice A0 l0.length c0, .agg #[.int .i64 p0, .int .i64 p1], .int .i64 a2, .bool big, .bool here] w fun e w' => e = .returned (.tuple #[.agg #[.int .i64 r1, .int .i64 r2, .int .i64 r3, .bool r4, .int .i64 r5], .bool r6]) ∧ Below w.heap.size w w' := by
  refine (callsIn_wide (n := 8)).1 (callsIn_of_wp_marks Try.func16 rfl trivial ?_ rfl)
  simp only [Try.ntmps16, List.size_toArray, List.length_cons, List.length_nil, Nat.reduceAdd, Nat.reduceSub, Array.replicate_succ, Array.replicate_zero, List.push_toArray, List.append_toArray, List.nil_append, List.cons_append]
  have X0 := ((((((Boxes.nil w).push (by simp) 24 #[.int .i64 p0, .int .i64 p1]).push (by simp) 3 #[.int .i64 a2]).push (by simp) 4 #[.bool here]).push (by simp) 32 #[.int .i64 0, .int .i64 0, .int .i64 0, .bool false, .int .i64 0]).push (by simp) 4 #[.bool false])
  simp only [List.nil_append, List.cons_append] at X0
  gi_wp2_with (first
    | (refine ⟨trivial, ?_⟩; gi_at_call 28; (with_reducible refine (callsIn_wide.2 (words_fails.calls A0 c0 l0 p0 p1 a2 false _ (by repeat (first | exact hr0 | (with_reducible refine Kd.C_alloc ?_ _))) hc0 hf)).mono ?_); rintro e w1 ⟨rfl, hb1⟩)
    | (refine ⟨trivial, ?_⟩; gi_at_call 23; (with_reducible refine (callsIn_wide.2 (ends_calls A0 l0.length c0 big _)).mono ?_); rintro e w2 ⟨rfl, rfl⟩))
  have X1 := X0.below hb1
  have hs1 : w.heap.size + 4 < w1.heap.size := X1.size (i := 4) rfl
  have X2 : Boxes w _ ((((w1.alloc (.cells #[.bool big] 4)).alloc (.cells #[.slice A0 l0.length c0] 22)).alloc (.cells #[.bool false] 4)).alloc (.cells #[.func (.func 42) #[] #[.pointer (some ⟨w1.heap.size, 0, none⟩)]] 61)) := ⟨(((X1.1.alloc X1.1.size _).alloc (by simp; omega) _).alloc (by simp; omega) _).alloc (by simp; omega) _, fun i t cs hi => ((((X1.2 i t cs hi).alloc _).alloc _).alloc _).alloc _⟩
  have Y0 : Blk ((((w1.alloc (.cells #[.bool big] 4)).alloc (.cells #[.slice A0 l0.length c0] 22)).alloc (.cells #[.bool false] 4)).alloc (.cells #[.func (.func 42) #[] #[.pointer (some ⟨w1.heap.size, 0, none⟩)]] 61)) w1.heap.size 4 #[.bool big] := (((Blk.new w1 _ _).alloc _).alloc _).alloc _
  have Y1 : Blk ((((w1.alloc (.cells #[.bool big] 4)).alloc (.cells #[.slice A0 l0.length c0] 22)).alloc (.cells #[.bool false] 4)).alloc (.cells #[.func (.func 42) #[] #[.pointer (some ⟨w1.heap.size, 0, none⟩)]] 61)) (w1.heap.size + 1) 22 #[.slice A0 l0.length c0] := by
    have := ((Blk.new (w1.alloc (.cells #[.bool big] 4)) 22 #[.slice A0 l0.length c0]).alloc (.cells #[.bool false] 4)).alloc (.cells #[.func (.func 42) #[] #[.pointer (some ⟨w1.heap.size, 0, none⟩)]] 61)
    rwa [World.size_alloc] at this
  have Y2 : Blk ((((w1.alloc (.cells #[.bool big] 4)).alloc (.cells #[.slice A0 l0.length c0] 22)).alloc (.cells #[.bool false] 4)).alloc (.cells #[.func (.func 42) #[] #[.pointer (some ⟨w1.heap.size, 0, none⟩)]] 61)) (w1.heap.size + 1 + 1) 4 #[.bool false] := by
    have := (Blk.new ((w1.alloc (.cells #[.bool big] 4)).alloc (.cells #[.slice A0 l0.length c0] 22)) 4 #[.bool false]).alloc (.cells #[.func (.func 42) #[] #[.pointer (some ⟨w1.heap.size, 0, none⟩)]] 61)
    rwa [World.size_alloc, World.size_alloc] at this
  have Y3 : Blk ((((w1.alloc (.cells #[.bool big] 4)).alloc (.cells #[.slice A0 l0.length c0] 22)).alloc (.cells #[.bool false] 4)).alloc (.cells #[.func (.func 42) #[] #[.pointer (some ⟨w1.heap.size, 0, none⟩)]] 61)) (w1.heap.size + 1 + 1 + 1) 61 #[.func (.func 42) #[] #[.pointer (some ⟨w1.heap.size, 0, none⟩)]] := by
    have := Blk.new (((w1.alloc (.cells #[.bool big] 4)).alloc (.cells #[.slice A0 l0.length c0] 22)).alloc (.cells #[.bool false] 4)) 61 #[.func (.func 42) #[] #[.pointer (some ⟨w1.heap.size, 0, none⟩)]]
    rwa [World.size_alloc, World.size_alloc, World.size_alloc] at this
  have Z : ((((w1.alloc (.cells #[.bool big] 4)).alloc (.cells #[.slice A0 l0.length c0] 22)).alloc (.cells #[.bool false] 4)).alloc (.cells #[.func (.func 42) #[] #[.pointer (some ⟨w1.heap.size, 0, none⟩)]] 61)).heap.size = w1.heap.size + 4 := by simp
  obtain ⟨W0, hW0⟩ : ∃ W0, ((((w1.alloc (.cells #[.bool big] 4)).alloc (.cells #[.slice A0 l0.length c0] 22)).alloc (.cells #[.bool false] 4)).alloc (.cells #[.func (.func 42) #[] #[.pointer (some ⟨w1.heap.size, 0, none⟩)]] 61)) = W0 := ⟨_, rfl⟩
  rw [hW0] at X2 Y0 Y1 Y2 Y3 Z ⊢
  clear hW0 X0 X1 hb1
  have e16 : 1 ≤ (8 : Nat) := by omega
  have N1 : w.heap.size + 4 < W0.heap.size := by omega
  refine wpIn_rangeFunc_ownH rfl e16 (gf := 46) (lb := #[.pointer (some ⟨w1.heap.size + 1, 0, none⟩), .pointer (some ⟨w1.heap.size + 1 + 1, 0, none⟩), .pointer (some ⟨w1.heap.size + 1 + 1 + 1, 0, none⟩)]) rfl trivial (enters_of Try.func46 (by kernel_rfl) rfl)
    (ends_stops 7 (by omega) w W0 A0 c0 l0 hl hs big w1.heap.size hr0 X2.1 Y0 Y1 Y2 Y3) keepB_t (keepB_b (by omega) (by omega)) (Below.refl _ _) (fun _ => rfl)
    (fun pre W => ∃ m : Int, Boxes w [(24, #[.int .i64 p0, .int .i64 p1]), (3, #[.int .i64 m]), (4, #[.bool here]), (32, #[.int .i64 0, .int .i64 0, .int .i64 0, .bool false, .int .i64 0]), (4, #[.bool false])] W ∧ W0.heap.size ≤ W.heap.size ∧ 1 ≤ m ∧ m ≤ a2 ∧
      ∀ rest, tailGo p0 p1 here a2 (pre.map Subtype.val ++ rest) = tailGo p0 p1 here m rest)
    (fun c pre W => ∃ m v1 v2 v3 v4 v5 v6, c = .ret ∧ Boxes w [(24, #[.int .i64 p0, .int .i64 p1]), (3, #[.int .i64 m]), (4, #[.bool here]), (32, #[.int .i64 v1, .int .i64 v2, .int .i64 v3, .bool v4, .int .i64 v5]), (4, #[.bool v6])] W ∧
      ∀ rest, tailGo p0 p1 here a2 (pre.map Subtype.val ++ rest) = (v1, v2, v3, v4, v5, v6))
    (fun pre W W' row ⟨m, h1, h2, h3⟩ hg hr => ⟨m, h1.grown (by omega) hg hr, Nat.le_trans h2 hg.size, h3⟩)
    (fun c pre W W' row ⟨m, v1, v2, v3, v4, v5, v6, h0, h1, h2⟩ hg hr => ⟨m, v1, v2, v3, v4, v5, v6, h0, h1.grown (by omega) hg hr, h2⟩)
    ⟨a2, X2, Nat.le_refl _, hn1, Int.le_refl _, fun rest => rfl⟩
    (fun x a' W => ∃ Bx, w.heap.size + 4 < Bx ∧ Blk W Bx 24 #[.int .i64 x.1.f0, .int .i64 x.1.f1] ∧ a' = { tmps := #[.slice A0 l0.length c0, .agg #[.int .i64 p0, .int .i64 p1], .int .i64 a2, .bool big, .bool here, undef, .pointer (some ⟨w.heap.size, 0, none⟩), .pointer (some ⟨w.heap.size + 1, 0, none⟩), undef, .pointer (some ⟨w.heap.size + 1 + 1, 0, none⟩), .pointer (some ⟨w.heap.size + 1 + 1 + 1, 0, none⟩), .pointer (some ⟨w.heap.size + 1 + 1 + 1 + 1, 0, none⟩), .pointer (some ⟨Bx, 0, none⟩), .slice A0 l0.length c0, .agg #[.int .i64 p0, .int .i64 p1], .int .i64 a2, .bool false, undef, .slice A0 l0.length c0, .bool big, .func (.func 46) #[] #[.pointer (some ⟨w1.heap.size + 1, 0, none⟩), .pointer (some ⟨w1.heap.size + 1 + 1, 0, none⟩), .pointer (some ⟨w1.heap.size + 1 + 1 + 1, 0, none⟩)], .agg #[.int .i64 x.1.f0, .int .i64 x.1.f1], undef, undef, undef, undef, undef, undef, undef, undef, undef, undef, undef, undef, undef, undef, undef, undef, undef, undef, undef], defers := [] })
    (fun x a' _ X Y row hs hg hr => by obtain ⟨Bx, h1, h2, h3⟩ := hs; exact ⟨Bx, h1, Blk.own (β := Unit) Bx 24 (fun _ => #[.int .i64 x.1.f0, .int .i64 x.1.f1]) () X Y row h2 hg (fun r e => (hr r e).2), h3⟩)
    ?assign ?body ?done ?stop
  case assign =>
    rintro l pre ⟨x, hx⟩ W K ⟨m, hB, hsz, hm⟩ hK
    dsimp only [posV]
    gi_wp2
    have BA : Below W.heap.size W (W.alloc (.cells #[.int .i64 x.f0, .int .i64 x.f1] 24)) := (Below.refl _ W).alloc (Nat.le_refl _) _
    exact hK _ _ (keepsFrom_below BA) (keepB_of (by omega) (by omega) BA) ⟨m, hB.below BA, by simp; omega, hm⟩ ⟨W.heap.size, by omega, Blk.new _ _ _, rfl⟩
  case body =>
    rintro l pre ⟨x, hx⟩ a' W hl ⟨r, hr⟩ ⟨m, hB, hsz, hm1, hm2, hgo⟩ ⟨Bx, hBx, bX, rfl⟩ hlt
    dsimp only at bX
    have d1 : 1 ≤ 8 - 1 - 1 := by omega
    have cx0 : W.cell? ⟨Bx, 0, none⟩ = some (.int .i64 x.f0) := (blk_cell bX 0).trans rfl
    have cx1 : W.cell? ⟨Bx, 1, none⟩ = some (.int .i64 x.f1) := (blk_cell bX 1).trans rfl
    have cp0 : W.cell? ⟨w.heap.size, 0, none⟩ = some (.int .i64 p0) := (blk_cell (hB.2 0 _ _ rfl) 0).trans rfl
    have cp1 : W.cell? ⟨w.heap.size, 1, none⟩ = some (.int .i64 p1) := (blk_cell (hB.2 0 _ _ rfl) 1).trans rfl
    obtain ⟨b, hbv⟩ : ∃ b, ltB x.f0 x.f1 p0 p1 = b := ⟨_, rfl⟩
    have HL := Aside0.mk (show span_Less.f x.f0 x.f1 p0 p1 = some b by rw [less_eq, hbv])
    have HBX := Aside0.mk bX
    have HBB := Aside0.mk hB
    have HV := Aside0.mk hbv
    clear hbv
    cases b with
    | true =>
      gi_wp2_with (refine ⟨trivial, ?_⟩; gi_at_call 29; (with_reducible refine (CallsIn.inRound l (callsIn_wide.2 (span_Less.calls x.f0 x.f1 p0 p1 _ _ HL.out))).mono ?_); rintro e w3 ⟨rfl, hb3⟩)

      refine ⟨keepsFrom_below hb3, keepB_of (by omega) (by omega) hb3, m, hB.below hb3, Nat.le_trans hsz hb3.size, hm1, hm2, fun rest => ?_⟩
      rw [List.map_append, List.append_assoc, hgo]
      show tailGo p0 p1 here m (x :: rest) = _
      rw [tailGo, if_pos (by unfold skipB; rw [HV.out]; rfl)]
    | false =>
      have nB : Bx ≠ w.heap.size + 1 := by omega
      gi_wp2_with (refine ⟨trivial, ?_⟩; gi_at_call 29; (with_reducible refine (CallsIn.inRound l (callsIn_wide.2 (span_Less.calls x.f0 x.f1 p0 p1 _ _ HL.out))).mono ?_); rintro e w3 ⟨rfl, hb3⟩; have cy0 : w3.cell? ⟨Bx, 0, none⟩ = some (.int .i64 x.f0) := (blk_cell (HBX.out.below hb3) 0).trans rfl; have cy1 : w3.cell? ⟨Bx, 1, none⟩ = some (.int .i64 x.f1) := (blk_cell (HBX.out.below hb3) 1).trans rfl; obtain ⟨k0, k1, k2, k3, k4, k5, k6, k7, k8, k9, k10, k11, k12, k13, k14, k15, k16⟩ := tail_facts (HBB.out.below hb3))
      all_goals have X := HBB.out.below hb3
      all_goals have M : ∀ rest, (List.map Subtype.val (pre ++ [(⟨x, hx⟩ : {x : S24 // x ∈ endsL l0 big})])) ++ rest = List.map Subtype.val pre ++ (x :: rest) := fun rest => by simp
      · refine ⟨keepsFrom_below hb3, keepB_of (by omega) (by omega) hb3, m, X, Nat.le_trans hsz hb3.size, hm1, hm2, fun rest => ?_⟩
        rename_i e0 e1 e2
        rw [M, hgo, tailGo, if_pos (by unfold skipB; rw [HV.out, e2, e0, e1]; simp)]
      · rename_i e0 e1 e2 hm
        refine ⟨keepsFrom_res (keepsFrom_set (keepsFrom_below hb3) _ _) _ _ _ _ _ _ _ _ _ _ _ _, m - 1, _, _, 1, false, -1, true, rfl, tail_res _ _ _ _ _ _ (tail_cont _ X), fun rest => ?_⟩
        rw [M, hgo, tailGo, if_neg (by unfold skipB; rw [HV.out]; simp [e2, e0, e1]), if_pos (eq_of_beq hm), e0, e1]
      · rename_i e0 e1 e2 hm
        have hm' := beq_eq_false_iff_ne.mp hm
        refine ⟨keepsFrom_set (keepsFrom_below hb3) _ _, keepB_set (keepB_of (by omega) (by omega) hb3) (by omega) (by omega) _, m - 1, tail_cont _ X, by simp; exact Nat.le_trans hsz hb3.size, by omega, by omega, fun rest => ?_⟩
        rw [M, hgo, tailGo, if_neg (by unfold skipB; rw [HV.out]; simp [e2, e0, e1]), if_neg hm']
      · rename_i e0 e1 hm
        refine ⟨keepsFrom_res (keepsFrom_set (keepsFrom_below hb3) _ _) _ _ _ _ _ _ _ _ _ _ _ _, m - 1, _, _, 1, false, -1, true, rfl, tail_res _ _ _ _ _ _ (tail_cont _ X), fun rest => ?_⟩
        rw [M, hgo, tailGo, if_neg (by unfold skipB; rw [HV.out]; simp [e0, e1]), if_pos (eq_of_beq hm), e0]
      · rename_i e0 e1 hm
        have hm' := beq_eq_false_iff_ne.mp hm
        refine ⟨keepsFrom_set (keepsFrom_below hb3) _ _, keepB_set (keepB_of (by omega) (by omega) hb3) (by omega) (by omega) _, m - 1, tail_cont _ X, by simp; exact Nat.le_trans hsz hb3.size, by omega, by omega, fun rest => ?_⟩
        rw [M, hgo, tailGo, if_neg (by unfold skipB; rw [HV.out]; simp [e0, e1]), if_neg hm']
      · rename_i e0 hm
        refine ⟨keepsFrom_res (keepsFrom_set (keepsFrom_below hb3) _ _) _ _ _ _ _ _ _ _ _ _ _ _, m - 1, _, _, 1, false, -1, true, rfl, tail_res _ _ _ _ _ _ (tail_cont _ X), fun rest => ?_⟩
        rw [M, hgo, tailGo, if_neg (by unfold skipB; rw [HV.out]; simp [e0]), if_pos (eq_of_beq hm)]
      · rename_i e0 hm
        have hm' := beq_eq_false_iff_ne.mp hm
        refine ⟨keepsFrom_set (keepsFrom_below hb3) _ _, keepB_set (keepB_of (by omega) (by omega) hb3) (by omega) (by omega) _, m - 1, tail_cont _ X, by simp; exact Nat.le_trans hsz hb3.size, by omega, by omega, fun rest => ?_⟩
        rw [M, hgo, tailGo, if_neg (by unfold skipB; rw [HV.out]; simp [e0]), if_neg hm']
  case done =>
    rintro D ys W hD hys ⟨m, hB, hsz, hm1, hm2, hgo⟩ hK
    have hg := hgo []
    rw [hys, List.append_nil, h, tailGo] at hg
    injection hg with g1 hg; injection hg with g2 hg; injection hg with g3 hg; injection hg with g4 hg; injection hg with g5 g6
    subst g1 g2 g3 g4 g5 g6
    obtain ⟨k0, k1, k2, k3, k4, k5, k6, k7, k8, k9, k10, k11, k12, k13, k14, k15, k16⟩ := tail_facts hB
    have HBB := Aside0.mk hB
    clear hB
    gi_wp2
    have HR := tail_res 0 0 0 false 0 false HBB.out
    have hK' : (((((((W.setCell ⟨w.heap.size + 1 + 1 + 1, 0, none⟩ (.int .i64 0)).setCell ⟨w.heap.size + 1 + 1 + 1, 1, none⟩ (.int .i64 0)).setCell ⟨w.heap.size + 1 + 1 + 1, 2, none⟩ (.int .i64 0)).setCell ⟨w.heap.size + 1 + 1 + 1, 3, none⟩ (.bool false)).setCell ⟨w.heap.size + 1 + 1 + 1, 4, none⟩ (.int .i64 0)).setCell ⟨w.heap.size + 1 + 1 + 1 + 1, 0, none⟩ (.bool false))).heap[D]? = some (.deferred (some [])) := by
      rw [Below.heap_setCell _ _ _ _ (by show D ≠ w.heap.size + 1 + 1 + 1 + 1; omega), Below.heap_setCell _ _ _ _ (by show D ≠ w.heap.size + 1 + 1 + 1; omega), Below.heap_setCell _ _ _ _ (by show D ≠ w.heap.size + 1 + 1 + 1; omega), Below.heap_setCell _ _ _ _ (by show D ≠ w.heap.size + 1 + 1 + 1; omega), Below.heap_setCell _ _ _ _ (by show D ≠ w.heap.size + 1 + 1 + 1; omega), Below.heap_setCell _ _ _ _ (by show D ≠ w.heap.size + 1 + 1 + 1; omega)]
      exact hK
    refine ⟨by simp, .inl ⟨_, _, rfl, run_takeDeferred hK', ?_⟩⟩
    have HE := HR.grown (B := W0.heap.size) (by omega) (grownBy_putObj' _ D (.deferred none)) (fun r e => by cases e; exact ⟨hD, _, hK', rfl⟩)
    obtain ⟨j0, j1, j2, j3, j4, j5, j6, j7, j8, j9, j10, j11, j12, j13, j14, j15, j16⟩ := tail_facts HE
    refine ⟨_, ?_, rfl, HE.1⟩
    simp [results, Try.f16, go_sem, j4, j5, j6, j7, j8, j9]
  case stop =>
    rintro D c pre W hD hp ⟨m, v1, v2, v3, v4, v5, v6, rfl, hB, hgo⟩ hK
    obtain ⟨rest, hr⟩ := hp
    have hg := hgo rest
    rw [hr, h] at hg
    injection hg with g1 hg; injection hg with g2 hg; injection hg with g3 hg; injection hg with g4 hg; injection hg with g5 g6
    subst g1 g2 g3 g4 g5 g6
    gi_wp2
    refine ⟨by simp, .inl ⟨_, _, rfl, run_takeDeferred hK, ?_⟩⟩
    have HE := hB.grown (B := W0.heap.size) (by omega) (grownBy_putObj' _ D (.deferred none)) (fun r e => by cases e; exact ⟨hD, _, hK, rfl⟩)
    obtain ⟨j0, j1, j2, j3, j4, j5, j6, j7, j8, j9, j10, j11, j12, j13, j14, j15, j16⟩ := tail_facts HE
    refine ⟨_, ?_, rfl, HE.1⟩
    simp [results, Try.f16, go_sem, j4, j5, j6, j7, j8, j9]

set_option maxHeartbeats 4000000 in
set_option maxRecDepth 100000 in
theorem tail_fail (A0 : Option Addr) (c0 : Nat) (l0 : List ByteArray) (p0 p1 a2 : Int) (big here : Bool) (w : World) (hr0 : Kd.C Kd.string w A0 l0.length l0) (hc0 : l0.length ≤ c0) (hf : words_fails.f l0 p0 p1 a2 = some true) :
    Calls Try.prog 16 #[.slice A0 l0.length c0, .agg #[.int .i64 p0, .int .i64 p1], .int .i64 a2, .bool big, .bool here] w fun e w' => e = .returned (.tuple #[.agg #[.int .i64 0, .int .i64 0, .int .i64 0, .bool false, .int .i64 0], .bool false]) ∧ Below w.heap.size w w' := by
  refine (callsIn_wide (n := 3)).1 (callsIn_of_wp Try.func16 rfl trivial ?_ rfl)
  simp only [Try.ntmps16, List.size_toArray, List.length_cons, List.length_nil, Nat.reduceAdd, Nat.reduceSub, Array.replicate_succ, Array.replicate_zero, List.push_toArray, List.append_toArray, List.nil_append, List.cons_append]
  have X0 := ((((((Boxes.nil w).push (by simp) 24 #[.int .i64 p0, .int .i64 p1]).push (by simp) 3 #[.int .i64 a2]).push (by simp) 4 #[.bool here]).push (by simp) 32 #[.int .i64 0, .int .i64 0, .int .i64 0, .bool false, .int .i64 0]).push (by simp) 4 #[.bool false])
  simp only [List.nil_append, List.cons_append] at X0
  gi_wp2_with (refine ⟨trivial, ?_⟩; gi_at_call 28; (with_reducible refine (callsIn_wide.2 (words_fails.calls A0 c0 l0 p0 p1 a2 true _ (by repeat (first | exact hr0 | (with_reducible refine Kd.C_alloc ?_ _))) hc0 hf)).mono ?_); rintro e w1 ⟨rfl, hb1⟩; obtain ⟨k0, k1, k2, k3, k4, k5, k6, k7, k8, k9, k10, k11, k12, k13, k14, k15, k16⟩ := tail_facts (X0.below hb1))
  have HE := tail_res 0 0 0 false 0 false (X0.below hb1)
  obtain ⟨j0, j1, j2, j3, j4, j5, j6, j7, j8, j9, j10, j11, j12, j13, j14, j15, j16⟩ := tail_facts HE
  refine ⟨rfl, _, ?_, rfl, HE.1⟩
  simp [results, Try.f16, go_sem, j4, j5, j6, j7, j8, j9]

end Go.Proofs.Ytifkfjpkngdhmaa.Pure
namespace Go.Proofs.Ytifkfjpkngdhmaa.V
open Go.RowKit Go.Shelf Go.Proofs.Ytifkfjpkngdhmaa.Pure Go.Proofs.YtifkfjpkngdhmaaW.PrintWords Go.Proofs.YtifkfjpkngdhmaaW.PrintLast Go.Proofs.YtifkfjpkngdhmaaW.PrintMore
set_option linter.unusedVariables false
/-- what words.Tail answers, where the text is light and the count a machine's. -/
def words_Tail.f (l0 : List ByteArray) (a1_0 a1_1 a2 : Int) (a3 : Bool) (a4 : Bool) : Option (Int × Int × Int × Bool × Int × Bool) :=
  (words_fails.f l0 a1_0 a1_1 a2).bind fun t => if t = true then some (0, 0, 0, false, 0, false) else
    if l0.length ≤ 40 ∧ (∀ s ∈ l0, s.size ≤ 1200) ∧ 1 ≤ a2 ∧ a2 ≤ 9223372036854775807 then some (tailGo a1_0 a1_1 a4 a2 (endsL l0 a3)) else none
theorem words_Tail.calls (A0 : Option Addr) (c0 : Nat) (l0 : List ByteArray) (a1_0 a1_1 a2 : Int) (a3 : Bool) (a4 : Bool) (r1 r2 r3 : Int) (r4 : Bool) (r5 : Int) (r6 : Bool) (w : World) (hr0 : Kd.C Kd.string w A0 l0.length l0) (hc0 : l0.length ≤ c0) (h : words_Tail.f l0 a1_0 a1_1 a2 a3 a4 = some (r1, r2, r3, r4, r5, r6)) :
    Calls Try.prog 16 #[.slice A0 l0.length c0, .agg #[.int .i64 a1_0, .int .i64 a1_1], .int .i64 a2, .bool a3, .bool a4] w fun e w' => e = .returned (.tuple #[.agg #[.int .i64 r1, .int .i64 r2, .int .i64 r3, .bool r4, .int .i64 r5], .bool r6]) ∧ Below w.heap.size w w' := by
  unfold words_Tail.f at h
  cases hf : words_fails.f l0 a1_0 a1_1 a2 with
  | none => rw [hf] at h; cases h
  | some t =>
    rw [hf] at h
    have h : (if t = true then some (0, 0, 0, false, 0, false) else if l0.length ≤ 40 ∧ (∀ s ∈ l0, s.size ≤ 1200) ∧ 1 ≤ a2 ∧ a2 ≤ 9223372036854775807 then some (tailGo a1_0 a1_1 a4 a2 (endsL l0 a3)) else none) = some (r1, r2, r3, r4, r5, r6) := h
    cases t with
    | true =>
      rw [if_pos rfl] at h
      injection h with h
      injection h with g1 h; injection h with g2 h; injection h with g3 h; injection h with g4 h; injection h with g5 g6
      subst g1 g2 g3 g4 g5 g6
      exact tail_fail A0 c0 l0 a1_0 a1_1 a2 a3 a4 w hr0 hc0 hf
    | false =>
      rw [if_neg (by simp)] at h
      by_cases hb : l0.length ≤ 40 ∧ (∀ s ∈ l0, s.size ≤ 1200) ∧ 1 ≤ a2 ∧ a2 ≤ 9223372036854775807
      · rw [if_pos hb] at h
        obtain ⟨h1, h2, h3, h4⟩ := hb
        exact tail_walk A0 c0 l0 a1_0 a1_1 a2 a3 a4 r1 r2 r3 r4 r5 r6 w hr0 hc0 h1 h2 h3 h4 hf (by injection h)
      · rw [if_neg hb] at h; cases h
end Go.Proofs.Ytifkfjpkngdhmaa.V
namespace Go.Proofs.Ytifkfjpkngdhmaa.V
open Go.RowKit Go.Proofs.YtifkfjpkngdhmaaW.PrintWords Go.Proofs.YtifkfjpkngdhmaaW.PrintLast Go.Proofs.YtifkfjpkngdhmaaW.PrintMore
attribute [local go_sem] max2_int min2_int max_two min_two max_three min_three max_four min_four   -- for this text's walks alone
set_option linter.unusedVariables false
set_option linter.unusedSimpArgs false

/-! ### foolscaplaw8_known: function 8 -/
def foolscaplaw8_known.f  : Option (Bool) := (some (([(⟨#[97, 98, 32, 32, 99, 100]⟩ : ByteArray)] : List ByteArray) : List ByteArray)).bind fun y112 => ((words_Next.f y112 0 0 1 false false).bind fun bt115 => ((words_Tail.f y112 0 0 2 false false).bind fun bt122 => ((words_Back.f y112 0 0 1 false).bind fun bt129 => ((words_Next.f y112 0 4 1 false true).bind fun bt136 => (if bt115.2.2.2.2.2 = true then (if bt115.2.1 = 4 then (if bt122.2.2.2.2.2 = true then (if bt122.2.1 = 5 then (if bt122.2.2.1 = 1 then (if bt129.2.2.2.2.2 = true then (some false) else (if bt136.2.2.2.2.2 = true then (some (bt136.2.1 == 6)) else (some false))) else (some false)) else (some false)) else (some false)) else (some false)) else (some false))))))
set_option maxHeartbeats 8000000 in
set_option maxRecDepth 100000 in
theorem foolscaplaw8_known.calls  (r : Bool) (w : World) (h : foolscaplaw8_known.f  = some r) (hrT : r = true) :
    Calls Try.prog 8 #[] w fun e w' => e = .returned (.bool r) ∧ Below w.heap.size w w' := by
  have HT := Aside0.mk hrT
  clear hrT
  have hu24 := Try.underlying24
  have hu32 := Try.underlying32
  have HB := Aside0.mk (Below.refl w.heap.size w)
  have H : ((some (([(⟨#[97, 98, 32, 32, 99, 100]⟩ : ByteArray)] : List ByteArray) : List ByteArray)).bind fun y112 => ((words_Next.f y112 0 0 1 false false).bind fun bt115 => ((words_Tail.f y112 0 0 2 false false).bind fun bt122 => ((words_Back.f y112 0 0 1 false).bind fun bt129 => ((words_Next.f y112 0 4 1 false true).bind fun bt136 => (if bt115.2.2.2.2.2 = true then (if bt115.2.1 = 4 then (if bt122.2.2.2.2.2 = true then (if bt122.2.1 = 5 then (if bt122.2.2.1 = 1 then (if bt129.2.2.2.2.2 = true then (some false) else (if bt136.2.2.2.2.2 = true then (some (bt136.2.1 == 6)) else (some false))) else (some false)) else (some false)) else (some false)) else (some false)) else (some false))))))) = some r := h
  clear h
  obtain ⟨y112, hy112⟩ : ∃ y_ : List ByteArray, y_ = (([(⟨#[97, 98, 32, 32, 99, 100]⟩ : ByteArray)] : List ByteArray)) := ⟨_, rfl⟩
  replace H : ((words_Next.f y112 0 0 1 false false).bind fun bt115 => ((words_Tail.f y112 0 0 2 false false).bind fun bt122 => ((words_Back.f y112 0 0 1 false).bind fun bt129 => ((words_Next.f y112 0 4 1 false true).bind fun bt136 => (if bt115.2.2.2.2.2 = true then (if bt115.2.1 = 4 then (if bt122.2.2.2.2.2 = true then (if bt122.2.1 = 5 then (if bt122.2.2.1 = 1 then (if bt129.2.2.2.2.2 = true then (some false) else (if bt136.2.2.2.2.2 = true then (some (bt136.2.1 == 6)) else (some false))) else (some false)) else (some false)) else (some false)) else (some false)) else (some false)))))) = some r := by first | (rw [hy112]; with_reducible exact H) | (have H2_ := (Option.bind_some _ _).symm.trans H; rw [hy112]; with_reducible exact H2_) | (have H2_ := (Option.bind_some _ _).symm.trans H; with_reducible exact H2_) | with_reducible exact H | (rw [hy112]; exact H) | exact H
  have Ny112 := Aside0.mk hy112
  clear hy112
  replace H := Option.bind_eq_some_iff.mp H
  obtain ⟨⟨t115, t116, t117, t118, t119, t120⟩, A10, H⟩ := H
  replace H : ((words_Tail.f y112 0 0 2 false false).bind fun bt122 => ((words_Back.f y112 0 0 1 false).bind fun bt129 => ((words_Next.f y112 0 4 1 false true).bind fun bt136 => (if t120 = true then (if t116 = 4 then (if bt122.2.2.2.2.2 = true then (if bt122.2.1 = 5 then (if bt122.2.2.1 = 1 then (if bt129.2.2.2.2.2 = true then (some false) else (if bt136.2.2.2.2.2 = true then (some (bt136.2.1 == 6)) else (some false))) else (some false)) else (some false)) else (some false)) else (some false)) else (some false))))) = some r := H
  have A1 := Aside0.mk A10
  clear A10
  replace H := Option.bind_eq_some_iff.mp H
  obtain ⟨⟨t122, t123, t124, t125, t126, t127⟩, A20, H⟩ := H
  replace H : ((words_Back.f y112 0 0 1 false).bind fun bt129 => ((words_Next.f y112 0 4 1 false true).bind fun bt136 => (if t120 = true then (if t116 = 4 then (if t127 = true then (if t123 = 5 then (if t124 = 1 then (if bt129.2.2.2.2.2 = true then (some false) else (if bt136.2.2.2.2.2 = true then (some (bt136.2.1 == 6)) else (some false))) else (some false)) else (some false)) else (some false)) else (some false)) else (some false)))) = some r := H
  have A2 := Aside0.mk A20
  clear A20
  replace H := Option.bind_eq_some_iff.mp H
  obtain ⟨⟨t129, t130, t131, t132, t133, t134⟩, A30, H⟩ := H
  replace H : ((words_Next.f y112 0 4 1 false true).bind fun bt136 => (if t120 = true then (if t116 = 4 then (if t127 = true then (if t123 = 5 then (if t124 = 1 then (if t134 = true then (some false) else (if bt136.2.2.2.2.2 = true then (some (bt136.2.1 == 6)) else (some false))) else (some false)) else (some false)) else (some false)) else (some false)) else (some false))) = some r := H
  have A3 := Aside0.mk A30
  clear A30
  replace H := Option.bind_eq_some_iff.mp H
  obtain ⟨⟨t136, t137, t138, t139, t140, t141⟩, A40, H⟩ := H
  replace H : (if t120 = true then (if t116 = 4 then (if t127 = true then (if t123 = 5 then (if t124 = 1 then (if t134 = true then (some false) else (if t141 = true then (some (t137 == 6)) else (some false))) else (some false)) else (some false)) else (some false)) else (some false)) else (some false)) = some r := H
  have A4 := Aside0.mk A40
  clear A40
  by_cases c5 : t120 = true
  · subst c5
    have H1 : (if t116 = 4 then (if t127 = true then (if t123 = 5 then (if t124 = 1 then (if t134 = true then (some false) else (if t141 = true then (some (t137 == 6)) else (some false))) else (some false)) else (some false)) else (some false)) else (some false)) = some r := by rw [if_pos rfl] at H; exact H
    clear H
    have H := H1
    clear H1
    by_cases c6 : t116 = 4
    · rw [if_pos c6] at H
      have c6b0 : (t116 == 4) = true := beq_iff_eq.mpr c6
      have c6b1 : (t116 != 4) = false := bne_eq_false_iff_eq.mpr c6
      clear c6
      by_cases c7 : t127 = true
      · subst c7
        have H1 : (if t123 = 5 then (if t124 = 1 then (if t134 = true then (some false) else (if t141 = true then (some (t137 == 6)) else (some false))) else (some false)) else (some false)) = some r := by rw [if_pos rfl] at H; exact H
        clear H
        have H := H1
        clear H1
        by_cases c8 : t123 = 5
        · rw [if_pos c8] at H
          have c8b0 : (t123 == 5) = true := beq_iff_eq.mpr c8
          have c8b1 : (t123 != 5) = false := bne_eq_false_iff_eq.mpr c8
          clear c8
          by_cases c9 : t124 = 1
          · rw [if_pos c9] at H
            have c9b0 : (t124 == 1) = true := beq_iff_eq.mpr c9
            have c9b1 : (t124 != 1) = false := bne_eq_false_iff_eq.mpr c9
            clear c9
            by_cases c10 : t134 = true
            · subst c10
              have H1 : (some false) = some r := by rw [if_pos rfl] at H; exact H
              clear H
              have H := H1
              clear H1
              exact absurd ((Option.some.inj H).trans HT.out) (by decide)
            · replace c10 := Bool.eq_false_iff.mpr c10
              subst c10
              have H1 : (if t141 = true then (some (t137 == 6)) else (some false)) = some r := by rw [if_neg (show ¬ (false = true) by decide)] at H; exact H
              clear H
              have H := H1
              clear H1
              by_cases c34 : t141 = true
              · subst c34
                have H1 : (some (t137 == 6)) = some r := by rw [if_pos rfl] at H; exact H
                clear H
                have H := H1
                clear H1
                obtain rfl := Option.some.inj H
                go_enter Try.func8, Try.ntmps8
                go_wp2_with (first | ((with_reducible refine gate_dst (N := 10) rfl ?_); refine Kd.R_lit Kd.string _ 9 ?hg (N := 10) ?hd (xs := ([(⟨#[97, 98, 32, 32, 99, 100]⟩ : ByteArray)] : List ByteArray)) (inner := [.string (⟨#[97, 98, 32, 32, 99, 100]⟩ : ByteArray)]) (ok := fun _ => True) (okp := fun _ => True) ?hr ?hp (fun _ hk => hk) trivial (Below.refl _ _) (Nat.le_refl _) (by simp) ?_; (case hd => rfl); (case hg => rfl); (case hr => first | (go_simp; done) | (go_simp; rfl)); (case hp => exact (Reps.one (show Kd.M Kd.string _ _ _ (⟨#[97, 98, 32, 32, 99, 100]⟩ : ByteArray) [.string (⟨#[97, 98, 32, 32, 99, 100]⟩ : ByteArray)] from rfl) (Reps.none _ _))); intro v113 w35 ho36 hb hg_ hnew_; clear hg_ hnew_; (first | rw [← Ny112.out] at ho36 | (simp only [Int.reduceToNat] at ho36; rw [← Ny112.out] at ho36)); have n0_ := Aside0.mk (Kd.R_lower ho36 (below_size (by repeat (first | (with_reducible first | exact HB.out | apply below_alloc | apply pw_below_drewN | apply below_drew1) | exact HB.out)))); have n1_ := Aside0.mk (below_step (by repeat (first | (with_reducible first | exact HB.out | apply below_alloc | apply pw_below_drewN | apply below_drew1) | exact HB.out)) hb); clear HB; have HO114 := n0_; have HB := n1_; clear n0_ n1_; clear hb ho36; obtain ⟨Ao37, co37, eo37⟩ := Kd.R_slice HO114.out; subst eo37) | ((with_reducible refine gate_callee (f := 11) rfl ?_); refine goesL_ (some 14) rfl rfl Try.func11 (by kernel_rfl) rfl #[.slice Ao37 y112.length co37, .agg #[.int .i64 0, .int .i64 0], .int .i64 1, .bool false, .bool false] rfl (by (try simp only [List.map_toArray, List.map_cons, List.map_nil]); first | done | rfl | (simp only [List.length_drop, List.length_take]; rfl)) ?_; (with_reducible refine (words_Next.calls _ _ y112 0 0 1 false false t115 t116 t117 t118 t119 true _ ?side1 ?side2 A1.out).mono ?_); (case side1 => repeat (first | exact (Kd.R_reads' HO114.out).2.2 | (with_reducible refine Kd.C_alloc ?_ _) | (with_reducible refine Kd.C_drewN ?_ _) | (with_reducible refine Kd.C_drew ?_))); (case side2 => exact (Kd.R_reads' HO114.out).2.1); rintro e w38 ⟨rfl, hb⟩; refine ⟨_, rfl, ?_⟩; have n0_ := Aside0.mk (Kd.R_below (by (with_reducible repeat (first | apply Kd.R_alloc | apply Kd.R_drewN | apply Kd.R_drew)); exact HO114.out) hb); have n1_ := Aside0.mk (below_step (by repeat (first | (with_reducible first | exact HB.out | apply below_alloc | apply pw_below_drewN | apply below_drew1) | exact HB.out)) hb); clear HO114; clear HB; have HO114 := n0_; have HB := n1_; clear n0_ n1_; (try clear hb); (try clear hb2); (try clear hk); (try clear hi)) | ((with_reducible refine gate_dst (N := 2) rfl ?_); refine box_event ?hg (N := 2) ?hd (cs := #[.int .i64 0, .int .i64 0, .int .i64 0, .bool false, .int .i64 0]) (t := 32) ?hr ?_; (case hd => rfl); (case hg => rfl); (case hr => first | (go_simp; done) | (go_simp; rfl)); intro gb121 hg w39 hbox hb; have n0_ := Aside0.mk (Kd.R_below (by (with_reducible repeat (first | apply Kd.R_alloc | apply Kd.R_drewN | apply Kd.R_drew)); exact HO114.out) hb); have n1_ := Aside0.mk (below_step (by repeat (first | (with_reducible first | exact HB.out | apply below_alloc | apply pw_below_drewN | apply below_drew1) | exact HB.out)) hb); have n2_ := Aside0.mk (hbox); have n3_ := Aside0.mk ((by rw [hg]; exact (below_size (by repeat (first | (with_reducible first | exact HB.out | apply below_alloc | apply pw_below_drewN | apply below_drew1) | exact HB.out))) : w.heap.size ≤ gb121)); have n4_ := Aside0.mk ((by rw [hg]; exact (below_size (by repeat (first | (with_reducible first | exact HB.out | apply below_alloc | apply pw_below_drewN | apply below_drew1) | exact HB.out))) : w.heap.size ≤ gb121)); clear HO114; clear HB; have HO114 := n0_; have HB := n1_; have BK121 := n2_; have GW121 := n3_; have GE121 := n4_; clear n0_ n1_ n2_ n3_ n4_; clear hb hbox hg; have hcz40_0 : w39.cell? ⟨gb121, 0, none⟩ = some (.int .i64 0) := (blk_cell BK121.out 0).trans rfl; have hcz40_1 : w39.cell? ⟨gb121, 1, none⟩ = some (.int .i64 0) := (blk_cell BK121.out 1).trans rfl; have hcz40_2 : w39.cell? ⟨gb121, 2, none⟩ = some (.int .i64 0) := (blk_cell BK121.out 2).trans rfl; have hcz40_3 : w39.cell? ⟨gb121, 3, none⟩ = some (.bool false) := (blk_cell BK121.out 3).trans rfl; have hcz40_4 : w39.cell? ⟨gb121, 4, none⟩ = some (.int .i64 0) := (blk_cell BK121.out 4).trans rfl; have hfz40_0 := blk_frozen BK121.out 0; have hfz40_1 := blk_frozen BK121.out 1; have hfz40_2 := blk_frozen BK121.out 2; have hfz40_3 := blk_frozen BK121.out 3; have hfz40_4 := blk_frozen BK121.out 4) | ((with_reducible refine gate_callee (f := 16) rfl ?_); refine goesL_ (some 20) rfl rfl Try.func16 (by kernel_rfl) rfl #[.slice Ao37 y112.length co37, .agg #[.int .i64 0, .int .i64 0], .int .i64 2, .bool false, .bool false] rfl (by (try simp only [List.map_toArray, List.map_cons, List.map_nil]); first | done | rfl | (simp only [List.length_drop, List.length_take]; rfl)) ?_; (with_reducible refine (words_Tail.calls _ _ y112 0 0 2 false false t122 t123 t124 t125 t126 true _ ?side1 ?side2 A2.out).mono ?_); (case side1 => refine (Kd.R_reads' (e := 9) (base := w.heap.size) (ok := fun k_ => True) (n := y112.length) (c := co37) ?_).2.2; exact (by (with_reducible repeat (first | apply Kd.R_alloc | apply Kd.R_drewN | apply Kd.R_drew)); exact (Kd.R_mono (Kd.R_far (p := ⟨gb121, 4, none⟩) (Kd.R_far (p := ⟨gb121, 3, none⟩) (Kd.R_far (p := ⟨gb121, 2, none⟩) (Kd.R_far (p := ⟨gb121, 1, none⟩) (Kd.R_far (p := ⟨gb121, 0, none⟩) (Kd.R_types HO114.out BK121.out (by decide)) (fun _ hk => hk.2) (.int .i64 t115)) (fun _ hk => hk.2) (.int .i64 t116)) (fun _ hk => hk.2) (.int .i64 t117)) (fun _ hk => hk.2) (.bool t118)) (fun _ hk => hk.2) (.int .i64 t119)) (fun _ h_ => h_.1)))); (case side2 => exact (Kd.R_reads' HO114.out).2.1); rintro e w41 ⟨rfl, hb⟩; refine ⟨_, rfl, ?_⟩; have n0_ := Aside0.mk (Kd.R_below (by (with_reducible repeat (first | apply Kd.R_alloc | apply Kd.R_drewN | apply Kd.R_drew)); exact (Kd.R_mono (Kd.R_far (p := ⟨gb121, 4, none⟩) (Kd.R_far (p := ⟨gb121, 3, none⟩) (Kd.R_far (p := ⟨gb121, 2, none⟩) (Kd.R_far (p := ⟨gb121, 1, none⟩) (Kd.R_far (p := ⟨gb121, 0, none⟩) (Kd.R_types HO114.out BK121.out (by decide)) (fun _ hk => hk.2) (.int .i64 t115)) (fun _ hk => hk.2) (.int .i64 t116)) (fun _ hk => hk.2) (.int .i64 t117)) (fun _ hk => hk.2) (.bool t118)) (fun _ hk => hk.2) (.int .i64 t119)) (fun _ h_ => h_.1))) hb); have n1_ := Aside0.mk (blk_below (g := gb121) (o := .cells #[.int .i64 t115, .int .i64 t116, .int .i64 t117, .bool t118, .int .i64 t119] 32 (0, 0)) (by refine blk_put (cs := #[.int .i64 t115, .int .i64 t116, .int .i64 t117, .bool t118, .int .i64 0]) ?_ 4 _ rfl; refine blk_put (cs := #[.int .i64 t115, .int .i64 t116, .int .i64 t117, .bool false, .int .i64 0]) ?_ 3 _ rfl; refine blk_put (cs := #[.int .i64 t115, .int .i64 t116, .int .i64 0, .bool false, .int .i64 0]) ?_ 2 _ rfl; refine blk_put (cs := #[.int .i64 t115, .int .i64 0, .int .i64 0, .bool false, .int .i64 0]) ?_ 1 _ rfl; refine blk_put (cs := #[.int .i64 0, .int .i64 0, .int .i64 0, .bool false, .int .i64 0]) ?_ 0 _ rfl; exact BK121.out) hb); have n2_ := Aside0.mk (below_step (by repeat (first | (with_reducible first | exact HB.out | apply below_alloc | apply pw_below_drewN | apply below_drew1 | refine below_set ?_ GE121.out) | exact HB.out)) hb); clear HO114; clear BK121; clear HB; have HO114 := n0_; have BK121 := n1_; have HB := n2_; clear n0_ n1_ n2_; (try clear hb); (try clear hb2); (try clear hk); (try clear hi)) | ((with_reducible refine gate_dst (N := 4) rfl ?_); refine box_event ?hg (N := 4) ?hd (cs := #[.int .i64 0, .int .i64 0, .int .i64 0, .bool false, .int .i64 0]) (t := 32) ?hr ?_; (case hd => rfl); (case hg => rfl); (case hr => first | (go_simp; done) | (go_simp; rfl)); intro gb128 hg w42 hbox hb; have n0_ := Aside0.mk (Kd.R_below (by (with_reducible repeat (first | apply Kd.R_alloc | apply Kd.R_drewN | apply Kd.R_drew)); exact HO114.out) hb); have n1_ := Aside0.mk (blk_below (g := gb121) (o := .cells #[.int .i64 t115, .int .i64 t116, .int .i64 t117, .bool t118, .int .i64 t119] 32 (0, 0)) (by exact BK121.out) hb); have n2_ := Aside0.mk (below_step (by repeat (first | (with_reducible first | exact HB.out | apply below_alloc | apply pw_below_drewN | apply below_drew1 | refine below_set ?_ GE121.out) | exact HB.out)) hb); have n3_ := Aside0.mk (hbox); have n4_ := Aside0.mk ((by rw [hg]; exact (below_size (by repeat (first | (with_reducible first | exact HB.out | apply below_alloc | apply pw_below_drewN | apply below_drew1 | refine below_set ?_ GE121.out) | exact HB.out))) : w.heap.size ≤ gb128)); have n5_ := Aside0.mk ((by rw [hg]; exact (below_size (by repeat (first | (with_reducible first | exact HB.out | apply below_alloc | apply pw_below_drewN | apply below_drew1 | refine below_set ?_ GE121.out) | exact HB.out))) : w.heap.size ≤ gb128)); have n6_ := Aside0.mk ((by rw [hg]; exact Nat.ne_of_lt (blk_lt (g := gb121) (o := .cells #[.int .i64 t115, .int .i64 t116, .int .i64 t117, .bool t118, .int .i64 t119] 32 (0, 0)) (by exact BK121.out)) : gb121 ≠ gb128)); have n7_ := Aside0.mk ((by rw [hg]; exact Nat.ne_of_gt (blk_lt (g := gb121) (o := .cells #[.int .i64 t115, .int .i64 t116, .int .i64 t117, .bool t118, .int .i64 t119] 32 (0, 0)) (by exact BK121.out)) : gb128 ≠ gb121)); clear HO114; clear BK121; clear HB; have HO114 := n0_; have BK121 := n1_; have HB := n2_; have BK128 := n3_; have GW128 := n4_; have GE128 := n5_; have NB121_128 := n6_; have NB128_121 := n7_; clear n0_ n1_ n2_ n3_ n4_ n5_ n6_ n7_; clear hb hbox hg; have hnb43 := NB128_121.out; have hnc43 := NB121_128.out; have hcz44_0 : w42.cell? ⟨gb128, 0, none⟩ = some (.int .i64 0) := (blk_cell BK128.out 0).trans rfl; have hcz44_1 : w42.cell? ⟨gb128, 1, none⟩ = some (.int .i64 0) := (blk_cell BK128.out 1).trans rfl; have hcz44_2 : w42.cell? ⟨gb128, 2, none⟩ = some (.int .i64 0) := (blk_cell BK128.out 2).trans rfl; have hcz44_3 : w42.cell? ⟨gb128, 3, none⟩ = some (.bool false) := (blk_cell BK128.out 3).trans rfl; have hcz44_4 : w42.cell? ⟨gb128, 4, none⟩ = some (.int .i64 0) := (blk_cell BK128.out 4).trans rfl; have hfz44_0 := blk_frozen BK128.out 0; have hfz44_1 := blk_frozen BK128.out 1; have hfz44_2 := blk_frozen BK128.out 2; have hfz44_3 := blk_frozen BK128.out 3; have hfz44_4 := blk_frozen BK128.out 4) | ((with_reducible refine gate_callee (f := 14) rfl ?_); refine goesL_ (some 26) rfl rfl Try.func14 (by kernel_rfl) rfl #[.slice Ao37 y112.length co37, .agg #[.int .i64 0, .int .i64 0], .int .i64 1, .bool false] rfl (by (try simp only [List.map_toArray, List.map_cons, List.map_nil]); first | done | rfl | (simp only [List.length_drop, List.length_take]; rfl)) ?_; (with_reducible refine (words_Back.calls _ _ y112 0 0 1 false t129 t130 t131 t132 t133 false _ ?side1 ?side2 A3.out).mono ?_); (case side1 => refine (Kd.R_reads' (e := 9) (base := w.heap.size) (ok := fun k_ => True) (n := y112.length) (c := co37) ?_).2.2; exact (by (with_reducible repeat (first | apply Kd.R_alloc | apply Kd.R_drewN | apply Kd.R_drew)); exact (Kd.R_mono (Kd.R_far (p := ⟨gb128, 4, none⟩) (Kd.R_far (p := ⟨gb128, 3, none⟩) (Kd.R_far (p := ⟨gb128, 2, none⟩) (Kd.R_far (p := ⟨gb128, 1, none⟩) (Kd.R_far (p := ⟨gb128, 0, none⟩) (Kd.R_types HO114.out BK128.out (by decide)) (fun _ hk => hk.2) (.int .i64 t122)) (fun _ hk => hk.2) (.int .i64 t123)) (fun _ hk => hk.2) (.int .i64 t124)) (fun _ hk => hk.2) (.bool t125)) (fun _ hk => hk.2) (.int .i64 t126)) (fun _ h_ => h_.1)))); (case side2 => exact (Kd.R_reads' HO114.out).2.1); rintro e w45 ⟨rfl, hb⟩; refine ⟨_, rfl, ?_⟩; have n0_ := Aside0.mk (Kd.R_below (by (with_reducible repeat (first | apply Kd.R_alloc | apply Kd.R_drewN | apply Kd.R_drew)); exact (Kd.R_mono (Kd.R_far (p := ⟨gb128, 4, none⟩) (Kd.R_far (p := ⟨gb128, 3, none⟩) (Kd.R_far (p := ⟨gb128, 2, none⟩) (Kd.R_far (p := ⟨gb128, 1, none⟩) (Kd.R_far (p := ⟨gb128, 0, none⟩) (Kd.R_types HO114.out BK128.out (by decide)) (fun _ hk => hk.2) (.int .i64 t122)) (fun _ hk => hk.2) (.int .i64 t123)) (fun _ hk => hk.2) (.int .i64 t124)) (fun _ hk => hk.2) (.bool t125)) (fun _ hk => hk.2) (.int .i64 t126)) (fun _ h_ => h_.1))) hb); have n1_ := Aside0.mk (blk_below (g := gb121) (o := .cells #[.int .i64 t115, .int .i64 t116, .int .i64 t117, .bool t118, .int .i64 t119] 32 (0, 0)) (by refine blk_far ?_ NB121_128.out _; refine blk_far ?_ NB121_128.out _; refine blk_far ?_ NB121_128.out _; refine blk_far ?_ NB121_128.out _; refine blk_far ?_ NB121_128.out _; exact BK121.out) hb); have n2_ := Aside0.mk (blk_below (g := gb128) (o := .cells #[.int .i64 t122, .int .i64 t123, .int .i64 t124, .bool t125, .int .i64 t126] 32 (0, 0)) (by refine blk_put (cs := #[.int .i64 t122, .int .i64 t123, .int .i64 t124, .bool t125, .int .i64 0]) ?_ 4 _ rfl; refine blk_put (cs := #[.int .i64 t122, .int .i64 t123, .int .i64 t124, .bool false, .int .i64 0]) ?_ 3 _ rfl; refine blk_put (cs := #[.int .i64 t122, .int .i64 t123, .int .i64 0, .bool false, .int .i64 0]) ?_ 2 _ rfl; refine blk_put (cs := #[.int .i64 t122, .int .i64 0, .int .i64 0, .bool false, .int .i64 0]) ?_ 1 _ rfl; refine blk_put (cs := #[.int .i64 0, .int .i64 0, .int .i64 0, .bool false, .int .i64 0]) ?_ 0 _ rfl; exact BK128.out) hb); have n3_ := Aside0.mk (below_step (by repeat (first | (with_reducible first | exact HB.out | apply below_alloc | apply pw_below_drewN | apply below_drew1 | refine below_set ?_ GE121.out | refine below_set ?_ GE128.out) | exact HB.out)) hb); clear HO114; clear BK121; clear BK128; clear HB; have HO114 := n0_; have BK121 := n1_; have BK128 := n2_; have HB := n3_; clear n0_ n1_ n2_ n3_; (try clear hb); (try clear hb2); (try clear hk); (try clear hi)) | ((with_reducible refine gate_dst (N := 6) rfl ?_); refine box_event ?hg (N := 6) ?hd (cs := #[.int .i64 0, .int .i64 0, .int .i64 0, .bool false, .int .i64 0]) (t := 32) ?hr ?_; (case hd => rfl); (case hg => rfl); (case hr => first | (go_simp; done) | (go_simp; rfl)); intro gb135 hg w46 hbox hb; have n0_ := Aside0.mk (Kd.R_below (by (with_reducible repeat (first | apply Kd.R_alloc | apply Kd.R_drewN | apply Kd.R_drew)); exact HO114.out) hb); have n1_ := Aside0.mk (blk_below (g := gb121) (o := .cells #[.int .i64 t115, .int .i64 t116, .int .i64 t117, .bool t118, .int .i64 t119] 32 (0, 0)) (by exact BK121.out) hb); have n2_ := Aside0.mk (blk_below (g := gb128) (o := .cells #[.int .i64 t122, .int .i64 t123, .int .i64 t124, .bool t125, .int .i64 t126] 32 (0, 0)) (by exact BK128.out) hb); have n3_ := Aside0.mk (below_step (by repeat (first | (with_reducible first | exact HB.out | apply below_alloc | apply pw_below_drewN | apply below_drew1 | refine below_set ?_ GE121.out | refine below_set ?_ GE128.out) | exact HB.out)) hb); have n4_ := Aside0.mk (hbox); have n5_ := Aside0.mk ((by rw [hg]; exact (below_size (by repeat (first | (with_reducible first | exact HB.out | apply below_alloc | apply pw_below_drewN | apply below_drew1 | refine below_set ?_ GE121.out | refine below_set ?_ GE128.out) | exact HB.out))) : w.heap.size ≤ gb135)); have n6_ := Aside0.mk ((by rw [hg]; exact (below_size (by repeat (first | (with_reducible first | exact HB.out | apply below_alloc | apply pw_below_drewN | apply below_drew1 | refine below_set ?_ GE121.out | refine below_set ?_ GE128.out) | exact HB.out))) : w.heap.size ≤ gb135)); have n7_ := Aside0.mk ((by rw [hg]; exact Nat.ne_of_lt (blk_lt (g := gb121) (o := .cells #[.int .i64 t115, .int .i64 t116, .int .i64 t117, .bool t118, .int .i64 t119] 32 (0, 0)) (by exact BK121.out)) : gb121 ≠ gb135)); have n8_ := Aside0.mk ((by rw [hg]; exact Nat.ne_of_gt (blk_lt (g := gb121) (o := .cells #[.int .i64 t115, .int .i64 t116, .int .i64 t117, .bool t118, .int .i64 t119] 32 (0, 0)) (by exact BK121.out)) : gb135 ≠ gb121)); have n9_ := Aside0.mk ((by rw [hg]; exact Nat.ne_of_lt (blk_lt (g := gb128) (o := .cells #[.int .i64 t122, .int .i64 t123, .int .i64 t124, .bool t125, .int .i64 t126] 32 (0, 0)) (by exact BK128.out)) : gb128 ≠ gb135)); have n10_ := Aside0.mk ((by rw [hg]; exact Nat.ne_of_gt (blk_lt (g := gb128) (o := .cells #[.int .i64 t122, .int .i64 t123, .int .i64 t124, .bool t125, .int .i64 t126] 32 (0, 0)) (by exact BK128.out)) : gb135 ≠ gb128)); clear HO114; clear BK121; clear BK128; clear HB; have HO114 := n0_; have BK121 := n1_; have BK128 := n2_; have HB := n3_; have BK135 := n4_; have GW135 := n5_; have GE135 := n6_; have NB121_135 := n7_; have NB135_121 := n8_; have NB128_135 := n9_; have NB135_128 := n10_; clear n0_ n1_ n2_ n3_ n4_ n5_ n6_ n7_ n8_ n9_ n10_; clear hb hbox hg; have hnb47 := NB135_121.out; have hnc47 := NB121_135.out; have hnb48 := NB135_128.out; have hnc48 := NB128_135.out; have hcz49_0 : w46.cell? ⟨gb135, 0, none⟩ = some (.int .i64 0) := (blk_cell BK135.out 0).trans rfl; have hcz49_1 : w46.cell? ⟨gb135, 1, none⟩ = some (.int .i64 0) := (blk_cell BK135.out 1).trans rfl; have hcz49_2 : w46.cell? ⟨gb135, 2, none⟩ = some (.int .i64 0) := (blk_cell BK135.out 2).trans rfl; have hcz49_3 : w46.cell? ⟨gb135, 3, none⟩ = some (.bool false) := (blk_cell BK135.out 3).trans rfl; have hcz49_4 : w46.cell? ⟨gb135, 4, none⟩ = some (.int .i64 0) := (blk_cell BK135.out 4).trans rfl; have hfz49_0 := blk_frozen BK135.out 0; have hfz49_1 := blk_frozen BK135.out 1; have hfz49_2 := blk_frozen BK135.out 2; have hfz49_3 := blk_frozen BK135.out 3; have hfz49_4 := blk_frozen BK135.out 4) | ((with_reducible refine gate_callee (f := 11) rfl ?_); refine goesL_ (some 32) rfl rfl Try.func11 (by kernel_rfl) rfl #[.slice Ao37 y112.length co37, .agg #[.int .i64 0, .int .i64 4], .int .i64 1, .bool false, .bool true] rfl (by (try simp only [List.map_toArray, List.map_cons, List.map_nil]); first | done | rfl | (simp only [List.length_drop, List.length_take]; rfl)) ?_; (with_reducible refine (words_Next.calls _ _ y112 0 4 1 false true t136 t137 t138 t139 t140 true _ ?side1 ?side2 A4.out).mono ?_); (case side1 => refine (Kd.R_reads' (e := 9) (base := w.heap.size) (ok := fun k_ => True) (n := y112.length) (c := co37) ?_).2.2; exact (by (with_reducible repeat (first | apply Kd.R_alloc | apply Kd.R_drewN | apply Kd.R_drew)); exact (Kd.R_mono (Kd.R_far (p := ⟨gb135, 4, none⟩) (Kd.R_far (p := ⟨gb135, 3, none⟩) (Kd.R_far (p := ⟨gb135, 2, none⟩) (Kd.R_far (p := ⟨gb135, 1, none⟩) (Kd.R_far (p := ⟨gb135, 0, none⟩) (Kd.R_types HO114.out BK135.out (by decide)) (fun _ hk => hk.2) (.int .i64 t129)) (fun _ hk => hk.2) (.int .i64 t130)) (fun _ hk => hk.2) (.int .i64 t131)) (fun _ hk => hk.2) (.bool t132)) (fun _ hk => hk.2) (.int .i64 t133)) (fun _ h_ => h_.1)))); (case side2 => exact (Kd.R_reads' HO114.out).2.1); rintro e w50 ⟨rfl, hb⟩; refine ⟨_, rfl, ?_⟩; have n0_ := Aside0.mk (Kd.R_below (by (with_reducible repeat (first | apply Kd.R_alloc | apply Kd.R_drewN | apply Kd.R_drew)); exact (Kd.R_mono (Kd.R_far (p := ⟨gb135, 4, none⟩) (Kd.R_far (p := ⟨gb135, 3, none⟩) (Kd.R_far (p := ⟨gb135, 2, none⟩) (Kd.R_far (p := ⟨gb135, 1, none⟩) (Kd.R_far (p := ⟨gb135, 0, none⟩) (Kd.R_types HO114.out BK135.out (by decide)) (fun _ hk => hk.2) (.int .i64 t129)) (fun _ hk => hk.2) (.int .i64 t130)) (fun _ hk => hk.2) (.int .i64 t131)) (fun _ hk => hk.2) (.bool t132)) (fun _ hk => hk.2) (.int .i64 t133)) (fun _ h_ => h_.1))) hb); have n1_ := Aside0.mk (blk_below (g := gb121) (o := .cells #[.int .i64 t115, .int .i64 t116, .int .i64 t117, .bool t118, .int .i64 t119] 32 (0, 0)) (by refine blk_far ?_ NB121_135.out _; refine blk_far ?_ NB121_135.out _; refine blk_far ?_ NB121_135.out _; refine blk_far ?_ NB121_135.out _; refine blk_far ?_ NB121_135.out _; exact BK121.out) hb); have n2_ := Aside0.mk (blk_below (g := gb128) (o := .cells #[.int .i64 t122, .int .i64 t123, .int .i64 t124, .bool t125, .int .i64 t126] 32 (0, 0)) (by refine blk_far ?_ NB128_135.out _; refine blk_far ?_ NB128_135.out _; refine blk_far ?_ NB128_135.out _; refine blk_far ?_ NB128_135.out _; refine blk_far ?_ NB128_135.out _; exact BK128.out) hb); have n3_ := Aside0.mk (blk_below (g := gb135) (o := .cells #[.int .i64 t129, .int .i64 t130, .int .i64 t131, .bool t132, .int .i64 t133] 32 (0, 0)) (by refine blk_put (cs := #[.int .i64 t129, .int .i64 t130, .int .i64 t131, .bool t132, .int .i64 0]) ?_ 4 _ rfl; refine blk_put (cs := #[.int .i64 t129, .int .i64 t130, .int .i64 t131, .bool false, .int .i64 0]) ?_ 3 _ rfl; refine blk_put (cs := #[.int .i64 t129, .int .i64 t130, .int .i64 0, .bool false, .int .i64 0]) ?_ 2 _ rfl; refine blk_put (cs := #[.int .i64 t129, .int .i64 0, .int .i64 0, .bool false, .int .i64 0]) ?_ 1 _ rfl; refine blk_put (cs := #[.int .i64 0, .int .i64 0, .int .i64 0, .bool false, .int .i64 0]) ?_ 0 _ rfl; exact BK135.out) hb); have n4_ := Aside0.mk (below_step (by repeat (first | (with_reducible first | exact HB.out | apply below_alloc | apply pw_below_drewN | apply below_drew1 | refine below_set ?_ GE121.out | refine below_set ?_ GE128.out | refine below_set ?_ GE135.out) | exact HB.out)) hb); clear HO114; clear BK121; clear BK128; clear BK135; clear HB; have HO114 := n0_; have BK121 := n1_; have BK128 := n2_; have BK135 := n3_; have HB := n4_; clear n0_ n1_ n2_ n3_ n4_; (try clear hb); (try clear hb2); (try clear hk); (try clear hi)) | ((with_reducible refine gate_dst (N := 8) rfl ?_); refine box_event ?hg (N := 8) ?hd (cs := #[.int .i64 0, .int .i64 0, .int .i64 0, .bool false, .int .i64 0]) (t := 32) ?hr ?_; (case hd => rfl); (case hg => rfl); (case hr => first | (go_simp; done) | (go_simp; rfl)); intro gb142 hg w51 hbox hb; have n0_ := Aside0.mk (Kd.R_below (by (with_reducible repeat (first | apply Kd.R_alloc | apply Kd.R_drewN | apply Kd.R_drew)); exact HO114.out) hb); have n1_ := Aside0.mk (blk_below (g := gb121) (o := .cells #[.int .i64 t115, .int .i64 t116, .int .i64 t117, .bool t118, .int .i64 t119] 32 (0, 0)) (by exact BK121.out) hb); have n2_ := Aside0.mk (blk_below (g := gb128) (o := .cells #[.int .i64 t122, .int .i64 t123, .int .i64 t124, .bool t125, .int .i64 t126] 32 (0, 0)) (by exact BK128.out) hb); have n3_ := Aside0.mk (blk_below (g := gb135) (o := .cells #[.int .i64 t129, .int .i64 t130, .int .i64 t131, .bool t132, .int .i64 t133] 32 (0, 0)) (by exact BK135.out) hb); have n4_ := Aside0.mk (below_step (by repeat (first | (with_reducible first | exact HB.out | apply below_alloc | apply pw_below_drewN | apply below_drew1 | refine below_set ?_ GE121.out | refine below_set ?_ GE128.out | refine below_set ?_ GE135.out) | exact HB.out)) hb); have n5_ := Aside0.mk (hbox); have n6_ := Aside0.mk ((by rw [hg]; exact (below_size (by repeat (first | (with_reducible first | exact HB.out | apply below_alloc | apply pw_below_drewN | apply below_drew1 | refine below_set ?_ GE121.out | refine below_set ?_ GE128.out | refine below_set ?_ GE135.out) | exact HB.out))) : w.heap.size ≤ gb142)); have n7_ := Aside0.mk ((by rw [hg]; exact (below_size (by repeat (first | (with_reducible first | exact HB.out | apply below_alloc | apply pw_below_drewN | apply below_drew1 | refine below_set ?_ GE121.out | refine below_set ?_ GE128.out | refine below_set ?_ GE135.out) | exact HB.out))) : w.heap.size ≤ gb142)); have n8_ := Aside0.mk ((by rw [hg]; exact Nat.ne_of_lt (blk_lt (g := gb121) (o := .cells #[.int .i64 t115, .int .i64 t116, .int .i64 t117, .bool t118, .int .i64 t119] 32 (0, 0)) (by exact BK121.out)) : gb121 ≠ gb142)); have n9_ := Aside0.mk ((by rw [hg]; exact Nat.ne_of_gt (blk_lt (g := gb121) (o := .cells #[.int .i64 t115, .int .i64 t116, .int .i64 t117, .bool t118, .int .i64 t119] 32 (0, 0)) (by exact BK121.out)) : gb142 ≠ gb121)); have n10_ := Aside0.mk ((by rw [hg]; exact Nat.ne_of_lt (blk_lt (g := gb128) (o := .cells #[.int .i64 t122, .int .i64 t123, .int .i64 t124, .bool t125, .int .i64 t126] 32 (0, 0)) (by exact BK128.out)) : gb128 ≠ gb142)); have n11_ := Aside0.mk ((by rw [hg]; exact Nat.ne_of_gt (blk_lt (g := gb128) (o := .cells #[.int .i64 t122, .int .i64 t123, .int .i64 t124, .bool t125, .int .i64 t126] 32 (0, 0)) (by exact BK128.out)) : gb142 ≠ gb128)); have n12_ := Aside0.mk ((by rw [hg]; exact Nat.ne_of_lt (blk_lt (g := gb135) (o := .cells #[.int .i64 t129, .int .i64 t130, .int .i64 t131, .bool t132, .int .i64 t133] 32 (0, 0)) (by exact BK135.out)) : gb135 ≠ gb142)); have n13_ := Aside0.mk ((by rw [hg]; exact Nat.ne_of_gt (blk_lt (g := gb135) (o := .cells #[.int .i64 t129, .int .i64 t130, .int .i64 t131, .bool t132, .int .i64 t133] 32 (0, 0)) (by exact BK135.out)) : gb142 ≠ gb135)); clear HO114; clear BK121; clear BK128; clear BK135; clear HB; have HO114 := n0_; have BK121 := n1_; have BK128 := n2_; have BK135 := n3_; have HB := n4_; have BK142 := n5_; have GW142 := n6_; have GE142 := n7_; have NB121_142 := n8_; have NB142_121 := n9_; have NB128_142 := n10_; have NB142_128 := n11_; have NB135_142 := n12_; have NB142_135 := n13_; clear n0_ n1_ n2_ n3_ n4_ n5_ n6_ n7_ n8_ n9_ n10_ n11_ n12_ n13_; clear hb hbox hg; have hnb52 := NB142_121.out; have hnc52 := NB121_142.out; have hnb53 := NB142_128.out; have hnc53 := NB128_142.out; have hnb54 := NB142_135.out; have hnc54 := NB135_142.out; have hcz55_0 : w51.cell? ⟨gb142, 0, none⟩ = some (.int .i64 0) := (blk_cell BK142.out 0).trans rfl; have hcz55_1 : w51.cell? ⟨gb142, 1, none⟩ = some (.int .i64 0) := (blk_cell BK142.out 1).trans rfl; have hcz55_2 : w51.cell? ⟨gb142, 2, none⟩ = some (.int .i64 0) := (blk_cell BK142.out 2).trans rfl; have hcz55_3 : w51.cell? ⟨gb142, 3, none⟩ = some (.bool false) := (blk_cell BK142.out 3).trans rfl; have hcz55_4 : w51.cell? ⟨gb142, 4, none⟩ = some (.int .i64 0) := (blk_cell BK142.out 4).trans rfl; have hfz55_0 := blk_frozen BK142.out 0; have hfz55_1 := blk_frozen BK142.out 1; have hfz55_2 := blk_frozen BK142.out 2; have hfz55_3 := blk_frozen BK142.out 3; have hfz55_4 := blk_frozen BK142.out 4; have hcz56_0 : w51.cell? ⟨gb121, 0, none⟩ = some (.int .i64 t115) := (blk_cell BK121.out 0).trans rfl; have hcz56_1 : w51.cell? ⟨gb121, 1, none⟩ = some (.int .i64 t116) := (blk_cell BK121.out 1).trans rfl; have hcz56_2 : w51.cell? ⟨gb121, 2, none⟩ = some (.int .i64 t117) := (blk_cell BK121.out 2).trans rfl; have hcz56_3 : w51.cell? ⟨gb121, 3, none⟩ = some (.bool t118) := (blk_cell BK121.out 3).trans rfl; have hcz56_4 : w51.cell? ⟨gb121, 4, none⟩ = some (.int .i64 t119) := (blk_cell BK121.out 4).trans rfl; have hfz56_0 := blk_frozen BK121.out 0; have hfz56_1 := blk_frozen BK121.out 1; have hfz56_2 := blk_frozen BK121.out 2; have hfz56_3 := blk_frozen BK121.out 3; have hfz56_4 := blk_frozen BK121.out 4; have hcz57_0 : w51.cell? ⟨gb128, 0, none⟩ = some (.int .i64 t122) := (blk_cell BK128.out 0).trans rfl; have hcz57_1 : w51.cell? ⟨gb128, 1, none⟩ = some (.int .i64 t123) := (blk_cell BK128.out 1).trans rfl; have hcz57_2 : w51.cell? ⟨gb128, 2, none⟩ = some (.int .i64 t124) := (blk_cell BK128.out 2).trans rfl; have hcz57_3 : w51.cell? ⟨gb128, 3, none⟩ = some (.bool t125) := (blk_cell BK128.out 3).trans rfl; have hcz57_4 : w51.cell? ⟨gb128, 4, none⟩ = some (.int .i64 t126) := (blk_cell BK128.out 4).trans rfl; have hfz57_0 := blk_frozen BK128.out 0; have hfz57_1 := blk_frozen BK128.out 1; have hfz57_2 := blk_frozen BK128.out 2; have hfz57_3 := blk_frozen BK128.out 3; have hfz57_4 := blk_frozen BK128.out 4))
                go_ret
                exact ⟨by first | rfl | (simp [errW_none, errW_some] <;> rfl) | (simp [*, errW_none, errW_some] <;> rfl), by repeat (first | (with_reducible first | exact HB.out | apply below_alloc | apply pw_below_drewN | apply below_drew1 | refine below_set ?_ GE121.out | refine below_set ?_ GE128.out | refine below_set ?_ GE135.out | refine below_set ?_ GE142.out) | exact HB.out)⟩
              · replace c34 := Bool.eq_false_iff.mpr c34
                subst c34
                have H1 : (some false) = some r := by rw [if_neg (show ¬ (false = true) by decide)] at H; exact H
                clear H
                have H := H1
                clear H1
                exact absurd ((Option.some.inj H).trans HT.out) (by decide)
          · rw [if_neg c9] at H
            have c9b0 : (t124 == 1) = false := beq_eq_false_iff_ne.mpr c9
            have c9b1 : (t124 != 1) = true := bne_iff_ne.mpr c9
            exact absurd ((Option.some.inj H).trans HT.out) (by decide)
        · rw [if_neg c8] at H
          have c8b0 : (t123 == 5) = false := beq_eq_false_iff_ne.mpr c8
          have c8b1 : (t123 != 5) = true := bne_iff_ne.mpr c8
          exact absurd ((Option.some.inj H).trans HT.out) (by decide)
      · replace c7 := Bool.eq_false_iff.mpr c7
        subst c7
        have H1 : (some false) = some r := by rw [if_neg (show ¬ (false = true) by decide)] at H; exact H
        clear H
        have H := H1
        clear H1
        exact absurd ((Option.some.inj H).trans HT.out) (by decide)
    · rw [if_neg c6] at H
      have c6b0 : (t116 == 4) = false := beq_eq_false_iff_ne.mpr c6
      have c6b1 : (t116 != 4) = true := bne_iff_ne.mpr c6
      exact absurd ((Option.some.inj H).trans HT.out) (by decide)
  · replace c5 := Bool.eq_false_iff.mpr c5
    subst c5
    have H1 : (some false) = some r := by rw [if_neg (show ¬ (false = true) by decide)] at H; exact H
    clear H
    have H := H1
    clear H1
    exact absurd ((Option.some.inj H).trans HT.out) (by decide)
end Go.Proofs.Ytifkfjpkngdhmaa.V
namespace Go.Proofs.Ytifkfjpkngdhmaa.V
open Go.RowKit Go.Proofs.YtifkfjpkngdhmaaW.PrintWords Go.Proofs.YtifkfjpkngdhmaaW.PrintLast Go.Proofs.YtifkfjpkngdhmaaW.PrintMore
attribute [local go_sem] max2_int min2_int max_two min_two max_three min_three max_four min_four   -- for this text's walks alone
set_option linter.unusedVariables false
set_option linter.unusedSimpArgs false

/-! ### foolscapseat_Place: function 10 -/
def foolscapseat_Place.f (l0 : List ByteArray) (a1 : Int) (a2 : Int) : Option (Int × Int) := if (l0.length : Int) = 0 then (none) else (if 0 ≤ (Int.tmod (wrap64 (a1)) (l0.length : Int)) then (if (Int.tmod (wrap64 (a1)) (l0.length : Int)) < (l0.length : Int) then (if (wrap64 (((rdOf ByteArray.empty l0 (Int.tmod (wrap64 (a1)) (l0.length : Int))).size : Int) + 1)) = 0 then (none) else (some (Int.tmod (wrap64 (a1)) (l0.length : Int), Int.tmod (wrap64 (a2)) (wrap64 (((rdOf ByteArray.empty l0 (Int.tmod (wrap64 (a1)) (l0.length : Int))).size : Int) + 1))))) else (none)) else (none))
set_option maxHeartbeats 8000000 in
set_option maxRecDepth 100000 in
theorem foolscapseat_Place.calls (A0 : Option Addr) (c0 : Nat) (l0 : List ByteArray) (a1 : Int) (a2 : Int) (r1 : Int) (r2 : Int) (w : World) (hr0 : Kd.C Kd.string w A0 l0.length l0) (hc0 : l0.length ≤ c0) (h : foolscapseat_Place.f l0 a1 a2 = some (r1, r2)) :
    Calls Try.prog 10 #[.slice A0 l0.length c0, .int .u16 a1, .int .u16 a2] w fun e w' => e = .returned (.agg #[.int .i64 r1, .int .i64 r2]) ∧ Below w.heap.size w w' := by
  have hu24 := Try.underlying24
  have HR0 := Aside0.mk hr0
  have HC0 := Aside0.mk hc0
  clear hr0 hc0
  have HB := Aside0.mk (Below.refl w.heap.size w)
  have H : (if (l0.length : Int) = 0 then (none) else (if 0 ≤ (Int.tmod (wrap64 (a1)) (l0.length : Int)) then (if (Int.tmod (wrap64 (a1)) (l0.length : Int)) < (l0.length : Int) then (if (wrap64 (((rdOf ByteArray.empty l0 (Int.tmod (wrap64 (a1)) (l0.length : Int))).size : Int) + 1)) = 0 then (none) else (some (Int.tmod (wrap64 (a1)) (l0.length : Int), Int.tmod (wrap64 (a2)) (wrap64 (((rdOf ByteArray.empty l0 (Int.tmod (wrap64 (a1)) (l0.length : Int))).size : Int) + 1))))) else (none)) else (none))) = some (r1, r2) := h
  clear h
  by_cases c4 : (l0.length : Int) = 0
  · rw [if_pos c4] at H
    exact absurd H (by simp)
  · rw [if_neg c4] at H
    have c4b0 : ((l0.length : Int) == 0) = false := beq_eq_false_iff_ne.mpr c4
    have c4b1 : ((l0.length : Int) != 0) = true := bne_iff_ne.mpr c4
    have c4b2 : ¬ (l0 = []) := fun h_ => c4 (by rw [h_]; rfl)
    obtain ⟨ji5, hji5⟩ : ∃ j_ : Int, (Int.tmod (wrap64 (a1)) (l0.length : Int)) = j_ := ⟨_, rfl⟩
    replace H : (if 0 ≤ (ji5) then (if (ji5) < (l0.length : Int) then (if (wrap64 (((rdOf ByteArray.empty l0 (ji5)).size : Int) + 1)) = 0 then (none) else (some (ji5, Int.tmod (wrap64 (a2)) (wrap64 (((rdOf ByteArray.empty l0 (ji5)).size : Int) + 1))))) else (none)) else (none)) = some (r1, r2) := by first | (rw [hji5] at H; exact H) | (simp only [hji5] at H ⊢; exact H)
    by_cases c6 : 0 ≤ (ji5)
    · rw [if_pos c6] at H
      have c6b0 : decide (0 ≤ (ji5)) = true := decide_eq_true c6
      clear c6
      by_cases c7 : (ji5) < (l0.length : Int)
      · rw [if_pos c7] at H
        have c7b0 : decide ((ji5) < (l0.length : Int)) = true := decide_eq_true c7
        clear c7
        by_cases c8 : (wrap64 (((rdOf ByteArray.empty l0 (ji5)).size : Int) + 1)) = 0
        · rw [if_pos c8] at H
          exact absurd H (by simp)
        · rw [if_neg c8] at H
          have c8b0 : ((wrap64 (((rdOf ByteArray.empty l0 (ji5)).size : Int) + 1)) == 0) = false := beq_eq_false_iff_ne.mpr c8
          have c8b1 : ((wrap64 (((rdOf ByteArray.empty l0 (ji5)).size : Int) + 1)) != 0) = true := bne_iff_ne.mpr c8
          simp only [Option.some.injEq, Prod.mk.injEq] at H
          obtain ⟨rfl, rfl⟩ := H
          go_enter Try.func10, Try.ntmps10
          go_wp2_with (first | ((with_reducible refine gate_dst (N := 6) rfl ?_); refine box_event ?hg (N := 6) ?hd (cs := #[.int .i64 0, .int .i64 0]) (t := 24) ?hr ?_; (case hd => rfl); (case hg => rfl); (case hr => first | (go_simp; done) | (go_simp; rfl)); intro gb147 hg w9 hbox hb; have n0_ := Aside0.mk (below_step (by repeat (first | (with_reducible first | exact HB.out | apply below_alloc | apply pw_below_drewN | apply below_drew1) | exact HB.out)) hb); have n1_ := Aside0.mk (hbox); have n2_ := Aside0.mk ((by rw [hg]; exact (below_size (by repeat (first | (with_reducible first | exact HB.out | apply below_alloc | apply pw_below_drewN | apply below_drew1) | exact HB.out))) : w.heap.size ≤ gb147)); have n3_ := Aside0.mk ((by rw [hg]; exact (below_size (by repeat (first | (with_reducible first | exact HB.out | apply below_alloc | apply pw_below_drewN | apply below_drew1) | exact HB.out))) : w.heap.size ≤ gb147)); clear HB; have HB := n0_; have BK147 := n1_; have GW147 := n2_; have GE147 := n3_; clear n0_ n1_ n2_ n3_; clear hb hbox hg; have p148 : 0 ≤ ((ji5) : Int) := of_decide_eq_true (by first | (with_reducible assumption) | assumption); have q148 : (ji5) < (l0.length : Int) := of_decide_eq_true (by first | (with_reducible assumption) | assumption); obtain ⟨ad148, e148, hx148_0⟩ := Kd.at_string HR0.out (ji5) p148 q148; cases e148; replace hx148_0 := (HB.out.cell (World.block_lt_of_cell? w _ hx148_0)).trans hx148_0; replace p148 := eq_true p148; replace q148 := eq_true q148; have hcz10_0 : w9.cell? ⟨gb147, 0, none⟩ = some (.int .i64 0) := (blk_cell BK147.out 0).trans rfl; have hcz10_1 : w9.cell? ⟨gb147, 1, none⟩ = some (.int .i64 0) := (blk_cell BK147.out 1).trans rfl; have hfz10_0 := blk_frozen BK147.out 0; have hfz10_1 := blk_frozen BK147.out 1))
          refine bodyPost_ret (results_cell_row rfl _ _ gb147 24 #[.int .i64 ji5, .int .i64 (Int.tmod (wrap64 (a2)) (wrap64 (((rdOf ByteArray.empty l0 (ji5)).size : Int) + 1)))] (0, 0) _ rfl (by (with_reducible repeat (first | refine blk_drewN ?_ _ | refine blk_drew ?_ | refine blk_alloc ?_ _)); refine blk_put (cs := #[.int .i64 ji5, .int .i64 0]) ?_ 1 _ rfl; (with_reducible repeat (first | refine blk_drewN ?_ _ | refine blk_drew ?_ | refine blk_alloc ?_ _)); refine blk_put (cs := #[.int .i64 0, .int .i64 0]) ?_ 0 _ rfl; (with_reducible repeat (first | refine blk_drewN ?_ _ | refine blk_drew ?_ | refine blk_alloc ?_ _)); exact BK147.out) Try.underlying24 rfl (by kernel_rfl)) rfl ?_
          exact ⟨by first | rfl | (simp [errW_none, errW_some] <;> rfl) | (simp only [← hji5]; first | rfl | (simp [errW_none, errW_some] <;> rfl)) | (simp [*, errW_none, errW_some] <;> rfl), by repeat (first | (with_reducible first | exact HB.out | apply below_alloc | apply pw_below_drewN | apply below_drew1 | refine below_set ?_ GE147.out) | exact HB.out)⟩
      · rw [if_neg c7] at H
        exact absurd H (by simp)
    · rw [if_neg c6] at H
      exact absurd H (by simp)

end Go.Proofs.Ytifkfjpkngdhmaa.V
namespace Go.Proofs.Ytifkfjpkngdhmaa.V
open Go.RowKit Go.Proofs.YtifkfjpkngdhmaaW.PrintWords Go.Proofs.YtifkfjpkngdhmaaW.PrintLast Go.Proofs.YtifkfjpkngdhmaaW.PrintMore
attribute [local go_sem] max2_int min2_int max_two min_two max_three min_three max_four min_four   -- for this text's walks alone
set_option linter.unusedVariables false
set_option linter.unusedSimpArgs false
attribute [local go_sem high] eqA24

theorem am_ {p : Prop} (h : p) : Aside0 p := Aside0.mk h
/-! ### foolscaplaw8_WordsSteps: function 5 -/
mutual
def foolscaplaw8_WordsSteps.l0 : Nat → List ByteArray → Bool → Int → Bool → Bool → Bool → Int → Int → Int → Int → Int → Int → Int → Int → Int → Option (Bool)
  | 0, _, _, _, _, _, _, _, _, _, _, _, _, _, _, _ => none
  | k + 1, x0, x4, x12, x16, x17, x18, x19, x397000, x397001, x398000, x398001, x399000, x399001, x400000, x400001 => if x19 < x12 then (if x16 = true then ((words_Next.f x0 x398000 x398001 1 x4 false).bind fun bt422 => (foolscaplaw8_WordsSteps.j1 k x0 x4 x12 bt422.2.2.2.2.2 x17 x18 x19 x397000 x397001 bt422.1 bt422.2.1 x399000 x399001 x400000 x400001)) else (foolscaplaw8_WordsSteps.j1 k x0 x4 x12 x16 x17 x18 x19 x397000 x397001 x398000 x398001 x399000 x399001 x400000 x400001)) else ((words_Next.f x0 x397000 x397001 x12 x4 false).bind fun bt400 => ((words_Back.f x0 x397000 x397001 x12 x4).bind fun bt407 => ((words_Tail.f x0 x397000 x397001 x12 x4 false).bind fun bt414 => (if (bt400.2.2.2.2.2 == x16) = true then (if (bt407.2.2.2.2.2 == x17) = true then (if (bt414.2.2.2.2.2 == x18) = true then (if x16 = true then (if (bt400.1 == x398000 && (bt400.2.1 == x398001)) = true then (if x17 = true then (if (bt407.1 == x399000 && (bt407.2.1 == x399001)) = true then (if x18 = true then (some (bt414.1 == x400000 && (bt414.2.1 == x400001))) else (some true)) else (some false)) else (if x18 = true then (some (bt414.1 == x400000 && (bt414.2.1 == x400001))) else (some true))) else (some false)) else (if x17 = true then (if (bt407.1 == x399000 && (bt407.2.1 == x399001)) = true then (if x18 = true then (some (bt414.1 == x400000 && (bt414.2.1 == x400001))) else (some true)) else (some false)) else (if x18 = true then (some (bt414.1 == x400000 && (bt414.2.1 == x400001))) else (some true)))) else (some false)) else (some false)) else (some false)))))
def foolscaplaw8_WordsSteps.j1 : Nat → List ByteArray → Bool → Int → Bool → Bool → Bool → Int → Int → Int → Int → Int → Int → Int → Int → Int → Option (Bool)
  | 0, _, _, _, _, _, _, _, _, _, _, _, _, _, _, _ => none
  | k + 1, x0, x4, x12, x16, x17, x18, x19, x397000, x397001, x398000, x398001, x399000, x399001, x400000, x400001 => if x17 = true then ((words_Back.f x0 x399000 x399001 1 x4).bind fun bt428 => (if x18 = true then ((words_Tail.f x0 x400000 x400001 1 x4 false).bind fun bt434 => (foolscaplaw8_WordsSteps.l0 k x0 x4 x12 x16 bt428.2.2.2.2.2 bt434.2.2.2.2.2 (wrap64 (x19 + 1)) x397000 x397001 x398000 x398001 bt428.1 bt428.2.1 bt434.1 bt434.2.1)) else (foolscaplaw8_WordsSteps.l0 k x0 x4 x12 x16 bt428.2.2.2.2.2 x18 (wrap64 (x19 + 1)) x397000 x397001 x398000 x398001 bt428.1 bt428.2.1 x400000 x400001))) else (if x18 = true then ((words_Tail.f x0 x400000 x400001 1 x4 false).bind fun bt440 => (foolscaplaw8_WordsSteps.l0 k x0 x4 x12 x16 x17 bt440.2.2.2.2.2 (wrap64 (x19 + 1)) x397000 x397001 x398000 x398001 x399000 x399001 bt440.1 bt440.2.1)) else (foolscaplaw8_WordsSteps.l0 k x0 x4 x12 x16 x17 x18 (wrap64 (x19 + 1)) x397000 x397001 x398000 x398001 x399000 x399001 x400000 x400001))
end
def foolscaplaw8_WordsSteps.f (k : Nat) (l0 : List ByteArray) (a1 : Int) (a2 : Int) (a3 : Int) (a4 : Bool) : Option (Bool) := (foolscaplaw8_known.f).bind fun t392 => (if t392 = true then ((foolscaphelp_Text.f k l0).bind fun t393 => (if t393 = true then ((foolscapseat_Place.f l0 a1 a2).bind fun bt394 => (foolscaplaw8_WordsSteps.l0 k l0 a4 (wrap64 ((wrap64 (Int.tmod a3 6)) + 1)) true true true 0 bt394.1 bt394.2 bt394.1 bt394.2 bt394.1 bt394.2 bt394.1 bt394.2)) else (some true))) else (some false))
theorem foolscaplaw8_WordsSteps.mono_l : ∀ k, (∀ y0 y1 y2 y3 y4 y5 y6 y7 y8 y9 y10 y11 y12 y13 y14, LeO (foolscaplaw8_WordsSteps.l0 k y0 y1 y2 y3 y4 y5 y6 y7 y8 y9 y10 y11 y12 y13 y14) (foolscaplaw8_WordsSteps.l0 (k + 1) y0 y1 y2 y3 y4 y5 y6 y7 y8 y9 y10 y11 y12 y13 y14)) ∧ (∀ y0 y1 y2 y3 y4 y5 y6 y7 y8 y9 y10 y11 y12 y13 y14, LeO (foolscaplaw8_WordsSteps.j1 k y0 y1 y2 y3 y4 y5 y6 y7 y8 y9 y10 y11 y12 y13 y14) (foolscaplaw8_WordsSteps.j1 (k + 1) y0 y1 y2 y3 y4 y5 y6 y7 y8 y9 y10 y11 y12 y13 y14))
  | 0 => ⟨fun _ _ _ _ _ _ _ _ _ _ _ _ _ _ _ r h => by simp [foolscaplaw8_WordsSteps.l0] at h, fun _ _ _ _ _ _ _ _ _ _ _ _ _ _ _ r h => by simp [foolscaplaw8_WordsSteps.j1] at h⟩
  | k + 1 => by
    obtain ⟨ih0, ih1⟩ := foolscaplaw8_WordsSteps.mono_l k
    refine ⟨?_, ?_⟩
    · intro y0 y1 y2 y3 y4 y5 y6 y7 y8 y9 y10 y11 y12 y13 y14
      unfold foolscaplaw8_WordsSteps.l0
      repeat' first
      | (with_reducible exact ih0 _ _ _ _ _ _ _ _ _ _ _ _ _ _ _)
      | (with_reducible exact ih1 _ _ _ _ _ _ _ _ _ _ _ _ _ _ _)
      | (with_reducible exact foolscaphelp_Text.mono _ _)
      | (with_reducible exact LeO.refl _)
      | (with_reducible exact LeO.none _)
      | (with_reducible refine LeO.ite ?_ ?_)
      | (with_reducible refine LeO.bind ?_ (fun _ => ?_))
      | exact ih0 _ _ _ _ _ _ _ _ _ _ _ _ _ _ _
      | exact ih1 _ _ _ _ _ _ _ _ _ _ _ _ _ _ _
      | exact foolscaphelp_Text.mono _ _
      | exact LeO.none _
      | refine LeO.ite ?_ ?_
      | refine LeO.bind ?_ (fun _ => ?_)
    · intro y0 y1 y2 y3 y4 y5 y6 y7 y8 y9 y10 y11 y12 y13 y14
      unfold foolscaplaw8_WordsSteps.j1
      repeat' first
      | (with_reducible exact ih0 _ _ _ _ _ _ _ _ _ _ _ _ _ _ _)
      | (with_reducible exact ih1 _ _ _ _ _ _ _ _ _ _ _ _ _ _ _)
      | (with_reducible exact foolscaphelp_Text.mono _ _)
      | (with_reducible exact LeO.refl _)
      | (with_reducible exact LeO.none _)
      | (with_reducible refine LeO.ite ?_ ?_)
      | (with_reducible refine LeO.bind ?_ (fun _ => ?_))
      | exact ih0 _ _ _ _ _ _ _ _ _ _ _ _ _ _ _
      | exact ih1 _ _ _ _ _ _ _ _ _ _ _ _ _ _ _
      | exact foolscaphelp_Text.mono _ _
      | exact LeO.none _
      | refine LeO.ite ?_ ?_
      | refine LeO.bind ?_ (fun _ => ?_)
theorem foolscaplaw8_WordsSteps.mono : ∀ a0 a1 a2 a3 a4 k, LeO (foolscaplaw8_WordsSteps.f k a0 a1 a2 a3 a4) (foolscaplaw8_WordsSteps.f (k + 1) a0 a1 a2 a3 a4) := by
  intro a0 a1 a2 a3 a4 k
  obtain ⟨ih0, ih1⟩ := foolscaplaw8_WordsSteps.mono_l k
  unfold foolscaplaw8_WordsSteps.f
  repeat' first
      | (with_reducible exact ih0 _ _ _ _ _ _ _ _ _ _ _ _ _ _ _)
      | (with_reducible exact ih1 _ _ _ _ _ _ _ _ _ _ _ _ _ _ _)
      | (with_reducible exact foolscaphelp_Text.mono _ _)
      | (with_reducible exact LeO.refl _)
      | (with_reducible exact LeO.none _)
      | (with_reducible refine LeO.ite ?_ ?_)
      | (with_reducible refine LeO.bind ?_ (fun _ => ?_))
      | exact ih0 _ _ _ _ _ _ _ _ _ _ _ _ _ _ _
      | exact ih1 _ _ _ _ _ _ _ _ _ _ _ _ _ _ _
      | exact foolscaphelp_Text.mono _ _
      | exact LeO.none _
      | refine LeO.ite ?_ ?_
      | refine LeO.bind ?_ (fun _ => ?_)
def foolscaplaw8_WordsSteps.T7 : Bool × List (List Nat × List Nat) := (true, [([], []), ([], []), ([], []), ([], []), ([], []), ([], []), ([3, 0, 0, 3, 4, 5], [0, 3]), ([4, 1, 6, 0, 1, 3, 4, 5, 6], [1, 4]), ([5, 2, 7, 0, 1, 2, 3, 4, 5, 6, 7], [2, 5])])
def foolscaplaw8_WordsSteps.B7 : List Nat := [0, 0, 0, 0, 0, 0, 57, 123, 255]
theorem foolscaplaw8_WordsSteps.tab7 : rtab .any (opsOf Try.f5 7) = foolscaplaw8_WordsSteps.T7 := by kernel_rfl
theorem foolscaplaw8_WordsSteps.bits7 : waitsOk foolscaplaw8_WordsSteps.T7.2 foolscaplaw8_WordsSteps.B7 = true := by kernel_rfl
end Go.Proofs.Ytifkfjpkngdhmaa.V
