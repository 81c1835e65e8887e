/- The law's own helper build: what it answers. No condition but that the slice is read. -/
import Derived.Test.YtlkmkoajfdmbeaaGl
namespace Go.Proofs.Ytlkmkoajfdmbeaa.PGraphWithout
open Go.RowKit Go.Proofs.YtlkmkoajfdmbeaaW.PrintWords Go.Proofs.YtlkmkoajfdmbeaaW.PrintLast Go.Proofs.YtlkmkoajfdmbeaaW.PrintMore
open Go.Maps Go.MapKept Go.ChangeShapes
open Go.WideElems (rd_val)
set_option linter.unusedVariables false
set_option linter.unusedSimpArgs false

def badB (n : Int) (e : S29) : Bool := decide (e.f0 < -1) || (decide (n ≤ e.f0) || (decide (e.f1 < 0) || decide (n ≤ e.f1)))
theorem badB_iff {n : Int} {e : S29} : badB n e = true ↔ bad n e := by simp [badB, bad]
def addE (n : Int) (es : List S29) (x : S29) : List S29 := if badB n x || es.any (same29 x) then es else es ++ [x]
def addAll (n : Int) (l : List S29) : List S29 := l.foldl (addE n) []
theorem addE_len (n : Int) (es : List S29) (x : S29) : (addE n es x).length ≤ es.length + 1 := by
  unfold addE
  split
  · omega
  · simp
/-- No block of the graph is one of another type. -/
theorem Gr.typed {w : World} {base : Nat} {ok : Nat → Prop} {g : Nat} {n : Int} {es : List S29} (h : Gr w base ok g n es) (t : TypeId) (h3 : t ≠ 3) (h29 : t ≠ 29) (h56 : t ≠ 56) : Gr w base (fun k => ok k ∧ ∀ cs, w.heap[k]? ≠ some (.cells cs t (0, 0))) g n es := by
  obtain ⟨v, b, D, hg, okg, bg, hR, okb, bb, hG, hS, hD⟩ := h
  have hG0 := hG
  obtain ⟨es0, clock, hb, F, _⟩ := hG0
  refine ⟨v, b, D, hg, ⟨okg, fun cs h => by rw [hg] at h; cases h; exact h56 rfl⟩, bg, ?_, ⟨okb, fun cs h => by rw [hb] at h; cases h⟩, bb, hG, ?_, hD⟩
  · refine Kd.R_mono (Kd.R_bound hR) (fun k hk => ⟨hk.1, fun cs h => ?_⟩)
    obtain ⟨_, _, _, q, hq, cells, hc⟩ := hk
    have hq' : q = 29 := by
      rcases List.mem_cons.1 hq with h | h
      · exact h
      · cases h
    subst hq'
    rw [hc] at h
    cases h
    exact h29 rfl
  · intro es1 clock1 hb1 x hx k hk hn
    obtain ⟨rfl, rfl⟩ : es0 = es1 ∧ clock = clock1 := by rw [hb] at hb1; simpa using hb1
    refine hS es0 clock hb x hx k hk (fun hok => hn ⟨hok, fun cs h => ?_⟩)
    obtain ⟨y, hy⟩ := F.reads x hx
    obtain ⟨z, hz, _⟩ := rd_val hy
    obtain ⟨zs0, ho0, _⟩ := rowElem_inv hz
    obtain ⟨cells, hc⟩ := own_typed ho0.1 k hk
    rw [hc] at h
    cases h
    exact h3 rfl
theorem R41_kept {w w1 : World} {base : Nat} {ok : Nat → Prop} {v : Value} {xs : List S41} {S : Nat → Prop} (h : Kd.R k41 41 w base ok v xs) (hk : Kept w w1 (fun k => S k ∧ ∀ cs, w.heap[k]? ≠ some (.cells cs 41 (0, 0)))) : Kd.R k41 41 w1 base ok v xs :=
  Kd.R_mono (Kd.R_step (Kd.R_bound h) (fun k hb hlt => hk.2 k hlt (fun hs => by
    obtain ⟨_, _, _, q, hq, cells, hc⟩ := hb
    have hq' : q = 41 := by
      rcases List.mem_cons.1 hq with h | h
      · exact h
      · cases h
    subst hq'
    exact hs.2 cells hc))) (fun _ hb => hb.1)
theorem info41 : (Try.prog.info? 41).map (fun i => (i.zero, i.size, i.bytes)) = some (some (.agg #[.int .i64 0, .int .i64 0, .int .i64 0, .int .i64 0]), 4, 32) := by kernel_rfl
set_option maxRecDepth 100000 in
theorem build_no (n : Int) (A : Option Addr) (len c : Nat) (w : World) (h : n < 0 ∨ 60 < n ∨ 150 < len) :
    Calls Try.prog 13 #[.int .i64 n, .slice A len c] w fun e w' => e = .returned (.tuple #[.pointer none, .slice none 0 0, .bool false]) ∧ w = w' := by
  by_cases h1 : n < 0
  · have d1 : decide (n < 0) = true := decide_eq_true h1
    clear h
    go_enter Try.func13, Try.ntmps13
    go_wp2
    go_ret3
    exact ⟨rfl, rfl⟩
  · have d1 : decide (n < 0) = false := decide_eq_false h1
    by_cases h2 : 60 < n
    · have d2 : decide (60 < n) = true := decide_eq_true h2
      clear h
      go_enter Try.func13, Try.ntmps13
      go_wp2
      go_ret3
      exact ⟨rfl, rfl⟩
    · have d2 : decide (60 < n) = false := decide_eq_false h2
      have d3 : decide (150 < (len : Int)) = true := decide_eq_true (by omega)
      clear h
      go_enter Try.func13, Try.ntmps13
      go_wp2
      go_ret3
      exact ⟨rfl, rfl⟩
set_option maxRecDepth 100000 in
set_option maxHeartbeats 4000000 in
theorem build_any (n : Int) (l : List S29) (A : Option Addr) (c : Nat) (w : World) (h0 : 0 ≤ n) (h1 : n ≤ 60) (hl : l.length ≤ 150) (hr : Kd.C k29 w A l.length l) :
    Calls Try.prog 13 #[.int .i64 n, .slice A l.length c] w fun e w' => ∃ g v, e = .returned (.tuple #[.pointer (some ⟨g, 0, none⟩), v, .bool true]) ∧ Gr w' w.heap.size (fun _ => True) g n (addAll n l) ∧ Kd.R k41 41 w' w.heap.size (fun _ => True) v ((addAll n l).map to41) ∧ Below w.heap.size w w' := by
  have HR := Aside0.mk hr; have HN := Aside0.mk (And.intro h0 h1); have HL := Aside0.mk hl
  have d1 : decide (n < 0) = false := decide_eq_false (by omega)
  have d2 : decide (60 < n) = false := decide_eq_false (by omega)
  have d3 : decide (150 < (l.length : Int)) = false := decide_eq_false (by omega)
  have hu29 := Try.underlying29
  clear hr h0 h1
  go_enter Try.func13, Try.ntmps13
  go_wp2_with (first | (go_at_call 9; refine (new_some n w HN.out.1 (by have := HN.out.2; omega)).mono ?_; rintro e w1 ⟨g, rfl, hg1, hb1⟩; have HG1 := Aside0.mk (Gr.mono hg1 (fun _ _ => trivial)); have HB1 := Aside0.mk hb1; clear hg1 hb1))
  clear d1 d2 d3
  have HO1 := Aside0.mk (Kd.R_nil k41 41 w1 w.heap.size (fun _ => True))
  go_loopg [32, 9] (l.length + 1) (fun kq v32 v9 w' => ∃ (j : Nat) (es : List S29), v32 = .int .i64 (j : Int) ∧ Aside0 (j + kq = l.length + 1 ∧ j ≤ l.length) ∧ Aside0 ((l.drop j).foldl (addE n) es = addAll n l) ∧ Aside0 (es.length ≤ j) ∧ Aside0 (Gr w' w.heap.size (fun _ => True) g n es) ∧ Aside0 (Kd.R k41 41 w' w.heap.size (fun _ => True) v9 (es.map to41)) ∧ Aside0 (Below w.heap.size w w'))
  case atStart => exact ⟨0, [], rfl, ⟨by omega, by omega⟩, ⟨rfl⟩, ⟨by simp⟩, HG1, HO1, HB1⟩
  case round =>
    clear HG1 HO1 HB1
    obtain ⟨j, es, rfl, HK1, HF, HLE, HG, HO, HB⟩ := hrel
    by_cases hj : j < l.length
    · have hjd : decide ((j : Int) < (l.length : Int)) = true := decide_eq_true (by omega)
      have hj0 : 0 ≤ (j : Int) := by omega
      have hj1 : (j : Int) < (l.length : Int) := by omega
      obtain ⟨ade, eade, x0, x1, x2, x3⟩ := at_T29 HR.out (j : Int) hj0 hj1
      obtain ⟨y, he⟩ : ∃ y, y = rd_T29 l (j : Int) := ⟨_, rfl⟩
      have hd : l.drop j = y :: l.drop (j + 1) := by
        rw [List.drop_eq_getElem_cons hj, he]
        congr 1
        simp [rd_T29, List.getD_eq_getElem?_getD, List.getElem?_eq_getElem hj]
      rw [← he] at x0 x1 x2 x3
      rw [hd, List.foldl_cons] at HF
      clear he hd
      have HY := Aside0.mk (show y = ⟨y.f0, y.f1, y.f2, y.f3⟩ from rfl)
      obtain ⟨ya, yb, yc, yd⟩ := y
      clear HY
      simp only at x0 x1 x2 x3
      simp only [Int.toNat_natCast] at x0 x1 x2 x3
      replace x0 := (HB.out.cell (World.block_lt_of_cell? w _ x0)).trans x0
      replace x1 := (HB.out.cell (World.block_lt_of_cell? w _ x1)).trans x1
      replace x2 := (HB.out.cell (World.block_lt_of_cell? w _ x2)).trans x2
      replace x3 := (HB.out.cell (World.block_lt_of_cell? w _ x3)).trans x3
      subst eade
      have HJ := Aside0.mk hj
      clear hj
      have HP2 := Aside0.mk (blk_new wr (.cells #[.int .i64 ya, .int .i64 yb, .int .i64 yc, .int .i64 yd] 29))
      have HG2 := Aside0.mk (Gr.alloc HG.out (.cells #[.int .i64 ya, .int .i64 yb, .int .i64 yc, .int .i64 yd] 29))
      have HO2 := Aside0.mk (Kd.R_alloc HO.out (.cells #[.int .i64 ya, .int .i64 yb, .int .i64 yc, .int .i64 yd] 29))
      have HB2 := Aside0.mk (below_alloc HB.out (.cells #[.int .i64 ya, .int .i64 yb, .int .i64 yc, .int .i64 yd] 29))
      by_cases hb : bad n ⟨ya, yb, yc, yd⟩
      · have HA := Aside0.mk (show addE n es ⟨ya, yb, yc, yd⟩ = es by unfold addE; rw [badB_iff.2 hb]; rfl)
        have HBD := Aside0.mk hb
        clear hb
        go_wp2_with (first | (go_at_call 10; refine (add_bad g n es ⟨ya, yb, yc, yd⟩ _ _ _ HG2.out HBD.out).mono ?_; rintro e w4 ⟨rfl, hb4⟩; have HG4 := Aside0.mk (Gr.below HG2.out hb4); have HO4 := Aside0.mk (Kd.R_below HO2.out hb4); have HB4 := Aside0.mk (below_then HB2.out HB2.out.size hb4); clear hb4))
        go_roundg (l.length - j)
        case measure => have := HK1.out; omega
        case rel => exact ⟨j + 1, es, by go_num, ⟨by have := HK1.out; have := HJ.out; omega, by have := HJ.out; omega⟩, ⟨by rw [← HF.out, HA.out]⟩, ⟨by have := HLE.out; omega⟩, HG4, HO4, HB4⟩
      · have hb' : -1 ≤ ya ∧ ya < n ∧ 0 ≤ yb ∧ yb < n := by unfold bad at hb; simp only at hb; omega
        have hbf : badB n ⟨ya, yb, yc, yd⟩ = false := by
          cases h : badB n ⟨ya, yb, yc, yd⟩
          · rfl
          · exact absurd (badB_iff.1 h) hb
        have HBD := Aside0.mk hb'
        clear hb hb'
        cases hs : es.any (same29 ⟨ya, yb, yc, yd⟩) with
        | true =>
          have HA := Aside0.mk (show addE n es ⟨ya, yb, yc, yd⟩ = es by unfold addE; rw [hs, hbf]; rfl)
          have HS := Aside0.mk hs
          clear hs hbf
          go_wp2_with (first | (go_at_call 10; refine (add_twice g n es ⟨ya, yb, yc, yd⟩ w _ w.heap.size _ HG2.out HB2.out HB2.out.size HBD.out.1 HBD.out.2.1 HBD.out.2.2.1 HBD.out.2.2.2 (by have := HN.out.2; omega) (by have := HLE.out; have := HJ.out; omega) HS.out).mono ?_; rintro e w4 ⟨rfl, hb4⟩; have HG4 := Aside0.mk (Gr.below HG2.out hb4); have HO4 := Aside0.mk (Kd.R_below HO2.out hb4); have HB4 := Aside0.mk (below_then HB2.out HB2.out.size hb4); clear hb4))
          go_roundg (l.length - j)
          case measure => have := HK1.out; omega
          case rel => exact ⟨j + 1, es, by go_num, ⟨by have := HK1.out; have := HJ.out; omega, by have := HJ.out; omega⟩, ⟨by rw [← HF.out, HA.out]⟩, ⟨by have := HLE.out; omega⟩, HG4, HO4, HB4⟩
        | false =>
          have HA := Aside0.mk (show addE n es ⟨ya, yb, yc, yd⟩ = es ++ [⟨ya, yb, yc, yd⟩] by unfold addE; rw [hs, hbf]; rfl)
          have HS := Aside0.mk hs
          clear hs hbf
          go_wp2_with (first
            | (go_at_call 10; refine (add_ok g n es ⟨ya, yb, yc, yd⟩ w _ w.heap.size _ (Gr.typed (Gr.alloc (Gr.bound HG.out) _) 41 (by decide) (by decide) (by decide)) HB2.out HB2.out.size HBD.out.1 HBD.out.2.1 HBD.out.2.2.1 HBD.out.2.2.2 (by have := HN.out.2; omega) (by have := HLE.out; have := HJ.out; omega) HS.out (by have := HLE.out; have := HJ.out; omega)).mono ?_; rintro e w4 ⟨rfl, hg4, hb4, hk4⟩; have HG4 := Aside0.mk (Gr.mono hg4 (fun _ _ => trivial)); have HO4 := Aside0.mk (R41_kept HO2.out hk4); have HP4 := Aside0.mk (blk_kept HP2.out hk4 (fun h => absurd h.1.2.2 (Nat.lt_irrefl _))); have HB4 := Aside0.mk hb4; clear hg4 hb4 hk4; have c0 : w4.cell? ⟨wr.heap.size, 0, none⟩ = some (.int .i64 ya) := (blk_cell HP4.out 0).trans rfl; have c1 : w4.cell? ⟨wr.heap.size, 1, none⟩ = some (.int .i64 yb) := (blk_cell HP4.out 1).trans rfl; have c2 : w4.cell? ⟨wr.heap.size, 2, none⟩ = some (.int .i64 yc) := (blk_cell HP4.out 2).trans rfl; have c3 : w4.cell? ⟨wr.heap.size, 3, none⟩ = some (.int .i64 yd) := (blk_cell HP4.out 3).trans rfl)
            | ((with_reducible refine gate_builtin (b := .append) (xs := #[.tmp 40, .tmp 42]) rfl ?_); at_builtin; refine Kd.R_append k41 (w0 := w) w.heap.size rfl (.tmp 40) (.tmp 42) 35 41 (.agg #[.int .i64 0, .int .i64 0, .int .i64 0, .int .i64 0]) 32 rfl Try.underlying35 info41 rfl (by decide) (by omega) u9 (es.map to41) ⟨ya, yb, yc, yd⟩ [.int .i64 ya, .int .i64 yb, .int .i64 yc, .int .i64 yd] (fun _ => True) (fun _ => False) rfl rfl (k41_mkM _ _ _ ⟨ya, yb, yc, yd⟩) (fun _ hk => hk.elim) (fun _ _ => trivial) HO4.out HB4.out HB4.out.size ?aL ?_; (case aL => have := HLE.out; have := HJ.out; simp; omega); intro v1 w7 ho hb hg hat; have HO7 := Aside0.mk (show Kd.R k41 41 w7 w.heap.size (fun _ => True) v1 ((es ++ [(⟨ya, yb, yc, yd⟩ : S29)]).map to41) from by rw [List.map_append]; exact ho); have HB7 := Aside0.mk hb; have HG7 := Aside0.mk (Gr.mono (Gr.move (Gr.typed HG4.out 41 (by decide) (by decide) (by decide)) (fun k hk hlt => hg.block k hlt (fun he => by obtain ⟨inner, hoo⟩ := Kd.R_own HO4.out; obtain ⟨cells, hc⟩ := own_typed hoo k he.symm; exact hk.2 cells hc))) (fun _ _ => trivial)); clear ho hb hg hat c0 c1 c2 c3 HO4 HB4 HG4 HP4))
          go_roundg (l.length - j)
          case measure => have := HK1.out; omega
          case rel => exact ⟨j + 1, _, by go_num, ⟨by have := HK1.out; have := HJ.out; omega, by have := HJ.out; omega⟩, ⟨by rw [← HF.out, HA.out]⟩, ⟨by have := HLE.out; simp; omega⟩, HG7, HO7, HB7⟩
    · obtain rfl : j = l.length := by have := HK1.out; omega
      have hjd : decide ((l.length : Int) < (l.length : Int)) = false := decide_eq_false (by omega)
      clear hj
      rw [List.drop_length, List.foldl_nil] at HF
      go_wp2
      go_ret3
      exact ⟨g, _, rfl, by rw [← HF.out]; exact HG.out, by rw [← HF.out]; exact HO.out, HB.out⟩
end Go.Proofs.Ytlkmkoajfdmbeaa.PGraphWithout
