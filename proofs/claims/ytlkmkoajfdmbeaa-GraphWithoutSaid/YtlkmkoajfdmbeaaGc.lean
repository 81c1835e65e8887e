/- (*Graph).Add at an edge whose nodes aren't there; slices.Contains at edges. No condition but that the graph is one. -/
import Derived.Test.YtlkmkoajfdmbeaaGb
import Derived.Outline
namespace Go.Proofs.Ytlkmkoajfdmbeaa.PGraphWithout
open Go.RowKit Go.Proofs.YtlkmkoajfdmbeaaW.PrintWords Go.Proofs.YtlkmkoajfdmbeaaW.PrintLast Go.Proofs.YtlkmkoajfdmbeaaW.PrintMore
open Go.Maps Go.WideElems Go.MapKept Go.ChangeShapes
set_option linter.unusedVariables false

def bad (n : Int) (e : S29) : Prop := e.f0 < -1 ∨ n ≤ e.f0 ∨ e.f1 < 0 ∨ n ≤ e.f1
set_option maxRecDepth 100000 in
theorem add_bad (g : Nat) (n : Int) (es : List S29) (x : S29) (w : World) (base : Nat) (ok : Nat → Prop) (h : Gr w base ok g n es) (hb : bad n x) :
    Calls Try.prog 10 #[.pointer (some ⟨g, 0, none⟩), .agg #[.int .i64 x.f0, .int .i64 x.f1, .int .i64 x.f2, .int .i64 x.f3]] w fun e w' => e = .returned (.int .i64 1) ∧ Below w.heap.size w w' := by
  obtain ⟨v, b, D, hg, _⟩ := h
  have hc : w.cell? ⟨g, 0, none⟩ = some (.int .i64 n) := (blk_cell hg 0).trans rfl
  have hlt := blk_lt hg
  clear hg
  have hu56 := Try.underlying56
  have hu29 := Try.underlying29
  obtain ⟨a, b, c, d⟩ := x
  unfold bad at hb
  simp only at hb ⊢
  by_cases h1 : a < -1
  · have d1 : decide (a < -1) = true := decide_eq_true h1
    clear hb
    go_enter Try.func10, Try.ntmps10
    go_wp2
    go_quiet (fail)
    go_wp2
    go_ret
    exact ⟨rfl, by first | exact pw_below_drewN (below_alloc (Below.refl _ _) _) _ | exact below_alloc (Below.refl _ _) _⟩
  · skip
    by_cases h2 : n ≤ a
    · have d1 : decide (a < -1) = false := decide_eq_false h1
      have d2 : decide (n ≤ a) = true := decide_eq_true h2
      clear hb
      go_enter Try.func10, Try.ntmps10
      go_wp2
      go_quiet (fail)
      go_wp2
      go_ret
      exact ⟨rfl, by first | exact pw_below_drewN (below_alloc (Below.refl _ _) _) _ | exact below_alloc (Below.refl _ _) _⟩
    · skip
      by_cases h3 : b < 0
      · have d1 : decide (a < -1) = false := decide_eq_false h1
        have d2 : decide (n ≤ a) = false := decide_eq_false h2
        have d3 : decide (b < 0) = true := decide_eq_true h3
        clear hb
        go_enter Try.func10, Try.ntmps10
        go_wp2
        go_quiet (fail)
        go_wp2
        go_ret
        exact ⟨rfl, by first | exact pw_below_drewN (below_alloc (Below.refl _ _) _) _ | exact below_alloc (Below.refl _ _) _⟩
      · have d1 : decide (a < -1) = false := decide_eq_false h1
        have d2 : decide (n ≤ a) = false := decide_eq_false h2
        have d3 : decide (b < 0) = false := decide_eq_false h3
        have h4 : n ≤ b := by omega
        have d4 : decide (n ≤ b) = true := decide_eq_true h4
        clear hb
        go_enter Try.func10, Try.ntmps10
        go_wp2
        go_quiet (fail)
        go_wp2
        go_ret
        exact ⟨rfl, by first | exact pw_below_drewN (below_alloc (Below.refl _ _) _) _ | exact below_alloc (Below.refl _ _) _⟩

/-! ### Is an edge among some? -/
def same29 (x y : S29) : Bool := x.f0 == y.f0 && (x.f1 == y.f1 && (x.f2 == y.f2 && x.f3 == y.f3))
theorem same29_iff {x y : S29} : same29 x y = true ↔ x = y := by
  obtain ⟨a, b, c, d⟩ := x
  obtain ⟨a', b', c', d'⟩ := y
  simp [same29]
theorem wrap_succ {i : Int} {n : Nat} (h0 : 0 ≤ i) (h : i < (n : Int)) (hn : n ≤ 140737488351232) : wrap64 (i + 1) = i + 1 := by
  unfold wrap64
  omega
theorem index_any (es : List S29) (x : S29) (hn : es.length ≤ 140737488351232) (d : Nat) : ∀ (k : Nat) (i : Int), 0 ≤ i → i ≤ es.length → (es.length : Int) - i = d → d < k →
    ∃ r, graph_Edge_29.l0 k es (es.length : Int) i x.f0 x.f1 x.f2 x.f3 = some r ∧ decide (r ≥ 0) = (es.drop i.toNat).any (same29 x) := by
  induction d with
  | zero =>
    intro k i h0 h1 hd hk
    obtain ⟨k, rfl⟩ : ∃ m, k = m + 1 := ⟨k - 1, by omega⟩
    refine ⟨-1, by simp only [graph_Edge_29.l0]; rw [if_neg (by omega)], ?_⟩
    rw [List.drop_eq_nil_of_le (by omega)]
    rfl
  | succ d ih =>
    intro k i h0 h1 hd hk
    obtain ⟨k, rfl⟩ : ∃ m, k = m + 1 := ⟨k - 1, by omega⟩
    have hlt : i < (es.length : Int) := by omega
    have hil : i.toNat < es.length := by omega
    have hdr : es.drop i.toNat = rd_T29 es i :: es.drop (i + 1).toNat := by
      rw [List.drop_eq_getElem_cons hil]
      have : (i + 1).toNat = i.toNat + 1 := by omega
      rw [this]
      congr 1
      simp [rd_T29, List.getD_eq_getElem?_getD, List.getElem?_eq_getElem hil]
    simp only [graph_Edge_29.l0]
    rw [if_pos hlt, if_pos h0, if_pos hlt, hdr]
    by_cases hs : same29 x (rd_T29 es i) = true
    · refine ⟨i, if_pos hs, ?_⟩
      rw [List.any_cons, hs, Bool.true_or]
      exact decide_eq_true h0
    · obtain ⟨r, hr, h⟩ := ih k (i + 1) (by omega) (by omega) (by omega) (by omega)
      refine ⟨r, (if_neg hs).trans (by rw [wrap_succ h0 hlt hn]; exact hr), ?_⟩
      rw [List.any_cons, h]
      have : same29 x (rd_T29 es i) = false := by simpa using hs
      rw [this, Bool.false_or]
theorem contains_some (es : List S29) (x : S29) (hn : es.length ≤ 140737488351232) : ∃ k, graph_Edge_24.f k es x.f0 x.f1 x.f2 x.f3 = some (es.any (same29 x)) := by
  obtain ⟨r, hr, h⟩ := index_any es x hn es.length (es.length + 1) 0 (by omega) (by omega) (by omega) (by omega)
  refine ⟨es.length + 1, ?_⟩
  unfold graph_Edge_24.f graph_Edge_29.f
  rw [hr]
  simp only [Option.bind_some]
  rw [h]
  rfl
theorem contains_any (es : List S29) (x : S29) (A : Option Addr) (c : Nat) (w : World) (hr : Kd.C k29 w A es.length es) (hc : es.length ≤ c) (hn : es.length ≤ 16384) :
    Calls Try.prog 24 #[.slice A es.length c, .agg #[.int .i64 x.f0, .int .i64 x.f1, .int .i64 x.f2, .int .i64 x.f3]] w fun e w' => e = .returned (.bool (es.any (same29 x))) ∧ Below w.heap.size w w' := by
  obtain ⟨k, hk⟩ := contains_some es x (by omega)
  exact graph_Edge_24.calls k A c es _ _ _ _ _ w hr hc hk
end Go.Proofs.Ytlkmkoajfdmbeaa.PGraphWithout
