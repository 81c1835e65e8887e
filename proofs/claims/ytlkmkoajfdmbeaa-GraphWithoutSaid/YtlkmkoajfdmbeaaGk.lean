/- The law's own helper comes: it is true. No condition. -/
import Derived.Test.YtlkmkoajfdmbeaaGj
namespace Go.Proofs.Ytlkmkoajfdmbeaa.PGraphWithout
open Go.RowKit Go.Proofs.YtlkmkoajfdmbeaaW.PrintWords Go.Proofs.YtlkmkoajfdmbeaaW.PrintLast Go.Proofs.YtlkmkoajfdmbeaaW.PrintMore
open Go.Maps Go.MapKept Go.ChangeShapes
set_option linter.unusedVariables false
set_option linter.unusedSimpArgs false

theorem add_lit' (ad : Addr) (j : Nat) (h : 0 < j) : ad.add j = ⟨ad.block, ad.off + j, none⟩ := by
  have h1 := add_field ad 0 j h
  rw [Nat.zero_add, add_zero'] at h1
  exact h1
def ce0 : S29 := ⟨-1, 1, 2, 5⟩
def ce1 : S29 := ⟨1, 0, 0, 0⟩
theorem ces_inn : Inn 3 [ce0, ce1] := by
  intro e he
  rcases List.mem_cons.1 he with rfl | he
  · exact ⟨by decide, by decide, by decide, by decide⟩
  · rcases List.mem_cons.1 he with rfl | he
    · exact ⟨by decide, by decide, by decide, by decide⟩
    · cases he
theorem ces_ok : Gok 3 [ce0, ce1] := ⟨ces_inn, by decide, by decide⟩
theorem ces_walk : walkF 3 [ce0, ce1] (fun _ => false) (-1) = [1, 0, -1] := by decide
theorem ces_shut : walkF 3 [ce0, ce1] (fun a => decide (a ∈ ([1] : List Int))) (-1) = [-1, -1, -1] := by decide
theorem ces_solve : rchd (walkF 3 [ce0, ce1] (fun _ => false) (-1)) = [true, true, false] := by rw [ces_walk]; decide
theorem ces_path : pathL [ce0, ce1] (walkF 3 [ce0, ce1] (fun _ => false) (-1)) 3 0 [] = some [ce1, ce0] := by rw [ces_walk]; rfl
theorem ces_val : ∀ i : Int, 0 ≤ i → i < (3 : Nat) → rd (walkF 3 [ce0, ce1] (fun _ => false) (-1)) i < ([ce0, ce1] : List S29).length := by
  intro i h0 h1
  rw [ces_walk]
  rcases (show i = 0 ∨ i = 1 ∨ i = 2 by omega) with rfl | rfl | rfl <;> decide
theorem ces_cut : ([ce0, ce1] : List S29).filter (cutP [1] (rchd (walkF 3 [ce0, ce1] (fun a => decide (a ∈ ([1] : List Int))) (-1)))) = [ce0] := by rw [ces_shut]; rfl
theorem ces_right : (!([ce0, ce1] : List S29).any (brk [true, true, false])) = true := by decide
/-- The graph of the helper, in the call's own memory. -/
def Ce (w0 w : World) (g : Nat) (es : List S29) : Prop := Gr w w0.heap.size (fun k => w0.heap.size ≤ k) g ((3 : Nat) : Int) es ∧ Below w0.heap.size w0 w
theorem Ce.below {w0 w w1 : World} {g : Nat} {es : List S29} (h : Ce w0 w g es) (hb : Below w.heap.size w w1) : Ce w0 w1 g es := ⟨Gr.below h.1 hb, below_then h.2 h.2.size hb⟩
theorem ce_new (w0 : World) : Calls Try.prog 9 #[.int .i64 3] w0 fun e w' => ∃ g, e = .returned (.tuple #[.pointer (some ⟨g, 0, none⟩), .int .i64 0]) ∧ Ce w0 w' g [] :=
  (new_some 3 w0 (by decide) (by decide)).mono fun e w' ⟨g, he, hg, hb⟩ => ⟨g, he, hg, hb⟩
theorem ce_add0 {w0 w : World} {g : Nat} (h : Ce w0 w g []) : Calls Try.prog 10 #[.pointer (some ⟨g, 0, none⟩), .agg #[.int .i64 (-1), .int .i64 1, .int .i64 2, .int .i64 5]] w fun e w' => e = .returned (.int .i64 0) ∧ Ce w0 w' g [ce0] :=
  (add_ok g ((3 : Nat) : Int) [] ce0 w0 w w0.heap.size (fun k => w0.heap.size ≤ k) h.1 h.2 h.2.size (by decide) (by decide) (by decide) (by decide) (by decide) (by decide) rfl (by decide)).mono
    fun e w' ⟨he, hg, hb, _⟩ => ⟨he, Gr.mono hg (fun k hk => hk.elim id (fun hk => Nat.le_trans h.2.size hk)), hb⟩
theorem ce_add1 {w0 w : World} {g : Nat} (h : Ce w0 w g [ce0]) : Calls Try.prog 10 #[.pointer (some ⟨g, 0, none⟩), .agg #[.int .i64 1, .int .i64 0, .int .i64 0, .int .i64 0]] w fun e w' => e = .returned (.int .i64 0) ∧ Ce w0 w' g [ce0, ce1] :=
  (add_ok g ((3 : Nat) : Int) [ce0] ce1 w0 w w0.heap.size (fun k => w0.heap.size ≤ k) h.1 h.2 h.2.size (by decide) (by decide) (by decide) (by decide) (by decide) (by decide) rfl (by decide)).mono
    fun e w' ⟨he, hg, hb, _⟩ => ⟨he, Gr.mono hg (fun k hk => hk.elim id (fun hk => Nat.le_trans h.2.size hk)), hb⟩
theorem ce_solve {w0 w : World} {g : Nat} (h : Ce w0 w g [ce0, ce1]) : Calls Try.prog 14 #[.pointer (some ⟨g, 0, none⟩)] w fun e w' => ∃ ad c, e = .returned (.slice (some ad) 3 c) ∧ Kd.C Kd.bool w' (some ad) 3 [true, true, false] ∧ Ce w0 w' g [ce0, ce1] ∧ Below w.heap.size w w' :=
  (solve_any g 3 [ce0, ce1] w _ _ h.1 ces_ok).mono fun e w' ⟨v, he, hv, hb⟩ => by
    rw [ces_solve] at hv
    obtain ⟨A, c, rfl, _, hC⟩ := Kd.R_reads hv
    obtain ⟨ad, rfl, _⟩ := Kd.at_bool hC 0 (by decide) (by decide)
    exact ⟨ad, c, he, hC, h.below hb, hb⟩
theorem ce_path {w0 w : World} {g : Nat} (h : Ce w0 w g [ce0, ce1]) : Calls Try.prog 21 #[.pointer (some ⟨g, 0, none⟩), .int .i64 0] w fun e w' => ∃ ad c, e = .returned (.slice (some ad) 2 c) ∧ Kd.C k29 w' (some ad) 2 [ce0, ce1] ∧ Ce w0 w' g [ce0, ce1] ∧ Below w.heap.size w w' :=
  (path_any g 3 [ce0, ce1] 0 3 [ce1, ce0] w _ _ h.1 ces_ok (by decide) (by decide) (by decide) ces_val ces_path).mono fun e w' ⟨v, he, hv, hb⟩ => by
    have hv' : Kd.R k29 29 w' w.heap.size (fun _ => True) v [ce0, ce1] := hv
    obtain ⟨A, c, rfl, _, hC⟩ := Kd.R_reads hv'
    obtain ⟨ad, rfl, _⟩ := at_T29 hC 0 (by decide) (by decide)
    exact ⟨ad, c, he, hC, h.below hb, hb⟩
theorem ce_shut {w0 w : World} {g : Nat} (h : Ce w0 w g [ce0, ce1]) : Calls Try.prog 17 #[.pointer (some ⟨g, 0, none⟩), .slice (some ⟨w.heap.size, 0, none⟩) 1 1] (w.alloc (.cells #[.int .i64 1] 3)) fun e w' => ∃ v A c, e = .returned (.tuple #[v, .slice A 1 c]) ∧ Ce w0 w' g [ce0, ce1] ∧ Below w.heap.size w w' := by
  have hC : Kd.C (Kd.int .i64) (w.alloc (.cells #[.int .i64 1] 3)) (some ⟨w.heap.size, 0, none⟩) 1 [1] := by
    have hR : Kd.R (Kd.int .i64) 3 (w.alloc (.cells #[.int .i64 1] 3)) w.heap.size (fun _ => True) (.slice (some ⟨w.heap.size, 0, none⟩) 1 1) [1] := Kd.R_of_own (own_lit w w.heap.size 3 .i64 [1] (Nat.le_refl _) (by decide)) (fun _ _ => trivial)
    exact (Kd.R_reads' hR).2.2
  have hb0 := below_alloc (Below.refl w.heap.size w) (.cells #[.int .i64 1] 3)
  refine (shut_any g 3 [ce0, ce1] (some ⟨w.heap.size, 0, none⟩) 1 [1] _ _ _ (Gr.below h.1 hb0) ces_ok hC (by intro x hx; rw [List.mem_singleton.1 hx]; decide) (by decide)).mono fun e w' ⟨v1, v2, he, hv1, hv2, hb⟩ => ?_
  rw [ces_cut] at hv2
  obtain ⟨A, c, rfl, _, _⟩ := Kd.R_reads hv2
  exact ⟨v1, A, c, he, h.below (below_then hb0 hb0.size hb), below_then hb0 hb0.size hb⟩
theorem ce_len {w0 w : World} {g : Nat} (h : Ce w0 w g [ce0, ce1]) : Calls Try.prog 12 #[.pointer (some ⟨g, 0, none⟩)] w fun e w' => e = .returned (.int .i64 3) ∧ w = w' := len_any g _ _ w _ _ h.1
theorem ce_edges {w0 w : World} {g : Nat} (h : Ce w0 w g [ce0, ce1]) : Calls Try.prog 11 #[.pointer (some ⟨g, 0, none⟩)] w fun e w' => ∃ A c, e = .returned (.slice A 2 c) ∧ Ce w0 w' g [ce0, ce1] ∧ Below w.heap.size w w' :=
  (edges_any g 3 [ce0, ce1] w _ _ h.1 (by decide)).mono fun e w' ⟨v, he, hv, hb⟩ => by
    obtain ⟨A, c, rfl, _, _⟩ := Kd.R_reads hv
    exact ⟨A, c, he, h.below hb, hb⟩
theorem ce_right {w0 w : World} {g : Nat} {ad : Addr} {c : Nat} (h : Ce w0 w g [ce0, ce1]) (hC : Kd.C Kd.bool w (some ad) 3 [true, true, false]) : Calls Try.prog 16 #[.pointer (some ⟨g, 0, none⟩), .slice (some ad) 3 c] w fun e w' => e = .returned (.bool true) ∧ Below w0.heap.size w0 w' :=
  (right_any g 3 [ce0, ce1] (some ad) c [true, true, false] w _ _ h.1 ces_ok rfl hC).mono fun e w' ⟨he, hb⟩ => ⟨he, below_then h.2 h.2.size hb⟩
set_option maxRecDepth 100000 in
set_option maxHeartbeats 4000000 in
theorem comes_any (w : World) : Calls Try.prog 8 #[] w fun e w' => e = .returned (.bool true) ∧ Below w.heap.size w w' := by
  have hu29 := Try.underlying29
  go_enter Try.func8, Try.ntmps8
  go_wp2_with (first
    | (go_at_call 9; (with_reducible refine (ce_new w).mono ?_); rintro e w1 ⟨g, rfl, h1⟩; have H1 := Aside0.mk h1; clear h1)
    | (go_at_call 10; (with_reducible refine (ce_add0 H1.out).mono ?_); rintro e w2 ⟨rfl, h2⟩; have H2 := Aside0.mk h2; clear h2 H1)
    | (go_at_call 10; (with_reducible refine (ce_add1 H2.out).mono ?_); rintro e w3 ⟨rfl, h3⟩; have H3 := Aside0.mk h3; clear h3 H2)
    | (go_at_call 14; (with_reducible refine (ce_solve H3.out).mono ?_); rintro e w4 ⟨ad4, c4, rfl, hC4, h4, _⟩; have H4 := Aside0.mk h4; have HC4 := Aside0.mk hC4; clear h4 hC4 H3)
    | (go_at_call 21; (with_reducible refine (ce_path H4.out).mono ?_); rintro e w5 ⟨ad5, c5, rfl, hC5, h5, hb5⟩; have H5 := Aside0.mk h5; have HC5 := Aside0.mk hC5; have HC45 := Aside0.mk (Kd.C_below HC4.out hb5); clear h5 hC5 hb5 H4 HC4)
    | (go_at_call 17; (with_reducible refine (ce_shut H5.out).mono ?_); rintro e w6 ⟨v6, A6, c6, rfl, h6, hb6⟩; have H6 := Aside0.mk h6; have HC56 := Aside0.mk (Kd.C_below HC5.out hb6); have HC46 := Aside0.mk (Kd.C_below HC45.out hb6); clear h6 hb6 H5 HC5 HC45; obtain ⟨ad, e0, q0⟩ := Kd.at_bool HC46.out 0 (by decide) (by decide); obtain rfl : ad4 = ad := (by injection e0); clear e0; obtain ⟨ad, e0, q1⟩ := Kd.at_bool HC46.out 1 (by decide) (by decide); obtain rfl : ad4 = ad := (by injection e0); clear e0; obtain ⟨ad, e0, q2⟩ := Kd.at_bool HC46.out 2 (by decide) (by decide); obtain rfl : ad4 = ad := (by injection e0); clear e0; obtain ⟨ad, e0, _, _, _, p3⟩ := at_T29 HC56.out 0 (by decide) (by decide); obtain rfl : ad5 = ad := (by injection e0); clear e0; replace q0 : World.cell? _ ad4 = some (.bool true) := (by rw [← add_zero' ad4]; exact q0); replace q1 : World.cell? _ ⟨ad4.block, ad4.off + 1, none⟩ = some (.bool true) := (by rw [← add_lit' ad4 1 (by decide)]; exact q1); replace q2 : World.cell? _ ⟨ad4.block, ad4.off + 2, none⟩ = some (.bool false) := (by rw [← add_lit' ad4 2 (by decide)]; exact q2); replace p3 : World.cell? _ ⟨ad5.block, ad5.off + 3, none⟩ = some (.int .i64 5) := (by have h := p3; rw [show ad5.add ((0 : Int).toNat * 4) = ad5 from add_zero' ad5] at h; exact h))
    | (go_at_call 12; (with_reducible refine (ce_len H6.out).mono ?_); rintro e w7 ⟨rfl, rfl⟩; skip)
    | (go_at_call 11; (with_reducible refine (ce_edges H6.out).mono ?_); rintro e w8 ⟨A8, c8, rfl, h8, hb8⟩; have H8 := Aside0.mk h8; have HC48 := Aside0.mk (Kd.C_below HC46.out hb8); clear h8 hb8 H6)
    | (go_at_call 16; (with_reducible refine (ce_right H8.out HC48.out).mono ?_); rintro e w9 ⟨rfl, h9⟩; have H9 := Aside0.mk h9; clear h9))
  go_ret
  exact ⟨rfl, H9.out⟩
end Go.Proofs.Ytlkmkoajfdmbeaa.PGraphWithout
