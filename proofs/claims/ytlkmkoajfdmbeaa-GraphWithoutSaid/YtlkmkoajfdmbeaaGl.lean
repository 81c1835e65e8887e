/- The law's own helper find: what it answers. No condition but that the slice is read. -/
import Derived.Test.YtlkmkoajfdmbeaaGk
import Derived.Test.YtlkmkoajfdmbeaaPGraphWithoutx4
namespace Go.Proofs.Ytlkmkoajfdmbeaa.PGraphWithout
open Go.RowKit Go.Proofs.YtlkmkoajfdmbeaaW.PrintWords Go.Proofs.YtlkmkoajfdmbeaaW.PrintLast Go.Proofs.YtlkmkoajfdmbeaaW.PrintMore
open Go.Maps Go.MapKept Go.ChangeShapes
set_option linter.unusedVariables false
set_option linter.unusedSimpArgs false
attribute [local go_sem high] eqA41

/-- An edge of the one type as one of the other. -/
def to41 (x : S29) : S41 := ⟨x.f0, x.f1, x.f2, x.f3⟩
def to29 (x : S41) : S29 := ⟨x.f0, x.f1, x.f2, x.f3⟩
def findE (l : List S29) (e : S29) : S29 := (l.find? (same29 · e)).getD ⟨-9, 0, 0, 0⟩
set_option maxRecDepth 100000 in
set_option maxHeartbeats 2000000 in
theorem find_any (l : List S29) (e : S29) (A : Option Addr) (c : Nat) (w : World) (hr : Kd.C k29 w A l.length l) (hl : l.length ≤ 100000) :
    Calls Try.prog 20 #[.slice A l.length c, .agg #[.int .i64 e.f0, .int .i64 e.f1, .int .i64 e.f2, .int .i64 e.f3]] w fun en w' => en = .returned (.agg #[.int .i64 (findE l e).f0, .int .i64 (findE l e).f1, .int .i64 (findE l e).f2, .int .i64 (findE l e).f3]) ∧ Below w.heap.size w w' := by
  have hu29 := Try.underlying29
  have hu41 := Try.underlying41
  have HR := Aside0.mk hr; have HL := Aside0.mk hl
  clear hr
  obtain ⟨ea, eb, ec, ed⟩ := e
  simp only
  have HB1 := Aside0.mk (below_alloc (below_alloc (Below.refl w.heap.size w) (.cells #[.int .i64 ea, .int .i64 eb, .int .i64 ec, .int .i64 ed] 41)) (.cells #[.int .i64 0, .int .i64 0, .int .i64 0, .int .i64 0] 29))
  have HP1 := Aside0.mk (blk_alloc (blk_new w (.cells #[.int .i64 ea, .int .i64 eb, .int .i64 ec, .int .i64 ed] 41)) (.cells #[.int .i64 0, .int .i64 0, .int .i64 0, .int .i64 0] 29))
  have HQ1 := Aside0.mk (blk_new (w.alloc (.cells #[.int .i64 ea, .int .i64 eb, .int .i64 ec, .int .i64 ed] 41)) (.cells #[.int .i64 0, .int .i64 0, .int .i64 0, .int .i64 0] 29))
  replace HQ1 := Aside0.mk (show ((w.alloc (.cells #[.int .i64 ea, .int .i64 eb, .int .i64 ec, .int .i64 ed] 41)).alloc (.cells #[.int .i64 0, .int .i64 0, .int .i64 0, .int .i64 0] 29)).heap[w.heap.size + 1]? = some (.cells #[.int .i64 0, .int .i64 0, .int .i64 0, .int .i64 0] 29 (0, 0)) by have := HQ1.out; simpa using this)
  go_enter Try.func20, Try.ntmps20
  go_wp2
  generalize ((w.alloc (.cells #[.int .i64 ea, .int .i64 eb, .int .i64 ec, .int .i64 ed] 41)).alloc (.cells #[.int .i64 0, .int .i64 0, .int .i64 0, .int .i64 0] 29)) = w1 at HB1 HP1 HQ1 ⊢
  go_loopg [9] (l.length + 1) (fun kq v9 w' => ∃ j : Nat, v9 = .int .i64 (j : Int) ∧ Aside0 (j + kq = l.length + 1 ∧ j ≤ l.length) ∧ Aside0 (findE l ⟨ea, eb, ec, ed⟩ = findE (l.drop j) ⟨ea, eb, ec, ed⟩) ∧ Aside0 (w'.heap[w.heap.size]? = some (.cells #[.int .i64 ea, .int .i64 eb, .int .i64 ec, .int .i64 ed] 41 (0, 0))) ∧ Aside0 (w'.heap[w.heap.size + 1]? = some (.cells #[.int .i64 0, .int .i64 0, .int .i64 0, .int .i64 0] 29 (0, 0))) ∧ Aside0 (Below w.heap.size w w'))
  case atStart => exact ⟨0, rfl, ⟨by omega, by omega⟩, ⟨rfl⟩, HP1, HQ1, HB1⟩
  case round =>
    clear HP1 HQ1 HB1
    obtain ⟨j, rfl, HK1, HF, HP, HQ, HB⟩ := hrel
    by_cases hj : j < l.length
    · have hjd : decide ((j : Int) < (l.length : Int)) = true := decide_eq_true (by omega)
      have hj0 : 0 ≤ (j : Int) := by omega
      have hj1 : (j : Int) < (l.length : Int) := by omega
      obtain ⟨ade, eade, x0, x1, x2, x3⟩ := at_T29 HR.out (j : Int) hj0 hj1
      obtain ⟨y, he⟩ : ∃ y, y = rd_T29 l (j : Int) := ⟨_, rfl⟩
      have hd : l.drop j = y :: l.drop (j + 1) := by
        rw [List.drop_eq_getElem_cons hj, he]
        congr 1
        simp [rd_T29, List.getD_eq_getElem?_getD, List.getElem?_eq_getElem hj]
      rw [← he] at x0 x1 x2 x3
      rw [hd] at HF
      clear he hd
      obtain ⟨ya, yb, yc, yd⟩ := y
      simp only at x0 x1 x2 x3
      simp only [Int.toNat_natCast] at x0 x1 x2 x3
      replace x0 := (HB.out.cell (World.block_lt_of_cell? w _ x0)).trans x0
      replace x1 := (HB.out.cell (World.block_lt_of_cell? w _ x1)).trans x1
      replace x2 := (HB.out.cell (World.block_lt_of_cell? w _ x2)).trans x2
      replace x3 := (HB.out.cell (World.block_lt_of_cell? w _ x3)).trans x3
      subst eade
      have HP2 := Aside0.mk (blk_alloc HP.out (.cells #[.int .i64 ya, .int .i64 yb, .int .i64 yc, .int .i64 yd] 29))
      have HQ2 := Aside0.mk (blk_alloc HQ.out (.cells #[.int .i64 ya, .int .i64 yb, .int .i64 yc, .int .i64 yd] 29))
      have HB2 := Aside0.mk (below_alloc HB.out (.cells #[.int .i64 ya, .int .i64 yb, .int .i64 yc, .int .i64 yd] 29))
      have z0 := blk_cell HP2.out 0
      have z1 := blk_cell HP2.out 1
      have z2 := blk_cell HP2.out 2
      have z3 := blk_cell HP2.out 3
      simp only [List.getElem?_toArray, List.getElem?_cons_zero, List.getElem?_cons_succ] at z0 z1 z2 z3
      have HJ := Aside0.mk hj
      clear hj
      by_cases hs : same29 ⟨ya, yb, yc, yd⟩ ⟨ea, eb, ec, ed⟩ = true
      · have e1 : (ya == ea && (yb == eb && (yc == ec && yd == ed))) = true := hs
        have HF2 := Aside0.mk (show findE l ⟨ea, eb, ec, ed⟩ = ⟨ya, yb, yc, yd⟩ by rw [HF.out]; unfold findE; rw [List.find?_cons_of_pos (p := (same29 · ⟨ea, eb, ec, ed⟩)) hs]; rfl)
        clear hs
        have q0 := blk_cell HQ2.out 0
        have q1 := blk_cell HQ2.out 1
        have q2 := blk_cell HQ2.out 2
        have q3 := blk_cell HQ2.out 3
        simp only [List.getElem?_toArray, List.getElem?_cons_zero, List.getElem?_cons_succ] at q0 q1 q2 q3
        have f0 := blk_frozen HQ2.out 0
        have f1 := blk_frozen HQ2.out 1
        have f2 := blk_frozen HQ2.out 2
        have f3 := blk_frozen HQ2.out 3
        go_wp2
        refine bodyPost_ret (results_cell_row rfl _ _ (w.heap.size + 1) 29 #[.int .i64 ya, .int .i64 yb, .int .i64 yc, .int .i64 yd] (0, 0) _ rfl (by refine blk_put (cs := #[.int .i64 ya, .int .i64 yb, .int .i64 yc, .int .i64 0]) ?_ 3 _ rfl; refine blk_put (cs := #[.int .i64 ya, .int .i64 yb, .int .i64 0, .int .i64 0]) ?_ 2 _ rfl; refine blk_put (cs := #[.int .i64 ya, .int .i64 0, .int .i64 0, .int .i64 0]) ?_ 1 _ rfl; refine blk_put (cs := #[.int .i64 0, .int .i64 0, .int .i64 0, .int .i64 0]) ?_ 0 _ rfl; exact HQ2.out) Try.underlying29 rfl (by kernel_rfl)) rfl ?_
        exact ⟨by rw [HF2.out], below_set (below_set (below_set (below_set HB2.out (Nat.le_succ _)) (Nat.le_succ _)) (Nat.le_succ _)) (Nat.le_succ _)⟩
      · have e1 : (ya == ea && (yb == eb && (yc == ec && yd == ed))) = false := by simpa [same29] using hs
        have HF2 := Aside0.mk (show findE l ⟨ea, eb, ec, ed⟩ = findE (l.drop (j + 1)) ⟨ea, eb, ec, ed⟩ by rw [HF.out]; unfold findE; rw [List.find?_cons_of_neg (p := (same29 · ⟨ea, eb, ec, ed⟩)) hs])
        clear hs
        go_wp2
        go_roundg (l.length - j)
        case measure => have := HK1.out; omega
        case rel => exact ⟨j + 1, by go_num, ⟨by have := HK1.out; have := HJ.out; omega, by have := HJ.out; omega⟩, HF2, HP2, HQ2, HB2⟩
    · obtain rfl : j = l.length := by have := HK1.out; omega
      have hjd : decide ((l.length : Int) < (l.length : Int)) = false := decide_eq_false (by omega)
      clear hj
      rw [List.drop_length] at HF
      have HF2 := Aside0.mk (show findE l ⟨ea, eb, ec, ed⟩ = ⟨-9, 0, 0, 0⟩ by rw [HF.out]; rfl)
      have q0 := blk_cell HQ.out 0
      have q1 := blk_cell HQ.out 1
      have q2 := blk_cell HQ.out 2
      have q3 := blk_cell HQ.out 3
      simp only [List.getElem?_toArray, List.getElem?_cons_zero, List.getElem?_cons_succ] at q0 q1 q2 q3
      have f0 := blk_frozen HQ.out 0
      have f1 := blk_frozen HQ.out 1
      have f2 := blk_frozen HQ.out 2
      have f3 := blk_frozen HQ.out 3
      go_wp2
      refine bodyPost_ret (results_cell_row rfl _ _ (w.heap.size + 1) 29 #[.int .i64 (-9), .int .i64 0, .int .i64 0, .int .i64 0] (0, 0) _ rfl (by refine blk_put (cs := #[.int .i64 (-9), .int .i64 0, .int .i64 0, .int .i64 0]) ?_ 3 _ rfl; refine blk_put (cs := #[.int .i64 (-9), .int .i64 0, .int .i64 0, .int .i64 0]) ?_ 2 _ rfl; refine blk_put (cs := #[.int .i64 (-9), .int .i64 0, .int .i64 0, .int .i64 0]) ?_ 1 _ rfl; refine blk_put (cs := #[.int .i64 0, .int .i64 0, .int .i64 0, .int .i64 0]) ?_ 0 _ rfl; exact HQ.out) Try.underlying29 rfl (by kernel_rfl)) rfl ?_
      exact ⟨by rw [HF2.out], below_set (below_set (below_set (below_set HB.out (Nat.le_succ _)) (Nat.le_succ _)) (Nat.le_succ _)) (Nat.le_succ _)⟩
end Go.Proofs.Ytlkmkoajfdmbeaa.PGraphWithout
