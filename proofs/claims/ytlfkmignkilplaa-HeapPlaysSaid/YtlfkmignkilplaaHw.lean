/- The law HeapPlays, walked: it returns true. No condition but that the slice is read. -/
import Derived.Test.YtlfkmignkilplaaHv
import Derived.Test.YtlfkmignkilplaaHq
import Derived.Test.YtlfkmignkilplaaHh
namespace Go.Proofs.Ytlfkmignkilplaa.PHeapPlays
open Go.RowKit Go.Proofs.YtlfkmignkilplaaW.PrintWords Go.Proofs.YtlfkmignkilplaaW.PrintLast Go.Proofs.YtlfkmignkilplaaW.PrintMore
set_option linter.unusedVariables false
set_option linter.unusedSimpArgs false

theorem St.objectsOf {w0 w : World} {N hb : Nat} {v : Value} {ys xs : List S67} (h : St w0 w N hb v ys xs) :
    Calls Try.prog 12 #[.pointer (some ⟨hb, 0, none⟩)] w fun e w' => e = .returned (.int .i64 (ys.length : Nat)) ∧ w = w' := by
  obtain ⟨ok, h1⟩ := h.hp
  exact objects_any hb ys w _ ok h1
theorem St.cellsOf {w0 w : World} {N hb : Nat} {v : Value} {ys xs : List S67} (h : St w0 w N hb v ys xs) :
    Calls Try.prog 13 #[.pointer (some ⟨hb, 0, none⟩)] w fun e w' => e = .returned (.int .i64 (tot ys : Nat)) ∧ w = w' := by
  obtain ⟨ok, h1⟩ := h.hp
  exact cells_any hb ys w _ ok h1
set_option maxRecDepth 1000000 in
set_option maxHeartbeats 8000000 in
theorem HeapPlays_early (l : List S34) (A : Option Addr) (c : Nat) (w : World) (hl : 40 < l.length) :
    Calls Try.prog 3 #[.slice A l.length c] w fun e w' => e = .returned (.bool true) ∧ Below w.heap.size w w' := by
  have d1 : decide (40 < (l.length : Int)) = true := decide_eq_true (by omega)
  have d2 : decide (40 < l.length) = true := decide_eq_true hl
  clear hl
  go_enter Try.func3, Try.ntmps3
  go_wp2_with (go_at_call 5; (with_reducible refine (keeps_any w).mono ?_); rintro e w1 ⟨rfl, hb1⟩; have HB1 := Aside0.mk hb1; clear hb1)
  go_ret
  exact ⟨rfl, HB1.out⟩
set_option maxRecDepth 1000000 in
set_option maxHeartbeats 8000000 in
theorem HeapPlays_late (l : List S34) (A : Option Addr) (c : Nat) (w : World) (hl : l.length ≤ 40) (hr : Kd.C k34 w A l.length l) :
    Calls Try.prog 3 #[.slice A l.length c] w fun e w' => e = .returned (.bool true) ∧ Below w.heap.size w w' := by
  have d1 : decide (40 < (l.length : Int)) = false := decide_eq_false (by omega)
  have d2 : decide (40 < l.length) = false := decide_eq_false (by omega)
  have HL := Aside0.mk hl
  have HR := Aside0.mk hr
  clear hl hr
  go_enter Try.func3, Try.ntmps3
  go_wp2_with (go_at_call 5; (with_reducible refine (keeps_any w).mono ?_); rintro e w1 ⟨rfl, hb1⟩; have HB1 := Aside0.mk hb1; clear hb1)
  clear d1 d2
  obtain ⟨wl, hwl⟩ : ∃ wl : World, wl = w1.alloc (.cells #[.slice none 0 0, .int .i64 0] 26) := ⟨_, rfl⟩
  have HSl := Aside0.mk (show St w wl wl.heap.size w1.heap.size (.slice none 0 0) [] [] by rw [hwl]; exact ⟨Nat.le_refl _, below_alloc HB1.out _, fun k => k = w1.heap.size, fun _ => False, Hp.nil (blk_new w1 (.cells #[.slice none 0 0, .int .i64 0] 26)) rfl HB1.out.size, Kd.S_nil _ _ _ _ _, fun k hk => by subst hk; simp, fun _ hk => hk.elim⟩)
  rw [← hwl]
  clear hwl
  refine loop1 arms w wl l A c w1.heap.size _ _ ?_ ?_ ?_ HL.out HR.out (PJ_mk (.slice none 0 0) wl.heap.size [] ⟨by simp, HSl.out, by simp [tot], fun y hy => by cases hy⟩ (by kernel_rfl))
  rotate_left
  · rintro a w' ⟨h2, hd, hb⟩
    refine ⟨hd, .bool true, ?_, rfl, hb⟩
    rw [← h2]
    first | rfl | kernel_rfl
  · intro c a N v w' h
    cases N <;> exact h
  rintro a w2 ⟨u, v, M, xs, ⟨hxl, hS, htx, hwf⟩, rfl⟩
  obtain ⟨Av, cv, rfl, hcv⟩ := hS.slice
  have HS := Aside0.mk hS
  have HF := Aside0.mk (And.intro htx (And.intro hwf (show xs.length ≤ 40 by have := HL.out; omega)))
  clear hxl hS htx hwf HSl
  go_wp2_with (first
    | (go_at_call 12; ((with_reducible refine HS.out.objectsOf.mono ?_); rintro e w3 ⟨rfl, rfl⟩))
    | (go_at_call 13; ((with_reducible refine HS.out.cellsOf.mono ?_); rintro e w4 ⟨rfl, rfl⟩)))
  refine loop5 w _ l A c w1.heap.size _ xs _ _ ?_ ?_ HF.out.2.1 HF.out.2.2 HF.out.1 (PT_mk M HS.out (by kernel_rfl))
  rotate_left
  · intro c a N v w' h
    cases N <;> exact h
  rintro a w5 ⟨u2, N2, hS, rfl⟩
  have HS5 := Aside0.mk hS
  have HLN := Aside0.mk (show (if there (⟨5, (xs.length : Int), ⟨#[]⟩⟩ : S32) xs.length then (((rd_T67 xs (xs.length : Int)).f3.length : Nat) : Int) else -1) = -1 by
    have : there (⟨5, (xs.length : Int), ⟨#[]⟩⟩ : S32) xs.length = false := by unfold there; simp
    rw [this]; rfl)
  clear hS HS
  go_wp2_with (first
    | (go_at_call 8; (with_reducible refine (at_any _ _).mono ?_); rintro e w6 ⟨rfl, hb6⟩; have HS6 := Aside0.mk (HS5.out.below hb6); clear hb6)
    | (go_at_call 16; refine (St.lenOf HS6.out ⟨5, (xs.length : Int), ⟨#[]⟩⟩ (rd_T67 xs (xs.length : Int)) (-1) rfl HLN.out).mono ?_; rintro e w7 ⟨rfl, hs, hb7⟩; have HS7 := Aside0.mk hs; clear hs hb7))
  go_ret
  exact ⟨rfl, HS7.out.bel⟩
theorem HeapPlays_any (l : List S34) (A : Option Addr) (c : Nat) (w : World) (hr : Kd.C k34 w A l.length l) :
    Calls Try.prog 3 #[.slice A l.length c] w fun e w' => e = .returned (.bool true) ∧ Below w.heap.size w w' := by
  by_cases h : 40 < l.length
  · exact HeapPlays_early l A c w h
  · exact HeapPlays_late l A c w (by omega) hr
end Go.Proofs.Ytlfkmignkilplaa.PHeapPlays
