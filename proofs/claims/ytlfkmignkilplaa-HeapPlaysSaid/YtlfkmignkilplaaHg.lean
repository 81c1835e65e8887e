/- The heap's functions, each case of what they answer in one; Objects, Cells. No condition but that the heap is one. -/
import Derived.Test.YtlfkmignkilplaaHf
namespace Go.Proofs.Ytlfkmignkilplaa.PHeapPlays
open Go.RowKit Go.Proofs.YtlfkmignkilplaaW.PrintWords Go.Proofs.YtlfkmignkilplaaW.PrintLast Go.Proofs.YtlfkmignkilplaaW.PrintMore
set_option linter.unusedVariables false
set_option linter.unusedSimpArgs false

theorem load_any (g : Nat) (xs : List S67) (x : S32) (i : Int) (r : S32) (c : Int) (w : World) (base : Nat) (ok : Nat → Prop) (h : Hp w base ok g xs) (hr : loadL xs x i = (r, c)) :
    Calls Try.prog 10 #[.pointer (some ⟨g, 0, none⟩), .agg #[.int .i64 x.f0, .int .i64 x.f1, .string x.f2], .int .i64 i] w fun e w' => e = .returned (.tuple #[.agg #[.int .i64 r.f0, .int .i64 r.f1, .string r.f2], .int .i64 c]) ∧ Below w.heap.size w w' := by
  unfold loadL at hr
  cases ht : there x xs.length with
  | false =>
    rw [ht] at hr
    simp only [Bool.false_eq_true, if_false, Prod.mk.injEq] at hr
    obtain ⟨rfl, rfl⟩ := hr
    exact load_none g xs x i w base ok h ht
  | true =>
    rw [ht] at hr
    simp only [if_true] at hr
    by_cases hi : 0 ≤ i
    · by_cases hi2 : i < (rd_T67 xs x.f1).f3.length
      · rw [if_pos ⟨hi, hi2⟩] at hr
        simp only [Prod.mk.injEq] at hr
        obtain ⟨rfl, rfl⟩ := hr
        exact load_mid g xs x i w base ok h ht hi hi2
      · rw [if_neg (fun hc => hi2 hc.2)] at hr
        simp only [Prod.mk.injEq] at hr
        obtain ⟨rfl, rfl⟩ := hr
        exact load_high g xs x i w base ok h ht hi (by omega)
    · rw [if_neg (fun hc => hi hc.1)] at hr
      simp only [Prod.mk.injEq] at hr
      obtain ⟨rfl, rfl⟩ := hr
      exact load_low g xs x i w base ok h ht (by omega)
/-- What a store that leaves the heap as it is answers; what the heap is behind one. -/
def storeC (xs : List S67) (x : S32) (i : Int) : Int := if there x xs.length then (if 0 ≤ i ∧ i < (rd_T67 xs x.f1).f3.length then 0 else 1) else 3
def storeL (xs : List S67) (x : S32) (i : Int) (u : S32) : List S67 := if storeC xs x i = 0 then putL xs x.f1 i u else xs
theorem store_any (g : Nat) (xs : List S67) (x : S32) (i : Int) (u : S32) (w : World) (base : Nat) (ok : Nat → Prop) (h : Hp w base ok g xs) (hle : base ≤ w.heap.size) (c : Int) (ys : List S67) (hc : storeC xs x i = c) (hy : storeL xs x i u = ys) :
    Calls Try.prog 11 #[.pointer (some ⟨g, 0, none⟩), .agg #[.int .i64 x.f0, .int .i64 x.f1, .string x.f2], .int .i64 i, .agg #[.int .i64 u.f0, .int .i64 u.f1, .string u.f2]] w fun e w' => e = .returned (.int .i64 c) ∧ Hp w' base ok g ys ∧ Below base w w' ∧ Kept w w' ok := by
  subst hy
  have lift : ∀ {c : Int}, storeC xs x i = c → c ≠ 0 → (Calls Try.prog 11 #[.pointer (some ⟨g, 0, none⟩), .agg #[.int .i64 x.f0, .int .i64 x.f1, .string x.f2], .int .i64 i, .agg #[.int .i64 u.f0, .int .i64 u.f1, .string u.f2]] w fun e w' => e = .returned (.int .i64 c) ∧ Below w.heap.size w w') → Calls Try.prog 11 #[.pointer (some ⟨g, 0, none⟩), .agg #[.int .i64 x.f0, .int .i64 x.f1, .string x.f2], .int .i64 i, .agg #[.int .i64 u.f0, .int .i64 u.f1, .string u.f2]] w fun e w' => e = .returned (.int .i64 c) ∧ Hp w' base ok g (storeL xs x i u) ∧ Below base w w' ∧ Kept w w' ok := by
    intro c hc h0 hcall
    refine hcall.mono ?_
    rintro e w' ⟨rfl, hb⟩
    have he : storeL xs x i u = xs := by unfold storeL; rw [if_neg (by rw [hc]; exact h0)]
    rw [he]
    exact ⟨rfl, h.below hb, hb.mono hle, Kept.of_below hb ok⟩
  have hc0 := hc
  unfold storeC at hc
  cases ht : there x xs.length with
  | false =>
    rw [ht] at hc
    simp only [Bool.false_eq_true, if_false] at hc
    subst hc
    exact lift hc0 (by decide) (store_none g xs x i u w base ok h ht)
  | true =>
    rw [ht] at hc
    simp only [if_true] at hc
    by_cases hi : 0 ≤ i
    · by_cases hi2 : i < (rd_T67 xs x.f1).f3.length
      · rw [if_pos ⟨hi, hi2⟩] at hc
        subst hc
        have he : storeL xs x i u = putL xs x.f1 i u := by unfold storeL; rw [if_pos hc0]
        rw [he]
        exact store_ok g xs x i u w base ok h ht hi hi2 hle
      · rw [if_neg (fun hc => hi2 hc.2)] at hc
        subst hc
        exact lift hc0 (by decide) (store_high g xs x i u w base ok h ht hi (by omega))
    · rw [if_neg (fun hc => hi hc.1)] at hc
      subst hc
      exact lift hc0 (by decide) (store_low g xs x i u w base ok h ht (by omega))
theorem len_any (g : Nat) (xs : List S67) (x : S32) (r : Int) (w : World) (base : Nat) (ok : Nat → Prop) (h : Hp w base ok g xs) (hr : (if there x xs.length then (((rd_T67 xs x.f1).f3.length : Nat) : Int) else -1) = r) :
    Calls Try.prog 16 #[.pointer (some ⟨g, 0, none⟩), .agg #[.int .i64 x.f0, .int .i64 x.f1, .string x.f2]] w fun e w' => e = .returned (.int .i64 r) ∧ Below w.heap.size w w' := by
  cases ht : there x xs.length with
  | false =>
    rw [ht] at hr
    subst hr
    exact len_none g xs x w base ok h ht
  | true =>
    rw [ht] at hr
    subst hr
    exact len_some g xs x w base ok h ht
theorem class_any (g : Nat) (xs : List S67) (x : S32) (r : ByteArray) (b : Bool) (w : World) (base : Nat) (ok : Nat → Prop) (h : Hp w base ok g xs) (hr : (if there x xs.length && !(rd_T67 xs x.f1).f2 then ((rd_T67 xs x.f1).f0, true) else (⟨#[]⟩, false)) = (r, b)) :
    Calls Try.prog 14 #[.pointer (some ⟨g, 0, none⟩), .agg #[.int .i64 x.f0, .int .i64 x.f1, .string x.f2]] w fun e w' => e = .returned (.tuple #[.string r, .bool b]) ∧ Below w.heap.size w w' := by
  cases ht : there x xs.length with
  | false =>
    rw [ht] at hr
    simp only [Bool.false_and, Bool.false_eq_true, if_false, Prod.mk.injEq] at hr
    obtain ⟨rfl, rfl⟩ := hr
    exact class_none g xs x w base ok h ht
  | true =>
    cases ha : (rd_T67 xs x.f1).f2 with
    | false =>
      rw [ht, ha] at hr
      simp only [Bool.not_false, Bool.and_self, if_true, Prod.mk.injEq] at hr
      obtain ⟨rfl, rfl⟩ := hr
      exact class_object g xs x w base ok h ht ha
    | true =>
      rw [ht, ha] at hr
      simp only [Bool.not_true, Bool.and_false, Bool.false_eq_true, if_false, Prod.mk.injEq] at hr
      obtain ⟨rfl, rfl⟩ := hr
      exact class_array g xs x w base ok h ht ha
theorem elem_any (g : Nat) (xs : List S67) (x : S32) (r : S30) (b : Bool) (w : World) (base : Nat) (ok : Nat → Prop) (h : Hp w base ok g xs) (hr : (if there x xs.length && (rd_T67 xs x.f1).f2 then ((rd_T67 xs x.f1).f1, true) else (z30, false)) = (r, b)) :
    Calls Try.prog 15 #[.pointer (some ⟨g, 0, none⟩), .agg #[.int .i64 x.f0, .int .i64 x.f1, .string x.f2]] w fun e w' => e = .returned (.tuple #[.agg #[.int .i64 r.f0, .string r.f1, .int .i64 r.f2, .string r.f3], .bool b]) ∧ Below w.heap.size w w' := by
  cases ht : there x xs.length with
  | false =>
    rw [ht] at hr
    simp only [Bool.false_and, Bool.false_eq_true, if_false, Prod.mk.injEq] at hr
    obtain ⟨rfl, rfl⟩ := hr
    exact elem_none g xs x w base ok h ht
  | true =>
    cases ha : (rd_T67 xs x.f1).f2 with
    | false =>
      rw [ht, ha] at hr
      simp only [Bool.and_false, Bool.false_eq_true, if_false, Prod.mk.injEq] at hr
      obtain ⟨rfl, rfl⟩ := hr
      exact elem_object g xs x w base ok h ht ha
    | true =>
      rw [ht, ha] at hr
      simp only [Bool.and_self, if_true, Prod.mk.injEq] at hr
      obtain ⟨rfl, rfl⟩ := hr
      exact elem_array g xs x w base ok h ht ha
theorem objects_any (g : Nat) (xs : List S67) (w : World) (base : Nat) (ok : Nat → Prop) (h : Hp w base ok g xs) :
    Calls Try.prog 12 #[.pointer (some ⟨g, 0, none⟩)] w fun e w' => e = .returned (.int .i64 (xs.length : Nat)) ∧ w = w' := by
  obtain ⟨A, c, hg, _⟩ := h.head
  have hc : w.cell? ⟨g, 0, none⟩ = some (.slice A xs.length c) := (blk_cell hg 0).trans rfl
  clear hg
  have hu26 := Try.underlying26
  go_enter Try.func12, Try.ntmps12
  go_wp2
  go_ret
  exact ⟨rfl, rfl⟩
theorem cells_any (g : Nat) (xs : List S67) (w : World) (base : Nat) (ok : Nat → Prop) (h : Hp w base ok g xs) :
    Calls Try.prog 13 #[.pointer (some ⟨g, 0, none⟩)] w fun e w' => e = .returned (.int .i64 (tot xs : Nat)) ∧ w = w' := by
  obtain ⟨A, c, hg, _⟩ := h.head
  have hc : w.cell? ⟨g, 1, none⟩ = some (.int .i64 (tot xs : Nat)) := (blk_cell hg 1).trans rfl
  clear hg
  have hu26 := Try.underlying26
  go_enter Try.func13, Try.ntmps13
  go_wp2
  go_ret
  exact ⟨rfl, rfl⟩
/-- A heap of nothing, as the zero one is. -/
theorem Hp.nil {w : World} {base : Nat} {ok : Nat → Prop} {g : Nat} (h : w.heap[g]? = some (.cells #[.slice none 0 0, .int .i64 0] 26 (0, 0))) (hok : ok g) (hb : base ≤ g) : Hp w base ok g [] := ⟨_, h, hok, hb, Kd.S_nil _ _ _ _ _⟩
end Go.Proofs.Ytlfkmignkilplaa.PHeapPlays
