/- Plain laws of the graph's answers: what Solve tells is right, and least. No condition but that the edges lie in the graph. -/
import Derived.Test.YtlkmkoajfdmbeaaGw
import Derived.Test.YtlkmkoajfdmbeaaGt
namespace Go.Proofs.Ytlkmkoajfdmbeaa.PGraphWithout
open Go.RowKit Go.Proofs.YtlkmkoajfdmbeaaW.PrintWords
set_option linter.unusedVariables false
set_option linter.unusedSimpArgs false

theorem addE_inn {m : Nat} {es : List S29} {x : S29} (h : Inn m es) : Inn m (addE (m : Int) es x) := by
  unfold addE
  split
  · exact h
  · next hc =>
    intro e he
    rcases List.mem_append.1 he with he | he
    · exact h e he
    · rw [List.mem_singleton.1 he]
      have hb : badB (m : Int) x = false := by
        cases hb : badB (m : Int) x
        · rfl
        · rw [hb] at hc; exact absurd rfl hc
      have hn : ¬ bad (m : Int) x := fun h => by rw [badB_iff.2 h] at hb; cases hb
      unfold bad at hn
      exact ⟨by omega, by omega, by omega, by omega⟩
theorem addF_inn {m : Nat} : ∀ (l es : List S29), Inn m es → Inn m (l.foldl (addE (m : Int)) es)
  | [], es, h => h
  | x :: l, es, h => addF_inn l _ (addE_inn h)
theorem addF_len {n : Int} : ∀ (l es : List S29), (l.foldl (addE n) es).length ≤ es.length + l.length
  | [], es => by simp
  | x :: l, es => by
    have h1 := addF_len (n := n) l (addE n es x)
    have h2 := addE_len n es x
    rw [List.foldl_cons, List.length_cons]
    omega
theorem addAll_ok {m : Nat} (l : List S29) (hm : m ≤ 60) (hl : l.length ≤ 150) : Gok m (addAll (m : Int) l) ∧ (addAll (m : Int) l).length ≤ 150 := by
  have h1 := addF_len (n := (m : Int)) l []
  have h2 : Inn m (addAll (m : Int) l) := addF_inn l [] (fun e he => by cases he)
  unfold addAll at h2 ⊢
  simp only [List.length_nil] at h1
  exact ⟨⟨h2, by omega, by omega⟩, by omega⟩
section
variable {n : Nat} {es : List S29} {F : Int → Bool} {skip : Int}
theorem bools_ext {x y : List Bool} (hl : x.length = n) (hl2 : y.length = n) (h : ∀ a : Int, 0 ≤ a → a < n → rdOf false x a = rdOf false y a) : x = y := by
  apply List.ext_getElem?
  intro i
  by_cases hi : i < n
  · have := h (i : Int) (by omega) (by omega)
    unfold rdOf at this
    rw [Int.toNat_natCast, List.getD_eq_getElem?_getD, List.getD_eq_getElem?_getD, List.getElem?_eq_getElem (by omega), List.getElem?_eq_getElem (by omega)] at this
    rw [List.getElem?_eq_getElem (by omega), List.getElem?_eq_getElem (by omega)]
    exact congrArg some this
  · rw [List.getElem?_eq_none (by omega), List.getElem?_eq_none (by omega)]
theorem rchd_iff (hes : Inn n es) {a : Int} (h0 : 0 ≤ a) (h1 : a < n) : rdOf false (rchd (walkF n es F skip)) a = true ↔ ∃ m, Rc (Pv es F skip) m a := by
  rw [rchd_at hes h0 h1, decide_eq_true_iff, walk_iff hes h0 h1]
/-- What the document's Solve tells is what the walk tells. -/
theorem sol_is (hes : Inn n es) {l : List S41} {shut : List Int} (hin : Inn41 n l) (hP : ∀ e, Psh l shut e ↔ Pv es F skip e) : solL l shut (n + 1) (List.replicate n false) = some (rchd (walkF n es F skip)) := by
  obtain ⟨r, hr, hl, hs⟩ := sol_spec (shut := shut) hin
  rw [hr]
  congr 1
  refine bools_ext hl (rchd_len hes) (fun a h0 h1 => ?_)
  have h2 := hs a h0 h1
  have h3 := rchd_iff (F := F) (skip := skip) hes h0 h1
  have h4 : (∃ m, Rc (Psh l shut) m a) ↔ ∃ m, Rc (Pv es F skip) m a := ⟨fun ⟨m, h⟩ => ⟨m, h.mono (fun e he => (hP e).1 he)⟩, fun ⟨m, h⟩ => ⟨m, h.mono (fun e he => (hP e).2 he)⟩⟩
  cases hb : rdOf false r a with
  | true => exact (h3.2 (h4.1 (h2.1 hb))).symm
  | false =>
    cases hc : rdOf false (rchd (walkF n es F skip)) a with
    | true => rw [h2.2 (h4.2 (h3.1 hc))] at hb; cases hb
    | false => rfl
theorem mem_rd29 {e : S29} : e ∈ es ↔ ∃ k : Int, 0 ≤ k ∧ k < es.length ∧ rd_T29 es k = e := by
  constructor
  · intro h
    obtain ⟨i, hi, rfl⟩ := List.getElem_of_mem h
    exact ⟨(i : Int), by omega, by omega, by simp [rd_T29, List.getD_eq_getElem?_getD, List.getElem?_eq_getElem hi]⟩
  · rintro ⟨k, h0, h1, rfl⟩
    have hk : k.toNat < es.length := by omega
    have : rd_T29 es k = es[k.toNat] := by simp [rd_T29, List.getD_eq_getElem?_getD, List.getElem?_eq_getElem hk]
    rw [this]
    exact List.getElem_mem hk
theorem to41_inj {x y : S29} (h : to41 x = to41 y) : x = y := by
  obtain ⟨a, b, c, d⟩ := x
  obtain ⟨a', b', c', d'⟩ := y
  unfold to41 at h
  injection h with h1 h2 h3 h4
  subst h1 h2 h3 h4
  rfl
theorem mem_map41 {e : S29} : to41 e ∈ es.map to41 ↔ e ∈ es := by
  constructor
  · intro h
    obtain ⟨y, hy, he⟩ := List.mem_map.1 h
    rw [← to41_inj he]
    exact hy
  · exact fun h => List.mem_map.2 ⟨e, h, rfl⟩
theorem pv_shut {shut : List Int} (e : S29) : Psh (es.map to41) shut e ↔ Pv es (fun a => decide (a ∈ shut)) (-1) e := by
  unfold Psh Pv Vk
  rw [mem_map41, mem_rd29]
  constructor
  · rintro ⟨⟨k, h0, h1, rfl⟩, h2⟩
    exact ⟨k, ⟨h0, h1, by omega, decide_eq_false h2⟩, rfl⟩
  · rintro ⟨k, ⟨h0, h1, _, h2⟩, rfl⟩
    exact ⟨⟨k, h0, h1, rfl⟩, of_decide_eq_false h2⟩
theorem pv_all (e : S29) : Pv es (fun _ => false) (-1) e ↔ e ∈ es := by
  unfold Pv Vk
  rw [mem_rd29]
  exact ⟨fun ⟨k, h, he⟩ => ⟨k, h.1, h.2.1, he⟩, fun ⟨k, h0, h1, he⟩ => ⟨k, ⟨h0, h1, by omega, rfl⟩, he⟩⟩
theorem pv_none (e : S29) : Psh (es.map to41) [] e ↔ Pv es (fun _ => false) (-1) e := by
  rw [pv_all]
  unfold Psh
  rw [mem_map41]
  simp
/-- What Solve tells is right. -/
theorem solve_right (hes : Inn n es) : es.any (brk (rchd (walkF n es (fun _ => false) (-1)))) = false := by
  rw [List.any_eq_false]
  intro e he hb
  have hin := hes e he
  unfold brk at hb
  rw [Bool.and_eq_true, Bool.or_eq_true, beq_iff_eq, Bool.not_eq_true'] at hb
  obtain ⟨h1, h2⟩ := hb
  have hp : Pv es (fun _ => false) (-1) e := (pv_all e).2 he
  have hm : ∃ m, Rc (Pv es (fun _ => false) (-1)) m e.f0 := by
    by_cases h3 : e.f0 = -1
    · exact ⟨0, by rw [h3]; exact .null⟩
    · exact (rchd_iff hes (by have := hin.1; omega) hin.2.1).1 (h1.resolve_left h3)
  obtain ⟨m, hm⟩ := hm
  rw [(rchd_iff (F := fun _ => false) (skip := -1) hes hin.2.2.1 hin.2.2.2).2 ⟨m + 1, .step hm hp rfl⟩] at h2
  cases h2
/-- It is least. -/
theorem solve_least (hes : Inn n es) {s : List Bool} (hb : es.any (brk s) = false) {a : Int} (h0 : 0 ≤ a) (h1 : a < n) (h : rdOf false (rchd (walkF n es (fun _ => false) (-1))) a = true) : rdOf false s a = true := by
  obtain ⟨m, hm⟩ := (rchd_iff hes h0 h1).1 h
  have key : ∀ (m : Nat) (a : Int), Rc (Pv es (fun _ => false) (-1)) m a → a = -1 ∨ rdOf false s a = true := by
    intro m a h
    induction h with
    | null => exact .inl rfl
    | @step m a e h hp ha ih =>
      have he := (pv_all e).1 hp
      have h2 := (List.any_eq_false.1 hb) e he
      unfold brk at h2
      subst ha
      cases hc : rdOf false s e.f1 with
      | true => exact .inr rfl
      | false =>
        rw [hc] at h2
        exfalso
        apply h2
        rcases ih with h3 | h3
        · rw [h3]; rfl
        · rw [h3]; simp
  rcases key m a hm with h2 | h2
  · omega
  · exact h2
theorem inn_zero (hes : Inn 0 es) : es = [] := by
  cases es with
  | nil => rfl
  | cons e es =>
    have := hes e List.mem_cons_self
    have h1 := this.2.2.1
    have h2 := this.2.2.2
    omega
end
end Go.Proofs.Ytlkmkoajfdmbeaa.PGraphWithout
