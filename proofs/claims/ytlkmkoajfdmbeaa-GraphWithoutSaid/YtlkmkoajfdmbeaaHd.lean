/- Plain laws of the graph without an edge; what the calls of the law GraphWithout answer. No condition but that the edges lie in the graph. -/
import Derived.Test.YtlkmkoajfdmbeaaHc
namespace Go.Proofs.Ytlkmkoajfdmbeaa.PGraphWithout
open Go.RowKit Go.Proofs.YtlkmkoajfdmbeaaW.PrintWords Go.Proofs.YtlkmkoajfdmbeaaW.PrintLast Go.Proofs.YtlkmkoajfdmbeaaW.PrintMore
open Go.Maps Go.MapKept Go.ChangeShapes
set_option linter.unusedVariables false
set_option linter.unusedSimpArgs false

section
variable {n : Nat} {es : List S29}
theorem pv_out {edge : Int} (h : ¬ (0 ≤ edge ∧ edge < es.length)) (e : S29) : Psh (es.map to41) [] e ↔ Pv es (fun _ => false) edge e := by
  unfold Psh Pv Vk
  rw [mem_map41, mem_rd29]
  constructor
  · rintro ⟨⟨k, h0, h1, he⟩, _⟩
    exact ⟨k, ⟨h0, h1, fun hc => h (by omega), rfl⟩, he⟩
  · rintro ⟨k, ⟨h0, h1, _, _⟩, he⟩
    exact ⟨⟨k, h0, h1, he⟩, by simp⟩
theorem mem_rest {e : S29} {k : Nat} (hk : k < es.length) : e ∈ es.take k ++ es.drop (k + 1) ↔ ∃ i : Int, 0 ≤ i ∧ i < es.length ∧ i ≠ (k : Int) ∧ rd_T29 es i = e := by
  have hat : ∀ j : Nat, (hj : j < es.length) → rd_T29 es (j : Int) = es[j] := fun j hj => by simp [rd_T29, List.getD_eq_getElem?_getD, List.getElem?_eq_getElem hj]
  rw [List.mem_append]
  constructor
  · rintro (h | h)
    · obtain ⟨j, hj, rfl⟩ := List.getElem_of_mem h
      rw [List.length_take] at hj
      refine ⟨(j : Int), by omega, by omega, by omega, ?_⟩
      rw [hat j (by omega), List.getElem_take]
    · obtain ⟨j, hj, rfl⟩ := List.getElem_of_mem h
      rw [List.length_drop] at hj
      refine ⟨((k + 1 + j : Nat) : Int), by omega, by omega, by omega, ?_⟩
      rw [hat _ (by omega), List.getElem_drop]
  · rintro ⟨i, h0, h1, h2, rfl⟩
    obtain ⟨j, rfl⟩ : ∃ j : Nat, i = (j : Int) := ⟨i.toNat, by omega⟩
    have hj : j < es.length := by omega
    rw [hat j hj]
    by_cases hlt : j < k
    · left
      rw [List.mem_take_iff_getElem]
      exact ⟨j, by omega, rfl⟩
    · right
      rw [List.mem_drop_iff_getElem]
      exact ⟨j - (k + 1), by omega, by congr 1; omega⟩
theorem pv_rest {k : Nat} (hk : k < es.length) (e : S29) : Psh ((es.map to41).take k ++ (es.map to41).drop (k + 1)) [] e ↔ Pv es (fun _ => false) (k : Int) e := by
  unfold Psh Pv Vk
  rw [← List.map_take, ← List.map_drop, ← List.map_append, mem_map41, mem_rest hk]
  constructor
  · rintro ⟨⟨i, h0, h1, h2, he⟩, _⟩
    exact ⟨i, ⟨h0, h1, h2, rfl⟩, he⟩
  · rintro ⟨i, ⟨h0, h1, h2, _⟩, he⟩
    exact ⟨⟨i, h0, h1, h2, he⟩, by simp⟩
theorem inn_rest (h : Inn n es) (k : Nat) : Inn41 n ((es.map to41).take k ++ (es.map to41).drop (k + 1)) := by
  intro e he
  refine Inn.to41 h e ?_
  rcases List.mem_append.1 he with he | he
  · exact List.mem_of_mem_take he
  · exact List.mem_of_mem_drop he
theorem less_all (hes : Inn n es) {edge a : Int} (h0 : 0 ≤ a) (h1 : a < n) (h : rdOf false (rchd (walkF n es (fun _ => false) edge)) a = true) : rdOf false (rchd (walkF n es (fun _ => false) (-1))) a = true := by
  obtain ⟨m, hm⟩ := (rchd_iff hes h0 h1).1 h
  refine (rchd_iff hes h0 h1).2 ⟨m, hm.mono (fun e he => ?_)⟩
  obtain ⟨k, hv, hk⟩ := he
  exact ⟨k, ⟨hv.1, hv.2.1, by have := hv.1; omega, rfl⟩, hk⟩
theorem less_out (hes : Inn n es) {edge : Int} (h : ¬ (0 ≤ edge ∧ edge < es.length)) : rchd (walkF n es (fun _ => false) edge) = rchd (walkF n es (fun _ => false) (-1)) := by
  have h1 := sol_is hes (Inn.to41 hes) (pv_out h)
  have h2 := sol_is hes (Inn.to41 hes) (pv_none (es := es))
  rw [h1] at h2
  exact Option.some.inj h2
theorem chain_rc {P : S29 → Prop} : ∀ (pl : List S29) (m : Nat) (a b : Int), Rc P m a → Chain a pl b → (∀ e ∈ pl, P e) → ∃ m, Rc P m b
  | [], m, a, b, h, hc, _ => ⟨m, by rw [← (show a = b from hc)]; exact h⟩
  | e :: pl, m, a, b, h, hc, hp => chain_rc pl (m + 1) e.f1 b (.step h (hp e List.mem_cons_self) hc.1) hc.2 (fun z hz => hp z (List.mem_cons_of_mem _ hz))
/-- The edge is on each way to a node that is lost without it. -/
theorem on_way (hes : Inn n es) {k : Nat} (hk : k < es.length) {a : Int} (h0 : 0 ≤ a) (h1 : a < n) (hl : rdOf false (rchd (walkF n es (fun _ => false) (k : Int))) a = false) {pl : List S29} (hc : Chain (-1) pl a) (hp : ∀ e ∈ pl, e ∈ es) : rd_T29 es (k : Int) ∈ pl := by
  refine Classical.byContradiction (fun hn => ?_)
  obtain ⟨m, hm⟩ := chain_rc (P := Pv es (fun _ => false) (k : Int)) pl 0 (-1) a .null hc (fun e he => by
    obtain ⟨i, i0, i1, hi⟩ := mem_rd29.1 (hp e he)
    refine ⟨i, ⟨i0, i1, fun hik => hn ?_, rfl⟩, hi⟩
    rw [← hik, hi]
    exact he)
  rw [(rchd_iff hes h0 h1).2 ⟨m, hm⟩] at hl
  cases hl
theorem find_it {pl : List S29} {e : S29} (h : e ∈ pl) : findE pl e = e := by
  unfold findE
  have h2 : (pl.find? (same29 · e)).isSome := by rw [List.find?_isSome]; exact ⟨e, h, same29_iff.2 rfl⟩
  obtain ⟨x, hx⟩ := Option.isSome_iff_exists.1 h2
  rw [hx]
  have h3 := List.find?_some hx
  exact same29_iff.1 h3
end
theorem rsolve_rest (m : Nat) (es : List S29) (rest : List S41) (edge : Int) (A : Option Addr) (c : Nat) (w : World) (hk : Gok m es) (hin : Inn41 m rest) (hP : ∀ e, Psh rest [] e ↔ Pv es (fun _ => false) edge e) (hl : rest.length ≤ 100000) (hr : Kd.C k41 w A rest.length rest) (hc : rest.length ≤ c) :
    Calls Try.prog 15 #[.int .i64 (m : Int), .slice A rest.length c, .slice none 0 0] w fun e w' => ∃ v, e = .returned v ∧ Kd.R Kd.bool 4 w' w.heap.size (fun _ => True) v (rchd (walkF m es (fun _ => false) edge)) ∧ Below w.heap.size w w' := by
  obtain ⟨k, hk2⟩ := rsolve_some (l := rest) (shut := []) hk.nodes (by simp) hl hin (sol_is hk.inn hin hP)
  exact caulkerref21_Solve.calls k (m : Int) A c _ none 0 [] _ w hr hc ⟨rfl, by simp, fun h => by simp at h⟩ (by simp) hk2
/-- The way to a node that null comes to. -/
theorem way_to (g m : Nat) (es : List S29) (node : Int) (w : World) (base : Nat) (ok : Nat → Prop) (h : Gr w base ok g (m : Int) es) (hk : Gok m es) (hm : m ≤ 60) (h0 : 0 ≤ node) (h1 : node < m) (hr : rdOf false (rchd (walkF m es (fun _ => false) (-1))) node = true) :
    Calls Try.prog 21 #[.pointer (some ⟨g, 0, none⟩), .int .i64 node] w fun e w' => ∃ v pl, e = .returned v ∧ (Chain (-1) pl node ∧ (∀ e ∈ pl, e ∈ es) ∧ pl.length ≤ 100000) ∧ Kd.R k29 29 w' w.heap.size (fun _ => True) v pl ∧ Below w.heap.size w w' := by
  obtain ⟨d, hd⟩ := walkF_dist hk.inn (fun _ => false) (-1)
  obtain ⟨r, hp, h2⟩ := path_spec hk.inn hd h0 h1
  rw [rchd_at hk.inn h0 h1, decide_eq_true_iff] at hr
  rw [if_pos hr] at h2
  refine (path_any g m es node (m + 1) r w base ok h hk h0 h1 (by omega) (walk_val hk.inn) hp).mono ?_
  rintro e w' ⟨v, rfl, hv, hb⟩
  have hb2 := hd.bound node (.inr ⟨h0, h1, hr⟩)
  exact ⟨v, r.reverse, rfl, ⟨h2.2.1, fun e he => (pv_all e).1 (h2.2.2 e (List.mem_reverse.1 he)), by rw [List.length_reverse]; omega⟩, hv, hb⟩
theorem find_yes (pl : List S29) (e : S29) (A : Option Addr) (c : Nat) (w : World) (hr : Kd.C k29 w A pl.length pl) (hl : pl.length ≤ 100000) (he : e ∈ pl) :
    Calls Try.prog 20 #[.slice A pl.length c, .agg #[.int .i64 e.f0, .int .i64 e.f1, .int .i64 e.f2, .int .i64 e.f3]] w fun en w' => en = .returned (.agg #[.int .i64 e.f0, .int .i64 e.f1, .int .i64 e.f2, .int .i64 e.f3]) ∧ Below w.heap.size w w' := by
  have h := find_any pl e A c w hr hl
  rw [find_it he] at h
  exact h
theorem in_one (e : S29) (A : Option Addr) (c : Nat) (w : World) (hr : Kd.C k41 w A 1 [to41 e]) (hc : 1 ≤ c) :
    Calls Try.prog 19 #[.slice A 1 c, .agg #[.int .i64 e.f0, .int .i64 e.f1, .int .i64 e.f2, .int .i64 e.f3]] w fun en w' => en = .returned (.bool true) ∧ Below w.heap.size w w' :=
  in_yes [e] [to41 e] e A c w hr hc (by show 1 ≤ 100000; decide) rfl List.mem_cons_self
theorem GraphWithout_early (n : Int) (A : Option Addr) (len c : Nat) (v2 : Value) (w : World) (h : n < 0 ∨ 60 < n ∨ 150 < len) :
    Calls Try.prog 6 #[.int .i64 n, .slice A len c, v2] w fun e w' => e = .returned (.bool true) ∧ Below w.heap.size w w' := by
  have H := Aside0.mk h
  clear h
  go_enter Try.func6, Try.ntmps6
  go_wp2_with (first
    | (go_at_call 8; (with_reducible refine (comes_any w).mono ?_); rintro e w1 ⟨rfl, hb1⟩; have HB1 := Aside0.mk hb1; clear hb1)
    | (go_at_call 13; refine (build_no n A len c _ H.out).mono ?_; rintro e w2 ⟨rfl, rfl⟩))
  go_ret
  exact ⟨rfl, HB1.out⟩
end Go.Proofs.Ytlkmkoajfdmbeaa.PGraphWithout
