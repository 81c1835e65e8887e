/- The plain law of the graph: whom null reaches, how far, and the way back. No condition but that the edges lie in the graph. -/
import Derived.Test.YtlkmkoajfdmbeaaGp
namespace Go.Proofs.Ytlkmkoajfdmbeaa.PGraphWithout
open Go.RowKit Go.Proofs.YtlkmkoajfdmbeaaW.PrintWords
set_option linter.unusedVariables false
set_option linter.unusedSimpArgs false
section
variable {n : Nat} {es : List S29} {F : Int → Bool} {skip : Int}

theorem Rc.dc (hes : Inn n es) {x : List Int} {d : Int → Nat} (h : Bfs n es F skip x [] d) {m : Nat} {a : Int} (hr : Rc (Pv es F skip) m a) : Dc n x a ∧ d a ≤ m := by
  induction hr with
  | null => exact ⟨.inl rfl, by rw [h.zero]; exact Nat.le_refl _⟩
  | step hr hp ha ih =>
    obtain ⟨k, hk, rfl⟩ := hp
    rcases h.all _ ih.1 with h1 | h1
    · cases h1
    · obtain ⟨q1, q2⟩ := h1 k hk ha
      exact ⟨q1, by omega⟩
theorem Bfs.reach {x : List Int} {d : Int → Nat} (h : Bfs n es F skip x [] d) : ∀ (m : Nat) (a : Int), d a = m → Dc n x a → Rc (Pv es F skip) m a := by
  intro m
  induction m using Nat.strongRecOn with
  | _ m ih =>
    intro a hm ha
    rcases ha with rfl | ⟨h0, h1, h2⟩
    · rw [h.zero] at hm
      subst hm
      exact .null
    · obtain ⟨p1, p2, p3, p4⟩ := h.par a h0 h1 h2
      obtain ⟨m, rfl⟩ : ∃ k, m = k + 1 := ⟨m - 1, by omega⟩
      have := ih m (by omega) _ (by omega) p3
      have h3 := Rc.step this ⟨_, p1, rfl⟩ rfl
      rwa [p2] at h3
/-- Null comes to a node just where the walk says so. -/
theorem walk_iff (hes : Inn n es) {a : Int} (h0 : 0 ≤ a) (h1 : a < n) : 0 ≤ rd (walkF n es F skip) a ↔ ∃ m, Rc (Pv es F skip) m a := by
  obtain ⟨d, h⟩ := walkF_bfs hes F skip
  constructor
  · intro h2
    exact ⟨_, h.reach _ a rfl (.inr ⟨h0, h1, h2⟩)⟩
  · rintro ⟨m, hm⟩
    rcases (hm.dc hes h).1 with h2 | h2
    · omega
    · exact h2.2.2
theorem rchd_at (hes : Inn n es) {a : Int} (h0 : 0 ≤ a) (h1 : a < n) : rdOf false (rchd (walkF n es F skip)) a = decide (0 ≤ rd (walkF n es F skip) a) := by
  have hl := walkF_length hes F skip
  have hk : a.toNat < (walkF n es F skip).length := by omega
  unfold rdOf rchd rd
  rw [List.getD_eq_getElem?_getD, List.getElem?_map, List.getD_eq_getElem?_getD, List.getElem?_eq_getElem hk]
  rfl
theorem rchd_len (hes : Inn n es) : (rchd (walkF n es F skip)).length = n := by unfold rchd; rw [List.length_map, walkF_length hes]
theorem walk_val (hes : Inn n es) : ∀ i : Int, 0 ≤ i → i < n → rd (walkF n es F skip) i < es.length := by
  intro i h0 h1
  obtain ⟨d, h⟩ := walkF_bfs hes F skip
  by_cases h2 : 0 ≤ rd (walkF n es F skip) i
  · exact (h.par i h0 h1 h2).1.2.1
  · omega

/-! ### The way back -/
/-- Some edges one behind the other, from a to b. -/
def Chain : Int → List S29 → Int → Prop
  | a, [], b => a = b
  | a, e :: p, b => e.f0 = a ∧ Chain e.f1 p b
theorem path_run (hes : Inn n es) {x : List Int} {d : Int → Nat} (h : Bfs n es F skip x [] d) : ∀ (m K : Nat) (q : Int) (out : List S29) (b : Int), d q = m → m < K → Dc n x q → Chain q out.reverse b →
    ∃ r, pathL es x K q out = some r ∧ r.length = out.length + m ∧ Chain (-1) r.reverse b ∧ ∀ e ∈ r, e ∈ out ∨ Pv es F skip e := by
  intro m
  induction m with
  | zero =>
    intro K q out b hm hk hq hc
    obtain ⟨K, rfl⟩ : ∃ k, K = k + 1 := ⟨K - 1, by omega⟩
    have hq1 : q = -1 := by
      rcases hq with h1 | ⟨h0, h1, h2⟩
      · exact h1
      · have := (h.par q h0 h1 h2).2.2.2
        omega
    subst hq1
    exact ⟨out, by simp [pathL], by omega, hc, fun e he => .inl he⟩
  | succ m ih =>
    intro K q out b hm hk hq hc
    obtain ⟨K, rfl⟩ : ∃ k, K = k + 1 := ⟨K - 1, by omega⟩
    rcases hq with h1 | ⟨h0, h1, h2⟩
    · rw [h1, h.zero] at hm
      omega
    · obtain ⟨p1, p2, p3, p4⟩ := h.par q h0 h1 h2
      obtain ⟨r, r1, r2, r3, r4⟩ := ih K (rd_T29 es (rd x q)).f0 (out ++ [rd_T29 es (rd x q)]) b (by omega) (by omega) p3 (by
        rw [List.reverse_append, List.reverse_singleton, List.singleton_append]
        exact ⟨rfl, by rw [p2]; exact hc⟩)
      refine ⟨r, ?_, by rw [r2]; simp; omega, r3, fun e he => ?_⟩
      · rw [pathL, if_neg (by omega), if_neg (by omega)]
        exact r1
      · rcases r4 e he with h4 | h4
        · rcases List.mem_append.1 h4 with h4 | h4
          · exact .inl h4
          · exact .inr (by rw [List.mem_singleton.1 h4]; exact ⟨_, p1, rfl⟩)
        · exact .inr h4
/-- How far: the least number of edges, told of what null comes to. -/
structure Dist (n : Nat) (es : List S29) (F : Int → Bool) (skip : Int) (x : List Int) (d : Int → Nat) : Prop where
  bfs : Bfs n es F skip x [] d
  bound : ∀ a, Dc n x a → d a ≤ n
theorem Dc.dist {x : List Int} {d : Int → Nat} (h : Bfs n es F skip x [] d) : ∀ (m : Nat) (a : Int), d a = m → Dc n x a → ∃ l : List Int, l.length = m ∧ l.Nodup ∧ (∀ z ∈ l, 0 ≤ z ∧ z < n) ∧ ∀ z ∈ l, d z ≤ m := by
  intro m
  induction m with
  | zero => exact fun a _ _ => ⟨[], rfl, List.nodup_nil, by simp, by simp⟩
  | succ m ih =>
    intro a hm ha
    rcases ha with h1 | ⟨h0, h1, h2⟩
    · rw [h1, h.zero] at hm
      omega
    · obtain ⟨p1, p2, p3, p4⟩ := h.par a h0 h1 h2
      obtain ⟨l, l1, l2, l3, l4⟩ := ih _ (by omega) p3
      refine ⟨a :: l, by simp [l1], ?_, ?_, ?_⟩
      · rw [List.nodup_cons]
        refine ⟨fun hm' => ?_, l2⟩
        have := l4 a hm'
        omega
      · intro z hz
        rcases List.mem_cons.1 hz with rfl | hz
        · exact ⟨h0, h1⟩
        · exact l3 z hz
      · intro z hz
        rcases List.mem_cons.1 hz with rfl | hz
        · omega
        · have := l4 z hz
          omega
theorem nodup_bound : ∀ (n : Nat) (l : List Int), l.Nodup → (∀ z ∈ l, 0 ≤ z ∧ z < (n : Int)) → l.length ≤ n
  | 0, l, _, h => by
    cases l with
    | nil => simp
    | cons z l => have := h z List.mem_cons_self; omega
  | n + 1, l, hd, h => by
    have h1 := nodup_bound n (l.erase (n : Int)) (hd.erase _) (fun z hz => by
      have h2 := h z (List.mem_of_mem_erase hz)
      have h3 : z ≠ (n : Int) := fun e => by
        rw [e] at hz
        exact (List.Nodup.not_mem_erase hd) hz
      omega)
    have h2 := List.length_erase (a := (n : Int)) (l := l)
    split at h2 <;> omega
theorem walkF_dist (hes : Inn n es) (F : Int → Bool) (skip : Int) : ∃ d, Dist n es F skip (walkF n es F skip) d := by
  obtain ⟨d, h⟩ := walkF_bfs hes F skip
  refine ⟨d, h, fun a ha => ?_⟩
  obtain ⟨l, l1, l2, l3, _⟩ := Dc.dist h _ a rfl ha
  have := nodup_bound n l l2 l3
  omega
/-- The way to a node, as it is told: the edges from null on; none, where null doesn't come. -/
theorem path_spec (hes : Inn n es) {d : Int → Nat} (h : Dist n es F skip (walkF n es F skip) d) {a : Int} (h0 : 0 ≤ a) (h1 : a < n) :
    ∃ r, pathL es (walkF n es F skip) (n + 1) a [] = some r ∧ (if 0 ≤ rd (walkF n es F skip) a then r.length = d a ∧ Chain (-1) r.reverse a ∧ ∀ e ∈ r, Pv es F skip e else r = []) := by
  by_cases h2 : 0 ≤ rd (walkF n es F skip) a
  · have hd : Dc n (walkF n es F skip) a := .inr ⟨h0, h1, h2⟩
    obtain ⟨r, r1, r2, r3, r4⟩ := path_run hes h.bfs (d a) (n + 1) a [] a rfl (by have := h.bound a hd; omega) hd rfl
    refine ⟨r, r1, ?_⟩
    rw [if_pos h2]
    refine ⟨by simpa using r2, r3, fun e he => ?_⟩
    rcases r4 e he with h4 | h4
    · cases h4
    · exact h4
  · refine ⟨[], ?_, by rw [if_neg h2]⟩
    rw [pathL, if_neg (by omega), if_pos (by omega)]
end
end Go.Proofs.Ytlkmkoajfdmbeaa.PGraphWithout
