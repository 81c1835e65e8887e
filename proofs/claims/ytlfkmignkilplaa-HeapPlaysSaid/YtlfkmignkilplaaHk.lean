/- The arguments of the law HeapPlays, as they are read: a slice of acts. No condition. -/
import Derived.Test.YtlfkmignkilplaaHj
import Derived.Deep.Grids
import Derived.Deep.Slices
import Derived.ChangeArms
import Derived.OpenShut
namespace Go.Proofs.Ytlfkmignkilplaa.PHeapPlays
open Go.RowKit Go.Proofs.YtlfkmignkilplaaW.PrintWords Go.Proofs.YtlfkmignkilplaaW.PrintLast Go.Proofs.YtlfkmignkilplaaW.PrintMore
open Go.ChangeShapes Go.WideShapes
set_option linter.unusedVariables false

section
variable {H : Type} {enc : TypeId × Value → H} {w : World}
theorem slice_of {α : Type} (d : Kd α) {t e : TypeId} (ht : Try.prog.underlying t = some (.slice e)) (hsz : Try.prog.cellsOf e = d.sz) (z : α) (each : ∀ {n : Nat} {cs : List Value} {x : DataW H × List MemPlace}, DataW.trod enc Try.prog w 0 (fun _ => true) true n e cs = some x → ∃ p, d.K w p cs)
    {n : Nat} {cs : List Value} {x : DataW H × List MemPlace} (h : DataW.trod enc Try.prog w 0 (fun _ => true) true n t cs = some x) : ∃ A l c, cs = [.slice A (l : List α).length c] ∧ l.length ≤ c ∧ d.C w A l.length l := by
  rcases Go.Deep.open_slice ht h with ⟨rfl, _⟩ | ⟨a, len, cap, m, n', D, Pl, rfl, _, hl, hm, hmm, _, hx⟩
  · exact ⟨none, [], 0, rfl, Nat.le_refl _, rfl, by simp, fun h => by simp at h⟩
  · simp only [if_true] at hmm
    subst hmm
    have each' : ∀ i, i < len → ∃ p cs', d.K w p cs' ∧ ∀ j u, cs'[j]? = some u → w.cell? (a.add (i * d.sz + j)) = some u := by
      intro i hi
      obtain ⟨cs', h1, h2⟩ := hx i (by omega)
      rw [hsz] at h1
      obtain ⟨_, hlen, hcell⟩ := World.cells?_some h1
      obtain ⟨p, hp⟩ := each h2
      refine ⟨p, cs', hp, fun j u hu => ?_⟩
      have hj : j < d.sz := by
        have := (List.getElem?_eq_some_iff.1 hu).1
        omega
      have e0 := hcell j hj
      rw [Go.Deep.add_add] at e0
      rw [e0]
      exact hu
    obtain ⟨f, hf⟩ := Classical.axiomOfChoice (fun i : Nat => (Classical.em (i < len)).elim (fun hi => let ⟨p, hp⟩ := each' i hi; (⟨p, fun _ => hp⟩ : ∃ p : α, i < len → ∃ cs', d.K w p cs' ∧ ∀ j u, cs'[j]? = some u → w.cell? (a.add (i * d.sz + j)) = some u)) (fun hi => ⟨z, fun h => absurd h hi⟩))
    refine ⟨some a, (List.range len).map f, m, by simp, by simpa using hl, by simp, ?_, fun _ => ⟨a, rfl, fun j p hj => ?_⟩⟩
    · have : maxLen ≤ 9223372036854775807 := by decide
      simp
      omega
    · rw [List.getElem?_map] at hj
      obtain ⟨q, hq, rfl⟩ := Option.map_eq_some_iff.1 hj
      obtain ⟨hlt, rfl⟩ := List.getElem?_eq_some_iff.1 hq
      simp only [List.length_range] at hlt
      simp only [List.getElem_range]
      obtain ⟨cs', h1, h2⟩ := hf j hlt
      exact ⟨cs', d.K_len h1, h1, h2⟩
theorem c2 : Try.prog.cellsOf 2 = 1 := by kernel_rfl
theorem c3 : Try.prog.cellsOf 3 = 1 := by kernel_rfl
theorem c9 : Try.prog.cellsOf 9 = 1 := by kernel_rfl
theorem c28 : Try.prog.cellsOf 28 = 1 := by kernel_rfl
theorem c30 : Try.prog.cellsOf 30 = 4 := by kernel_rfl
theorem c32 : Try.prog.cellsOf 32 = 3 := by kernel_rfl
theorem c34 : Try.prog.cellsOf 34 = 14 := by kernel_rfl
theorem type_of {n : Nat} {cs : List Value} {x : DataW H × List MemPlace} (h : DataW.trod enc Try.prog w 0 (fun _ => true) true n 30 cs = some x) : ∃ p : S30, k30.K w p cs := by
  obtain ⟨xs, k, hk, hxy, hcl, hxl, hf⟩ := DataW.trod_struct Try.underlying30 h
  rw [c30] at hcl
  match xs, hxl, cs, hcl with
  | [y0, y1, y2, y3], _, [v0, v1, v2, v3], _ =>
    have g0 := hf 0 _ rfl
    have g1 := hf 1 _ rfl
    have g2 := hf 2 _ rfl
    have g3 := hf 3 _ rfl
    simp [c3, c9] at g0 g1 g2 g3
    obtain ⟨z0, e0, _⟩ := DataW.trod_int Try.underlying3 g0
    obtain ⟨z1, e1, _⟩ := DataW.trod_string Try.underlying9 g1
    obtain ⟨z2, e2, _⟩ := DataW.trod_int Try.underlying3 g2
    obtain ⟨z3, e3, _⟩ := DataW.trod_string Try.underlying9 g3
    injection e0 with e0; injection e1 with e1; injection e2 with e2; injection e3 with e3
    subst e0; subst e1; subst e2; subst e3
    exact ⟨⟨z0, z1, z2, z3⟩, k30_mk w _⟩
theorem value_of {n : Nat} {cs : List Value} {x : DataW H × List MemPlace} (h : DataW.trod enc Try.prog w 0 (fun _ => true) true n 32 cs = some x) : ∃ p : S32, k32.K w p cs := by
  obtain ⟨xs, k, hk, hxy, hcl, hxl, hf⟩ := DataW.trod_struct Try.underlying32 h
  rw [c32] at hcl
  match xs, hxl, cs, hcl with
  | [y0, y1, y2], _, [v0, v1, v2], _ =>
    have g0 := hf 0 _ rfl
    have g1 := hf 1 _ rfl
    have g2 := hf 2 _ rfl
    simp [c2, c3, c9] at g0 g1 g2
    obtain ⟨z0, e0, _⟩ := DataW.trod_int Try.underlying3 g0
    obtain ⟨z1, e1, _⟩ := DataW.trod_int Try.underlying2 g1
    obtain ⟨z2, e2, _⟩ := DataW.trod_string Try.underlying9 g2
    injection e0 with e0; injection e1 with e1; injection e2 with e2
    subst e0; subst e1; subst e2
    exact ⟨⟨z0, z1, z2⟩, k32_mk w _⟩
theorem op_of {n : Nat} {cs : List Value} {x : DataW H × List MemPlace} (h : DataW.trod enc Try.prog w 0 (fun _ => true) true n 34 cs = some x) : ∃ p : S34, k34.K w p cs := by
  obtain ⟨xs, k, hk, hxy, hcl, hxl, hf⟩ := DataW.trod_struct Try.underlying34 h
  rw [c34] at hcl
  match xs, hxl, cs, hcl with
  | [y0, y1, y2, y3, y4, y5, y6], _, [v0, v1, v2, v3, v4, v5, v6, v7, v8, v9, v10, v11, v12, v13], _ =>
    have g0 := hf 0 _ rfl
    have g1 := hf 1 _ rfl
    have g2 := hf 2 _ rfl
    have g3 := hf 3 _ rfl
    have g4 := hf 4 _ rfl
    have g5 := hf 5 _ rfl
    have g6 := hf 6 _ rfl
    simp [c2, c3, c9, c28, c30, c32] at g0 g1 g2 g3 g4 g5 g6
    obtain ⟨z0, e0, _⟩ := DataW.trod_int Try.underlying3 g0
    obtain ⟨z1, e1, _⟩ := DataW.trod_string Try.underlying9 g1
    obtain ⟨A, l, c, e2, hl2, hC2⟩ := slice_of k30 Try.underlying28 c30 z30 type_of g2
    obtain ⟨t, h3⟩ := type_of g3
    obtain ⟨z4, e4, _⟩ := DataW.trod_int Try.underlying2 g4
    obtain ⟨a, h5⟩ := value_of g5
    obtain ⟨b, h6⟩ := value_of g6
    have h3' := k30_open h3
    have h5' := k32_open h5
    have h6' := k32_open h6
    simp only [List.cons.injEq, and_true] at e0 e1 e2 e4 h3' h5' h6'
    obtain ⟨rfl, rfl, rfl, rfl⟩ := h3'
    obtain ⟨rfl, rfl, rfl⟩ := h5'
    obtain ⟨rfl, rfl, rfl⟩ := h6'
    subst e0; subst e1; subst e2; subst e4
    exact ⟨⟨z0, z1, l, t, z4, a, b⟩, k34_mk w _ hl2 hC2⟩
theorem open_ops {A : Option Addr} {len cap : Nat} {d : DataW H} {ps : List MemPlace} (h : DataW.Trod enc Try.prog w 0 (fun _ => true) true 22 (.slice A len cap) d ps) : ∃ l : List S34, len = l.length ∧ l.length ≤ cap ∧ Kd.C k34 w A l.length l := by
  obtain ⟨fuel, hf⟩ := h
  obtain ⟨B, l, c, e, hl, hC⟩ := slice_of k34 Try.underlying22 c34 z34 op_of hf
  simp [Value.cells] at e
  obtain ⟨rfl, rfl, rfl⟩ := e
  exact ⟨l, rfl, hl, hC⟩
end
end Go.Proofs.Ytlfkmignkilplaa.PHeapPlays
