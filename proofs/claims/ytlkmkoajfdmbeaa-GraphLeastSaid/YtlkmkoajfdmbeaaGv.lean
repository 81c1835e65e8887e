/- The arguments of the laws, as they are read: a slice of edges, of bools, of whole numbers. No condition. -/
import Derived.Test.YtlkmkoajfdmbeaaGm
import Derived.Deep.Grids
import Derived.Deep.Slices
import Derived.ChangeArms
import Derived.OpenShut
namespace Go.Proofs.Ytlkmkoajfdmbeaa.PGraphWithout
open Go.RowKit Go.Proofs.YtlkmkoajfdmbeaaW.PrintWords Go.Proofs.YtlkmkoajfdmbeaaW.PrintLast Go.Proofs.YtlkmkoajfdmbeaaW.PrintMore
open Go.ChangeShapes Go.WideShapes
set_option linter.unusedVariables false

theorem int_of {H : Type} {enc : TypeId × Value → H} {w : World} {n : Nat} {v : Value} {x : DataW H × List MemPlace} (h : DataW.trod enc Try.prog w 0 (fun _ => true) true n 3 [v] = some x) : ∃ z : Int, v = .int .i64 z ∧ (Lit.int .i64 z).wf = true := by
  obtain ⟨z, h1, _, h2⟩ := DataW.trod_int Try.underlying3 h
  exact ⟨z, by simpa using h1, h2⟩
theorem open_edges {H : Type} {enc : TypeId × Value → H} {w : World} {A : Option Addr} {len cap : Nat} {d : DataW H} {ps : List MemPlace} (h : DataW.Trod enc Try.prog w 0 (fun _ => true) true 22 (.slice A len cap) d ps) :
    ∃ l : List S29, len = l.length ∧ Kd.C k29 w A l.length l := by
  obtain ⟨fuel, hf⟩ := h
  rcases Go.Deep.open_slice (e := 29) Try.underlying22 hf with ⟨hcs, _⟩ | ⟨a, len', cap', m, n, D, Pl, hcs, _, hl, hm, hmm, _, hx⟩
  · simp [Value.cells] at hcs
    obtain ⟨rfl, rfl, rfl⟩ := hcs
    exact ⟨[], rfl, rfl, by simp, fun h => by simp at h⟩
  · simp [Value.cells] at hcs
    obtain ⟨rfl, rfl, rfl⟩ := hcs
    simp only [if_true] at hmm
    subst hmm
    have each : ∀ i, i < len → ∃ x : S29, ∀ j u, ([.int .i64 x.f0, .int .i64 x.f1, .int .i64 x.f2, .int .i64 x.f3] : List Value)[j]? = some u → w.cell? (a.add (i * 4 + j)) = some u := by
      intro i hi
      obtain ⟨cs', h1, h2⟩ := hx i (by omega)
      have ce : Try.prog.cellsOf 29 = 4 := by kernel_rfl
      rw [ce] at h1
      obtain ⟨_, hlen, hcell⟩ := World.cells?_some h1
      obtain ⟨xs, k, hk, hxy, _, hxl, hf⟩ := DataW.trod_struct Try.underlying29 h2
      have c3 : Try.prog.cellsOf 3 = 1 := by kernel_rfl
      match xs, hxl, cs', hlen with
      | [y0, y1, y2, y3], _, [v0, v1, v2, v3], _ =>
        have g0 := hf 0 _ rfl
        have g1 := hf 1 _ rfl
        have g2 := hf 2 _ rfl
        have g3 := hf 3 _ rfl
        simp [c3] at g0 g1 g2 g3
        obtain ⟨z0, rfl, _⟩ := int_of g0
        obtain ⟨z1, rfl, _⟩ := int_of g1
        obtain ⟨z2, rfl, _⟩ := int_of g2
        obtain ⟨z3, rfl, _⟩ := int_of g3
        refine ⟨⟨z0, z1, z2, z3⟩, fun j u hu => ?_⟩
        have hj : j < 4 := by
          have := (List.getElem?_eq_some_iff.1 hu).1
          simpa using this
        have e0 := hcell j hj
        rw [Go.Deep.add_add] at e0
        rw [e0]
        exact hu
    obtain ⟨f, hf⟩ := Classical.axiomOfChoice (fun i : Nat => (Classical.em (i < len)).elim (fun hi => let ⟨x, hx⟩ := each i hi; (⟨x, fun _ => hx⟩ : ∃ x : S29, i < len → ∀ j u, ([.int .i64 x.f0, .int .i64 x.f1, .int .i64 x.f2, .int .i64 x.f3] : List Value)[j]? = some u → w.cell? (a.add (i * 4 + j)) = some u)) (fun hi => ⟨⟨0, 0, 0, 0⟩, fun h => absurd h hi⟩))
    refine ⟨(List.range len).map f, by simp, by simp, ?_, fun _ => ⟨a, rfl, fun j p hj => ?_⟩⟩
    · have : maxLen ≤ 9223372036854775807 := by decide
      simp
      omega
    · rw [List.getElem?_map] at hj
      obtain ⟨q, hq, rfl⟩ := Option.map_eq_some_iff.1 hj
      obtain ⟨hlt, rfl⟩ := List.getElem?_eq_some_iff.1 hq
      simp only [List.length_range] at hlt
      simp only [List.getElem_range]
      exact ⟨_, rfl, k29_mk _ _, hf j hlt⟩
theorem open_bool_list {H : Type} {enc : TypeId × Value → H} {w : World} {A : Option Addr} {len cap : Nat} {d : DataW H} {ps : List MemPlace} {t : TypeId} (ht : Try.prog.underlying t = some (.slice 4)) (h : DataW.Trod enc Try.prog w 0 (fun _ => true) true t (.slice A len cap) d ps) :
    ∃ l : List Bool, len = l.length ∧ Kd.C Kd.bool w A l.length l := by
  obtain ⟨fuel, hf⟩ := h
  rcases Go.Deep.open_bools (e := 4) ht Try.underlying4 (by kernel_rfl) hf with ⟨hcs, _⟩ | ⟨a, len', cap', B, hcs, _, hl, hm, _, hx⟩
  · simp [Value.cells] at hcs
    obtain ⟨rfl, rfl, rfl⟩ := hcs
    exact ⟨[], rfl, rfl, by simp, fun h => by simp at h⟩
  · simp [Value.cells] at hcs
    obtain ⟨rfl, rfl, rfl⟩ := hcs
    refine ⟨(List.range len).map B, by simp, by simp, ?_, fun _ => ⟨a, rfl, fun j p hj => ?_⟩⟩
    · have : maxLen ≤ 9223372036854775807 := by decide
      simp
      omega
    · rw [List.getElem?_map] at hj
      obtain ⟨q, hq, rfl⟩ := Option.map_eq_some_iff.1 hj
      obtain ⟨hlt, rfl⟩ := List.getElem?_eq_some_iff.1 hq
      simp only [List.length_range] at hlt
      simp only [List.getElem_range]
      refine ⟨[.bool (B j)], rfl, rfl, fun i u hu => ?_⟩
      cases i with
      | zero => rw [show j * Kd.bool.sz + 0 = j from by show j * 1 + 0 = j; omega, hx j (by omega)]; exact hu
      | succ i => simp at hu
theorem open_int_list {H : Type} {enc : TypeId × Value → H} {w : World} {A : Option Addr} {len cap : Nat} {d : DataW H} {ps : List MemPlace} {t : TypeId} (ht : Try.prog.underlying t = some (.slice 3)) (h : DataW.Trod enc Try.prog w 0 (fun _ => true) true t (.slice A len cap) d ps) :
    ∃ l : List Int, len = l.length ∧ Kd.C (Kd.int .i64) w A l.length l ∧ (∀ x ∈ l, (Lit.int .i64 x).wf = true) ∧ l.length ≤ cap := by
  obtain ⟨fuel, hf⟩ := h
  rcases open_ints ht Try.underlying3 (by kernel_rfl) hf with ⟨hcs, _⟩ | ⟨x, l, c, zs, hcs, _, hl, hm, hz, _, hcell, hwz⟩
  · simp [Value.cells] at hcs
    obtain ⟨rfl, rfl, rfl⟩ := hcs
    exact ⟨[], rfl, ⟨rfl, by simp, fun h => by simp at h⟩, (fun x hx => by cases hx), Nat.le_refl _⟩
  · simp [Value.cells] at hcs
    obtain ⟨rfl, rfl, rfl⟩ := hcs
    obtain ⟨l, rfl, hr, hm', hw, hc⟩ := ReadsInt.ofRowC (k := .i64) (w := w) (a := some x) (len := len) (cap := cap) (zs := zs) (.inr ⟨_, rfl, hl, hm, by simpa using hz, hcell, hwz⟩)
    exact ⟨l, rfl, Kd.C_of_reads (d := (0 : Int)) (h1 := fun _ => rfl) hr, hw, hc⟩
end Go.Proofs.Ytlkmkoajfdmbeaa.PGraphWithout
