/- keeps: it is true. No condition. -/
import Derived.Test.YtlfkmignkilplaaHg
namespace Go.Proofs.Ytlfkmignkilplaa.PHeapPlays
open Go.RowKit Go.Proofs.YtlfkmignkilplaaW.PrintWords Go.Proofs.YtlfkmignkilplaaW.PrintLast Go.Proofs.YtlfkmignkilplaaW.PrintMore
set_option linter.unusedVariables false
set_option linter.unusedSimpArgs false

def kA (v : S32) : S67 := ⟨⟨#[65]⟩, z30, false, [⟨1, 0, ⟨#[]⟩⟩, v]⟩
def kB : S67 := ⟨⟨#[]⟩, ⟨2, ⟨#[]⟩, 0, ⟨#[32]⟩⟩, true, [⟨2, 0, ⟨#[]⟩⟩, ⟨2, 0, ⟨#[]⟩⟩, ⟨2, 0, ⟨#[]⟩⟩]⟩
theorem k_blank : ¬ (0 < (⟨#[32]⟩ : ByteArray).size ∧ bt ⟨#[32]⟩ (((⟨#[32]⟩ : ByteArray).size : Int) - 1) = 111) := by decide
theorem k_empty1 : emptyL ⟨1, ⟨#[]⟩, 0, ⟨#[32]⟩⟩ = ⟨1, 0, ⟨#[]⟩⟩ := by unfold emptyL; rw [if_neg k_blank]; rfl
theorem k_empty2 : emptyL ⟨5, ⟨#[65]⟩, 0, ⟨#[32]⟩⟩ = ⟨7, 0, ⟨#[]⟩⟩ := by unfold emptyL; rw [if_neg k_blank]; rfl
theorem k_empty3 : emptyL ⟨2, ⟨#[]⟩, 0, ⟨#[32]⟩⟩ = ⟨2, 0, ⟨#[]⟩⟩ := by unfold emptyL; rw [if_neg k_blank]; rfl
theorem object_k (g : Nat) (A : Addr) (w : World) (base : Nat) (ok : Nat → Prop) (h : Hp w base ok g []) (hr : ∀ j u, ([.int .i64 1, .string ⟨#[]⟩, .int .i64 0, .string ⟨#[32]⟩, .int .i64 5, .string ⟨#[65]⟩, .int .i64 0, .string ⟨#[32]⟩] : List Value)[j]? = some u → w.cell? (A.add j) = some u) (hle : base ≤ w.heap.size) :
    Calls Try.prog 6 #[.pointer (some ⟨g, 0, none⟩), .string ⟨#[65]⟩, .slice (some A) 2 2] w fun e w' => e = .returned (.tuple #[.agg #[.int .i64 5, .int .i64 0, .string ⟨#[]⟩], .int .i64 0]) ∧ Hp w' base (fun k => ok k ∨ w.heap.size ≤ k) g [kA ⟨7, 0, ⟨#[]⟩⟩] ∧ Below base w w' ∧ Kept w w' ok := by
  have hC : Kd.C k30 w (some A) 2 [⟨1, ⟨#[]⟩, 0, ⟨#[32]⟩⟩, ⟨5, ⟨#[65]⟩, 0, ⟨#[32]⟩⟩] := by
    refine ⟨rfl, by omega, fun _ => ⟨A, rfl, fun j p hj => ?_⟩⟩
    match j, hj with
    | 0, hj =>
      obtain rfl : (⟨1, ⟨#[]⟩, 0, ⟨#[32]⟩⟩ : S30) = p := by simpa using hj
      refine ⟨_, rfl, k30_mk _ _, fun i u hu => hr (0 * 4 + i) u ?_⟩
      match i, hu with
      | 0, hu => exact hu
      | 1, hu => exact hu
      | 2, hu => exact hu
      | 3, hu => exact hu
    | 1, hj =>
      obtain rfl : (⟨5, ⟨#[65]⟩, 0, ⟨#[32]⟩⟩ : S30) = p := by simpa using hj
      refine ⟨_, rfl, k30_mk _ _, fun i u hu => hr (1 * 4 + i) u ?_⟩
      match i, hu with
      | 0, hu => exact hu
      | 1, hu => exact hu
      | 2, hu => exact hu
      | 3, hu => exact hu
  have := object_ok g [] ⟨#[65]⟩ [⟨1, ⟨#[]⟩, 0, ⟨#[32]⟩⟩, ⟨5, ⟨#[65]⟩, 0, ⟨#[32]⟩⟩] (some A) 2 w w base ok h hC (by intro t ht; rcases List.mem_cons.1 ht with rfl | ht; exact (by decide); rcases List.mem_cons.1 ht with rfl | ht; exact (by decide); cases ht) (Below.refl _ _) hle (by decide) (by decide)
  simp only [List.map_cons, List.map_nil, k_empty1, k_empty2] at this
  exact this
theorem array_k (g : Nat) (v : S32) (w : World) (base : Nat) (ok : Nat → Prop) (h : Hp w base ok g [kA v]) (hle : base ≤ w.heap.size) :
    Calls Try.prog 9 #[.pointer (some ⟨g, 0, none⟩), .agg #[.int .i64 2, .string ⟨#[]⟩, .int .i64 0, .string ⟨#[32]⟩], .int .i64 3] w fun e w' => e = .returned (.tuple #[.agg #[.int .i64 5, .int .i64 1, .string ⟨#[]⟩], .int .i64 0]) ∧ Hp w' base (fun k => ok k ∨ w.heap.size ≤ k) g [kA v, kB] ∧ Below base w w' ∧ Kept w w' ok := by
  have := array_ok g [kA v] ⟨2, ⟨#[]⟩, 0, ⟨#[32]⟩⟩ 3 w w base ok h (by show (1 : Nat) ≤ _; omega) (Below.refl _ _) hle (by simp) (by simp [tot, kA])
  simp only [k_empty3] at this
  exact this
theorem store_k (g : Nat) (w : World) (base : Nat) (ok : Nat → Prop) (h : Hp w base ok g [kA ⟨7, 0, ⟨#[]⟩⟩, kB]) (hle : base ≤ w.heap.size) :
    Calls Try.prog 11 #[.pointer (some ⟨g, 0, none⟩), .agg #[.int .i64 5, .int .i64 0, .string ⟨#[]⟩], .int .i64 1, .agg #[.int .i64 5, .int .i64 1, .string ⟨#[]⟩]] w fun e w' => e = .returned (.int .i64 0) ∧ Hp w' base ok g [kA ⟨5, 1, ⟨#[]⟩⟩, kB] ∧ Below base w w' ∧ Kept w w' ok :=
  store_any g _ ⟨5, 0, ⟨#[]⟩⟩ 1 ⟨5, 1, ⟨#[]⟩⟩ w base ok h hle 0 _ rfl rfl
theorem load_k1 (g : Nat) (w : World) (base : Nat) (ok : Nat → Prop) (h : Hp w base ok g [kA ⟨5, 1, ⟨#[]⟩⟩, kB]) :
    Calls Try.prog 10 #[.pointer (some ⟨g, 0, none⟩), .agg #[.int .i64 5, .int .i64 0, .string ⟨#[]⟩], .int .i64 1] w fun e w' => e = .returned (.tuple #[.agg #[.int .i64 5, .int .i64 1, .string ⟨#[]⟩], .int .i64 0]) ∧ Below w.heap.size w w' :=
  load_any g _ ⟨5, 0, ⟨#[]⟩⟩ 1 ⟨5, 1, ⟨#[]⟩⟩ 0 w base ok h rfl
theorem load_k2 (g : Nat) (w : World) (base : Nat) (ok : Nat → Prop) (h : Hp w base ok g [kA ⟨5, 1, ⟨#[]⟩⟩, kB]) :
    Calls Try.prog 10 #[.pointer (some ⟨g, 0, none⟩), .agg #[.int .i64 5, .int .i64 1, .string ⟨#[]⟩], .int .i64 2] w fun e w' => e = .returned (.tuple #[.agg #[.int .i64 2, .int .i64 0, .string ⟨#[]⟩], .int .i64 0]) ∧ Below w.heap.size w w' :=
  load_any g _ ⟨5, 1, ⟨#[]⟩⟩ 2 ⟨2, 0, ⟨#[]⟩⟩ 0 w base ok h rfl
theorem class_k1 (g : Nat) (w : World) (base : Nat) (ok : Nat → Prop) (h : Hp w base ok g [kA ⟨5, 1, ⟨#[]⟩⟩, kB]) :
    Calls Try.prog 14 #[.pointer (some ⟨g, 0, none⟩), .agg #[.int .i64 5, .int .i64 0, .string ⟨#[]⟩]] w fun e w' => e = .returned (.tuple #[.string ⟨#[65]⟩, .bool true]) ∧ Below w.heap.size w w' :=
  class_any g _ ⟨5, 0, ⟨#[]⟩⟩ ⟨#[65]⟩ true w base ok h rfl
theorem class_k2 (g : Nat) (w : World) (base : Nat) (ok : Nat → Prop) (h : Hp w base ok g [kA ⟨5, 1, ⟨#[]⟩⟩, kB]) :
    Calls Try.prog 14 #[.pointer (some ⟨g, 0, none⟩), .agg #[.int .i64 5, .int .i64 1, .string ⟨#[]⟩]] w fun e w' => e = .returned (.tuple #[.string ⟨#[]⟩, .bool false]) ∧ Below w.heap.size w w' :=
  class_any g _ ⟨5, 1, ⟨#[]⟩⟩ ⟨#[]⟩ false w base ok h rfl
theorem len_k (g : Nat) (w : World) (base : Nat) (ok : Nat → Prop) (h : Hp w base ok g [kA ⟨5, 1, ⟨#[]⟩⟩, kB]) :
    Calls Try.prog 16 #[.pointer (some ⟨g, 0, none⟩), .agg #[.int .i64 5, .int .i64 1, .string ⟨#[]⟩]] w fun e w' => e = .returned (.int .i64 3) ∧ Below w.heap.size w w' :=
  len_any g _ ⟨5, 1, ⟨#[]⟩⟩ 3 w base ok h rfl
theorem objects_k (g : Nat) (w : World) (base : Nat) (ok : Nat → Prop) (h : Hp w base ok g [kA ⟨5, 1, ⟨#[]⟩⟩, kB]) : Calls Try.prog 12 #[.pointer (some ⟨g, 0, none⟩)] w fun e w' => e = .returned (.int .i64 2) ∧ w = w' := objects_any g _ w base ok h
theorem cells_k (g : Nat) (w : World) (base : Nat) (ok : Nat → Prop) (h : Hp w base ok g [kA ⟨5, 1, ⟨#[]⟩⟩, kB]) : Calls Try.prog 13 #[.pointer (some ⟨g, 0, none⟩)] w fun e w' => e = .returned (.int .i64 5) ∧ w = w' := cells_any g _ w base ok h
theorem bool_k (w : World) : Calls Try.prog 18 #[.bool false] w fun e w' => e = .returned (.agg #[.int .i64 2, .int .i64 0, .string ⟨#[]⟩]) ∧ Below w.heap.size w w' := heap_Bool.calls false 2 0 ⟨#[]⟩ w rfl
theorem wrap_k (w : World) : Calls Try.prog 20 #[.agg #[.int .i64 5, .int .i64 0, .string ⟨#[]⟩]] w fun e w' => e = .returned (.agg #[.int .i64 9, .int .i64 0, .string ⟨#[]⟩]) ∧ Below w.heap.size w w' := heap_Wrap.calls 5 0 ⟨#[]⟩ 9 0 ⟨#[]⟩ w rfl
theorem same_k (w : World) : Calls Try.prog 21 #[.agg #[.int .i64 5, .int .i64 0, .string ⟨#[]⟩], .agg #[.int .i64 5, .int .i64 0, .string ⟨#[]⟩]] w fun e w' => e = .returned (.bool true) ∧ Below w.heap.size w w' := heap_Same.calls 5 0 ⟨#[]⟩ 5 0 ⟨#[]⟩ true w (by simp [heap_Same.f])
theorem int_k (w : World) : Calls Try.prog 22 #[.int .i64 7] w fun e w' => e = .returned (.agg #[.int .i64 1, .int .i64 7, .string ⟨#[]⟩]) ∧ Below w.heap.size w w' := heap_Int.calls 7 1 7 ⟨#[]⟩ w rfl
theorem str_k (w : World) : Calls Try.prog 23 #[.string ⟨#[120]⟩] w fun e w' => e = .returned (.agg #[.int .i64 4, .int .i64 0, .string ⟨#[120]⟩]) ∧ Below w.heap.size w w' := heap_Str.calls ⟨#[120]⟩ 4 0 ⟨#[120]⟩ w rfl
theorem double_k (w : World) : Calls Try.prog 24 #[.int .u64 9] w fun e w' => e = .returned (.agg #[.int .i64 3, .int .i64 9, .string ⟨#[]⟩]) ∧ Below w.heap.size w w' := heap_Double.calls 9 3 9 ⟨#[]⟩ w (by unfold heap_Double.f wrap64; simp)
/-- What keeps has made: the heap, and where it keeps the two values. -/
def KP (w W : World) (g a b : Nat) : Prop := (∃ ok, Hp W w.heap.size ok g [kA ⟨5, 1, ⟨#[]⟩⟩, kB]) ∧ W.heap[a]? = some (.cells #[.int .i64 5, .int .i64 0, .string ⟨#[]⟩] 32 (0, 0)) ∧ W.heap[b]? = some (.cells #[.int .i64 5, .int .i64 1, .string ⟨#[]⟩] 32 (0, 0)) ∧ Below w.heap.size w W
theorem KP.below {w W W' : World} {g a b : Nat} (h : KP w W g a b) (hb : Below W.heap.size W W') : KP w W' g a b := by
  obtain ⟨⟨ok, h1⟩, h2, h3, h4⟩ := h
  exact ⟨⟨ok, h1.below hb⟩, blk_below h2 hb, blk_below h3 hb, below_step h4 hb⟩
theorem KP.alloc {w W : World} {g a b : Nat} (h : KP w W g a b) (o : Obj) : KP w (W.alloc o) g a b := h.below (below_alloc (Below.refl _ _) o)
theorem KP.load1 {w W : World} {g a b : Nat} (h : KP w W g a b) : Calls Try.prog 10 #[.pointer (some ⟨g, 0, none⟩), .agg #[.int .i64 5, .int .i64 0, .string ⟨#[]⟩], .int .i64 1] W fun e w' => e = .returned (.tuple #[.agg #[.int .i64 5, .int .i64 1, .string ⟨#[]⟩], .int .i64 0]) ∧ Below W.heap.size W w' := by
  obtain ⟨⟨ok, h1⟩, _⟩ := h
  exact load_k1 g W _ ok h1
theorem KP.load2 {w W : World} {g a b : Nat} (h : KP w W g a b) : Calls Try.prog 10 #[.pointer (some ⟨g, 0, none⟩), .agg #[.int .i64 5, .int .i64 1, .string ⟨#[]⟩], .int .i64 2] W fun e w' => e = .returned (.tuple #[.agg #[.int .i64 2, .int .i64 0, .string ⟨#[]⟩], .int .i64 0]) ∧ Below W.heap.size W w' := by
  obtain ⟨⟨ok, h1⟩, _⟩ := h
  exact load_k2 g W _ ok h1
theorem KP.class1 {w W : World} {g a b : Nat} (h : KP w W g a b) : Calls Try.prog 14 #[.pointer (some ⟨g, 0, none⟩), .agg #[.int .i64 5, .int .i64 0, .string ⟨#[]⟩]] W fun e w' => e = .returned (.tuple #[.string ⟨#[65]⟩, .bool true]) ∧ Below W.heap.size W w' := by
  obtain ⟨⟨ok, h1⟩, _⟩ := h
  exact class_k1 g W _ ok h1
theorem KP.class2 {w W : World} {g a b : Nat} (h : KP w W g a b) : Calls Try.prog 14 #[.pointer (some ⟨g, 0, none⟩), .agg #[.int .i64 5, .int .i64 1, .string ⟨#[]⟩]] W fun e w' => e = .returned (.tuple #[.string ⟨#[]⟩, .bool false]) ∧ Below W.heap.size W w' := by
  obtain ⟨⟨ok, h1⟩, _⟩ := h
  exact class_k2 g W _ ok h1
theorem KP.len {w W : World} {g a b : Nat} (h : KP w W g a b) : Calls Try.prog 16 #[.pointer (some ⟨g, 0, none⟩), .agg #[.int .i64 5, .int .i64 1, .string ⟨#[]⟩]] W fun e w' => e = .returned (.int .i64 3) ∧ Below W.heap.size W w' := by
  obtain ⟨⟨ok, h1⟩, _⟩ := h
  exact len_k g W _ ok h1
theorem KP.objects {w W : World} {g a b : Nat} (h : KP w W g a b) : Calls Try.prog 12 #[.pointer (some ⟨g, 0, none⟩)] W fun e w' => e = .returned (.int .i64 2) ∧ W = w' := by
  obtain ⟨⟨ok, h1⟩, _⟩ := h
  exact objects_k g W _ ok h1
theorem KP.cells {w W : World} {g a b : Nat} (h : KP w W g a b) : Calls Try.prog 13 #[.pointer (some ⟨g, 0, none⟩)] W fun e w' => e = .returned (.int .i64 5) ∧ W = w' := by
  obtain ⟨⟨ok, h1⟩, _⟩ := h
  exact cells_k g W _ ok h1
theorem KP.wrap {w W : World} {g a b : Nat} (h : KP w W g a b) : Calls Try.prog 20 #[.agg #[.int .i64 5, .int .i64 0, .string ⟨#[]⟩]] W fun e w' => e = .returned (.agg #[.int .i64 9, .int .i64 0, .string ⟨#[]⟩]) ∧ Below W.heap.size W w' := wrap_k W
theorem open_k (w : World) : Calls Try.prog 19 #[.agg #[.int .i64 9, .int .i64 0, .string ⟨#[]⟩]] w fun e w' => e = .returned (.agg #[.int .i64 5, .int .i64 0, .string ⟨#[]⟩]) ∧ Below w.heap.size w w' := heap_Open.calls 9 0 ⟨#[]⟩ 5 0 ⟨#[]⟩ w rfl
theorem KP.a {w W : World} {g a b : Nat} (h : KP w W g a b) : a < W.heap.size ∧ b < W.heap.size ∧ W.cell? ⟨a, 0, none⟩ = some (.int .i64 5) ∧ W.cell? ⟨a, 1, none⟩ = some (.int .i64 0) ∧ W.cell? ⟨a, 2, none⟩ = some (.string ⟨#[]⟩) ∧ W.cell? ⟨b, 0, none⟩ = some (.int .i64 5) ∧ W.cell? ⟨b, 1, none⟩ = some (.int .i64 1) ∧ W.cell? ⟨b, 2, none⟩ = some (.string ⟨#[]⟩) :=
  ⟨blk_lt h.2.1, blk_lt h.2.2.1, (blk_cell h.2.1 0).trans rfl, (blk_cell h.2.1 1).trans rfl, (blk_cell h.2.1 2).trans rfl, (blk_cell h.2.2.1 0).trans rfl, (blk_cell h.2.2.1 1).trans rfl, (blk_cell h.2.2.1 2).trans rfl⟩
def LP (w W : World) (g a b v x : Nat) : Prop := KP w W g a b ∧ W.heap[v]? = some (.cells #[.int .i64 5, .int .i64 1, .string ⟨#[]⟩] 32 (0, 0)) ∧ W.heap[x]? = some (.cells #[.int .i64 2, .int .i64 0, .string ⟨#[]⟩] 32 (0, 0))
theorem LP.below {w W W' : World} {g a b v x : Nat} (h : LP w W g a b v x) (hb : Below W.heap.size W W') : LP w W' g a b v x := ⟨h.1.below hb, blk_below h.2.1 hb, blk_below h.2.2 hb⟩
theorem LP.kp {w W : World} {g a b v x : Nat} (h : LP w W g a b v x) : KP w W g a b := h.1
theorem LP.cells {w W : World} {g a b v x : Nat} (h : LP w W g a b v x) : W.cell? ⟨a, 0, none⟩ = some (.int .i64 5) ∧ W.cell? ⟨a, 1, none⟩ = some (.int .i64 0) ∧ W.cell? ⟨a, 2, none⟩ = some (.string ⟨#[]⟩) ∧ W.cell? ⟨b, 0, none⟩ = some (.int .i64 5) ∧ W.cell? ⟨b, 1, none⟩ = some (.int .i64 1) ∧ W.cell? ⟨b, 2, none⟩ = some (.string ⟨#[]⟩) ∧ W.cell? ⟨v, 0, none⟩ = some (.int .i64 5) ∧ W.cell? ⟨v, 1, none⟩ = some (.int .i64 1) ∧ W.cell? ⟨v, 2, none⟩ = some (.string ⟨#[]⟩) ∧ W.cell? ⟨x, 0, none⟩ = some (.int .i64 2) ∧ W.cell? ⟨x, 1, none⟩ = some (.int .i64 0) ∧ W.cell? ⟨x, 2, none⟩ = some (.string ⟨#[]⟩) :=
  ⟨(blk_cell h.1.2.1 0).trans rfl, (blk_cell h.1.2.1 1).trans rfl, (blk_cell h.1.2.1 2).trans rfl, (blk_cell h.1.2.2.1 0).trans rfl, (blk_cell h.1.2.2.1 1).trans rfl, (blk_cell h.1.2.2.1 2).trans rfl, (blk_cell h.2.1 0).trans rfl, (blk_cell h.2.1 1).trans rfl, (blk_cell h.2.1 2).trans rfl, (blk_cell h.2.2 0).trans rfl, (blk_cell h.2.2 1).trans rfl, (blk_cell h.2.2 2).trans rfl⟩
attribute [local go_sem high] eqA32
set_option maxRecDepth 100000 in
set_option maxHeartbeats 4000000 in
theorem keeps_any (w : World) : Calls Try.prog 5 #[] w fun e w' => e = .returned (.bool true) ∧ Below w.heap.size w w' := by
  have hu26 := Try.underlying26
  have hu30 := Try.underlying30
  have hu32 := Try.underlying32
  have hu67 := Try.underlying67
  go_enter Try.func5, Try.ntmps5
  go_wp2_with fail
  obtain ⟨w1, hw1⟩ : ∃ w1 : World, w1 = (w.alloc (.cells #[.slice none 0 0, .int .i64 0] 26)).alloc (.cells #[.int .i64 1, .string ⟨#[]⟩, .int .i64 0, .string ⟨#[32]⟩, .int .i64 5, .string ⟨#[65]⟩, .int .i64 0, .string ⟨#[32]⟩] 30) := ⟨_, rfl⟩
  have HB1 := Aside0.mk (show Below w.heap.size w w1 by rw [hw1]; exact below_alloc (below_alloc (Below.refl _ _) _) _)
  have HH1 := Aside0.mk (show Hp w1 w.heap.size (fun k => k = w.heap.size) w.heap.size [] by rw [hw1]; exact Hp.nil (blk_alloc (blk_new w (.cells #[.slice none 0 0, .int .i64 0] 26)) _) rfl (Nat.le_refl _))
  have HT1 := Aside0.mk (show w1.heap[w.heap.size + 1]? = some (.cells #[.int .i64 1, .string ⟨#[]⟩, .int .i64 0, .string ⟨#[32]⟩, .int .i64 5, .string ⟨#[65]⟩, .int .i64 0, .string ⟨#[32]⟩] 30 (0, 0)) by rw [hw1]; have := blk_new (w.alloc (.cells #[.slice none 0 0, .int .i64 0] 26)) (.cells #[.int .i64 1, .string ⟨#[]⟩, .int .i64 0, .string ⟨#[32]⟩, .int .i64 5, .string ⟨#[65]⟩, .int .i64 0, .string ⟨#[32]⟩] 30); simpa using this)
  have HC1 := Aside0.mk (show ∀ j u, ([.int .i64 1, .string ⟨#[]⟩, .int .i64 0, .string ⟨#[32]⟩, .int .i64 5, .string ⟨#[65]⟩, .int .i64 0, .string ⟨#[32]⟩] : List Value)[j]? = some u → w1.cell? ((⟨w.heap.size + 1, 0, none⟩ : Addr).add j) = some u from fun j u hu => by rw [add_plain, blk_cell HT1.out j]; simpa using hu)
  rw [← hw1]
  clear hw1
  go_wp2_with (go_at_call 6; (with_reducible refine (object_k w.heap.size ⟨w.heap.size + 1, 0, none⟩ w1 w.heap.size _ HH1.out HC1.out HB1.out.size).mono ?_); rintro e w2 ⟨rfl, hh, hb, hk⟩; have HH2 := Aside0.mk (Hp.bound hh); have HB2 := Aside0.mk (HB1.out.trans hb); clear hh hb hk)
  obtain ⟨w3, hw3⟩ : ∃ w3 : World, w3 = w2.alloc (.cells #[.int .i64 5, .int .i64 0, .string ⟨#[]⟩] 32) := ⟨_, rfl⟩
  have HH3 := Aside0.mk (show Hp w3 w.heap.size _ w.heap.size _ by rw [hw3]; exact Hp.alloc HH2.out _)
  have HB3 := Aside0.mk (show Below w.heap.size w w3 by rw [hw3]; exact below_alloc HB2.out _)
  have HA3 := Aside0.mk (show w3.heap[w2.heap.size]? = some (.cells #[.int .i64 5, .int .i64 0, .string ⟨#[]⟩] 32 (0, 0)) by rw [hw3]; exact blk_new w2 (.cells #[.int .i64 5, .int .i64 0, .string ⟨#[]⟩] 32))
  rw [← hw3]
  clear hw3 HH1 HC1 HT1 HB1 HB2
  go_wp2_with (go_at_call 9; (with_reducible refine (array_k w.heap.size _ w3 w.heap.size _ HH3.out HB3.out.size).mono ?_); rintro e w4 ⟨rfl, hh, hb, hk⟩; have HH4 := Aside0.mk (Hp.bound hh); have HB4 := Aside0.mk (HB3.out.trans hb); have HA4 := Aside0.mk (blk_kept HA3.out hk (fun h => by have := h.2.2; omega)); have la := blk_lt HA4.out; have a0 : w4.cell? ⟨w2.heap.size, 0, none⟩ = some (.int .i64 5) := (blk_cell HA4.out 0).trans rfl; have a1 : w4.cell? ⟨w2.heap.size, 1, none⟩ = some (.int .i64 0) := (blk_cell HA4.out 1).trans rfl; have a2 : w4.cell? ⟨w2.heap.size, 2, none⟩ = some (.string ⟨#[]⟩) := (blk_cell HA4.out 2).trans rfl; have LA := Aside0.mk (And.intro (blk_lt HA3.out) hk); clear hh hb hk)
  clear a0 a1 a2 la
  obtain ⟨w5, hw5⟩ : ∃ w5 : World, w5 = w4.alloc (.cells #[.int .i64 5, .int .i64 1, .string ⟨#[]⟩] 32) := ⟨_, rfl⟩
  have HH5 := Aside0.mk (show Hp w5 w.heap.size (fun k => ((((fun k => k = w.heap.size) k ∨ w1.heap.size ≤ k) ∧ w.heap.size ≤ k ∧ k < w2.heap.size) ∨ w3.heap.size ≤ k) ∧ w.heap.size ≤ k ∧ k < w4.heap.size) w.heap.size _ by rw [hw5]; exact Hp.alloc HH4.out _)
  have HB5 := Aside0.mk (show Below w.heap.size w w5 by rw [hw5]; exact below_alloc HB4.out _)
  have HA5 := Aside0.mk (show w5.heap[w2.heap.size]? = some (.cells #[.int .i64 5, .int .i64 0, .string ⟨#[]⟩] 32 (0, 0)) by rw [hw5]; exact blk_alloc HA4.out _)
  have HV5 := Aside0.mk (show w5.heap[w4.heap.size]? = some (.cells #[.int .i64 5, .int .i64 1, .string ⟨#[]⟩] 32 (0, 0)) by rw [hw5]; exact blk_new w4 (.cells #[.int .i64 5, .int .i64 1, .string ⟨#[]⟩] 32))
  rw [← hw5]
  clear hw5
  go_wp2_with (go_at_call 11; (with_reducible refine (store_k w.heap.size w5 w.heap.size _ HH5.out HB5.out.size).mono ?_); rintro e w6 ⟨rfl, hh, hb, hk⟩; have HK := Aside0.mk (show KP w w6 w.heap.size w2.heap.size w4.heap.size from ⟨⟨_, hh⟩, blk_kept HA5.out hk (fun h => by rcases h.1 with h1 | h1; (have := h1.2.2; omega); (have := LA.out.1; omega)), blk_kept HV5.out hk (fun h => by have := h.2.2; omega), HB5.out.trans hb⟩); clear hh hb hk; obtain ⟨la, lb, a0, a1, a2, b0, b1, b2⟩ := HK.out.a)
  go_wp2_with (go_at_call 10; (with_reducible refine (HK.out.load1).mono ?_); rintro e w7 ⟨rfl, hb⟩; have HK' := Aside0.mk (HK.out.below hb); clear hb HK la lb a0 a1 a2 b0 b1 b2; have HK := HK'; clear HK'; obtain ⟨la, lb, a0, a1, a2, b0, b1, b2⟩ := HK.out.a)
  go_wp2_with (go_at_call 14; (with_reducible refine ((HK.out.alloc _).class1).mono ?_); rintro e w8 ⟨rfl, hb⟩; have HK' := Aside0.mk ((HK.out.alloc (.cells #[.int .i64 5, .int .i64 1, .string ⟨#[]⟩] 32)).below hb); have HV := Aside0.mk (blk_below (blk_new w7 (.cells #[.int .i64 5, .int .i64 1, .string ⟨#[]⟩] 32)) hb); clear hb HK la lb a0 a1 a2 b0 b1 b2; have HK := HK'; clear HK'; obtain ⟨la, lb, a0, a1, a2, b0, b1, b2⟩ := HK.out.a)
  go_wp2_with (go_at_call 14; (with_reducible refine (HK.out.class2).mono ?_); rintro e w9 ⟨rfl, hb⟩; have HK' := Aside0.mk (HK.out.below hb); have HV' := Aside0.mk (blk_below HV.out hb); clear HV; have HV := HV'; clear HV'; clear hb HK la lb a0 a1 a2 b0 b1 b2; have HK := HK'; clear HK'; obtain ⟨la, lb, a0, a1, a2, b0, b1, b2⟩ := HK.out.a)
  go_wp2_with (go_at_call 10; (with_reducible refine (HK.out.load2).mono ?_); rintro e w10 ⟨rfl, hb⟩; have HK' := Aside0.mk (HK.out.below hb); have HV' := Aside0.mk (blk_below HV.out hb); clear HV; have HV := HV'; clear HV'; have lv := blk_lt HV.out; have v0 : w10.cell? ⟨w7.heap.size, 0, none⟩ = some (.int .i64 5) := (blk_cell HV.out 0).trans rfl; have v1 : w10.cell? ⟨w7.heap.size, 1, none⟩ = some (.int .i64 1) := (blk_cell HV.out 1).trans rfl; have v2 : w10.cell? ⟨w7.heap.size, 2, none⟩ = some (.string ⟨#[]⟩) := (blk_cell HV.out 2).trans rfl; clear hb HK la lb a0 a1 a2 b0 b1 b2; have HK := HK'; clear HK'; obtain ⟨la, lb, a0, a1, a2, b0, b1, b2⟩ := HK.out.a)
  clear lv v0 v1 v2
  have HL := Aside0.mk (show LP w (w10.alloc (.cells #[.int .i64 2, .int .i64 0, .string ⟨#[]⟩] 32)).drew w.heap.size w2.heap.size w4.heap.size w7.heap.size w10.heap.size from ⟨(HK.out.alloc (.cells #[.int .i64 2, .int .i64 0, .string ⟨#[]⟩] 32)).below (below_drew (Below.refl _ _)), blk_alloc HV.out (.cells #[.int .i64 2, .int .i64 0, .string ⟨#[]⟩] 32), blk_new w10 (.cells #[.int .i64 2, .int .i64 0, .string ⟨#[]⟩] 32)⟩)
  clear HV HK la lb a0 a1 a2 b0 b1 b2 HH2 HH3 HH4 HH5 HB3 HB4 HB5 HA3 HA4 HA5 HV5 LA
  have e0 : IntKind.i64.wrap 0 = 0 := by decide
  have fi : ∀ W, (Instr.field 32 (.agg #[.int .i64 1, .int .i64 7, .string ⟨#[]⟩]) 1).run Try.prog W = .ok (.int .i64 7) W := fun _ => by kernel_rfl
  have fs : ∀ W, (Instr.field 32 (.agg #[.int .i64 4, .int .i64 0, .string ⟨#[120]⟩]) 2).run Try.prog W = .ok (.string ⟨#[120]⟩) W := fun _ => by kernel_rfl
  have fd : ∀ W, (Instr.field 32 (.agg #[.int .i64 3, .int .i64 9, .string ⟨#[]⟩]) 1).run Try.prog W = .ok (.int .i64 9) W := fun _ => by kernel_rfl
  simp only [List.append_eq, List.cons_append, List.nil_append]
  go_region_held3 (fun w' => w'.cell? ⟨w2.heap.size, 0, none⟩ = some (.int .i64 5) ∧ w'.cell? ⟨w2.heap.size, 1, none⟩ = some (.int .i64 0) ∧ w'.cell? ⟨w2.heap.size, 2, none⟩ = some (.string ⟨#[]⟩) ∧ w'.cell? ⟨w4.heap.size, 0, none⟩ = some (.int .i64 5) ∧ w'.cell? ⟨w4.heap.size, 1, none⟩ = some (.int .i64 1) ∧ w'.cell? ⟨w4.heap.size, 2, none⟩ = some (.string ⟨#[]⟩) ∧ w'.cell? ⟨w7.heap.size, 0, none⟩ = some (.int .i64 5) ∧ w'.cell? ⟨w7.heap.size, 1, none⟩ = some (.int .i64 1) ∧ w'.cell? ⟨w7.heap.size, 2, none⟩ = some (.string ⟨#[]⟩) ∧ w'.cell? ⟨w10.heap.size, 0, none⟩ = some (.int .i64 2) ∧ w'.cell? ⟨w10.heap.size, 1, none⟩ = some (.int .i64 0) ∧ w'.cell? ⟨w10.heap.size, 2, none⟩ = some (.string ⟨#[]⟩)) (first | exact HL.out.cells) (first | (go_at_call 18; (with_reducible refine (bool_k _).mono ?_); rintro e w' ⟨rfl, hb⟩; have HL' := Aside0.mk (HL.out.below hb); clear hb HL; have HL := HL'; clear HL') | (go_at_call 16; (with_reducible refine (HL.out.kp.len).mono ?_); rintro e w' ⟨rfl, hb⟩; have HL' := Aside0.mk (HL.out.below hb); clear hb HL; have HL := HL'; clear HL') | (go_at_call 12; (with_reducible refine (HL.out.kp.objects).mono ?_); rintro e w' ⟨rfl, rfl⟩) | (go_at_call 13; (with_reducible refine (HL.out.kp.cells).mono ?_); rintro e w' ⟨rfl, rfl⟩) | (go_at_call 20; (with_reducible refine (wrap_k _).mono ?_); rintro e w' ⟨rfl, hb⟩; have HL' := Aside0.mk (HL.out.below hb); clear hb HL; have HL := HL'; clear HL') | (go_at_call 19; (with_reducible refine (open_k _).mono ?_); rintro e w' ⟨rfl, hb⟩; have HL' := Aside0.mk (HL.out.below hb); clear hb HL; have HL := HL'; clear HL') | (go_at_call 8; (with_reducible refine (at_any 0 _).mono ?_); rintro e w' ⟨rfl, hb⟩; have HL' := Aside0.mk (HL.out.below hb); clear hb HL; have HL := HL'; clear HL') | (go_at_call 21; (with_reducible refine (same_k _).mono ?_); rintro e w' ⟨rfl, hb⟩; have HL' := Aside0.mk (HL.out.below hb); clear hb HL; have HL := HL'; clear HL') | (go_at_call 22; (with_reducible refine (int_k _).mono ?_); rintro e w' ⟨rfl, hb⟩; have HL' := Aside0.mk (HL.out.below hb); clear hb HL; have HL := HL'; clear HL') | (go_at_call 23; (with_reducible refine (str_k _).mono ?_); rintro e w' ⟨rfl, hb⟩; have HL' := Aside0.mk (HL.out.below hb); clear hb HL; have HL := HL'; clear HL') | (go_at_call 24; (with_reducible refine (double_k _).mono ?_); rintro e w' ⟨rfl, hb⟩; have HL' := Aside0.mk (HL.out.below hb); clear hb HL; have HL := HL'; clear HL'))
  go_wp2
  go_ret
  exact ⟨rfl, HL.out.kp.2.2.2⟩
end Go.Proofs.Ytlfkmignkilplaa.PHeapPlays
