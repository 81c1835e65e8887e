/- What a heap is in memory, and that it stays what it is while other blocks are written; find, room. No condition. -/
import Derived.Test.YtlfkmignkilplaaPHeapPlaysx0
import Derived.Outline
namespace Go.Proofs.Ytlfkmignkilplaa.PHeapPlays
open Go.RowKit Go.Proofs.YtlfkmignkilplaaW.PrintWords Go.Proofs.YtlfkmignkilplaaW.PrintLast Go.Proofs.YtlfkmignkilplaaW.PrintMore
set_option linter.unusedVariables false
set_option linter.unusedSimpArgs false

/-- How many fields and elements there are in all. -/
def tot (xs : List S67) : Nat := (xs.map (fun x => x.f3.length)).sum
theorem tot_snoc (xs : List S67) (x : S67) : tot (xs ++ [x]) = tot xs + x.f3.length := by simp [tot]
/-- At g lies a heap of the cells xs; all its blocks are ok. -/
def Hp (w : World) (base : Nat) (ok : Nat → Prop) (g : Nat) (xs : List S67) : Prop :=
  ∃ v, w.heap[g]? = some (.cells #[v, .int .i64 (tot xs : Nat)] 26 (0, 0)) ∧ ok g ∧ base ≤ g ∧ Kd.S k67 67 w base ok v xs
theorem Hp.move {w w1 : World} {base : Nat} {ok : Nat → Prop} {g : Nat} {xs : List S67} (h : Hp w base ok g xs) (hm : ∀ k, ok k → k < w.heap.size → w1.heap[k]? = w.heap[k]?) : Hp w1 base ok g xs := by
  obtain ⟨v, hg, okg, bg, hS⟩ := h
  exact ⟨v, (hm g okg (blk_lt hg)).trans hg, okg, bg, Kd.S_step hS hm⟩
theorem Hp.mono {w : World} {base : Nat} {ok ok' : Nat → Prop} {g : Nat} {xs : List S67} (h : Hp w base ok g xs) (hk : ∀ k, ok k → ok' k) : Hp w base ok' g xs := by
  obtain ⟨v, hg, okg, bg, hS⟩ := h
  exact ⟨v, hg, hk g okg, bg, Kd.S_mono hS hk⟩
theorem Hp.lower {w : World} {base b1 : Nat} {ok : Nat → Prop} {g : Nat} {xs : List S67} (h : Hp w b1 ok g xs) (hb : base ≤ b1) : Hp w base ok g xs := by
  obtain ⟨v, hg, okg, bg, hS⟩ := h
  exact ⟨v, hg, okg, by omega, Kd.S_lower hS hb⟩
theorem Hp.below {w w1 : World} {base : Nat} {ok : Nat → Prop} {g : Nat} {xs : List S67} (h : Hp w base ok g xs) (hb : Below w.heap.size w w1) : Hp w1 base ok g xs := h.move (fun k _ hk => hb.block k hk)
theorem Hp.alloc {w : World} {base : Nat} {ok : Nat → Prop} {g : Nat} {xs : List S67} (h : Hp w base ok g xs) (o : Obj) : Hp (w.alloc o) base ok g xs := h.below (below_alloc (Below.refl _ _) o)
theorem Hp.kept {w w1 : World} {base : Nat} {ok S : Nat → Prop} {g : Nat} {xs : List S67} (h : Hp w base ok g xs) (hk : Kept w w1 S) (hne : ∀ k, ok k → ¬ S k) : Hp w1 base ok g xs := h.move (fun k ho hlt => hk.2 k hlt (hne k ho))
theorem Hp.drewN {w : World} {base : Nat} {ok : Nat → Prop} {g : Nat} {xs : List S67} (h : Hp w base ok g xs) (m : Nat) : Hp (w.drewN m) base ok g xs := h.move (fun k _ _ => rfl)
theorem Hp.lt {w : World} {base : Nat} {ok : Nat → Prop} {g : Nat} {xs : List S67} (h : Hp w base ok g xs) : g < w.heap.size := by
  obtain ⟨v, hg, _⟩ := h
  exact blk_lt hg
theorem Hp.bound {w : World} {base : Nat} {ok : Nat → Prop} {g : Nat} {xs : List S67} (h : Hp w base ok g xs) : Hp w base (fun k => ok k ∧ base ≤ k ∧ k < w.heap.size) g xs := by
  obtain ⟨v, hg, okg, bg, hS⟩ := h
  exact ⟨v, hg, ⟨okg, bg, blk_lt hg⟩, bg, Kd.S_mono (Kd.S_bound hS) (fun k hk => ⟨hk.1, hk.2.1, hk.2.2.1⟩)⟩

/-! ### room -/
theorem room_any (g : Nat) (v : Value) (A : Option Addr) (len c : Nat) (t n : Int) (w : World) (hg : w.heap[g]? = some (.cells #[.slice A len c, .int .i64 t] 26 (0, 0))) (ht0 : 0 ≤ t) (ht1 : t ≤ 65536) (hl : len ≤ 4096) (hn : n ≤ 100000000) (r : Bool) (hr : r = (decide (0 ≤ n) && decide (n ≤ 65536 - t) && decide (len < 4096))) :
    Calls Try.prog 25 #[.pointer (some ⟨g, 0, none⟩), .int .i64 n] w fun e w' => e = .returned (.bool r) ∧ w = w' := by
  have hc0 : w.cell? ⟨g, 0, none⟩ = some (.slice A len c) := (blk_cell hg 0).trans rfl
  have hc1 : w.cell? ⟨g, 1, none⟩ = some (.int .i64 t) := (blk_cell hg 1).trans rfl
  have HR := Aside0.mk hr
  have hu26 := Try.underlying26
  clear hg hr
  by_cases h0 : 0 ≤ n
  · have d0 : decide (0 ≤ n) = true := decide_eq_true h0
    by_cases h1 : n ≤ 65536 - t
    · have d1 : decide (n ≤ 65536 - t) = true := decide_eq_true h1
      by_cases h2 : len < 4096
      · have d2 : decide (len < 4096) = true := decide_eq_true h2
        have d3 : decide ((len : Int) < 4096) = true := decide_eq_true (by omega)
        go_enter Try.func25, Try.ntmps25
        go_wp2
        go_ret
        exact ⟨by rw [HR.out, d0, d1, d2]; rfl, rfl⟩
      · have d2 : decide (len < 4096) = false := decide_eq_false h2
        have d3 : decide ((len : Int) < 4096) = false := decide_eq_false (by omega)
        go_enter Try.func25, Try.ntmps25
        go_wp2
        go_ret
        exact ⟨by rw [HR.out, d0, d1, d2]; rfl, rfl⟩
    · have d1 : decide (n ≤ 65536 - t) = false := decide_eq_false h1
      go_enter Try.func25, Try.ntmps25
      go_wp2
      go_ret
      exact ⟨by rw [HR.out, d0, d1]; rfl, rfl⟩
  · have d0 : decide (0 ≤ n) = false := decide_eq_false h0
    go_enter Try.func25, Try.ntmps25
    go_wp2
    go_ret
    exact ⟨by rw [HR.out, d0]; rfl, rfl⟩

/-! ### find -/
/-- Is there a cell that a value refers to? -/
def there (x : S32) (n : Nat) : Bool := x.f0 == 5 && (decide (0 ≤ x.f1) && decide (x.f1 < n))
set_option maxRecDepth 100000 in
theorem find_none (g : Nat) (A : Option Addr) (len c : Nat) (t : Int) (x : S32) (w : World) (hg : w.heap[g]? = some (.cells #[.slice A len c, .int .i64 t] 26 (0, 0))) (hx : there x len = false) :
    Calls Try.prog 28 #[.pointer (some ⟨g, 0, none⟩), .agg #[.int .i64 x.f0, .int .i64 x.f1, .string x.f2]] w fun e w' => e = .returned (.pointer none) ∧ Below w.heap.size w w' := by
  have hc0 : w.cell? ⟨g, 0, none⟩ = some (.slice A len c) := (blk_cell hg 0).trans rfl
  have hlt := blk_lt hg
  have hu26 := Try.underlying26
  have hu32 := Try.underlying32
  clear hg
  obtain ⟨k, i, s⟩ := x
  unfold there at hx
  simp only at hx ⊢
  by_cases h1 : k = 5
  · subst h1
    have e1 : ((5 : Int) != 5) = false := rfl
    by_cases h2 : 0 ≤ i
    · have d2 : decide (i < 0) = false := decide_eq_false (by omega)
      have h3 : ¬ i < (len : Int) := by
        intro h3
        rw [decide_eq_true h2, decide_eq_true h3] at hx
        cases hx
      have d3 : decide ((len : Int) ≤ i) = true := decide_eq_true (by omega)
      clear hx
      go_enter Try.func28, Try.ntmps28
      go_wp2
      go_quiet (fail)
      go_wp2
      go_ret
      exact ⟨rfl, by first | exact pw_below_drewN (below_alloc (Below.refl _ _) _) _ | exact below_alloc (Below.refl _ _) _⟩
    · have d2 : decide (i < 0) = true := decide_eq_true (by omega)
      clear hx
      go_enter Try.func28, Try.ntmps28
      go_wp2
      go_quiet (fail)
      go_wp2
      go_ret
      exact ⟨rfl, by first | exact pw_below_drewN (below_alloc (Below.refl _ _) _) _ | exact below_alloc (Below.refl _ _) _⟩
  · have e1 : (k != 5) = true := by simpa using h1
    clear hx h1
    go_enter Try.func28, Try.ntmps28
    go_wp2
    go_quiet (fail)
    go_wp2
    go_ret
    exact ⟨rfl, by first | exact pw_below_drewN (below_alloc (Below.refl _ _) _) _ | exact below_alloc (Below.refl _ _) _⟩
set_option maxRecDepth 100000 in
theorem find_some (g b : Nat) (len c : Nat) (t : Int) (x : S32) (w : World) (hg : w.heap[g]? = some (.cells #[.slice (some ⟨b, 0, none⟩) len c, .int .i64 t] 26 (0, 0))) (hx : there x len = true) (hlc : len ≤ c) :
    Calls Try.prog 28 #[.pointer (some ⟨g, 0, none⟩), .agg #[.int .i64 x.f0, .int .i64 x.f1, .string x.f2]] w fun e w' => e = .returned (.pointer (some ⟨b, x.f1.toNat * 7, none⟩)) ∧ Below w.heap.size w w' := by
  have hc0 : w.cell? ⟨g, 0, none⟩ = some (.slice (some ⟨b, 0, none⟩) len c) := (blk_cell hg 0).trans rfl
  have hlt := blk_lt hg
  have hu26 := Try.underlying26
  have hu32 := Try.underlying32
  clear hg
  obtain ⟨k, i, s⟩ := x
  unfold there at hx
  simp only [Bool.and_eq_true, decide_eq_true_eq, beq_iff_eq] at hx ⊢
  obtain ⟨rfl, h2, h3⟩ := hx
  have e1 : ((5 : Int) != 5) = false := rfl
  have d2 : decide (i < 0) = false := decide_eq_false (by omega)
  have d3 : decide ((len : Int) ≤ i) = false := decide_eq_false (by omega)
  go_enter Try.func28, Try.ntmps28
  go_wp2
  go_quiet (fail)
  go_wp2
  go_quiet (fail)
  go_wp2
  go_ret
  exact ⟨by simp [Addr.add], pw_below_drewN (pw_below_drewN (below_alloc (Below.refl _ _) _) _) _⟩
end Go.Proofs.Ytlfkmignkilplaa.PHeapPlays
