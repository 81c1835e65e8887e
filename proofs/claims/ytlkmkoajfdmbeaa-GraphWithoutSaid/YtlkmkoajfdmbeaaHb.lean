/- The law's own helper in, and how far each node is by all that tell it. No condition but that the edges lie in the graph. -/
import Derived.Test.YtlkmkoajfdmbeaaHa
namespace Go.Proofs.Ytlkmkoajfdmbeaa.PGraphWithout
open Go.RowKit Go.Proofs.YtlkmkoajfdmbeaaW.PrintWords
set_option linter.unusedVariables false
set_option linter.unusedSimpArgs false

def same41 (y : S41) (e : S29) : Bool := y.f0 == e.f0 && (y.f1 == e.f1 && (y.f2 == e.f2 && y.f3 == e.f3))
theorem in_run (ms : List S41) (x : S29) (hn : ms.length ≤ 100000) (d : Nat) : ∀ (k : Nat) (i : Nat), i ≤ ms.length → ms.length - i = d → d < k →
    caulkerlaw21_in.l0 k ms (ms.length : Int) (i : Int) x.f0 x.f1 x.f2 x.f3 = some ((ms.drop i).any (fun y => same41 y x)) := by
  induction d with
  | zero =>
    intro k i h1 hd hk
    obtain ⟨k, rfl⟩ : ∃ m, k = m + 1 := ⟨k - 1, by omega⟩
    simp only [caulkerlaw21_in.l0]
    rw [if_neg (by omega), List.drop_eq_nil_of_le (by omega)]
    rfl
  | succ d ih =>
    intro k i h1 hd hk
    obtain ⟨k, rfl⟩ : ∃ m, k = m + 1 := ⟨k - 1, by omega⟩
    have hlt : i < ms.length := by omega
    have hdr : ms.drop i = rd_T41 ms (i : Int) :: ms.drop (i + 1) := by
      rw [List.drop_eq_getElem_cons hlt]
      congr 1
      simp [rd_T41, List.getD_eq_getElem?_getD, List.getElem?_eq_getElem hlt]
    have hw : wrap64 ((i : Int) + 1) = ((i + 1 : Nat) : Int) := by unfold wrap64; omega
    simp only [caulkerlaw21_in.l0]
    rw [if_pos (by omega), if_pos (by omega), if_pos (by omega), hdr, List.any_cons, hw, ih k (i + 1) (by omega) (by omega) (by omega)]
    by_cases hs : same41 (rd_T41 ms (i : Int)) x = true
    · exact (if_pos hs).trans (by rw [hs, Bool.true_or])
    · have hf : same41 (rd_T41 ms (i : Int)) x = false := by simpa using hs
      exact (if_neg hs).trans (by rw [hf, Bool.false_or])
theorem in_any (ms : List S41) (x : S29) (A : Option Addr) (c : Nat) (w : World) (hr : Kd.C k41 w A ms.length ms) (hc : ms.length ≤ c) (hn : ms.length ≤ 100000) :
    Calls Try.prog 19 #[.slice A ms.length c, .agg #[.int .i64 x.f0, .int .i64 x.f1, .int .i64 x.f2, .int .i64 x.f3]] w fun e w' => e = .returned (.bool (ms.any (fun y => same41 y x))) ∧ Below w.heap.size w w' :=
  caulkerlaw21_in.calls (ms.length + 1) A c ms _ _ _ _ _ w hr hc (in_run ms x hn ms.length (ms.length + 1) 0 (by omega) (by omega) (by omega))
section
variable {n : Nat} {es : List S29}
theorem in_mem {x : S29} : (es.map to41).any (fun y => same41 y x) = true ↔ x ∈ es := by
  rw [List.any_eq_true]
  constructor
  · rintro ⟨y, hy, hs⟩
    obtain ⟨z, hz, rfl⟩ := List.mem_map.1 hy
    unfold same41 to41 at hs
    simp only [Bool.and_eq_true, beq_iff_eq] at hs
    obtain ⟨a, b, c, d⟩ := z
    obtain ⟨a', b', c', d'⟩ := x
    simp only at hs
    obtain ⟨rfl, rfl, rfl, rfl⟩ := hs
    exact hz
  · intro h
    exact ⟨to41 x, List.mem_map.2 ⟨x, h, rfl⟩, by unfold same41 to41; simp⟩
/-- How far each node is: by the way back, by Far, by the document's Far. -/
theorem paths_ok (hes : Inn n es) (hn : n ≤ 60) : ∃ (L : Nat → Nat) (K : Nat), K ≤ 1000000 ∧ farL (es.map to41) K (List.replicate n (-1)) = some ((List.range n).map (farV L)) ∧
    (∀ i, i < n → ∃ (K : Nat) (r : List S29), K ≤ 100000 ∧ pathL es (walkF n es (fun _ => false) (-1)) K (i : Int) [] = some r ∧ r.length = L i ∧ L i ≤ 100000) ∧
    ∀ a : Int, 0 ≤ a → a < n → ∃ r : List S29, pathL es (walkF n es (fun _ => false) (-1)) (n + 1) a [] = some r ∧ (0 ≤ rd ((List.range n).map (farV L)) a → (r.length : Int) = rd ((List.range n).map (farV L)) a ∧ Chain (-1) r.reverse a ∧ ∀ e ∈ r, e ∈ es) ∧ (rd ((List.range n).map (farV L)) a < 0 → r = []) := by
  obtain ⟨d, hd⟩ := walkF_dist hes (fun _ => false) (-1)
  obtain ⟨D, hD, hl, hlow, hsnd, hmin⟩ := far_spec (Inn.to41 hes)
  have hto : ∀ (m : Nat) (a : Int), Rc (Psh (es.map to41) []) m a → Rc (Pv es (fun _ => false) (-1)) m a := fun m a h => h.mono (fun e he => (pv_none e).1 he)
  have hfro : ∀ (m : Nat) (a : Int), Rc (Pv es (fun _ => false) (-1)) m a → Rc (Psh (es.map to41) []) m a := fun m a h => h.mono (fun e he => (pv_none e).2 he)
  obtain ⟨x, hx⟩ : ∃ x, x = walkF n es (fun _ => false) (-1) := ⟨_, rfl⟩
  rw [← hx] at hd
  -- what each node has
  have hat : ∀ a : Int, 0 ≤ a → a < n → (0 ≤ rd x a → 1 ≤ d a ∧ d a ≤ n ∧ rd D a = d a) ∧ (rd x a < 0 → rd D a = -1) := by
    intro a h0 h1
    constructor
    · intro h2
      have hdc : Dc n x a := .inr ⟨h0, h1, h2⟩
      have hr := hd.bfs.reach (d a) a rfl hdc
      obtain ⟨h3, h4⟩ := hmin a (d a) h0 h1 (hfro _ _ hr)
      have h5 := (Rc.dc hes hd.bfs (hto _ _ (hsnd a h0 h1 h3))).2
      refine ⟨?_, hd.bound a hdc, by omega⟩
      have hne : d a ≠ 0 := by
        intro hz
        rw [hz] at hr
        have : a = -1 := by cases hr; rfl
        omega
      omega
    · intro h2
      have h3 := hlow a h0 h1
      by_cases h4 : 0 ≤ rd D a
      · have := (walk_iff hes h0 h1).2 ⟨_, hto _ _ (hsnd a h0 h1 h4)⟩
        rw [← hx] at this
        omega
      · omega
  obtain ⟨L, hL⟩ : ∃ L : Nat → Nat, L = fun i : Nat => if 0 ≤ rd x (i : Int) then d (i : Int) else 0 := ⟨_, rfl⟩
  have hDL : D = (List.range n).map (farV L) := by
    apply List.ext_getElem?
    intro i
    by_cases hi : i < n
    · obtain ⟨h1, h2⟩ := hat (i : Int) (by omega) (by omega)
      have h3 : D[i]? = some (rd D (i : Int)) := by
        unfold rd
        rw [Int.toNat_natCast, List.getD_eq_getElem?_getD, List.getElem?_eq_getElem (by omega)]
        rfl
      rw [h3, List.getElem?_map, List.getElem?_range hi]
      show some (rd D (i : Int)) = some (farV L i)
      congr 1
      unfold farV
      rw [hL]
      simp only
      by_cases h4 : 0 ≤ rd x (i : Int)
      · obtain ⟨h5, _, h6⟩ := h1 h4
        rw [if_pos h4, if_neg (by omega), h6]
      · rw [if_neg h4, if_pos rfl, h2 (by omega)]
    · rw [List.getElem?_eq_none (by omega), List.getElem?_eq_none (by simp; omega)]
  have hps : ∀ a : Int, 0 ≤ a → a < n → ∃ r, pathL es x (n + 1) a [] = some r ∧ (if 0 ≤ rd x a then r.length = d a ∧ Chain (-1) r.reverse a ∧ ∀ e ∈ r, Pv es (fun _ => false) (-1) e else r = []) := by
    intro a h0 h1
    rw [hx] at hd ⊢
    exact path_spec hes hd h0 h1
  have hnn : n * (n + 1) ≤ 60 * 61 := Nat.mul_le_mul hn (by omega)
  refine ⟨L, n * (n + 1) + 1, by omega, by rw [hD, hDL], ?_, ?_⟩
  · intro i hi
    obtain ⟨r, hr, hr2⟩ := hps (i : Int) (by omega) (by omega)
    rw [← hx]
    refine ⟨n + 1, r, by omega, hr, ?_, ?_⟩
    · rw [hL]
      simp only
      split at hr2
      · next h4 => rw [if_pos h4]; exact hr2.1
      · next h4 => rw [if_neg h4, hr2]; rfl
    · rw [hL]
      simp only
      split
      · next h4 =>
        have := (hat (i : Int) (by omega) (by omega)).1 h4
        omega
      · omega
  · intro a h0 h1
    obtain ⟨r, hr, hr2⟩ := hps a h0 h1
    rw [← hx, ← hDL]
    refine ⟨r, hr, ?_, ?_⟩
    · intro h2
      by_cases h4 : 0 ≤ rd x a
      · rw [if_pos h4] at hr2
        obtain ⟨_, _, h6⟩ := (hat a h0 h1).1 h4
        refine ⟨by rw [h6, hr2.1], hr2.2.1, fun e he => (pv_all e).1 (hr2.2.2 e he)⟩
      · have := (hat a h0 h1).2 (by omega)
        omega
    · intro h2
      by_cases h4 : 0 ≤ rd x a
      · have := (hat a h0 h1).1 h4
        omega
      · rw [if_neg h4] at hr2
        exact hr2
end
end Go.Proofs.Ytlkmkoajfdmbeaa.PGraphWithout
