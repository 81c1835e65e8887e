/- The plain law of the document's Far: it ends, and tells how far each node is. No condition but that the edges lie in the graph. -/
import Derived.Test.YtlkmkoajfdmbeaaGx
namespace Go.Proofs.Ytlkmkoajfdmbeaa.PGraphWithout
open Go.RowKit Go.Proofs.YtlkmkoajfdmbeaaW.PrintWords
set_option linter.unusedVariables false
set_option linter.unusedSimpArgs false

theorem sum_set (g : Int → Nat) (v : Int) : ∀ (x : List Int) (j : Nat), j < x.length → ((x.set j v).map g).sum + g (x.getD j 0) = (x.map g).sum + g v
  | [], j, h => by simp at h
  | b :: x, 0, _ => by
    show g v + (x.map g).sum + g b = g b + (x.map g).sum + g v
    omega
  | b :: x, j + 1, h => by
    have ih := sum_set g v x j (by simpa using h)
    show g b + ((x.set j v).map g).sum + g (x.getD j 0) = g b + (x.map g).sum + g v
    omega
theorem sum_le (g : Int → Nat) (B : Nat) (hg : ∀ v, g v ≤ B) : ∀ x : List Int, (x.map g).sum ≤ x.length * B
  | [] => by simp
  | b :: x => by
    have ih := sum_le g B hg x
    have := hg b
    rw [List.map_cons, List.sum_cons, List.length_cons, Nat.succ_mul]
    omega
def cntV (x : List Int) : Nat := (x.map (fun v : Int => if 0 ≤ v then 1 else 0)).sum
theorem cntV_le (x : List Int) : cntV x ≤ x.length := by
  have := sum_le (fun v : Int => if 0 ≤ v then 1 else 0) 1 (fun v => by split <;> omega) x
  unfold cntV
  omega
def muV (n : Nat) (x : List Int) : Nat := (x.map (fun v : Int => if v < 0 then n + 1 else v.toNat)).sum
def mOf (x : List Int) (e : S41) : Int := if 0 ≤ e.f0 then rd x e.f0 else 0
def Imp (x : List Int) (e : S41) : Prop := 0 ≤ mOf x e ∧ (rd x e.f1 < 0 ∨ mOf x e + 1 < rd x e.f1)
theorem fstep_imp {s : List Int × Bool} {e : S41} (h : Imp s.1 e) : fstep s e = (s.1.set e.f1.toNat (mOf s.1 e + 1), true) := if_pos h
theorem fstep_not {s : List Int × Bool} {e : S41} (h : ¬ Imp s.1 e) : fstep s e = s := if_neg h
/-- What is held at each time. -/
structure Fi (n : Nat) (l : List S41) (x : List Int) : Prop where
  len : x.length = n
  low : ∀ i : Int, 0 ≤ i → i < n → -1 ≤ rd x i
  snd : ∀ i : Int, 0 ≤ i → i < n → 0 ≤ rd x i → Rc (Psh l []) (rd x i).toNat i
  bnd : ∀ i : Int, 0 ≤ i → i < n → rd x i ≤ cntV x
theorem rdV (x : List Int) (j : Int) : x.getD j.toNat 0 = rd x j := rfl
section
variable {n : Nat} {l : List S41}
theorem Fi.step {x : List Int} {e : S41} (h : Fi n l x) (hel : e ∈ l) (he : -1 ≤ e.f0 ∧ e.f0 < n ∧ 0 ≤ e.f1 ∧ e.f1 < n) (hi : Imp x e) :
    Fi n l (x.set e.f1.toNat (mOf x e + 1)) ∧ muV n (x.set e.f1.toNat (mOf x e + 1)) < muV n x := by
  have hj : e.f1.toNat < x.length := by have := h.len; omega
  have hm0 : 0 ≤ mOf x e := hi.1
  have hc := sum_set (fun v : Int => if 0 ≤ v then 1 else 0) (mOf x e + 1) x e.f1.toNat hj
  have hmu := sum_set (fun v : Int => if v < 0 then n + 1 else v.toNat) (mOf x e + 1) x e.f1.toNat hj
  rw [rdV] at hc hmu
  rw [if_pos (by omega : 0 ≤ mOf x e + 1)] at hc
  rw [if_neg (by omega : ¬ mOf x e + 1 < 0)] at hmu
  change cntV (x.set e.f1.toNat (mOf x e + 1)) + _ = cntV x + 1 at hc
  change muV n (x.set e.f1.toNat (mOf x e + 1)) + _ = muV n x + _ at hmu
  have hcl := cntV_le (x.set e.f1.toNat (mOf x e + 1))
  rw [List.length_set, h.len] at hcl
  have hmb : mOf x e ≤ cntV x := by
    unfold mOf
    by_cases h0 : 0 ≤ e.f0
    · rw [if_pos h0]; exact h.bnd _ h0 he.2.1
    · rw [if_neg h0]; omega
  have hrc : Rc (Psh l []) (mOf x e).toNat e.f0 := by
    unfold mOf at hm0 ⊢
    by_cases h0 : 0 ≤ e.f0
    · rw [if_pos h0] at hm0 ⊢
      exact h.snd _ h0 he.2.1 hm0
    · rw [if_neg h0]
      have : e.f0 = -1 := by omega
      rw [this]
      exact .null
  have hnew : Rc (Psh l []) (mOf x e + 1).toNat e.f1 := by
    have h1 := Rc.step (e := to29 e) hrc ⟨hel, by simp⟩ rfl
    have : (mOf x e + 1).toNat = (mOf x e).toNat + 1 := by omega
    rw [this]
    exact h1
  have hbound : (mOf x e + 1 : Int) ≤ cntV (x.set e.f1.toNat (mOf x e + 1)) ∧ cntV x ≤ cntV (x.set e.f1.toNat (mOf x e + 1)) ∧ muV n (x.set e.f1.toNat (mOf x e + 1)) < muV n x := by
    by_cases hn : rd x e.f1 < 0
    · rw [if_neg (by omega)] at hc
      rw [if_pos hn] at hmu
      omega
    · rw [if_pos (by omega)] at hc
      rw [if_neg hn] at hmu
      have h2 := hi.2.resolve_left hn
      have h3 := h.bnd _ he.2.2.1 he.2.2.2
      omega
  refine ⟨⟨by rw [List.length_set]; exact h.len, ?_, ?_, ?_⟩, hbound.2.2⟩
  · intro i h0 h1
    rw [rd_set _ _ _ _ h0 he.2.2.1 (by have := h.len; omega)]
    split
    · omega
    · exact h.low i h0 h1
  · intro i h0 h1
    rw [rd_set _ _ _ _ h0 he.2.2.1 (by have := h.len; omega)]
    split
    · next hq => intro _; rw [hq]; exact hnew
    · exact h.snd i h0 h1
  · intro i h0 h1
    rw [rd_set _ _ _ _ h0 he.2.2.1 (by have := h.len; omega)]
    split
    · exact hbound.1
    · have := h.bnd i h0 h1
      omega
theorem ffold_flag : ∀ (k : List S41) (s : List Int × Bool), s.2 = true → (k.foldl fstep s).2 = true
  | [], s, h => h
  | e :: k, s, h => by
    rw [List.foldl_cons]
    refine ffold_flag k _ ?_
    by_cases hf : Imp s.1 e
    · rw [fstep_imp hf]
    · rw [fstep_not hf]; exact h
theorem ffold (hin : Inn41 n l) : ∀ (k : List S41) (s : List Int × Bool), (∀ e ∈ k, e ∈ l) → Fi n l s.1 → Fi n l (k.foldl fstep s).1 ∧ muV n (k.foldl fstep s).1 ≤ muV n s.1 ∧ ((k.foldl fstep s).2 = true → s.2 = true ∨ muV n (k.foldl fstep s).1 < muV n s.1) ∧
    ((k.foldl fstep s).2 = false → (k.foldl fstep s).1 = s.1 ∧ ∀ e ∈ k, ¬ Imp s.1 e)
  | [], s, _, h => ⟨h, Nat.le_refl _, fun h => .inl h, fun _ => ⟨rfl, fun _ h => by cases h⟩⟩
  | e :: k, s, hk, h => by
    have hel := hk e List.mem_cons_self
    have hk2 : ∀ z ∈ k, z ∈ l := fun z hz => hk z (List.mem_cons_of_mem _ hz)
    rw [List.foldl_cons]
    by_cases hf : Imp s.1 e
    · obtain ⟨h1, h2⟩ := h.step hel (hin e hel) hf
      rw [fstep_imp hf]
      obtain ⟨i1, i2, i3, i4⟩ := ffold hin k (s.1.set e.f1.toNat (mOf s.1 e + 1), true) hk2 h1
      simp only at i1 i2 i3 i4
      refine ⟨i1, by omega, fun _ => .inr (by omega), fun hc => ?_⟩
      rw [ffold_flag k _ rfl] at hc
      cases hc
    · rw [fstep_not hf]
      obtain ⟨i1, i2, i3, i4⟩ := ffold hin k s hk2 h
      refine ⟨i1, i2, i3, fun hc => ?_⟩
      obtain ⟨h4, h5⟩ := i4 hc
      refine ⟨h4, fun z hz => ?_⟩
      rcases List.mem_cons.1 hz with rfl | hz
      · exact hf
      · exact h5 z hz
theorem far_end (hin : Inn41 n l) : ∀ (K : Nat) (x : List Int), Fi n l x → muV n x < K → ∃ r, farL l K x = some r ∧ Fi n l r ∧ ∀ e ∈ l, ¬ Imp r e
  | 0, x, _, hk => by omega
  | K + 1, x, h, hk => by
    obtain ⟨h1, h2, h3, h4⟩ := ffold hin l (x, false) (fun _ h => h) h
    simp only [farL]
    by_cases hc : (l.foldl fstep (x, false)).2 = true
    · rw [if_pos hc]
      rcases h3 hc with h3 | h3
      · cases h3
      · simp only at h3
        exact far_end hin K _ h1 (by omega)
    · rw [if_neg hc]
      obtain ⟨h5, h6⟩ := h4 (by simpa using hc)
      refine ⟨_, rfl, h1, ?_⟩
      rw [h5]
      exact h6
/-- It ends, and tells the least number of edges. -/
theorem far_spec (hin : Inn41 n l) : ∃ r, farL l (n * (n + 1) + 1) (List.replicate n (-1)) = some r ∧ r.length = n ∧ (∀ a : Int, 0 ≤ a → a < n → -1 ≤ rd r a) ∧ (∀ a : Int, 0 ≤ a → a < n → 0 ≤ rd r a → Rc (Psh l []) (rd r a).toNat a) ∧
    ∀ (a : Int) (m : Nat), 0 ≤ a → a < n → Rc (Psh l []) m a → 0 ≤ rd r a ∧ rd r a ≤ m := by
  have hr : ∀ a : Int, 0 ≤ a → a < n → rd (List.replicate n (-1 : Int)) a = -1 := by
    intro a h0 h1
    unfold rd
    rw [List.getD_eq_getElem?_getD, List.getElem?_replicate, if_pos (by omega)]
    rfl
  have h0 : Fi n l (List.replicate n (-1)) := ⟨by simp, fun i h0 h1 => by rw [hr i h0 h1]; omega, fun i h0 h1 h2 => by rw [hr i h0 h1] at h2; omega, fun i h0 h1 => by rw [hr i h0 h1]; omega⟩
  have hmu : muV n (List.replicate n (-1)) ≤ n * (n + 1) := by
    unfold muV
    rw [List.map_replicate, List.sum_replicate_nat]
    simp
  obtain ⟨r, h1, h2, h3⟩ := far_end hin (n * (n + 1) + 1) (List.replicate n (-1)) h0 (by omega)
  refine ⟨r, h1, h2.len, h2.low, h2.snd, fun a m ha0 ha1 hm => ?_⟩
  have key : ∀ (m : Nat) (a : Int), Rc (Psh l []) m a → a = -1 ∨ (0 ≤ rd r a ∧ rd r a ≤ m) := by
    intro m a h
    induction h with
    | null => exact .inl rfl
    | @step m a e h hp ha ih =>
      have hi := hin _ hp.1
      have hni := h3 _ hp.1
      unfold Imp at hni
      have hm : 0 ≤ mOf r (to41 e) ∧ mOf r (to41 e) ≤ m := by
        unfold mOf
        show 0 ≤ (if 0 ≤ e.f0 then rd r e.f0 else 0) ∧ (if 0 ≤ e.f0 then rd r e.f0 else 0) ≤ (m : Int)
        subst ha
        by_cases hf : 0 ≤ e.f0
        · rw [if_pos hf]
          rcases ih with h4 | h4
          · omega
          · exact h4
        · rw [if_neg hf]; omega
      have h5 : ¬ (rd r e.f1 < 0 ∨ mOf r (to41 e) + 1 < rd r e.f1) := fun h => hni ⟨hm.1, h⟩
      exact .inr (by omega)
  rcases key m a hm with h | h
  · omega
  · exact h
end
end Go.Proofs.Ytlkmkoajfdmbeaa.PGraphWithout
