/- The plain law of the document's Solve: it ends, and tells to which nodes null comes. No condition but that the edges lie in the graph. -/
import Derived.Test.YtlkmkoajfdmbeaaGs
namespace Go.Proofs.Ytlkmkoajfdmbeaa.PGraphWithout
open Go.RowKit Go.Proofs.YtlkmkoajfdmbeaaW.PrintWords
set_option linter.unusedVariables false
set_option linter.unusedSimpArgs false

theorem rdOf_set (x : List Bool) (i j : Int) (v : Bool) (hi : 0 ≤ i) (hj : 0 ≤ j) (hl : j < x.length) : rdOf false (x.set j.toNat v) i = if i = j then v else rdOf false x i := by
  unfold rdOf
  rw [List.getD_eq_getElem?_getD, List.getElem?_set]
  by_cases h : i = j
  · subst h
    rw [if_pos rfl, if_pos (by omega), if_pos rfl]
    rfl
  · rw [if_neg (by omega), if_neg h, ← List.getD_eq_getElem?_getD]
def cntT (x : List Bool) : Nat := x.countP (fun b => b)
theorem cntT_le (x : List Bool) : cntT x ≤ x.length := List.countP_le_length
theorem cntT_set : ∀ (x : List Bool) (j : Nat), j < x.length → x.getD j false = false → cntT (x.set j true) = cntT x + 1
  | [], j, h, _ => by simp at h
  | b :: x, 0, _, h => by
    have hb : b = false := by simpa using h
    subst hb
    show (true :: x).countP _ = (false :: x).countP _ + 1
    simp
  | b :: x, j + 1, h, h2 => by
    have ih := cntT_set x j (by simpa using h) (by simpa using h2)
    unfold cntT at ih ⊢
    show (b :: x.set j true).countP _ = (b :: x).countP _ + 1
    rw [List.countP_cons, List.countP_cons, ih]
    omega
/-- An edge along which something would come yet. -/
def Fires (shut : List Int) (x : List Bool) (e : S41) : Prop := ((e.f0 = -1 ∨ rdOf false x e.f0 = true) ∧ ¬ e.f1 ∈ shut) ∧ rdOf false x e.f1 = false
theorem sstep_fire {shut : List Int} {s : List Bool × Bool} {e : S41} (h : Fires shut s.1 e) : sstep shut s e = (s.1.set e.f1.toNat true, true) := if_pos h
theorem sstep_not {shut : List Int} {s : List Bool × Bool} {e : S41} (h : ¬ Fires shut s.1 e) : sstep shut s e = s := if_neg h
section
variable {l : List S41} {shut : List Int} {n : Nat} {r : List Bool}
theorem sfold_flag : ∀ (l : List S41) (s : List Bool × Bool), s.2 = true → (l.foldl (sstep shut) s).2 = true
  | [], s, h => h
  | e :: l, s, h => by
    rw [List.foldl_cons]
    refine sfold_flag l _ ?_
    by_cases hf : Fires shut s.1 e
    · rw [sstep_fire hf]
    · rw [sstep_not hf]; exact h
/-- The count of what is true never falls, and rises where the flag is set. -/
theorem sfold_cnt : ∀ (l : List S41) (s : List Bool × Bool), s.1.length = n → Inn41 n l → (cntT s.1 ≤ cntT (l.foldl (sstep shut) s).1) ∧ ((l.foldl (sstep shut) s).2 = true → s.2 = true ∨ cntT s.1 < cntT (l.foldl (sstep shut) s).1) ∧
    ((l.foldl (sstep shut) s).2 = false → (l.foldl (sstep shut) s).1 = s.1 ∧ ∀ e ∈ l, ¬ Fires shut s.1 e)
  | [], s, _, _ => ⟨Nat.le_refl _, fun h => .inl h, fun _ => ⟨rfl, fun _ h => by cases h⟩⟩
  | e :: l, s, hx, hin => by
    have hl : Inn41 n l := fun z hz => hin z (List.mem_cons_of_mem _ hz)
    rw [List.foldl_cons]
    have he := hin e List.mem_cons_self
    by_cases hf : Fires shut s.1 e
    · have hc : cntT (s.1.set e.f1.toNat true) = cntT s.1 + 1 := cntT_set _ _ (by omega) hf.2
      obtain ⟨h1, h2, h3⟩ := sfold_cnt l (sstep shut s e) (by rw [sstep_len]; exact hx) hl
      rw [sstep_fire hf] at h1 h2 h3 ⊢
      simp only at h1 h2 h3 ⊢
      refine ⟨by omega, fun _ => .inr (by omega), fun h => ?_⟩
      obtain ⟨h4, _⟩ := h3 h
      have := sfold_flag (shut := shut) l (s.1.set e.f1.toNat true, true) rfl
      rw [this] at h
      cases h
    · rw [sstep_not hf]
      obtain ⟨h1, h2, h3⟩ := sfold_cnt l s hx hl
      refine ⟨h1, h2, fun h => ?_⟩
      obtain ⟨h4, h5⟩ := h3 h
      refine ⟨h4, fun z hz => ?_⟩
      rcases List.mem_cons.1 hz with rfl | hz
      · exact hf
      · exact h5 z hz
def Psh (l : List S41) (shut : List Int) (e : S29) : Prop := to41 e ∈ l ∧ ¬ e.f1 ∈ shut
/-- What is true is reached. -/
def Snd (l : List S41) (shut : List Int) (x : List Bool) : Prop := ∀ a : Int, 0 ≤ a → rdOf false x a = true → ∃ m, Rc (Psh l shut) m a
theorem snd_fold (hin : Inn41 n l) : ∀ (k : List S41) (s : List Bool × Bool), (∀ e ∈ k, e ∈ l) → s.1.length = n → Snd l shut s.1 → Snd l shut (k.foldl (sstep shut) s).1
  | [], s, _, _, h => h
  | e :: k, s, hk, hx, h => by
    rw [List.foldl_cons]
    refine snd_fold hin k _ (fun z hz => hk z (List.mem_cons_of_mem _ hz)) (by rw [sstep_len]; exact hx) ?_
    have hel := hk e List.mem_cons_self
    have he := hin e hel
    by_cases hf : Fires shut s.1 e
    · rw [sstep_fire hf]
      intro a h0 ha
      simp only at ha
      rw [rdOf_set _ _ _ _ h0 he.2.2.1 (by omega)] at ha
      by_cases hc : a = e.f1
      · subst hc
        have hm : ∃ m, Rc (Psh l shut) m e.f0 := by
          rcases hf.1.1 with h1 | h1
          · exact ⟨0, h1 ▸ .null⟩
          · by_cases h2 : 0 ≤ e.f0
            · exact h _ h2 h1
            · exact ⟨0, by have : e.f0 = -1 := by omega
                           rw [this]; exact .null⟩
        obtain ⟨m, hm⟩ := hm
        exact ⟨m + 1, Rc.step (e := to29 e) hm ⟨hel, hf.1.2⟩ rfl⟩
      · rw [if_neg hc] at ha
        exact h a h0 ha
    · rw [sstep_not hf]; exact h
theorem sol_end (hin : Inn41 n l) : ∀ (K : Nat) (x : List Bool), x.length = n → n < cntT x + K → Snd l shut x → ∃ r, solL l shut K x = some r ∧ r.length = n ∧ Snd l shut r ∧ ∀ e ∈ l, ¬ Fires shut r e
  | 0, x, hx, hk, _ => by have := cntT_le x; omega
  | K + 1, x, hx, hk, hs => by
    obtain ⟨h1, h2, h3⟩ := sfold_cnt (shut := shut) l (x, false) hx hin
    have hl := sfold_len shut l (x, false)
    have hsn := snd_fold (shut := shut) hin l (x, false) (fun _ h => h) hx hs
    simp only [solL]
    by_cases hc : (l.foldl (sstep shut) (x, false)).2 = true
    · rw [if_pos hc]
      rcases h2 hc with h2 | h2
      · cases h2
      · simp only at h2 hl
        exact sol_end hin K _ (by rw [hl]; exact hx) (by omega) hsn
    · rw [if_neg hc]
      obtain ⟨h4, h5⟩ := h3 (by simpa using hc)
      refine ⟨_, rfl, by rw [hl]; exact hx, hsn, ?_⟩
      rw [h4]
      exact h5
/-- It ends, and tells just the nodes to which null comes. -/
theorem sol_spec (hin : Inn41 n l) : ∃ r, solL l shut (n + 1) (List.replicate n false) = some r ∧ r.length = n ∧ ∀ a : Int, 0 ≤ a → a < n → (rdOf false r a = true ↔ ∃ m, Rc (Psh l shut) m a) := by
  have h0 : Snd l shut (List.replicate n false) := fun a _ h => by
    unfold rdOf at h
    rw [List.getD_eq_getElem?_getD, List.getElem?_replicate] at h
    split at h <;> cases h
  obtain ⟨r, hr, hl, hs, hf⟩ := sol_end (shut := shut) hin (n + 1) (List.replicate n false) (by simp) (by omega) h0
  refine ⟨r, hr, hl, fun a h0 h1 => ⟨hs a h0, ?_⟩⟩
  have key : ∀ (m : Nat) (a : Int), Rc (Psh l shut) m a → a = -1 ∨ rdOf false r a = true := by
    intro m a h
    induction h with
    | null => exact .inl rfl
    | @step m a e h hp ha ih =>
      cases hc : rdOf false r e.f1 with
      | true => exact .inr rfl
      | false => exact absurd (⟨⟨by subst ha; exact ih, hp.2⟩, hc⟩ : Fires shut r (to41 e)) (hf _ hp.1)
  rintro ⟨m, hm⟩
  rcases key m a hm with h | h
  · omega
  · exact h
end
end Go.Proofs.Ytlkmkoajfdmbeaa.PGraphWithout
