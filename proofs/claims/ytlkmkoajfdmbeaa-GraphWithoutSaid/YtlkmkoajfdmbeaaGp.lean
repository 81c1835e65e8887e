/- The plain law of the walk: to which nodes null comes, and how far. No condition but that the edges lie in the graph. -/
import Derived.Test.YtlkmkoajfdmbeaaGn
namespace Go.Proofs.Ytlkmkoajfdmbeaa.PGraphWithout
open Go.RowKit Go.Proofs.YtlkmkoajfdmbeaaW.PrintWords
set_option linter.unusedVariables false
set_option linter.unusedSimpArgs false

/-! ### How null comes to a node -/
/-- By m edges of which P holds null comes to a. -/
inductive Rc (P : S29 → Prop) : Nat → Int → Prop
  | null : Rc P 0 (-1)
  | step {m : Nat} {a : Int} {e : S29} (h : Rc P m a) (hp : P e) (ha : e.f0 = a) : Rc P (m + 1) e.f1
theorem Rc.mono {P Q : S29 → Prop} (hPQ : ∀ e, P e → Q e) {m : Nat} {a : Int} (h : Rc P m a) : Rc Q m a := by
  induction h with
  | null => exact .null
  | step h hp ha ih => exact .step ih (hPQ _ hp) ha
/-- Number k is an edge along which something may come. -/
def Vk (es : List S29) (F : Int → Bool) (skip k : Int) : Prop := 0 ≤ k ∧ k < es.length ∧ k ≠ skip ∧ F (rd_T29 es k).f1 = false
def Pv (es : List S29) (F : Int → Bool) (skip : Int) (e : S29) : Prop := ∃ k, Vk es F skip k ∧ rd_T29 es k = e
def Dc (n : Nat) (x : List Int) (a : Int) : Prop := a = -1 ∨ (0 ≤ a ∧ a < n ∧ 0 ≤ rd x a)
theorem outs_iff {es : List S29} {k : Int} (h0 : 0 ≤ k) (h1 : k < es.length) : k ∈ outs es (rd_T29 es k).f0 := by
  unfold outs
  rw [List.mem_map]
  have hk : k.toNat < es.length := by omega
  refine ⟨(es[k.toNat], k.toNat), ?_, by simp; omega⟩
  rw [List.mem_filter]
  refine ⟨?_, ?_⟩
  · rw [List.mem_zipIdx_iff_getElem?]
    exact List.getElem?_eq_getElem hk
  · simp [rd_T29, List.getD_eq_getElem?_getD, List.getElem?_eq_getElem hk]

section
variable {n : Nat} {es : List S29} {F : Int → Bool} {skip : Int}
def Procd (n : Nat) (es : List S29) (F : Int → Bool) (skip : Int) (x : List Int) (d : Int → Nat) (b : Int) : Prop := ∀ k, Vk es F skip k → (rd_T29 es k).f0 = b → Dc n x (rd_T29 es k).f1 ∧ d (rd_T29 es k).f1 ≤ d b + 1
/-- What holds between the rounds. -/
structure Bfs (n : Nat) (es : List S29) (F : Int → Bool) (skip : Int) (x t : List Int) (d : Int → Nat) : Prop where
  zero : d (-1) = 0
  par : ∀ i : Int, 0 ≤ i → i < n → 0 ≤ rd x i → Vk es F skip (rd x i) ∧ (rd_T29 es (rd x i)).f1 = i ∧ Dc n x (rd_T29 es (rd x i)).f0 ∧ d i = d (rd_T29 es (rd x i)).f0 + 1
  que : ∀ a ∈ t, Dc n x a
  all : ∀ b, Dc n x b → b ∈ t ∨ Procd n es F skip x d b
  sort : t.Pairwise (fun a b => d a ≤ d b)
  near : ∀ b, Dc n x b → ∀ a ∈ t, d b ≤ d a + 1
/-- What holds inside a round, a being gone through. -/
structure BfsI (n : Nat) (es : List S29) (F : Int → Bool) (skip : Int) (x t : List Int) (d : Int → Nat) (a : Int) (dn : List Int) : Prop where
  zero : d (-1) = 0
  par : ∀ i : Int, 0 ≤ i → i < n → 0 ≤ rd x i → Vk es F skip (rd x i) ∧ (rd_T29 es (rd x i)).f1 = i ∧ Dc n x (rd_T29 es (rd x i)).f0 ∧ d i = d (rd_T29 es (rd x i)).f0 + 1
  que : ∀ a ∈ t, Dc n x a
  all : ∀ b, Dc n x b → b ∈ t ∨ b = a ∨ Procd n es F skip x d b
  sort : t.Pairwise (fun a b => d a ≤ d b)
  near : ∀ b, Dc n x b → d b ≤ d a + 1 ∧ ∀ c ∈ t, d b ≤ d c + 1
  low : ∀ c ∈ t, d a ≤ d c
  here : Dc n x a
  done : ∀ k ∈ dn, Vk es F skip k → Dc n x (rd_T29 es k).f1 ∧ d (rd_T29 es k).f1 ≤ d a + 1
theorem BfsI.step {x t dn : List Int} {d : Int → Nat} {a : Int} (h : BfsI n es F skip x t d a dn) (hes : Inn n es) (hx : x.length = n) {k : Int} (hk : k ∈ outs es a) :
    ∃ d', BfsI n es F skip (wstep es F skip (x, t) k).1 (wstep es F skip (x, t) k).2 d' a (dn ++ [k]) := by
  obtain ⟨k0, k1, kf⟩ := outs_mem hk
  have hin := hes.at_ k0 k1
  obtain ⟨b, hb⟩ : ∃ b, b = (rd_T29 es k).f1 := ⟨_, rfl⟩
  unfold wstep
  simp only
  rw [← hb] at hin ⊢
  by_cases hc : k = skip ∨ F b = true ∨ 0 ≤ rd x b
  · rw [if_pos hc]
    refine ⟨d, h.zero, h.par, h.que, h.all, h.sort, h.near, h.low, h.here, fun k' hk' hv => ?_⟩
    rcases List.mem_append.1 hk' with hk' | hk'
    · exact h.done k' hk' hv
    · obtain rfl := List.mem_singleton.1 hk'
      rw [← hb]
      have hd : Dc n x b := by
        rcases hc with hc | hc | hc
        · exact absurd hc hv.2.2.1
        · have := hv.2.2.2
          rw [← hb, hc] at this
          cases this
        · exact .inr ⟨hin.2.2.1, hin.2.2.2, hc⟩
      exact ⟨hd, (h.near b hd).1⟩
  · rw [if_neg hc]
    have c1 : k ≠ skip := fun e => hc (.inl e)
    have c2 : F b = false := by
      cases e : F b
      · rfl
      · exact absurd (.inr (.inl e)) hc
    have c3 : rd x b < 0 := by
      have : ¬ 0 ≤ rd x b := fun e => hc (.inr (.inr e))
      omega
    have hbn : ¬ Dc n x b := by
      rintro (h1 | h1)
      · omega
      · omega
    have hne : ∀ c, Dc n x c → c ≠ b := fun c hc he => hbn (he ▸ hc)
    have hrd : ∀ i, 0 ≤ i → rd (x.set b.toNat k) i = if i = b then k else rd x i := fun i hi => rd_set x i b k hi hin.2.2.1 (by omega)
    have hmono : ∀ c, Dc n x c → Dc n (x.set b.toNat k) c := by
      intro c hcd
      rcases hcd with h1 | ⟨h1, h2, h3⟩
      · exact .inl h1
      · refine .inr ⟨h1, h2, ?_⟩
        rw [hrd c h1, if_neg (hne c (.inr ⟨h1, h2, h3⟩))]
        exact h3
    have hback : ∀ c, Dc n (x.set b.toNat k) c → c = b ∨ Dc n x c := by
      intro c hcd
      rcases hcd with h1 | ⟨h1, h2, h3⟩
      · exact .inr (.inl h1)
      · rw [hrd c h1] at h3
        by_cases he : c = b
        · exact .inl he
        · rw [if_neg he] at h3
          exact .inr (.inr ⟨h1, h2, h3⟩)
    have hbd : Dc n (x.set b.toNat k) b := .inr ⟨hin.2.2.1, hin.2.2.2, by rw [hrd b hin.2.2.1, if_pos rfl]; exact k0⟩
    have hvk : Vk es F skip k := ⟨k0, k1, c1, by rw [← hb]; exact c2⟩
    have hd0 : ∀ c, Dc n x c → (fun z => if z = b then d a + 1 else d z) c = d c := fun c hcd => if_neg (hne c hcd)
    have hdb : (fun z => if z = b then d a + 1 else d z) b = d a + 1 := if_pos rfl
    generalize (fun z => if z = b then d a + 1 else d z) = d' at hd0 hdb
    refine ⟨d', ?_, ?_, ?_, ?_, ?_, ?_, ?_, hmono a h.here, ?_⟩
    · rw [hd0 _ (.inl rfl)]; exact h.zero
    · intro i hi0 hi1 hri
      rw [hrd i hi0] at hri ⊢
      by_cases he : i = b
      · rw [if_pos he]
        subst he
        exact ⟨hvk, hb.symm, by rw [kf]; exact hmono a h.here, by rw [kf, hdb, hd0 a h.here]⟩
      · rw [if_neg he] at hri ⊢
        obtain ⟨p1, p2, p3, p4⟩ := h.par i hi0 hi1 hri
        exact ⟨p1, p2, hmono _ p3, by rw [hd0 _ (.inr ⟨hi0, hi1, hri⟩), hd0 _ p3]; exact p4⟩
    · intro c hcm
      rcases List.mem_append.1 hcm with hcm | hcm
      · exact hmono c (h.que c hcm)
      · rw [List.mem_singleton.1 hcm]; exact hbd
    · intro c hcd
      rcases hback c hcd with rfl | hcd
      · exact .inl (by simp)
      · rcases h.all c hcd with h1 | h1 | h1
        · exact .inl (List.mem_append_left _ h1)
        · exact .inr (.inl h1)
        · refine .inr (.inr fun k' hk' hf' => ?_)
          obtain ⟨q1, q2⟩ := h1 k' hk' hf'
          exact ⟨hmono _ q1, by rw [hd0 _ q1, hd0 c hcd]; exact q2⟩
    · rw [List.pairwise_append]
      refine ⟨?_, by simp, ?_⟩
      · exact h.sort.imp_of_mem (fun {p q} hp hq hpq => by rw [hd0 p (h.que p hp), hd0 q (h.que q hq)]; exact hpq)
      · intro c hcm q hq
        rw [List.mem_singleton.1 hq, hdb, hd0 c (h.que c hcm)]
        exact (h.near c (h.que c hcm)).1
    · intro c hcd
      rw [hd0 a h.here]
      rcases hback c hcd with rfl | hcd
      · rw [hdb]
        refine ⟨Nat.le_refl _, fun q hq => ?_⟩
        rcases List.mem_append.1 hq with hq | hq
        · rw [hd0 q (h.que q hq)]
          have := h.low q hq
          omega
        · rw [List.mem_singleton.1 hq, hdb]
          omega
      · rw [hd0 c hcd]
        refine ⟨(h.near c hcd).1, fun q hq => ?_⟩
        rcases List.mem_append.1 hq with hq | hq
        · rw [hd0 q (h.que q hq)]
          exact (h.near c hcd).2 q hq
        · rw [List.mem_singleton.1 hq, hdb]
          have := (h.near c hcd).1
          omega
    · intro c hcm
      rw [hd0 a h.here]
      rcases List.mem_append.1 hcm with hcm | hcm
      · rw [hd0 c (h.que c hcm)]
        exact h.low c hcm
      · rw [List.mem_singleton.1 hcm, hdb]
        omega
    · intro k' hk' hv
      rw [hd0 a h.here]
      rcases List.mem_append.1 hk' with hk' | hk'
      · obtain ⟨q1, q2⟩ := h.done k' hk' hv
        exact ⟨hmono _ q1, by rw [hd0 _ q1]; exact q2⟩
      · obtain rfl := List.mem_singleton.1 hk'
        rw [← hb, hdb]
        exact ⟨hbd, Nat.le_refl _⟩
theorem wstep_len (s : List Int × List Int) (k : Int) : (wstep es F skip s k).1.length = s.1.length := by
  unfold wstep
  split
  · rfl
  · exact List.length_set
theorem BfsI.fold (hes : Inn n es) : ∀ (zs : List Int) (x t dn : List Int) (d : Int → Nat) (a : Int), (∀ k ∈ zs, k ∈ outs es a) → x.length = n → BfsI n es F skip x t d a dn →
    ∃ d', BfsI n es F skip (zs.foldl (wstep es F skip) (x, t)).1 (zs.foldl (wstep es F skip) (x, t)).2 d' a (dn ++ zs) ∧ (zs.foldl (wstep es F skip) (x, t)).1.length = n
  | [], x, t, dn, d, a, _, hx, h => ⟨d, by simpa using h, hx⟩
  | k :: zs, x, t, dn, d, a, hz, hx, h => by
    obtain ⟨d1, h1⟩ := h.step hes hx (hz k List.mem_cons_self)
    have := BfsI.fold hes zs _ _ _ d1 a (fun k' hk' => hz k' (List.mem_cons_of_mem _ hk')) (by rw [wstep_len]; exact hx) h1
    rw [List.append_assoc, List.singleton_append] at this
    exact this
theorem Bfs.run (hes : Inn n es) : ∀ (m : Nat) (x t r : List Int) (d : Int → Nat), x.length = n → Bfs n es F skip x t d → wl es F skip m x t = some r → ∃ d', Bfs n es F skip r [] d'
  | 0, _, _, _, _, _, _, h => by simp [wl] at h
  | m + 1, x, [], r, d, hx, h, hr => by
    simp only [wl] at hr
    obtain rfl := Option.some.inj hr
    exact ⟨d, h⟩
  | m + 1, x, a :: t, r, d, hx, h, hr => by
    rw [wl] at hr
    have hs := List.pairwise_cons.1 h.sort
    have h0 : BfsI n es F skip x t d a [] :=
      ⟨h.zero, h.par, fun c hc => h.que c (List.mem_cons_of_mem _ hc), fun b hb => by
        rcases h.all b hb with h1 | h1
        · rcases List.mem_cons.1 h1 with h1 | h1
          · exact .inr (.inl h1)
          · exact .inl h1
        · exact .inr (.inr h1), hs.2, fun b hb => ⟨h.near b hb a List.mem_cons_self, fun c hc => h.near b hb c (List.mem_cons_of_mem _ hc)⟩, hs.1, h.que a List.mem_cons_self, fun k hk => by cases hk⟩
    obtain ⟨d1, h1, hx1⟩ := BfsI.fold hes (outs es a) x t [] d a (fun _ hk => hk) hx h0
    rw [List.nil_append] at h1
    refine Bfs.run hes m _ _ r d1 hx1 ⟨h1.zero, h1.par, h1.que, fun b hb => ?_, h1.sort, fun b hb => (h1.near b hb).2⟩ hr
    rcases h1.all b hb with h2 | h2 | h2
    · exact .inl h2
    · refine .inr fun k hk hf => ?_
      rw [h2] at hf ⊢
      exact h1.done k (by rw [← hf]; exact outs_iff hk.1 hk.2.1) hk
    · exact .inr h2
theorem rd_repl (n : Nat) (i : Int) : rd (List.replicate n (-1)) i < 0 ∨ n ≤ i.toNat := by
  by_cases h : i.toNat < n
  · refine .inl ?_
    unfold rd
    rw [List.getD_eq_getElem?_getD, List.getElem?_replicate, if_pos h]
    decide
  · exact .inr (by omega)
theorem walkF_bfs (hes : Inn n es) (F : Int → Bool) (skip : Int) : ∃ d, Bfs n es F skip (walkF n es F skip) [] d := by
  refine Bfs.run hes _ _ _ _ (fun _ => 0) (by simp) ?_ (walkF_some hes F skip)
  have hno : ∀ i : Int, 0 ≤ i → i < n → ¬ 0 ≤ rd (List.replicate n (-1)) i := by
    intro i h0 h1 h2
    rcases rd_repl n i with h | h <;> omega
  refine ⟨rfl, fun i h0 h1 h2 => absurd h2 (hno i h0 h1), ?_, ?_, by simp, ?_⟩
  · intro a ha
    exact .inl (List.mem_singleton.1 ha)
  · intro b hb
    rcases hb with h | ⟨h0, h1, h2⟩
    · exact .inl (by simp [h])
    · exact absurd h2 (hno b h0 h1)
  · intro b _ a _
    omega
end
end Go.Proofs.Ytlkmkoajfdmbeaa.PGraphWithout
