/- The document's Solve: what it computes, and the plain law of it. No condition but that the edges lie in the graph. -/
import Derived.Test.YtlkmkoajfdmbeaaGq
namespace Go.Proofs.Ytlkmkoajfdmbeaa.PGraphWithout
open Go.RowKit Go.Proofs.YtlkmkoajfdmbeaaW.PrintWords
set_option linter.unusedVariables false
set_option linter.unusedSimpArgs false

/-- One edge. -/
def sstep (shut : List Int) (s : List Bool × Bool) (e : S41) : List Bool × Bool :=
  if ((e.f0 = -1 ∨ rdOf false s.1 e.f0 = true) ∧ ¬ e.f1 ∈ shut) ∧ rdOf false s.1 e.f1 = false then (s.1.set e.f1.toNat true, true) else s
def solL (l : List S41) (shut : List Int) : Nat → List Bool → Option (List Bool)
  | 0, _ => none
  | k + 1, x => if (l.foldl (sstep shut) (x, false)).2 = true then solL l shut k (l.foldl (sstep shut) (x, false)).1 else some (l.foldl (sstep shut) (x, false)).1
theorem sstep_len (shut : List Int) (s : List Bool × Bool) (e : S41) : (sstep shut s e).1.length = s.1.length := by
  unfold sstep
  split
  · exact List.length_set
  · rfl
theorem sfold_len (shut : List Int) : ∀ (l : List S41) (s : List Bool × Bool), (l.foldl (sstep shut) s).1.length = s.1.length
  | [], s => rfl
  | e :: l, s => (sfold_len shut l (sstep shut s e)).trans (sstep_len shut s e)
section
variable {l : List S41} {shut : List Int} {n : Nat} {r : List Bool}
theorem ev_l2 (hs : shut.length ≤ 100000) (e : S41) (he : 0 ≤ e.f1 ∧ e.f1 < n) (x : List Bool) (ag : Bool) (j : Int) (hx : x.length = n) (d : Nat) : ∀ (i : Nat) (op : Bool), i ≤ shut.length → shut.length - i = d →
    Ev (fun k => caulkerref21_Solve.l1 k l shut (if (op = true ∧ ¬ e.f1 ∈ shut.drop i) ∧ rdOf false x e.f1 = false then (x.set e.f1.toNat true, true) else (x, ag)).1 (if (op = true ∧ ¬ e.f1 ∈ shut.drop i) ∧ rdOf false x e.f1 = false then (x.set e.f1.toNat true, true) else (x, ag)).2 (wrap64 (j + 1))) r →
    Ev (fun k => caulkerref21_Solve.l2 k l shut x ag j op (i : Int) e.f0 e.f1 e.f2 e.f3) r := by
  induction d with
  | zero =>
    intro i op hi hd h
    rw [List.drop_eq_nil_of_le (by omega)] at h
    refine Ev.step (f := fun k => caulkerref21_Solve.l1 k l shut (if (op = true ∧ ¬ e.f1 ∈ ([] : List Int)) ∧ rdOf false x e.f1 = false then (x.set e.f1.toNat true, true) else (x, ag)).1 (if (op = true ∧ ¬ e.f1 ∈ ([] : List Int)) ∧ rdOf false x e.f1 = false then (x.set e.f1.toNat true, true) else (x, ag)).2 (wrap64 (j + 1))) (fun k => ?_) h
    simp only [caulkerref21_Solve.l2]
    rw [if_neg (by omega)]
    cases op with
    | false => simp
    | true =>
      rw [if_pos rfl, if_pos he.1, if_pos (by omega)]
      cases hb : rdOf false x e.f1 with
      | true => simp
      | false => simp
  | succ d ih =>
    intro i op hi hd h
    have hi2 : i < shut.length := by omega
    have hdr : shut.drop i = rd shut (i : Int) :: shut.drop (i + 1) := by
      rw [List.drop_eq_getElem_cons hi2]
      congr 1
      simp [rd, List.getD_eq_getElem?_getD, List.getElem?_eq_getElem hi2]
    have hw : wrap64 ((i : Int) + 1) = ((i + 1 : Nat) : Int) := by unfold wrap64; omega
    by_cases hc : rd shut (i : Int) = e.f1
    · have h2 := ih (i + 1) false (by omega) (by omega) (by
        rw [if_neg (by simp)]
        rw [if_neg (by rw [hdr, hc]; simp)] at h
        exact h)
      refine Ev.step (fun k => ?_) h2
      simp only [caulkerref21_Solve.l2]
      rw [if_pos (by omega), if_pos (by omega), if_pos hc, hw]
    · have h2 := ih (i + 1) op (by omega) (by omega) (by
        have : (e.f1 ∈ shut.drop i) = (e.f1 ∈ shut.drop (i + 1)) := by
          rw [hdr, List.mem_cons]
          have : ¬ e.f1 = rd shut (i : Int) := fun h => hc h.symm
          simp [this]
        simp only [this] at h
        exact h)
      refine Ev.step (fun k => ?_) h2
      simp only [caulkerref21_Solve.l2]
      rw [if_pos (by omega), if_pos (by omega), if_neg hc, hw]
theorem rd41 {l : List S41} {j : Nat} (hj : j < l.length) : rd_T41 l (j : Int) = l[j] := by simp [rd_T41, List.getD_eq_getElem?_getD, List.getElem?_eq_getElem hj]
theorem ev_l1 (hs : shut.length ≤ 100000) (hl : l.length ≤ 100000) (hes : Inn41 n l) (d : Nat) : ∀ (j : Nat) (s : List Bool × Bool), s.1.length = n → j ≤ l.length → l.length - j = d →
    Ev (fun k => caulkerref21_Solve.l0 k l shut ((l.drop j).foldl (sstep shut) s).1 ((l.drop j).foldl (sstep shut) s).2) r →
    Ev (fun k => caulkerref21_Solve.l1 k l shut s.1 s.2 (j : Int)) r := by
  induction d with
  | zero =>
    intro j s hx hj hd h
    rw [List.drop_eq_nil_of_le (by omega)] at h
    refine Ev.step (fun k => ?_) h
    simp only [caulkerref21_Solve.l1]
    rw [if_neg (by omega)]
    rfl
  | succ d ih =>
    intro j s hx hj hd h
    have hj2 : j < l.length := by omega
    obtain ⟨e, he⟩ : ∃ e, e = l[j] := ⟨_, rfl⟩
    have hdr : l.drop j = e :: l.drop (j + 1) := by rw [List.drop_eq_getElem_cons hj2, he]
    have hin := hes e (by rw [he]; exact List.getElem_mem hj2)
    rw [hdr, List.foldl_cons] at h
    have h2 := ih (j + 1) (sstep shut s e) (by rw [sstep_len]; exact hx) (by omega) (by omega) h
    have hw : wrap64 ((j : Int) + 1) = ((j + 1 : Nat) : Int) := by unfold wrap64; omega
    rw [← hw] at h2
    have key : ∀ op : Bool, (op = true ↔ (e.f0 = -1 ∨ rdOf false s.1 e.f0 = true)) → Ev (fun k => caulkerref21_Solve.j2 k l shut s.1 s.2 (j : Int) op e.f0 e.f1 e.f2 e.f3) r := by
      intro op hop
      have h3 := ev_l2 (l := l) (r := r) hs e ⟨hin.2.2.1, hin.2.2.2⟩ s.1 s.2 (j : Int) hx shut.length 0 op (by omega) (by omega) (by
        rw [List.drop_zero]
        have e1 : (if (op = true ∧ ¬ e.f1 ∈ shut) ∧ rdOf false s.1 e.f1 = false then (s.1.set e.f1.toNat true, true) else (s.1, s.2)) = sstep shut s e := by
          unfold sstep
          simp only [hop]
        rw [e1]
        exact h2)
      exact Ev.step (fun k => by simp only [caulkerref21_Solve.j2]; rfl) h3
    have hrd := rd41 hj2
    rw [← he] at hrd
    by_cases hf : e.f0 = -1
    · refine Ev.step (fun k => ?_) (key true (by simp [hf]))
      simp only [caulkerref21_Solve.l1]
      rw [if_pos (by omega), if_pos (by omega), hrd, if_pos hf]
    · refine Ev.step (fun k => ?_) (key (rdOf false s.1 e.f0) (by simp [hf]))
      simp only [caulkerref21_Solve.l1]
      rw [if_pos (by omega), if_pos (by omega), hrd, if_neg hf, if_pos (by omega), if_pos (by omega)]
theorem ev_l0 (hs : shut.length ≤ 100000) (hl : l.length ≤ 100000) (hes : Inn41 n l) : ∀ (K : Nat) (x : List Bool), x.length = n → solL l shut K x = some r → Ev (fun k => caulkerref21_Solve.l0 k l shut x true) r
  | 0, _, _, h => by simp [solL] at h
  | K + 1, x, hx, h => by
    rw [solL] at h
    have h1 : Ev (fun k => caulkerref21_Solve.l0 k l shut (l.foldl (sstep shut) (x, false)).1 (l.foldl (sstep shut) (x, false)).2) r := by
      by_cases hc : (l.foldl (sstep shut) (x, false)).2 = true
      · rw [if_pos hc] at h
        rw [hc]
        exact ev_l0 hs hl hes K _ (by rw [sfold_len]; exact hx) h
      · rw [if_neg hc] at h
        obtain rfl := Option.some.inj h
        refine Ev.step (fun k => ?_) (Ev.now _)
        simp only [caulkerref21_Solve.l0]
        rw [if_neg hc]
    have h2 := ev_l1 (l := l) (shut := shut) (n := n) hs hl hes l.length 0 (x, false) hx (by omega) (by omega) (by rw [List.drop_zero]; exact h1)
    refine Ev.step (fun k => ?_) h2
    simp only [caulkerref21_Solve.l0]
    rw [if_pos trivial]
    rfl
theorem rsolve_some (hn : n ≤ 8192) (hs : shut.length ≤ 100000) (hl : l.length ≤ 100000) (hes : Inn41 n l) {K : Nat} (h : solL l shut K (List.replicate n false) = some r) : ∃ k, caulkerref21_Solve.f k (n : Int) l shut = some r := by
  obtain ⟨k, hk⟩ := (ev_l0 hs hl hes K _ (by simp) h).rounds
  refine ⟨k, ?_⟩
  unfold caulkerref21_Solve.f
  rw [if_pos (by omega), if_pos (by simp; omega)]
  simpa using hk
end
end Go.Proofs.Ytlkmkoajfdmbeaa.PGraphWithout
