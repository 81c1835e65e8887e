/- What a graph is in memory, and that it stays what it is while other blocks are written; New, Len. No condition. -/
import Derived.Test.YtlkmkoajfdmbeaaGr
import Derived.Maps.GroupsBeside
namespace Go.Proofs.Ytlkmkoajfdmbeaa.PGraphWithout
open Go.RowKit Go.Proofs.YtlkmkoajfdmbeaaW.PrintWords Go.Proofs.YtlkmkoajfdmbeaaW.PrintLast Go.Proofs.YtlkmkoajfdmbeaaW.PrintMore
open Go.Maps Go.WideElems Go.MapKept Go.ChangeShapes
set_option linter.unusedVariables false

/-! ### The edges that leave a node -/
def outs (es : List S29) (a : Int) : List Int := (es.zipIdx.filter (fun p => p.1.f0 == a)).map (fun p => (p.2 : Int))
theorem outs_nil (a : Int) : outs [] a = [] := rfl
theorem outs_snoc (es : List S29) (e : S29) (a : Int) : outs (es ++ [e]) a = if e.f0 = a then outs es a ++ [(es.length : Int)] else outs es a := by
  unfold outs
  rw [List.zipIdx_append, List.filter_append, List.map_append]
  by_cases h : e.f0 = a
  · rw [if_pos h]; simp [h]
  · rw [if_neg h]; simp [h]
theorem outs_len (es : List S29) (a : Int) : (outs es a).length ≤ es.length := by
  unfold outs
  rw [List.length_map]
  exact Nat.le_trans (List.length_filter_le _ _) (by simp)
theorem outs_mem {es : List S29} {a k : Int} (h : k ∈ outs es a) : 0 ≤ k ∧ k < es.length ∧ (rd_T29 es k).f0 = a := by
  unfold outs at h
  rw [List.mem_map] at h
  obtain ⟨⟨e, j⟩, hm, rfl⟩ := h
  rw [List.mem_filter] at hm
  obtain ⟨h1, h2⟩ := hm
  have h3 := List.mem_zipIdx h1
  simp only [Nat.zero_add, Nat.sub_zero] at h3
  refine ⟨by simp, by simp; omega, ?_⟩
  have h4 : es[j]? = some e := (List.getElem?_eq_getElem h3.2.1).trans (congrArg some h3.2.2.symm)
  simp only [rd_T29, Int.toNat_natCast, List.getD_eq_getElem?_getD, h4]
  simpa using h2

/-- The map's reading: each key has the edges that leave it. -/
def Rep (D : DataW Unit) (es : List S29) : Prop := IsMap D ∧ ∀ a : Int, (D.atKey (.int .i64 a) .nil = .nil ∧ outs es a = []) ∨ D.atKey (.int .i64 a) .nil = .slice (lits .i64 (outs es a)) []
theorem Rep.nil : Rep (.map []) [] := ⟨isMap_empty, fun a => .inl ⟨rfl, rfl⟩⟩
theorem lits_inj {a b : List Int} (h : (lits .i64 a : List (DataW Unit)) = lits .i64 b) : a = b := by
  unfold lits at h
  exact (List.map_inj_right (fun a b hab => by injection hab with hab; injection hab)).1 h
theorem Rep.at_ {D : DataW Unit} {es : List S29} (h : Rep D es) {a : Int} {v : Value} {zs : List Int} {w : World} {base : Nat} (hat : D.atKey (.int .i64 a) .nil = rowDatum .i64 v zs) (ho : w.ownsInts base 3 .i64 v zs) : zs = outs es a := by
  rcases h.2 a with ⟨h1, h2⟩ | h1
  · rw [h1] at hat
    rcases ho.datum (H := Unit) with ⟨_, h3⟩ | h3
    · rw [h3, h2]
    · rw [h3] at hat; cases hat
  · rw [h1] at hat
    rcases ho.datum (H := Unit) with ⟨h3, h4⟩ | h3
    · rw [h3] at hat; cases hat
    · rw [h3] at hat
      injection hat with hat
      exact (lits_inj hat).symm
theorem Rep.put {D : DataW Unit} {es : List S29} (h : Rep D es) (e : S29) {v : Value} {w : World} {base : Nat} (ho : w.ownsInts base 3 .i64 v (outs es e.f0 ++ [(es.length : Int)])) : Rep (D.put (.int .i64 e.f0) (rowDatum .i64 v (outs es e.f0 ++ [(es.length : Int)]))) (es ++ [e]) := by
  refine ⟨h.1.put _ _, fun a => ?_⟩
  rw [outs_snoc]
  by_cases ha : e.f0 = a
  · subst ha
    have hk : WideAt.IsKeyLit (.int .i64 e.f0) := trivial
    rw [if_pos rfl, atKey_put_same h.1 hk]
    exact .inr (ho.datum_pos (by simp))
  · rw [if_neg ha, atKey_put_other (by intro he; injection he with _ he; exact ha he.symm)]
    exact h.2 a

/-! ### A map of rows stays, where its blocks stay -/
theorem groups_move {H : Type} {P : Program} {k : TypeId} {w w' : World} {base : Nat} {e : TypeId} {q : IntKind} {b n : Nat} {D : DataW H} (h : w.ownsGroups P k base e q b n D) (hb' : w'.heap[b]? = w.heap[b]?)
    (hrow : ∀ es clock, w.heap[b]? = some (.map es clock) → ∀ x ∈ es.toList, ∀ g, x.val.ownBlock = some g → w'.heap[g]? = w.heap[g]?) : w'.ownsGroups P k base e q b n D := by
  obtain ⟨es, clock, hb, F, hs, rfl, hbb, hlen, hap⟩ := h
  have mv : ∀ x ∈ es.toList, ∀ zs, w.ownsInts base e q x.val zs → w'.ownsInts base e q x.val zs := fun x hx zs ho => ⟨own_move ho.1 (fun g hg => hrow es clock hb x hx g hg), ho.2⟩
  have hst : ∀ x ∈ es.toList, ∀ z, rowElem (H := H) w base e q x.val = some z → rowElem w' base e q x.val = some z := fun x hx z hz => by
    obtain ⟨zs, ho, rfl⟩ := rowElem_inv hz
    exact rowElem_mk (mv x hx zs ho)
  obtain ⟨F1, hmap, _⟩ := F.stay hst
  refine ⟨es, clock, hb'.trans hb, F1, hs, by rw [hmap], hbb, fun x hx zs ho => ?_, hap⟩
  obtain ⟨y, hy⟩ := F.reads x hx
  obtain ⟨z, hz, _⟩ := rd_val hy
  obtain ⟨zs0, ho0, _⟩ := rowElem_inv hz
  rw [ho.unique (mv x hx zs0 ho0)]
  exact hlen x hx zs0 ho0
theorem shuns_move {w w' : World} {b : Nat} {No : Nat → Prop} (h : w.Shuns b No) (hb : w'.heap[b]? = w.heap[b]?) : w'.Shuns b No := fun es clock h' => h es clock (hb.symm.trans h')

/-! ### The graph -/
/-- At g lies a graph of n nodes and the edges es; all its blocks are ok. -/
def Gr (w : World) (base : Nat) (ok : Nat → Prop) (g : Nat) (n : Int) (es : List S29) : Prop :=
  ∃ (v : Value) (b : Nat) (D : DataW Unit), w.heap[g]? = some (.cells #[.int .i64 n, v, .map (some b)] 56 (0, 0)) ∧ ok g ∧ base ≤ g ∧ Kd.R k29 29 w base ok v es ∧ ok b ∧ base ≤ b ∧
    w.ownsGroups Try.prog 3 (b + 1) 3 .i64 b es.length D ∧ w.Shuns b (fun k => ¬ ok k) ∧ Rep D es
theorem Gr.move {w w1 : World} {base : Nat} {ok : Nat → Prop} {g : Nat} {n : Int} {es : List S29} (h : Gr w base ok g n es) (hm : ∀ k, ok k → k < w.heap.size → w1.heap[k]? = w.heap[k]?) : Gr w1 base ok g n es := by
  obtain ⟨v, b, D, hg, okg, bg, hR, okb, bb, hG, hS, hD⟩ := h
  have hb : w1.heap[b]? = w.heap[b]? := by
    obtain ⟨es0, clock, hb, _⟩ := hG
    exact hm b okb (Array.getElem?_eq_some_iff.1 hb).1
  refine ⟨v, b, D, (hm g okg (blk_lt hg)).trans hg, okg, bg, Kd.R_step hR hm, okb, bb, groups_move hG hb ?_, shuns_move hS hb, hD⟩
  intro es0 clock hb0 x hx g' hg'
  have ok' : ok g' := Classical.not_not.1 (hS es0 clock hb0 x hx g' hg')
  obtain ⟨es1, clock1, hb1, F, _⟩ := hG
  obtain ⟨rfl, rfl⟩ : es1 = es0 ∧ clock1 = clock := by rw [hb1] at hb0; simpa using hb0
  obtain ⟨y, hy⟩ := F.reads x hx
  obtain ⟨z, hz, _⟩ := rd_val hy
  obtain ⟨zs0, ho0, _⟩ := rowElem_inv hz
  exact hm g' ok' (ho0.1.lt g' hg').2
theorem Gr.mono {w : World} {base : Nat} {ok ok' : Nat → Prop} {g : Nat} {n : Int} {es : List S29} (h : Gr w base ok g n es) (hk : ∀ k, ok k → ok' k) : Gr w base ok' g n es := by
  obtain ⟨v, b, D, hg, okg, bg, hR, okb, bb, hG, hS, hD⟩ := h
  exact ⟨v, b, D, hg, hk g okg, bg, Kd.R_mono hR hk, hk b okb, bb, hG, fun es0 clock hb x hx g' hg' hn => hS es0 clock hb x hx g' hg' (fun h => hn (hk _ h)), hD⟩
theorem Gr.below {w w1 : World} {base : Nat} {ok : Nat → Prop} {g : Nat} {n : Int} {es : List S29} (h : Gr w base ok g n es) (hb : Below w.heap.size w w1) : Gr w1 base ok g n es := h.move (fun k _ hk => hb.block k hk)
theorem Gr.alloc {w : World} {base : Nat} {ok : Nat → Prop} {g : Nat} {n : Int} {es : List S29} (h : Gr w base ok g n es) (o : Obj) : Gr (w.alloc o) base ok g n es := h.below (below_alloc (Below.refl _ _) o)
theorem Gr.kept {w w1 : World} {base : Nat} {ok S : Nat → Prop} {g : Nat} {n : Int} {es : List S29} (h : Gr w base ok g n es) (hk : Kept w w1 S) (hne : ∀ k, ok k → ¬ S k) : Gr w1 base ok g n es := h.move (fun k ho hlt => hk.2 k hlt (hne k ho))
theorem Gr.drewN {w : World} {base : Nat} {ok : Nat → Prop} {g : Nat} {n : Int} {es : List S29} (h : Gr w base ok g n es) (m : Nat) : Gr (w.drewN m) base ok g n es := h.move (fun k _ _ => rfl)
theorem Gr.lt {w : World} {base : Nat} {ok : Nat → Prop} {g : Nat} {n : Int} {es : List S29} (h : Gr w base ok g n es) : g < w.heap.size := by
  obtain ⟨v, b, D, hg, _⟩ := h
  exact blk_lt hg
/-- The footprint can be told to be old and not below base. -/
theorem Gr.bound {w : World} {base : Nat} {ok : Nat → Prop} {g : Nat} {n : Int} {es : List S29} (h : Gr w base ok g n es) : Gr w base (fun k => ok k ∧ base ≤ k ∧ k < w.heap.size) g n es := by
  obtain ⟨v, b, D, hg, okg, bg, hR, okb, bb, hG, hS, hD⟩ := h
  have hblt : b < w.heap.size := by
    obtain ⟨es0, clock, hb, _⟩ := hG
    exact (Array.getElem?_eq_some_iff.1 hb).1
  refine ⟨v, b, D, hg, ⟨okg, bg, blk_lt hg⟩, bg, Kd.R_mono (Kd.R_bound hR) (fun k hk => ⟨hk.1, hk.2.1, hk.2.2.1⟩), ⟨okb, bb, hblt⟩, bb, hG, ?_, hD⟩
  intro es0 clock hb0 x hx g' hg' hn
  refine hS es0 clock hb0 x hx g' hg' (fun hok => hn ?_)
  obtain ⟨es1, clock1, hb1, F, _⟩ := hG
  obtain ⟨rfl, rfl⟩ : es1 = es0 ∧ clock1 = clock := by rw [hb1] at hb0; simpa using hb0
  obtain ⟨y, hy⟩ := F.reads x hx
  obtain ⟨z, hz, _⟩ := rd_val hy
  obtain ⟨zs0, ho0, _⟩ := rowElem_inv hz
  have := ho0.1.lt g' hg'
  exact ⟨hok, by omega, this.2⟩

/-! ### New, Len -/
theorem new_none (n : Int) (w : World) (h : n < 0 ∨ 8192 < n) :
    Calls Try.prog 9 #[.int .i64 n] w fun e w' => e = .returned (.tuple #[.pointer none, .int .i64 1]) ∧ w = w' := by
  rcases h with h | h
  · go_enter Try.func9, Try.ntmps9
    go_wp2
    go_ret2
    exact ⟨rfl, rfl⟩
  · have h' : ¬ n < 0 := by omega
    go_enter Try.func9, Try.ntmps9
    go_wp2
    go_ret2
    exact ⟨rfl, rfl⟩
theorem new_some (n : Int) (w : World) (h0 : 0 ≤ n) (h1 : n ≤ 8192) :
    Calls Try.prog 9 #[.int .i64 n] w fun e w' => ∃ g, e = .returned (.tuple #[.pointer (some ⟨g, 0, none⟩), .int .i64 0]) ∧ Gr w' w.heap.size (fun k => w.heap.size ≤ k) g n [] ∧ Below w.heap.size w w' := by
  have hmm := @run_makeMap Try.prog
  have hu56 := Try.underlying56
  have key : Calls Try.prog 9 #[.int .i64 n] w fun e w' => e = .returned (.tuple #[.pointer (some ⟨w.heap.size + 1, 0, none⟩), .int .i64 0]) ∧ w' = (w.alloc (.map #[] 0)).alloc (.cells #[.int .i64 n, .slice none 0 0, .map (some w.heap.size)] 56) := by
    go_enter Try.func9, Try.ntmps9
    go_wp2
    go_ret2
    exact ⟨rfl, rfl⟩
  refine key.mono ?_
  rintro e w' ⟨rfl, rfl⟩
  refine ⟨_, rfl, ⟨.slice none 0 0, w.heap.size, .map [], ?_, by show w.heap.size ≤ w.heap.size + 1; omega, by omega, Kd.R_nil _ _ _ _ _, Nat.le_refl _, Nat.le_refl _, ?_, ?_, Rep.nil⟩, below_alloc (below_alloc (Below.refl _ _) _) _⟩
  · have := blk_new (w.alloc (.map #[] 0)) (.cells #[.int .i64 n, .slice none 0 0, .map (some w.heap.size)] 56)
    simpa using this
  · exact groups_move (World.ownsGroups_made w Try.prog 3 3 .i64) (Below.heap_alloc _ _ _ (by simp)) (fun es0 clock hb0 x hx => by
      rw [(MapKept.heap_alloc w _).1] at hb0
      cases hb0
      simp at hx)
  · exact shuns_move (World.Shuns_made w _) (Below.heap_alloc _ _ _ (by simp))
theorem len_any (g : Nat) (n : Int) (es : List S29) (w : World) (base : Nat) (ok : Nat → Prop) (h : Gr w base ok g n es) :
    Calls Try.prog 12 #[.pointer (some ⟨g, 0, none⟩)] w fun e w' => e = .returned (.int .i64 n) ∧ w = w' := by
  obtain ⟨v, b, D, hg, _⟩ := h
  have hc : w.cell? ⟨g, 0, none⟩ = some (.int .i64 n) := (blk_cell hg 0).trans rfl
  clear hg
  have hu56 := Try.underlying56
  go_enter Try.func12, Try.ntmps12
  go_wp2
  go_ret
  exact ⟨rfl, rfl⟩
end Go.Proofs.Ytlkmkoajfdmbeaa.PGraphWithout
