/- Solve, Without, Right, Edges: what they answer. No condition but that the graph is one and its edges lie in it. -/
import Derived.Test.YtlkmkoajfdmbeaaGe
import Derived.WalkSpells
namespace Go.Proofs.Ytlkmkoajfdmbeaa.PGraphWithout
open Go.RowKit Go.Proofs.YtlkmkoajfdmbeaaW.PrintWords Go.Proofs.YtlkmkoajfdmbeaaW.PrintLast Go.Proofs.YtlkmkoajfdmbeaaW.PrintMore
open Go.Maps Go.MapKept Go.ChangeShapes
set_option linter.unusedVariables false
set_option linter.unusedSimpArgs false

/-! ### reach -/
def rchd (x : List Int) : List Bool := x.map fun z => decide (0 ≤ z)
theorem reach_loop (l : List Int) (hn : l.length ≤ 140737488351232) (d : Nat) : ∀ (k i : Nat) (x : List Bool), i ≤ l.length → l.length - i = d → d < k → x.length = l.length →
    graph_reach.l0 k x l (l.length : Int) (i : Int) = some (x.take i ++ (rchd l).drop i) := by
  induction d with
  | zero =>
    intro k i x h0 hd hk hx
    obtain ⟨k, rfl⟩ : ∃ m, k = m + 1 := ⟨k - 1, by omega⟩
    simp only [graph_reach.l0]
    rw [if_neg (by omega), List.take_of_length_le (by omega), List.drop_eq_nil_of_le (by simp [rchd]; omega), List.append_nil]
  | succ d ih =>
    intro k i x h0 hd hk hx
    obtain ⟨k, rfl⟩ : ∃ m, k = m + 1 := ⟨k - 1, by omega⟩
    simp only [graph_reach.l0]
    rw [if_pos (by omega), if_pos (by omega), if_pos (by omega), if_pos (by omega), wrap_succ (n := l.length) (by omega) (by omega) hn]
    have := ih k (i + 1) (x.set (i : Int).toNat (decide (rd l (i : Int) ≥ 0))) (by omega) (by omega) (by omega) (by rw [List.length_set]; exact hx)
    rw [Int.natCast_succ] at this
    rw [this]
    congr 1
    have hi : i < l.length := by omega
    have hd2 : (rchd l).drop i = decide (0 ≤ l[i]) :: (rchd l).drop (i + 1) := by
      rw [List.drop_eq_getElem_cons (by simp [rchd]; exact hi)]
      simp [rchd]
    rw [hd2]
    have hrd : rd l (i : Int) = l[i] := by simp [rd, List.getD_eq_getElem?_getD, List.getElem?_eq_getElem hi]
    rw [hrd]
    simp only [Int.toNat_natCast]
    rw [List.take_succ_eq_append_getElem (by rw [List.length_set]; omega), List.getElem_set_self, List.take_set_of_le (Nat.le_refl _)]
    simp
theorem reach_some (l : List Int) (hn : l.length ≤ 8192) : ∃ k, graph_reach.f k l = some (rchd l) := by
  refine ⟨l.length + 1, ?_⟩
  unfold graph_reach.f
  rw [if_pos (by omega), if_pos (by simp; omega)]
  have := reach_loop l (by omega) l.length (l.length + 1) 0 (List.replicate ((l.length : Int) : Int).toNat false) (by omega) (by omega) (by omega) (by simp)
  simpa using this
theorem reach_any (l : List Int) (A : Option Addr) (c : Nat) (w : World) (hr : Kd.C (Kd.int .i64) w A l.length l) (hc : l.length ≤ c) (hn : l.length ≤ 8192) :
    Calls Try.prog 26 #[.slice A l.length c] w fun e w' => ∃ v, e = .returned v ∧ Kd.R Kd.bool 4 w' w.heap.size (fun _ => True) v (rchd l) ∧ Below w.heap.size w w' := by
  obtain ⟨k, hk⟩ := reach_some l hn
  exact graph_reach.calls k A c l _ w hr hc hk

/-! ### The walk ends -/
theorem fold_ok {n : Nat} {es : List S29} {F : Int → Bool} {skip : Int} (hes : Inn n es) : ∀ (zs : List Int) (s : List Int × List Int), (∀ k ∈ zs, 0 ≤ k ∧ k < es.length) → Wok n s →
    Wok n (zs.foldl (wstep es F skip) s) ∧ (zs.foldl (wstep es F skip) s).2.length + neg (zs.foldl (wstep es F skip) s).1 ≤ s.2.length + neg s.1
  | [], s, _, h => ⟨h, Nat.le_refl _⟩
  | k :: zs, s, hz, h => by
    have hk := hz k List.mem_cons_self
    obtain ⟨h1, h2⟩ := fold_ok hes zs (wstep es F skip s k) (fun k' hk' => hz k' (List.mem_cons_of_mem _ hk')) (h.step hes hk.1 hk.2)
    refine ⟨h1, Nat.le_trans h2 ?_⟩
    have hx := hes.at_ hk.1 hk.2
    unfold wstep
    split
    · exact Nat.le_refl _
    · rename_i hc
      have := neg_set (x := s.1) (i := (rd_T29 es k).f1.toNat) (k := k) (by have := h.1; omega) (show rd s.1 (rd_T29 es k).f1 < 0 by omega) hk.1
      simp only [List.length_append, List.length_singleton]
      omega
theorem wl_ends {n : Nat} {es : List S29} {F : Int → Bool} {skip : Int} (hes : Inn n es) : ∀ (m : Nat) (x t : List Int), Wok n (x, t) → t.length + neg x ≤ m → ∃ r, wl es F skip (m + 1) x t = some r
  | m, x, [], _, _ => ⟨x, by simp [wl]⟩
  | 0, x, a :: t, _, hm => by simp at hm
  | m + 1, x, a :: t, h, hm => by
    have h' : Wok n (x, t) := ⟨h.1, by have h2 := h.2.1; simp only [List.length_cons] at h2; show t.length + neg x ≤ n + 1; have h3 : t.length + 1 + neg x ≤ n + 1 := h2; omega, fun b hb => h.2.2 b (List.mem_cons_of_mem _ hb)⟩
    obtain ⟨h1, h2⟩ := fold_ok (F := F) (skip := skip) hes (outs es a) (x, t) (fun k hk => by have := outs_mem hk; exact ⟨this.1, this.2.1⟩) h'
    rw [wl]
    refine wl_ends hes m _ _ h1 ?_
    simp only [List.length_cons] at hm
    have h3 : (x, t).2.length + neg (x, t).1 = t.length + neg x := rfl
    omega
/-- What the walk comes to. -/
def walkF (n : Nat) (es : List S29) (F : Int → Bool) (skip : Int) : List Int := (wl es F skip (n + 2) (List.replicate n (-1)) [-1]).getD []
theorem walkF_some {n : Nat} {es : List S29} (hes : Inn n es) (F : Int → Bool) (skip : Int) : wl es F skip (n + 2) (List.replicate n (-1)) [-1] = some (walkF n es F skip) := by
  obtain ⟨r, hr⟩ := wl_ends (F := F) (skip := skip) hes (n + 1) _ _ (Wok.start n) (Wok.start n).2.1
  unfold walkF
  rw [hr]
  rfl
theorem wl_length {n : Nat} {es : List S29} {F : Int → Bool} {skip : Int} (hes : Inn n es) : ∀ (k : Nat) (x t r : List Int), Wok n (x, t) → wl es F skip k x t = some r → r.length = n
  | 0, _, _, _, _, h => by simp [wl] at h
  | k + 1, x, [], r, hw, h => by
    simp only [wl] at h
    obtain rfl := Option.some.inj h
    exact hw.1
  | k + 1, x, a :: t, r, hw, h => by
    rw [wl] at h
    have h' : Wok n (x, t) := ⟨hw.1, by have h2 := hw.2.1; simp only [List.length_cons] at h2; show t.length + neg x ≤ n + 1; have h3 : t.length + 1 + neg x ≤ n + 1 := h2; omega, fun b hb => hw.2.2 b (List.mem_cons_of_mem _ hb)⟩
    exact wl_length hes k _ _ r (fold_ok hes (outs es a) (x, t) (fun k hk => by have := outs_mem hk; exact ⟨this.1, this.2.1⟩) h').1 h
theorem walkF_length {n : Nat} {es : List S29} (hes : Inn n es) (F : Int → Bool) (skip : Int) : (walkF n es F skip).length = n := wl_length hes _ _ _ _ (Wok.start n) (walkF_some hes F skip)

/-! ### Solve, Without -/
theorem nil_shut {n : Nat} (hn : n ≤ 8192) {w : World} : ∀ (w' : World) (a : Int), Below w.heap.size w w' → 0 ≤ a → a < n → (Instr.lookup 61 (.map none) (.int .i64 a) false).run Try.prog w' = .ok (.bool ((fun _ => false) a)) w' := by
  intro w' a _ h0 h1
  have := Maps.look_nil (t := 61) (e := 4) (w := w') false keyed3 Try.underlying61 (z := .bool false) (by kernel_rfl) (key3 (a := a) (WalkArith.wf_i64 (by omega)))
  simpa using this
/-- What the four that go by the graph alone ask of it. -/
structure Gok (n : Nat) (es : List S29) : Prop where
  inn : Inn n es
  nodes : n ≤ 8192
  edges : es.length ≤ 16384
set_option maxRecDepth 100000 in
set_option maxHeartbeats 1000000 in
theorem solve_any (g n : Nat) (es : List S29) (w : World) (base : Nat) (ok : Nat → Prop) (h : Gr w base ok g (n : Int) es) (hk : Gok n es) :
    Calls Try.prog 14 #[.pointer (some ⟨g, 0, none⟩)] w fun e w' => ∃ v, e = .returned v ∧ Kd.R Kd.bool 4 w' w.heap.size (fun _ => True) v (rchd (walkF n es (fun _ => false) (-1))) ∧ Below w.heap.size w w' := by
  have HG := Aside0.mk h; have HK := Aside0.mk hk
  clear h hk
  go_enter Try.func14, Try.ntmps14
  go_wp2_with (first
    | (go_at_call 27; refine (walk_any g n es (.map none) (fun _ => false) (-1) (n + 2) _ _ base ok HG.out HK.out.inn HK.out.nodes HK.out.edges (nil_shut HK.out.nodes) (by decide) (walkF_some HK.out.inn _ _)).mono ?_; rintro e w1 ⟨v1, rfl, hv1, hb1⟩; obtain ⟨A1, c1, rfl, hc1, hC1⟩ := Kd.R_reads hv1; have HC1 := Aside0.mk (And.intro hc1 hC1); have HB1 := Aside0.mk hb1; clear hv1 hb1 hc1 hC1)
    | (go_at_call 26; refine (reach_any _ A1 c1 w1 HC1.out.2 HC1.out.1 (by rw [walkF_length HK.out.inn]; exact HK.out.nodes)).mono ?_; rintro e w2 ⟨v2, rfl, hv2, hb2⟩; have HV2 := Aside0.mk (Kd.R_lower hv2 HB1.out.size); have HB2 := Aside0.mk (below_then HB1.out HB1.out.size hb2); clear hv2 hb2))
  go_ret
  exact ⟨_, rfl, HV2.out, HB2.out⟩
set_option maxRecDepth 100000 in
set_option maxHeartbeats 1000000 in
theorem without_any (g n : Nat) (es : List S29) (skip : Int) (w : World) (base : Nat) (ok : Nat → Prop) (h : Gr w base ok g (n : Int) es) (hk : Gok n es) (hs : (Lit.int .i64 skip).wf = true) :
    Calls Try.prog 18 #[.pointer (some ⟨g, 0, none⟩), .int .i64 skip] w fun e w' => ∃ v, e = .returned v ∧ Kd.R Kd.bool 4 w' w.heap.size (fun _ => True) v (rchd (walkF n es (fun _ => false) skip)) ∧ Below w.heap.size w w' := by
  have HG := Aside0.mk h; have HK := Aside0.mk hk; have HS := Aside0.mk hs
  clear h hk hs
  go_enter Try.func18, Try.ntmps18
  go_wp2_with (first
    | (go_at_call 27; refine (walk_any g n es (.map none) (fun _ => false) skip (n + 2) _ _ base ok HG.out HK.out.inn HK.out.nodes HK.out.edges (nil_shut HK.out.nodes) HS.out (walkF_some HK.out.inn _ _)).mono ?_; rintro e w1 ⟨v1, rfl, hv1, hb1⟩; obtain ⟨A1, c1, rfl, hc1, hC1⟩ := Kd.R_reads hv1; have HC1 := Aside0.mk (And.intro hc1 hC1); have HB1 := Aside0.mk hb1; clear hv1 hb1 hc1 hC1)
    | (go_at_call 26; refine (reach_any _ A1 c1 w1 HC1.out.2 HC1.out.1 (by rw [walkF_length HK.out.inn]; exact HK.out.nodes)).mono ?_; rintro e w2 ⟨v2, rfl, hv2, hb2⟩; have HV2 := Aside0.mk (Kd.R_lower hv2 HB1.out.size); have HB2 := Aside0.mk (below_then HB1.out HB1.out.size hb2); clear hv2 hb2))
  go_ret
  exact ⟨_, rfl, HV2.out, HB2.out⟩
end Go.Proofs.Ytlkmkoajfdmbeaa.PGraphWithout
