/- (*Graph).Path, and slices.Reverse at edges: what they answer. No condition but that the graph is one, its edges lie in it and the walk's numbers are edges. -/
import Derived.Test.YtlkmkoajfdmbeaaGg
namespace Go.Proofs.Ytlkmkoajfdmbeaa.PGraphWithout
open Go.RowKit Go.Proofs.YtlkmkoajfdmbeaaW.PrintWords Go.Proofs.YtlkmkoajfdmbeaaW.PrintLast Go.Proofs.YtlkmkoajfdmbeaaW.PrintMore
open Go.Maps Go.MapKept Go.ChangeShapes
set_option linter.unusedVariables false
set_option linter.unusedSimpArgs false

/-! ### Reverse -/
theorem rd29_app (p q : List S29) (a : S29) : rd_T29 (p ++ a :: q) (p.length : Int) = a := by simp [rd_T29]
theorem ends_cases {α : Type} (m : List α) : m = [] ∨ (∃ a, m = [a]) ∨ ∃ a q b, m = a :: (q ++ [b]) := by
  cases m with
  | nil => exact .inl rfl
  | cons a r =>
    rcases List.eq_nil_or_concat r with rfl | ⟨q, b, rfl⟩
    · exact .inr (.inl ⟨a, rfl⟩)
    · exact .inr (.inr ⟨a, q, b, by simp⟩)
theorem rev_loop (n : Nat) : ∀ (m p s : List S29) (k : Nat), m.length ≤ n → n < k → p.length + m.length + s.length ≤ 1000000 →
    graph_Edge_28.l0 k (p ++ m ++ s) (p.length : Int) ((p.length : Int) + (m.length : Int) - 1) = some (p ++ m.reverse ++ s) := by
  induction n using Nat.strongRecOn with
  | _ n ih =>
    intro m p s k hm hk hb
    obtain ⟨k, rfl⟩ : ∃ j, k = j + 1 := ⟨k - 1, by omega⟩
    rcases ends_cases m with rfl | ⟨a, rfl⟩ | ⟨a, q, b, rfl⟩
    · simp only [graph_Edge_28.l0]
      rw [if_neg (by simp; omega)]
      simp
    · simp only [graph_Edge_28.l0]
      rw [if_neg (by simp)]
      simp
    · have hl : (a :: (q ++ [b])).length = q.length + 2 := by simp
      rw [hl] at hm hb
      have hx : p ++ a :: (q ++ [b]) ++ s = p ++ a :: (q ++ b :: s) := by simp
      have hlen : (p ++ a :: (q ++ b :: s)).length = p.length + q.length + 2 + s.length := by simp; omega
      have hj : (p.length : Int) + ((a :: (q ++ [b])).length : Int) - 1 = ((p ++ a :: q).length : Int) := by rw [hl]; simp; omega
      rw [hj, hx]
      simp only [graph_Edge_28.l0]
      have h1 : (p.length : Int) < ((p ++ a :: q).length : Int) := by simp; omega
      have h2 : ((p ++ a :: q).length : Int) < ((p ++ a :: (q ++ b :: s)).length : Int) := by rw [hlen]; simp; omega
      rw [if_pos h1, if_pos (by omega), if_pos h2, if_pos (by omega), if_pos (by omega)]
      have ra : rd_T29 (p ++ a :: (q ++ b :: s)) (p.length : Int) = a := rd29_app p _ a
      have rb : rd_T29 (p ++ a :: (q ++ b :: s)) ((p ++ a :: q).length : Int) = b := by
        have := rd29_app (p ++ a :: q) s b
        simpa using this
      rw [ra, rb]
      simp only [Int.toNat_natCast]
      have hs1 : (p ++ a :: (q ++ b :: s)).set p.length b = p ++ b :: (q ++ b :: s) := by
        rw [List.set_append_right _ _ (Nat.le_refl _)]
        simp
      have hs2 : (p ++ b :: (q ++ b :: s)).set (p ++ a :: q).length a = p ++ b :: (q ++ a :: s) := by
        have e : (p ++ a :: q).length = (p ++ b :: q).length := by simp
        have e2 : p ++ b :: (q ++ b :: s) = (p ++ b :: q) ++ b :: s := by simp
        rw [e, e2, List.set_append_right _ _ (Nat.le_refl _)]
        simp
      have hbb : (⟨b.f0, b.f1, b.f2, b.f3⟩ : S29) = b := rfl
      have haa : (⟨a.f0, a.f1, a.f2, a.f3⟩ : S29) = a := rfl
      rw [hbb, haa, hs1, hs2]
      have w1 : wrap64 ((p.length : Int) + 1) = ((p ++ [b]).length : Int) := by
        unfold wrap64
        simp
        omega
      have w2 : wrap64 (((p ++ a :: q).length : Int) - 1) = ((p ++ [b]).length : Int) + (q.length : Int) - 1 := by
        unfold wrap64
        simp
        omega
      rw [w1, w2]
      have := ih q.length (by omega) q (p ++ [b]) (a :: s) k (Nat.le_refl _) (by omega) (by simp; omega)
      have e3 : p ++ [b] ++ q ++ a :: s = p ++ b :: (q ++ a :: s) := by simp
      rw [e3] at this
      rw [this]
      simp
theorem rev_some (l : List S29) (hn : l.length ≤ 1000000) : ∃ k, graph_Edge_28.f k l = some l.reverse := by
  refine ⟨l.length + 1, ?_⟩
  unfold graph_Edge_28.f
  have h := rev_loop l.length l [] [] (l.length + 1) (Nat.le_refl _) (by omega) (by simp; omega)
  have hw : wrap64 ((l.length : Int) - 1) = (([] : List S29).length : Int) + (l.length : Int) - 1 := by
    unfold wrap64
    simp
    omega
  rw [hw]
  simpa using h

/-! ### The way back -/
/-- The edges by which null came, from a node back. -/
def pathL (es : List S29) (x : List Int) : Nat → Int → List S29 → Option (List S29)
  | 0, _, _ => none
  | k + 1, q, out => if q = -1 then some out else if rd x q < 0 then some out else pathL es x k (rd_T29 es (rd x q)).f0 (out ++ [rd_T29 es (rd x q)])
set_option maxRecDepth 100000 in
theorem path_out (g n : Nat) (es : List S29) (node : Int) (w : World) (base : Nat) (ok : Nat → Prop) (h : Gr w base ok g (n : Int) es) (hx : node < 0 ∨ (n : Int) ≤ node) :
    Calls Try.prog 21 #[.pointer (some ⟨g, 0, none⟩), .int .i64 node] w fun e w' => ∃ v, e = .returned v ∧ Kd.R k29 29 w' w.heap.size (fun _ => True) v [] ∧ Below w.heap.size w w' := by
  obtain ⟨v, b, D, hg, _⟩ := h
  have hc0 : w.cell? ⟨g, 0, none⟩ = some (.int .i64 n) := (blk_cell hg 0).trans rfl
  have hu56 := Try.underlying56
  clear hg
  by_cases h1 : node < 0
  · have d1 : decide (node < 0) = true := decide_eq_true h1
    clear hx
    go_enter Try.func21, Try.ntmps21
    go_wp2
    go_ret
    exact ⟨_, rfl, Kd.R_nil _ _ _ _ _, Below.refl _ _⟩
  · have d1 : decide (node < 0) = false := decide_eq_false h1
    have d2 : decide ((n : Int) ≤ node) = true := decide_eq_true (by omega)
    clear hx
    go_enter Try.func21, Try.ntmps21
    go_wp2
    go_ret
    exact ⟨_, rfl, Kd.R_nil _ _ _ _ _, Below.refl _ _⟩
set_option maxRecDepth 100000 in
set_option maxHeartbeats 4000000 in
theorem path_any (g n : Nat) (es : List S29) (node : Int) (K : Nat) (r : List S29) (w : World) (base : Nat) (ok : Nat → Prop) (h : Gr w base ok g (n : Int) es) (hk : Gok n es) (h0 : 0 ≤ node) (h1 : node < n) (hK : K ≤ 100000)
    (hval : ∀ i : Int, 0 ≤ i → i < n → rd (walkF n es (fun _ => false) (-1)) i < es.length) (hr : pathL es (walkF n es (fun _ => false) (-1)) K node [] = some r) :
    Calls Try.prog 21 #[.pointer (some ⟨g, 0, none⟩), .int .i64 node] w fun e w' => ∃ v, e = .returned v ∧ Kd.R k29 29 w' w.heap.size (fun _ => True) v r.reverse ∧ Below w.heap.size w w' := by
  have HG := Aside0.mk h
  obtain ⟨v, b, D, hg, _, _, hR, _⟩ := h
  have hc0 : w.cell? ⟨g, 0, none⟩ = some (.int .i64 n) := (blk_cell hg 0).trans rfl
  obtain ⟨A2, c2, rfl, hcl, hC⟩ := Kd.R_reads hR
  have HG0 := Aside0.mk hg; have HC := Aside0.mk hC; have HK := Aside0.mk hk; have HV := Aside0.mk hval; have HR := Aside0.mk hr
  have d1 : decide (node < 0) = false := decide_eq_false (by omega)
  have d2 : decide ((n : Int) ≤ node) = false := decide_eq_false (by omega)
  have hw := walkF_length hk.inn (fun _ => false) (-1)
  obtain ⟨by_, hby⟩ : ∃ x, x = walkF n es (fun _ => false) (-1) := ⟨_, rfl⟩
  rw [← hby] at HV HR hw
  have HBY := Aside0.mk hby; have HBL := Aside0.mk hw
  have HN0 := Aside0.mk (And.intro h0 h1); have HKK := Aside0.mk hK
  clear hg hC hk hval hr hR hcl hby hw h0 h1 hK
  have hu56 := Try.underlying56
  have hu29 := Try.underlying29
  go_enter Try.func21, Try.ntmps21
  go_wp2_with (first
    | (go_at_call 27; refine (walk_any g n es (.map none) (fun _ => false) (-1) (n + 2) _ _ base ok HG.out HK.out.inn HK.out.nodes HK.out.edges (nil_shut HK.out.nodes) (by decide) (walkF_some HK.out.inn _ _)).mono ?_; rintro e w1 ⟨v1, rfl, hv1, hb1⟩; rw [← HBY.out] at hv1; obtain ⟨A1, c1, rfl, hc1, hC1⟩ := Kd.R_reads hv1; rw [HBL.out] at hv1 hC1; simp only [HBL.out]; have HY1 := Aside0.mk hv1; clear hv1; have HB1 := Aside0.mk hb1; clear hb1 hc1 hC1))
  have HO1 := Aside0.mk (Kd.R_nil k29 29 w1 w.heap.size (fun _ => True))
  go_loopg [7, 6] K (fun kq v7 v6 w' => ∃ (q : Int) (out : List S29), v7 = .int .i64 q ∧ Aside0 (pathL es by_ kq q out = some r) ∧ Aside0 (out.length + kq ≤ K) ∧ Aside0 (-1 ≤ q ∧ q < n) ∧ Aside0 (Kd.R k29 29 w' w.heap.size (fun _ => True) v6 out) ∧ Aside0 (Kd.R (Kd.int .i64) 3 w' w.heap.size (fun _ => True) (.slice A1 n c1) by_) ∧ Aside0 (Below w.heap.size w w'))
  case atStart => exact ⟨node, [], rfl, HR, ⟨by simp⟩, ⟨by have := HN0.out; omega⟩, HO1, HY1, HB1⟩
  case round =>
    clear HR HO1 HY1 HB1
    obtain ⟨q, out, rfl, HA, HL, HQ, HO, HY, HB⟩ := hrel
    cases gk with
    | zero => exact absurd HA.out (by simp [pathL])
    | succ k1 =>
      have H := HA.out
      clear HA d1 d2
      simp only [pathL] at H
      by_cases hq : q = -1
      · rw [if_pos hq] at H
        obtain rfl := Option.some.inj H
        subst hq
        clear H
        go_wp2_with (first | (go_at_call 28; obtain ⟨kr, hkr⟩ := rev_some out (by have := HL.out; have := HKK.out; omega); refine (graph_Edge_28.calls kr (fun _ => True) _ out _ w wr HB.out HO.out hkr).mono ?_; rintro e w5 ⟨rfl, ho5, hb5, _⟩; have HO5 := Aside0.mk (Kd.R_mono ho5 (fun _ _ => trivial)); have HB5 := Aside0.mk hb5; clear ho5 hb5 hkr))
        go_ret
        exact ⟨_, rfl, HO5.out, HB5.out⟩
      · rw [if_neg hq] at H
        have hq0 : 0 ≤ q := by have := HQ.out; omega
        have hq1 : q < (n : Int) := HQ.out.2
        have e1 : (q != -1) = true := by simpa using hq
        obtain ⟨adb, eadb, xb⟩ := Kd.at_int (by have h := (Kd.R_reads' HY.out).2.2; rw [HBL.out] at h; exact h) q hq0 hq1
        have hkv := HV.out q hq0 hq1
        obtain ⟨k, hkk⟩ : ∃ k, k = rd by_ q := ⟨_, rfl⟩
        rw [← hkk] at xb hkv H
        have HKE := Aside0.mk hkk
        clear hkk hq
        subst eadb
        by_cases hk0 : k < 0
        · rw [if_pos hk0] at H
          obtain rfl := Option.some.inj H
          clear H
          have e2 : decide (0 ≤ k) = false := decide_eq_false (by omega)
          clear hk0 hkv
          go_wp2_with (first | (go_at_call 28; obtain ⟨kr, hkr⟩ := rev_some out (by have := HL.out; have := HKK.out; omega); refine (graph_Edge_28.calls kr (fun _ => True) _ out _ w wr HB.out HO.out hkr).mono ?_; rintro e w5 ⟨rfl, ho5, hb5, _⟩; have HO5 := Aside0.mk (Kd.R_mono ho5 (fun _ _ => trivial)); have HB5 := Aside0.mk hb5; clear ho5 hb5 hkr))
          go_ret
          exact ⟨_, rfl, HO5.out, HB5.out⟩
        · rw [if_neg hk0] at H
          have e2 : decide (0 ≤ k) = true := decide_eq_true (by omega)
          have hk1 : 0 ≤ k := by omega
          clear hk0
          have HA := Aside0.mk H
          clear H
          obtain ⟨ade, eade, x0, x1, x2, x3⟩ := at_T29 HC.out k hk1 hkv
          have hin := HK.out.inn.at_ hk1 hkv
          obtain ⟨e, he⟩ : ∃ e, e = rd_T29 es k := ⟨_, rfl⟩
          rw [← he] at x0 x1 x2 x3 hin HA
          have HFR := Aside0.mk (show (rd_T29 es k).f0 = e.f0 by rw [he])
          clear he
          obtain ⟨fr, tz, wy, at_⟩ := e
          simp only at x0 x1 x2 x3 hin HA HFR
          have HQ2 := Aside0.mk (And.intro hin.1 hin.2.1)
          clear hin
          subst eade
          have hc1 : w.cell? ⟨g, 1, none⟩ = some (.slice (some ade) es.length c2) := (blk_cell HG0.out 1).trans rfl
          replace x0 := (HB.out.cell (World.block_lt_of_cell? w _ x0)).trans x0
          replace x1 := (HB.out.cell (World.block_lt_of_cell? w _ x1)).trans x1
          replace x2 := (HB.out.cell (World.block_lt_of_cell? w _ x2)).trans x2
          replace x3 := (HB.out.cell (World.block_lt_of_cell? w _ x3)).trans x3
          replace hc1 := (HB.out.cell (World.block_lt_of_cell? w _ hc1)).trans hc1
          go_wp2
          have HO7 := Aside0.mk (Kd.R_drew HO.out)
          have HY7 := Aside0.mk (Kd.R_drew HY.out)
          have HB7 := Aside0.mk (below_drew1 HB.out)
          obtain ⟨w7, hw7⟩ : ∃ w7 : World, w7 = wr.drew := ⟨_, rfl⟩
          rw [← hw7] at HO7 HY7 HB7
          refine start_ (n := 14) (S := fun w' => w'.cell? ⟨g, 1, none⟩ = some (.slice (some ade) es.length c2) ∧ w'.cell? (adb.add q.toNat) = some (.int .i64 k) ∧ w'.cell? (ade.add (k.toNat * 4)) = some (.int .i64 fr) ∧ w'.cell? ⟨(ade.add (k.toNat * 4)).block, (ade.add (k.toNat * 4)).off + 1, none⟩ = some (.int .i64 tz) ∧ w'.cell? ⟨(ade.add (k.toNat * 4)).block, (ade.add (k.toNat * 4)).off + 2, none⟩ = some (.int .i64 wy) ∧ w'.cell? ⟨(ade.add (k.toNat * 4)).block, (ade.add (k.toNat * 4)).off + 3, none⟩ = some (.int .i64 at_)) (ds := [11, 12]) #[false, false, false, false, false, false, false, false, false, false, false, false, false, false] (by kernel_rfl) rfl rfl ⟨hc1, xb, x0, x1, x2, x3⟩ (fun hHeld => ?_)
          rw [← hw7] at hHeld ⊢; clear hw7 hc1 xb x0 x1 x2 x3
          refine pure_ (i := 0) (N := some 41) (v := ?_) (a' := ?_) #[true, false, false, false, false, false, false, false, false, false, false, false, false, false] rfl rfl (by kernel_rfl) (fun _ _ _ h => h) (Or.inl ⟨by rfl, ?_⟩) ?_ ?_
          rotate_left
          · intro w'
            go_simp
            with_reducible rfl
          rotate_left
          · simp only [Act.put, List.setIfInBounds_toArray, List.set_cons_zero, List.set_cons_succ, i64_w, i32_w]
            rfl
          refine pure_ (i := 1) (N := some 42) (v := ?_) (a' := ?_) #[true, true, false, false, false, false, false, false, false, false, false, false, false, false] rfl rfl (by kernel_rfl) (fun _ _ _ h => h) (Or.inl ⟨by rfl, ?_⟩) ?_ ?_
          rotate_left
          · intro w'
            go_simp
            with_reducible rfl
          rotate_left
          · simp only [Act.put, List.setIfInBounds_toArray, List.set_cons_zero, List.set_cons_succ, i64_w, i32_w]
            rfl
          refine pure_ (i := 2) (N := some 43) (v := ?_) (a' := ?_) #[true, true, true, false, false, false, false, false, false, false, false, false, false, false] rfl rfl (by kernel_rfl) (fun _ _ _ h => h) (Or.inl ⟨by rfl, ?_⟩) ?_ ?_
          rotate_left
          · intro w'
            go_simp
            with_reducible rfl
          rotate_left
          · simp only [Act.put, List.setIfInBounds_toArray, List.set_cons_zero, List.set_cons_succ, i64_w, i32_w]
            rfl
          refine pure_ (i := 3) (N := some 44) (v := ?_) (a' := ?_) #[true, true, true, true, false, false, false, false, false, false, false, false, false, false] rfl rfl (by kernel_rfl) (fun _ _ _ h => h) (Or.inl ⟨by rfl, ?_⟩) ?_ ?_
          rotate_left
          · intro w'
            go_simp
            with_reducible rfl
          rotate_left
          · simp only [Act.put, List.setIfInBounds_toArray, List.set_cons_zero, List.set_cons_succ, i64_w, i32_w]
            rfl
          refine take_ (i := 4) (N := some 45) (v := ?_) (a' := ?_) #[true, true, true, true, true, false, false, false, false, false, false, false, false, false] rfl rfl (by kernel_rfl) (fun _ _ _ h => h) (Or.inl ⟨by rfl, ?_⟩) hHeld ?_ ?_
          rotate_left
          · rintro w' ⟨s0, s1, s2, s3, s4, s5⟩
            go_simp
            with_reducible rfl
          rotate_left
          · simp only [Act.put, List.setIfInBounds_toArray, List.set_cons_zero, List.set_cons_succ, i64_w, i32_w]
            rfl
          refine pure_ (i := 5) (N := some 46) (v := ?_) (a' := ?_) #[true, true, true, true, true, true, false, false, false, false, false, false, false, false] rfl rfl (by kernel_rfl) (fun _ _ _ h => h) (Or.inl ⟨by rfl, ?_⟩) ?_ ?_
          rotate_left
          · intro w'
            go_simp
            with_reducible rfl
          rotate_left
          · simp only [Act.put, List.setIfInBounds_toArray, List.set_cons_zero, List.set_cons_succ, i64_w, i32_w]
            rfl
          refine pure_ (i := 6) (N := some 47) (v := ?_) (a' := ?_) #[true, true, true, true, true, true, true, false, false, false, false, false, false, false] rfl rfl (by kernel_rfl) (fun _ _ _ h => h) (Or.inl ⟨by rfl, ?_⟩) ?_ ?_
          rotate_left
          · intro w'
            go_simp
            with_reducible rfl
          rotate_left
          · simp only [Act.put, List.setIfInBounds_toArray, List.set_cons_zero, List.set_cons_succ, i64_w, i32_w]
            rfl
          refine pure_ (i := 7) (N := some 48) (v := ?_) (a' := ?_) #[true, true, true, true, true, true, true, true, false, false, false, false, false, false] rfl rfl (by kernel_rfl) (fun _ _ _ h => h) (Or.inl ⟨by rfl, ?_⟩) ?_ ?_
          rotate_left
          · intro w'
            go_simp
            with_reducible rfl
          rotate_left
          · simp only [Act.put, List.setIfInBounds_toArray, List.set_cons_zero, List.set_cons_succ, i64_w, i32_w]
            rfl
          refine take_ (i := 8) (N := some 49) (v := ?_) (a' := ?_) #[true, true, true, true, true, true, true, true, true, false, false, false, false, false] rfl rfl (by kernel_rfl) (fun _ _ _ h => h) (Or.inl ⟨by rfl, ?_⟩) hHeld ?_ ?_
          rotate_left
          · rintro w' ⟨s0, s1, s2, s3, s4, s5⟩
            go_simp
            with_reducible rfl
          rotate_left
          · simp only [Act.put, List.setIfInBounds_toArray, List.set_cons_zero, List.set_cons_succ, i64_w, i32_w]
            rfl
          refine pure_ (i := 9) (N := some 50) (v := ?_) (a' := ?_) #[true, true, true, true, true, true, true, true, true, true, false, false, false, false] rfl rfl (by kernel_rfl) (fun _ _ _ h => h) (Or.inl ⟨by rfl, ?_⟩) ?_ ?_
          rotate_left
          · intro w'
            go_simp
            with_reducible rfl
          rotate_left
          · simp only [Act.put, List.setIfInBounds_toArray, List.set_cons_zero, List.set_cons_succ, i64_w, i32_w]
            rfl
          refine take_ (i := 10) (N := some 51) (v := ?_) (a' := ?_) #[true, true, true, true, true, true, true, true, true, true, true, false, false, false] rfl rfl (by kernel_rfl) (fun _ _ _ h => h) (Or.inl ⟨by rfl, ?_⟩) hHeld ?_ ?_
          rotate_left
          · rintro w' ⟨s0, s1, s2, s3, s4, s5⟩
            go_simp
            with_reducible rfl
          rotate_left
          · simp only [Act.put, List.setIfInBounds_toArray, List.set_cons_zero, List.set_cons_succ, i64_w, i32_w]
            rfl
          refine last_ (i := 11) (N := some 52) #[true, true, true, true, true, true, true, true, true, true, true, true, false, false] rfl rfl (by kernel_rfl) (by decide) (fun K hK => ?_)
          refine value_ (v := .slice (some ⟨w7.heap.size, 0, none⟩) 1 1) (w1 := w7.alloc (.cells #[.int .i64 fr, .int .i64 tz, .int .i64 wy, .int .i64 at_] 29)) (by rfl) rfl (by go_simp) ?_
          refine hK.out _ _ ?_
          clear hK K hHeld
          refine last_ (i := 12) (N := some 53) #[true, true, true, true, true, true, true, true, true, true, true, true, true, false] rfl rfl (by kernel_rfl) (by decide) (fun K hK => ?_)
          refine Kd.R_append_step k29 (w0 := w) w.heap.size (by rfl) _ _ 22 29 (.agg #[.int .i64 0, .int .i64 0, .int .i64 0, .int .i64 0]) 32 rfl Try.underlying22 info29 rfl (by decide) (by decide) u6 out ⟨fr, tz, wy, at_⟩ [.int .i64 fr, .int .i64 tz, .int .i64 wy, .int .i64 at_] (fun _ => True) (fun _ => False) rfl rfl (k29_mkM _ _ _ ⟨fr, tz, wy, at_⟩) (fun _ h => h.elim) (fun _ _ => trivial) HO7.out HB7.out HB7.out.size (by have := HL.out; have := HKK.out; omega) ?_
          intro v8 w8 hR8 hB8 hg8 hat8
          have HO8 := Aside0.mk hR8; have HB8 := Aside0.mk hB8; have HY8 := Aside0.mk (Kd.R_over HY7.out HO7.out (by intro q hq; rcases List.mem_cons.1 hq with h | h; rw [h]; decide; cases h) hg8)
          clear hR8 hB8 hg8 hat8 HO7 HB7 HY7 HO HB HY
          refine hK.out _ _ ?_
          clear hK K
          refine norm_ (a' := ?_) ?_ ?_
          rotate_left
          · show Act.put _ (some 53) _ = _
            simp only [Act.put, List.setIfInBounds_toArray, List.set_cons_zero, List.set_cons_succ]
            rfl
          refine pure_ (i := 13) (N := some 6) (v := ?_) (a' := ?_) #[true, true, true, true, true, true, true, true, true, true, true, true, true, true] rfl rfl (by kernel_rfl) (fun _ _ _ h => h) (Or.inl ⟨by rfl, ?_⟩) ?_ ?_
          rotate_left
          · intro w'
            go_simp
            with_reducible rfl
          rotate_left
          · simp only [Act.put, List.setIfInBounds_toArray, List.set_cons_zero, List.set_cons_succ, i64_w, i32_w]
            rfl
          refine done_ (by kernel_rfl) ?_
          go_wp2
          obtain ⟨adb2, eadb2, xb⟩ := Kd.at_int (by have h := (Kd.R_reads' HY8.out).2.2; rw [HBL.out] at h; exact h) q hq0 hq1
          obtain rfl : adb = adb2 := by injection eadb2
          clear eadb2
          rw [← HKE.out] at xb
          have hc1 : w.cell? ⟨g, 1, none⟩ = some (.slice (some ade) es.length c2) := (blk_cell HG0.out 1).trans rfl
          replace hc1 := (HB8.out.cell (World.block_lt_of_cell? w _ hc1)).trans hc1
          obtain ⟨ade2, eade2, x0, _, _, _⟩ := at_T29 HC.out k hk1 hkv
          obtain rfl : ade = ade2 := by injection eade2
          clear eade2
          replace x0 := (HB8.out.cell (World.block_lt_of_cell? w _ x0)).trans x0
          have hfr : (rd_T29 es k).f0 = fr := HFR.out
          rw [hfr] at x0
          clear hfr
          refine start_ (n := 12) (S := fun w' => w'.cell? ⟨g, 1, none⟩ = some (.slice (some ade) es.length c2) ∧ w'.cell? (adb.add q.toNat) = some (.int .i64 k) ∧ w'.cell? (ade.add (k.toNat * 4)) = some (.int .i64 fr)) (ds := []) #[false, false, false, false, false, false, false, false, false, false, false, false] (by kernel_rfl) rfl rfl ⟨hc1, xb, x0⟩ (fun hHeld => ?_)
          refine pure_ (i := 0) (N := some 30) (v := ?_) (a' := ?_) #[true, false, false, false, false, false, false, false, false, false, false, false] rfl rfl (by kernel_rfl) (fun _ _ _ h => h) (Or.inl ⟨by rfl, ?_⟩) ?_ ?_
          rotate_left
          · intro w'
            go_simp
            with_reducible rfl
          rotate_left
          · simp only [Act.put, List.setIfInBounds_toArray, List.set_cons_zero, List.set_cons_succ, i64_w, i32_w]
            rfl
          refine pure_ (i := 1) (N := some 31) (v := ?_) (a' := ?_) #[true, true, false, false, false, false, false, false, false, false, false, false] rfl rfl (by kernel_rfl) (fun _ _ _ h => h) (Or.inl ⟨by rfl, ?_⟩) ?_ ?_
          rotate_left
          · intro w'
            go_simp
            with_reducible rfl
          rotate_left
          · simp only [Act.put, List.setIfInBounds_toArray, List.set_cons_zero, List.set_cons_succ, i64_w, i32_w]
            rfl
          refine pure_ (i := 2) (N := some 32) (v := ?_) (a' := ?_) #[true, true, true, false, false, false, false, false, false, false, false, false] rfl rfl (by kernel_rfl) (fun _ _ _ h => h) (Or.inl ⟨by rfl, ?_⟩) ?_ ?_
          rotate_left
          · intro w'
            go_simp
            with_reducible rfl
          rotate_left
          · simp only [Act.put, List.setIfInBounds_toArray, List.set_cons_zero, List.set_cons_succ, i64_w, i32_w]
            rfl
          refine take_ (i := 3) (N := some 33) (v := ?_) (a' := ?_) #[true, true, true, true, false, false, false, false, false, false, false, false] rfl rfl (by kernel_rfl) (fun _ _ _ h => h) (Or.inl ⟨by rfl, ?_⟩) hHeld ?_ ?_
          rotate_left
          · rintro w' ⟨s0, s1, s2⟩
            go_simp
            with_reducible rfl
          rotate_left
          · simp only [Act.put, List.setIfInBounds_toArray, List.set_cons_zero, List.set_cons_succ, i64_w, i32_w]
            rfl
          refine pure_ (i := 4) (N := some 34) (v := ?_) (a' := ?_) #[true, true, true, true, true, false, false, false, false, false, false, false] rfl rfl (by kernel_rfl) (fun _ _ _ h => h) (Or.inl ⟨by rfl, ?_⟩) ?_ ?_
          rotate_left
          · intro w'
            go_simp
            with_reducible rfl
          rotate_left
          · simp only [Act.put, List.setIfInBounds_toArray, List.set_cons_zero, List.set_cons_succ, i64_w, i32_w]
            rfl
          refine pure_ (i := 5) (N := some 35) (v := ?_) (a' := ?_) #[true, true, true, true, true, true, false, false, false, false, false, false] rfl rfl (by kernel_rfl) (fun _ _ _ h => h) (Or.inl ⟨by rfl, ?_⟩) ?_ ?_
          rotate_left
          · intro w'
            go_simp
            with_reducible rfl
          rotate_left
          · simp only [Act.put, List.setIfInBounds_toArray, List.set_cons_zero, List.set_cons_succ, i64_w, i32_w]
            rfl
          refine pure_ (i := 6) (N := some 36) (v := ?_) (a' := ?_) #[true, true, true, true, true, true, true, false, false, false, false, false] rfl rfl (by kernel_rfl) (fun _ _ _ h => h) (Or.inl ⟨by rfl, ?_⟩) ?_ ?_
          rotate_left
          · intro w'
            go_simp
            with_reducible rfl
          rotate_left
          · simp only [Act.put, List.setIfInBounds_toArray, List.set_cons_zero, List.set_cons_succ, i64_w, i32_w]
            rfl
          refine take_ (i := 7) (N := some 37) (v := ?_) (a' := ?_) #[true, true, true, true, true, true, true, true, false, false, false, false] rfl rfl (by kernel_rfl) (fun _ _ _ h => h) (Or.inl ⟨by rfl, ?_⟩) hHeld ?_ ?_
          rotate_left
          · rintro w' ⟨s0, s1, s2⟩
            go_simp
            with_reducible rfl
          rotate_left
          · simp only [Act.put, List.setIfInBounds_toArray, List.set_cons_zero, List.set_cons_succ, i64_w, i32_w]
            rfl
          refine pure_ (i := 8) (N := some 38) (v := ?_) (a' := ?_) #[true, true, true, true, true, true, true, true, true, false, false, false] rfl rfl (by kernel_rfl) (fun _ _ _ h => h) (Or.inl ⟨by rfl, ?_⟩) ?_ ?_
          rotate_left
          · intro w'
            go_simp
            with_reducible rfl
          rotate_left
          · simp only [Act.put, List.setIfInBounds_toArray, List.set_cons_zero, List.set_cons_succ, i64_w, i32_w]
            rfl
          refine pure_ (i := 9) (N := some 39) (v := ?_) (a' := ?_) #[true, true, true, true, true, true, true, true, true, true, false, false] rfl rfl (by kernel_rfl) (fun _ _ _ h => h) (Or.inl ⟨by rfl, ?_⟩) ?_ ?_
          rotate_left
          · intro w'
            go_simp
            with_reducible rfl
          rotate_left
          · simp only [Act.put, List.setIfInBounds_toArray, List.set_cons_zero, List.set_cons_succ, i64_w, i32_w]
            rfl
          refine take_ (i := 10) (N := some 40) (v := ?_) (a' := ?_) #[true, true, true, true, true, true, true, true, true, true, true, false] rfl rfl (by kernel_rfl) (fun _ _ _ h => h) (Or.inl ⟨by rfl, ?_⟩) hHeld ?_ ?_
          rotate_left
          · rintro w' ⟨s0, s1, s2⟩
            go_simp
            with_reducible rfl
          rotate_left
          · simp only [Act.put, List.setIfInBounds_toArray, List.set_cons_zero, List.set_cons_succ, i64_w, i32_w]
            rfl
          refine pure_ (i := 11) (N := some 7) (v := ?_) (a' := ?_) #[true, true, true, true, true, true, true, true, true, true, true, true] rfl rfl (by kernel_rfl) (fun _ _ _ h => h) (Or.inl ⟨by rfl, ?_⟩) ?_ ?_
          rotate_left
          · intro w'
            go_simp
            with_reducible rfl
          rotate_left
          · simp only [Act.put, List.setIfInBounds_toArray, List.set_cons_zero, List.set_cons_succ, i64_w, i32_w]
            rfl
          refine done_ (by kernel_rfl) ?_
          go_wp2
          go_roundg k1
          case measure => omega
          case rel => exact ⟨fr, _, rfl, HA, ⟨by have := HL.out; simp; omega⟩, HQ2, Aside0.mk (Kd.R_drew HO8.out), Aside0.mk (Kd.R_drew HY8.out), Aside0.mk (below_drew1 HB8.out)⟩
end Go.Proofs.Ytlkmkoajfdmbeaa.PGraphWithout
