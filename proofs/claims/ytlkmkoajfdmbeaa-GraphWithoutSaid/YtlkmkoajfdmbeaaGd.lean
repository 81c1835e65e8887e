/- (*Graph).Add at an edge whose nodes are there: it is there twice, there is no room, or it is added. No condition but that the graph is one. -/
import Derived.Test.YtlkmkoajfdmbeaaGc
namespace Go.Proofs.Ytlkmkoajfdmbeaa.PGraphWithout
open Go.RowKit Go.Proofs.YtlkmkoajfdmbeaaW.PrintWords Go.Proofs.YtlkmkoajfdmbeaaW.PrintLast Go.Proofs.YtlkmkoajfdmbeaaW.PrintMore
open Go.Maps Go.WideElems Go.MapKept Go.ChangeShapes
set_option linter.unusedVariables false
set_option linter.unusedSimpArgs false

theorem contains_is (es : List S29) (x : S29) (r : Bool) (A : Option Addr) (c : Nat) (w : World) (hr : Kd.C k29 w A es.length es) (hc : es.length ≤ c) (hn : es.length ≤ 16384) (h : es.any (same29 x) = r) :
    Calls Try.prog 24 #[.slice A es.length c, .agg #[.int .i64 x.f0, .int .i64 x.f1, .int .i64 x.f2, .int .i64 x.f3]] w fun e w' => e = .returned (.bool r) ∧ Below w.heap.size w w' := by
  subst h
  exact contains_any es x A c w hr hc hn

theorem nodup_key {l : List MapEntry} (h : (l.map (·.key)).Nodup) {x y : MapEntry} (hx : x ∈ l) (hy : y ∈ l) (he : x.key = y.key) : x = y := by
  induction l with
  | nil => cases hx
  | cons z r ih =>
    rw [List.map_cons, List.nodup_cons] at h
    rcases List.mem_cons.1 hx with rfl | hx'
    · rcases List.mem_cons.1 hy with rfl | hy'
      · rfl
      · exact absurd (he ▸ List.mem_map.2 ⟨y, hy', rfl⟩) h.1
    · rcases List.mem_cons.1 hy with rfl | hy'
      · exact absurd (he ▸ List.mem_map.2 ⟨x, hx', rfl⟩) h.1
      · exact ih h.2 hx' hy'
/-- What a look-up answers hangs on the map's block alone. -/
theorem look_moves {H : Type} {P : Program} {k t e : TypeId} {R : Value → Option (DataW H × List MemPlace)} {w : World} {b : Nat} {es : Array MapEntry} {clock : Nat} (K : Keyed P k) (ht : P.underlying t = some (.map k e)) {z : Value} (hz : ∀ w : World, (zeroValue e).run P w = .ok z w)
    (hb : w.heap[b]? = some (.map es clock)) (F : Fit P k R es clock) {key : Value} {kl : Lit} (hkey : keyOf P k key = some kl) {v : Value} (h : (Instr.lookup t (.map (some b)) key false).run P w = .ok v w) :
    ∀ w' : World, w'.heap[b]? = some (.map es clock) → (Instr.lookup t (.map (some b)) key false).run P w' = .ok v w' := by
  intro w' hb'
  have nd := F.stamped.2.2
  rcases Maps.fit_look false K ht (hz w) hb F hkey with ⟨h1, h2, _⟩ | ⟨e0, y0, m0, k0, h1, _⟩
  · rcases Maps.fit_look false K ht (hz w') hb' F hkey with ⟨h1', h2', _⟩ | ⟨e0', y0', m0', k0', h1', _⟩
    · rw [h] at h1
      obtain rfl : v = z := by simpa using h1
      exact h1'
    · exact absurd k0' (h2 e0' m0')
  · rcases Maps.fit_look false K ht (hz w') hb' F hkey with ⟨h1', h2', _⟩ | ⟨e0', y0', m0', k0', h1', _⟩
    · exact absurd k0 (h2' e0 m0)
    · rw [h] at h1
      obtain rfl : v = e0.val := by simpa using h1
      rw [nodup_key nd m0 m0' (k0.trans k0'.symm)]
      exact h1'
theorem keyed3 : Keyed Try.prog 3 := int_keyed Try.underlying3
theorem zero43 (w : World) : (zeroValue 43).run Try.prog w = .ok (.slice none 0 0) w := by kernel_rfl
theorem key3 {a : Int} (h : (Lit.int .i64 a).wf = true) : keyOf Try.prog 3 (.int .i64 a) = some (.int .i64 a) := keyOf_int_mk Try.underlying3 h
theorem info29 : (Try.prog.info? 29).map (fun i => (i.zero, i.size, i.bytes)) = some (some (.agg #[.int .i64 0, .int .i64 0, .int .i64 0, .int .i64 0]), 4, 32) := by kernel_rfl
theorem info3 : (Try.prog.info? 3).map (fun i => (i.zero, i.size, i.bytes)) = some (some (.int .i64 0), 1, 8) := by kernel_rfl
/-- The rows of a map of rows are of one type: what is of another type may turn. -/
theorem groups_typed {H : Type} {P : Program} {k : TypeId} {w w' : World} {base : Nat} {e : TypeId} {q : IntKind} {b n : Nat} {D : DataW H} (h : w.ownsGroups P k base e q b n D)
    (hm : ∀ j, (∀ cs t fr, w.heap[j]? = some (.cells cs t fr) → t = e) → j < w.heap.size → w'.heap[j]? = w.heap[j]?) : w'.ownsGroups P k base e q b n D ∧ w'.heap[b]? = w.heap[b]? := by
  have h0 := h
  obtain ⟨es, clock, hb, F, _⟩ := h0
  have hbb : w'.heap[b]? = w.heap[b]? := hm b (fun cs t fr hc => by rw [hb] at hc; cases hc) (Array.getElem?_eq_some_iff.1 hb).1
  refine ⟨groups_move h hbb ?_, hbb⟩
  intro es1 clock1 hb1 x hx g hg
  obtain ⟨rfl, rfl⟩ : es = es1 ∧ clock = clock1 := by rw [hb] at hb1; simpa using hb1
  obtain ⟨y, hy⟩ := F.reads x hx
  obtain ⟨z, hz, _⟩ := rd_val hy
  obtain ⟨zs0, ho0, _⟩ := rowElem_inv hz
  obtain ⟨cells, hc⟩ := own_typed ho0.1 g hg
  exact hm g (fun cs t fr hc' => by rw [hc] at hc'; cases hc'; rfl) (blk_lt hc)
/-- What one look-up and one store of the group-by need. -/
theorem gr_look {w : World} {base b n : Nat} {D : DataW Unit} (h : w.ownsGroups Try.prog 3 base 3 .i64 b n D) (hn : n < maxLen) {a : Int} (ha : (Lit.int .i64 a).wf = true) :
    ∃ es clock u zs, w.heap[b]? = some (.map es clock) ∧ (∀ w' : World, w'.heap[b]? = some (.map es clock) → (Instr.lookup 54 (.map (some b)) (.int .i64 a) false).run Try.prog w' = .ok u w') ∧
      D.atKey (.int .i64 a) .nil = rowDatum .i64 u zs ∧ w.ownsInts base 3 .i64 u zs ∧ zs.length ≤ n ∧ w.groupBack Try.prog 54 3 base 3 .i64 b n D (.int .i64 a) (.int .i64 a) u ∧
      (∀ No : Nat → Prop, w.Shuns b No → ∀ g, u.ownBlock = some g → ¬ No g) ∧
      (∀ No : Nat → Prop, w.Shuns b No → ∀ (w1 w2 : World) (v' : Value), w1.heap[b]? = w.heap[b]? → (∀ g, v'.ownBlock = some g → ¬ No g) → (Instr.mapUpdate 54 (.map (some b)) (.int .i64 a) v').run Try.prog w1 = .ok () w2 → w2.Shuns b No) := by
  obtain ⟨u, zs, hrun, hat, hoi, hzl, hback⟩ := h.at keyed3 Try.underlying54 (zero43 w) hn (key3 ha)
  obtain ⟨es, clock, hb, F, hs, hD, hbb, hlen, hap⟩ := h
  refine ⟨es, clock, u, zs, hb, look_moves keyed3 Try.underlying54 zero43 hb F (key3 ha) hrun, hat, hoi, hzl, hback, ?_, ?_⟩
  · intro No hsh g hg
    rcases Maps.fit_look false keyed3 Try.underlying54 (zero43 w) hb F (key3 ha) with ⟨hrun', _, _⟩ | ⟨e0, y, hm0, _, hrun', _, _, _⟩
    · rw [hrun] at hrun'
      obtain rfl : u = .slice none 0 0 := by simpa using hrun'
      cases hg
    · rw [hrun] at hrun'
      obtain rfl : u = e0.val := by simpa using hrun'
      exact hsh es clock hb e0 hm0 g hg
  · intro No hsh w1 w2 v' hb1 hno hr
    obtain ⟨es', clock', hb2, hwho⟩ := stored_who keyed3 Try.underlying54 (hb1.trans hb) F (Nat.lt_of_le_of_lt hs hn) (key3 ha) hr
    intro es2 clock2 hb2' y hy g hyg
    obtain ⟨rfl, rfl⟩ : es' = es2 ∧ clock' = clock2 := by rw [hb2] at hb2'; simpa using hb2'
    rcases hwho y hy with ⟨hy0, _⟩ | ⟨_, hval⟩
    · exact hsh es clock hb y hy0 g hyg
    · exact hno g (hval ▸ hyg)
/-- A row of edges stays where no block of its type turns. -/
theorem R29_grown {w w1 : World} {base : Nat} {ok : Nat → Prop} {v : Value} {xs : List S29} {row : Option Nat} (h : Kd.R k29 29 w base ok v xs) (hg : w.grownBy w1 row) (hn : ∀ k cs, row = some k → w.heap[k]? ≠ some (.cells cs 29 (0, 0))) : Kd.R k29 29 w1 base ok v xs :=
  Kd.R_mono (Kd.R_step (Kd.R_bound h) (fun k hk hlt => hg.block k hlt (fun he => by
    obtain ⟨_, _, _, q, hq, cells, hc⟩ := hk
    have hq' : q = 29 := by
      rcases List.mem_cons.1 hq with h | h
      · exact h
      · cases h
    subst hq'
    exact hn k cells he.symm hc))) (fun _ hk => hk.1)
theorem add_done {w10 w12 : World} {base g b len : Nat} {n : Int} {es' : List S29} {ok : Nat → Prop} {v v2 : Value} {xs : List S29} {D : DataW Unit} (HG : w10.heap[g]? = some (.cells #[.int .i64 n, v, .map (some b)] 56 (0, 0))) (hG : w10.ownsGroups Try.prog 3 (b + 1) 3 .i64 b len D) (hS : w10.Shuns b (fun k => ¬ ok k))
    (hR : Kd.R k29 29 w10 base ok v xs) (hg : w10.grownBy w12 v.ownBlock) (hR12 : Kd.R k29 29 w12 base ok v2 es') (hl : es'.length = len) (hD : Rep D es') (okg : ok g) (okb : ok b) (bg : base ≤ g) (bb : base ≤ b) :
    Gr (w12.setCell ⟨g, 1, none⟩ v2) base ok g n es' := by
  obtain ⟨inner, ho⟩ := Kd.R_own hR
  have HG12 : w12.heap[g]? = some (.cells #[.int .i64 n, v, .map (some b)] 56 (0, 0)) := blk_grown HG hg (own_ne ho HG (by decide))
  have HG13 : (w12.setCell ⟨g, 1, none⟩ v2).heap[g]? = some (.cells #[.int .i64 n, v2, .map (some b)] 56 (0, 0)) := (blk_set HG12 1 v2).trans rfl
  have mv : ∀ j, (∀ cs t fr, w10.heap[j]? = some (.cells cs t fr) → t = 3) → j < w10.heap.size → (w12.setCell ⟨g, 1, none⟩ v2).heap[j]? = w10.heap[j]? := by
    intro j hj hlt
    have hjg : j ≠ g := by
      rintro rfl
      exact absurd (hj _ _ _ HG) (by decide)
    rw [Below.heap_setCell _ _ _ _ hjg]
    refine hg.block j hlt (fun he => ?_)
    obtain ⟨cells, hc⟩ := own_typed ho j he.symm
    exact absurd (hj _ _ _ hc) (by decide)
  obtain ⟨hG13, hb13⟩ := groups_typed hG mv
  subst hl
  exact ⟨v2, b, D, HG13, okg, bg, Kd.R_set hR12 HG12 (by intro q hq; rcases List.mem_cons.1 hq with h | h; rw [h]; decide; cases h) 1 v2, okb, bb, hG13, shuns_move hS hb13, hD⟩
set_option maxRecDepth 100000 in
set_option maxHeartbeats 1000000 in
theorem add_twice (g : Nat) (n : Int) (es : List S29) (x : S29) (w0 w : World) (base : Nat) (ok : Nat → Prop) (h : Gr w base ok g n es) (hB : Below base w0 w) (hle : base ≤ w.heap.size) (hb1 : -1 ≤ x.f0) (hb2 : x.f0 < n) (hb3 : 0 ≤ x.f1) (hb4 : x.f1 < n) (hn : n ≤ 8192) (hl : es.length ≤ 16384) (ht : es.any (same29 x) = true) :
    Calls Try.prog 10 #[.pointer (some ⟨g, 0, none⟩), .agg #[.int .i64 x.f0, .int .i64 x.f1, .int .i64 x.f2, .int .i64 x.f3]] w fun e w' => e = .returned (.int .i64 4) ∧ Below w.heap.size w w' := by
  obtain ⟨v, b, D, hg, okg, bg, hR, okb, bb, hG, hS, hD⟩ := h
  have hc0 : w.cell? ⟨g, 0, none⟩ = some (.int .i64 n) := (blk_cell hg 0).trans rfl
  obtain ⟨A, c, rfl, hcl, hC⟩ := Kd.R_reads hR
  have hgl := blk_lt hg
  have HG0 := Aside0.mk hg; have HR0 := Aside0.mk hR; have HM0 := Aside0.mk hG; have HS0 := Aside0.mk hS; have HD := Aside0.mk hD; have HB0 := Aside0.mk hB
  have HC := Aside0.mk hC; have HL := Aside0.mk hl; have HT := Aside0.mk ht; have HCL := Aside0.mk hcl
  have HLE := Aside0.mk hle; have HBG := Aside0.mk (And.intro bg bb); have HOK := Aside0.mk (And.intro okg okb)
  clear hg hR hC hl ht hcl hG hS hD hB hle bg bb okg okb
  have hu56 := Try.underlying56
  have hu29 := Try.underlying29
  obtain ⟨xa, xb, xc, xd⟩ := x
  simp only at hb1 hb2 hb3 hb4 ⊢
  have HX := Aside0.mk (And.intro hb1 hb2); have HN := Aside0.mk hn
  clear hn
  have d1 : decide (xa < -1) = false := decide_eq_false (by omega)
  have d2 : decide (n ≤ xa) = false := decide_eq_false (by omega)
  have d3 : decide (xb < 0) = false := decide_eq_false (by omega)
  have d4 : decide (n ≤ xb) = false := decide_eq_false (by omega)
  clear hb1 hb2 hb3 hb4
  go_enter Try.func10, Try.ntmps10
  go_wp2
  go_quiet (fail)
  go_wp2
  have HB1 := Aside0.mk (pw_below_drewN (below_alloc (Below.refl w.heap.size w) (.cells #[.int .i64 xa, .int .i64 xb, .int .i64 xc, .int .i64 xd] 29)) nq)
  have HP1 := Aside0.mk (show ((w.alloc (.cells #[.int .i64 xa, .int .i64 xb, .int .i64 xc, .int .i64 xd] 29)).drewN nq).heap[w.heap.size]? = some (.cells #[.int .i64 xa, .int .i64 xb, .int .i64 xc, .int .i64 xd] 29 (0, 0)) from blk_new w _)
  generalize (w.alloc (.cells #[.int .i64 xa, .int .i64 xb, .int .i64 xc, .int .i64 xd] 29)).drewN nq = w1 at HB1 HP1 ⊢
  clear hc0 d1 d2 d3 d4
  replace HB1 := Aside0.mk (below_drew1 HB1.out)
  replace HP1 := Aside0.mk (show w1.drew.heap[w.heap.size]? = _ from HP1.out)
  have hg1 := blk_below HG0.out HB1.out
  have e1 : w1.drew.cell? ⟨g, 1, none⟩ = some (.slice A es.length c) := (blk_cell hg1 1).trans rfl
  have p0 : w1.drew.cell? ⟨w.heap.size, 0, none⟩ = some (.int .i64 xa) := (blk_cell HP1.out 0).trans rfl
  have p1 : w1.drew.cell? ⟨w.heap.size, 1, none⟩ = some (.int .i64 xb) := (blk_cell HP1.out 1).trans rfl
  have p2 : w1.drew.cell? ⟨w.heap.size, 2, none⟩ = some (.int .i64 xc) := (blk_cell HP1.out 2).trans rfl
  have p3 : w1.drew.cell? ⟨w.heap.size, 3, none⟩ = some (.int .i64 xd) := (blk_cell HP1.out 3).trans rfl
  clear hg1
  refine start_ (n := 7) (S := fun w' => w'.cell? ⟨g, 1, none⟩ = some (.slice A es.length c) ∧ w'.cell? ⟨w.heap.size, 0, none⟩ = some (.int .i64 xa) ∧ w'.cell? ⟨w.heap.size, 1, none⟩ = some (.int .i64 xb) ∧ w'.cell? ⟨w.heap.size, 2, none⟩ = some (.int .i64 xc) ∧ w'.cell? ⟨w.heap.size, 3, none⟩ = some (.int .i64 xd)) (ds := []) #[false, false, false, false, false, false, false] (by kernel_rfl) rfl rfl ⟨e1, p0, p1, p2, p3⟩ (fun hHeld => ?_)
  refine pure_ (i := 0) (N := some 33) (v := ?_) (a' := ?_) #[true, false, false, false, false, false, false] rfl rfl (by kernel_rfl) (fun _ _ _ h => h) (Or.inl ⟨by rfl, ?_⟩) ?_ ?_
  rotate_left
  · intro w'
    go_simp
    with_reducible rfl
  rotate_left
  · simp only [Act.put, List.setIfInBounds_toArray, List.set_cons_zero, List.set_cons_succ, i64_w, i32_w]
    rfl
  refine pure_ (i := 1) (N := some 34) (v := ?_) (a' := ?_) #[true, true, false, false, false, false, false] rfl rfl (by kernel_rfl) (fun _ _ _ h => h) (Or.inl ⟨by rfl, ?_⟩) ?_ ?_
  rotate_left
  · intro w'
    go_simp
    with_reducible rfl
  rotate_left
  · simp only [Act.put, List.setIfInBounds_toArray, List.set_cons_zero, List.set_cons_succ, i64_w, i32_w]
    rfl
  refine pure_ (i := 2) (N := some 35) (v := ?_) (a' := ?_) #[true, true, true, false, false, false, false] rfl rfl (by kernel_rfl) (fun _ _ _ h => h) (Or.inl ⟨by rfl, ?_⟩) ?_ ?_
  rotate_left
  · intro w'
    go_simp
    with_reducible rfl
  rotate_left
  · simp only [Act.put, List.setIfInBounds_toArray, List.set_cons_zero, List.set_cons_succ, i64_w, i32_w]
    rfl
  refine take_ (i := 3) (N := some 36) (v := ?_) (a' := ?_) #[true, true, true, true, false, false, false] rfl rfl (by kernel_rfl) (fun _ _ _ h => h) (Or.inl ⟨by rfl, ?_⟩) hHeld ?_ ?_
  rotate_left
  · rintro w' ⟨s0, s1, s2, s3, s4⟩
    go_simp
    with_reducible rfl
  rotate_left
  · simp only [Act.put, List.setIfInBounds_toArray, List.set_cons_zero, List.set_cons_succ, i64_w, i32_w]
    rfl
  refine take_ (i := 4) (N := some 37) (v := ?_) (a' := ?_) #[true, true, true, true, true, false, false] rfl rfl (by kernel_rfl) (fun _ _ _ h => h) (Or.inl ⟨by rfl, ?_⟩) hHeld ?_ ?_
  rotate_left
  · rintro w' ⟨s0, s1, s2, s3, s4⟩
    go_simp
    with_reducible rfl
  rotate_left
  · simp only [Act.put, List.setIfInBounds_toArray, List.set_cons_zero, List.set_cons_succ, i64_w, i32_w]
    rfl
  refine one_ (i := 5) (N := some 38) #[true, true, true, true, true, true, false] rfl rfl (by kernel_rfl) (by decide) (fun K hK => ?_)
  refine goes_ (f := 24) Try.func24 (by kernel_rfl) rfl #[.slice A es.length c, .agg #[.int .i64 xa, .int .i64 xb, .int .i64 xc, .int .i64 xd]] (by rfl) rfl rfl (by simp [Act.eval]) ?_
  refine (contains_is es ⟨xa, xb, xc, xd⟩ true A c _ (Kd.C_below HC.out HB1.out) HCL.out HL.out HT.out).mono ?_
  rintro e w' ⟨rfl, hb2⟩
  refine ⟨_, rfl, ?_⟩
  have HB2 := Aside0.mk (below_then HB1.out HB1.out.size hb2)
  have HP2 := Aside0.mk (blk_below HP1.out hb2)
  clear hb2 HB1 HP1
  have hg2 := blk_below HG0.out HB2.out
  refine hK.out _ _ ⟨(blk_cell hg2 1).trans rfl, (blk_cell HP2.out 0).trans rfl, (blk_cell HP2.out 1).trans rfl, (blk_cell HP2.out 2).trans rfl, (blk_cell HP2.out 3).trans rfl⟩ (fun hHeld => ?_)
  clear hK K hg2 e1 p0 p1 p2 p3
  refine pure_ (i := 6) (N := some 32) (v := ?_) (a' := ?_) #[true, true, true, true, true, true, true] rfl rfl (by kernel_rfl) (fun _ _ _ h => h) (Or.inl ⟨by rfl, ?_⟩) ?_ ?_
  rotate_left
  · intro w'
    go_simp
    with_reducible rfl
  rotate_left
  · simp only [Act.put, List.setIfInBounds_toArray, List.set_cons_zero, List.set_cons_succ, i64_w, i32_w]
    rfl
  refine done_ (by kernel_rfl) ?_
  go_wp2
  go_ret
  exact ⟨rfl, HB2.out⟩

set_option maxRecDepth 100000 in
set_option maxHeartbeats 1000000 in
theorem add_ok (g : Nat) (n : Int) (es : List S29) (x : S29) (w0 w : World) (base : Nat) (ok : Nat → Prop) (h : Gr w base ok g n es) (hB : Below base w0 w) (hle : base ≤ w.heap.size) (hb1 : -1 ≤ x.f0) (hb2 : x.f0 < n) (hb3 : 0 ≤ x.f1) (hb4 : x.f1 < n) (hn : n ≤ 8192) (hl : es.length ≤ 16384) (ht : es.any (same29 x) = false) (hl2 : es.length < 16384) :
    Calls Try.prog 10 #[.pointer (some ⟨g, 0, none⟩), .agg #[.int .i64 x.f0, .int .i64 x.f1, .int .i64 x.f2, .int .i64 x.f3]] w fun e w' => e = .returned (.int .i64 0) ∧ Gr w' base (fun k => ok k ∨ w.heap.size ≤ k) g n (es ++ [x]) ∧ Below base w0 w' ∧ Kept w w' ok := by
  obtain ⟨v, b, D, hg, okg, bg, hR, okb, bb, hG, hS, hD⟩ := h
  have hc0 : w.cell? ⟨g, 0, none⟩ = some (.int .i64 n) := (blk_cell hg 0).trans rfl
  obtain ⟨A, c, rfl, hcl, hC⟩ := Kd.R_reads hR
  have hgl := blk_lt hg
  have HG0 := Aside0.mk hg; have HR0 := Aside0.mk hR; have HM0 := Aside0.mk hG; have HS0 := Aside0.mk hS; have HD := Aside0.mk hD; have HB0 := Aside0.mk hB
  have HC := Aside0.mk hC; have HL := Aside0.mk hl; have HL2 := Aside0.mk hl2; have HT := Aside0.mk ht; have HCL := Aside0.mk hcl
  have HLE := Aside0.mk hle; have HBG := Aside0.mk (And.intro bg bb); have HOK := Aside0.mk (And.intro okg okb)
  clear hl2 hg hR hC hl ht hcl hG hS hD hB hle bg bb okg okb
  have hu56 := Try.underlying56
  have hu29 := Try.underlying29
  obtain ⟨xa, xb, xc, xd⟩ := x
  simp only at hb1 hb2 hb3 hb4 ⊢
  have HX := Aside0.mk (And.intro hb1 hb2); have HN := Aside0.mk hn
  clear hn
  have d1 : decide (xa < -1) = false := decide_eq_false (by omega)
  have d2 : decide (n ≤ xa) = false := decide_eq_false (by omega)
  have d3 : decide (xb < 0) = false := decide_eq_false (by omega)
  have d4 : decide (n ≤ xb) = false := decide_eq_false (by omega)
  clear hb1 hb2 hb3 hb4
  go_enter Try.func10, Try.ntmps10
  go_wp2
  go_quiet (fail)
  go_wp2
  have HB1 := Aside0.mk (pw_below_drewN (below_alloc (Below.refl w.heap.size w) (.cells #[.int .i64 xa, .int .i64 xb, .int .i64 xc, .int .i64 xd] 29)) nq)
  have HP1 := Aside0.mk (show ((w.alloc (.cells #[.int .i64 xa, .int .i64 xb, .int .i64 xc, .int .i64 xd] 29)).drewN nq).heap[w.heap.size]? = some (.cells #[.int .i64 xa, .int .i64 xb, .int .i64 xc, .int .i64 xd] 29 (0, 0)) from blk_new w _)
  generalize (w.alloc (.cells #[.int .i64 xa, .int .i64 xb, .int .i64 xc, .int .i64 xd] 29)).drewN nq = w1 at HB1 HP1 ⊢
  clear hc0 d1 d2 d3 d4
  replace HB1 := Aside0.mk (below_drew1 HB1.out)
  replace HP1 := Aside0.mk (show w1.drew.heap[w.heap.size]? = _ from HP1.out)
  have hg1 := blk_below HG0.out HB1.out
  have e1 : w1.drew.cell? ⟨g, 1, none⟩ = some (.slice A es.length c) := (blk_cell hg1 1).trans rfl
  have p0 : w1.drew.cell? ⟨w.heap.size, 0, none⟩ = some (.int .i64 xa) := (blk_cell HP1.out 0).trans rfl
  have p1 : w1.drew.cell? ⟨w.heap.size, 1, none⟩ = some (.int .i64 xb) := (blk_cell HP1.out 1).trans rfl
  have p2 : w1.drew.cell? ⟨w.heap.size, 2, none⟩ = some (.int .i64 xc) := (blk_cell HP1.out 2).trans rfl
  have p3 : w1.drew.cell? ⟨w.heap.size, 3, none⟩ = some (.int .i64 xd) := (blk_cell HP1.out 3).trans rfl
  clear hg1
  refine start_ (n := 7) (S := fun w' => w'.cell? ⟨g, 1, none⟩ = some (.slice A es.length c) ∧ w'.cell? ⟨w.heap.size, 0, none⟩ = some (.int .i64 xa) ∧ w'.cell? ⟨w.heap.size, 1, none⟩ = some (.int .i64 xb) ∧ w'.cell? ⟨w.heap.size, 2, none⟩ = some (.int .i64 xc) ∧ w'.cell? ⟨w.heap.size, 3, none⟩ = some (.int .i64 xd)) (ds := []) #[false, false, false, false, false, false, false] (by kernel_rfl) rfl rfl ⟨e1, p0, p1, p2, p3⟩ (fun hHeld => ?_)
  refine pure_ (i := 0) (N := some 33) (v := ?_) (a' := ?_) #[true, false, false, false, false, false, false] rfl rfl (by kernel_rfl) (fun _ _ _ h => h) (Or.inl ⟨by rfl, ?_⟩) ?_ ?_
  rotate_left
  · intro w'
    go_simp
    with_reducible rfl
  rotate_left
  · simp only [Act.put, List.setIfInBounds_toArray, List.set_cons_zero, List.set_cons_succ, i64_w, i32_w]
    rfl
  refine pure_ (i := 1) (N := some 34) (v := ?_) (a' := ?_) #[true, true, false, false, false, false, false] rfl rfl (by kernel_rfl) (fun _ _ _ h => h) (Or.inl ⟨by rfl, ?_⟩) ?_ ?_
  rotate_left
  · intro w'
    go_simp
    with_reducible rfl
  rotate_left
  · simp only [Act.put, List.setIfInBounds_toArray, List.set_cons_zero, List.set_cons_succ, i64_w, i32_w]
    rfl
  refine pure_ (i := 2) (N := some 35) (v := ?_) (a' := ?_) #[true, true, true, false, false, false, false] rfl rfl (by kernel_rfl) (fun _ _ _ h => h) (Or.inl ⟨by rfl, ?_⟩) ?_ ?_
  rotate_left
  · intro w'
    go_simp
    with_reducible rfl
  rotate_left
  · simp only [Act.put, List.setIfInBounds_toArray, List.set_cons_zero, List.set_cons_succ, i64_w, i32_w]
    rfl
  refine take_ (i := 3) (N := some 36) (v := ?_) (a' := ?_) #[true, true, true, true, false, false, false] rfl rfl (by kernel_rfl) (fun _ _ _ h => h) (Or.inl ⟨by rfl, ?_⟩) hHeld ?_ ?_
  rotate_left
  · rintro w' ⟨s0, s1, s2, s3, s4⟩
    go_simp
    with_reducible rfl
  rotate_left
  · simp only [Act.put, List.setIfInBounds_toArray, List.set_cons_zero, List.set_cons_succ, i64_w, i32_w]
    rfl
  refine take_ (i := 4) (N := some 37) (v := ?_) (a' := ?_) #[true, true, true, true, true, false, false] rfl rfl (by kernel_rfl) (fun _ _ _ h => h) (Or.inl ⟨by rfl, ?_⟩) hHeld ?_ ?_
  rotate_left
  · rintro w' ⟨s0, s1, s2, s3, s4⟩
    go_simp
    with_reducible rfl
  rotate_left
  · simp only [Act.put, List.setIfInBounds_toArray, List.set_cons_zero, List.set_cons_succ, i64_w, i32_w]
    rfl
  refine one_ (i := 5) (N := some 38) #[true, true, true, true, true, true, false] rfl rfl (by kernel_rfl) (by decide) (fun K hK => ?_)
  refine goes_ (f := 24) Try.func24 (by kernel_rfl) rfl #[.slice A es.length c, .agg #[.int .i64 xa, .int .i64 xb, .int .i64 xc, .int .i64 xd]] (by rfl) rfl rfl (by simp [Act.eval]) ?_
  refine (contains_is es ⟨xa, xb, xc, xd⟩ false A c _ (Kd.C_below HC.out HB1.out) HCL.out HL.out HT.out).mono ?_
  rintro e w' ⟨rfl, hb2⟩
  refine ⟨_, rfl, ?_⟩
  have HB2 := Aside0.mk (below_then HB1.out HB1.out.size hb2)
  have HP2 := Aside0.mk (blk_below HP1.out hb2)
  clear hb2 HB1 HP1
  have hg2 := blk_below HG0.out HB2.out
  refine hK.out _ _ ⟨(blk_cell hg2 1).trans rfl, (blk_cell HP2.out 0).trans rfl, (blk_cell HP2.out 1).trans rfl, (blk_cell HP2.out 2).trans rfl, (blk_cell HP2.out 3).trans rfl⟩ (fun hHeld => ?_)
  clear hK K hg2 e1 p0 p1 p2 p3
  refine pure_ (i := 6) (N := some 32) (v := ?_) (a' := ?_) #[true, true, true, true, true, true, true] rfl rfl (by kernel_rfl) (fun _ _ _ h => h) (Or.inl ⟨by rfl, ?_⟩) ?_ ?_
  rotate_left
  · intro w'
    go_simp
    with_reducible rfl
  rotate_left
  · simp only [Act.put, List.setIfInBounds_toArray, List.set_cons_zero, List.set_cons_succ, i64_w, i32_w]
    rfl
  refine done_ (by kernel_rfl) ?_
  have hl16 : (((es.length : Nat) : Int) == 16384) = false := by have := HL2.out; simp; omega
  have e1 := hHeld.1
  clear hHeld
  go_wp2
  clear hl16 e1
  replace HB2 := Aside0.mk (below_drew1 HB2.out)
  replace HP2 := Aside0.mk (show w'.drew.heap[w.heap.size]? = _ from HP2.out)
  obtain ⟨w7, hw7⟩ : ∃ w7 : World, w7 = w'.drew := ⟨_, rfl⟩
  rw [← hw7] at HB2 HP2
  have HP7 := HP2
  have HG7 := Aside0.mk (blk_below HG0.out HB2.out)
  have HR7 := Aside0.mk (Kd.R_mono (Kd.R_below HR0.out HB2.out) (fun k hk => (Or.inl hk : ok k ∨ w.heap.size ≤ k)))
  obtain ⟨hM7, hbb7⟩ := groups_typed HM0.out (fun j _ hj => HB2.out.block j hj)
  have HS7 := Aside0.mk (show w7.Shuns b (fun k => ¬ (ok k ∨ w.heap.size ≤ k)) from fun es1 clock1 hb1 y hy k hk hno => shuns_move HS0.out hbb7 es1 clock1 hb1 y hy k hk (fun h => hno (.inl h)))
  have hwa : (Lit.int .i64 xa).wf = true := by have h1 := HX.out; have h2 := HN.out; exact WalkArith.wf_i64 (by omega)
  obtain ⟨es0, clock0, u, zs, hE7, hlk, hat, hU7, hZ7, hbk, hsu, hsb⟩ := gr_look hM7 (by have := HL.out; simp only [maxLen]; omega) hwa
  have HZE := Aside0.mk (HD.out.at_ hat hU7)
  have HE7 := Aside0.mk hE7; have HU7 := Aside0.mk hU7; have HZ7 := Aside0.mk hZ7; have HBK := Aside0.mk hbk; have HSU := Aside0.mk hsu; have HSB := Aside0.mk hsb
  clear hM7 hbb7 hE7 hU7 hZ7 hbk hsu hsb hat hwa
  have f1 : w7.cell? ⟨g, 1, none⟩ = some (.slice A es.length c) := (blk_cell HG7.out 1).trans rfl
  have f2 : w7.cell? ⟨g, 2, none⟩ = some (.map (some b)) := (blk_cell HG7.out 2).trans rfl
  have f3 : w7.cell? ⟨w.heap.size, 0, none⟩ = some (.int .i64 xa) := (blk_cell HP7.out 0).trans rfl
  refine start_ (n := 21) (S := fun w' => w'.cell? ⟨g, 1, none⟩ = some (.slice A es.length c) ∧ w'.cell? ⟨g, 2, none⟩ = some (.map (some b)) ∧ w'.cell? ⟨w.heap.size, 0, none⟩ = some (.int .i64 xa) ∧ w'.heap[b]? = some (.map es0 clock0)) (ds := [20]) #[false, false, false, false, false, false, false, false, false, false, false, false, false, false, false, false, false, false, false, false, false] (by kernel_rfl) rfl rfl (by rw [← hw7]; exact ⟨f1, f2, f3, HE7.out⟩) (fun hHeld => ?_)
  rw [← hw7] at hHeld ⊢; clear hw7 f1 f2 f3
  refine pure_ (i := 0) (N := some 46) (v := ?_) (a' := ?_) #[true, false, false, false, false, false, false, false, false, false, false, false, false, false, false, false, false, false, false, false, false] rfl rfl (by kernel_rfl) (fun _ _ _ h => h) (Or.inl ⟨by rfl, ?_⟩) ?_ ?_
  rotate_left
  · intro w'
    go_simp
    with_reducible rfl
  rotate_left
  · simp only [Act.put, List.setIfInBounds_toArray, List.set_cons_zero, List.set_cons_succ, i64_w, i32_w]
    rfl
  refine pure_ (i := 1) (N := some 47) (v := ?_) (a' := ?_) #[true, true, false, false, false, false, false, false, false, false, false, false, false, false, false, false, false, false, false, false, false] rfl rfl (by kernel_rfl) (fun _ _ _ h => h) (Or.inl ⟨by rfl, ?_⟩) ?_ ?_
  rotate_left
  · intro w'
    go_simp
    with_reducible rfl
  rotate_left
  · simp only [Act.put, List.setIfInBounds_toArray, List.set_cons_zero, List.set_cons_succ, i64_w, i32_w]
    rfl
  refine pure_ (i := 2) (N := some 48) (v := ?_) (a' := ?_) #[true, true, true, false, false, false, false, false, false, false, false, false, false, false, false, false, false, false, false, false, false] rfl rfl (by kernel_rfl) (fun _ _ _ h => h) (Or.inl ⟨by rfl, ?_⟩) ?_ ?_
  rotate_left
  · intro w'
    go_simp
    with_reducible rfl
  rotate_left
  · simp only [Act.put, List.setIfInBounds_toArray, List.set_cons_zero, List.set_cons_succ, i64_w, i32_w]
    rfl
  refine take_ (i := 3) (N := some 49) (v := ?_) (a' := ?_) #[true, true, true, true, false, false, false, false, false, false, false, false, false, false, false, false, false, false, false, false, false] rfl rfl (by kernel_rfl) (fun _ _ _ h => h) (Or.inl ⟨by rfl, ?_⟩) hHeld ?_ ?_
  rotate_left
  · rintro w' ⟨s0, s1, s2, s3⟩
    go_simp
    with_reducible rfl
  rotate_left
  · simp only [Act.put, List.setIfInBounds_toArray, List.set_cons_zero, List.set_cons_succ, i64_w, i32_w]
    rfl
  refine pure_ (i := 4) (N := some 50) (v := ?_) (a' := ?_) #[true, true, true, true, true, false, false, false, false, false, false, false, false, false, false, false, false, false, false, false, false] rfl rfl (by kernel_rfl) (fun _ _ _ h => h) (Or.inl ⟨by rfl, ?_⟩) ?_ ?_
  rotate_left
  · intro w'
    go_simp
    with_reducible rfl
  rotate_left
  · simp only [Act.put, List.setIfInBounds_toArray, List.set_cons_zero, List.set_cons_succ, i64_w, i32_w]
    rfl
  refine take_ (i := 5) (N := some 51) (v := ?_) (a' := ?_) #[true, true, true, true, true, true, false, false, false, false, false, false, false, false, false, false, false, false, false, false, false] rfl rfl (by kernel_rfl) (fun _ _ _ h => h) (Or.inl ⟨by rfl, ?_⟩) hHeld ?_ ?_
  rotate_left
  · rintro w' ⟨s0, s1, s2, s3⟩
    go_simp
    with_reducible rfl
  rotate_left
  · simp only [Act.put, List.setIfInBounds_toArray, List.set_cons_zero, List.set_cons_succ, i64_w, i32_w]
    rfl
  refine pure_ (i := 6) (N := some 52) (v := ?_) (a' := ?_) #[true, true, true, true, true, true, true, false, false, false, false, false, false, false, false, false, false, false, false, false, false] rfl rfl (by kernel_rfl) (fun _ _ _ h => h) (Or.inl ⟨by rfl, ?_⟩) ?_ ?_
  rotate_left
  · intro w'
    go_simp
    with_reducible rfl
  rotate_left
  · simp only [Act.put, List.setIfInBounds_toArray, List.set_cons_zero, List.set_cons_succ, i64_w, i32_w]
    rfl
  refine pure_ (i := 7) (N := some 53) (v := ?_) (a' := ?_) #[true, true, true, true, true, true, true, true, false, false, false, false, false, false, false, false, false, false, false, false, false] rfl rfl (by kernel_rfl) (fun _ _ _ h => h) (Or.inl ⟨by rfl, ?_⟩) ?_ ?_
  rotate_left
  · intro w'
    go_simp
    with_reducible rfl
  rotate_left
  · simp only [Act.put, List.setIfInBounds_toArray, List.set_cons_zero, List.set_cons_succ, i64_w, i32_w]
    rfl
  refine pure_ (i := 8) (N := some 54) (v := ?_) (a' := ?_) #[true, true, true, true, true, true, true, true, true, false, false, false, false, false, false, false, false, false, false, false, false] rfl rfl (by kernel_rfl) (fun _ _ _ h => h) (Or.inl ⟨by rfl, ?_⟩) ?_ ?_
  rotate_left
  · intro w'
    go_simp
    with_reducible rfl
  rotate_left
  · simp only [Act.put, List.setIfInBounds_toArray, List.set_cons_zero, List.set_cons_succ, i64_w, i32_w]
    rfl
  refine take_ (i := 9) (N := some 55) (v := ?_) (a' := ?_) #[true, true, true, true, true, true, true, true, true, true, false, false, false, false, false, false, false, false, false, false, false] rfl rfl (by kernel_rfl) (fun _ _ _ h => h) (Or.inl ⟨by rfl, ?_⟩) hHeld ?_ ?_
  rotate_left
  · rintro w' ⟨s0, s1, s2, s3⟩
    go_simp
    with_reducible rfl
  rotate_left
  · simp only [Act.put, List.setIfInBounds_toArray, List.set_cons_zero, List.set_cons_succ, i64_w, i32_w]
    rfl
  refine pure_ (i := 10) (N := some 56) (v := ?_) (a' := ?_) #[true, true, true, true, true, true, true, true, true, true, true, false, false, false, false, false, false, false, false, false, false] rfl rfl (by kernel_rfl) (fun _ _ _ h => h) (Or.inl ⟨by rfl, ?_⟩) ?_ ?_
  rotate_left
  · intro w'
    go_simp
    with_reducible rfl
  rotate_left
  · simp only [Act.put, List.setIfInBounds_toArray, List.set_cons_zero, List.set_cons_succ, i64_w, i32_w]
    rfl
  refine take_ (i := 11) (N := some 57) (v := ?_) (a' := ?_) #[true, true, true, true, true, true, true, true, true, true, true, true, false, false, false, false, false, false, false, false, false] rfl rfl (by kernel_rfl) (fun _ _ _ h => h) (Or.inl ⟨by rfl, ?_⟩) hHeld ?_ ?_
  rotate_left
  · rintro w' ⟨s0, s1, s2, s3⟩
    go_simp
    with_reducible rfl
  rotate_left
  · simp only [Act.put, List.setIfInBounds_toArray, List.set_cons_zero, List.set_cons_succ, i64_w, i32_w]
    rfl
  refine take_ (i := 12) (N := some 58) (v := ?_) (a' := ?_) #[true, true, true, true, true, true, true, true, true, true, true, true, true, false, false, false, false, false, false, false, false] rfl rfl (by kernel_rfl) (fun _ _ _ h => h) (Or.inl ⟨by rfl, ?_⟩) hHeld ?_ ?_
  rotate_left
  · rintro w' ⟨s0, s1, s2, s3⟩
    go_simp
    with_reducible rfl
  rotate_left
  · simp only [Act.put, List.setIfInBounds_toArray, List.set_cons_zero, List.set_cons_succ, i64_w, i32_w]
    rfl
  refine pure_ (i := 13) (N := some 59) (v := ?_) (a' := ?_) #[true, true, true, true, true, true, true, true, true, true, true, true, true, true, false, false, false, false, false, false, false] rfl rfl (by kernel_rfl) (fun _ _ _ h => h) (Or.inl ⟨by rfl, ?_⟩) ?_ ?_
  rotate_left
  · intro w'
    go_simp
    with_reducible rfl
  rotate_left
  · simp only [Act.put, List.setIfInBounds_toArray, List.set_cons_zero, List.set_cons_succ, i64_w, i32_w]
    rfl
  refine pure_ (i := 14) (N := some 60) (v := ?_) (a' := ?_) #[true, true, true, true, true, true, true, true, true, true, true, true, true, true, true, false, false, false, false, false, false] rfl rfl (by kernel_rfl) (fun _ _ _ h => h) (Or.inl ⟨by rfl, ?_⟩) ?_ ?_
  rotate_left
  · intro w'
    go_simp
    with_reducible rfl
  rotate_left
  · simp only [Act.put, List.setIfInBounds_toArray, List.set_cons_zero, List.set_cons_succ, i64_w, i32_w]
    rfl
  refine pure_ (i := 15) (N := some 61) (v := ?_) (a' := ?_) #[true, true, true, true, true, true, true, true, true, true, true, true, true, true, true, true, false, false, false, false, false] rfl rfl (by kernel_rfl) (fun _ _ _ h => h) (Or.inl ⟨by rfl, ?_⟩) ?_ ?_
  rotate_left
  · intro w'
    go_simp
    with_reducible rfl
  rotate_left
  · simp only [Act.put, List.setIfInBounds_toArray, List.set_cons_zero, List.set_cons_succ, i64_w, i32_w]
    rfl
  refine take_ (i := 16) (N := some 62) (v := ?_) (a' := ?_) #[true, true, true, true, true, true, true, true, true, true, true, true, true, true, true, true, true, false, false, false, false] rfl rfl (by kernel_rfl) (fun _ _ _ h => h) (Or.inl ⟨by rfl, ?_⟩) hHeld ?_ ?_
  rotate_left
  · rintro w' ⟨s0, s1, s2, s3⟩
    go_simp
    with_reducible rfl
  rotate_left
  · simp only [Act.put, List.setIfInBounds_toArray, List.set_cons_zero, List.set_cons_succ, i64_w, i32_w]
    rfl
  refine pure_ (i := 17) (N := some 63) (v := ?_) (a' := ?_) #[true, true, true, true, true, true, true, true, true, true, true, true, true, true, true, true, true, true, false, false, false] rfl rfl (by kernel_rfl) (fun _ _ _ h => h) (Or.inl ⟨by rfl, ?_⟩) ?_ ?_
  rotate_left
  · intro w'
    go_simp
    with_reducible rfl
  rotate_left
  · simp only [Act.put, List.setIfInBounds_toArray, List.set_cons_zero, List.set_cons_succ, i64_w, i32_w]
    rfl
  refine one_ (i := 18) (N := some 64) #[true, true, true, true, true, true, true, true, true, true, true, true, true, true, true, true, true, true, true, false, false] rfl rfl (by kernel_rfl) (by decide) (fun K hK => ?_)
  refine value_ (v := .slice (some ⟨w7.heap.size, 0, none⟩) 1 1) (w1 := w7.alloc (.cells #[.int .i64 (es.length : Int)] 3)) (by rfl) rfl (by go_simp) ?_
  refine hK.out _ _ ⟨(blk_cell (blk_alloc HG7.out _) 1).trans rfl, (blk_cell (blk_alloc HG7.out _) 2).trans rfl, (blk_cell (blk_alloc HP7.out _) 0).trans rfl, blk_alloc HE7.out _⟩ (fun hHeld => ?_)
  clear hK K
  refine one_ (i := 19) (N := some 65) #[true, true, true, true, true, true, true, true, true, true, true, true, true, true, true, true, true, true, true, true, false] rfl rfl (by kernel_rfl) (by decide) (fun K hK => ?_)
  refine step_append_cells (w0 := w7) (b + 1) (by rfl) _ _ 43 3 (.int .i64 0) 1 8 rfl Try.underlying43 info3 rfl (by decide) (by decide) u zs.length (zs.map (Value.int .i64)) [.int .i64 (es.length : Int)] rfl rfl rfl (by simp [Value.oneCell']) HU7.out.1 (Below.refl _ _) (by have := blk_lt HE7.out; omega) (by have h1 := HZ7.out; have h2 := HL.out; omega) ?_
  intro u1 w9 hu9 hb9 hg9 hat9
  have hu9' : w9.ownsInts (b + 1) 3 .i64 u1 (zs ++ [(es.length : Int)]) := HU7.out.appended hu9 (by have h2 := HL.out; exact WalkArith.wf_i64 (by omega))
  have HG9 := Aside0.mk (blk_grown HG7.out hg9 (own_ne HU7.out.1 HG7.out (by decide)))
  have HP9 := Aside0.mk (blk_grown HP7.out hg9 (own_ne HU7.out.1 HP7.out (by decide)))
  have HE9 := Aside0.mk (show w9.heap[b]? = some (.map es0 clock0) from (hg9.block b (blk_lt HE7.out) (fun he => by obtain ⟨cells, hc⟩ := own_typed HU7.out.1 b he.symm; rw [HE7.out] at hc; cases hc)).trans HE7.out)
  have HR9 := Aside0.mk (R29_grown HR7.out hg9 (fun k cs he hc => by obtain ⟨cells, hc'⟩ := own_typed HU7.out.1 k he; rw [hc] at hc'; cases hc'))
  obtain ⟨w10, hr10, hG10, hgr10⟩ := HBK.out w9 u1 (zs ++ [(es.length : Int)]) hg9 hu9' (by simp; have := HZ7.out; omega) hat9
  have hS10 := HSB.out _ HS7.out w9 w10 u1 (HE9.out.trans HE7.out.symm) (fun k hk hno => by rcases hat9 with h1 | ⟨g1, h1, h2⟩; exact HSU.out _ HS7.out k (h1 ▸ hk) hno; (rw [h1] at hk; injection hk with hk; exact hno (.inr (by have := HB2.out.size; omega)))) hr10
  have HG10 := Aside0.mk (blk_grown HG9.out hgr10 (by intro he; injection he with he; subst he; have h1 := HG9.out; rw [HE9.out] at h1; cases h1))
  have HP10 := Aside0.mk (blk_grown HP9.out hgr10 (by intro he; injection he with he; rw [he] at HP9; have h1 := HP9.out; rw [HE9.out] at h1; cases h1))
  have HR10 := Aside0.mk (R29_grown HR9.out hgr10 (fun k cs he hc => by injection he with he; subst he; rw [HE9.out] at hc; cases hc))
  have HO10 := Aside0.mk (And.intro hG10 hS10)
  have HB10 := Aside0.mk ((((below_then HB0.out HLE.out HB2.out).grown hg9 (by have := HB2.out.size; have := HLE.out; omega) (fun k hk => by have := (HU7.out.1.lt k hk).1; have := HBG.out.2; omega)).grown hgr10 (by have := HB2.out.size; have := HLE.out; have := hg9.size; omega) (fun k hk => by injection hk with hk; subst hk; exact HBG.out.2)))
  have HK10 := Aside0.mk (show Kept w w10 ok from Kept.of_grown hgr10 (Kept.of_grown hg9 (Kept.of_below HB2.out ok) (fun k hk => by have h1 := HSU.out _ HS7.out k hk; exact Classical.not_not.1 h1)) (fun k hk => by injection hk with hk; subst hk; exact .inl HOK.out.2))
  have HW10 := Aside0.mk (show w.heap.size ≤ w10.heap.size by have := HB2.out.size; have := hg9.size; have := hgr10.size; omega)
  have HRU := Aside0.mk (HD.out.put ⟨xa, xb, xc, xd⟩ (HZE.out ▸ hu9'))
  rw [HZE.out] at HO10
  clear hG10 hS10 hgr10 hat9 hb9 hg9 hu9 hu9'
  refine hK.out _ _ ⟨(blk_cell HG9.out 1).trans rfl, (blk_cell HG9.out 2).trans rfl, (blk_cell HP9.out 0).trans rfl, HE9.out⟩ (fun hHeld => ?_)
  clear hK K
  refine last_ (i := 20) (N := none) #[true, true, true, true, true, true, true, true, true, true, true, true, true, true, true, true, true, true, true, true, true] rfl rfl (by kernel_rfl) (by decide) (fun K hK => ?_)
  refine skip_ (w1 := w10) (by rfl) rfl (by go_simp) ?_
  refine hK.out _ _ ?_
  clear hK K hr10 hHeld HG9 HP9 HR9 HE9 HG7 HP7 HR7 HE7 HU7 HBK HSU HSB HS7
  refine done_ (by kernel_rfl) ?_
  clear hlk
  go_wp2
  replace HG10 := Aside0.mk (show w10.drew.heap[g]? = _ from HG10.out)
  replace HP10 := Aside0.mk (show w10.drew.heap[w.heap.size]? = _ from HP10.out)
  replace HR10 := Aside0.mk (Kd.R_drew HR10.out)
  replace HO10 := Aside0.mk (And.intro (groups_move HO10.out.1 (w' := w10.drew) rfl (fun _ _ _ _ _ _ _ => rfl)) (shuns_move HO10.out.2 (w' := w10.drew) rfl))
  replace HB10 := Aside0.mk (below_drew1 HB10.out)
  replace HK10 := Aside0.mk (Kept.drew HK10.out)
  replace HW10 := Aside0.mk (show w.heap.size ≤ w10.drew.heap.size from HW10.out)
  obtain ⟨w11, hw11⟩ : ∃ w11 : World, w11 = w10.drew := ⟨_, rfl⟩
  rw [← hw11] at HG10 HP10 HR10 HO10 HB10 HK10 HW10
  refine start_ (n := 11) (S := fun w' => w'.cell? ⟨g, 1, none⟩ = some (.slice A es.length c) ∧ w'.cell? ⟨w.heap.size, 0, none⟩ = some (.int .i64 xa) ∧ w'.cell? ⟨w.heap.size, 1, none⟩ = some (.int .i64 xb) ∧ w'.cell? ⟨w.heap.size, 2, none⟩ = some (.int .i64 xc) ∧ w'.cell? ⟨w.heap.size, 3, none⟩ = some (.int .i64 xd)) (ds := [7, 10]) #[false, false, false, false, false, false, false, false, false, false, false] (by kernel_rfl) rfl rfl (by rw [← hw11]; exact ⟨(blk_cell HG10.out 1).trans rfl, (blk_cell HP10.out 0).trans rfl, (blk_cell HP10.out 1).trans rfl, (blk_cell HP10.out 2).trans rfl, (blk_cell HP10.out 3).trans rfl⟩) (fun hHeld => ?_)
  rw [← hw11] at hHeld ⊢; clear hw11
  refine pure_ (i := 0) (N := some 66) (v := ?_) (a' := ?_) #[true, false, false, false, false, false, false, false, false, false, false] rfl rfl (by kernel_rfl) (fun _ _ _ h => h) (Or.inl ⟨by rfl, ?_⟩) ?_ ?_
  rotate_left
  · intro w'
    go_simp
    with_reducible rfl
  rotate_left
  · simp only [Act.put, List.setIfInBounds_toArray, List.set_cons_zero, List.set_cons_succ, i64_w, i32_w]
    rfl
  refine pure_ (i := 1) (N := some 67) (v := ?_) (a' := ?_) #[true, true, false, false, false, false, false, false, false, false, false] rfl rfl (by kernel_rfl) (fun _ _ _ h => h) (Or.inl ⟨by rfl, ?_⟩) ?_ ?_
  rotate_left
  · intro w'
    go_simp
    with_reducible rfl
  rotate_left
  · simp only [Act.put, List.setIfInBounds_toArray, List.set_cons_zero, List.set_cons_succ, i64_w, i32_w]
    rfl
  refine pure_ (i := 2) (N := some 68) (v := ?_) (a' := ?_) #[true, true, true, false, false, false, false, false, false, false, false] rfl rfl (by kernel_rfl) (fun _ _ _ h => h) (Or.inl ⟨by rfl, ?_⟩) ?_ ?_
  rotate_left
  · intro w'
    go_simp
    with_reducible rfl
  rotate_left
  · simp only [Act.put, List.setIfInBounds_toArray, List.set_cons_zero, List.set_cons_succ, i64_w, i32_w]
    rfl
  refine pure_ (i := 3) (N := some 69) (v := ?_) (a' := ?_) #[true, true, true, true, false, false, false, false, false, false, false] rfl rfl (by kernel_rfl) (fun _ _ _ h => h) (Or.inl ⟨by rfl, ?_⟩) ?_ ?_
  rotate_left
  · intro w'
    go_simp
    with_reducible rfl
  rotate_left
  · simp only [Act.put, List.setIfInBounds_toArray, List.set_cons_zero, List.set_cons_succ, i64_w, i32_w]
    rfl
  refine take_ (i := 4) (N := some 70) (v := ?_) (a' := ?_) #[true, true, true, true, true, false, false, false, false, false, false] rfl rfl (by kernel_rfl) (fun _ _ _ h => h) (Or.inl ⟨by rfl, ?_⟩) hHeld ?_ ?_
  rotate_left
  · rintro w' ⟨s0, s1, s2, s3, s4⟩
    go_simp
    with_reducible rfl
  rotate_left
  · simp only [Act.put, List.setIfInBounds_toArray, List.set_cons_zero, List.set_cons_succ, i64_w, i32_w]
    rfl
  refine take_ (i := 5) (N := some 71) (v := ?_) (a' := ?_) #[true, true, true, true, true, true, false, false, false, false, false] rfl rfl (by kernel_rfl) (fun _ _ _ h => h) (Or.inl ⟨by rfl, ?_⟩) hHeld ?_ ?_
  rotate_left
  · rintro w' ⟨s0, s1, s2, s3, s4⟩
    go_simp
    with_reducible rfl
  rotate_left
  · simp only [Act.put, List.setIfInBounds_toArray, List.set_cons_zero, List.set_cons_succ, i64_w, i32_w]
    rfl
  refine one_ (i := 6) (N := some 72) #[true, true, true, true, true, true, true, false, false, false, false] rfl rfl (by kernel_rfl) (by decide) (fun K hK => ?_)
  refine value_ (v := .slice (some ⟨w11.heap.size, 0, none⟩) 1 1) (w1 := w11.alloc (.cells #[.int .i64 xa, .int .i64 xb, .int .i64 xc, .int .i64 xd] 29)) (by rfl) rfl (by go_simp) ?_
  refine hK.out _ _ ⟨(blk_cell (blk_alloc HG10.out _) 1).trans rfl, (blk_cell (blk_alloc HP10.out _) 0).trans rfl, (blk_cell (blk_alloc HP10.out _) 1).trans rfl, (blk_cell (blk_alloc HP10.out _) 2).trans rfl, (blk_cell (blk_alloc HP10.out _) 3).trans rfl⟩ (fun hHeld => ?_)
  clear hK K
  refine last_ (i := 7) (N := some 73) #[true, true, true, true, true, true, true, true, false, false, false] rfl rfl (by kernel_rfl) (by decide) (fun K hK => ?_)
  refine Kd.R_append_step k29 (w0 := w0) base (by rfl) _ _ 22 29 (.agg #[.int .i64 0, .int .i64 0, .int .i64 0, .int .i64 0]) 32 rfl Try.underlying22 info29 rfl (by decide) (by decide) (.slice A es.length c) es ⟨xa, xb, xc, xd⟩ [.int .i64 xa, .int .i64 xb, .int .i64 xc, .int .i64 xd] (fun k => ok k ∨ w.heap.size ≤ k) (fun _ => False) rfl rfl (k29_mkM _ _ _ ⟨xa, xb, xc, xd⟩) (fun _ h => h.elim) (fun k hk => .inr (by have := HW10.out; omega)) HR10.out HB10.out (by have := HW10.out; have := HLE.out; omega) (by have := HL.out; omega) ?_
  intro v2 w12 hR12 hB12 hg12 hat12
  obtain ⟨A2, l2, c2, rfl⟩ : ∃ A2 l2 c2, v2 = .slice A2 l2 c2 := by obtain ⟨A2, c2, h⟩ := Kd.R_slice hR12; exact ⟨A2, _, c2, h⟩
  have hg12' := blk_grown HG10.out hg12 (Kd.R_ne HR10.out HG10.out (by decide))
  have hp12 : w12.cell? ⟨w.heap.size, 0, none⟩ = w12.cell? ⟨w.heap.size, 0, none⟩ := rfl
  have HC12 := Aside0.mk (show w12.cell? ⟨g, 1, none⟩ = some (.slice A es.length c) from (blk_cell hg12' 1).trans rfl)
  have HF12 := Aside0.mk (blk_frozen hg12' 1)
  have HDN := Aside0.mk (add_done HG10.out HO10.out.1 HO10.out.2 HR10.out hg12 hR12 (by simp) HRU.out (.inl HOK.out.1) (.inl HOK.out.2) HBG.out.1 HBG.out.2)
  have HB13 := Aside0.mk (hB12.setCell (p := ⟨g, 1, none⟩) HBG.out.1 (.slice A2 l2 c2))
  have HK13 := Aside0.mk (Kept.setCell (Kept.of_grown hg12 HK10.out (fun k hk => by have := (Kd.R_bound HR10.out).1 k hk; exact this.1)) (p := ⟨g, 1, none⟩) (.inl HOK.out.1) (.slice A2 l2 c2))
  clear hg12' hp12 hR12 hB12 hat12
  refine hK.out _ _ ?_
  clear hK K
  refine pure_ (i := 8) (N := some 74) (v := ?_) (a' := ?_) #[true, true, true, true, true, true, true, true, true, false, false] rfl rfl (by kernel_rfl) (fun _ _ _ h => h) (Or.inl ⟨by rfl, ?_⟩) ?_ ?_
  rotate_left
  · intro w'
    go_simp
    with_reducible rfl
  rotate_left
  · simp only [Act.put, List.setIfInBounds_toArray, List.set_cons_zero, List.set_cons_succ, i64_w, i32_w]
    rfl
  refine pure_ (i := 9) (N := some 75) (v := ?_) (a' := ?_) #[true, true, true, true, true, true, true, true, true, true, false] rfl rfl (by kernel_rfl) (fun _ _ _ h => h) (Or.inl ⟨by rfl, ?_⟩) ?_ ?_
  rotate_left
  · intro w'
    go_simp
    with_reducible rfl
  rotate_left
  · simp only [Act.put, List.setIfInBounds_toArray, List.set_cons_zero, List.set_cons_succ, i64_w, i32_w]
    rfl
  refine last_ (i := 10) (N := none) #[true, true, true, true, true, true, true, true, true, true, true] rfl rfl (by kernel_rfl) (by decide) (fun K hK => ?_)
  have c12 := HC12.out
  have f12 := HF12.out
  refine skip_ (w1 := w12.setCell ⟨g, 1, none⟩ (.slice A2 l2 c2)) (by rfl) rfl (by go_simp) ?_
  refine hK.out _ _ ?_
  clear hK K c12 f12
  refine done_ (by kernel_rfl) ?_
  go_wp2
  go_ret
  exact ⟨rfl, HDN.out, HB13.out, HK13.out⟩
end Go.Proofs.Ytlkmkoajfdmbeaa.PGraphWithout
