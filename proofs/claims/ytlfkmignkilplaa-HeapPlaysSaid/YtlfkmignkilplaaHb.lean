/- Load, Len, Class, Elem: what they answer. No condition but that the heap is one. -/
import Derived.Test.YtlfkmignkilplaaHa
namespace Go.Proofs.Ytlfkmignkilplaa.PHeapPlays
open Go.RowKit Go.Proofs.YtlfkmignkilplaaW.PrintWords Go.Proofs.YtlfkmignkilplaaW.PrintLast Go.Proofs.YtlfkmignkilplaaW.PrintMore
set_option linter.unusedVariables false
set_option linter.unusedSimpArgs false

/-- A value's cells. -/
def cs32 (x : S32) : Array Value := #[.int .i64 x.f0, .int .i64 x.f1, .string x.f2]
theorem Hp.head {w : World} {base : Nat} {ok : Nat → Prop} {g : Nat} {xs : List S67} (h : Hp w base ok g xs) : ∃ A c, w.heap[g]? = some (.cells #[.slice A xs.length c, .int .i64 (tot xs : Nat)] 26 (0, 0)) ∧ xs.length ≤ c := by
  obtain ⟨v, hg, okg, bg, hS⟩ := h
  obtain ⟨A, c, rfl, hl, _⟩ := Kd.S_reads hS
  exact ⟨A, c, hg, hl⟩
theorem Hp.at_ {w : World} {base : Nat} {ok : Nat → Prop} {g : Nat} {xs : List S67} (h : Hp w base ok g xs) (i : Int) (h0 : 0 ≤ i) (h1 : i < xs.length) : ∃ b c A6 c6, w.heap[g]? = some (.cells #[.slice (some ⟨b, 0, none⟩) xs.length c, .int .i64 (tot xs : Nat)] 26 (0, 0)) ∧ xs.length ≤ c ∧
    w.cell? ⟨b, i.toNat * 7, none⟩ = some (.string (rd_T67 xs i).f0) ∧ w.cell? ⟨b, i.toNat * 7 + 1, none⟩ = some (.int .i64 (rd_T67 xs i).f1.f0) ∧ w.cell? ⟨b, i.toNat * 7 + 2, none⟩ = some (.string (rd_T67 xs i).f1.f1) ∧ w.cell? ⟨b, i.toNat * 7 + 3, none⟩ = some (.int .i64 (rd_T67 xs i).f1.f2) ∧ w.cell? ⟨b, i.toNat * 7 + 4, none⟩ = some (.string (rd_T67 xs i).f1.f3) ∧
    w.cell? ⟨b, i.toNat * 7 + 5, none⟩ = some (.bool (rd_T67 xs i).f2) ∧ w.cell? ⟨b, i.toNat * 7 + 6, none⟩ = some (.slice A6 (rd_T67 xs i).f3.length c6) ∧ (rd_T67 xs i).f3.length ≤ c6 ∧ k32.C w A6 (rd_T67 xs i).f3.length (rd_T67 xs i).f3 := by
  obtain ⟨v, hg, okg, bg, hS⟩ := h
  obtain ⟨b, c, rfl, _, _, _⟩ := Kd.S_form hS (by omega)
  obtain ⟨_, hl, hC⟩ := Kd.S_reads' hS
  obtain ⟨ad, A6, c6, had, x0, x1, x2, x3, x4, x5, x6, x7, x8⟩ := at_T67 hC i h0 h1
  injection had with had
  subst had
  simp only [add_plain] at x0 x1 x2 x3 x4 x5 x6
  exact ⟨b, c, A6, c6, hg, hl, x0, x1, x2, x3, x4, x5, x6, x7, x8⟩

/-- What a load answers. -/
def loadL (xs : List S67) (x : S32) (i : Int) : S32 × Int :=
  if there x xs.length then (if 0 ≤ i ∧ i < (rd_T67 xs x.f1).f3.length then (rd_T32 (rd_T67 xs x.f1).f3 i, 0) else (z32, 1)) else (z32, 3)
theorem blk_below {w w1 : World} {k : Nat} {o : Obj} (h : w.heap[k]? = some o) (hb : Below w.heap.size w w1) : w1.heap[k]? = some o := (hb.block k (Array.getElem?_eq_some_iff.1 h).1).trans h
theorem put3 {w : World} {g : Nat} {t : TypeId} {a b c : Value} (h : w.heap[g]? = some (.cells #[a, b, c] t (0, 0))) (a' b' c' : Value) : (((w.setCell ⟨g, 0, none⟩ a').setCell ⟨g, 1, none⟩ b').setCell ⟨g, 2, none⟩ c').heap[g]? = some (.cells #[a', b', c'] t (0, 0)) :=
  blk_put (blk_put (blk_put h 0 a' rfl) 1 b' rfl) 2 c' rfl
theorem set3 {w0 w : World} {g : Nat} (h : Below w0.heap.size w0 w) (hg : w0.heap.size ≤ g) (a b c : Value) : Below w0.heap.size w0 (((w.setCell ⟨g, 0, none⟩ a).setCell ⟨g, 1, none⟩ b).setCell ⟨g, 2, none⟩ c) := below_set (below_set (below_set h hg) hg) hg
theorem ret_val {fn : Func} {p q : Tmp} {a : Act} {w2 : World} {R : Ending → World → Prop} (g : Nat) {x y z : Value} (h : fn.results = #[.cell p 32, .tmp q]) (hp : a.tmps.getD p undef = .pointer (some ⟨g, 0, none⟩)) (hd : a.defers = []) (hP : w2.heap[g]? = some (.cells #[x, y, z] 32 (0, 0))) (hR : R (.returned (.tuple #[.agg #[x, y, z], a.tmps.getD q undef])) w2) : bodyPost Try.prog fn R .ret a w2 :=
  bodyPost_ret (results_list (rs := [.cell p 32, .tmp q]) h (by simp) (.cell g 32 #[x, y, z] (0, 0) _ hp hP Try.underlying32 rfl (by kernel_rfl) (.tmp .nil))) hd hR
theorem put4 {w : World} {g : Nat} {t : TypeId} {a b c d : Value} (h : w.heap[g]? = some (.cells #[a, b, c, d] t (0, 0))) (a' b' c' d' : Value) : ((((w.setCell ⟨g, 0, none⟩ a').setCell ⟨g, 1, none⟩ b').setCell ⟨g, 2, none⟩ c').setCell ⟨g, 3, none⟩ d').heap[g]? = some (.cells #[a', b', c', d'] t (0, 0)) :=
  blk_put (blk_put (blk_put (blk_put h 0 a' rfl) 1 b' rfl) 2 c' rfl) 3 d' rfl
theorem set4 {w0 w : World} {g : Nat} (h : Below w0.heap.size w0 w) (hg : w0.heap.size ≤ g) (a b c d : Value) : Below w0.heap.size w0 ((((w.setCell ⟨g, 0, none⟩ a).setCell ⟨g, 1, none⟩ b).setCell ⟨g, 2, none⟩ c).setCell ⟨g, 3, none⟩ d) := below_set (below_set (below_set (below_set h hg) hg) hg) hg
theorem ret_type {fn : Func} {p q : Tmp} {a : Act} {w2 : World} {R : Ending → World → Prop} (g : Nat) {x y z u : Value} (h : fn.results = #[.cell p 30, .tmp q]) (hp : a.tmps.getD p undef = .pointer (some ⟨g, 0, none⟩)) (hd : a.defers = []) (hP : w2.heap[g]? = some (.cells #[x, y, z, u] 30 (0, 0))) (hR : R (.returned (.tuple #[.agg #[x, y, z, u], a.tmps.getD q undef])) w2) : bodyPost Try.prog fn R .ret a w2 :=
  bodyPost_ret (results_list (rs := [.cell p 30, .tmp q]) h (by simp) (.cell g 30 #[x, y, z, u] (0, 0) _ hp hP Try.underlying30 rfl (by kernel_rfl) (.tmp .nil))) hd hR
theorem eq_nil (W : World) : (binOp .eql 69 (.pointer none) (.pointer none)).run Try.prog W = .ok (.bool true) W := by kernel_rfl
set_option maxRecDepth 100000 in
theorem load_none (g : Nat) (xs : List S67) (x : S32) (i : Int) (w : World) (base : Nat) (ok : Nat → Prop) (h : Hp w base ok g xs) (ht : there x xs.length = false) :
    Calls Try.prog 10 #[.pointer (some ⟨g, 0, none⟩), .agg #[.int .i64 x.f0, .int .i64 x.f1, .string x.f2], .int .i64 i] w fun e w' => e = .returned (.tuple #[.agg #[.int .i64 0, .int .i64 0, .string ⟨#[]⟩], .int .i64 3]) ∧ Below w.heap.size w w' := by
  obtain ⟨A, c, hg, hl⟩ := h.head
  have hu26 := Try.underlying26
  have hu32 := Try.underlying32
  have hu67 := Try.underlying67
  obtain ⟨wo, hwo⟩ : ∃ wo : World, wo = (w.alloc (.cells #[.int .i64 x.f0, .int .i64 x.f1, .string x.f2] 32)).alloc (.cells #[.int .i64 0, .int .i64 0, .string ⟨#[]⟩] 32) := ⟨_, rfl⟩
  have HB := Aside0.mk (show Below w.heap.size w wo by rw [hwo]; exact below_alloc (below_alloc (Below.refl _ _) _) _)
  have HP := Aside0.mk (show wo.heap[w.heap.size + 1]? = some (.cells #[.int .i64 0, .int .i64 0, .string ⟨#[]⟩] 32 (0, 0)) by rw [hwo]; have := blk_new (w.alloc (.cells #[.int .i64 x.f0, .int .i64 x.f1, .string x.f2] 32)) (.cells #[.int .i64 0, .int .i64 0, .string ⟨#[]⟩] 32); simpa using this)
  have HG := Aside0.mk (blk_below hg HB.out)
  have HT := Aside0.mk ht
  clear hg ht
  go_enter Try.func10, Try.ntmps10
  go_wp2_with fail
  rw [← hwo]
  clear hwo
  go_wp2_with (go_at_call 28; refine (find_none g A xs.length c _ x _ HG.out HT.out).mono ?_; rintro e w2 ⟨rfl, hb⟩; have HB2 := Aside0.mk (below_step HB.out hb); have HP2 := Aside0.mk (blk_below HP.out hb); have c0 := (blk_cell HP2.out 0).trans rfl; have c1 := (blk_cell HP2.out 1).trans rfl; have c2 := (blk_cell HP2.out 2).trans rfl; have f0 := blk_frozen HP2.out 0; have f1 := blk_frozen HP2.out 1; have f2 := blk_frozen HP2.out 2; clear hb)
  exact ret_val (w.heap.size + 1) rfl rfl rfl (put3 HP2.out _ _ _) ⟨rfl, set3 HB2.out (by omega) _ _ _⟩
set_option maxRecDepth 100000 in
theorem load_low (g : Nat) (xs : List S67) (x : S32) (i : Int) (w : World) (base : Nat) (ok : Nat → Prop) (h : Hp w base ok g xs) (ht : there x xs.length = true) (hi : i < 0) :
    Calls Try.prog 10 #[.pointer (some ⟨g, 0, none⟩), .agg #[.int .i64 x.f0, .int .i64 x.f1, .string x.f2], .int .i64 i] w fun e w' => e = .returned (.tuple #[.agg #[.int .i64 0, .int .i64 0, .string ⟨#[]⟩], .int .i64 1]) ∧ Below w.heap.size w w' := by
  have hx := ht
  unfold there at hx
  simp only [Bool.and_eq_true, decide_eq_true_eq, beq_iff_eq] at hx
  obtain ⟨b, c, A6, c6, hg, hl, x0, x1, x2, x3, x4, x5, x6, hl6, hC⟩ := h.at_ x.f1 hx.2.1 hx.2.2
  have l6 := World.block_lt_of_cell? w _ x6
  have hu26 := Try.underlying26
  have hu32 := Try.underlying32
  have hu67 := Try.underlying67
  obtain ⟨wo, hwo⟩ : ∃ wo : World, wo = (w.alloc (.cells #[.int .i64 x.f0, .int .i64 x.f1, .string x.f2] 32)).alloc (.cells #[.int .i64 0, .int .i64 0, .string ⟨#[]⟩] 32) := ⟨_, rfl⟩
  have HB := Aside0.mk (show Below w.heap.size w wo by rw [hwo]; exact below_alloc (below_alloc (Below.refl _ _) _) _)
  have HP := Aside0.mk (show wo.heap[w.heap.size + 1]? = some (.cells #[.int .i64 0, .int .i64 0, .string ⟨#[]⟩] 32 (0, 0)) by rw [hwo]; have := blk_new (w.alloc (.cells #[.int .i64 x.f0, .int .i64 x.f1, .string x.f2] 32)) (.cells #[.int .i64 0, .int .i64 0, .string ⟨#[]⟩] 32); simpa using this)
  have HG := Aside0.mk (blk_below hg HB.out)
  have HT := Aside0.mk ht
  have HB2_ : ∀ {w2 : World}, Below wo.heap.size wo w2 → w2.cell? ⟨b, x.f1.toNat * 7 + 6, none⟩ = w.cell? ⟨b, x.f1.toNat * 7 + 6, none⟩ := fun hb => (below_step HB.out hb).cell l6
  generalize hy : rd_T67 xs x.f1 = y at *
  have d1 : decide (i < 0) = true := decide_eq_true hi
  clear hg ht hx x0 x1 x2 x3 x4 x5 hy
  go_enter Try.func10, Try.ntmps10
  go_wp2_with fail
  rw [← hwo]
  clear hwo
  go_wp2_with (go_at_call 28; refine (find_some g b xs.length c _ x _ HG.out HT.out hl).mono ?_; rintro e w2 ⟨rfl, hb⟩; have k6 := (HB2_ hb).trans x6; have HB2 := Aside0.mk (below_step HB.out hb); have HP2 := Aside0.mk (blk_below HP.out hb); have c0 := (blk_cell HP2.out 0).trans rfl; have c1 := (blk_cell HP2.out 1).trans rfl; have c2 := (blk_cell HP2.out 2).trans rfl; have f0 := blk_frozen HP2.out 0; have f1 := blk_frozen HP2.out 1; have f2 := blk_frozen HP2.out 2; clear hb)
  exact ret_val (w.heap.size + 1) rfl rfl rfl (put3 HP2.out _ _ _) ⟨rfl, set3 HB2.out (by omega) _ _ _⟩
set_option maxRecDepth 100000 in
theorem load_high (g : Nat) (xs : List S67) (x : S32) (i : Int) (w : World) (base : Nat) (ok : Nat → Prop) (h : Hp w base ok g xs) (ht : there x xs.length = true) (hi : 0 ≤ i) (hi2 : ((rd_T67 xs x.f1).f3.length : Int) ≤ i) :
    Calls Try.prog 10 #[.pointer (some ⟨g, 0, none⟩), .agg #[.int .i64 x.f0, .int .i64 x.f1, .string x.f2], .int .i64 i] w fun e w' => e = .returned (.tuple #[.agg #[.int .i64 0, .int .i64 0, .string ⟨#[]⟩], .int .i64 1]) ∧ Below w.heap.size w w' := by
  have hx := ht
  unfold there at hx
  simp only [Bool.and_eq_true, decide_eq_true_eq, beq_iff_eq] at hx
  obtain ⟨b, c, A6, c6, hg, hl, x0, x1, x2, x3, x4, x5, x6, hl6, hC⟩ := h.at_ x.f1 hx.2.1 hx.2.2
  have l6 := World.block_lt_of_cell? w _ x6
  have hu26 := Try.underlying26
  have hu32 := Try.underlying32
  have hu67 := Try.underlying67
  obtain ⟨wo, hwo⟩ : ∃ wo : World, wo = (w.alloc (.cells #[.int .i64 x.f0, .int .i64 x.f1, .string x.f2] 32)).alloc (.cells #[.int .i64 0, .int .i64 0, .string ⟨#[]⟩] 32) := ⟨_, rfl⟩
  have HB := Aside0.mk (show Below w.heap.size w wo by rw [hwo]; exact below_alloc (below_alloc (Below.refl _ _) _) _)
  have HP := Aside0.mk (show wo.heap[w.heap.size + 1]? = some (.cells #[.int .i64 0, .int .i64 0, .string ⟨#[]⟩] 32 (0, 0)) by rw [hwo]; have := blk_new (w.alloc (.cells #[.int .i64 x.f0, .int .i64 x.f1, .string x.f2] 32)) (.cells #[.int .i64 0, .int .i64 0, .string ⟨#[]⟩] 32); simpa using this)
  have HG := Aside0.mk (blk_below hg HB.out)
  have HT := Aside0.mk ht
  have HB2_ : ∀ {w2 : World}, Below wo.heap.size wo w2 → w2.cell? ⟨b, x.f1.toNat * 7 + 6, none⟩ = w.cell? ⟨b, x.f1.toNat * 7 + 6, none⟩ := fun hb => (below_step HB.out hb).cell l6
  generalize hy : rd_T67 xs x.f1 = y at *
  have d1 : decide (i < 0) = false := decide_eq_false (by omega)
  have d2 : decide ((y.f3.length : Int) ≤ i) = true := decide_eq_true hi2
  clear hg ht hx x0 x1 x2 x3 x4 x5 hy
  go_enter Try.func10, Try.ntmps10
  go_wp2_with fail
  rw [← hwo]
  clear hwo
  go_wp2_with (go_at_call 28; refine (find_some g b xs.length c _ x _ HG.out HT.out hl).mono ?_; rintro e w2 ⟨rfl, hb⟩; have k6 := (HB2_ hb).trans x6; have HB2 := Aside0.mk (below_step HB.out hb); have HP2 := Aside0.mk (blk_below HP.out hb); have c0 := (blk_cell HP2.out 0).trans rfl; have c1 := (blk_cell HP2.out 1).trans rfl; have c2 := (blk_cell HP2.out 2).trans rfl; have f0 := blk_frozen HP2.out 0; have f1 := blk_frozen HP2.out 1; have f2 := blk_frozen HP2.out 2; clear hb)
  exact ret_val (w.heap.size + 1) rfl rfl rfl (put3 HP2.out _ _ _) ⟨rfl, set3 HB2.out (by omega) _ _ _⟩
set_option maxRecDepth 100000 in
theorem load_mid (g : Nat) (xs : List S67) (x : S32) (i : Int) (w : World) (base : Nat) (ok : Nat → Prop) (h : Hp w base ok g xs) (ht : there x xs.length = true) (hi : 0 ≤ i) (hi2 : i < (rd_T67 xs x.f1).f3.length) :
    Calls Try.prog 10 #[.pointer (some ⟨g, 0, none⟩), .agg #[.int .i64 x.f0, .int .i64 x.f1, .string x.f2], .int .i64 i] w fun e w' => e = .returned (.tuple #[.agg #[.int .i64 (rd_T32 (rd_T67 xs x.f1).f3 i).f0, .int .i64 (rd_T32 (rd_T67 xs x.f1).f3 i).f1, .string (rd_T32 (rd_T67 xs x.f1).f3 i).f2], .int .i64 0]) ∧ Below w.heap.size w w' := by
  have hx := ht
  unfold there at hx
  simp only [Bool.and_eq_true, decide_eq_true_eq, beq_iff_eq] at hx
  obtain ⟨b, c, A6, c6, hg, hl, x0, x1, x2, x3, x4, x5, x6, hl6, hC⟩ := h.at_ x.f1 hx.2.1 hx.2.2
  have l6 := World.block_lt_of_cell? w _ x6
  have hu26 := Try.underlying26
  have hu32 := Try.underlying32
  have hu67 := Try.underlying67
  obtain ⟨wo, hwo⟩ : ∃ wo : World, wo = (w.alloc (.cells #[.int .i64 x.f0, .int .i64 x.f1, .string x.f2] 32)).alloc (.cells #[.int .i64 0, .int .i64 0, .string ⟨#[]⟩] 32) := ⟨_, rfl⟩
  have HB := Aside0.mk (show Below w.heap.size w wo by rw [hwo]; exact below_alloc (below_alloc (Below.refl _ _) _) _)
  have HP := Aside0.mk (show wo.heap[w.heap.size + 1]? = some (.cells #[.int .i64 0, .int .i64 0, .string ⟨#[]⟩] 32 (0, 0)) by rw [hwo]; have := blk_new (w.alloc (.cells #[.int .i64 x.f0, .int .i64 x.f1, .string x.f2] 32)) (.cells #[.int .i64 0, .int .i64 0, .string ⟨#[]⟩] 32); simpa using this)
  have HG := Aside0.mk (blk_below hg HB.out)
  have HT := Aside0.mk ht
  have HB2_ : ∀ {w2 : World}, Below wo.heap.size wo w2 → w2.cell? ⟨b, x.f1.toNat * 7 + 6, none⟩ = w.cell? ⟨b, x.f1.toNat * 7 + 6, none⟩ := fun hb => (below_step HB.out hb).cell l6
  generalize hy : rd_T67 xs x.f1 = y at *
  have d1 : decide (i < 0) = false := decide_eq_false (by omega)
  have d2 : decide ((y.f3.length : Int) ≤ i) = false := decide_eq_false (by omega)
  obtain ⟨ad, had, z0, z1, z2⟩ := at_T32 hC i hi hi2
  subst had
  generalize rd_T32 y.f3 i = u at *
  have MV : ∀ {w2 : World} {a : Addr} {v : Value}, Below wo.heap.size wo w2 → w.cell? a = some v → w2.cell? a = some v := fun hb hc => pw_cell_below (below_step HB.out hb) hc
  clear hg ht hx x0 x1 x2 x3 x4 x5 hy
  go_enter Try.func10, Try.ntmps10
  go_wp2_with fail
  rw [← hwo]
  clear hwo
  go_wp2_with (go_at_call 28; refine (find_some g b xs.length c _ x _ HG.out HT.out hl).mono ?_; rintro e w2 ⟨rfl, hb⟩; have k6 := (HB2_ hb).trans x6; have m0 := MV hb z0; have m1 := MV hb z1; have m2 := MV hb z2; have HB2 := Aside0.mk (below_step HB.out hb); have HP2 := Aside0.mk (blk_below HP.out hb); have c0 := (blk_cell HP2.out 0).trans rfl; have c1 := (blk_cell HP2.out 1).trans rfl; have c2 := (blk_cell HP2.out 2).trans rfl; have f0 := blk_frozen HP2.out 0; have f1 := blk_frozen HP2.out 1; have f2 := blk_frozen HP2.out 2; clear hb)
  exact ret_val (w.heap.size + 1) rfl rfl rfl (put3 HP2.out _ _ _) ⟨rfl, set3 HB2.out (by omega) _ _ _⟩
set_option maxRecDepth 100000 in
theorem len_none (g : Nat) (xs : List S67) (x : S32) (w : World) (base : Nat) (ok : Nat → Prop) (h : Hp w base ok g xs) (ht : there x xs.length = false) :
    Calls Try.prog 16 #[.pointer (some ⟨g, 0, none⟩), .agg #[.int .i64 x.f0, .int .i64 x.f1, .string x.f2]] w fun e w' => e = .returned (.int .i64 (-1)) ∧ Below w.heap.size w w' := by
  obtain ⟨A, c, hg, hl⟩ := h.head
  have hu26 := Try.underlying26
  have hu30 := Try.underlying30
  have hu32 := Try.underlying32
  have hu67 := Try.underlying67
  obtain ⟨wo, hwo⟩ : ∃ wo : World, wo = w.alloc (.cells #[.int .i64 x.f0, .int .i64 x.f1, .string x.f2] 32) := ⟨_, rfl⟩
  have HB := Aside0.mk (show Below w.heap.size w wo by rw [hwo]; exact below_alloc (Below.refl _ _) _)
  have HG := Aside0.mk (blk_below hg HB.out)
  have HT := Aside0.mk ht
  clear hg ht
  go_enter Try.func16, Try.ntmps16
  go_wp2_with fail
  rw [← hwo]
  clear hwo
  go_wp2_with (go_at_call 28; refine (find_none g A xs.length c _ x _ HG.out HT.out).mono ?_; rintro e w2 ⟨rfl, hb⟩; have HB2 := Aside0.mk (below_step HB.out hb); clear hb)
  go_ret
  exact ⟨rfl, HB2.out⟩
set_option maxRecDepth 100000 in
theorem len_some (g : Nat) (xs : List S67) (x : S32) (w : World) (base : Nat) (ok : Nat → Prop) (h : Hp w base ok g xs) (ht : there x xs.length = true) :
    Calls Try.prog 16 #[.pointer (some ⟨g, 0, none⟩), .agg #[.int .i64 x.f0, .int .i64 x.f1, .string x.f2]] w fun e w' => e = .returned (.int .i64 ((rd_T67 xs x.f1).f3.length : Nat)) ∧ Below w.heap.size w w' := by
  have hx := ht
  unfold there at hx
  simp only [Bool.and_eq_true, decide_eq_true_eq, beq_iff_eq] at hx
  obtain ⟨b, c, A6, c6, hg, hl, x0, x1, x2, x3, x4, x5, x6, hl6, hC⟩ := h.at_ x.f1 hx.2.1 hx.2.2
  have hu26 := Try.underlying26
  have hu30 := Try.underlying30
  have hu32 := Try.underlying32
  have hu67 := Try.underlying67
  obtain ⟨wo, hwo⟩ : ∃ wo : World, wo = w.alloc (.cells #[.int .i64 x.f0, .int .i64 x.f1, .string x.f2] 32) := ⟨_, rfl⟩
  have HB := Aside0.mk (show Below w.heap.size w wo by rw [hwo]; exact below_alloc (Below.refl _ _) _)
  have HG := Aside0.mk (blk_below hg HB.out)
  have HT := Aside0.mk ht
  generalize hy : rd_T67 xs x.f1 = y at *
  have MV : ∀ {w2 : World} {a : Addr} {v : Value}, Below wo.heap.size wo w2 → w.cell? a = some v → w2.cell? a = some v := fun hb hc => pw_cell_below (below_step HB.out hb) hc
  clear hg ht hx hy
  go_enter Try.func16, Try.ntmps16
  go_wp2_with fail
  rw [← hwo]
  clear hwo
  go_wp2_with (go_at_call 28; refine (find_some g b xs.length c _ x _ HG.out HT.out hl).mono ?_; rintro e w2 ⟨rfl, hb⟩; have k6 := MV hb x6; have HB2 := Aside0.mk (below_step HB.out hb); clear hb)
  go_ret
  exact ⟨rfl, HB2.out⟩
set_option maxRecDepth 100000 in
theorem class_none (g : Nat) (xs : List S67) (x : S32) (w : World) (base : Nat) (ok : Nat → Prop) (h : Hp w base ok g xs) (ht : there x xs.length = false) :
    Calls Try.prog 14 #[.pointer (some ⟨g, 0, none⟩), .agg #[.int .i64 x.f0, .int .i64 x.f1, .string x.f2]] w fun e w' => e = .returned (.tuple #[.string ⟨#[]⟩, .bool false]) ∧ Below w.heap.size w w' := by
  obtain ⟨A, c, hg, hl⟩ := h.head
  have hu26 := Try.underlying26
  have hu30 := Try.underlying30
  have hu32 := Try.underlying32
  have hu67 := Try.underlying67
  obtain ⟨wo, hwo⟩ : ∃ wo : World, wo = w.alloc (.cells #[.int .i64 x.f0, .int .i64 x.f1, .string x.f2] 32) := ⟨_, rfl⟩
  have HB := Aside0.mk (show Below w.heap.size w wo by rw [hwo]; exact below_alloc (Below.refl _ _) _)
  have HG := Aside0.mk (blk_below hg HB.out)
  have HT := Aside0.mk ht
  clear hg ht
  go_enter Try.func14, Try.ntmps14
  go_wp2_with fail
  rw [← hwo]
  clear hwo
  go_wp2_with (go_at_call 28; refine (find_none g A xs.length c _ x _ HG.out HT.out).mono ?_; rintro e w2 ⟨rfl, hb⟩; have HB2 := Aside0.mk (below_step HB.out hb); clear hb)
  go_ret2
  exact ⟨rfl, HB2.out⟩
set_option maxRecDepth 100000 in
theorem class_array (g : Nat) (xs : List S67) (x : S32) (w : World) (base : Nat) (ok : Nat → Prop) (h : Hp w base ok g xs) (ht : there x xs.length = true) (hA : (rd_T67 xs x.f1).f2 = true) :
    Calls Try.prog 14 #[.pointer (some ⟨g, 0, none⟩), .agg #[.int .i64 x.f0, .int .i64 x.f1, .string x.f2]] w fun e w' => e = .returned (.tuple #[.string ⟨#[]⟩, .bool false]) ∧ Below w.heap.size w w' := by
  have hx := ht
  unfold there at hx
  simp only [Bool.and_eq_true, decide_eq_true_eq, beq_iff_eq] at hx
  obtain ⟨b, c, A6, c6, hg, hl, x0, x1, x2, x3, x4, x5, x6, hl6, hC⟩ := h.at_ x.f1 hx.2.1 hx.2.2
  have hu26 := Try.underlying26
  have hu30 := Try.underlying30
  have hu32 := Try.underlying32
  have hu67 := Try.underlying67
  obtain ⟨wo, hwo⟩ : ∃ wo : World, wo = w.alloc (.cells #[.int .i64 x.f0, .int .i64 x.f1, .string x.f2] 32) := ⟨_, rfl⟩
  have HB := Aside0.mk (show Below w.heap.size w wo by rw [hwo]; exact below_alloc (Below.refl _ _) _)
  have HG := Aside0.mk (blk_below hg HB.out)
  have HT := Aside0.mk ht
  generalize hy : rd_T67 xs x.f1 = y at *
  have MV : ∀ {w2 : World} {a : Addr} {v : Value}, Below wo.heap.size wo w2 → w.cell? a = some v → w2.cell? a = some v := fun hb hc => pw_cell_below (below_step HB.out hb) hc
  rw [hA] at x5
  clear hg ht hx hy
  go_enter Try.func14, Try.ntmps14
  go_wp2_with fail
  rw [← hwo]
  clear hwo
  go_wp2_with (go_at_call 28; refine (find_some g b xs.length c _ x _ HG.out HT.out hl).mono ?_; rintro e w2 ⟨rfl, hb⟩; have k5 := MV hb x5; have HB2 := Aside0.mk (below_step HB.out hb); clear hb)
  go_ret2
  exact ⟨rfl, HB2.out⟩
set_option maxRecDepth 100000 in
theorem class_object (g : Nat) (xs : List S67) (x : S32) (w : World) (base : Nat) (ok : Nat → Prop) (h : Hp w base ok g xs) (ht : there x xs.length = true) (hA : (rd_T67 xs x.f1).f2 = false) :
    Calls Try.prog 14 #[.pointer (some ⟨g, 0, none⟩), .agg #[.int .i64 x.f0, .int .i64 x.f1, .string x.f2]] w fun e w' => e = .returned (.tuple #[.string (rd_T67 xs x.f1).f0, .bool true]) ∧ Below w.heap.size w w' := by
  have hx := ht
  unfold there at hx
  simp only [Bool.and_eq_true, decide_eq_true_eq, beq_iff_eq] at hx
  obtain ⟨b, c, A6, c6, hg, hl, x0, x1, x2, x3, x4, x5, x6, hl6, hC⟩ := h.at_ x.f1 hx.2.1 hx.2.2
  have hu26 := Try.underlying26
  have hu30 := Try.underlying30
  have hu32 := Try.underlying32
  have hu67 := Try.underlying67
  obtain ⟨wo, hwo⟩ : ∃ wo : World, wo = w.alloc (.cells #[.int .i64 x.f0, .int .i64 x.f1, .string x.f2] 32) := ⟨_, rfl⟩
  have HB := Aside0.mk (show Below w.heap.size w wo by rw [hwo]; exact below_alloc (Below.refl _ _) _)
  have HG := Aside0.mk (blk_below hg HB.out)
  have HT := Aside0.mk ht
  generalize hy : rd_T67 xs x.f1 = y at *
  have MV : ∀ {w2 : World} {a : Addr} {v : Value}, Below wo.heap.size wo w2 → w.cell? a = some v → w2.cell? a = some v := fun hb hc => pw_cell_below (below_step HB.out hb) hc
  rw [hA] at x5
  clear hg ht hx hy
  go_enter Try.func14, Try.ntmps14
  go_wp2_with fail
  rw [← hwo]
  clear hwo
  go_wp2_with (go_at_call 28; refine (find_some g b xs.length c _ x _ HG.out HT.out hl).mono ?_; rintro e w2 ⟨rfl, hb⟩; have k5 := MV hb x5; have k0 := MV hb x0; have HB2 := Aside0.mk (below_step HB.out hb); clear hb)
  go_ret2
  exact ⟨rfl, HB2.out⟩
set_option maxRecDepth 100000 in
theorem elem_none (g : Nat) (xs : List S67) (x : S32) (w : World) (base : Nat) (ok : Nat → Prop) (h : Hp w base ok g xs) (ht : there x xs.length = false) :
    Calls Try.prog 15 #[.pointer (some ⟨g, 0, none⟩), .agg #[.int .i64 x.f0, .int .i64 x.f1, .string x.f2]] w fun e w' => e = .returned (.tuple #[.agg #[.int .i64 0, .string ⟨#[]⟩, .int .i64 0, .string ⟨#[]⟩], .bool false]) ∧ Below w.heap.size w w' := by
  obtain ⟨A, c, hg, hl⟩ := h.head
  have hu26 := Try.underlying26
  have hu30 := Try.underlying30
  have hu32 := Try.underlying32
  have hu67 := Try.underlying67
  obtain ⟨wo, hwo⟩ : ∃ wo : World, wo = (w.alloc (.cells #[.int .i64 x.f0, .int .i64 x.f1, .string x.f2] 32)).alloc (.cells #[.int .i64 0, .string ⟨#[]⟩, .int .i64 0, .string ⟨#[]⟩] 30) := ⟨_, rfl⟩
  have HB := Aside0.mk (show Below w.heap.size w wo by rw [hwo]; exact below_alloc (below_alloc (Below.refl _ _) _) _)
  have HP := Aside0.mk (show wo.heap[w.heap.size + 1]? = some (.cells #[.int .i64 0, .string ⟨#[]⟩, .int .i64 0, .string ⟨#[]⟩] 30 (0, 0)) by rw [hwo]; have := blk_new (w.alloc (.cells #[.int .i64 x.f0, .int .i64 x.f1, .string x.f2] 32)) (.cells #[.int .i64 0, .string ⟨#[]⟩, .int .i64 0, .string ⟨#[]⟩] 30); simpa using this)
  have HG := Aside0.mk (blk_below hg HB.out)
  have HT := Aside0.mk ht
  clear hg ht
  go_enter Try.func15, Try.ntmps15
  go_wp2_with fail
  rw [← hwo]
  clear hwo
  go_wp2_with (go_at_call 28; refine (find_none g A xs.length c _ x _ HG.out HT.out).mono ?_; rintro e w2 ⟨rfl, hb⟩; have HB2 := Aside0.mk (below_step HB.out hb); have HP2 := Aside0.mk (blk_below HP.out hb); have c0 := (blk_cell HP2.out 0).trans rfl; have c1 := (blk_cell HP2.out 1).trans rfl; have c2 := (blk_cell HP2.out 2).trans rfl; have c3 := (blk_cell HP2.out 3).trans rfl; have f0 := blk_frozen HP2.out 0; have f1 := blk_frozen HP2.out 1; have f2 := blk_frozen HP2.out 2; have f3 := blk_frozen HP2.out 3; clear hb)
  exact ret_type (w.heap.size + 1) rfl rfl rfl (put4 HP2.out _ _ _ _) ⟨rfl, set4 HB2.out (by omega) _ _ _ _⟩
set_option maxRecDepth 100000 in
theorem elem_object (g : Nat) (xs : List S67) (x : S32) (w : World) (base : Nat) (ok : Nat → Prop) (h : Hp w base ok g xs) (ht : there x xs.length = true) (hA : (rd_T67 xs x.f1).f2 = false) :
    Calls Try.prog 15 #[.pointer (some ⟨g, 0, none⟩), .agg #[.int .i64 x.f0, .int .i64 x.f1, .string x.f2]] w fun e w' => e = .returned (.tuple #[.agg #[.int .i64 0, .string ⟨#[]⟩, .int .i64 0, .string ⟨#[]⟩], .bool false]) ∧ Below w.heap.size w w' := by
  have hx := ht
  unfold there at hx
  simp only [Bool.and_eq_true, decide_eq_true_eq, beq_iff_eq] at hx
  obtain ⟨b, c, A6, c6, hg, hl, x0, x1, x2, x3, x4, x5, x6, hl6, hC⟩ := h.at_ x.f1 hx.2.1 hx.2.2
  have hu26 := Try.underlying26
  have hu30 := Try.underlying30
  have hu32 := Try.underlying32
  have hu67 := Try.underlying67
  obtain ⟨wo, hwo⟩ : ∃ wo : World, wo = (w.alloc (.cells #[.int .i64 x.f0, .int .i64 x.f1, .string x.f2] 32)).alloc (.cells #[.int .i64 0, .string ⟨#[]⟩, .int .i64 0, .string ⟨#[]⟩] 30) := ⟨_, rfl⟩
  have HB := Aside0.mk (show Below w.heap.size w wo by rw [hwo]; exact below_alloc (below_alloc (Below.refl _ _) _) _)
  have HP := Aside0.mk (show wo.heap[w.heap.size + 1]? = some (.cells #[.int .i64 0, .string ⟨#[]⟩, .int .i64 0, .string ⟨#[]⟩] 30 (0, 0)) by rw [hwo]; have := blk_new (w.alloc (.cells #[.int .i64 x.f0, .int .i64 x.f1, .string x.f2] 32)) (.cells #[.int .i64 0, .string ⟨#[]⟩, .int .i64 0, .string ⟨#[]⟩] 30); simpa using this)
  have HG := Aside0.mk (blk_below hg HB.out)
  have HT := Aside0.mk ht
  generalize hy : rd_T67 xs x.f1 = y at *
  have MV : ∀ {w2 : World} {a : Addr} {v : Value}, Below wo.heap.size wo w2 → w.cell? a = some v → w2.cell? a = some v := fun hb hc => pw_cell_below (below_step HB.out hb) hc
  rw [hA] at x5
  clear hg ht hx hy
  go_enter Try.func15, Try.ntmps15
  go_wp2_with fail
  rw [← hwo]
  clear hwo
  go_wp2_with (go_at_call 28; refine (find_some g b xs.length c _ x _ HG.out HT.out hl).mono ?_; rintro e w2 ⟨rfl, hb⟩; have k5 := MV hb x5; have HB2 := Aside0.mk (below_step HB.out hb); have HP2 := Aside0.mk (blk_below HP.out hb); have c0 := (blk_cell HP2.out 0).trans rfl; have c1 := (blk_cell HP2.out 1).trans rfl; have c2 := (blk_cell HP2.out 2).trans rfl; have c3 := (blk_cell HP2.out 3).trans rfl; have f0 := blk_frozen HP2.out 0; have f1 := blk_frozen HP2.out 1; have f2 := blk_frozen HP2.out 2; have f3 := blk_frozen HP2.out 3; clear hb)
  exact ret_type (w.heap.size + 1) rfl rfl rfl (put4 HP2.out _ _ _ _) ⟨rfl, set4 HB2.out (by omega) _ _ _ _⟩
set_option maxRecDepth 100000 in
theorem elem_array (g : Nat) (xs : List S67) (x : S32) (w : World) (base : Nat) (ok : Nat → Prop) (h : Hp w base ok g xs) (ht : there x xs.length = true) (hA : (rd_T67 xs x.f1).f2 = true) :
    Calls Try.prog 15 #[.pointer (some ⟨g, 0, none⟩), .agg #[.int .i64 x.f0, .int .i64 x.f1, .string x.f2]] w fun e w' => e = .returned (.tuple #[.agg #[.int .i64 (rd_T67 xs x.f1).f1.f0, .string (rd_T67 xs x.f1).f1.f1, .int .i64 (rd_T67 xs x.f1).f1.f2, .string (rd_T67 xs x.f1).f1.f3], .bool true]) ∧ Below w.heap.size w w' := by
  have hx := ht
  unfold there at hx
  simp only [Bool.and_eq_true, decide_eq_true_eq, beq_iff_eq] at hx
  obtain ⟨b, c, A6, c6, hg, hl, x0, x1, x2, x3, x4, x5, x6, hl6, hC⟩ := h.at_ x.f1 hx.2.1 hx.2.2
  have hu26 := Try.underlying26
  have hu30 := Try.underlying30
  have hu32 := Try.underlying32
  have hu67 := Try.underlying67
  obtain ⟨wo, hwo⟩ : ∃ wo : World, wo = (w.alloc (.cells #[.int .i64 x.f0, .int .i64 x.f1, .string x.f2] 32)).alloc (.cells #[.int .i64 0, .string ⟨#[]⟩, .int .i64 0, .string ⟨#[]⟩] 30) := ⟨_, rfl⟩
  have HB := Aside0.mk (show Below w.heap.size w wo by rw [hwo]; exact below_alloc (below_alloc (Below.refl _ _) _) _)
  have HP := Aside0.mk (show wo.heap[w.heap.size + 1]? = some (.cells #[.int .i64 0, .string ⟨#[]⟩, .int .i64 0, .string ⟨#[]⟩] 30 (0, 0)) by rw [hwo]; have := blk_new (w.alloc (.cells #[.int .i64 x.f0, .int .i64 x.f1, .string x.f2] 32)) (.cells #[.int .i64 0, .string ⟨#[]⟩, .int .i64 0, .string ⟨#[]⟩] 30); simpa using this)
  have HG := Aside0.mk (blk_below hg HB.out)
  have HT := Aside0.mk ht
  generalize hy : rd_T67 xs x.f1 = y at *
  have MV : ∀ {w2 : World} {a : Addr} {v : Value}, Below wo.heap.size wo w2 → w.cell? a = some v → w2.cell? a = some v := fun hb hc => pw_cell_below (below_step HB.out hb) hc
  rw [hA] at x5
  clear hg ht hx hy
  go_enter Try.func15, Try.ntmps15
  go_wp2_with fail
  rw [← hwo]
  clear hwo
  go_wp2_with (go_at_call 28; refine (find_some g b xs.length c _ x _ HG.out HT.out hl).mono ?_; rintro e w2 ⟨rfl, hb⟩; have k5 := MV hb x5; have k1 := MV hb x1; have k2 := MV hb x2; have k3 := MV hb x3; have k4 := MV hb x4; have HB2 := Aside0.mk (below_step HB.out hb); have HP2 := Aside0.mk (blk_below HP.out hb); have c0 := (blk_cell HP2.out 0).trans rfl; have c1 := (blk_cell HP2.out 1).trans rfl; have c2 := (blk_cell HP2.out 2).trans rfl; have c3 := (blk_cell HP2.out 3).trans rfl; have f0 := blk_frozen HP2.out 0; have f1 := blk_frozen HP2.out 1; have f2 := blk_frozen HP2.out 2; have f3 := blk_frozen HP2.out 3; clear hb)
  exact ret_type (w.heap.size + 1) rfl rfl rfl (put4 HP2.out _ _ _ _) ⟨rfl, set4 HB2.out (by omega) _ _ _ _⟩
end Go.Proofs.Ytlfkmignkilplaa.PHeapPlays
