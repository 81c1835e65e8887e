/- Object: what it answers, and what the heap is behind it. No condition but that the heap is one. -/
import Derived.Test.YtlfkmignkilplaaHd
namespace Go.Proofs.Ytlfkmignkilplaa.PHeapPlays
open Go.RowKit Go.Proofs.YtlfkmignkilplaaW.PrintWords Go.Proofs.YtlfkmignkilplaaW.PrintLast Go.Proofs.YtlfkmignkilplaaW.PrintMore
set_option linter.unusedVariables false
set_option linter.unusedSimpArgs false

theorem info32 : (Try.prog.info? 32).map (fun i => (i.zero, i.size, i.bytes)) = some (some (.agg #[.int .i64 0, .int .i64 0, .string ⟨#[]⟩]), 3, 32) := by kernel_rfl
theorem far3 {w : World} {g k : Nat} (h : k ≠ g) (a b c : Value) : (((w.setCell ⟨g, 0, none⟩ a).setCell ⟨g, 1, none⟩ b).setCell ⟨g, 2, none⟩ c).heap[k]? = w.heap[k]? :=
  (Below.heap_setCell _ _ _ _ h).trans ((Below.heap_setCell _ _ _ _ h).trans (Below.heap_setCell _ _ _ _ h))
theorem set3' {w0 w : World} {g base : Nat} (h : Below base w0 w) (hg : base ≤ g) (a b c : Value) : Below base w0 (((w.setCell ⟨g, 0, none⟩ a).setCell ⟨g, 1, none⟩ b).setCell ⟨g, 2, none⟩ c) := ((h.setCell (p := ⟨g, 0, none⟩) hg _).setCell (p := ⟨g, 1, none⟩) hg _).setCell (p := ⟨g, 2, none⟩) hg _
theorem kept3 {w w1 : World} {S : Nat → Prop} {g : Nat} (h : Kept w w1 S) (a b c : Value) : Kept w (((w1.setCell ⟨g, 0, none⟩ a).setCell ⟨g, 1, none⟩ b).setCell ⟨g, 2, none⟩ c) (fun k => S k ∨ k = g) :=
  (((h.mono (fun _ hk => .inl hk)).setCell (p := ⟨g, 0, none⟩) (.inl (.inr rfl)) _).setCell (p := ⟨g, 1, none⟩) (.inl (.inr rfl)) _).setCell (p := ⟨g, 2, none⟩) (.inl (.inr rfl)) _
theorem wrap_succ {i : Int} {n : Nat} (h0 : 0 ≤ i) (h : i < (n : Int)) (hn : n ≤ 140737488351232) : wrap64 (i + 1) = i + 1 := by
  unfold wrap64
  omega
theorem val_succ {i n : Nat} (h : i < n) (hn : n ≤ 100000000) : Value.int .i64 (wrap64 ((i : Int) + 1)) = .int .i64 ((i + 1 : Nat) : Int) := by
  rw [wrap_succ (n := n) (by omega) (by omega) (by omega)]
  rfl
theorem map_take_succ {fields : List S30} {j : Nat} (hj : j < fields.length) : (fields.take (j + 1)).map emptyL = (fields.take j).map emptyL ++ [emptyL (rd_T30 fields (j : Int))] := by
  rw [List.take_succ_eq_append_getElem hj, List.map_append]
  simp [rd_T30, List.getD_eq_getElem?_getD, List.getElem?_eq_getElem hj]
theorem rd_T30_mem {fields : List S30} {j : Nat} (hj : j < fields.length) : rd_T30 fields (j : Int) ∈ fields := by
  have : rd_T30 fields (j : Int) = fields[j] := by simp [rd_T30, List.getD_eq_getElem?_getD, List.getElem?_eq_getElem hj]
  rw [this]
  exact List.getElem_mem hj
theorem room_false {n t l : Nat} (h : 65536 < t + n ∨ 4096 ≤ l) : false = (decide (0 ≤ (n : Int)) && decide ((n : Int) ≤ 65536 - (t : Int)) && decide (l < 4096)) := by
  rcases h with h | h
  · rw [decide_eq_false (p := (n : Int) ≤ 65536 - (t : Int)) (by omega)]
    simp
  · rw [decide_eq_false (p := l < 4096) (by omega)]
    simp
theorem room_true {n t l : Nat} (h : t + n ≤ 65536) (h2 : l < 4096) : true = (decide (0 ≤ (n : Int)) && decide ((n : Int) ≤ 65536 - (t : Int)) && decide (l < 4096)) := by
  rw [decide_eq_true (p := (n : Int) ≤ 65536 - (t : Int)) (by omega), decide_eq_true (p := l < 4096) h2, decide_eq_true (p := (0 : Int) ≤ (n : Int)) (by omega)]
  rfl
theorem add_obj (g : Nat) (xs : List S67) (cls : ByteArray) (vals : List S32) (v6 : Value) (w0 w : World) (base : Nat) (ok okp : Nat → Prop) (h : Hp w base (fun k => ok k ∧ ¬ okp k) g xs) (hx : k32.R 32 w base okp v6 vals) (hokp : ∀ k, okp k → ok k) (hfr : ∀ k, w.heap.size ≤ k → ok k) (hB : Below base w0 w) (hle : base ≤ w.heap.size) (hl : xs.length < 4096) (htt : tot xs + vals.length ≤ 65536) :
    Calls Try.prog 27 #[.pointer (some ⟨g, 0, none⟩), .agg #[.string cls, .int .i64 0, .string ⟨#[]⟩, .int .i64 0, .string ⟨#[]⟩, .bool false, v6]] w fun e w' => e = .returned (.agg #[.int .i64 5, .int .i64 (xs.length : Nat), .string ⟨#[]⟩]) ∧ Hp w' base ok g (xs ++ [⟨cls, z30, false, vals⟩]) ∧ Below base w0 w' ∧ Kept w w' ok :=
  add_any g xs ⟨cls, z30, false, vals⟩ v6 w0 w base ok okp h hx hokp hfr hB hle hl htt
set_option maxRecDepth 100000 in
theorem object_full (g : Nat) (xs : List S67) (cls : ByteArray) (n : Nat) (A : Option Addr) (cap : Nat) (w : World) (base : Nat) (ok : Nat → Prop) (h : Hp w base ok g xs) (hn : n ≤ 1000000) (hl : xs.length ≤ 4096) (ht : tot xs ≤ 65536) (hf : 65536 < tot xs + n ∨ 4096 ≤ xs.length) :
    Calls Try.prog 6 #[.pointer (some ⟨g, 0, none⟩), .string cls, .slice A n cap] w fun e w' => e = .returned (.tuple #[.agg #[.int .i64 0, .int .i64 0, .string ⟨#[]⟩], .int .i64 2]) ∧ Below w.heap.size w w' := by
  obtain ⟨A0, c0, hg, hl0⟩ := h.head
  have hu32 := Try.underlying32
  obtain ⟨wo, hwo⟩ : ∃ wo : World, wo = w.alloc (.cells #[.int .i64 0, .int .i64 0, .string ⟨#[]⟩] 32) := ⟨_, rfl⟩
  have HB := Aside0.mk (show Below w.heap.size w wo by rw [hwo]; exact below_alloc (Below.refl _ _) _)
  have HP := Aside0.mk (show wo.heap[w.heap.size]? = some (.cells #[.int .i64 0, .int .i64 0, .string ⟨#[]⟩] 32 (0, 0)) by rw [hwo]; exact blk_new w (.cells #[.int .i64 0, .int .i64 0, .string ⟨#[]⟩] 32))
  have HG := Aside0.mk (blk_below hg HB.out)
  have HF := Aside0.mk (And.intro hn (And.intro hl (And.intro ht hf)))
  clear hg hf hn hl ht
  go_enter Try.func6, Try.ntmps6
  go_wp2_with fail
  rw [← hwo]
  clear hwo
  go_wp2_with (go_at_call 25; refine (room_any g (.slice A0 xs.length c0) A0 xs.length c0 (tot xs : Nat) (n : Nat) wo HG.out (by omega) (by have := HF.out; omega) (by have := HF.out; omega) (by have := HF.out; omega) false (room_false HF.out.2.2.2)).mono ?_; rintro e w2 ⟨rfl, rfl⟩; have c0_ := (blk_cell HP.out 0).trans rfl; have c1_ := (blk_cell HP.out 1).trans rfl; have c2_ := (blk_cell HP.out 2).trans rfl; have f0_ := blk_frozen HP.out 0; have f1_ := blk_frozen HP.out 1; have f2_ := blk_frozen HP.out 2)
  exact ret_val w.heap.size rfl rfl rfl (put3 HP.out _ _ _) ⟨rfl, set3 HB.out (by omega) _ _ _⟩
set_option maxRecDepth 100000 in
set_option maxHeartbeats 2000000 in
theorem object_ok (g : Nat) (xs : List S67) (cls : ByteArray) (fields : List S30) (A : Option Addr) (cap : Nat) (w0 w : World) (base : Nat) (ok : Nat → Prop) (h : Hp w base ok g xs) (hr : Kd.C k30 w A fields.length fields) (hz : ∀ t ∈ fields, t.f3.size ≤ 140737488351232) (hB : Below base w0 w) (hle : base ≤ w.heap.size) (hl : xs.length < 4096) (ht : tot xs + fields.length ≤ 65536) :
    Calls Try.prog 6 #[.pointer (some ⟨g, 0, none⟩), .string cls, .slice A fields.length cap] w fun e w' => e = .returned (.tuple #[.agg #[.int .i64 5, .int .i64 (xs.length : Nat), .string ⟨#[]⟩], .int .i64 0]) ∧ Hp w' base (fun k => ok k ∨ w.heap.size ≤ k) g (xs ++ [⟨cls, z30, false, fields.map emptyL⟩]) ∧ Below base w0 w' ∧ Kept w w' ok := by
  obtain ⟨A0, c0, hg, hl0⟩ := h.head
  have hu30 := Try.underlying30
  have hu32 := Try.underlying32
  have hu67 := Try.underlying67
  have HB0 := Aside0.mk (below_alloc (Below.refl w.heap.size w) (.cells #[.int .i64 0, .int .i64 0, .string ⟨#[]⟩] 32))
  have HG := Aside0.mk (blk_alloc hg (.cells #[.int .i64 0, .int .i64 0, .string ⟨#[]⟩] 32))
  have HF := Aside0.mk (And.intro hl ht)
  have HH := Aside0.mk h
  have HRD := Aside0.mk hr
  have HZ := Aside0.mk hz
  have HBW := Aside0.mk hB
  have HLE := Aside0.mk hle
  clear hg h hr hz hB hle hl ht
  go_enter Try.func6, Try.ntmps6
  go_wp2_with (go_at_call 25; refine (room_any g (.slice A0 xs.length c0) A0 xs.length c0 (tot xs : Nat) (fields.length : Nat) _ HG.out (by omega) (by have := HF.out; omega) (by have := HF.out; omega) (by have := HF.out; omega) true (room_true HF.out.2 HF.out.1)).mono ?_; rintro e w2 ⟨rfl, rfl⟩)
  obtain ⟨wl, hwl⟩ : ∃ wl : World, wl = (w.alloc (.cells #[.int .i64 0, .int .i64 0, .string ⟨#[]⟩] 32)).alloc (.cells #[.string cls, .int .i64 0, .string ⟨#[]⟩, .int .i64 0, .string ⟨#[]⟩, .bool false, .slice none 0 0] 67) := ⟨_, rfl⟩
  have HBl := Aside0.mk (show Below w.heap.size w wl by rw [hwl]; exact below_alloc (below_alloc (Below.refl _ _) _) _)
  have HPr := Aside0.mk (show wl.heap[w.heap.size]? = some (.cells #[.int .i64 0, .int .i64 0, .string ⟨#[]⟩] 32 (0, 0)) by rw [hwl]; exact blk_alloc (blk_new w (.cells #[.int .i64 0, .int .i64 0, .string ⟨#[]⟩] 32)) _)
  have HPc := Aside0.mk (show wl.heap[w.heap.size + 1]? = some (.cells #[.string cls, .int .i64 0, .string ⟨#[]⟩, .int .i64 0, .string ⟨#[]⟩, .bool false, .slice none 0 0] 67 (0, 0)) by rw [hwl]; have := blk_new (w.alloc (.cells #[.int .i64 0, .int .i64 0, .string ⟨#[]⟩] 32)) (.cells #[.string cls, .int .i64 0, .string ⟨#[]⟩, .int .i64 0, .string ⟨#[]⟩, .bool false, .slice none 0 0] 67); simpa using this)
  have HSl := Aside0.mk (show w.heap.size + 2 ≤ wl.heap.size by rw [hwl]; simp)
  have HR := Aside0.mk (Kd.R_nil k32 32 wl (w.heap.size + 2) (fun k => w.heap.size + 2 ≤ k))
  rw [← hwl]
  clear hwl HB0 HG
  go_loopg [21] (fields.length + 1) (fun kq v21 w' => ∃ (j : Nat) (v6 : Value), v21 = .int .i64 (j : Int) ∧ Aside0 (j + kq = fields.length + 1 ∧ j ≤ fields.length) ∧ Aside0 (w'.heap[w.heap.size + 1]? = some (.cells #[.string cls, .int .i64 0, .string ⟨#[]⟩, .int .i64 0, .string ⟨#[]⟩, .bool false, v6] 67 (0, 0))) ∧ Aside0 (w'.heap[w.heap.size]? = some (.cells #[.int .i64 0, .int .i64 0, .string ⟨#[]⟩] 32 (0, 0))) ∧ Aside0 (k32.R 32 w' (w.heap.size + 2) (fun k => w.heap.size + 2 ≤ k) v6 ((fields.take j).map emptyL)) ∧ Aside0 (Below w.heap.size w w') ∧ Aside0 (w.heap.size + 2 ≤ w'.heap.size))
  case atStart => exact ⟨0, _, rfl, ⟨by omega, by omega⟩, HPc, HPr, by simpa using HR, HBl, HSl⟩
  case round =>
    clear HPc HPr HR HBl HSl
    obtain ⟨j, v6, rfl, HK1, HPc0, HPr, HR0, HBl, HSl⟩ := hrel
    obtain ⟨A6, c6, rfl⟩ := Kd.R_slice HR0.out
    by_cases hj : j < fields.length
    · have hjd : decide ((j : Int) < (fields.length : Int)) = true := decide_eq_true (by omega)
      have hj0 : 0 ≤ (j : Int) := by omega
      have hj1 : (j : Int) < (fields.length : Int) := by omega
      obtain ⟨ade, eade, x0, x1, x2, x3⟩ := at_T30 HRD.out (j : Int) hj0 hj1
      obtain ⟨t, he⟩ : ∃ t, t = rd_T30 fields (j : Int) := ⟨_, rfl⟩
      have HTZ := Aside0.mk (show t.f3.size ≤ 140737488351232 by rw [he]; exact HZ.out _ (rd_T30_mem hj))
      have HMT := Aside0.mk (show (fields.take (j + 1)).map emptyL = (fields.take j).map emptyL ++ [emptyL t] by rw [he]; exact map_take_succ hj)
      rw [← he] at x0 x1 x2 x3
      simp only [Int.toNat_natCast] at x0 x1 x2 x3
      replace x0 := (HBl.out.cell (World.block_lt_of_cell? w _ x0)).trans x0
      replace x1 := (HBl.out.cell (World.block_lt_of_cell? w _ x1)).trans x1
      replace x2 := (HBl.out.cell (World.block_lt_of_cell? w _ x2)).trans x2
      replace x3 := (HBl.out.cell (World.block_lt_of_cell? w _ x3)).trans x3
      have HJ := Aside0.mk hj
      obtain ⟨vals, hvals⟩ : ∃ vals, vals = (fields.take j).map emptyL := ⟨_, rfl⟩
      have HVL := Aside0.mk (show vals.length ≤ 65536 by rw [hvals, List.length_map, List.length_take]; have := HF.out; omega)
      obtain ⟨l6, hl6⟩ : ∃ l6, l6 = ((fields.take j).map emptyL).length := ⟨_, rfl⟩
      rw [← hl6, ← hvals] at HR0
      rw [← hl6] at HPc0
      rw [← hvals] at HMT
      clear he hj hl6 hvals
      subst eade
      go_wp2_with fail
      clear x0 x1 x2 x3 hj0 hj1 hjd
      obtain ⟨w2, hw2⟩ : ∃ w2 : World, w2 = (wr.alloc (.cells #[.int .i64 t.f0, .string t.f1, .int .i64 t.f2, .string t.f3] 30)).drew := ⟨_, rfl⟩
      have HPc := Aside0.mk ((congrArg (fun W : World => W.heap[w.heap.size + 1]?) hw2).trans (blk_alloc HPc0.out (.cells #[.int .i64 t.f0, .string t.f1, .int .i64 t.f2, .string t.f3] 30)))
      have HPt := Aside0.mk ((congrArg (fun W : World => W.heap[wr.heap.size]?) hw2).trans (blk_new wr (.cells #[.int .i64 t.f0, .string t.f1, .int .i64 t.f2, .string t.f3] 30)))
      have HR := Aside0.mk (show k32.R 32 w2 (w.heap.size + 2) (fun k => w.heap.size + 2 ≤ k) (.slice A6 l6 c6) vals by rw [hw2]; exact Kd.R_drew (Kd.R_alloc HR0.out _))
      have HLO := Aside0.mk (show w.heap.size + 2 ≤ w2.heap.size by rw [hw2]; have := HSl.out; show _ ≤ (wr.alloc _).heap.size; simp; omega)
      have HB2 := Aside0.mk (show Below w.heap.size w w2 by rw [hw2]; exact below_drew1 (below_alloc HBl.out _))
      have HP2 := Aside0.mk ((congrArg (fun W : World => W.heap[w.heap.size]?) hw2).trans (blk_alloc HPr.out (.cells #[.int .i64 t.f0, .string t.f1, .int .i64 t.f2, .string t.f3] 30)))
      have HCB := Aside0.mk (show w.heap.size + 1 < w.heap.size + 2 by omega)
      clear HPc0 HR0 HPr HBl HSl
      refine start_ (n := 8) (S := fun w' => w'.cell? ⟨w.heap.size + 1, 6, none⟩ = some (.slice A6 l6 c6) ∧ w'.cell? ⟨wr.heap.size, 0, none⟩ = some (.int .i64 t.f0) ∧ w'.cell? ⟨wr.heap.size, 1, none⟩ = some (.string t.f1) ∧ w'.cell? ⟨wr.heap.size, 2, none⟩ = some (.int .i64 t.f2) ∧ w'.cell? ⟨wr.heap.size, 3, none⟩ = some (.string t.f3)) (ds := [5, 7]) #[false, false, false, false, false, false, false, false] (by kernel_rfl) rfl rfl (by rw [← hw2]; exact ⟨(blk_cell HPc.out 6).trans rfl, (blk_cell HPt.out 0).trans rfl, (blk_cell HPt.out 1).trans rfl, (blk_cell HPt.out 2).trans rfl, (blk_cell HPt.out 3).trans rfl⟩) (fun hHeld => ?_)
      rw [← hw2] at hHeld ⊢; clear hw2
      refine pure_ (i := 0) (N := some 25) (v := ?_) (a' := ?_) #[true, false, false, false, false, false, false, false] rfl rfl (by kernel_rfl) (fun _ _ _ h => h) (Or.inl ⟨by rfl, ?_⟩) ?_ ?_
      rotate_left
      · intro w'
        go_simp
        with_reducible rfl
      rotate_left
      · simp only [Act.put, List.setIfInBounds_toArray, List.set_cons_zero, List.set_cons_succ, i64_w, i32_w]
        rfl
      refine take_ (i := 1) (N := some 26) (v := ?_) (a' := ?_) #[true, true, false, false, false, false, false, false] rfl rfl (by kernel_rfl) (fun _ _ _ h => h) (Or.inl ⟨by rfl, ?_⟩) hHeld ?_ ?_
      rotate_left
      · rintro w' ⟨s0, s1, s2, s3, s4⟩
        go_simp
        with_reducible rfl
      rotate_left
      · simp only [Act.put, List.setIfInBounds_toArray, List.set_cons_zero, List.set_cons_succ, i64_w, i32_w]
        rfl
      refine take_ (i := 2) (N := some 27) (v := ?_) (a' := ?_) #[true, true, true, false, false, false, false, false] rfl rfl (by kernel_rfl) (fun _ _ _ h => h) (Or.inl ⟨by rfl, ?_⟩) hHeld ?_ ?_
      rotate_left
      · rintro w' ⟨s0, s1, s2, s3, s4⟩
        go_simp
        with_reducible rfl
      rotate_left
      · simp only [Act.put, List.setIfInBounds_toArray, List.set_cons_zero, List.set_cons_succ, i64_w, i32_w]
        rfl
      refine one_ (i := 3) (N := some 28) #[true, true, true, true, false, false, false, false] rfl rfl (by kernel_rfl) (by decide) (fun K hK => ?_)
      refine goes_ (f := 26) Try.func26 (by kernel_rfl) rfl #[.agg #[.int .i64 t.f0, .string t.f1, .int .i64 t.f2, .string t.f3]] (by rfl) rfl rfl (by simp [Act.eval]) ?_
      refine (empty_any t HTZ.out _).mono ?_
      rintro e w3 ⟨rfl, hb3⟩
      refine ⟨_, rfl, ?_⟩
      have HB3 := Aside0.mk hb3
      have HPc3 := Aside0.mk (blk_below HPc.out hb3)
      have HPt3 := Aside0.mk (blk_below HPt.out hb3)
      have HR3 := Aside0.mk (Kd.R_below HR.out hb3)
      clear hb3
      refine hK.out _ _ ⟨(blk_cell HPc3.out 6).trans rfl, (blk_cell HPt3.out 0).trans rfl, (blk_cell HPt3.out 1).trans rfl, (blk_cell HPt3.out 2).trans rfl, (blk_cell HPt3.out 3).trans rfl⟩ (fun hHeld => ?_)
      clear hK K
      refine one_ (i := 4) (N := some 29) #[true, true, true, true, true, false, false, false] rfl rfl (by kernel_rfl) (by decide) (fun K hK => ?_)
      refine value_ (v := .slice (some ⟨w3.heap.size, 0, none⟩) 1 1) (w1 := w3.alloc (.cells #[.int .i64 (emptyL t).f0, .int .i64 (emptyL t).f1, .string (emptyL t).f2] 32)) (by rfl) rfl (by go_simp) ?_
      refine hK.out _ _ ⟨(blk_cell (blk_alloc HPc3.out _) 6).trans rfl, (blk_cell (blk_alloc HPt3.out _) 0).trans rfl, (blk_cell (blk_alloc HPt3.out _) 1).trans rfl, (blk_cell (blk_alloc HPt3.out _) 2).trans rfl, (blk_cell (blk_alloc HPt3.out _) 3).trans rfl⟩ (fun hHeld => ?_)
      clear hK K
      refine last_ (i := 5) (N := some 30) #[true, true, true, true, true, true, false, false] rfl rfl (by kernel_rfl) (by decide) (fun K hK => ?_)
      refine Kd.R_append_step k32 (w0 := w2) (w.heap.size + 2) (by rfl) _ _ 38 32 (.agg #[.int .i64 0, .int .i64 0, .string ⟨#[]⟩]) 32 rfl Try.underlying38 info32 rfl (by decide) (by decide) (.slice A6 l6 c6) _ (emptyL t) [.int .i64 (emptyL t).f0, .int .i64 (emptyL t).f1, .string (emptyL t).f2] (fun k => w.heap.size + 2 ≤ k) (fun _ => False) rfl rfl (k32_mkM _ _ _ (emptyL t)) (fun _ h => h.elim) (fun k hk => by have := HLO.out; have := HB3.out.size; omega) HR3.out (HB3.out.mono HLO.out) (by have := HLO.out; have := HB3.out.size; omega) (by have := HVL.out; omega) ?_
      intro v7 w4 hR4 hB4 hg4 hat4
      obtain ⟨A7, c7, rfl⟩ := Kd.R_slice hR4
      obtain ⟨l7, hl7⟩ : ∃ l7, l7 = (vals ++ [(emptyL t)]).length := ⟨_, rfl⟩
      rw [← hl7] at hR4 ⊢
      have HPc4 := Aside0.mk ((hB4.block (w.heap.size + 1) HCB.out).trans HPc.out)
      have HR4 := Aside0.mk hR4
      have HB4 := Aside0.mk hB4
      have HL7 := Aside0.mk hl7
      have HC4 := Aside0.mk (show w4.cell? ⟨w.heap.size + 1, 6, none⟩ = some (.slice A6 l6 c6) from (blk_cell HPc4.out 6).trans rfl)
      have HF4 := Aside0.mk (blk_frozen HPc4.out 6)
      clear hR4 hB4 hg4 hat4 hl7
      change K (Act.put _ (some 30) _) _
      refine hK.out _ _ ?_
      clear hK K
      refine pure_ (i := 6) (N := some 31) (v := ?_) (a' := ?_) #[true, true, true, true, true, true, true, false] rfl rfl (by kernel_rfl) (fun _ _ _ h => h) (Or.inl ⟨by rfl, ?_⟩) ?_ ?_
      rotate_left
      · intro w'
        go_simp
        with_reducible rfl
      rotate_left
      · simp only [Act.put, List.setIfInBounds_toArray, List.set_cons_zero, List.set_cons_succ, i64_w, i32_w]
        rfl
      refine last_ (i := 7) (N := none) #[true, true, true, true, true, true, true, true] rfl rfl (by kernel_rfl) (by decide) (fun K hK => ?_)
      have c12 := HC4.out
      have f12 := HF4.out
      refine skip_ (w1 := w4.setCell ⟨w.heap.size + 1, 6, none⟩ (.slice A7 l7 c7)) (by rfl) rfl (by go_simp) ?_
      refine hK.out _ _ ?_
      clear hK K c12 f12
      refine done_ (by kernel_rfl) ?_
      have HPc5 := Aside0.mk (show (w4.setCell ⟨w.heap.size + 1, 6, none⟩ (.slice A7 l7 c7)).heap[w.heap.size + 1]? = some (.cells #[.string cls, .int .i64 0, .string ⟨#[]⟩, .int .i64 0, .string ⟨#[]⟩, .bool false, .slice A7 l7 c7] 67 (0, 0)) from blk_put HPc4.out 6 _ rfl)
      have HR5 := Aside0.mk (Kd.R_far (p := ⟨w.heap.size + 1, 6, none⟩) HR4.out (fun k hk => by have := HCB.out; show k ≠ w.heap.size + 1; omega) (.slice A7 l7 c7))
      clear HPc4 HR4 HC4 HF4 HPc3 HPt3 HR3 HB3 HPc HPt HR

      have HP5 := Aside0.mk (show (w4.setCell ⟨w.heap.size + 1, 6, none⟩ (.slice A7 l7 c7)).heap[w.heap.size]? = _ from blk_far ((HB4.out.block w.heap.size (by omega)).trans HP2.out) (p := ⟨w.heap.size + 1, 6, none⟩) (by show w.heap.size ≠ w.heap.size + 1; omega) _)
      have HB5 := Aside0.mk ((HB2.out.trans (HB4.out.mono (show w.heap.size ≤ w.heap.size + 2 by omega))).setCell (p := ⟨w.heap.size + 1, 6, none⟩) (by show w.heap.size ≤ w.heap.size + 1; omega) (.slice A7 l7 c7))
      have HS5 := Aside0.mk (show w.heap.size + 2 ≤ (w4.setCell ⟨w.heap.size + 1, 6, none⟩ (.slice A7 l7 c7)).heap.size by have h1 := HB4.out.size; have h2 := HLO.out; simp only [World.setCell]; rw [Array.size_modify]; omega)
      clear HB4 HB2 HP2 HLO
      go_wp2_with fail
      go_roundg (fields.length - j)
      case measure => have := HK1.out; omega
      case rel => exact ⟨j + 1, .slice A7 l7 c7, val_succ HJ.out (by have := HF.out; omega), ⟨by have := HK1.out; have := HJ.out; omega, by have := HJ.out; omega⟩, HPc5, HP5, by rw [HMT.out]; exact HR5, HB5, HS5⟩
    · obtain rfl : j = fields.length := by have := HK1.out; omega
      have hjd : decide ((fields.length : Int) < (fields.length : Int)) = false := decide_eq_false (by omega)
      clear hj
      rw [List.take_length, List.length_map] at HR0 HPc0
      have l0 : wr.cell? ⟨w.heap.size + 1, 0, none⟩ = some (.string cls) := (blk_cell HPc0.out 0).trans rfl
      have l1 : wr.cell? ⟨w.heap.size + 1, 1, none⟩ = some (.int .i64 0) := (blk_cell HPc0.out 1).trans rfl
      have l2 : wr.cell? ⟨w.heap.size + 1, 2, none⟩ = some (.string ⟨#[]⟩) := (blk_cell HPc0.out 2).trans rfl
      have l3 : wr.cell? ⟨w.heap.size + 1, 3, none⟩ = some (.int .i64 0) := (blk_cell HPc0.out 3).trans rfl
      have l4 : wr.cell? ⟨w.heap.size + 1, 4, none⟩ = some (.string ⟨#[]⟩) := (blk_cell HPc0.out 4).trans rfl
      have l5 : wr.cell? ⟨w.heap.size + 1, 5, none⟩ = some (.bool false) := (blk_cell HPc0.out 5).trans rfl
      have l6_ : wr.cell? ⟨w.heap.size + 1, 6, none⟩ = some (.slice A6 fields.length c6) := (blk_cell HPc0.out 6).trans rfl
      have HX := Aside0.mk (Kd.R_mono (Kd.R_lower (Kd.R_bound HR0.out) (show base ≤ w.heap.size + 2 by have := HLE.out; omega)) (ok' := fun k => w.heap.size + 2 ≤ k) (fun k hk => hk.1))
      have HHW := Aside0.mk (Hp.mono (Hp.below (Hp.bound HH.out) HBl.out) (ok' := fun k => ((ok k ∨ w.heap.size ≤ k) ∧ k ≠ w.heap.size) ∧ ¬ (w.heap.size + 2 ≤ k)) (fun k hk => ⟨⟨.inl hk.1, by have := hk.2.2; omega⟩, by have := hk.2.2; omega⟩))
      have HBB := Aside0.mk (below_then HBW.out HLE.out HBl.out)
      have HTT := Aside0.mk (show tot xs + (fields.map emptyL).length ≤ 65536 by rw [List.length_map]; exact HF.out.2)
      go_wp2_with (go_at_call 27; (with_reducible refine (add_obj g xs cls (fields.map emptyL) _ w0 wr base (fun k => (ok k ∨ w.heap.size ≤ k) ∧ k ≠ w.heap.size) (fun k => w.heap.size + 2 ≤ k) HHW.out HX.out (fun k hk => ⟨.inr (by omega), by omega⟩) (fun k hk => ⟨.inr (by have := HSl.out; omega), by have := HSl.out; omega⟩) HBB.out (by have := HLE.out; have := HSl.out; omega) HF.out.1 HTT.out).mono ?_); rintro e w6 ⟨rfl, hh, hb, hk⟩; have HH6 := Aside0.mk hh; have HB6 := Aside0.mk hb; have HK6 := Aside0.mk hk; have HP6 := Aside0.mk (blk_kept HPr.out hk (fun h => h.2 rfl)); have c0_ := (blk_cell HP6.out 0).trans rfl; have c1_ := (blk_cell HP6.out 1).trans rfl; have c2_ := (blk_cell HP6.out 2).trans rfl; have f0_ := blk_frozen HP6.out 0; have f1_ := blk_frozen HP6.out 1; have f2_ := blk_frozen HP6.out 2; clear hh hb hk)
      exact ret_val w.heap.size rfl rfl rfl (put3 HP6.out _ _ _) ⟨rfl, Hp.mono (Hp.move HH6.out (fun k hk _ => far3 hk.2 _ _ _)) (fun k hk => hk.1), set3' HB6.out HLE.out _ _ _, Kept.then_ (Kept.of_below HBl.out ok) (kept3 HK6.out _ _ _) (fun k hk => by rcases hk with hk | hk; exact (by rcases hk.1 with h | h; exact .inl h; exact .inr h); exact .inr (by omega))⟩
end Go.Proofs.Ytlfkmignkilplaa.PHeapPlays
