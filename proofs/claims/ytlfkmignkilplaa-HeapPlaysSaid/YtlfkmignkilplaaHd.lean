/- add: a cell more; Empty and the law's own empty: what they answer. No condition but that the heap is one. -/
import Derived.Test.YtlfkmignkilplaaHc
import Derived.Test.YtlfkmignkilplaaPHeapPlaysx2
import Derived.Test.YtlfkmignkilplaaPHeapPlaysx3
namespace Go.Proofs.Ytlfkmignkilplaa.PHeapPlays
open Go.RowKit Go.Proofs.YtlfkmignkilplaaW.PrintWords Go.Proofs.YtlfkmignkilplaaW.PrintLast Go.Proofs.YtlfkmignkilplaaW.PrintMore
set_option linter.unusedVariables false
set_option linter.unusedSimpArgs false

/-! ### Empty, empty -/
def emptyL (t : S30) : S32 :=
  if 0 < t.f3.size ∧ bt t.f3 ((t.f3.size : Int) - 1) = 111 then ⟨8, 0, ⟨#[]⟩⟩
  else if 0 < t.f2 ∨ t.f0 = 5 ∨ t.f0 = 7 ∨ t.f0 = 8 then ⟨7, 0, ⟨#[]⟩⟩
  else if t.f0 = 0 ∨ t.f0 = 6 then ⟨0, 0, ⟨#[]⟩⟩
  else ⟨t.f0, 0, ⟨#[]⟩⟩
theorem wrap_pred {n : Nat} (hn : n ≤ 140737488351232) : wrap64 ((n : Int) - 1) = (n : Int) - 1 := by
  unfold wrap64
  omega
theorem empty_j0 (b : Bool) (t : S30) : heap_Empty.j0 2 b t.f0 t.f1 t.f2 t.f3 = some (if b = true then (8, 0, ⟨#[]⟩) else if 0 < t.f2 ∨ t.f0 = 5 ∨ t.f0 = 7 ∨ t.f0 = 8 then (7, 0, ⟨#[]⟩) else if t.f0 = 0 ∨ t.f0 = 6 then (0, 0, ⟨#[]⟩) else (t.f0, 0, ⟨#[]⟩)) := by
  simp only [heap_Empty.j0, heap_Empty.j1]
  rcases Int.lt_or_le 0 t.f2 with h2 | h2
  · cases b <;> simp [h2]
  · have e : (0 < t.f2) = False := eq_false (by omega)
    clear h2
    simp only [gt_iff_lt, e]
    cases b <;> by_cases h5 : t.f0 = 5 <;> by_cases h7 : t.f0 = 7 <;> by_cases h8 : t.f0 = 8 <;> by_cases h6 : t.f0 = 6 <;> by_cases h0 : t.f0 = 0 <;> simp_all
theorem empty_j1 (b : Bool) (t : S30) : caulkerlaw15_empty.j0 2 b t.f0 t.f1 t.f2 t.f3 = some (if b = true then (8, 0, ⟨#[]⟩) else if 0 < t.f2 ∨ t.f0 = 5 ∨ t.f0 = 7 ∨ t.f0 = 8 then (7, 0, ⟨#[]⟩) else if t.f0 = 0 ∨ t.f0 = 6 then (0, 0, ⟨#[]⟩) else (t.f0, 0, ⟨#[]⟩)) := by
  simp only [caulkerlaw15_empty.j0, caulkerlaw15_empty.j1]
  rcases Int.lt_or_le 0 t.f2 with h2 | h2
  · cases b <;> simp [h2]
  · have e : (0 < t.f2) = False := eq_false (by omega)
    clear h2
    simp only [gt_iff_lt, e]
    cases b <;> by_cases h5 : t.f0 = 5 <;> by_cases h7 : t.f0 = 7 <;> by_cases h8 : t.f0 = 8 <;> by_cases h6 : t.f0 = 6 <;> by_cases h0 : t.f0 = 0 <;> simp_all
theorem emptyL_tuple (t : S30) (b : Bool) (hb : b = decide (0 < t.f3.size ∧ bt t.f3 ((t.f3.size : Int) - 1) = 111)) : (if b = true then ((8, 0, ⟨#[]⟩) : Int × Int × ByteArray) else if 0 < t.f2 ∨ t.f0 = 5 ∨ t.f0 = 7 ∨ t.f0 = 8 then (7, 0, ⟨#[]⟩) else if t.f0 = 0 ∨ t.f0 = 6 then (0, 0, ⟨#[]⟩) else (t.f0, 0, ⟨#[]⟩)) = ((emptyL t).f0, (emptyL t).f1, (emptyL t).f2) := by
  subst hb
  unfold emptyL
  by_cases h : 0 < t.f3.size ∧ bt t.f3 ((t.f3.size : Int) - 1) = 111
  · simp [h]
  · simp only [h, decide_false, Bool.false_eq_true, if_false]
    split
    · rfl
    · split <;> rfl
theorem empty_f (t : S30) (ht : t.f3.size ≤ 140737488351232) : heap_Empty.f 2 t.f0 t.f1 t.f2 t.f3 = some ((emptyL t).f0, (emptyL t).f1, (emptyL t).f2) := by
  unfold heap_Empty.f
  rw [wrap_pred ht]
  by_cases h : 0 < t.f3.size
  · rw [if_pos (by omega), if_pos (by omega), if_pos (by omega), empty_j0, emptyL_tuple]
    rw [Bool.eq_iff_iff]
    simp [h]
  · rw [if_neg (by omega), empty_j0, emptyL_tuple]
    simp [h]
theorem empty_f' (t : S30) (ht : t.f3.size ≤ 140737488351232) : caulkerlaw15_empty.f 2 t.f0 t.f1 t.f2 t.f3 = some ((emptyL t).f0, (emptyL t).f1, (emptyL t).f2) := by
  unfold caulkerlaw15_empty.f
  rw [wrap_pred ht]
  have hs : t.f3.toList = [] ↔ ¬ 0 < t.f3.size := by
    rw [ByteArray.toList_eq, ← List.length_eq_zero_iff, data_length]
    omega
  by_cases h : 0 < t.f3.size
  · rw [if_neg (fun hc => hs.1 hc h), if_pos (by omega), if_pos (by omega), empty_j1, emptyL_tuple]
    rw [Bool.eq_iff_iff]
    simp [h]
  · rw [if_pos (hs.2 h), empty_j1, emptyL_tuple]
    simp [h]
theorem empty_any (t : S30) (ht : t.f3.size ≤ 140737488351232) (w : World) : Calls Try.prog 26 #[.agg #[.int .i64 t.f0, .string t.f1, .int .i64 t.f2, .string t.f3]] w fun e w' => e = .returned (.agg #[.int .i64 (emptyL t).f0, .int .i64 (emptyL t).f1, .string (emptyL t).f2]) ∧ Below w.heap.size w w' :=
  heap_Empty.calls 2 _ _ _ _ _ _ _ w (empty_f t ht)
theorem empty_law (t : S30) (ht : t.f3.size ≤ 140737488351232) (w : World) : Calls Try.prog 7 #[.agg #[.int .i64 t.f0, .string t.f1, .int .i64 t.f2, .string t.f3]] w fun e w' => e = .returned (.agg #[.int .i64 (emptyL t).f0, .int .i64 (emptyL t).f1, .string (emptyL t).f2]) ∧ Below w.heap.size w w' :=
  caulkerlaw15_empty.calls 2 _ _ _ _ _ _ _ w (empty_f' t ht)
theorem at_any (n : Int) (w : World) : Calls Try.prog 8 #[.int .i64 n] w fun e w' => e = .returned (.agg #[.int .i64 5, .int .i64 n, .string ⟨#[]⟩]) ∧ Below w.heap.size w w' := heap_At.calls n 5 n ⟨#[]⟩ w rfl

/-! ### add -/
theorem info67 : (Try.prog.info? 67).map (fun i => (i.zero, i.size, i.bytes)) = some (some (.agg #[.string ⟨#[]⟩, .int .i64 0, .string ⟨#[]⟩, .int .i64 0, .string ⟨#[]⟩, .bool false, .slice none 0 0]), 7, 96) := by kernel_rfl
set_option maxRecDepth 100000 in
set_option maxHeartbeats 2000000 in
theorem add_any (g : Nat) (xs : List S67) (x : S67) (v6 : Value) (w0 w : World) (base : Nat) (ok okp : Nat → Prop) (h : Hp w base (fun k => ok k ∧ ¬ okp k) g xs) (hx : k32.R 32 w base okp v6 x.f3) (hokp : ∀ k, okp k → ok k) (hfr : ∀ k, w.heap.size ≤ k → ok k) (hB : Below base w0 w) (hle : base ≤ w.heap.size) (hl : xs.length < 4096) (htt : tot xs + x.f3.length ≤ 65536) :
    Calls Try.prog 27 #[.pointer (some ⟨g, 0, none⟩), .agg #[.string x.f0, .int .i64 x.f1.f0, .string x.f1.f1, .int .i64 x.f1.f2, .string x.f1.f3, .bool x.f2, v6]] w fun e w' => e = .returned (.agg #[.int .i64 5, .int .i64 (xs.length : Nat), .string ⟨#[]⟩]) ∧ Hp w' base ok g (xs ++ [x]) ∧ Below base w0 w' ∧ Kept w w' ok := by
  obtain ⟨v, hg, okg, bg, hS⟩ := h
  obtain ⟨A, c, rfl, hlc, _⟩ := Kd.S_reads hS
  obtain ⟨A6, c6, rfl⟩ := Kd.R_slice hx
  obtain ⟨l6, hl6⟩ : ∃ l6, l6 = x.f3.length := ⟨_, rfl⟩
  rw [← hl6] at hx ⊢
  have HL6 := Aside0.mk hl6
  have hu24 := Try.underlying24
  have hu26 := Try.underlying26
  have hu32 := Try.underlying32
  have hu67 := Try.underlying67
  obtain ⟨wo, hwo⟩ : ∃ wo : World, wo = (w.alloc (.cells #[.string x.f0, .int .i64 x.f1.f0, .string x.f1.f1, .int .i64 x.f1.f2, .string x.f1.f3, .bool x.f2, .slice A6 l6 c6] 67)).alloc (.cells #[.int .i64 0, .int .i64 0, .string ⟨#[]⟩] 32) := ⟨_, rfl⟩
  have HB0 := Aside0.mk (show Below w.heap.size w wo by rw [hwo]; exact below_alloc (below_alloc (Below.refl _ _) _) _)
  have HP0 := Aside0.mk (show wo.heap[w.heap.size]? = some (.cells #[.string x.f0, .int .i64 x.f1.f0, .string x.f1.f1, .int .i64 x.f1.f2, .string x.f1.f3, .bool x.f2, .slice A6 l6 c6] 67 (0, 0)) by rw [hwo]; exact blk_alloc (blk_new w (.cells #[.string x.f0, .int .i64 x.f1.f0, .string x.f1.f1, .int .i64 x.f1.f2, .string x.f1.f3, .bool x.f2, .slice A6 l6 c6] 67)) _)
  have HR0 := Aside0.mk (show wo.heap[w.heap.size + 1]? = some (.cells #[.int .i64 0, .int .i64 0, .string ⟨#[]⟩] 32 (0, 0)) by rw [hwo]; have := blk_new (w.alloc (.cells #[.string x.f0, .int .i64 x.f1.f0, .string x.f1.f1, .int .i64 x.f1.f2, .string x.f1.f3, .bool x.f2, .slice A6 l6 c6] 67)) (.cells #[.int .i64 0, .int .i64 0, .string ⟨#[]⟩] 32); simpa using this)
  have HNP := Aside0.mk (show some w.heap.size ≠ (Value.slice A xs.length c).ownBlock from fun he => by have := Kd.S_lt hS w.heap.size he.symm; omega)
  have HNO := Aside0.mk (show ∀ k, (Value.slice A xs.length c).ownBlock = some k → ¬ okp k from fun k hk => ((Kd.S_R hS).1 k hk).2)
  have HNW := Aside0.mk (show ∀ k, (Value.slice A xs.length c).ownBlock = some k → ok k from fun k hk => ((Kd.S_R hS).1 k hk).1)
  have HOP := Aside0.mk hokp
  have HFR := Aside0.mk hfr
  have HLE := Aside0.mk hle
  have HL := Aside0.mk hl
  have HT := Aside0.mk htt
  have HG0 := Aside0.mk (blk_below hg HB0.out)
  have HS0 := Aside0.mk (Kd.S_below (Kd.S_mono (Kd.S_bound hS) (ok' := fun k => (ok k ∧ k ≠ w.heap.size + 1) ∧ ¬ (okp k ∧ k < w.heap.size)) (fun k hk => ⟨⟨hk.1.1, by have := hk.2.2.1; omega⟩, fun h => hk.1.2 h.1⟩)) HB0.out)
  have HM0 := Aside0.mk (Kd.R_below (Kd.R_mono (Kd.R_bound hx) (ok' := fun k => okp k ∧ k < w.heap.size) (fun k hk => ⟨hk.1, hk.2.2.1⟩)) HB0.out)
  have HBG := Aside0.mk (And.intro bg okg.1)
  have HBW := Aside0.mk (below_then hB hle HB0.out)
  clear hg hS hx hokp hfr hle hl htt hl6 bg okg hB
  go_enter Try.func27, Try.ntmps27
  go_wp2_with fail
  rw [← hwo]
  clear hwo
  obtain ⟨w2, hw2⟩ : ∃ w2 : World, w2 = wo.drew := ⟨_, rfl⟩
  have HG2 := Aside0.mk ((congrArg (fun W : World => W.heap[g]?) hw2).trans HG0.out)
  have HP2 := Aside0.mk ((congrArg (fun W : World => W.heap[w.heap.size]?) hw2).trans HP0.out)
  have HR2 := Aside0.mk ((congrArg (fun W : World => W.heap[w.heap.size + 1]?) hw2).trans HR0.out)
  have HS2 := Aside0.mk (show Kd.S k67 67 w2 base (fun k => (ok k ∧ k ≠ w.heap.size + 1) ∧ ¬ (okp k ∧ k < w.heap.size)) (.slice A xs.length c) xs by rw [hw2]; exact Kd.S_drew HS0.out)
  have HM2 := Aside0.mk (show k67.M w2 base (fun k => okp k ∧ k < w.heap.size) x [.string x.f0, .int .i64 x.f1.f0, .string x.f1.f1, .int .i64 x.f1.f2, .string x.f1.f3, .bool x.f2, .slice A6 l6 c6] by rw [hw2]; exact k67_mkM _ _ _ x (Kd.R_drew HM0.out))
  have HB2 := Aside0.mk (show Below base w0 w2 by rw [hw2]; exact below_drew1 HBW.out)
  have HK2 := Aside0.mk (show Kept w w2 ok by rw [hw2]; exact (Kept.of_below HB0.out ok).drew)
  have HSZ := Aside0.mk (show w.heap.size + 1 < w2.heap.size by rw [hw2]; exact blk_lt HR0.out)
  refine start_ (n := 11) (S := fun w' => w'.cell? ⟨g, 0, none⟩ = some (.slice A xs.length c) ∧ w'.cell? ⟨w.heap.size, 0, none⟩ = some (.string x.f0) ∧ w'.cell? ⟨w.heap.size, 1, none⟩ = some (.int .i64 x.f1.f0) ∧ w'.cell? ⟨w.heap.size, 2, none⟩ = some (.string x.f1.f1) ∧ w'.cell? ⟨w.heap.size, 3, none⟩ = some (.int .i64 x.f1.f2) ∧ w'.cell? ⟨w.heap.size, 4, none⟩ = some (.string x.f1.f3) ∧ w'.cell? ⟨w.heap.size, 5, none⟩ = some (.bool x.f2) ∧ w'.cell? ⟨w.heap.size, 6, none⟩ = some (.slice A6 l6 c6)) (ds := [7, 10]) #[false, false, false, false, false, false, false, false, false, false, false] (by kernel_rfl) rfl rfl (by rw [← hw2]; exact ⟨(blk_cell HG2.out 0).trans rfl, (blk_cell HP2.out 0).trans rfl, (blk_cell HP2.out 1).trans rfl, (blk_cell HP2.out 2).trans rfl, (blk_cell HP2.out 3).trans rfl, (blk_cell HP2.out 4).trans rfl, (blk_cell HP2.out 5).trans rfl, (blk_cell HP2.out 6).trans rfl⟩) (fun hHeld => ?_)
  rw [← hw2] at hHeld ⊢; clear hw2
  refine pure_ (i := 0) (N := some 5) (v := ?_) (a' := ?_) #[true, false, false, false, false, false, false, false, false, false, false] rfl rfl (by kernel_rfl) (fun _ _ _ h => h) (Or.inl ⟨by rfl, ?_⟩) ?_ ?_
  rotate_left
  · intro w'
    go_simp
    with_reducible rfl
  rotate_left
  · simp only [Act.put, List.setIfInBounds_toArray, List.set_cons_zero, List.set_cons_succ, i64_w, i32_w]
    rfl
  refine pure_ (i := 1) (N := some 6) (v := ?_) (a' := ?_) #[true, true, false, false, false, false, false, false, false, false, false] rfl rfl (by kernel_rfl) (fun _ _ _ h => h) (Or.inl ⟨by rfl, ?_⟩) ?_ ?_
  rotate_left
  · intro w'
    go_simp
    with_reducible rfl
  rotate_left
  · simp only [Act.put, List.setIfInBounds_toArray, List.set_cons_zero, List.set_cons_succ, i64_w, i32_w]
    rfl
  refine pure_ (i := 2) (N := some 7) (v := ?_) (a' := ?_) #[true, true, true, false, false, false, false, false, false, false, false] rfl rfl (by kernel_rfl) (fun _ _ _ h => h) (Or.inl ⟨by rfl, ?_⟩) ?_ ?_
  rotate_left
  · intro w'
    go_simp
    with_reducible rfl
  rotate_left
  · simp only [Act.put, List.setIfInBounds_toArray, List.set_cons_zero, List.set_cons_succ, i64_w, i32_w]
    rfl
  refine pure_ (i := 3) (N := some 8) (v := ?_) (a' := ?_) #[true, true, true, true, false, false, false, false, false, false, false] rfl rfl (by kernel_rfl) (fun _ _ _ h => h) (Or.inl ⟨by rfl, ?_⟩) ?_ ?_
  rotate_left
  · intro w'
    go_simp
    with_reducible rfl
  rotate_left
  · simp only [Act.put, List.setIfInBounds_toArray, List.set_cons_zero, List.set_cons_succ, i64_w, i32_w]
    rfl
  refine take_ (i := 4) (N := some 9) (v := ?_) (a' := ?_) #[true, true, true, true, true, false, false, false, false, false, false] rfl rfl (by kernel_rfl) (fun _ _ _ h => h) (Or.inl ⟨by rfl, ?_⟩) hHeld ?_ ?_
  rotate_left
  · rintro w' ⟨s0, s1, s2, s3, s4, s5, s6, s7⟩
    go_simp
    with_reducible rfl
  rotate_left
  · simp only [Act.put, List.setIfInBounds_toArray, List.set_cons_zero, List.set_cons_succ, i64_w, i32_w]
    rfl
  refine take_ (i := 5) (N := some 10) (v := ?_) (a' := ?_) #[true, true, true, true, true, true, false, false, false, false, false] rfl rfl (by kernel_rfl) (fun _ _ _ h => h) (Or.inl ⟨by rfl, ?_⟩) hHeld ?_ ?_
  rotate_left
  · rintro w' ⟨s0, s1, s2, s3, s4, s5, s6, s7⟩
    go_simp
    with_reducible rfl
  rotate_left
  · simp only [Act.put, List.setIfInBounds_toArray, List.set_cons_zero, List.set_cons_succ, i64_w, i32_w]
    rfl
  refine one_ (i := 6) (N := some 11) #[true, true, true, true, true, true, true, false, false, false, false] rfl rfl (by kernel_rfl) (by decide) (fun K hK => ?_)
  refine value_ (v := .slice (some ⟨w2.heap.size, 0, none⟩) 1 1) (w1 := w2.alloc (.cells #[.string x.f0, .int .i64 x.f1.f0, .string x.f1.f1, .int .i64 x.f1.f2, .string x.f1.f3, .bool x.f2, .slice A6 l6 c6] 67)) (by rfl) rfl (by go_simp) ?_
  refine hK.out _ _ ⟨(blk_cell (blk_alloc HG2.out _) 0).trans rfl, (blk_cell (blk_alloc HP2.out _) 0).trans rfl, (blk_cell (blk_alloc HP2.out _) 1).trans rfl, (blk_cell (blk_alloc HP2.out _) 2).trans rfl, (blk_cell (blk_alloc HP2.out _) 3).trans rfl, (blk_cell (blk_alloc HP2.out _) 4).trans rfl, (blk_cell (blk_alloc HP2.out _) 5).trans rfl, (blk_cell (blk_alloc HP2.out _) 6).trans rfl⟩ (fun hHeld => ?_)
  clear hK K
  refine last_ (i := 7) (N := some 12) #[true, true, true, true, true, true, true, true, false, false, false] rfl rfl (by kernel_rfl) (by decide) (fun K hK => ?_)
  refine Kd.S_append_step k67 (w0 := w0) base (by rfl) _ _ 24 67 (.agg #[.string ⟨#[]⟩, .int .i64 0, .string ⟨#[]⟩, .int .i64 0, .string ⟨#[]⟩, .bool false, .slice none 0 0]) 96 rfl Try.underlying24 info67 rfl (by decide) (by decide) (.slice A xs.length c) xs x [.string x.f0, .int .i64 x.f1.f0, .string x.f1.f1, .int .i64 x.f1.f2, .string x.f1.f3, .bool x.f2, .slice A6 l6 c6] (fun k => ok k ∧ k ≠ w.heap.size + 1) (fun k => okp k ∧ k < w.heap.size) rfl rfl HM2.out (fun k hk => ⟨⟨HOP.out k hk.1, by have := hk.2; omega⟩, fun he => HNO.out k he.symm hk.1⟩) (fun k hk => ⟨HFR.out k (by have := HSZ.out; omega), by have := HSZ.out; omega⟩) HS2.out HB2.out (by have := HSZ.out; have := HLE.out; omega) (by have := HL.out; omega) ?_
  intro v3 w3 hS3 hB3 hg3 hat3
  obtain ⟨A3, c3, rfl⟩ : ∃ A3 c3, v3 = .slice A3 (xs ++ [x]).length c3 := Kd.S_slice hS3
  obtain ⟨L3, hL3⟩ : ∃ L3, L3 = (xs ++ [x]).length := ⟨_, rfl⟩
  rw [← hL3] at hS3 ⊢
  have HG3 := Aside0.mk (blk_grown HG2.out hg3 (Kd.S_ne HS2.out HG2.out (by decide)))
  have HP3 := Aside0.mk (blk_grown HP2.out hg3 HNP.out)
  have HR3 := Aside0.mk (blk_grown HR2.out hg3 (Kd.S_ne HS2.out HR2.out (by decide)))
  have HK3 := Aside0.mk (Kept.of_grown hg3 HK2.out (fun k hk => .inl (HNW.out k hk)))
  have HS3 := Aside0.mk hS3
  have HB3 := Aside0.mk hB3
  have HL3 := Aside0.mk hL3
  have HC3 := Aside0.mk (show w3.cell? ⟨g, 0, none⟩ = some (.slice A xs.length c) from (blk_cell HG3.out 0).trans rfl)
  have HF3 := Aside0.mk (blk_frozen HG3.out 0)
  have HSZ3 := Aside0.mk (show w.heap.size + 1 < w3.heap.size from blk_lt HR3.out)
  clear hS3 hB3 hg3 hat3 hL3
  change K (Act.put _ (some 12) _) _
  refine hK.out _ _ ?_
  clear hK K
  refine pure_ (i := 8) (N := some 13) (v := ?_) (a' := ?_) #[true, true, true, true, true, true, true, true, true, false, false] rfl rfl (by kernel_rfl) (fun _ _ _ h => h) (Or.inl ⟨by rfl, ?_⟩) ?_ ?_
  rotate_left
  · intro w'
    go_simp
    with_reducible rfl
  rotate_left
  · simp only [Act.put, List.setIfInBounds_toArray, List.set_cons_zero, List.set_cons_succ, i64_w, i32_w]
    rfl
  refine pure_ (i := 9) (N := some 14) (v := ?_) (a' := ?_) #[true, true, true, true, true, true, true, true, true, true, false] rfl rfl (by kernel_rfl) (fun _ _ _ h => h) (Or.inl ⟨by rfl, ?_⟩) ?_ ?_
  rotate_left
  · intro w'
    go_simp
    with_reducible rfl
  rotate_left
  · simp only [Act.put, List.setIfInBounds_toArray, List.set_cons_zero, List.set_cons_succ, i64_w, i32_w]
    rfl
  refine last_ (i := 10) (N := none) #[true, true, true, true, true, true, true, true, true, true, true] rfl rfl (by kernel_rfl) (by decide) (fun K hK => ?_)
  have c12 := HC3.out
  have f12 := HF3.out
  refine skip_ (w1 := w3.setCell ⟨g, 0, none⟩ (.slice A3 L3 c3)) (by rfl) rfl (by go_simp) ?_
  refine hK.out _ _ ?_
  clear hK K c12 f12
  refine done_ (by kernel_rfl) ?_
  have HG4 := Aside0.mk (show (w3.setCell ⟨g, 0, none⟩ (.slice A3 L3 c3)).heap[g]? = some (.cells #[.slice A3 L3 c3, .int .i64 (tot xs : Nat)] 26 (0, 0)) from blk_put HG3.out 0 _ rfl)
  have HP4 := Aside0.mk (show (w3.setCell ⟨g, 0, none⟩ (.slice A3 L3 c3)).heap[w.heap.size]? = _ from blk_far HP3.out (p := ⟨g, 0, none⟩) (Ne.symm (blk_ne HG3.out HP3.out (by decide))) _)
  have HR4 := Aside0.mk (show (w3.setCell ⟨g, 0, none⟩ (.slice A3 L3 c3)).heap[w.heap.size + 1]? = _ from blk_far HR3.out (p := ⟨g, 0, none⟩) (Ne.symm (blk_ne HG3.out HR3.out (by decide))) _)
  have HS4 := Aside0.mk (Kd.S_set HS3.out HG3.out (by intro q hq; simp [k67, Kd.iso, Kd.pair, Kd.slice, Kd.string, Kd.bool, k30, k32, Kd.int, Kd.scalar] at hq; omega) 0 (.slice A3 L3 c3))
  have HB4 := Aside0.mk (HB3.out.setCell (p := ⟨g, 0, none⟩) HBG.out.1 (.slice A3 L3 c3))
  have HK4 := Aside0.mk (HK3.out.setCell (p := ⟨g, 0, none⟩) (.inl HBG.out.2) (.slice A3 L3 c3))
  clear HG3 HP3 HR3 HS3 HB3 HK3 HC3 HF3
  obtain ⟨w4, hw4⟩ : ∃ w4 : World, w4 = w3.setCell ⟨g, 0, none⟩ (.slice A3 L3 c3) := ⟨_, rfl⟩
  rw [← hw4] at HG4 HP4 HR4 HS4 HB4 HK4 ⊢
  have HSZ4 := Aside0.mk (show w.heap.size + 1 < w4.heap.size from blk_lt HR4.out)
  clear hw4 HSZ3
  have c1 : w4.cell? ⟨g, 1, none⟩ = some (.int .i64 ((tot xs : Nat) : Int)) := (blk_cell HG4.out 1).trans rfl
  have f1 := blk_frozen HG4.out 1
  have c6_ : w4.cell? ⟨w.heap.size, 6, none⟩ = some (.slice A6 l6 c6) := (blk_cell HP4.out 6).trans rfl
  have c0 : w4.cell? ⟨g, 0, none⟩ = some (.slice A3 L3 c3) := (blk_cell HG4.out 0).trans rfl
  have hc1 : (1 : Int) ≤ (L3 : Nat) := by have := HL3.out; rw [List.length_append, List.length_singleton] at this; omega
  have hc2 : ((L3 : Nat) : Int) ≤ 4096 := by have h1 := HL3.out; have := HL.out; rw [List.length_append, List.length_singleton] at h1; omega
  have hb0 : (0 : Int) ≤ (tot xs : Nat) := by omega
  have hb1 : ((tot xs : Nat) : Int) ≤ 65536 := by have := HT.out; omega
  have hb2 : (0 : Int) ≤ (l6 : Nat) := by omega
  have hb3 : ((l6 : Nat) : Int) ≤ 65536 := by have := HT.out; have := HL6.out; omega
  go_wp2_with fail
  go_still_tail 10, (by kernel_rfl)
  change wpList _ _ _ _ _ w4.drew
  go_wp2_with fail
  clear c0 c1 f1 c6_ hb0 hb1 hb2 hb3 hc1 hc2
  obtain ⟨w5, hw5⟩ : ∃ w5 : World, w5 = (w4.setCell ⟨g, 1, none⟩ (.int .i64 (((tot xs : Nat) : Int) + (l6 : Nat)))).drew := ⟨_, rfl⟩
  rw [← hw5]
  have HG5 := Aside0.mk (show w5.heap[g]? = some (.cells #[.slice A3 L3 c3, .int .i64 (((tot xs : Nat) : Int) + (l6 : Nat))] 26 (0, 0)) by rw [hw5]; exact blk_put HG4.out 1 _ rfl)
  have HR5 := Aside0.mk (show w5.heap[w.heap.size + 1]? = some (.cells #[.int .i64 0, .int .i64 0, .string ⟨#[]⟩] 32 (0, 0)) by rw [hw5]; exact blk_far HR4.out (p := ⟨g, 1, none⟩) (Ne.symm (blk_ne HG4.out HR4.out (by decide))) _)
  have HS5 := Aside0.mk (show Kd.S k67 67 w5 base (fun k => ok k ∧ k ≠ w.heap.size + 1) (.slice A3 L3 c3) (xs ++ [x]) by rw [hw5]; exact Kd.S_drew (Kd.S_set HS4.out HG4.out (by intro q hq; simp [k67, Kd.iso, Kd.pair, Kd.slice, Kd.string, Kd.bool, k30, k32, Kd.int, Kd.scalar] at hq; omega) 1 _))
  have HB5 := Aside0.mk (show Below base w0 w5 by rw [hw5]; exact (HB4.out.setCell (p := ⟨g, 1, none⟩) HBG.out.1 _).drew)
  have HK5 := Aside0.mk (show Kept w w5 ok by rw [hw5]; exact (HK4.out.setCell (p := ⟨g, 1, none⟩) (.inl HBG.out.2) _).drew)
  clear hw5 HG4 HP4 HR4 HS4 HB4 HK4 HSZ4
  go_wp2_with (go_at_call 8; refine (at_any _ _).mono ?_; rintro e w6 ⟨rfl, hb⟩; have HG6 := Aside0.mk (blk_below HG5.out hb); have HR6 := Aside0.mk (blk_below HR5.out hb); have HS6 := Aside0.mk (Kd.S_below HS5.out hb); have HB6 := Aside0.mk (below_then HB5.out (by have := HB5.out.size; have := HLE.out; have := HK5.out.1; omega) hb); have HK6 := Aside0.mk (HK5.out.below hb); have c0_ := (blk_cell HR6.out 0).trans rfl; have c1_ := (blk_cell HR6.out 1).trans rfl; have c2_ := (blk_cell HR6.out 2).trans rfl; have f0_ := blk_frozen HR6.out 0; have f1_ := blk_frozen HR6.out 1; have f2_ := blk_frozen HR6.out 2; clear hb)
  have hr := (((HR6.out).trans rfl : w6.heap[w.heap.size + 1]? = some (.cells #[.int .i64 0, .int .i64 0, .string ⟨#[]⟩] 32 (0, 0))))
  refine bodyPost_ret (results_single (r := .cell 4 32) rfl (.cell (w.heap.size + 1) 32 #[.int .i64 5, .int .i64 ((L3 : Nat) - 1 : Int), .string ⟨#[]⟩] (0, 0) _ rfl (put3 hr _ _ _) Try.underlying32 rfl (by kernel_rfl) .nil)) rfl ⟨?_, ?_, ?_, ?_⟩
  · have : ((L3 : Nat) - 1 : Int) = (xs.length : Nat) := by have := HL3.out; rw [List.length_append, List.length_singleton] at this; omega
    rw [this]
  · have hne : g ≠ w.heap.size + 1 := blk_ne HG6.out HR6.out (by decide)
    have ht : (((tot xs : Nat) : Int) + (l6 : Nat)) = (tot (xs ++ [x]) : Nat) := by rw [tot_snoc, HL6.out]; omega
    refine ⟨.slice A3 L3 c3, ?_, HBG.out.2, HBG.out.1, ?_⟩
    · rw [← ht]
      exact blk_far (blk_far (blk_far HG6.out hne _) hne _) hne _
    · exact Kd.S_mono (Kd.S_far (p := ⟨w.heap.size + 1, 2, none⟩) (Kd.S_far (p := ⟨w.heap.size + 1, 1, none⟩) (Kd.S_far (p := ⟨w.heap.size + 1, 0, none⟩) HS6.out (fun k hk => hk.2) _) (fun k hk => hk.2) _) (fun k hk => hk.2) _) (fun k hk => hk.1)
  · exact ((HB6.out.setCell (p := ⟨w.heap.size + 1, 0, none⟩) (by have := HLE.out; show base ≤ w.heap.size + 1; omega) _).setCell (p := ⟨w.heap.size + 1, 1, none⟩) (by have := HLE.out; show base ≤ w.heap.size + 1; omega) _).setCell (p := ⟨w.heap.size + 1, 2, none⟩) (by have := HLE.out; show base ≤ w.heap.size + 1; omega) _
  · exact ((HK6.out.setCell (p := ⟨w.heap.size + 1, 0, none⟩) (.inr (by show w.heap.size ≤ w.heap.size + 1; omega)) _).setCell (p := ⟨w.heap.size + 1, 1, none⟩) (.inr (by show w.heap.size ≤ w.heap.size + 1; omega)) _).setCell (p := ⟨w.heap.size + 1, 2, none⟩) (.inr (by show w.heap.size ≤ w.heap.size + 1; omega)) _
end Go.Proofs.Ytlfkmignkilplaa.PHeapPlays
