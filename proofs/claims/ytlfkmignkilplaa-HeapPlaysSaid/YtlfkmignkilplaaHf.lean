/- Array: what it answers, and what the heap is behind it. No condition but that the heap is one. -/
import Derived.Test.YtlfkmignkilplaaHe
namespace Go.Proofs.Ytlfkmignkilplaa.PHeapPlays
open Go.RowKit Go.Proofs.YtlfkmignkilplaaW.PrintWords Go.Proofs.YtlfkmignkilplaaW.PrintLast Go.Proofs.YtlfkmignkilplaaW.PrintMore
set_option linter.unusedVariables false
set_option linter.unusedSimpArgs false

theorem add_arr (g : Nat) (xs : List S67) (t : S30) (vals : List S32) (v6 : Value) (w0 w : World) (base : Nat) (ok okp : Nat → Prop) (h : Hp w base (fun k => ok k ∧ ¬ okp k) g xs) (hx : k32.R 32 w base okp v6 vals) (hokp : ∀ k, okp k → ok k) (hfr : ∀ k, w.heap.size ≤ k → ok k) (hB : Below base w0 w) (hle : base ≤ w.heap.size) (hl : xs.length < 4096) (htt : tot xs + vals.length ≤ 65536) :
    Calls Try.prog 27 #[.pointer (some ⟨g, 0, none⟩), .agg #[.string ⟨#[]⟩, .int .i64 t.f0, .string t.f1, .int .i64 t.f2, .string t.f3, .bool true, v6]] w fun e w' => e = .returned (.agg #[.int .i64 5, .int .i64 (xs.length : Nat), .string ⟨#[]⟩]) ∧ Hp w' base ok g (xs ++ [⟨⟨#[]⟩, t, true, vals⟩]) ∧ Below base w0 w' ∧ Kept w w' ok :=
  add_any g xs ⟨⟨#[]⟩, t, true, vals⟩ v6 w0 w base ok okp h hx hokp hfr hB hle hl htt
set_option maxRecDepth 100000 in
theorem array_neg (g : Nat) (xs : List S67) (t : S30) (n : Int) (w : World) (base : Nat) (ok : Nat → Prop) (hn : n < 0) :
    Calls Try.prog 9 #[.pointer (some ⟨g, 0, none⟩), .agg #[.int .i64 t.f0, .string t.f1, .int .i64 t.f2, .string t.f3], .int .i64 n] w fun e w' => e = .returned (.tuple #[.agg #[.int .i64 0, .int .i64 0, .string ⟨#[]⟩], .int .i64 1]) ∧ Below w.heap.size w w' := by
  have hu30 := Try.underlying30
  have hu32 := Try.underlying32
  have hu67 := Try.underlying67
  have HBr := Aside0.mk (below_alloc (below_alloc (Below.refl w.heap.size w) (.cells #[.int .i64 t.f0, .string t.f1, .int .i64 t.f2, .string t.f3] 30)) (.cells #[.int .i64 0, .int .i64 0, .string ⟨#[]⟩] 32))
  have HPr := Aside0.mk (show ((w.alloc (.cells #[.int .i64 t.f0, .string t.f1, .int .i64 t.f2, .string t.f3] 30)).alloc (.cells #[.int .i64 0, .int .i64 0, .string ⟨#[]⟩] 32)).heap[w.heap.size + 1]? = some (.cells #[.int .i64 0, .int .i64 0, .string ⟨#[]⟩] 32 (0, 0)) by have := blk_new (w.alloc (.cells #[.int .i64 t.f0, .string t.f1, .int .i64 t.f2, .string t.f3] 30)) (.cells #[.int .i64 0, .int .i64 0, .string ⟨#[]⟩] 32); simpa using this)
  have HPe := Aside0.mk (show ((w.alloc (.cells #[.int .i64 t.f0, .string t.f1, .int .i64 t.f2, .string t.f3] 30)).alloc (.cells #[.int .i64 0, .int .i64 0, .string ⟨#[]⟩] 32)).heap[w.heap.size]? = some (.cells #[.int .i64 t.f0, .string t.f1, .int .i64 t.f2, .string t.f3] 30 (0, 0)) from blk_alloc (blk_new w (.cells #[.int .i64 t.f0, .string t.f1, .int .i64 t.f2, .string t.f3] 30)) _)
  have d1 : decide (n < 0) = true := decide_eq_true hn
  have c0_ := (blk_cell HPr.out 0).trans rfl
  have c1_ := (blk_cell HPr.out 1).trans rfl
  have c2_ := (blk_cell HPr.out 2).trans rfl
  have f0_ := blk_frozen HPr.out 0
  have f1_ := blk_frozen HPr.out 1
  have f2_ := blk_frozen HPr.out 2
  go_enter Try.func9, Try.ntmps9
  go_wp2_with fail
  exact ret_val (w.heap.size + 1) rfl rfl rfl HPr.out ⟨rfl, HBr.out⟩
set_option maxRecDepth 100000 in
theorem array_big (g : Nat) (xs : List S67) (t : S30) (n : Int) (w : World) (base : Nat) (ok : Nat → Prop) (hn : 65536 < n) :
    Calls Try.prog 9 #[.pointer (some ⟨g, 0, none⟩), .agg #[.int .i64 t.f0, .string t.f1, .int .i64 t.f2, .string t.f3], .int .i64 n] w fun e w' => e = .returned (.tuple #[.agg #[.int .i64 0, .int .i64 0, .string ⟨#[]⟩], .int .i64 2]) ∧ Below w.heap.size w w' := by
  have hu30 := Try.underlying30
  have hu32 := Try.underlying32
  have hu67 := Try.underlying67
  have HBr := Aside0.mk (below_alloc (below_alloc (Below.refl w.heap.size w) (.cells #[.int .i64 t.f0, .string t.f1, .int .i64 t.f2, .string t.f3] 30)) (.cells #[.int .i64 0, .int .i64 0, .string ⟨#[]⟩] 32))
  have HPr := Aside0.mk (show ((w.alloc (.cells #[.int .i64 t.f0, .string t.f1, .int .i64 t.f2, .string t.f3] 30)).alloc (.cells #[.int .i64 0, .int .i64 0, .string ⟨#[]⟩] 32)).heap[w.heap.size + 1]? = some (.cells #[.int .i64 0, .int .i64 0, .string ⟨#[]⟩] 32 (0, 0)) by have := blk_new (w.alloc (.cells #[.int .i64 t.f0, .string t.f1, .int .i64 t.f2, .string t.f3] 30)) (.cells #[.int .i64 0, .int .i64 0, .string ⟨#[]⟩] 32); simpa using this)
  have HPe := Aside0.mk (show ((w.alloc (.cells #[.int .i64 t.f0, .string t.f1, .int .i64 t.f2, .string t.f3] 30)).alloc (.cells #[.int .i64 0, .int .i64 0, .string ⟨#[]⟩] 32)).heap[w.heap.size]? = some (.cells #[.int .i64 t.f0, .string t.f1, .int .i64 t.f2, .string t.f3] 30 (0, 0)) from blk_alloc (blk_new w (.cells #[.int .i64 t.f0, .string t.f1, .int .i64 t.f2, .string t.f3] 30)) _)
  have d1 : decide (n < 0) = false := decide_eq_false (by omega)
  have d2 : decide (65536 < n) = true := decide_eq_true hn
  have c0_ := (blk_cell HPr.out 0).trans rfl
  have c1_ := (blk_cell HPr.out 1).trans rfl
  have c2_ := (blk_cell HPr.out 2).trans rfl
  have f0_ := blk_frozen HPr.out 0
  have f1_ := blk_frozen HPr.out 1
  have f2_ := blk_frozen HPr.out 2
  go_enter Try.func9, Try.ntmps9
  go_wp2_with fail
  exact ret_val (w.heap.size + 1) rfl rfl rfl HPr.out ⟨rfl, HBr.out⟩
set_option maxRecDepth 100000 in
theorem array_room (g : Nat) (xs : List S67) (t : S30) (n : Int) (w : World) (base : Nat) (ok : Nat → Prop) (h : Hp w base ok g xs) (hn : 0 ≤ n) (hn2 : n ≤ 65536) (hl : xs.length ≤ 4096) (ht : tot xs ≤ 65536) (hf : 65536 < tot xs + n.toNat ∨ 4096 ≤ xs.length) :
    Calls Try.prog 9 #[.pointer (some ⟨g, 0, none⟩), .agg #[.int .i64 t.f0, .string t.f1, .int .i64 t.f2, .string t.f3], .int .i64 n] w fun e w' => e = .returned (.tuple #[.agg #[.int .i64 0, .int .i64 0, .string ⟨#[]⟩], .int .i64 2]) ∧ Below w.heap.size w w' := by
  obtain ⟨A0, c0, hg, hl0⟩ := h.head
  have HG := Aside0.mk (blk_alloc (blk_alloc hg (.cells #[.int .i64 t.f0, .string t.f1, .int .i64 t.f2, .string t.f3] 30)) (.cells #[.int .i64 0, .int .i64 0, .string ⟨#[]⟩] 32))
  obtain ⟨m, rfl⟩ : ∃ m : Nat, n = (m : Int) := ⟨n.toNat, by omega⟩
  rw [Int.toNat_natCast] at hf
  have HF := Aside0.mk (And.intro hn2 (And.intro hl (And.intro ht hf)))
  clear hg hl ht hf
  have hu30 := Try.underlying30
  have hu32 := Try.underlying32
  have hu67 := Try.underlying67
  have HBr := Aside0.mk (below_alloc (below_alloc (Below.refl w.heap.size w) (.cells #[.int .i64 t.f0, .string t.f1, .int .i64 t.f2, .string t.f3] 30)) (.cells #[.int .i64 0, .int .i64 0, .string ⟨#[]⟩] 32))
  have HPr := Aside0.mk (show ((w.alloc (.cells #[.int .i64 t.f0, .string t.f1, .int .i64 t.f2, .string t.f3] 30)).alloc (.cells #[.int .i64 0, .int .i64 0, .string ⟨#[]⟩] 32)).heap[w.heap.size + 1]? = some (.cells #[.int .i64 0, .int .i64 0, .string ⟨#[]⟩] 32 (0, 0)) by have := blk_new (w.alloc (.cells #[.int .i64 t.f0, .string t.f1, .int .i64 t.f2, .string t.f3] 30)) (.cells #[.int .i64 0, .int .i64 0, .string ⟨#[]⟩] 32); simpa using this)
  have HPe := Aside0.mk (show ((w.alloc (.cells #[.int .i64 t.f0, .string t.f1, .int .i64 t.f2, .string t.f3] 30)).alloc (.cells #[.int .i64 0, .int .i64 0, .string ⟨#[]⟩] 32)).heap[w.heap.size]? = some (.cells #[.int .i64 t.f0, .string t.f1, .int .i64 t.f2, .string t.f3] 30 (0, 0)) from blk_alloc (blk_new w (.cells #[.int .i64 t.f0, .string t.f1, .int .i64 t.f2, .string t.f3] 30)) _)
  have d1 : decide ((m : Int) < 0) = false := decide_eq_false (by omega)
  have d2 : decide (65536 < (m : Int)) = false := decide_eq_false (by omega)
  have c0_ := (blk_cell HPr.out 0).trans rfl
  have c1_ := (blk_cell HPr.out 1).trans rfl
  have c2_ := (blk_cell HPr.out 2).trans rfl
  have f0_ := blk_frozen HPr.out 0
  have f1_ := blk_frozen HPr.out 1
  have f2_ := blk_frozen HPr.out 2
  go_enter Try.func9, Try.ntmps9
  go_wp2_with fail
  go_wp2_with (go_at_call 25; refine (room_any g (.slice A0 xs.length c0) A0 xs.length c0 (tot xs : Nat) (m : Nat) _ HG.out (by omega) (by have := HF.out; omega) (by have := HF.out; omega) (by have := HF.out; omega) false (room_false HF.out.2.2.2)).mono ?_; rintro e w2 ⟨rfl, rfl⟩)
  exact ret_val (w.heap.size + 1) rfl rfl rfl HPr.out ⟨rfl, HBr.out⟩
set_option maxRecDepth 100000 in
set_option maxHeartbeats 2000000 in
theorem array_ok (g : Nat) (xs : List S67) (t : S30) (m : Nat) (w0 w : World) (base : Nat) (ok : Nat → Prop) (h : Hp w base ok g xs) (hz : t.f3.size ≤ 140737488351232) (hB : Below base w0 w) (hle : base ≤ w.heap.size) (hl : xs.length < 4096) (ht : tot xs + m ≤ 65536) :
    Calls Try.prog 9 #[.pointer (some ⟨g, 0, none⟩), .agg #[.int .i64 t.f0, .string t.f1, .int .i64 t.f2, .string t.f3], .int .i64 (m : Int)] w fun e w' => e = .returned (.tuple #[.agg #[.int .i64 5, .int .i64 (xs.length : Nat), .string ⟨#[]⟩], .int .i64 0]) ∧ Hp w' base (fun k => ok k ∨ w.heap.size ≤ k) g (xs ++ [⟨⟨#[]⟩, t, true, List.replicate m (emptyL t)⟩]) ∧ Below base w0 w' ∧ Kept w w' ok := by
  obtain ⟨A0, c0, hg, hl0⟩ := h.head
  have hu30 := Try.underlying30
  have hu32 := Try.underlying32
  have hu67 := Try.underlying67
  have HBr := Aside0.mk (below_alloc (below_alloc (Below.refl w.heap.size w) (.cells #[.int .i64 t.f0, .string t.f1, .int .i64 t.f2, .string t.f3] 30)) (.cells #[.int .i64 0, .int .i64 0, .string ⟨#[]⟩] 32))
  have HPr := Aside0.mk (show ((w.alloc (.cells #[.int .i64 t.f0, .string t.f1, .int .i64 t.f2, .string t.f3] 30)).alloc (.cells #[.int .i64 0, .int .i64 0, .string ⟨#[]⟩] 32)).heap[w.heap.size + 1]? = some (.cells #[.int .i64 0, .int .i64 0, .string ⟨#[]⟩] 32 (0, 0)) by have := blk_new (w.alloc (.cells #[.int .i64 t.f0, .string t.f1, .int .i64 t.f2, .string t.f3] 30)) (.cells #[.int .i64 0, .int .i64 0, .string ⟨#[]⟩] 32); simpa using this)
  have HPe := Aside0.mk (show ((w.alloc (.cells #[.int .i64 t.f0, .string t.f1, .int .i64 t.f2, .string t.f3] 30)).alloc (.cells #[.int .i64 0, .int .i64 0, .string ⟨#[]⟩] 32)).heap[w.heap.size]? = some (.cells #[.int .i64 t.f0, .string t.f1, .int .i64 t.f2, .string t.f3] 30 (0, 0)) from blk_alloc (blk_new w (.cells #[.int .i64 t.f0, .string t.f1, .int .i64 t.f2, .string t.f3] 30)) _)
  have HG := Aside0.mk (blk_alloc (blk_alloc hg (.cells #[.int .i64 t.f0, .string t.f1, .int .i64 t.f2, .string t.f3] 30)) (.cells #[.int .i64 0, .int .i64 0, .string ⟨#[]⟩] 32))
  have HF := Aside0.mk (And.intro hl ht)
  have HH := Aside0.mk h
  have HTZ := Aside0.mk hz
  have HBW := Aside0.mk hB
  have HLE := Aside0.mk hle
  have d1 : decide ((m : Int) < 0) = false := decide_eq_false (by omega)
  have d2 : decide (65536 < (m : Int)) = false := decide_eq_false (by omega)
  have e0 := (blk_cell HPe.out 0).trans rfl
  have e1 := (blk_cell HPe.out 1).trans rfl
  have e2 := (blk_cell HPe.out 2).trans rfl
  have e3 := (blk_cell HPe.out 3).trans rfl
  clear hg h hz hB hle hl ht
  go_enter Try.func9, Try.ntmps9
  go_wp2_with (go_at_call 25; refine (room_any g (.slice A0 xs.length c0) A0 xs.length c0 (tot xs : Nat) (m : Nat) _ HG.out (by omega) (by have := HF.out; omega) (by have := HF.out; omega) (by have := HF.out; omega) true (room_true HF.out.2 HF.out.1)).mono ?_; rintro e w2 ⟨rfl, rfl⟩)
  clear d1 d2 e0 e1 e2 e3
  obtain ⟨wl, hwl⟩ : ∃ wl : World, wl = ((w.alloc (.cells #[.int .i64 t.f0, .string t.f1, .int .i64 t.f2, .string t.f3] 30)).alloc (.cells #[.int .i64 0, .int .i64 0, .string ⟨#[]⟩] 32)).alloc (.cells #[.string ⟨#[]⟩, .int .i64 t.f0, .string t.f1, .int .i64 t.f2, .string t.f3, .bool true, .slice none 0 0] 67) := ⟨_, rfl⟩
  have HBl := Aside0.mk (show Below w.heap.size w wl by rw [hwl]; exact below_alloc HBr.out _)
  replace HPr := Aside0.mk ((congrArg (fun W : World => W.heap[w.heap.size + 1]?) hwl).trans (blk_alloc HPr.out _))
  replace HPe := Aside0.mk ((congrArg (fun W : World => W.heap[w.heap.size]?) hwl).trans (blk_alloc HPe.out _))
  have HPc := Aside0.mk (show wl.heap[w.heap.size + 1 + 1]? = some (.cells #[.string ⟨#[]⟩, .int .i64 t.f0, .string t.f1, .int .i64 t.f2, .string t.f3, .bool true, .slice none 0 0] 67 (0, 0)) by rw [hwl]; have := blk_new ((w.alloc (.cells #[.int .i64 t.f0, .string t.f1, .int .i64 t.f2, .string t.f3] 30)).alloc (.cells #[.int .i64 0, .int .i64 0, .string ⟨#[]⟩] 32)) (.cells #[.string ⟨#[]⟩, .int .i64 t.f0, .string t.f1, .int .i64 t.f2, .string t.f3, .bool true, .slice none 0 0] 67); simpa using this)
  have HSl := Aside0.mk (show w.heap.size + 3 ≤ wl.heap.size by rw [hwl]; simp)
  have HR := Aside0.mk (Kd.R_nil k32 32 wl (w.heap.size + 3) (fun k => w.heap.size + 3 ≤ k))
  rw [← hwl]
  clear hwl HG HBr
  go_loopg [24] (m + 1) (fun kq v24 w' => ∃ (j : Nat) (v6 : Value), v24 = .int .i64 (j : Int) ∧ Aside0 (j + kq = m + 1 ∧ j ≤ m) ∧ Aside0 (w'.heap[w.heap.size + 1 + 1]? = some (.cells #[.string ⟨#[]⟩, .int .i64 t.f0, .string t.f1, .int .i64 t.f2, .string t.f3, .bool true, v6] 67 (0, 0))) ∧ Aside0 (w'.heap[w.heap.size + 1]? = some (.cells #[.int .i64 0, .int .i64 0, .string ⟨#[]⟩] 32 (0, 0))) ∧ Aside0 (w'.heap[w.heap.size]? = some (.cells #[.int .i64 t.f0, .string t.f1, .int .i64 t.f2, .string t.f3] 30 (0, 0))) ∧ Aside0 (k32.R 32 w' (w.heap.size + 3) (fun k => w.heap.size + 3 ≤ k) v6 (List.replicate j (emptyL t))) ∧ Aside0 (Below w.heap.size w w') ∧ Aside0 (w.heap.size + 3 ≤ w'.heap.size))
  case atStart => exact ⟨0, _, rfl, ⟨by omega, by omega⟩, HPc, HPr, HPe, HR, HBl, HSl⟩
  case round =>
    clear HPc HPr HPe HR HBl HSl
    obtain ⟨j, v6, rfl, HK1, HPc0, HPr, HPt0, HR0, HBl, HSl⟩ := hrel
    obtain ⟨A6, c6, rfl⟩ := Kd.R_slice HR0.out
    by_cases hj : j < m
    · have hjd : decide ((j : Int) < (m : Int)) = true := decide_eq_true (by omega)
      have hjn : decide (j < m) = true := decide_eq_true hj
      have HMT := Aside0.mk (List.replicate_succ' (n := j) (a := emptyL t))
      have HJ := Aside0.mk hj
      obtain ⟨vals, hvals⟩ : ∃ vals, vals = List.replicate j (emptyL t) := ⟨_, rfl⟩
      have HVL := Aside0.mk (show vals.length ≤ 65536 by rw [hvals, List.length_replicate]; have := HF.out; omega)
      obtain ⟨l6, hl6⟩ : ∃ l6, l6 = (List.replicate j (emptyL t)).length := ⟨_, rfl⟩
      rw [← hl6, ← hvals] at HR0
      rw [← hl6] at HPc0
      rw [← hvals] at HMT
      clear hj hl6 hvals
      go_wp2_with fail
      clear hjd hjn
      obtain ⟨w2, hw2⟩ : ∃ w2 : World, w2 = wr.drew := ⟨_, rfl⟩
      have HPc := Aside0.mk ((congrArg (fun W : World => W.heap[w.heap.size + 1 + 1]?) hw2).trans HPc0.out)
      have HPt := Aside0.mk ((congrArg (fun W : World => W.heap[w.heap.size]?) hw2).trans HPt0.out)
      have HE2 := HPt
      have HR := Aside0.mk (show k32.R 32 w2 (w.heap.size + 3) (fun k => w.heap.size + 3 ≤ k) (.slice A6 l6 c6) vals by rw [hw2]; exact Kd.R_drew HR0.out)
      have HLO := Aside0.mk (show w.heap.size + 3 ≤ w2.heap.size by rw [hw2]; exact HSl.out)
      have HB2 := Aside0.mk (show Below w.heap.size w w2 by rw [hw2]; exact below_drew1 HBl.out)
      have HP2 := Aside0.mk ((congrArg (fun W : World => W.heap[w.heap.size + 1]?) hw2).trans HPr.out)
      have HCB := Aside0.mk (show w.heap.size + 1 + 1 < w.heap.size + 3 by omega)
      clear HPc0 HR0 HPr HBl HSl HPt0
      refine start_ (n := 8) (S := fun w' => w'.cell? ⟨w.heap.size + 1 + 1, 6, none⟩ = some (.slice A6 l6 c6) ∧ w'.cell? ⟨w.heap.size, 0, none⟩ = some (.int .i64 t.f0) ∧ w'.cell? ⟨w.heap.size, 1, none⟩ = some (.string t.f1) ∧ w'.cell? ⟨w.heap.size, 2, none⟩ = some (.int .i64 t.f2) ∧ w'.cell? ⟨w.heap.size, 3, none⟩ = some (.string t.f3)) (ds := [5, 7]) #[false, false, false, false, false, false, false, false] (by kernel_rfl) rfl rfl (by rw [← hw2]; exact ⟨(blk_cell HPc.out 6).trans rfl, (blk_cell HPt.out 0).trans rfl, (blk_cell HPt.out 1).trans rfl, (blk_cell HPt.out 2).trans rfl, (blk_cell HPt.out 3).trans rfl⟩) (fun hHeld => ?_)
      rw [← hw2] at hHeld ⊢; clear hw2
      refine pure_ (i := 0) (N := some 26) (v := ?_) (a' := ?_) #[true, false, false, false, false, false, false, false] rfl rfl (by kernel_rfl) (fun _ _ _ h => h) (Or.inl ⟨by rfl, ?_⟩) ?_ ?_
      rotate_left
      · intro w'
        go_simp
        with_reducible rfl
      rotate_left
      · simp only [Act.put, List.setIfInBounds_toArray, List.set_cons_zero, List.set_cons_succ, i64_w, i32_w]
        rfl
      refine take_ (i := 1) (N := some 27) (v := ?_) (a' := ?_) #[true, true, false, false, false, false, false, false] rfl rfl (by kernel_rfl) (fun _ _ _ h => h) (Or.inl ⟨by rfl, ?_⟩) hHeld ?_ ?_
      rotate_left
      · rintro w' ⟨s0, s1, s2, s3, s4⟩
        go_simp
        with_reducible rfl
      rotate_left
      · simp only [Act.put, List.setIfInBounds_toArray, List.set_cons_zero, List.set_cons_succ, i64_w, i32_w]
        rfl
      refine take_ (i := 2) (N := some 28) (v := ?_) (a' := ?_) #[true, true, true, false, false, false, false, false] rfl rfl (by kernel_rfl) (fun _ _ _ h => h) (Or.inl ⟨by rfl, ?_⟩) hHeld ?_ ?_
      rotate_left
      · rintro w' ⟨s0, s1, s2, s3, s4⟩
        go_simp
        with_reducible rfl
      rotate_left
      · simp only [Act.put, List.setIfInBounds_toArray, List.set_cons_zero, List.set_cons_succ, i64_w, i32_w]
        rfl
      refine one_ (i := 3) (N := some 29) #[true, true, true, true, false, false, false, false] rfl rfl (by kernel_rfl) (by decide) (fun K hK => ?_)
      refine goes_ (f := 26) Try.func26 (by kernel_rfl) rfl #[.agg #[.int .i64 t.f0, .string t.f1, .int .i64 t.f2, .string t.f3]] (by rfl) rfl rfl (by simp [Act.eval]) ?_
      refine (empty_any t HTZ.out _).mono ?_
      rintro e w3 ⟨rfl, hb3⟩
      refine ⟨_, rfl, ?_⟩
      have HB3 := Aside0.mk hb3
      have HPc3 := Aside0.mk (blk_below HPc.out hb3)
      have HPt3 := Aside0.mk (blk_below HPt.out hb3)
      have HR3 := Aside0.mk (Kd.R_below HR.out hb3)
      clear hb3
      refine hK.out _ _ ⟨(blk_cell HPc3.out 6).trans rfl, (blk_cell HPt3.out 0).trans rfl, (blk_cell HPt3.out 1).trans rfl, (blk_cell HPt3.out 2).trans rfl, (blk_cell HPt3.out 3).trans rfl⟩ (fun hHeld => ?_)
      clear hK K
      refine one_ (i := 4) (N := some 30) #[true, true, true, true, true, false, false, false] rfl rfl (by kernel_rfl) (by decide) (fun K hK => ?_)
      refine value_ (v := .slice (some ⟨w3.heap.size, 0, none⟩) 1 1) (w1 := w3.alloc (.cells #[.int .i64 (emptyL t).f0, .int .i64 (emptyL t).f1, .string (emptyL t).f2] 32)) (by rfl) rfl (by go_simp) ?_
      refine hK.out _ _ ⟨(blk_cell (blk_alloc HPc3.out _) 6).trans rfl, (blk_cell (blk_alloc HPt3.out _) 0).trans rfl, (blk_cell (blk_alloc HPt3.out _) 1).trans rfl, (blk_cell (blk_alloc HPt3.out _) 2).trans rfl, (blk_cell (blk_alloc HPt3.out _) 3).trans rfl⟩ (fun hHeld => ?_)
      clear hK K
      refine last_ (i := 5) (N := some 31) #[true, true, true, true, true, true, false, false] rfl rfl (by kernel_rfl) (by decide) (fun K hK => ?_)
      refine Kd.R_append_step k32 (w0 := w2) (w.heap.size + 3) (by rfl) _ _ 38 32 (.agg #[.int .i64 0, .int .i64 0, .string ⟨#[]⟩]) 32 rfl Try.underlying38 info32 rfl (by decide) (by decide) (.slice A6 l6 c6) _ (emptyL t) [.int .i64 (emptyL t).f0, .int .i64 (emptyL t).f1, .string (emptyL t).f2] (fun k => w.heap.size + 3 ≤ k) (fun _ => False) rfl rfl (k32_mkM _ _ _ (emptyL t)) (fun _ h => h.elim) (fun k hk => by have := HLO.out; have := HB3.out.size; omega) HR3.out (HB3.out.mono HLO.out) (by have := HLO.out; have := HB3.out.size; omega) (by have := HVL.out; omega) ?_
      intro v7 w4 hR4 hB4 hg4 hat4
      obtain ⟨A7, c7, rfl⟩ := Kd.R_slice hR4
      obtain ⟨l7, hl7⟩ : ∃ l7, l7 = (vals ++ [(emptyL t)]).length := ⟨_, rfl⟩
      rw [← hl7] at hR4 ⊢
      have HPc4 := Aside0.mk ((hB4.block (w.heap.size + 1 + 1) HCB.out).trans HPc.out)
      have HR4 := Aside0.mk hR4
      have HB4 := Aside0.mk hB4
      have HL7 := Aside0.mk hl7
      have HC4 := Aside0.mk (show w4.cell? ⟨w.heap.size + 1 + 1, 6, none⟩ = some (.slice A6 l6 c6) from (blk_cell HPc4.out 6).trans rfl)
      have HF4 := Aside0.mk (blk_frozen HPc4.out 6)
      clear hR4 hB4 hg4 hat4 hl7
      change K (Act.put _ (some 31) _) _
      refine hK.out _ _ ?_
      clear hK K
      refine pure_ (i := 6) (N := some 32) (v := ?_) (a' := ?_) #[true, true, true, true, true, true, true, false] rfl rfl (by kernel_rfl) (fun _ _ _ h => h) (Or.inl ⟨by rfl, ?_⟩) ?_ ?_
      rotate_left
      · intro w'
        go_simp
        with_reducible rfl
      rotate_left
      · simp only [Act.put, List.setIfInBounds_toArray, List.set_cons_zero, List.set_cons_succ, i64_w, i32_w]
        rfl
      refine last_ (i := 7) (N := none) #[true, true, true, true, true, true, true, true] rfl rfl (by kernel_rfl) (by decide) (fun K hK => ?_)
      have c12 := HC4.out
      have f12 := HF4.out
      refine skip_ (w1 := w4.setCell ⟨w.heap.size + 1 + 1, 6, none⟩ (.slice A7 l7 c7)) (by rfl) rfl (by go_simp) ?_
      refine hK.out _ _ ?_
      clear hK K c12 f12
      refine done_ (by kernel_rfl) ?_
      have HPc5 := Aside0.mk (show (w4.setCell ⟨w.heap.size + 1 + 1, 6, none⟩ (.slice A7 l7 c7)).heap[w.heap.size + 1 + 1]? = some (.cells #[.string ⟨#[]⟩, .int .i64 t.f0, .string t.f1, .int .i64 t.f2, .string t.f3, .bool true, .slice A7 l7 c7] 67 (0, 0)) from blk_put HPc4.out 6 _ rfl)
      have HR5 := Aside0.mk (Kd.R_far (p := ⟨w.heap.size + 1 + 1, 6, none⟩) HR4.out (fun k hk => by have := HCB.out; show k ≠ w.heap.size + 1 + 1; omega) (.slice A7 l7 c7))
      clear HPc4 HR4 HC4 HF4 HPc3 HPt3 HR3 HB3 HPc HPt HR

      have HP5 := Aside0.mk (show (w4.setCell ⟨w.heap.size + 1 + 1, 6, none⟩ (.slice A7 l7 c7)).heap[w.heap.size + 1]? = _ from blk_far ((HB4.out.block (w.heap.size + 1) (by omega)).trans HP2.out) (p := ⟨w.heap.size + 1 + 1, 6, none⟩) (by show w.heap.size + 1 ≠ w.heap.size + 1 + 1; omega) _)
      have HE5 := Aside0.mk (show (w4.setCell ⟨w.heap.size + 1 + 1, 6, none⟩ (.slice A7 l7 c7)).heap[w.heap.size]? = _ from blk_far ((HB4.out.block w.heap.size (by omega)).trans HE2.out) (p := ⟨w.heap.size + 1 + 1, 6, none⟩) (by show w.heap.size ≠ w.heap.size + 1 + 1; omega) _)
      have HB5 := Aside0.mk ((HB2.out.trans (HB4.out.mono (show w.heap.size ≤ w.heap.size + 3 by omega))).setCell (p := ⟨w.heap.size + 1 + 1, 6, none⟩) (by show w.heap.size ≤ w.heap.size + 1 + 1; omega) (.slice A7 l7 c7))
      have HS5 := Aside0.mk (show w.heap.size + 3 ≤ (w4.setCell ⟨w.heap.size + 1 + 1, 6, none⟩ (.slice A7 l7 c7)).heap.size by have h1 := HB4.out.size; have h2 := HLO.out; simp only [World.setCell]; rw [Array.size_modify]; omega)
      clear HB4 HB2 HP2 HLO HE2
      go_wp2_with fail
      go_roundg (m - j)
      case measure => have := HK1.out; omega
      case rel => exact ⟨j + 1, .slice A7 l7 c7, val_succ HJ.out (by have := HF.out; omega), ⟨by have := HK1.out; have := HJ.out; omega, by have := HJ.out; omega⟩, HPc5, HP5, HE5, by rw [HMT.out]; exact HR5, HB5, HS5⟩
    · obtain rfl : j = m := by have := HK1.out; omega
      have hjd : decide ((j : Int) < (j : Int)) = false := decide_eq_false (by omega)
      have hjn : decide (j < j) = false := decide_eq_false (by omega)
      clear hj
      rw [List.length_replicate] at HR0 HPc0
      have l0 : wr.cell? ⟨w.heap.size + 1 + 1, 0, none⟩ = some (.string ⟨#[]⟩) := (blk_cell HPc0.out 0).trans rfl
      have l1 : wr.cell? ⟨w.heap.size + 1 + 1, 1, none⟩ = some (.int .i64 t.f0) := (blk_cell HPc0.out 1).trans rfl
      have l2 : wr.cell? ⟨w.heap.size + 1 + 1, 2, none⟩ = some (.string t.f1) := (blk_cell HPc0.out 2).trans rfl
      have l3 : wr.cell? ⟨w.heap.size + 1 + 1, 3, none⟩ = some (.int .i64 t.f2) := (blk_cell HPc0.out 3).trans rfl
      have l4 : wr.cell? ⟨w.heap.size + 1 + 1, 4, none⟩ = some (.string t.f3) := (blk_cell HPc0.out 4).trans rfl
      have l5 : wr.cell? ⟨w.heap.size + 1 + 1, 5, none⟩ = some (.bool true) := (blk_cell HPc0.out 5).trans rfl
      have l6_ : wr.cell? ⟨w.heap.size + 1 + 1, 6, none⟩ = some (.slice A6 j c6) := (blk_cell HPc0.out 6).trans rfl
      have HX := Aside0.mk (Kd.R_mono (Kd.R_lower (Kd.R_bound HR0.out) (show base ≤ w.heap.size + 3 by have := HLE.out; omega)) (ok' := fun k => w.heap.size + 3 ≤ k) (fun k hk => hk.1))
      have HHW := Aside0.mk (Hp.mono (Hp.below (Hp.bound HH.out) HBl.out) (ok' := fun k => ((ok k ∨ w.heap.size ≤ k) ∧ k ≠ w.heap.size + 1) ∧ ¬ (w.heap.size + 3 ≤ k)) (fun k hk => ⟨⟨.inl hk.1, by have := hk.2.2; omega⟩, by have := hk.2.2; omega⟩))
      have HBB := Aside0.mk (below_then HBW.out HLE.out HBl.out)
      have HTT := Aside0.mk (show tot xs + (List.replicate j (emptyL t)).length ≤ 65536 by rw [List.length_replicate]; exact HF.out.2)
      go_wp2_with (go_at_call 27; (with_reducible refine (add_arr g xs t (List.replicate j (emptyL t)) _ w0 wr base (fun k => (ok k ∨ w.heap.size ≤ k) ∧ k ≠ w.heap.size + 1) (fun k => w.heap.size + 3 ≤ k) HHW.out HX.out (fun k hk => ⟨.inr (by omega), by omega⟩) (fun k hk => ⟨.inr (by have := HSl.out; omega), by have := HSl.out; omega⟩) HBB.out (by have := HLE.out; have := HSl.out; omega) HF.out.1 HTT.out).mono ?_); rintro e w6 ⟨rfl, hh, hb, hk⟩; have HH6 := Aside0.mk hh; have HB6 := Aside0.mk hb; have HK6 := Aside0.mk hk; have HP6 := Aside0.mk (blk_kept HPr.out hk (fun h => h.2 rfl)); have c0_ := (blk_cell HP6.out 0).trans rfl; have c1_ := (blk_cell HP6.out 1).trans rfl; have c2_ := (blk_cell HP6.out 2).trans rfl; have f0_ := blk_frozen HP6.out 0; have f1_ := blk_frozen HP6.out 1; have f2_ := blk_frozen HP6.out 2; clear hh hb hk)
      exact ret_val (w.heap.size + 1) rfl rfl rfl (put3 HP6.out _ _ _) ⟨rfl, Hp.mono (Hp.move HH6.out (fun k hk _ => far3 hk.2 _ _ _)) (fun k hk => hk.1), set3' HB6.out (by have := HLE.out; omega) _ _ _, Kept.then_ (Kept.of_below HBl.out ok) (kept3 HK6.out _ _ _) (fun k hk => by rcases hk with hk | hk; exact (by rcases hk.1 with h | h; exact .inl h; exact .inr h); exact .inr (by omega))⟩
end Go.Proofs.Ytlfkmignkilplaa.PHeapPlays
