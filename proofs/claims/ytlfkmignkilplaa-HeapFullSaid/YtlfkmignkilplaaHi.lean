/- The law HeapFull, walked: it returns true. No condition. -/
import Derived.Test.YtlfkmignkilplaaHh
namespace Go.Proofs.Ytlfkmignkilplaa.PHeapPlays
open Go.RowKit Go.Proofs.YtlfkmignkilplaaW.PrintWords Go.Proofs.YtlfkmignkilplaaW.PrintLast Go.Proofs.YtlfkmignkilplaaW.PrintMore
set_option linter.unusedVariables false
set_option linter.unusedSimpArgs false

theorem info5 : (Try.prog.info? 5).map (fun i => (i.zero, i.size, i.bytes)) = some (some (.int .u8 0), 1, 1) := by kernel_rfl
theorem join_ok (a b : ByteArray) (w : World) (h : a.size + b.size ≤ 1024) :
    Calls Try.prog 17 #[.string a, .string b] w fun e w' => e = .returned (.tuple #[.string (a ++ b), .int .i64 0]) ∧ w = w' := by
  have d1 : decide (1024 < (a.size : Int)) = false := decide_eq_false (by omega)
  have d1n : decide (1024 < a.size) = false := decide_eq_false (by omega)
  have d2 : decide (1024 - (a.size : Int) < (b.size : Int)) = false := decide_eq_false (by omega)
  have h1 : a.size + b.size ≤ 9223372036854775807 := by omega
  have h2 : (a.size : Int) ≤ 1024 := by omega
  have h3 : (0 : Int) ≤ (a.size : Int) := by omega
  have e1 := eq_true h1
  have e2 : decide (a.size + b.size ≤ 9223372036854775807) = true := decide_eq_true h1
  have e3 : (9223372036854775807 < a.size + b.size) = False := eq_false (Nat.not_lt.2 h1)
  clear h1
  go_enter Try.func17, Try.ntmps17
  go_wp2
  go_ret2
  exact ⟨rfl, rfl⟩
theorem join_long (a b : ByteArray) (w : World) (h : 1024 < a.size + b.size) (ha : a.size ≤ 100000) :
    Calls Try.prog 17 #[.string a, .string b] w fun e w' => e = .returned (.tuple #[.string ⟨#[]⟩, .int .i64 2]) ∧ w = w' := by
  have h3 : (0 : Int) ≤ (a.size : Int) := by omega
  have h2 : (a.size : Int) ≤ 100000 := by omega
  by_cases h1 : 1024 < a.size
  · have d1 : decide (1024 < (a.size : Int)) = true := decide_eq_true (by omega)
    have d1n : decide (1024 < a.size) = true := decide_eq_true (by omega)
    go_enter Try.func17, Try.ntmps17
    go_wp2
    go_ret2
    exact ⟨rfl, rfl⟩
  · have d1 : decide (1024 < (a.size : Int)) = false := decide_eq_false (by omega)
    have d1n : decide (1024 < a.size) = false := decide_eq_false (by omega)
    have d2 : decide (1024 - (a.size : Int) < (b.size : Int)) = true := decide_eq_true (by omega)
    go_enter Try.func17, Try.ntmps17
    go_wp2
    go_ret2
    exact ⟨rfl, rfl⟩
def hA : S67 := ⟨⟨#[65]⟩, z30, false, []⟩
theorem tot_hA (j : Nat) : tot (List.replicate j hA) = 0 := by simp [tot, hA]
theorem obj_step (g j : Nat) (w : World) (base : Nat) (h : ∃ ok, Hp w base ok g (List.replicate (min j 4096) hA)) (hj : j < 4096) (hle : base ≤ w.heap.size) :
    Calls Try.prog 6 #[.pointer (some ⟨g, 0, none⟩), .string ⟨#[65]⟩, .slice none 0 0] w fun e w' => ∃ n : Int, e = .returned (.tuple #[.agg #[.int .i64 5, .int .i64 n, .string ⟨#[]⟩], .int .i64 0]) ∧ (∃ ok, Hp w' base ok g (List.replicate (min (j + 1) 4096) hA)) ∧ Below base w w' := by
  obtain ⟨ok, h⟩ := h
  rw [Nat.min_eq_left (by omega)] at h
  refine (object_ok g _ ⟨#[65]⟩ [] none 0 w w base ok h (Kd.C_nil k30 w) (by intro t ht; cases ht) (Below.refl _ _) hle (by simpa using hj) (by rw [tot_hA]; simp)).mono ?_
  rintro e w' ⟨he, hh, hb, hk⟩
  have hm : min (j + 1) 4096 = j + 1 := by omega
  rw [hm, List.replicate_succ']
  exact ⟨_, he, ⟨_, hh⟩, hb⟩
theorem obj_done (g j : Nat) (w : World) (base : Nat) (h : ∃ ok, Hp w base ok g (List.replicate (min j 4096) hA)) (hj : 4096 ≤ j) (hle : base ≤ w.heap.size) :
    Calls Try.prog 6 #[.pointer (some ⟨g, 0, none⟩), .string ⟨#[65]⟩, .slice none 0 0] w fun e w' => e = .returned (.tuple #[.agg #[.int .i64 0, .int .i64 0, .string ⟨#[]⟩], .int .i64 2]) ∧ (∃ ok, Hp w' base ok g (List.replicate (min (j + 1) 4096) hA)) ∧ Below base w w' := by
  obtain ⟨ok, h⟩ := h
  rw [Nat.min_eq_right (by omega)] at h
  refine (object_full g _ ⟨#[65]⟩ 0 none 0 w base ok h (by omega) (Nat.le_of_eq List.length_replicate) (by rw [tot_hA]; omega) (.inr (Nat.le_of_eq List.length_replicate.symm))).mono ?_
  rintro e w' ⟨rfl, hb⟩
  refine ⟨rfl, ⟨ok, ?_⟩, hb.mono hle⟩
  rw [Nat.min_eq_right (by omega)]
  exact h.below hb
/-- Heap k behind the first array, and what the second one answers. -/
theorem arr_one (g m : Nat) (w : World) (h : ∃ ok, Hp w g ok g []) (hm : m ≤ 65536) (hle : g ≤ w.heap.size) :
    Calls Try.prog 9 #[.pointer (some ⟨g, 0, none⟩), .agg #[.int .i64 1, .string ⟨#[]⟩, .int .i64 0, .string ⟨#[32]⟩], .int .i64 (m : Int)] w fun e w' => ∃ n : Int, e = .returned (.tuple #[.agg #[.int .i64 5, .int .i64 n, .string ⟨#[]⟩], .int .i64 0]) ∧ (∃ ok xs, Hp w' g ok g xs ∧ xs.length = 1 ∧ tot xs = m) ∧ Below g w w' := by
  obtain ⟨ok, h⟩ := h
  refine (array_ok g [] ⟨1, ⟨#[]⟩, 0, ⟨#[32]⟩⟩ m w w g ok h (by show (1 : Nat) ≤ _; omega) (Below.refl _ _) hle (by simp) (by simpa [tot] using hm)).mono ?_
  rintro e w' ⟨he, hh, hb, hk⟩
  exact ⟨_, he, ⟨_, _, hh, by simp, by simp [tot]⟩, hb⟩
theorem arr_big (g : Nat) (n : Int) (w : World) (h : ∃ ok, Hp w g ok g []) (hn : 65536 < n) :
    Calls Try.prog 9 #[.pointer (some ⟨g, 0, none⟩), .agg #[.int .i64 1, .string ⟨#[]⟩, .int .i64 0, .string ⟨#[32]⟩], .int .i64 n] w fun e w' => e = .returned (.tuple #[.agg #[.int .i64 0, .int .i64 0, .string ⟨#[]⟩], .int .i64 2]) ∧ (∃ ok, Hp w' g ok g []) ∧ Below w.heap.size w w' := by
  obtain ⟨ok, h⟩ := h
  refine (array_big g [] ⟨1, ⟨#[]⟩, 0, ⟨#[32]⟩⟩ n w g ok hn).mono ?_
  rintro e w' ⟨rfl, hb⟩
  exact ⟨rfl, ⟨ok, h.below hb⟩, hb⟩
theorem arr_two (g m : Nat) (w : World) (h : ∃ ok xs, Hp w g ok g xs ∧ xs.length = 1 ∧ tot xs = m) (hm : m < 65536) (hle : g ≤ w.heap.size) :
    Calls Try.prog 9 #[.pointer (some ⟨g, 0, none⟩), .agg #[.int .i64 1, .string ⟨#[]⟩, .int .i64 0, .string ⟨#[32]⟩], .int .i64 1] w fun e w' => ∃ n : Int, e = .returned (.tuple #[.agg #[.int .i64 5, .int .i64 n, .string ⟨#[]⟩], .int .i64 0]) ∧ Below g w w' := by
  obtain ⟨ok, xs, h, hl, ht⟩ := h
  refine (array_ok g xs ⟨1, ⟨#[]⟩, 0, ⟨#[32]⟩⟩ 1 w w g ok h (by show (1 : Nat) ≤ _; omega) (Below.refl _ _) hle (by omega) (by omega)).mono ?_
  rintro e w' ⟨he, hh, hb, hk⟩
  exact ⟨_, he, hb⟩
theorem arr_none (g : Nat) (w : World) (h : ∃ ok, Hp w g ok g []) (hle : g ≤ w.heap.size) :
    Calls Try.prog 9 #[.pointer (some ⟨g, 0, none⟩), .agg #[.int .i64 1, .string ⟨#[]⟩, .int .i64 0, .string ⟨#[32]⟩], .int .i64 1] w fun e w' => ∃ n : Int, e = .returned (.tuple #[.agg #[.int .i64 5, .int .i64 n, .string ⟨#[]⟩], .int .i64 0]) ∧ Below g w w' := by
  obtain ⟨ok, h⟩ := h
  refine (array_ok g [] ⟨1, ⟨#[]⟩, 0, ⟨#[32]⟩⟩ 1 w w g ok h (by show (1 : Nat) ≤ _; omega) (Below.refl _ _) hle (by simp) (by simp [tot])).mono ?_
  rintro e w' ⟨he, hh, hb, hk⟩
  exact ⟨_, he, hb⟩
theorem arr_full (g : Nat) (w : World) (h : ∃ ok xs, Hp w g ok g xs ∧ xs.length = 1 ∧ tot xs = 65536) (hle : g ≤ w.heap.size) :
    Calls Try.prog 9 #[.pointer (some ⟨g, 0, none⟩), .agg #[.int .i64 1, .string ⟨#[]⟩, .int .i64 0, .string ⟨#[32]⟩], .int .i64 1] w fun e w' => e = .returned (.tuple #[.agg #[.int .i64 0, .int .i64 0, .string ⟨#[]⟩], .int .i64 2]) ∧ Below g w w' := by
  obtain ⟨ok, xs, h, hl, ht⟩ := h
  refine (array_room g xs ⟨1, ⟨#[]⟩, 0, ⟨#[32]⟩⟩ 1 w g ok h (by omega) (by omega) (by omega) (by omega) (.inl (by rw [ht]; decide))).mono ?_
  rintro e w' ⟨rfl, hb⟩
  exact ⟨rfl, hb.mono hle⟩
theorem hp_alloc {w : World} {base g : Nat} {xs : List S67} (h : ∃ ok, Hp w base ok g xs) (o : Obj) : ∃ ok, Hp (w.alloc o) base ok g xs := by
  obtain ⟨ok, h⟩ := h
  exact ⟨ok, h.alloc o⟩
theorem hp2_alloc {w : World} {base g m : Nat} (h : ∃ ok xs, Hp w base ok g xs ∧ xs.length = 1 ∧ tot xs = m) (o : Obj) : ∃ ok xs, Hp (w.alloc o) base ok g xs ∧ xs.length = 1 ∧ tot xs = m := by
  obtain ⟨ok, xs, h, h2⟩ := h
  exact ⟨ok, xs, h.alloc o, h2⟩
theorem le_alloc {a : Nat} {w : World} (h : a ≤ w.heap.size) (o : Obj) : a ≤ (w.alloc o).heap.size := Nat.le_trans h (below_alloc (Below.refl _ _) o).size
theorem size_x : (⟨#[120]⟩ : ByteArray).size = 1 := rfl
theorem size_nums (xs : List Int) : (strOfNums xs).size = xs.length := by simp [strOfNums, ByteArray.size]
theorem make_str (x : Nat) (hx : x ≤ 2000) : ∃ s : ByteArray, s.size = x ∧ ∃ o : Obj, (∀ W : World, (Instr.makeSlice 53 (.int .i64 (x : Int)) (.int .i64 (x : Int))).run Try.prog W = .ok (.slice (some ⟨W.heap.size, 0, none⟩) x x) (W.alloc o)) ∧ (∀ (W : World) (g : Nat), W.heap.size = g → (convert 53 9 (.slice (some ⟨g, 0, none⟩) x x)).run Try.prog (W.alloc o) = .ok (.string s) (W.alloc o)) := by
  refine ⟨strOfNums (List.replicate x 0), by rw [size_nums, List.length_replicate], _, print_make 53 5 .u8 1 Try.underlying53 info5 (by decide) x (by omega), fun W g hg => ?_⟩
  subst hg
  have h := own_made W 0 5 .u8 x (Nat.zero_le _) (by omega)
  have h2 := own_string (P := Try.prog) Try.underlying53 Try.underlying5 Try.underlying9 h
  exact h2
theorem HeapFull_early (a b c : Int) (w : World) (h : a < 0 ∨ 4200 < a ∨ b < 0 ∨ 70000 < b ∨ c < 0 ∨ 2000 < c) :
    Calls Try.prog 4 #[.int .i64 a, .int .i64 b, .int .i64 c] w fun e w' => e = .returned (.bool true) ∧ Below w.heap.size w w' := by
  by_cases g0 : a < 0
  · have d0 : decide (a < 0) = true := decide_eq_true (by omega)
    clear h
    go_enter Try.func4, Try.ntmps4
    go_wp2_with (go_at_call 5; (with_reducible refine (keeps_any w).mono ?_); rintro e w1 ⟨rfl, hb1⟩; have HB1 := Aside0.mk hb1; clear hb1)
    go_ret
    exact ⟨rfl, HB1.out⟩
  by_cases g1 : 4200 < a
  · have d0 : decide (a < 0) = false := decide_eq_false g0
    have d1 : decide (4200 < a) = true := decide_eq_true (by omega)
    clear h
    go_enter Try.func4, Try.ntmps4
    go_wp2_with (go_at_call 5; (with_reducible refine (keeps_any w).mono ?_); rintro e w1 ⟨rfl, hb1⟩; have HB1 := Aside0.mk hb1; clear hb1)
    go_ret
    exact ⟨rfl, HB1.out⟩
  by_cases g2 : b < 0
  · have d0 : decide (a < 0) = false := decide_eq_false g0
    have d1 : decide (4200 < a) = false := decide_eq_false g1
    have d2 : decide (b < 0) = true := decide_eq_true (by omega)
    clear h
    go_enter Try.func4, Try.ntmps4
    go_wp2_with (go_at_call 5; (with_reducible refine (keeps_any w).mono ?_); rintro e w1 ⟨rfl, hb1⟩; have HB1 := Aside0.mk hb1; clear hb1)
    go_ret
    exact ⟨rfl, HB1.out⟩
  by_cases g3 : 70000 < b
  · have d0 : decide (a < 0) = false := decide_eq_false g0
    have d1 : decide (4200 < a) = false := decide_eq_false g1
    have d2 : decide (b < 0) = false := decide_eq_false g2
    have d3 : decide (70000 < b) = true := decide_eq_true (by omega)
    clear h
    go_enter Try.func4, Try.ntmps4
    go_wp2_with (go_at_call 5; (with_reducible refine (keeps_any w).mono ?_); rintro e w1 ⟨rfl, hb1⟩; have HB1 := Aside0.mk hb1; clear hb1)
    go_ret
    exact ⟨rfl, HB1.out⟩
  by_cases g4 : c < 0
  · have d0 : decide (a < 0) = false := decide_eq_false g0
    have d1 : decide (4200 < a) = false := decide_eq_false g1
    have d2 : decide (b < 0) = false := decide_eq_false g2
    have d3 : decide (70000 < b) = false := decide_eq_false g3
    have d4 : decide (c < 0) = true := decide_eq_true (by omega)
    clear h
    go_enter Try.func4, Try.ntmps4
    go_wp2_with (go_at_call 5; (with_reducible refine (keeps_any w).mono ?_); rintro e w1 ⟨rfl, hb1⟩; have HB1 := Aside0.mk hb1; clear hb1)
    go_ret
    exact ⟨rfl, HB1.out⟩
  have d0 : decide (a < 0) = false := decide_eq_false g0
  have d1 : decide (4200 < a) = false := decide_eq_false g1
  have d2 : decide (b < 0) = false := decide_eq_false g2
  have d3 : decide (70000 < b) = false := decide_eq_false g3
  have d4 : decide (c < 0) = false := decide_eq_false g4
  have d5 : decide (2000 < c) = true := decide_eq_true (by omega)
  clear h
  go_enter Try.func4, Try.ntmps4
  go_wp2_with (go_at_call 5; (with_reducible refine (keeps_any w).mono ?_); rintro e w1 ⟨rfl, hb1⟩; have HB1 := Aside0.mk hb1; clear hb1)
  go_ret
  exact ⟨rfl, HB1.out⟩
set_option maxRecDepth 100000 in
set_option maxHeartbeats 8000000 in
theorem HeapFull_late (m c x : Nat) (w : World) (hm : m ≤ 4200) (hc : c ≤ 70000) (hx : x ≤ 2000) :
    Calls Try.prog 4 #[.int .i64 (m : Int), .int .i64 (c : Int), .int .i64 (x : Int)] w fun e w' => e = .returned (.bool true) ∧ Below w.heap.size w w' := by
  have HX := Aside0.mk (And.intro hm (And.intro hc hx))
  have d1 : decide ((m : Int) < 0) = false := decide_eq_false (by omega)
  have d2 : decide (4200 < (m : Int)) = false := decide_eq_false (by omega)
  have d3 : decide ((c : Int) < 0) = false := decide_eq_false (by omega)
  have d4 : decide (70000 < (c : Int)) = false := decide_eq_false (by omega)
  have d5 : decide ((x : Int) < 0) = false := decide_eq_false (by omega)
  have d6 : decide (2000 < (x : Int)) = false := decide_eq_false (by omega)
  clear hm hc hx
  have hu30 := Try.underlying30
  obtain ⟨s, hsz, omk, hmk, hcv⟩ := make_str x (by have := HX.out; omega)
  have HSZ := Aside0.mk hsz
  clear hsz
  go_enter Try.func4, Try.ntmps4
  go_wp2_with (go_at_call 5; (with_reducible refine (keeps_any w).mono ?_); rintro e w1 ⟨rfl, hb1⟩; have HB1 := Aside0.mk hb1; clear hb1)
  clear d1 d2 d3 d4 d5 d6
  obtain ⟨wl, hwl⟩ : ∃ wl : World, wl = w1.alloc (.cells #[.slice none 0 0, .int .i64 0] 26) := ⟨_, rfl⟩
  have HBl := Aside0.mk (show Below w.heap.size w wl by rw [hwl]; exact below_alloc HB1.out _)
  have HHl := Aside0.mk (show ∃ ok, Hp wl w.heap.size ok w1.heap.size (List.replicate (min 0 4096) hA) by rw [hwl]; exact ⟨fun _ => True, Hp.nil (blk_new w1 (.cells #[.slice none 0 0, .int .i64 0] 26)) trivial HB1.out.size⟩)
  rw [← hwl]
  clear hwl
  go_loopg [46] (m + 1) (fun kq v46 w' => ∃ j : Nat, v46 = .int .i64 (j : Int) ∧ Aside0 (j + kq = m + 1 ∧ j ≤ m) ∧ Aside0 (∃ ok, Hp w' w.heap.size ok w1.heap.size (List.replicate (min j 4096) hA)) ∧ Aside0 (Below w.heap.size w w'))
  case atStart => exact ⟨0, rfl, ⟨by omega, by omega⟩, HHl, HBl⟩
  case round =>
    clear HHl HBl
    obtain ⟨j, rfl, HK1, HH, HB⟩ := hrel
    by_cases hj : j < m
    · have hjd : decide ((j : Int) < (m : Int)) = true := decide_eq_true (by omega)
      have hjn : decide (j < m) = true := decide_eq_true hj
      have HJ := Aside0.mk hj
      clear hj
      by_cases h4 : j < 4096
      · have d1 : decide ((j : Int) < 4096) = true := decide_eq_true (by omega)
        have d2 : decide (j < 4096) = true := decide_eq_true h4
        have H4 := Aside0.mk h4
        clear h4
        go_wp2_with (go_at_call 6; (with_reducible refine (obj_step w1.heap.size j wr w.heap.size HH.out H4.out HB.out.size).mono ?_); rintro e w5 ⟨n, rfl, hh, hb⟩; have HH5 := Aside0.mk hh; have HB5 := Aside0.mk (HB.out.trans hb); clear hh hb)
        go_roundg (m - j)
        case measure => have := HK1.out; omega
        case rel => exact ⟨j + 1, val_succ HJ.out (by have := HX.out; omega), ⟨by have := HK1.out; have := HJ.out; omega, by have := HJ.out; omega⟩, ⟨hp_alloc HH5.out _⟩, ⟨below_alloc HB5.out _⟩⟩
      · have d1 : decide ((j : Int) < 4096) = false := decide_eq_false (by omega)
        have d2 : decide (j < 4096) = false := decide_eq_false h4
        have H4 := Aside0.mk (Nat.le_of_not_lt h4)
        clear h4
        go_wp2_with (go_at_call 6; (with_reducible refine (obj_done w1.heap.size j wr w.heap.size HH.out H4.out HB.out.size).mono ?_); rintro e w5 ⟨rfl, hh, hb⟩; have HH5 := Aside0.mk hh; have HB5 := Aside0.mk (HB.out.trans hb); clear hh hb)
        go_roundg (m - j)
        case measure => have := HK1.out; omega
        case rel => exact ⟨j + 1, val_succ HJ.out (by have := HX.out; omega), ⟨by have := HK1.out; have := HJ.out; omega, by have := HJ.out; omega⟩, ⟨hp_alloc HH5.out _⟩, ⟨below_alloc HB5.out _⟩⟩
    · obtain rfl : j = m := by have := HK1.out; omega
      have hjd : decide ((j : Int) < (j : Int)) = false := decide_eq_false (by omega)
      have hjn : decide (j < j) = false := decide_eq_false (by omega)
      clear hj HH
      go_wp2_with fail
      clear hjd hjn
      obtain ⟨wk, hwk⟩ : ∃ wk : World, wk = wr.alloc (.cells #[.slice none 0 0, .int .i64 0] 26) := ⟨_, rfl⟩
      have HBk := Aside0.mk (show Below w.heap.size w wk by rw [hwk]; exact below_alloc HB.out _)
      have HKk := Aside0.mk (show ∃ ok, Hp wk wr.heap.size ok wr.heap.size [] by rw [hwk]; exact ⟨fun _ => True, Hp.nil (blk_new wr (.cells #[.slice none 0 0, .int .i64 0] 26)) trivial (Nat.le_refl _)⟩)
      have HLk := Aside0.mk (show wr.heap.size ≤ wk.heap.size by rw [hwk]; exact le_alloc (Nat.le_refl _) _)
      have HLr := Aside0.mk HB.out.size
      rw [← hwk]
      clear hwk HB
      rcases Nat.lt_trichotomy c 65536 with hc | hc | hc
      · have q1 : decide ((c : Int) ≤ 65536) = true := decide_eq_true (by omega)
        have q1n : decide (c ≤ 65536) = true := decide_eq_true (by omega)
        have q2 : decide ((c : Int) < 65536) = true := decide_eq_true (by omega)
        have q2n : decide (c < 65536) = true := decide_eq_true hc
        have HC := Aside0.mk hc
        clear hc
        go_wp2_with (go_at_call 9; (with_reducible refine (arr_one wr.heap.size c wk HKk.out (by have := HC.out; omega) HLk.out).mono ?_); rintro e w6 ⟨n, rfl, hh, hb⟩; have HH6 := Aside0.mk hh; have HB6 := Aside0.mk (HBk.out.trans (hb.mono HLr.out)); have HL6 := Aside0.mk (Nat.le_trans HLk.out hb.size); clear hh hb)
        go_wp2_with (go_at_call 9; (with_reducible refine (arr_two wr.heap.size c _ (hp2_alloc HH6.out _) HC.out (le_alloc HL6.out _)).mono ?_); rintro e w8 ⟨n2, rfl, hb⟩; have HB8 := Aside0.mk ((below_alloc HB6.out _).trans (hb.mono HLr.out)); clear hb; have hcv2 := hcv (w8.alloc (.cells #[.int .i64 5, .int .i64 n2, .string ⟨#[]⟩] 32)) (w8.heap.size + 1) (by simp))
        clear q1 q1n q2 q2n
        by_cases g0 : 2 * x ≤ 1024
        · have hx1 : (x : Int) ≤ 2000 := by have := HX.out; omega
          have hx0 : 0 ≤ (x : Int) := by omega
          have r1 : decide ((x : Int) < 1024) = true := decide_eq_true (by omega)
          have r1n : decide (x < 1024) = true := decide_eq_true (by omega)
          have r2 : decide (2 * (x : Int) ≤ 1024) = true := decide_eq_true (by omega)
          have r2n : decide (2 * x ≤ 1024) = true := decide_eq_true (by omega)
          have hs1 : s.size + 1 ≤ 9223372036854775807 := by have := HSZ.out; have := HX.out; omega
          have hs2 : s.size + s.size ≤ 9223372036854775807 := by have := HSZ.out; have := HX.out; omega
          have hs3 := eq_true hs1
          have hs4 := eq_true hs2
          have hs5 : (9223372036854775807 < s.size + 1) = False := eq_false (Nat.not_lt.2 hs1)
          have hs6 : (9223372036854775807 < s.size + s.size) = False := eq_false (Nat.not_lt.2 hs2)
          clear hs1 hs2
          have H4 := Aside0.mk (show 2 * x ≤ 1024 from g0)
          clear g0
          go_wp2_with fail
          go_wp2_with (go_at_call 17; (with_reducible refine (join_ok s ⟨#[120]⟩ _ (by have h1 := HSZ.out; have h2 := H4.out; rw [size_x]; omega)).mono ?_); rintro e w' ⟨rfl, rfl⟩)
          go_wp2_with (go_at_call 17; (with_reducible refine (join_ok s s _ (by have h1 := HSZ.out; have h2 := H4.out; omega)).mono ?_); rintro e w' ⟨rfl, rfl⟩)
          go_ret
          exact ⟨rfl, below_alloc (below_alloc HB8.out _) omk⟩
        by_cases g1 : x < 1024
        · have hx1 : (x : Int) ≤ 2000 := by have := HX.out; omega
          have hx0 : 0 ≤ (x : Int) := by omega
          have r1 : decide ((x : Int) < 1024) = true := decide_eq_true (by omega)
          have r1n : decide (x < 1024) = true := decide_eq_true (by omega)
          have r2 : decide (2 * (x : Int) ≤ 1024) = false := decide_eq_false (by omega)
          have r2n : decide (2 * x ≤ 1024) = false := decide_eq_false (by omega)
          have hs1 : s.size + 1 ≤ 9223372036854775807 := by have := HSZ.out; have := HX.out; omega
          have hs2 : s.size + s.size ≤ 9223372036854775807 := by have := HSZ.out; have := HX.out; omega
          have hs3 := eq_true hs1
          have hs4 := eq_true hs2
          have hs5 : (9223372036854775807 < s.size + 1) = False := eq_false (Nat.not_lt.2 hs1)
          have hs6 : (9223372036854775807 < s.size + s.size) = False := eq_false (Nat.not_lt.2 hs2)
          clear hs1 hs2
          have H4 := Aside0.mk (show 512 < x ∧ x < 1024 by omega)
          clear g0
          clear g1
          go_wp2_with fail
          go_wp2_with (go_at_call 17; (with_reducible refine (join_ok s ⟨#[120]⟩ _ (by have h1 := HSZ.out; have h2 := H4.out; rw [size_x]; omega)).mono ?_); rintro e w' ⟨rfl, rfl⟩)
          go_wp2_with (go_at_call 17; (with_reducible refine (join_long s s _ (by have h1 := HSZ.out; have h2 := H4.out; omega) (by have h1 := HSZ.out; have h2 := HX.out; omega)).mono ?_); rintro e w' ⟨rfl, rfl⟩)
          go_ret
          exact ⟨rfl, below_alloc (below_alloc HB8.out _) omk⟩
        have hx1 : (x : Int) ≤ 2000 := by have := HX.out; omega
        have hx0 : 0 ≤ (x : Int) := by omega
        have r1 : decide ((x : Int) < 1024) = false := decide_eq_false (by omega)
        have r1n : decide (x < 1024) = false := decide_eq_false (by omega)
        have r2 : decide (2 * (x : Int) ≤ 1024) = false := decide_eq_false (by omega)
        have r2n : decide (2 * x ≤ 1024) = false := decide_eq_false (by omega)
        have hs1 : s.size + 1 ≤ 9223372036854775807 := by have := HSZ.out; have := HX.out; omega
        have hs2 : s.size + s.size ≤ 9223372036854775807 := by have := HSZ.out; have := HX.out; omega
        have hs3 := eq_true hs1
        have hs4 := eq_true hs2
        have hs5 : (9223372036854775807 < s.size + 1) = False := eq_false (Nat.not_lt.2 hs1)
        have hs6 : (9223372036854775807 < s.size + s.size) = False := eq_false (Nat.not_lt.2 hs2)
        clear hs1 hs2
        have H4 := Aside0.mk (show 1024 ≤ x by omega)
        clear g0
        clear g1
        go_wp2_with fail
        go_wp2_with (go_at_call 17; (with_reducible refine (join_long s ⟨#[120]⟩ _ (by have h1 := HSZ.out; have h2 := H4.out; rw [size_x]; omega) (by have h1 := HSZ.out; have h2 := HX.out; omega)).mono ?_); rintro e w' ⟨rfl, rfl⟩)
        go_wp2_with (go_at_call 17; (with_reducible refine (join_long s s _ (by have h1 := HSZ.out; have h2 := H4.out; omega) (by have h1 := HSZ.out; have h2 := HX.out; omega)).mono ?_); rintro e w' ⟨rfl, rfl⟩)
        go_ret
        exact ⟨rfl, below_alloc (below_alloc HB8.out _) omk⟩
      · have q1 : decide ((c : Int) ≤ 65536) = true := decide_eq_true (by omega)
        have q1n : decide (c ≤ 65536) = true := decide_eq_true (by omega)
        have q2 : decide ((c : Int) < 65536) = false := decide_eq_false (by omega)
        have q2n : decide (c < 65536) = false := decide_eq_false (by omega)
        have HC := Aside0.mk hc
        clear hc
        go_wp2_with (go_at_call 9; (with_reducible refine (arr_one wr.heap.size c wk HKk.out (by have := HC.out; omega) HLk.out).mono ?_); rintro e w6 ⟨n, rfl, hh, hb⟩; have HH6 := Aside0.mk (HC.out ▸ hh); have HB6 := Aside0.mk (HBk.out.trans (hb.mono HLr.out)); have HL6 := Aside0.mk (Nat.le_trans HLk.out hb.size); clear hh hb)
        go_wp2_with (go_at_call 9; (with_reducible refine (arr_full wr.heap.size _ (hp2_alloc HH6.out _) (le_alloc HL6.out _)).mono ?_); rintro e w8 ⟨rfl, hb⟩; have HB8 := Aside0.mk ((below_alloc HB6.out _).trans (hb.mono HLr.out)); clear hb; have hcv2 := hcv (w8.alloc (.cells #[.int .i64 0, .int .i64 0, .string ⟨#[]⟩] 32)) (w8.heap.size + 1) (by simp))
        clear q1 q1n q2 q2n
        by_cases g0 : 2 * x ≤ 1024
        · have hx1 : (x : Int) ≤ 2000 := by have := HX.out; omega
          have hx0 : 0 ≤ (x : Int) := by omega
          have r1 : decide ((x : Int) < 1024) = true := decide_eq_true (by omega)
          have r1n : decide (x < 1024) = true := decide_eq_true (by omega)
          have r2 : decide (2 * (x : Int) ≤ 1024) = true := decide_eq_true (by omega)
          have r2n : decide (2 * x ≤ 1024) = true := decide_eq_true (by omega)
          have hs1 : s.size + 1 ≤ 9223372036854775807 := by have := HSZ.out; have := HX.out; omega
          have hs2 : s.size + s.size ≤ 9223372036854775807 := by have := HSZ.out; have := HX.out; omega
          have hs3 := eq_true hs1
          have hs4 := eq_true hs2
          have hs5 : (9223372036854775807 < s.size + 1) = False := eq_false (Nat.not_lt.2 hs1)
          have hs6 : (9223372036854775807 < s.size + s.size) = False := eq_false (Nat.not_lt.2 hs2)
          clear hs1 hs2
          have H4 := Aside0.mk (show 2 * x ≤ 1024 from g0)
          clear g0
          go_wp2_with fail
          go_wp2_with (go_at_call 17; (with_reducible refine (join_ok s ⟨#[120]⟩ _ (by have h1 := HSZ.out; have h2 := H4.out; rw [size_x]; omega)).mono ?_); rintro e w' ⟨rfl, rfl⟩)
          go_wp2_with (go_at_call 17; (with_reducible refine (join_ok s s _ (by have h1 := HSZ.out; have h2 := H4.out; omega)).mono ?_); rintro e w' ⟨rfl, rfl⟩)
          go_ret
          exact ⟨rfl, below_alloc (below_alloc HB8.out _) omk⟩
        by_cases g1 : x < 1024
        · have hx1 : (x : Int) ≤ 2000 := by have := HX.out; omega
          have hx0 : 0 ≤ (x : Int) := by omega
          have r1 : decide ((x : Int) < 1024) = true := decide_eq_true (by omega)
          have r1n : decide (x < 1024) = true := decide_eq_true (by omega)
          have r2 : decide (2 * (x : Int) ≤ 1024) = false := decide_eq_false (by omega)
          have r2n : decide (2 * x ≤ 1024) = false := decide_eq_false (by omega)
          have hs1 : s.size + 1 ≤ 9223372036854775807 := by have := HSZ.out; have := HX.out; omega
          have hs2 : s.size + s.size ≤ 9223372036854775807 := by have := HSZ.out; have := HX.out; omega
          have hs3 := eq_true hs1
          have hs4 := eq_true hs2
          have hs5 : (9223372036854775807 < s.size + 1) = False := eq_false (Nat.not_lt.2 hs1)
          have hs6 : (9223372036854775807 < s.size + s.size) = False := eq_false (Nat.not_lt.2 hs2)
          clear hs1 hs2
          have H4 := Aside0.mk (show 512 < x ∧ x < 1024 by omega)
          clear g0
          clear g1
          go_wp2_with fail
          go_wp2_with (go_at_call 17; (with_reducible refine (join_ok s ⟨#[120]⟩ _ (by have h1 := HSZ.out; have h2 := H4.out; rw [size_x]; omega)).mono ?_); rintro e w' ⟨rfl, rfl⟩)
          go_wp2_with (go_at_call 17; (with_reducible refine (join_long s s _ (by have h1 := HSZ.out; have h2 := H4.out; omega) (by have h1 := HSZ.out; have h2 := HX.out; omega)).mono ?_); rintro e w' ⟨rfl, rfl⟩)
          go_ret
          exact ⟨rfl, below_alloc (below_alloc HB8.out _) omk⟩
        have hx1 : (x : Int) ≤ 2000 := by have := HX.out; omega
        have hx0 : 0 ≤ (x : Int) := by omega
        have r1 : decide ((x : Int) < 1024) = false := decide_eq_false (by omega)
        have r1n : decide (x < 1024) = false := decide_eq_false (by omega)
        have r2 : decide (2 * (x : Int) ≤ 1024) = false := decide_eq_false (by omega)
        have r2n : decide (2 * x ≤ 1024) = false := decide_eq_false (by omega)
        have hs1 : s.size + 1 ≤ 9223372036854775807 := by have := HSZ.out; have := HX.out; omega
        have hs2 : s.size + s.size ≤ 9223372036854775807 := by have := HSZ.out; have := HX.out; omega
        have hs3 := eq_true hs1
        have hs4 := eq_true hs2
        have hs5 : (9223372036854775807 < s.size + 1) = False := eq_false (Nat.not_lt.2 hs1)
        have hs6 : (9223372036854775807 < s.size + s.size) = False := eq_false (Nat.not_lt.2 hs2)
        clear hs1 hs2
        have H4 := Aside0.mk (show 1024 ≤ x by omega)
        clear g0
        clear g1
        go_wp2_with fail
        go_wp2_with (go_at_call 17; (with_reducible refine (join_long s ⟨#[120]⟩ _ (by have h1 := HSZ.out; have h2 := H4.out; rw [size_x]; omega) (by have h1 := HSZ.out; have h2 := HX.out; omega)).mono ?_); rintro e w' ⟨rfl, rfl⟩)
        go_wp2_with (go_at_call 17; (with_reducible refine (join_long s s _ (by have h1 := HSZ.out; have h2 := H4.out; omega) (by have h1 := HSZ.out; have h2 := HX.out; omega)).mono ?_); rintro e w' ⟨rfl, rfl⟩)
        go_ret
        exact ⟨rfl, below_alloc (below_alloc HB8.out _) omk⟩
      · have q1 : decide ((c : Int) ≤ 65536) = false := decide_eq_false (by omega)
        have q1n : decide (c ≤ 65536) = false := decide_eq_false (by omega)
        have HC := Aside0.mk hc
        clear hc
        go_wp2_with (go_at_call 9; (with_reducible refine (arr_big wr.heap.size (c : Int) wk HKk.out (by have := HC.out; omega)).mono ?_); rintro e w6 ⟨rfl, hh, hb⟩; have HH6 := Aside0.mk hh; have HB6 := Aside0.mk (below_then HBk.out HBk.out.size hb); have HL6 := Aside0.mk (Nat.le_trans HLk.out hb.size); clear hh hb)
        go_wp2_with (go_at_call 9; (with_reducible refine (arr_none wr.heap.size _ (hp_alloc HH6.out _) (le_alloc HL6.out _)).mono ?_); rintro e w8 ⟨n2, rfl, hb⟩; have HB8 := Aside0.mk ((below_alloc HB6.out _).trans (hb.mono HLr.out)); clear hb; have hcv2 := hcv (w8.alloc (.cells #[.int .i64 5, .int .i64 n2, .string ⟨#[]⟩] 32)) (w8.heap.size + 1) (by simp))
        clear q1 q1n
        by_cases g0 : 2 * x ≤ 1024
        · have hx1 : (x : Int) ≤ 2000 := by have := HX.out; omega
          have hx0 : 0 ≤ (x : Int) := by omega
          have r1 : decide ((x : Int) < 1024) = true := decide_eq_true (by omega)
          have r1n : decide (x < 1024) = true := decide_eq_true (by omega)
          have r2 : decide (2 * (x : Int) ≤ 1024) = true := decide_eq_true (by omega)
          have r2n : decide (2 * x ≤ 1024) = true := decide_eq_true (by omega)
          have hs1 : s.size + 1 ≤ 9223372036854775807 := by have := HSZ.out; have := HX.out; omega
          have hs2 : s.size + s.size ≤ 9223372036854775807 := by have := HSZ.out; have := HX.out; omega
          have hs3 := eq_true hs1
          have hs4 := eq_true hs2
          have hs5 : (9223372036854775807 < s.size + 1) = False := eq_false (Nat.not_lt.2 hs1)
          have hs6 : (9223372036854775807 < s.size + s.size) = False := eq_false (Nat.not_lt.2 hs2)
          clear hs1 hs2
          have H4 := Aside0.mk (show 2 * x ≤ 1024 from g0)
          clear g0
          go_wp2_with fail
          go_wp2_with (go_at_call 17; (with_reducible refine (join_ok s ⟨#[120]⟩ _ (by have h1 := HSZ.out; have h2 := H4.out; rw [size_x]; omega)).mono ?_); rintro e w' ⟨rfl, rfl⟩)
          go_wp2_with (go_at_call 17; (with_reducible refine (join_ok s s _ (by have h1 := HSZ.out; have h2 := H4.out; omega)).mono ?_); rintro e w' ⟨rfl, rfl⟩)
          go_ret
          exact ⟨rfl, below_alloc (below_alloc HB8.out _) omk⟩
        by_cases g1 : x < 1024
        · have hx1 : (x : Int) ≤ 2000 := by have := HX.out; omega
          have hx0 : 0 ≤ (x : Int) := by omega
          have r1 : decide ((x : Int) < 1024) = true := decide_eq_true (by omega)
          have r1n : decide (x < 1024) = true := decide_eq_true (by omega)
          have r2 : decide (2 * (x : Int) ≤ 1024) = false := decide_eq_false (by omega)
          have r2n : decide (2 * x ≤ 1024) = false := decide_eq_false (by omega)
          have hs1 : s.size + 1 ≤ 9223372036854775807 := by have := HSZ.out; have := HX.out; omega
          have hs2 : s.size + s.size ≤ 9223372036854775807 := by have := HSZ.out; have := HX.out; omega
          have hs3 := eq_true hs1
          have hs4 := eq_true hs2
          have hs5 : (9223372036854775807 < s.size + 1) = False := eq_false (Nat.not_lt.2 hs1)
          have hs6 : (9223372036854775807 < s.size + s.size) = False := eq_false (Nat.not_lt.2 hs2)
          clear hs1 hs2
          have H4 := Aside0.mk (show 512 < x ∧ x < 1024 by omega)
          clear g0
          clear g1
          go_wp2_with fail
          go_wp2_with (go_at_call 17; (with_reducible refine (join_ok s ⟨#[120]⟩ _ (by have h1 := HSZ.out; have h2 := H4.out; rw [size_x]; omega)).mono ?_); rintro e w' ⟨rfl, rfl⟩)
          go_wp2_with (go_at_call 17; (with_reducible refine (join_long s s _ (by have h1 := HSZ.out; have h2 := H4.out; omega) (by have h1 := HSZ.out; have h2 := HX.out; omega)).mono ?_); rintro e w' ⟨rfl, rfl⟩)
          go_ret
          exact ⟨rfl, below_alloc (below_alloc HB8.out _) omk⟩
        have hx1 : (x : Int) ≤ 2000 := by have := HX.out; omega
        have hx0 : 0 ≤ (x : Int) := by omega
        have r1 : decide ((x : Int) < 1024) = false := decide_eq_false (by omega)
        have r1n : decide (x < 1024) = false := decide_eq_false (by omega)
        have r2 : decide (2 * (x : Int) ≤ 1024) = false := decide_eq_false (by omega)
        have r2n : decide (2 * x ≤ 1024) = false := decide_eq_false (by omega)
        have hs1 : s.size + 1 ≤ 9223372036854775807 := by have := HSZ.out; have := HX.out; omega
        have hs2 : s.size + s.size ≤ 9223372036854775807 := by have := HSZ.out; have := HX.out; omega
        have hs3 := eq_true hs1
        have hs4 := eq_true hs2
        have hs5 : (9223372036854775807 < s.size + 1) = False := eq_false (Nat.not_lt.2 hs1)
        have hs6 : (9223372036854775807 < s.size + s.size) = False := eq_false (Nat.not_lt.2 hs2)
        clear hs1 hs2
        have H4 := Aside0.mk (show 1024 ≤ x by omega)
        clear g0
        clear g1
        go_wp2_with fail
        go_wp2_with (go_at_call 17; (with_reducible refine (join_long s ⟨#[120]⟩ _ (by have h1 := HSZ.out; have h2 := H4.out; rw [size_x]; omega) (by have h1 := HSZ.out; have h2 := HX.out; omega)).mono ?_); rintro e w' ⟨rfl, rfl⟩)
        go_wp2_with (go_at_call 17; (with_reducible refine (join_long s s _ (by have h1 := HSZ.out; have h2 := H4.out; omega) (by have h1 := HSZ.out; have h2 := HX.out; omega)).mono ?_); rintro e w' ⟨rfl, rfl⟩)
        go_ret
        exact ⟨rfl, below_alloc (below_alloc HB8.out _) omk⟩
theorem HeapFull_any (a b c : Int) (w : World) : Calls Try.prog 4 #[.int .i64 a, .int .i64 b, .int .i64 c] w fun e w' => e = .returned (.bool true) ∧ Below w.heap.size w w' := by
  by_cases h : a < 0 ∨ 4200 < a ∨ b < 0 ∨ 70000 < b ∨ c < 0 ∨ 2000 < c
  · exact HeapFull_early a b c w h
  · obtain ⟨m, rfl⟩ : ∃ m : Nat, a = (m : Int) := ⟨a.toNat, by omega⟩
    obtain ⟨n, rfl⟩ : ∃ n : Nat, b = (n : Int) := ⟨b.toNat, by omega⟩
    obtain ⟨x, rfl⟩ : ∃ x : Nat, c = (x : Int) := ⟨c.toNat, by omega⟩
    exact HeapFull_late m n x w (by omega) (by omega) (by omega)
end Go.Proofs.Ytlfkmignkilplaa.PHeapPlays
