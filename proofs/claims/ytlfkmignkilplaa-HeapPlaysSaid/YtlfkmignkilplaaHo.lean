/- HeapPlays: an object. No condition. -/
import Derived.Test.YtlfkmignkilplaaHl
import Derived.Deep.RegionHeld3
namespace Go.Proofs.Ytlfkmignkilplaa.PHeapPlays
open Go.RowKit Go.Proofs.YtlfkmignkilplaaW.PrintWords Go.Proofs.YtlfkmignkilplaaW.PrintLast Go.Proofs.YtlfkmignkilplaaW.PrintMore
set_option linter.unusedVariables false
set_option linter.unusedSimpArgs false

attribute [local go_sem high] eqA32
set_option maxRecDepth 1000000 in
set_option maxHeartbeats 4000000 in
theorem a_object_full (w wq : World) (l : List S34) (A : Option Addr) (c hb j N ob : Nat) (v : Value) (xs : List S67) (o : S34) (B : Option Addr) (cB : Nat) (u : Nat → Value) (Q : Exit → Act → World → Prop)
    (hQ : ∀ a w', PE w l A c hb j a w' → Q .normal a w') (hC : ∀ a w', PE w l A c hb j a w' → Q (.exit 1) a w') (hR : ∀ a w', PR w a w' → Q .ret a w') (hP : ∀ c a N v w', Q (.panic c) (Act.put a N v) w' → Q (.panic c) a w')
    (hx : Bx wq ob o B cB) (hN : N ≤ ob) (hS : St w wq N hb v xs xs) (hl : xs.length ≤ j) (hj : j < 40) (ht : tot xs ≤ 65536) (hw : WF xs) (hk : o.f0 = 0) (hf : 65536 < tot xs + o.f2.length) (hn : o.f2.length ≤ 20)  (th : Bool) :
    Code.wp Try.prog B4 Q ⟨#[.slice A l.length c, undef, u 2, .pointer (some ⟨hb, 0, none⟩), v, .int .i64 ((tot xs : Nat) : Int), undef, .pointer (some ⟨ob, 0, none⟩), undef, u 9, .bool th, u 11, u 12, u 13, undef, u 15, u 16, u 17, u 18, u 19, u 20, u 21, undef, undef, undef, undef, undef, undef, undef, undef, undef, undef, undef, .bool true, .bool false, .slice A l.length c, .int .i64 (l.length : Int), .bool false, .slice A l.length c, .int .i64 (l.length : Int), .int .i64 (j : Int), u 41, u 42, u 43, u 44, u 45, u 46, u 47, u 48, u 49, u 50, u 51, u 52, u 53, u 54, u 55, u 56, u 57, u 58, u 59, u 60, u 61, u 62, u 63, u 64, u 65, u 66, u 67, u 68, u 69, u 70, u 71, u 72, u 73, u 74, u 75, u 76, u 77, u 78, u 79, u 80, u 81, u 82, u 83, u 84, u 85, u 86, u 87, u 88, u 89, u 90, u 91, .int .i64 o.f0, u 93, u 94, u 95, u 96, u 97, u 98, u 99, u 100, u 101, u 102, u 103, u 104, u 105, u 106, u 107, u 108, u 109, u 110, u 111, u 112, u 113, u 114, u 115, u 116, u 117, u 118, u 119, u 120, u 121, u 122, u 123, u 124, u 125, u 126, u 127, u 128, u 129, u 130, u 131, u 132, u 133, u 134, u 135, u 136, u 137, u 138, u 139, u 140, u 141, u 142, u 143, u 144, u 145, u 146, u 147, u 148, u 149, u 150, u 151, u 152, u 153, u 154, u 155, u 156, u 157, u 158, u 159, u 160, u 161, u 162, u 163, u 164, u 165, u 166, u 167, u 168, u 169, u 170, u 171, u 172, u 173, u 174, u 175, u 176, u 177, u 178, u 179, u 180, u 181, u 182, u 183, u 184, u 185, u 186, u 187, u 188, u 189, u 190, u 191, u 192, u 193, u 194, u 195, u 196, u 197, u 198, u 199, u 200, u 201, u 202, u 203, u 204, u 205, u 206, u 207, u 208, u 209, u 210, u 211, u 212, u 213, u 214, u 215, u 216, u 217, u 218, u 219, u 220, u 221, u 222, u 223, u 224, u 225, u 226, u 227, u 228, u 229, u 230, u 231, u 232, u 233, u 234, u 235, u 236, u 237, u 238, u 239, u 240, u 241, u 242, u 243, u 244, u 245, u 246, u 247, u 248, u 249, u 250, u 251, u 252, u 253, u 254, u 255, u 256, u 257, u 258, u 259, u 260, u 261, u 262, u 263, u 264, u 265, u 266, u 267, u 268, u 269, u 270, u 271, u 272, u 273, u 274, u 275, u 276, u 277, u 278, u 279, u 280, u 281, u 282, u 283, u 284, u 285, u 286, u 287, u 288, u 289, u 290, u 291, u 292, u 293, u 294, u 295, u 296, u 297, u 298, u 299, u 300, u 301, u 302, u 303, u 304, u 305, u 306, u 307, u 308, u 309, u 310, u 311, u 312, u 313, u 314, u 315, u 316, u 317, u 318, u 319, u 320, u 321, u 322, u 323, u 324, u 325, u 326, u 327, u 328, u 329, u 330, u 331, undef, undef, undef, undef, undef, undef, undef, undef, undef, undef, undef, undef, undef, undef, undef, undef, undef, undef, undef, undef, undef, undef, undef, undef, undef, undef, undef, undef, undef, undef, undef, undef, undef, undef, undef, undef, undef, undef, undef, undef, undef, undef, undef, undef, undef, undef, undef, undef, undef, undef, undef, undef, undef, undef, undef, undef, undef, undef, undef, undef, undef, undef, undef, undef, undef, undef, undef, undef, undef, undef, undef, undef, undef, undef, undef, undef, undef, undef, undef, undef, undef, undef, undef, undef, undef, undef], []⟩ wq := by
  conv => arg 2; whnf
  obtain ⟨q0, q1, q2, q3, q4, q5, q6, q7, q8, q9, q10, q11, q12, q13⟩ := hx.cells
  rw [hk] at q0 ⊢
  clear hk
  have HX := Aside0.mk hx
  have HW0 := Aside0.mk hw
  clear hw
  have HS := Aside0.mk hS
  have HF := Aside0.mk (And.intro hl (And.intro hj (And.intro ht hN)))
  have hu30 := Try.underlying30
  have hu32 := Try.underlying32
  have hu34 := Try.underlying34
  have hu40 := Try.underlying40
  clear hx hS hl hj ht hN
  have HFN := Aside0.mk (And.intro hf hn)
  have d1 : decide (65536 < ((tot xs : Nat) : Int) + (o.f2.length : Int)) = true := decide_eq_true (by omega)
  have e1 : (0 : Int) ≤ ((tot xs : Nat) : Int) := by omega
  have e2 : ((tot xs : Nat) : Int) ≤ 65536 := by have := HF.out; omega
  have e3 : (0 : Int) ≤ (o.f2.length : Int) := by omega
  have e4 : (o.f2.length : Int) ≤ 20 := by omega
  clear hf hn
  go_wp2_with (go_at_call 6; (with_reducible refine (HS.out.objectFull o.f1 o.f2.length B cB (by have := HFN.out; omega) (by have := HF.out; omega) (by have := HF.out; omega) HFN.out.1).mono ?_); rintro e w6 ⟨rfl, hs, hb1⟩; have HS6 := Aside0.mk hs; have HX6 := Aside0.mk (HX.out.below hb1); clear hs hb1; clear q0 q1 q2 q3 q4 q5 q6 q7 q8 q9 q10 q11 q12 q13; obtain ⟨q0, q1, q2, q3, q4, q5, q6, q7, q8, q9, q10, q11, q12, q13⟩ := (HX6.out.alloc (.cells #[.int .i64 0, .int .i64 0, .string ⟨#[]⟩] 32)).cells)
  exact hC _ _ (PE_mk v N xs ⟨by have := HF.out; omega, HS6.out.alloc _, by have := HF.out; omega, HW0.out⟩ (by kernel_rfl))

attribute [local go_sem high] eqA32
set_option maxRecDepth 1000000 in
set_option maxHeartbeats 4000000 in
theorem a_object_ok (w wq : World) (l : List S34) (A : Option Addr) (c hb j N ob : Nat) (v : Value) (xs : List S67) (o : S34) (B : Option Addr) (cB : Nat) (u : Nat → Value) (Q : Exit → Act → World → Prop)
    (hQ : ∀ a w', PE w l A c hb j a w' → Q .normal a w') (hC : ∀ a w', PE w l A c hb j a w' → Q (.exit 1) a w') (hR : ∀ a w', PR w a w' → Q .ret a w') (hP : ∀ c a N v w', Q (.panic c) (Act.put a N v) w' → Q (.panic c) a w')
    (hx : Bx wq ob o B cB) (hN : N ≤ ob) (hS : St w wq N hb v xs xs) (hl : xs.length ≤ j) (hj : j < 40) (ht : tot xs ≤ 65536) (hw : WF xs) (hk : o.f0 = 0) (hf : tot xs + o.f2.length ≤ 65536) (hn : o.f2.length ≤ 20) (hr : Kd.C k30 w B o.f2.length o.f2) (hz : ∀ t ∈ o.f2, t.f3.size ≤ 50)  (th : Bool) :
    Code.wp Try.prog B4 Q ⟨#[.slice A l.length c, undef, u 2, .pointer (some ⟨hb, 0, none⟩), v, .int .i64 ((tot xs : Nat) : Int), undef, .pointer (some ⟨ob, 0, none⟩), undef, u 9, .bool th, u 11, u 12, u 13, undef, u 15, u 16, u 17, u 18, u 19, u 20, u 21, undef, undef, undef, undef, undef, undef, undef, undef, undef, undef, undef, .bool true, .bool false, .slice A l.length c, .int .i64 (l.length : Int), .bool false, .slice A l.length c, .int .i64 (l.length : Int), .int .i64 (j : Int), u 41, u 42, u 43, u 44, u 45, u 46, u 47, u 48, u 49, u 50, u 51, u 52, u 53, u 54, u 55, u 56, u 57, u 58, u 59, u 60, u 61, u 62, u 63, u 64, u 65, u 66, u 67, u 68, u 69, u 70, u 71, u 72, u 73, u 74, u 75, u 76, u 77, u 78, u 79, u 80, u 81, u 82, u 83, u 84, u 85, u 86, u 87, u 88, u 89, u 90, u 91, .int .i64 o.f0, u 93, u 94, u 95, u 96, u 97, u 98, u 99, u 100, u 101, u 102, u 103, u 104, u 105, u 106, u 107, u 108, u 109, u 110, u 111, u 112, u 113, u 114, u 115, u 116, u 117, u 118, u 119, u 120, u 121, u 122, u 123, u 124, u 125, u 126, u 127, u 128, u 129, u 130, u 131, u 132, u 133, u 134, u 135, u 136, u 137, u 138, u 139, u 140, u 141, u 142, u 143, u 144, u 145, u 146, u 147, u 148, u 149, u 150, u 151, u 152, u 153, u 154, u 155, u 156, u 157, u 158, u 159, u 160, u 161, u 162, u 163, u 164, u 165, u 166, u 167, u 168, u 169, u 170, u 171, u 172, u 173, u 174, u 175, u 176, u 177, u 178, u 179, u 180, u 181, u 182, u 183, u 184, u 185, u 186, u 187, u 188, u 189, u 190, u 191, u 192, u 193, u 194, u 195, u 196, u 197, u 198, u 199, u 200, u 201, u 202, u 203, u 204, u 205, u 206, u 207, u 208, u 209, u 210, u 211, u 212, u 213, u 214, u 215, u 216, u 217, u 218, u 219, u 220, u 221, u 222, u 223, u 224, u 225, u 226, u 227, u 228, u 229, u 230, u 231, u 232, u 233, u 234, u 235, u 236, u 237, u 238, u 239, u 240, u 241, u 242, u 243, u 244, u 245, u 246, u 247, u 248, u 249, u 250, u 251, u 252, u 253, u 254, u 255, u 256, u 257, u 258, u 259, u 260, u 261, u 262, u 263, u 264, u 265, u 266, u 267, u 268, u 269, u 270, u 271, u 272, u 273, u 274, u 275, u 276, u 277, u 278, u 279, u 280, u 281, u 282, u 283, u 284, u 285, u 286, u 287, u 288, u 289, u 290, u 291, u 292, u 293, u 294, u 295, u 296, u 297, u 298, u 299, u 300, u 301, u 302, u 303, u 304, u 305, u 306, u 307, u 308, u 309, u 310, u 311, u 312, u 313, u 314, u 315, u 316, u 317, u 318, u 319, u 320, u 321, u 322, u 323, u 324, u 325, u 326, u 327, u 328, u 329, u 330, u 331, undef, undef, undef, undef, undef, undef, undef, undef, undef, undef, undef, undef, undef, undef, undef, undef, undef, undef, undef, undef, undef, undef, undef, undef, undef, undef, undef, undef, undef, undef, undef, undef, undef, undef, undef, undef, undef, undef, undef, undef, undef, undef, undef, undef, undef, undef, undef, undef, undef, undef, undef, undef, undef, undef, undef, undef, undef, undef, undef, undef, undef, undef, undef, undef, undef, undef, undef, undef, undef, undef, undef, undef, undef, undef, undef, undef, undef, undef, undef, undef, undef, undef, undef, undef, undef, undef], []⟩ wq := by
  conv => arg 2; whnf
  obtain ⟨q0, q1, q2, q3, q4, q5, q6, q7, q8, q9, q10, q11, q12, q13⟩ := hx.cells
  rw [hk] at q0 ⊢
  clear hk
  have HX := Aside0.mk hx
  have HW0 := Aside0.mk hw
  clear hw
  have HS := Aside0.mk hS
  have HF := Aside0.mk (And.intro hl (And.intro hj (And.intro ht hN)))
  have hu30 := Try.underlying30
  have hu32 := Try.underlying32
  have hu34 := Try.underlying34
  have hu40 := Try.underlying40
  clear hx hS hl hj ht hN
  obtain ⟨Av, cv, rfl, hcv⟩ := HS.out.slice
  have HFN := Aside0.mk (And.intro hf hn)
  have HRD := Aside0.mk hr
  have HZ := Aside0.mk hz
  have d1 : decide (65536 < ((tot xs : Nat) : Int) + (o.f2.length : Int)) = false := decide_eq_false (by omega)
  have e1 : (0 : Int) ≤ ((tot xs : Nat) : Int) := by omega
  have e2 : ((tot xs : Nat) : Int) ≤ 65536 := by have := HF.out; omega
  have e3 : (0 : Int) ≤ (o.f2.length : Int) := by omega
  have e4 : (o.f2.length : Int) ≤ 20 := by omega
  clear hf hn hr hz
  go_wp2_with (go_at_call 6; (with_reducible refine (HS.out.object o.f1 o.f2 B cB (Kd.C_below HRD.out HS.out.bel) (fun t h => Nat.le_trans (HZ.out t h) (by omega)) (by have := HF.out; omega) HFN.out.1).mono ?_); rintro e w6 ⟨rfl, hs, hb1, hk⟩; have HS6 := Aside0.mk hs; have HB6 := Aside0.mk hb1; have HX6 := Aside0.mk (show Bx w6 ob o B cB from (hk ob HF.out.2.2.2 (blk_lt HX.out)).trans HX.out); clear hs hb1 hk; clear q0 q1 q2 q3 q4 q5 q6 q7 q8 q9 q10 q11 q12 q13; obtain ⟨q0, q1, q2, q3, q4, q5, q6, q7, q8, q9, q10, q11, q12, q13⟩ := HX6.out.cells; have hob := blk_lt HX6.out; have hob1 : ob < w6.heap.size + 1 := by omega)
  clear hob hob1
  clear q0 q1 q2 q3 q4 q5 q6 q7 q8 q9 q10 q11 q12 q13
  obtain ⟨wl, hwl⟩ : ∃ wl : World, wl = (w6.alloc (.cells #[.int .i64 5, .int .i64 ((xs.length : Nat) : Int), .string ⟨#[]⟩] 32)).alloc (.cells #[.string o.f1, .int .i64 0, .string ⟨#[]⟩, .int .i64 0, .string ⟨#[]⟩, .bool false, .slice none 0 0] 40) := ⟨_, rfl⟩
  have HMl := Aside0.mk (show ∀ k, k < w6.heap.size → wl.heap[k]? = w6.heap[k]? from fun k hk => by rw [hwl]; exact (below_alloc (below_alloc (Below.refl w6.heap.size w6) _) _).block k hk)
  have HPv := Aside0.mk (show wl.heap[w6.heap.size]? = some (.cells #[.int .i64 5, .int .i64 ((xs.length : Nat) : Int), .string ⟨#[]⟩] 32 (0, 0)) by rw [hwl]; exact blk_alloc (blk_new w6 (.cells #[.int .i64 5, .int .i64 ((xs.length : Nat) : Int), .string ⟨#[]⟩] 32)) _)
  have HPc := Aside0.mk (show wl.heap[w6.heap.size + 1]? = some (.cells #[.string o.f1, .int .i64 0, .string ⟨#[]⟩, .int .i64 0, .string ⟨#[]⟩, .bool false, .slice none 0 0] 40 (0, 0)) by rw [hwl]; have := blk_new (w6.alloc (.cells #[.int .i64 5, .int .i64 ((xs.length : Nat) : Int), .string ⟨#[]⟩] 32)) (.cells #[.string o.f1, .int .i64 0, .string ⟨#[]⟩, .int .i64 0, .string ⟨#[]⟩, .bool false, .slice none 0 0] 40); simpa using this)
  have HSl := Aside0.mk (show w6.heap.size + 2 ≤ wl.heap.size by rw [hwl]; simp)
  have HBl := Aside0.mk (show Below w.heap.size w wl by rw [hwl]; exact below_alloc (below_alloc HS6.out.bel _) _)
  have HR := Aside0.mk (Kd.R_nil k32 32 wl (w6.heap.size + 2) (fun k => w6.heap.size + 2 ≤ k))
  have HO6 := Aside0.mk (show wq.heap.size ≤ w6.heap.size from HB6.out.size)
  have HX6l := Aside0.mk (blk_lt HX6.out)
  rw [← hwl]
  clear hwl d1 e1 e2 e3 e4
  have e4 : (o.f2.length : Int) ≤ 20 := by have := HFN.out; omega
  go_loopg [162] (o.f2.length + 1) (fun kq v162 w' => ∃ (k : Nat) (v6 : Value), v162 = .int .i64 (k : Int) ∧ Aside0 (k + kq = o.f2.length + 1 ∧ k ≤ o.f2.length) ∧ Aside0 (w'.heap[w6.heap.size + 1]? = some (.cells #[.string o.f1, .int .i64 0, .string ⟨#[]⟩, .int .i64 0, .string ⟨#[]⟩, .bool false, v6] 40 (0, 0))) ∧ Aside0 (w'.heap[w6.heap.size]? = some (.cells #[.int .i64 5, .int .i64 ((xs.length : Nat) : Int), .string ⟨#[]⟩] 32 (0, 0))) ∧ Aside0 (k32.R 32 w' (w6.heap.size + 2) (fun k => w6.heap.size + 2 ≤ k) v6 ((o.f2.take k).map emptyL)) ∧ Aside0 (Below w.heap.size w w') ∧ Aside0 (w6.heap.size + 2 ≤ w'.heap.size) ∧ Aside0 (∀ k, k < w6.heap.size → w'.heap[k]? = w6.heap[k]?))
  case atStart => exact ⟨0, _, rfl, ⟨by omega, by omega⟩, HPc, HPv, by simpa using HR, HBl, HSl, HMl⟩
  case round =>
    clear HPc HPv HR HBl HSl HMl
    obtain ⟨k, v6, rfl, HK1, HPc0, HPv, HR0, HBl, HSl, HMl⟩ := hrel
    obtain ⟨A6, c6, rfl⟩ := Kd.R_slice HR0.out
    have HLB := Aside0.mk (Nat.lt_of_lt_of_le HX6l.out (show w6.heap.size ≤ wr.heap.size by have := HSl.out; omega))
    have HXr := Aside0.mk (show Bx wr ob o B cB from (HMl.out ob HX6l.out).trans HX6.out)
    by_cases hj : k < o.f2.length
    · have hjd : decide ((k : Int) < (o.f2.length : Int)) = true := decide_eq_true (by omega)
      have hjn : decide (k < o.f2.length) = true := decide_eq_true hj
      have hj0 : 0 ≤ (k : Int) := by omega
      have hj1 : (k : Int) < (o.f2.length : Int) := by omega
      obtain ⟨ade, eade, x0, x1, x2, x3⟩ := at_T30 HRD.out (k : Int) hj0 hj1
      obtain ⟨t, he⟩ : ∃ t, t = rd_T30 o.f2 (k : Int) := ⟨_, rfl⟩
      have HTZ := Aside0.mk (show t.f3.size ≤ 140737488351232 by rw [he]; have := HZ.out _ (rd_T30_mem hj); omega)
      have HMT := Aside0.mk (show (o.f2.take (k + 1)).map emptyL = (o.f2.take k).map emptyL ++ [emptyL t] by rw [he]; exact map_take_succ hj)
      rw [← he] at x0 x1 x2 x3
      simp only [Int.toNat_natCast] at x0 x1 x2 x3
      replace x0 := (HBl.out.cell (World.block_lt_of_cell? w _ x0)).trans x0
      replace x1 := (HBl.out.cell (World.block_lt_of_cell? w _ x1)).trans x1
      replace x2 := (HBl.out.cell (World.block_lt_of_cell? w _ x2)).trans x2
      replace x3 := (HBl.out.cell (World.block_lt_of_cell? w _ x3)).trans x3
      have HJ := Aside0.mk hj
      obtain ⟨vals, hvals⟩ : ∃ vals, vals = (o.f2.take k).map emptyL := ⟨_, rfl⟩
      have HVL := Aside0.mk (show vals.length ≤ 65536 by rw [hvals, List.length_map, List.length_take]; have := HFN.out; omega)
      obtain ⟨l6, hl6⟩ : ∃ l6, l6 = ((o.f2.take k).map emptyL).length := ⟨_, rfl⟩
      rw [← hl6, ← hvals] at HR0
      rw [← hl6] at HPc0
      rw [← hvals] at HMT
      clear he hj hl6 hvals
      subst eade
      go_wp2_with fail
      clear x0 x1 x2 x3 hj0 hj1 hjd hjn
      obtain ⟨w2, hw2⟩ : ∃ w2 : World, w2 = (wr.alloc (.cells #[.int .i64 t.f0, .string t.f1, .int .i64 t.f2, .string t.f3] 30)).drew := ⟨_, rfl⟩
      have HPc := Aside0.mk ((congrArg (fun W : World => W.heap[w6.heap.size + 1]?) hw2).trans (blk_alloc HPc0.out (.cells #[.int .i64 t.f0, .string t.f1, .int .i64 t.f2, .string t.f3] 30)))
      have HPt := Aside0.mk ((congrArg (fun W : World => W.heap[wr.heap.size]?) hw2).trans (blk_new wr (.cells #[.int .i64 t.f0, .string t.f1, .int .i64 t.f2, .string t.f3] 30)))
      have HR := Aside0.mk (show k32.R 32 w2 (w6.heap.size + 2) (fun k => w6.heap.size + 2 ≤ k) (.slice A6 l6 c6) vals by rw [hw2]; exact Kd.R_drew (Kd.R_alloc HR0.out _))
      have HLO := Aside0.mk (show w6.heap.size + 2 ≤ w2.heap.size by rw [hw2]; have := HSl.out; show _ ≤ (wr.alloc _).heap.size; simp; omega)
      have HB2 := Aside0.mk (show Below w.heap.size w w2 by rw [hw2]; exact below_drew1 (below_alloc HBl.out _))
      have HP2 := Aside0.mk ((congrArg (fun W : World => W.heap[w6.heap.size]?) hw2).trans (blk_alloc HPv.out (.cells #[.int .i64 t.f0, .string t.f1, .int .i64 t.f2, .string t.f3] 30)))
      have HM2 := Aside0.mk (show ∀ k, k < w6.heap.size → w2.heap[k]? = w6.heap[k]? from fun k hk => ((congrArg (fun W : World => W.heap[k]?) hw2).trans ((below_alloc (Below.refl wr.heap.size wr) (.cells #[.int .i64 t.f0, .string t.f1, .int .i64 t.f2, .string t.f3] 30)).block k (by have := HSl.out; omega))).trans (HMl.out k hk))
      have HCB := Aside0.mk (show w6.heap.size + 1 < w6.heap.size + 2 by omega)
      have HW6 := Aside0.mk (show w.heap.size ≤ w6.heap.size from HS6.out.bel.size)
      clear HPc0 HR0 HPv HBl HSl HMl HXr
      refine start_ (n := 8) (S := fun w' => w'.cell? ⟨w6.heap.size + 1, 6, none⟩ = some (.slice A6 l6 c6) ∧ w'.cell? ⟨wr.heap.size, 0, none⟩ = some (.int .i64 t.f0) ∧ w'.cell? ⟨wr.heap.size, 1, none⟩ = some (.string t.f1) ∧ w'.cell? ⟨wr.heap.size, 2, none⟩ = some (.int .i64 t.f2) ∧ w'.cell? ⟨wr.heap.size, 3, none⟩ = some (.string t.f3)) (ds := [5, 7]) #[false, false, false, false, false, false, false, false] (by kernel_rfl) rfl rfl (by rw [← hw2]; exact ⟨(blk_cell HPc.out 6).trans rfl, (blk_cell HPt.out 0).trans rfl, (blk_cell HPt.out 1).trans rfl, (blk_cell HPt.out 2).trans rfl, (blk_cell HPt.out 3).trans rfl⟩) (fun hHeld => ?_)
      rw [← hw2] at hHeld ⊢; clear hw2
      refine pure_ (i := 0) (N := some 166) (v := ?_) (a' := ?_) #[true, false, false, false, false, false, false, false] rfl rfl (by kernel_rfl) (fun _ _ _ h => hP _ _ _ _ _ h) (Or.inl ⟨by rfl, ?_⟩) ?_ ?_
      rotate_left
      · intro w'
        go_simp
        with_reducible rfl
      rotate_left
      · simp only [Act.put, List.setIfInBounds_toArray, List.set_cons_zero, List.set_cons_succ, i64_w, i32_w]
        rfl
      refine take_ (i := 1) (N := some 167) (v := ?_) (a' := ?_) #[true, true, false, false, false, false, false, false] rfl rfl (by kernel_rfl) (fun _ _ _ h => hP _ _ _ _ _ h) (Or.inl ⟨by rfl, ?_⟩) hHeld ?_ ?_
      rotate_left
      · rintro w' ⟨s0, s1, s2, s3, s4⟩
        go_simp
        with_reducible rfl
      rotate_left
      · simp only [Act.put, List.setIfInBounds_toArray, List.set_cons_zero, List.set_cons_succ, i64_w, i32_w]
        rfl
      refine take_ (i := 2) (N := some 168) (v := ?_) (a' := ?_) #[true, true, true, false, false, false, false, false] rfl rfl (by kernel_rfl) (fun _ _ _ h => hP _ _ _ _ _ h) (Or.inl ⟨by rfl, ?_⟩) hHeld ?_ ?_
      rotate_left
      · rintro w' ⟨s0, s1, s2, s3, s4⟩
        go_simp
        with_reducible rfl
      rotate_left
      · simp only [Act.put, List.setIfInBounds_toArray, List.set_cons_zero, List.set_cons_succ, i64_w, i32_w]
        rfl
      refine one_ (i := 3) (N := some 169) #[true, true, true, true, false, false, false, false] rfl rfl (by kernel_rfl) (by decide) (fun K hK => ?_)
      refine goes_ (f := 7) Try.func7 (by kernel_rfl) rfl #[.agg #[.int .i64 t.f0, .string t.f1, .int .i64 t.f2, .string t.f3]] (by rfl) rfl rfl (by simp [Act.eval]) ?_
      refine (empty_law t HTZ.out _).mono ?_
      rintro e w3 ⟨rfl, hb3⟩
      refine ⟨_, rfl, ?_⟩
      have HB3 := Aside0.mk hb3
      have HPc3 := Aside0.mk (blk_below HPc.out hb3)
      have HPt3 := Aside0.mk (blk_below HPt.out hb3)
      have HR3 := Aside0.mk (Kd.R_below HR.out hb3)
      clear hb3
      refine hK.out _ _ ⟨(blk_cell HPc3.out 6).trans rfl, (blk_cell HPt3.out 0).trans rfl, (blk_cell HPt3.out 1).trans rfl, (blk_cell HPt3.out 2).trans rfl, (blk_cell HPt3.out 3).trans rfl⟩ (fun hHeld => ?_)
      clear hK K
      refine one_ (i := 4) (N := some 170) #[true, true, true, true, true, false, false, false] rfl rfl (by kernel_rfl) (by decide) (fun K hK => ?_)
      refine value_ (v := .slice (some ⟨w3.heap.size, 0, none⟩) 1 1) (w1 := w3.alloc (.cells #[.int .i64 (emptyL t).f0, .int .i64 (emptyL t).f1, .string (emptyL t).f2] 32)) (by rfl) rfl (by go_simp) ?_
      refine hK.out _ _ ⟨(blk_cell (blk_alloc HPc3.out _) 6).trans rfl, (blk_cell (blk_alloc HPt3.out _) 0).trans rfl, (blk_cell (blk_alloc HPt3.out _) 1).trans rfl, (blk_cell (blk_alloc HPt3.out _) 2).trans rfl, (blk_cell (blk_alloc HPt3.out _) 3).trans rfl⟩ (fun hHeld => ?_)
      clear hK K
      refine last_ (i := 5) (N := some 171) #[true, true, true, true, true, true, false, false] rfl rfl (by kernel_rfl) (by decide) (fun K hK => ?_)
      refine Kd.R_append_step k32 (w0 := w2) (w6.heap.size + 2) (by rfl) _ _ 38 32 (.agg #[.int .i64 0, .int .i64 0, .string ⟨#[]⟩]) 32 rfl Try.underlying38 info32 rfl (by decide) (by decide) (.slice A6 l6 c6) _ (emptyL t) [.int .i64 (emptyL t).f0, .int .i64 (emptyL t).f1, .string (emptyL t).f2] (fun k => w6.heap.size + 2 ≤ k) (fun _ => False) rfl rfl (k32_mkM _ _ _ (emptyL t)) (fun _ h => h.elim) (fun k hk => by have := HLO.out; have := HB3.out.size; omega) HR3.out (HB3.out.mono HLO.out) (by have := HLO.out; have := HB3.out.size; omega) (by have := HVL.out; omega) ?_
      intro v7 w4 hR4 hB4 hg4 hat4
      obtain ⟨A7, c7, rfl⟩ := Kd.R_slice hR4
      obtain ⟨l7, hl7⟩ : ∃ l7, l7 = (vals ++ [(emptyL t)]).length := ⟨_, rfl⟩
      rw [← hl7] at hR4 ⊢
      have HPc4 := Aside0.mk ((hB4.block (w6.heap.size + 1) HCB.out).trans HPc.out)
      have HR4 := Aside0.mk hR4
      have HB4 := Aside0.mk hB4
      have HL7 := Aside0.mk hl7
      have HC4 := Aside0.mk (show w4.cell? ⟨w6.heap.size + 1, 6, none⟩ = some (.slice A6 l6 c6) from (blk_cell HPc4.out 6).trans rfl)
      have HF4 := Aside0.mk (blk_frozen HPc4.out 6)
      clear hR4 hB4 hg4 hat4 hl7
      change K (Act.put _ (some 171) _) _
      refine hK.out _ _ ?_
      clear hK K
      refine pure_ (i := 6) (N := some 172) (v := ?_) (a' := ?_) #[true, true, true, true, true, true, true, false] rfl rfl (by kernel_rfl) (fun _ _ _ h => hP _ _ _ _ _ h) (Or.inl ⟨by rfl, ?_⟩) ?_ ?_
      rotate_left
      · intro w'
        go_simp
        with_reducible rfl
      rotate_left
      · simp only [Act.put, List.setIfInBounds_toArray, List.set_cons_zero, List.set_cons_succ, i64_w, i32_w]
        rfl
      refine last_ (i := 7) (N := none) #[true, true, true, true, true, true, true, true] rfl rfl (by kernel_rfl) (by decide) (fun K hK => ?_)
      have c12 := HC4.out
      have f12 := HF4.out
      refine skip_ (w1 := w4.setCell ⟨w6.heap.size + 1, 6, none⟩ (.slice A7 l7 c7)) (by rfl) rfl (by go_simp) ?_
      refine hK.out _ _ ?_
      clear hK K c12 f12
      refine done_ (by kernel_rfl) ?_
      have HPc5 := Aside0.mk (show (w4.setCell ⟨w6.heap.size + 1, 6, none⟩ (.slice A7 l7 c7)).heap[w6.heap.size + 1]? = some (.cells #[.string o.f1, .int .i64 0, .string ⟨#[]⟩, .int .i64 0, .string ⟨#[]⟩, .bool false, .slice A7 l7 c7] 40 (0, 0)) from blk_put HPc4.out 6 _ rfl)
      have HR5 := Aside0.mk (Kd.R_far (p := ⟨w6.heap.size + 1, 6, none⟩) HR4.out (fun k hk => by have := HCB.out; show k ≠ w6.heap.size + 1; omega) (.slice A7 l7 c7))
      clear HPc4 HR4 HC4 HF4 HPc3 HPt3 HR3 HB3 HPc HPt HR

      have HP5 := Aside0.mk (show (w4.setCell ⟨w6.heap.size + 1, 6, none⟩ (.slice A7 l7 c7)).heap[w6.heap.size]? = _ from blk_far ((HB4.out.block w6.heap.size (by omega)).trans HP2.out) (p := ⟨w6.heap.size + 1, 6, none⟩) (by show w6.heap.size ≠ w6.heap.size + 1; omega) _)
      have HB5 := Aside0.mk ((HB2.out.trans (HB4.out.mono (show w.heap.size ≤ w6.heap.size + 2 by have := HW6.out; omega))).setCell (p := ⟨w6.heap.size + 1, 6, none⟩) (by have := HW6.out; show w.heap.size ≤ w6.heap.size + 1; omega) (.slice A7 l7 c7))
      have HS5 := Aside0.mk (show w6.heap.size + 2 ≤ (w4.setCell ⟨w6.heap.size + 1, 6, none⟩ (.slice A7 l7 c7)).heap.size by have h1 := HB4.out.size; have h2 := HLO.out; simp only [World.setCell]; rw [Array.size_modify]; omega)
      have HM5 := Aside0.mk (show ∀ k, k < w6.heap.size → (w4.setCell ⟨w6.heap.size + 1, 6, none⟩ (.slice A7 l7 c7)).heap[k]? = w6.heap[k]? from fun k hk => (Below.heap_setCell _ _ _ _ (show k ≠ w6.heap.size + 1 by omega)).trans ((HB4.out.block k (by omega)).trans (HM2.out k hk)))
      clear HB4 HB2 HP2 HLO HM2
      go_wp2_with fail
      go_roundg (o.f2.length - k)
      case measure => have := HK1.out; omega
      case rel => exact ⟨k + 1, .slice A7 l7 c7, val_succ HJ.out (by have := HFN.out; omega), ⟨by have := HK1.out; have := HJ.out; omega, by have := HJ.out; omega⟩, HPc5, HP5, by rw [HMT.out]; exact HR5, HB5, HS5, HM5⟩
    · obtain rfl : k = o.f2.length := by have := HK1.out; omega
      have hjd : decide ((o.f2.length : Int) < (o.f2.length : Int)) = false := decide_eq_false (by omega)
      have hjn : decide (o.f2.length < o.f2.length) = false := decide_eq_false (by omega)
      clear hj
      rw [List.take_length, List.length_map] at HR0 HPc0
      go_wp2_with fail
      clear hjd hjn e4
      obtain ⟨w2, hw2⟩ : ∃ w2 : World, w2 = wr.drew := ⟨_, rfl⟩
      have HPc2 := Aside0.mk ((congrArg (fun W : World => W.heap[w6.heap.size + 1]?) hw2).trans HPc0.out)
      have HPv2 := Aside0.mk ((congrArg (fun W : World => W.heap[w6.heap.size]?) hw2).trans HPv.out)
      have HR2 := Aside0.mk (show k32.R 32 w2 (w6.heap.size + 2) (fun k => w6.heap.size + 2 ≤ k) (.slice A6 o.f2.length c6) (o.f2.map emptyL) by rw [hw2]; exact Kd.R_drew HR0.out)
      have HB2 := Aside0.mk (show Below w.heap.size w w2 by rw [hw2]; exact below_drew1 HBl.out)
      have HM2 := Aside0.mk (show ∀ k, k < w6.heap.size → w2.heap[k]? = w6.heap[k]? from fun k hk => (congrArg (fun W : World => W.heap[k]?) hw2).trans (HMl.out k hk))
      have HS2 := Aside0.mk (show w6.heap.size + 2 ≤ w2.heap.size by rw [hw2]; exact HSl.out)
      refine start_ (n := 9) (S := fun w' => w'.cell? ⟨w6.heap.size, 0, none⟩ = some (.int .i64 5) ∧ w'.cell? ⟨w6.heap.size, 1, none⟩ = some (.int .i64 ((xs.length : Nat) : Int)) ∧ w'.cell? ⟨w6.heap.size, 2, none⟩ = some (.string ⟨#[]⟩)) (ds := []) #[false, false, false, false, false, false, false, false, false] (by kernel_rfl) rfl rfl (by rw [← hw2]; exact ⟨(blk_cell HPv2.out 0).trans rfl, (blk_cell HPv2.out 1).trans rfl, (blk_cell HPv2.out 2).trans rfl⟩) (fun hHeld => ?_)
      rw [← hw2] at hHeld ⊢; clear hw2
      refine pure_ (i := 0) (N := some 174) (v := ?_) (a' := ?_) #[true, false, false, false, false, false, false, false, false] rfl rfl (by kernel_rfl) (fun _ _ _ h => hP _ _ _ _ _ h) (Or.inl ⟨by rfl, ?_⟩) ?_ ?_
      rotate_left
      · intro w'
        go_simp
        with_reducible rfl
      rotate_left
      · simp only [Act.put, List.setIfInBounds_toArray, List.set_cons_zero, List.set_cons_succ, i64_w, i32_w]
        rfl
      refine pure_ (i := 1) (N := some 175) (v := ?_) (a' := ?_) #[true, true, false, false, false, false, false, false, false] rfl rfl (by kernel_rfl) (fun _ _ _ h => hP _ _ _ _ _ h) (Or.inl ⟨by rfl, ?_⟩) ?_ ?_
      rotate_left
      · intro w'
        go_simp
        with_reducible rfl
      rotate_left
      · simp only [Act.put, List.setIfInBounds_toArray, List.set_cons_zero, List.set_cons_succ, i64_w, i32_w]
        rfl
      refine pure_ (i := 2) (N := some 176) (v := ?_) (a' := ?_) #[true, true, true, false, false, false, false, false, false] rfl rfl (by kernel_rfl) (fun _ _ _ h => hP _ _ _ _ _ h) (Or.inl ⟨by rfl, ?_⟩) ?_ ?_
      rotate_left
      · intro w'
        go_simp
        with_reducible rfl
      rotate_left
      · simp only [Act.put, List.setIfInBounds_toArray, List.set_cons_zero, List.set_cons_succ, i64_w, i32_w]
        rfl
      refine take_ (i := 3) (N := some 177) (v := ?_) (a' := ?_) #[true, true, true, true, false, false, false, false, false] rfl rfl (by kernel_rfl) (fun _ _ _ h => hP _ _ _ _ _ h) (Or.inl ⟨by rfl, ?_⟩) hHeld ?_ ?_
      rotate_left
      · rintro w' ⟨s0, s1, s2⟩
        go_simp
        with_reducible rfl
      rotate_left
      · simp only [Act.put, List.setIfInBounds_toArray, List.set_cons_zero, List.set_cons_succ, i64_w, i32_w]
        rfl
      refine pure_ (i := 4) (N := some 178) (v := ?_) (a' := ?_) #[true, true, true, true, true, false, false, false, false] rfl rfl (by kernel_rfl) (fun _ _ _ h => hP _ _ _ _ _ h) (Or.inl ⟨by rfl, ?_⟩) ?_ ?_
      rotate_left
      · intro w'
        go_simp
        with_reducible rfl
      rotate_left
      · simp only [Act.put, List.setIfInBounds_toArray, List.set_cons_zero, List.set_cons_succ, i64_w, i32_w]
        rfl
      refine pure_ (i := 5) (N := some 179) (v := ?_) (a' := ?_) #[true, true, true, true, true, true, false, false, false] rfl rfl (by kernel_rfl) (fun _ _ _ h => hP _ _ _ _ _ h) (Or.inl ⟨by rfl, ?_⟩) ?_ ?_
      rotate_left
      · intro w'
        go_simp
        with_reducible rfl
      rotate_left
      · simp only [Act.put, List.setIfInBounds_toArray, List.set_cons_zero, List.set_cons_succ, i64_w, i32_w]
        rfl
      refine one_ (i := 6) (N := some 180) #[true, true, true, true, true, true, true, false, false] rfl rfl (by kernel_rfl) (by decide) (fun K hK => ?_)
      refine goes_ (f := 8) Try.func8 (by kernel_rfl) rfl #[.int .i64 ((xs.length : Nat) : Int)] (by rfl) rfl rfl (by simp [Act.eval]) ?_
      refine (at_any _ _).mono ?_
      rintro e w9 ⟨rfl, hb⟩
      refine ⟨_, rfl, ?_⟩
      have HPv9 := Aside0.mk (blk_below HPv2.out hb)
      have HPc9 := Aside0.mk (blk_below HPc2.out hb)
      have HR9 := Aside0.mk (Kd.R_below HR2.out hb)
      have HB9 := Aside0.mk (below_then HB2.out HB2.out.size hb)
      have HM9 := Aside0.mk (show ∀ k, k < w6.heap.size → w9.heap[k]? = w6.heap[k]? from fun k hk => (hb.block k (by have := HS2.out; omega)).trans (HM2.out k hk))
      have HS9 := Aside0.mk (Nat.le_trans HS2.out hb.size)
      clear hb
      refine hK.out _ _ ⟨(blk_cell HPv9.out 0).trans rfl, (blk_cell HPv9.out 1).trans rfl, (blk_cell HPv9.out 2).trans rfl⟩ (fun hHeld => ?_)
      clear hK K
      refine pure_ (i := 7) (N := some 181) (v := ?_) (a' := ?_) #[true, true, true, true, true, true, true, true, false] rfl rfl (by kernel_rfl) (fun _ _ _ h => hP _ _ _ _ _ h) (Or.inl ⟨by rfl, ?_⟩) ?_ ?_
      rotate_left
      · intro w'
        go_simp
        with_reducible rfl
      rotate_left
      · simp only [Act.put, List.setIfInBounds_toArray, List.set_cons_zero, List.set_cons_succ, i64_w, i32_w]
        rfl
      refine pure_ (i := 8) (N := some 182) (v := ?_) (a' := ?_) #[true, true, true, true, true, true, true, true, true] rfl rfl (by kernel_rfl) (fun _ _ _ h => hP _ _ _ _ _ h) (Or.inl ⟨by rfl, ?_⟩) ?_ ?_
      rotate_left
      · intro w'
        go_simp
        with_reducible rfl
      rotate_left
      · simp only [Act.put, List.setIfInBounds_toArray, List.set_cons_zero, List.set_cons_succ, i64_w, i32_w]
        rfl
      refine done_ (by kernel_rfl) ?_
      clear HPc0 HPv HR0 HBl HSl HMl HPc2 HPv2 HR2 HB2 HM2 HS2
      obtain ⟨X, hX⟩ : ∃ X : S67, X = ⟨o.f1, z30, false, o.f2.map emptyL⟩ := ⟨_, rfl⟩
      have HW9 := Aside0.mk (show St w w9 w6.heap.size hb _ (xs ++ [X]) xs by rw [hX]; exact HS6.out.keep HM9.out HB9.out (by have := HS9.out; omega))
      have HMX := Aside0.mk (show k67.M w9 w.heap.size (fun k => w6.heap.size ≤ k) X [.string o.f1, .int .i64 0, .string ⟨#[]⟩, .int .i64 0, .string ⟨#[]⟩, .bool false, .slice A6 o.f2.length c6] by rw [hX]; exact k67_mkM _ _ _ (⟨o.f1, z30, false, o.f2.map emptyL⟩ : S67) (Kd.R_mono (Kd.R_lower (Kd.R_bound HR9.out) (show w.heap.size ≤ w6.heap.size + 2 by have := HS6.out.bel.size; omega)) (fun k hk => Nat.le_trans (by omega) hk.1)))
      have HWX := Aside0.mk (show WF (xs ++ [X]) by rw [hX]; exact HW0.out.snoc _ (by first | exact fun _ => rfl | exact fun h => by cases h) (by first | exact fun _ => rfl | exact fun h => by cases h))
      have HTX := Aside0.mk (show ((tot (xs ++ [X]) : Nat) : Int) = ((tot xs : Nat) : Int) + (o.f2.length : Int) by rw [tot_snoc, hX]; simp)
      obtain ⟨okA, hA, hSw, hokp, hfin⟩ := HW9.out.wants
      have HSW := Aside0.mk hSw
      have HOK := Aside0.mk hokp
      have HFIN := Aside0.mk @hfin
      clear hSw hokp hfin hA hX
      have l0 : w9.cell? ⟨w6.heap.size + 1, 0, none⟩ = some (.string o.f1) := (blk_cell HPc9.out 0).trans rfl
      have l1 : w9.cell? ⟨w6.heap.size + 1, 1, none⟩ = some (.int .i64 0) := (blk_cell HPc9.out 1).trans rfl
      have l2 : w9.cell? ⟨w6.heap.size + 1, 2, none⟩ = some (.string ⟨#[]⟩) := (blk_cell HPc9.out 2).trans rfl
      have l3 : w9.cell? ⟨w6.heap.size + 1, 3, none⟩ = some (.int .i64 0) := (blk_cell HPc9.out 3).trans rfl
      have l4 : w9.cell? ⟨w6.heap.size + 1, 4, none⟩ = some (.string ⟨#[]⟩) := (blk_cell HPc9.out 4).trans rfl
      have l5 : w9.cell? ⟨w6.heap.size + 1, 5, none⟩ = some (.bool false) := (blk_cell HPc9.out 5).trans rfl
      have l6 : w9.cell? ⟨w6.heap.size + 1, 6, none⟩ = some (.slice A6 o.f2.length c6) := (blk_cell HPc9.out 6).trans rfl
      go_wp2_with ((with_reducible refine gate_builtin (b := .append) (xs := #[.tmp 183, .tmp 185]) rfl ?_); at_builtin; refine Kd.S_append k67 (w0 := w) w.heap.size rfl (.tmp 183) (.tmp 185) 27 40 (.agg #[.string ⟨#[]⟩, .int .i64 0, .string ⟨#[]⟩, .int .i64 0, .string ⟨#[]⟩, .bool false, .slice none 0 0]) 96 rfl Try.underlying27 info40 rfl (by decide) (by omega) (.slice Av xs.length cv) xs X [.string o.f1, .int .i64 0, .string ⟨#[]⟩, .int .i64 0, .string ⟨#[]⟩, .bool false, .slice A6 o.f2.length c6] (fun k => okA k ∨ w6.heap.size ≤ k) (fun k => w6.heap.size ≤ k) rfl rfl HMX.out HOK.out (fun k hk => .inr (by have := HS9.out; omega)) HSW.out HB9.out HB9.out.size (by have := HF.out; omega) ?_; intro v1 w10 hS1 hB1 hg hat; have HS10 := Aside0.mk (HFIN.out hS1 hB1 hg); have HPc10 := Aside0.mk (blk_grown HPc9.out hg (HOK.out (w6.heap.size + 1) (by omega)).2); have y6 : w10.cell? ⟨w6.heap.size + 1, 6, none⟩ = some (.slice A6 o.f2.length c6) := (blk_cell HPc10.out 6).trans rfl; have e1 : (0 : Int) ≤ ((tot xs : Nat) : Int) := (by omega); have e2 : ((tot xs : Nat) : Int) ≤ 65536 := (by have := HF.out; omega); have e3 : (0 : Int) ≤ (o.f2.length : Int) := (by omega); have e4 : (o.f2.length : Int) ≤ 65536 := (by have := HFN.out; omega); clear hS1 hB1 hg hat l0 l1 l2 l3 l4 l5 l6)
      exact hQ _ _ (PE_mk _ _ (xs ++ [X]) ⟨by simp; have := HF.out; omega, HS10.out, by have h1 := HTX.out; have := HFN.out; omega, HWX.out⟩ (by rw [HTX.out]; kernel_rfl))


end Go.Proofs.Ytlfkmignkilplaa.PHeapPlays
