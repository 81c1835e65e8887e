/- HeapPlays: an array. No condition. -/
import Derived.Test.YtlfkmignkilplaaHl
import Derived.Deep.RegionHeld3
namespace Go.Proofs.Ytlfkmignkilplaa.PHeapPlays
open Go.RowKit Go.Proofs.YtlfkmignkilplaaW.PrintWords Go.Proofs.YtlfkmignkilplaaW.PrintLast Go.Proofs.YtlfkmignkilplaaW.PrintMore
set_option linter.unusedVariables false
set_option linter.unusedSimpArgs false

attribute [local go_sem high] eqA32
set_option maxRecDepth 1000000 in
set_option maxHeartbeats 4000000 in
theorem a_array_neg (w wq : World) (l : List S34) (A : Option Addr) (c hb j N ob : Nat) (v : Value) (xs : List S67) (o : S34) (B : Option Addr) (cB : Nat) (u : Nat → Value) (Q : Exit → Act → World → Prop)
    (hQ : ∀ a w', PE w l A c hb j a w' → Q .normal a w') (hC : ∀ a w', PE w l A c hb j a w' → Q (.exit 1) a w') (hR : ∀ a w', PR w a w' → Q .ret a w') (hP : ∀ c a N v w', Q (.panic c) (Act.put a N v) w' → Q (.panic c) a w')
    (hx : Bx wq ob o B cB) (hN : N ≤ ob) (hS : St w wq N hb v xs xs) (hl : xs.length ≤ j) (hj : j < 40) (ht : tot xs ≤ 65536) (hw : WF xs) (hk : o.f0 = 1) (hn : o.f4 < 0)  (th : Bool) :
    Code.wp Try.prog B4 Q ⟨#[.slice A l.length c, undef, u 2, .pointer (some ⟨hb, 0, none⟩), v, .int .i64 ((tot xs : Nat) : Int), undef, .pointer (some ⟨ob, 0, none⟩), undef, u 9, .bool th, u 11, u 12, u 13, undef, u 15, u 16, u 17, u 18, u 19, u 20, u 21, undef, undef, undef, undef, undef, undef, undef, undef, undef, undef, undef, .bool true, .bool false, .slice A l.length c, .int .i64 (l.length : Int), .bool false, .slice A l.length c, .int .i64 (l.length : Int), .int .i64 (j : Int), u 41, u 42, u 43, u 44, u 45, u 46, u 47, u 48, u 49, u 50, u 51, u 52, u 53, u 54, u 55, u 56, u 57, u 58, u 59, u 60, u 61, u 62, u 63, u 64, u 65, u 66, u 67, u 68, u 69, u 70, u 71, u 72, u 73, u 74, u 75, u 76, u 77, u 78, u 79, u 80, u 81, u 82, u 83, u 84, u 85, u 86, u 87, u 88, u 89, u 90, u 91, .int .i64 o.f0, u 93, u 94, u 95, u 96, u 97, u 98, u 99, u 100, u 101, u 102, u 103, u 104, u 105, u 106, u 107, u 108, u 109, u 110, u 111, u 112, u 113, u 114, u 115, u 116, u 117, u 118, u 119, u 120, u 121, u 122, u 123, u 124, u 125, u 126, u 127, u 128, u 129, u 130, u 131, u 132, u 133, u 134, u 135, u 136, u 137, u 138, u 139, u 140, u 141, u 142, u 143, u 144, u 145, u 146, u 147, u 148, u 149, u 150, u 151, u 152, u 153, u 154, u 155, u 156, u 157, u 158, u 159, u 160, u 161, u 162, u 163, u 164, u 165, u 166, u 167, u 168, u 169, u 170, u 171, u 172, u 173, u 174, u 175, u 176, u 177, u 178, u 179, u 180, u 181, u 182, u 183, u 184, u 185, u 186, u 187, u 188, u 189, u 190, u 191, u 192, u 193, u 194, u 195, u 196, u 197, u 198, u 199, u 200, u 201, u 202, u 203, u 204, u 205, u 206, u 207, u 208, u 209, u 210, u 211, u 212, u 213, u 214, u 215, u 216, u 217, u 218, u 219, u 220, u 221, u 222, u 223, u 224, u 225, u 226, u 227, u 228, u 229, u 230, u 231, u 232, u 233, u 234, u 235, u 236, u 237, u 238, u 239, u 240, u 241, u 242, u 243, u 244, u 245, u 246, u 247, u 248, u 249, u 250, u 251, u 252, u 253, u 254, u 255, u 256, u 257, u 258, u 259, u 260, u 261, u 262, u 263, u 264, u 265, u 266, u 267, u 268, u 269, u 270, u 271, u 272, u 273, u 274, u 275, u 276, u 277, u 278, u 279, u 280, u 281, u 282, u 283, u 284, u 285, u 286, u 287, u 288, u 289, u 290, u 291, u 292, u 293, u 294, u 295, u 296, u 297, u 298, u 299, u 300, u 301, u 302, u 303, u 304, u 305, u 306, u 307, u 308, u 309, u 310, u 311, u 312, u 313, u 314, u 315, u 316, u 317, u 318, u 319, u 320, u 321, u 322, u 323, u 324, u 325, u 326, u 327, u 328, u 329, u 330, u 331, undef, undef, undef, undef, undef, undef, undef, undef, undef, undef, undef, undef, undef, undef, undef, undef, undef, undef, undef, undef, undef, undef, undef, undef, undef, undef, undef, undef, undef, undef, undef, undef, undef, undef, undef, undef, undef, undef, undef, undef, undef, undef, undef, undef, undef, undef, undef, undef, undef, undef, undef, undef, undef, undef, undef, undef, undef, undef, undef, undef, undef, undef, undef, undef, undef, undef, undef, undef, undef, undef, undef, undef, undef, undef, undef, undef, undef, undef, undef, undef, undef, undef, undef, undef, undef, undef], []⟩ wq := by
  conv => arg 2; whnf
  obtain ⟨q0, q1, q2, q3, q4, q5, q6, q7, q8, q9, q10, q11, q12, q13⟩ := hx.cells
  rw [hk] at q0 ⊢
  clear hk
  have HX := Aside0.mk hx
  have HW0 := Aside0.mk hw
  clear hw
  have HS := Aside0.mk hS
  have HF := Aside0.mk (And.intro hl (And.intro hj (And.intro ht hN)))
  have hu30 := Try.underlying30
  have hu32 := Try.underlying32
  have hu34 := Try.underlying34
  have hu40 := Try.underlying40
  clear hx hS hl hj ht hN
  have HNOT := Aside0.mk (show o.f4 < 0 ∧ (1 : Int) = 1 ∨ 0 ≤ o.f4 ∧ 65536 < ((tot xs : Nat) : Int) + o.f4 ∧ (1 : Int) = 2 from .inl ⟨hn, rfl⟩)
  have e1 : (0 : Int) ≤ ((tot xs : Nat) : Int) := by omega
  have e2 : ((tot xs : Nat) : Int) ≤ 65536 := by have := HF.out; omega
  have d0 : decide (o.f4 < 0) = true := decide_eq_true hn
  go_wp2_with (go_at_call 9; (with_reducible refine (HS.out.arrayNot o.f3 o.f4 1 (by have := HF.out; omega) (by have := HF.out; omega) HNOT.out).mono ?_); rintro e w6 ⟨rfl, hs, hb1⟩; have HS6 := Aside0.mk hs; have HX6 := Aside0.mk (HX.out.below hb1); clear hs hb1; clear q0 q1 q2 q3 q4 q5 q6 q7 q8 q9 q10 q11 q12 q13; obtain ⟨q0, q1, q2, q3, q4, q5, q6, q7, q8, q9, q10, q11, q12, q13⟩ := (HX6.out.alloc (.cells #[.int .i64 0, .int .i64 0, .string ⟨#[]⟩] 32)).cells)
  exact hC _ _ (PE_mk v N xs ⟨by have := HF.out; omega, HS6.out.alloc _, by have := HF.out; omega, HW0.out⟩ (by kernel_rfl))

attribute [local go_sem high] eqA32
set_option maxRecDepth 1000000 in
set_option maxHeartbeats 4000000 in
theorem a_array_big (w wq : World) (l : List S34) (A : Option Addr) (c hb j N ob : Nat) (v : Value) (xs : List S67) (o : S34) (B : Option Addr) (cB : Nat) (u : Nat → Value) (Q : Exit → Act → World → Prop)
    (hQ : ∀ a w', PE w l A c hb j a w' → Q .normal a w') (hC : ∀ a w', PE w l A c hb j a w' → Q (.exit 1) a w') (hR : ∀ a w', PR w a w' → Q .ret a w') (hP : ∀ c a N v w', Q (.panic c) (Act.put a N v) w' → Q (.panic c) a w')
    (hx : Bx wq ob o B cB) (hN : N ≤ ob) (hS : St w wq N hb v xs xs) (hl : xs.length ≤ j) (hj : j < 40) (ht : tot xs ≤ 65536) (hw : WF xs) (hk : o.f0 = 1) (hn : 65536 < o.f4)  (th : Bool) :
    Code.wp Try.prog B4 Q ⟨#[.slice A l.length c, undef, u 2, .pointer (some ⟨hb, 0, none⟩), v, .int .i64 ((tot xs : Nat) : Int), undef, .pointer (some ⟨ob, 0, none⟩), undef, u 9, .bool th, u 11, u 12, u 13, undef, u 15, u 16, u 17, u 18, u 19, u 20, u 21, undef, undef, undef, undef, undef, undef, undef, undef, undef, undef, undef, .bool true, .bool false, .slice A l.length c, .int .i64 (l.length : Int), .bool false, .slice A l.length c, .int .i64 (l.length : Int), .int .i64 (j : Int), u 41, u 42, u 43, u 44, u 45, u 46, u 47, u 48, u 49, u 50, u 51, u 52, u 53, u 54, u 55, u 56, u 57, u 58, u 59, u 60, u 61, u 62, u 63, u 64, u 65, u 66, u 67, u 68, u 69, u 70, u 71, u 72, u 73, u 74, u 75, u 76, u 77, u 78, u 79, u 80, u 81, u 82, u 83, u 84, u 85, u 86, u 87, u 88, u 89, u 90, u 91, .int .i64 o.f0, u 93, u 94, u 95, u 96, u 97, u 98, u 99, u 100, u 101, u 102, u 103, u 104, u 105, u 106, u 107, u 108, u 109, u 110, u 111, u 112, u 113, u 114, u 115, u 116, u 117, u 118, u 119, u 120, u 121, u 122, u 123, u 124, u 125, u 126, u 127, u 128, u 129, u 130, u 131, u 132, u 133, u 134, u 135, u 136, u 137, u 138, u 139, u 140, u 141, u 142, u 143, u 144, u 145, u 146, u 147, u 148, u 149, u 150, u 151, u 152, u 153, u 154, u 155, u 156, u 157, u 158, u 159, u 160, u 161, u 162, u 163, u 164, u 165, u 166, u 167, u 168, u 169, u 170, u 171, u 172, u 173, u 174, u 175, u 176, u 177, u 178, u 179, u 180, u 181, u 182, u 183, u 184, u 185, u 186, u 187, u 188, u 189, u 190, u 191, u 192, u 193, u 194, u 195, u 196, u 197, u 198, u 199, u 200, u 201, u 202, u 203, u 204, u 205, u 206, u 207, u 208, u 209, u 210, u 211, u 212, u 213, u 214, u 215, u 216, u 217, u 218, u 219, u 220, u 221, u 222, u 223, u 224, u 225, u 226, u 227, u 228, u 229, u 230, u 231, u 232, u 233, u 234, u 235, u 236, u 237, u 238, u 239, u 240, u 241, u 242, u 243, u 244, u 245, u 246, u 247, u 248, u 249, u 250, u 251, u 252, u 253, u 254, u 255, u 256, u 257, u 258, u 259, u 260, u 261, u 262, u 263, u 264, u 265, u 266, u 267, u 268, u 269, u 270, u 271, u 272, u 273, u 274, u 275, u 276, u 277, u 278, u 279, u 280, u 281, u 282, u 283, u 284, u 285, u 286, u 287, u 288, u 289, u 290, u 291, u 292, u 293, u 294, u 295, u 296, u 297, u 298, u 299, u 300, u 301, u 302, u 303, u 304, u 305, u 306, u 307, u 308, u 309, u 310, u 311, u 312, u 313, u 314, u 315, u 316, u 317, u 318, u 319, u 320, u 321, u 322, u 323, u 324, u 325, u 326, u 327, u 328, u 329, u 330, u 331, undef, undef, undef, undef, undef, undef, undef, undef, undef, undef, undef, undef, undef, undef, undef, undef, undef, undef, undef, undef, undef, undef, undef, undef, undef, undef, undef, undef, undef, undef, undef, undef, undef, undef, undef, undef, undef, undef, undef, undef, undef, undef, undef, undef, undef, undef, undef, undef, undef, undef, undef, undef, undef, undef, undef, undef, undef, undef, undef, undef, undef, undef, undef, undef, undef, undef, undef, undef, undef, undef, undef, undef, undef, undef, undef, undef, undef, undef, undef, undef, undef, undef, undef, undef, undef, undef], []⟩ wq := by
  conv => arg 2; whnf
  obtain ⟨q0, q1, q2, q3, q4, q5, q6, q7, q8, q9, q10, q11, q12, q13⟩ := hx.cells
  rw [hk] at q0 ⊢
  clear hk
  have HX := Aside0.mk hx
  have HW0 := Aside0.mk hw
  clear hw
  have HS := Aside0.mk hS
  have HF := Aside0.mk (And.intro hl (And.intro hj (And.intro ht hN)))
  have hu30 := Try.underlying30
  have hu32 := Try.underlying32
  have hu34 := Try.underlying34
  have hu40 := Try.underlying40
  clear hx hS hl hj ht hN
  have HNOT := Aside0.mk (show o.f4 < 0 ∧ (2 : Int) = 1 ∨ 0 ≤ o.f4 ∧ 65536 < ((tot xs : Nat) : Int) + o.f4 ∧ (2 : Int) = 2 from .inr ⟨by omega, by omega, rfl⟩)
  have e1 : (0 : Int) ≤ ((tot xs : Nat) : Int) := by omega
  have e2 : ((tot xs : Nat) : Int) ≤ 65536 := by have := HF.out; omega
  have d0 : decide (o.f4 < 0) = false := decide_eq_false (by omega)
  have d1 : decide (65536 < o.f4) = true := decide_eq_true hn
  go_wp2_with (go_at_call 9; (with_reducible refine (HS.out.arrayNot o.f3 o.f4 2 (by have := HF.out; omega) (by have := HF.out; omega) HNOT.out).mono ?_); rintro e w6 ⟨rfl, hs, hb1⟩; have HS6 := Aside0.mk hs; have HX6 := Aside0.mk (HX.out.below hb1); clear hs hb1; clear q0 q1 q2 q3 q4 q5 q6 q7 q8 q9 q10 q11 q12 q13; obtain ⟨q0, q1, q2, q3, q4, q5, q6, q7, q8, q9, q10, q11, q12, q13⟩ := (HX6.out.alloc (.cells #[.int .i64 0, .int .i64 0, .string ⟨#[]⟩] 32)).cells)
  exact hC _ _ (PE_mk v N xs ⟨by have := HF.out; omega, HS6.out.alloc _, by have := HF.out; omega, HW0.out⟩ (by kernel_rfl))

attribute [local go_sem high] eqA32
set_option maxRecDepth 1000000 in
set_option maxHeartbeats 4000000 in
theorem a_array_full (w wq : World) (l : List S34) (A : Option Addr) (c hb j N ob : Nat) (v : Value) (xs : List S67) (o : S34) (B : Option Addr) (cB : Nat) (u : Nat → Value) (Q : Exit → Act → World → Prop)
    (hQ : ∀ a w', PE w l A c hb j a w' → Q .normal a w') (hC : ∀ a w', PE w l A c hb j a w' → Q (.exit 1) a w') (hR : ∀ a w', PR w a w' → Q .ret a w') (hP : ∀ c a N v w', Q (.panic c) (Act.put a N v) w' → Q (.panic c) a w')
    (hx : Bx wq ob o B cB) (hN : N ≤ ob) (hS : St w wq N hb v xs xs) (hl : xs.length ≤ j) (hj : j < 40) (ht : tot xs ≤ 65536) (hw : WF xs) (hk : o.f0 = 1) (h0 : 0 ≤ o.f4) (hn : o.f4 ≤ 65536) (hn2 : 65536 < ((tot xs : Nat) : Int) + o.f4)  (th : Bool) :
    Code.wp Try.prog B4 Q ⟨#[.slice A l.length c, undef, u 2, .pointer (some ⟨hb, 0, none⟩), v, .int .i64 ((tot xs : Nat) : Int), undef, .pointer (some ⟨ob, 0, none⟩), undef, u 9, .bool th, u 11, u 12, u 13, undef, u 15, u 16, u 17, u 18, u 19, u 20, u 21, undef, undef, undef, undef, undef, undef, undef, undef, undef, undef, undef, .bool true, .bool false, .slice A l.length c, .int .i64 (l.length : Int), .bool false, .slice A l.length c, .int .i64 (l.length : Int), .int .i64 (j : Int), u 41, u 42, u 43, u 44, u 45, u 46, u 47, u 48, u 49, u 50, u 51, u 52, u 53, u 54, u 55, u 56, u 57, u 58, u 59, u 60, u 61, u 62, u 63, u 64, u 65, u 66, u 67, u 68, u 69, u 70, u 71, u 72, u 73, u 74, u 75, u 76, u 77, u 78, u 79, u 80, u 81, u 82, u 83, u 84, u 85, u 86, u 87, u 88, u 89, u 90, u 91, .int .i64 o.f0, u 93, u 94, u 95, u 96, u 97, u 98, u 99, u 100, u 101, u 102, u 103, u 104, u 105, u 106, u 107, u 108, u 109, u 110, u 111, u 112, u 113, u 114, u 115, u 116, u 117, u 118, u 119, u 120, u 121, u 122, u 123, u 124, u 125, u 126, u 127, u 128, u 129, u 130, u 131, u 132, u 133, u 134, u 135, u 136, u 137, u 138, u 139, u 140, u 141, u 142, u 143, u 144, u 145, u 146, u 147, u 148, u 149, u 150, u 151, u 152, u 153, u 154, u 155, u 156, u 157, u 158, u 159, u 160, u 161, u 162, u 163, u 164, u 165, u 166, u 167, u 168, u 169, u 170, u 171, u 172, u 173, u 174, u 175, u 176, u 177, u 178, u 179, u 180, u 181, u 182, u 183, u 184, u 185, u 186, u 187, u 188, u 189, u 190, u 191, u 192, u 193, u 194, u 195, u 196, u 197, u 198, u 199, u 200, u 201, u 202, u 203, u 204, u 205, u 206, u 207, u 208, u 209, u 210, u 211, u 212, u 213, u 214, u 215, u 216, u 217, u 218, u 219, u 220, u 221, u 222, u 223, u 224, u 225, u 226, u 227, u 228, u 229, u 230, u 231, u 232, u 233, u 234, u 235, u 236, u 237, u 238, u 239, u 240, u 241, u 242, u 243, u 244, u 245, u 246, u 247, u 248, u 249, u 250, u 251, u 252, u 253, u 254, u 255, u 256, u 257, u 258, u 259, u 260, u 261, u 262, u 263, u 264, u 265, u 266, u 267, u 268, u 269, u 270, u 271, u 272, u 273, u 274, u 275, u 276, u 277, u 278, u 279, u 280, u 281, u 282, u 283, u 284, u 285, u 286, u 287, u 288, u 289, u 290, u 291, u 292, u 293, u 294, u 295, u 296, u 297, u 298, u 299, u 300, u 301, u 302, u 303, u 304, u 305, u 306, u 307, u 308, u 309, u 310, u 311, u 312, u 313, u 314, u 315, u 316, u 317, u 318, u 319, u 320, u 321, u 322, u 323, u 324, u 325, u 326, u 327, u 328, u 329, u 330, u 331, undef, undef, undef, undef, undef, undef, undef, undef, undef, undef, undef, undef, undef, undef, undef, undef, undef, undef, undef, undef, undef, undef, undef, undef, undef, undef, undef, undef, undef, undef, undef, undef, undef, undef, undef, undef, undef, undef, undef, undef, undef, undef, undef, undef, undef, undef, undef, undef, undef, undef, undef, undef, undef, undef, undef, undef, undef, undef, undef, undef, undef, undef, undef, undef, undef, undef, undef, undef, undef, undef, undef, undef, undef, undef, undef, undef, undef, undef, undef, undef, undef, undef, undef, undef, undef, undef], []⟩ wq := by
  conv => arg 2; whnf
  obtain ⟨q0, q1, q2, q3, q4, q5, q6, q7, q8, q9, q10, q11, q12, q13⟩ := hx.cells
  rw [hk] at q0 ⊢
  clear hk
  have HX := Aside0.mk hx
  have HW0 := Aside0.mk hw
  clear hw
  have HS := Aside0.mk hS
  have HF := Aside0.mk (And.intro hl (And.intro hj (And.intro ht hN)))
  have hu30 := Try.underlying30
  have hu32 := Try.underlying32
  have hu34 := Try.underlying34
  have hu40 := Try.underlying40
  clear hx hS hl hj ht hN
  have HNOT := Aside0.mk (show o.f4 < 0 ∧ (2 : Int) = 1 ∨ 0 ≤ o.f4 ∧ 65536 < ((tot xs : Nat) : Int) + o.f4 ∧ (2 : Int) = 2 from .inr ⟨h0, hn2, rfl⟩)
  have e1 : (0 : Int) ≤ ((tot xs : Nat) : Int) := by omega
  have e2 : ((tot xs : Nat) : Int) ≤ 65536 := by have := HF.out; omega
  have d0 : decide (o.f4 < 0) = false := decide_eq_false (by omega)
  have d1 : decide (65536 < o.f4) = false := decide_eq_false (by omega)
  have d2 : decide (65536 < ((tot xs : Nat) : Int) + o.f4) = true := decide_eq_true hn2
  go_wp2_with (go_at_call 9; (with_reducible refine (HS.out.arrayNot o.f3 o.f4 2 (by have := HF.out; omega) (by have := HF.out; omega) HNOT.out).mono ?_); rintro e w6 ⟨rfl, hs, hb1⟩; have HS6 := Aside0.mk hs; have HX6 := Aside0.mk (HX.out.below hb1); clear hs hb1; clear q0 q1 q2 q3 q4 q5 q6 q7 q8 q9 q10 q11 q12 q13; obtain ⟨q0, q1, q2, q3, q4, q5, q6, q7, q8, q9, q10, q11, q12, q13⟩ := (HX6.out.alloc (.cells #[.int .i64 0, .int .i64 0, .string ⟨#[]⟩] 32)).cells)
  exact hC _ _ (PE_mk v N xs ⟨by have := HF.out; omega, HS6.out.alloc _, by have := HF.out; omega, HW0.out⟩ (by kernel_rfl))

attribute [local go_sem high] eqA32
set_option maxRecDepth 1000000 in
set_option maxHeartbeats 4000000 in
theorem a_array_5000 (w wq : World) (l : List S34) (A : Option Addr) (c hb j N ob : Nat) (v : Value) (xs : List S67) (o : S34) (B : Option Addr) (cB : Nat) (u : Nat → Value) (Q : Exit → Act → World → Prop)
    (hQ : ∀ a w', PE w l A c hb j a w' → Q .normal a w') (hC : ∀ a w', PE w l A c hb j a w' → Q (.exit 1) a w') (hR : ∀ a w', PR w a w' → Q .ret a w') (hP : ∀ c a N v w', Q (.panic c) (Act.put a N v) w' → Q (.panic c) a w')
    (hx : Bx wq ob o B cB) (hN : N ≤ ob) (hS : St w wq N hb v xs xs) (hl : xs.length ≤ j) (hj : j < 40) (ht : tot xs ≤ 65536) (hw : WF xs) (hk : o.f0 = 1) (h0 : 0 ≤ o.f4) (hn : 5000 < o.f4) (hn2 : ((tot xs : Nat) : Int) + o.f4 ≤ 65536) (hz : o.f3.f3.size ≤ 50)  (th : Bool) :
    Code.wp Try.prog B4 Q ⟨#[.slice A l.length c, undef, u 2, .pointer (some ⟨hb, 0, none⟩), v, .int .i64 ((tot xs : Nat) : Int), undef, .pointer (some ⟨ob, 0, none⟩), undef, u 9, .bool th, u 11, u 12, u 13, undef, u 15, u 16, u 17, u 18, u 19, u 20, u 21, undef, undef, undef, undef, undef, undef, undef, undef, undef, undef, undef, .bool true, .bool false, .slice A l.length c, .int .i64 (l.length : Int), .bool false, .slice A l.length c, .int .i64 (l.length : Int), .int .i64 (j : Int), u 41, u 42, u 43, u 44, u 45, u 46, u 47, u 48, u 49, u 50, u 51, u 52, u 53, u 54, u 55, u 56, u 57, u 58, u 59, u 60, u 61, u 62, u 63, u 64, u 65, u 66, u 67, u 68, u 69, u 70, u 71, u 72, u 73, u 74, u 75, u 76, u 77, u 78, u 79, u 80, u 81, u 82, u 83, u 84, u 85, u 86, u 87, u 88, u 89, u 90, u 91, .int .i64 o.f0, u 93, u 94, u 95, u 96, u 97, u 98, u 99, u 100, u 101, u 102, u 103, u 104, u 105, u 106, u 107, u 108, u 109, u 110, u 111, u 112, u 113, u 114, u 115, u 116, u 117, u 118, u 119, u 120, u 121, u 122, u 123, u 124, u 125, u 126, u 127, u 128, u 129, u 130, u 131, u 132, u 133, u 134, u 135, u 136, u 137, u 138, u 139, u 140, u 141, u 142, u 143, u 144, u 145, u 146, u 147, u 148, u 149, u 150, u 151, u 152, u 153, u 154, u 155, u 156, u 157, u 158, u 159, u 160, u 161, u 162, u 163, u 164, u 165, u 166, u 167, u 168, u 169, u 170, u 171, u 172, u 173, u 174, u 175, u 176, u 177, u 178, u 179, u 180, u 181, u 182, u 183, u 184, u 185, u 186, u 187, u 188, u 189, u 190, u 191, u 192, u 193, u 194, u 195, u 196, u 197, u 198, u 199, u 200, u 201, u 202, u 203, u 204, u 205, u 206, u 207, u 208, u 209, u 210, u 211, u 212, u 213, u 214, u 215, u 216, u 217, u 218, u 219, u 220, u 221, u 222, u 223, u 224, u 225, u 226, u 227, u 228, u 229, u 230, u 231, u 232, u 233, u 234, u 235, u 236, u 237, u 238, u 239, u 240, u 241, u 242, u 243, u 244, u 245, u 246, u 247, u 248, u 249, u 250, u 251, u 252, u 253, u 254, u 255, u 256, u 257, u 258, u 259, u 260, u 261, u 262, u 263, u 264, u 265, u 266, u 267, u 268, u 269, u 270, u 271, u 272, u 273, u 274, u 275, u 276, u 277, u 278, u 279, u 280, u 281, u 282, u 283, u 284, u 285, u 286, u 287, u 288, u 289, u 290, u 291, u 292, u 293, u 294, u 295, u 296, u 297, u 298, u 299, u 300, u 301, u 302, u 303, u 304, u 305, u 306, u 307, u 308, u 309, u 310, u 311, u 312, u 313, u 314, u 315, u 316, u 317, u 318, u 319, u 320, u 321, u 322, u 323, u 324, u 325, u 326, u 327, u 328, u 329, u 330, u 331, undef, undef, undef, undef, undef, undef, undef, undef, undef, undef, undef, undef, undef, undef, undef, undef, undef, undef, undef, undef, undef, undef, undef, undef, undef, undef, undef, undef, undef, undef, undef, undef, undef, undef, undef, undef, undef, undef, undef, undef, undef, undef, undef, undef, undef, undef, undef, undef, undef, undef, undef, undef, undef, undef, undef, undef, undef, undef, undef, undef, undef, undef, undef, undef, undef, undef, undef, undef, undef, undef, undef, undef, undef, undef, undef, undef, undef, undef, undef, undef, undef, undef, undef, undef, undef, undef], []⟩ wq := by
  conv => arg 2; whnf
  obtain ⟨q0, q1, q2, q3, q4, q5, q6, q7, q8, q9, q10, q11, q12, q13⟩ := hx.cells
  rw [hk] at q0 ⊢
  clear hk
  have HX := Aside0.mk hx
  have HW0 := Aside0.mk hw
  clear hw
  have HS := Aside0.mk hS
  have HF := Aside0.mk (And.intro hl (And.intro hj (And.intro ht hN)))
  have hu30 := Try.underlying30
  have hu32 := Try.underlying32
  have hu34 := Try.underlying34
  have hu40 := Try.underlying40
  clear hx hS hl hj ht hN
  obtain ⟨m, hm⟩ : ∃ m : Nat, o.f4 = (m : Int) := ⟨o.f4.toNat, by omega⟩
  have HM := Aside0.mk hm
  rw [hm] at hn hn2 h0 q7
  have HFN := Aside0.mk (And.intro hn hn2)
  obtain ⟨Av, cv, rfl, hcv⟩ := HS.out.slice
  have HTZ := Aside0.mk (show o.f3.f3.size ≤ 140737488351232 by omega)
  have d0 : decide ((m : Int) < 0) = false := decide_eq_false (by omega)
  have d1 : decide (65536 < (m : Int)) = false := decide_eq_false (by omega)
  have d2 : decide (65536 < ((tot xs : Nat) : Int) + (m : Int)) = false := decide_eq_false (by omega)
  have d3 : decide (5000 < (m : Int)) = true := decide_eq_true (by omega)
  have d3n : decide (5000 < m) = true := decide_eq_true (by omega)
  have d1n : decide (65536 < m) = false := decide_eq_false (by omega)
  have e1 : (0 : Int) ≤ ((tot xs : Nat) : Int) := by omega
  have e2 : ((tot xs : Nat) : Int) ≤ 65536 := by have := HF.out; omega
  have e3 : (0 : Int) ≤ (m : Int) := by omega
  have e4 : (m : Int) ≤ 65536 := by omega
  clear hn hn2 h0 hm hz
  go_wp2_with (go_at_call 9; (with_reducible refine (HS.out.array o.f3 m HTZ.out (by have := HF.out; omega) (by have := HFN.out; omega)).mono ?_); rintro e w6 ⟨rfl, hs, hb1, hk⟩; have HS6 := Aside0.mk hs; have HX6 := Aside0.mk (show Bx w6 ob o B cB from (hk ob HF.out.2.2.2 (blk_lt HX.out)).trans HX.out); clear hs hb1 hk; clear q0 q1 q2 q3 q4 q5 q6 q7 q8 q9 q10 q11 q12 q13; obtain ⟨q0, q1, q2, q3, q4, q5, q6, q7, q8, q9, q10, q11, q12, q13⟩ := HX6.out.cells; rw [HM.out] at q7; have hob := blk_lt HX6.out)
  clear q0 q1 q2 q3 q4 q5 q6 q7 q8 q9 q10 q11 q12 q13
  clear hob d0 d1 d2 d1n e1 e2 e3 e4
  have HOB := Aside0.mk (blk_lt HX6.out)
  obtain ⟨w2, hw2⟩ : ∃ w2 : World, w2 = (w6.alloc (.cells #[.int .i64 5, .int .i64 ((xs.length : Nat) : Int), .string ⟨#[]⟩] 32)).drew := ⟨_, rfl⟩
  have HPv2 := Aside0.mk ((congrArg (fun W : World => W.heap[w6.heap.size]?) hw2).trans (blk_new w6 (.cells #[.int .i64 5, .int .i64 ((xs.length : Nat) : Int), .string ⟨#[]⟩] 32)))
  have HX2 := Aside0.mk (show Bx w2 ob o B cB by rw [hw2]; exact HX6.out.alloc _)
  have HB2 := Aside0.mk (show Below w.heap.size w w2 by rw [hw2]; exact below_drew1 (below_alloc HS6.out.bel _))
  have HM2 := Aside0.mk (show ∀ k, k < w6.heap.size → w2.heap[k]? = w6.heap[k]? from fun k hk => (congrArg (fun W : World => W.heap[k]?) hw2).trans ((below_alloc (Below.refl w6.heap.size w6) (.cells #[.int .i64 5, .int .i64 ((xs.length : Nat) : Int), .string ⟨#[]⟩] 32)).block k hk))
  have HS2 := Aside0.mk (show w6.heap.size + 1 ≤ w2.heap.size by rw [hw2]; show _ ≤ (w6.alloc _).heap.size; simp)
  refine start_ (n := 14) (S := fun w' => w'.cell? ⟨w6.heap.size, 0, none⟩ = some (.int .i64 5) ∧ w'.cell? ⟨w6.heap.size, 1, none⟩ = some (.int .i64 ((xs.length : Nat) : Int)) ∧ w'.cell? ⟨w6.heap.size, 2, none⟩ = some (.string ⟨#[]⟩) ∧ w'.cell? ⟨ob, 7, none⟩ = some (.int .i64 (m : Int))) (ds := []) #[false, false, false, false, false, false, false, false, false, false, false, false, false, false] (by kernel_rfl) rfl rfl (by rw [← hw2]; exact ⟨(blk_cell HPv2.out 0).trans rfl, (blk_cell HPv2.out 1).trans rfl, (blk_cell HPv2.out 2).trans rfl, by rw [← HM.out]; exact (blk_cell HX2.out 7).trans rfl⟩) (fun hHeld => ?_)
  rw [← hw2] at hHeld ⊢; clear hw2
  refine pure_ (i := 0) (N := some 229) (v := ?_) (a' := ?_) #[true, false, false, false, false, false, false, false, false, false, false, false, false, false] rfl rfl (by kernel_rfl) (fun _ _ _ h => hP _ _ _ _ _ h) (Or.inl ⟨by rfl, ?_⟩) ?_ ?_
  rotate_left
  · intro w'
    go_simp
    with_reducible rfl
  rotate_left
  · simp only [Act.put, List.setIfInBounds_toArray, List.set_cons_zero, List.set_cons_succ, i64_w, i32_w]
    rfl
  refine pure_ (i := 1) (N := some 230) (v := ?_) (a' := ?_) #[true, true, false, false, false, false, false, false, false, false, false, false, false, false] rfl rfl (by kernel_rfl) (fun _ _ _ h => hP _ _ _ _ _ h) (Or.inl ⟨by rfl, ?_⟩) ?_ ?_
  rotate_left
  · intro w'
    go_simp
    with_reducible rfl
  rotate_left
  · simp only [Act.put, List.setIfInBounds_toArray, List.set_cons_zero, List.set_cons_succ, i64_w, i32_w]
    rfl
  refine pure_ (i := 2) (N := some 231) (v := ?_) (a' := ?_) #[true, true, true, false, false, false, false, false, false, false, false, false, false, false] rfl rfl (by kernel_rfl) (fun _ _ _ h => hP _ _ _ _ _ h) (Or.inl ⟨by rfl, ?_⟩) ?_ ?_
  rotate_left
  · intro w'
    go_simp
    with_reducible rfl
  rotate_left
  · simp only [Act.put, List.setIfInBounds_toArray, List.set_cons_zero, List.set_cons_succ, i64_w, i32_w]
    rfl
  refine take_ (i := 3) (N := some 232) (v := ?_) (a' := ?_) #[true, true, true, true, false, false, false, false, false, false, false, false, false, false] rfl rfl (by kernel_rfl) (fun _ _ _ h => hP _ _ _ _ _ h) (Or.inl ⟨by rfl, ?_⟩) hHeld ?_ ?_
  rotate_left
  · rintro w' ⟨s0, s1, s2, s3⟩
    go_simp
    with_reducible rfl
  rotate_left
  · simp only [Act.put, List.setIfInBounds_toArray, List.set_cons_zero, List.set_cons_succ, i64_w, i32_w]
    rfl
  refine pure_ (i := 4) (N := some 233) (v := ?_) (a' := ?_) #[true, true, true, true, true, false, false, false, false, false, false, false, false, false] rfl rfl (by kernel_rfl) (fun _ _ _ h => hP _ _ _ _ _ h) (Or.inl ⟨by rfl, ?_⟩) ?_ ?_
  rotate_left
  · intro w'
    go_simp
    with_reducible rfl
  rotate_left
  · simp only [Act.put, List.setIfInBounds_toArray, List.set_cons_zero, List.set_cons_succ, i64_w, i32_w]
    rfl
  refine pure_ (i := 5) (N := some 234) (v := ?_) (a' := ?_) #[true, true, true, true, true, true, false, false, false, false, false, false, false, false] rfl rfl (by kernel_rfl) (fun _ _ _ h => hP _ _ _ _ _ h) (Or.inl ⟨by rfl, ?_⟩) ?_ ?_
  rotate_left
  · intro w'
    go_simp
    with_reducible rfl
  rotate_left
  · simp only [Act.put, List.setIfInBounds_toArray, List.set_cons_zero, List.set_cons_succ, i64_w, i32_w]
    rfl
  refine one_ (i := 6) (N := some 235) #[true, true, true, true, true, true, true, false, false, false, false, false, false, false] rfl rfl (by kernel_rfl) (by decide) (fun K hK => ?_)
  refine goes_ (f := 8) Try.func8 (by kernel_rfl) rfl #[.int .i64 ((xs.length : Nat) : Int)] (by rfl) rfl rfl (by simp [Act.eval]) ?_
  refine (at_any _ _).mono ?_
  rintro e w9 ⟨rfl, hb⟩
  refine ⟨_, rfl, ?_⟩
  have HPv9 := Aside0.mk (blk_below HPv2.out hb)
  have HX9 := Aside0.mk (HX2.out.below hb)
  have HB9 := Aside0.mk (below_then HB2.out HB2.out.size hb)
  have HM9 := Aside0.mk (show ∀ k, k < w6.heap.size → w9.heap[k]? = w6.heap[k]? from fun k hk => (hb.block k (by have := HS2.out; omega)).trans (HM2.out k hk))
  have HS9 := Aside0.mk (Nat.le_trans HS2.out hb.size)
  clear hb
  refine hK.out _ _ ⟨(blk_cell HPv9.out 0).trans rfl, (blk_cell HPv9.out 1).trans rfl, (blk_cell HPv9.out 2).trans rfl, by rw [← HM.out]; exact (blk_cell HX9.out 7).trans rfl⟩ (fun hHeld => ?_)
  clear hK K
  refine pure_ (i := 7) (N := some 236) (v := ?_) (a' := ?_) #[true, true, true, true, true, true, true, true, false, false, false, false, false, false] rfl rfl (by kernel_rfl) (fun _ _ _ h => hP _ _ _ _ _ h) (Or.inl ⟨by rfl, ?_⟩) ?_ ?_
  rotate_left
  · intro w'
    go_simp
    with_reducible rfl
  rotate_left
  · simp only [Act.put, List.setIfInBounds_toArray, List.set_cons_zero, List.set_cons_succ, i64_w, i32_w]
    rfl
  refine pure_ (i := 8) (N := some 237) (v := ?_) (a' := ?_) #[true, true, true, true, true, true, true, true, true, false, false, false, false, false] rfl rfl (by kernel_rfl) (fun _ _ _ h => hP _ _ _ _ _ h) (Or.inl ⟨by rfl, ?_⟩) ?_ ?_
  rotate_left
  · intro w'
    go_simp
    with_reducible rfl
  rotate_left
  · simp only [Act.put, List.setIfInBounds_toArray, List.set_cons_zero, List.set_cons_succ, i64_w, i32_w]
    rfl
  refine pure_ (i := 9) (N := some 238) (v := ?_) (a' := ?_) #[true, true, true, true, true, true, true, true, true, true, false, false, false, false] rfl rfl (by kernel_rfl) (fun _ _ _ h => hP _ _ _ _ _ h) (Or.inl ⟨by rfl, ?_⟩) ?_ ?_
  rotate_left
  · intro w'
    go_simp
    with_reducible rfl
  rotate_left
  · simp only [Act.put, List.setIfInBounds_toArray, List.set_cons_zero, List.set_cons_succ, i64_w, i32_w]
    rfl
  refine pure_ (i := 10) (N := some 239) (v := ?_) (a' := ?_) #[true, true, true, true, true, true, true, true, true, true, true, false, false, false] rfl rfl (by kernel_rfl) (fun _ _ _ h => hP _ _ _ _ _ h) (Or.inl ⟨by rfl, ?_⟩) ?_ ?_
  rotate_left
  · intro w'
    go_simp
    with_reducible rfl
  rotate_left
  · simp only [Act.put, List.setIfInBounds_toArray, List.set_cons_zero, List.set_cons_succ, i64_w, i32_w]
    rfl
  refine take_ (i := 11) (N := some 240) (v := ?_) (a' := ?_) #[true, true, true, true, true, true, true, true, true, true, true, true, false, false] rfl rfl (by kernel_rfl) (fun _ _ _ h => hP _ _ _ _ _ h) (Or.inl ⟨by rfl, ?_⟩) hHeld ?_ ?_
  rotate_left
  · rintro w' ⟨s0, s1, s2, s3⟩
    go_simp
    with_reducible rfl
  rotate_left
  · simp only [Act.put, List.setIfInBounds_toArray, List.set_cons_zero, List.set_cons_succ, i64_w, i32_w]
    rfl
  refine pure_ (i := 12) (N := some 241) (v := ?_) (a' := ?_) #[true, true, true, true, true, true, true, true, true, true, true, true, true, false] rfl rfl (by kernel_rfl) (fun _ _ _ h => hP _ _ _ _ _ h) (Or.inl ⟨by rfl, ?_⟩) ?_ ?_
  rotate_left
  · intro w'
    go_simp
    with_reducible rfl
  rotate_left
  · simp only [Act.put, List.setIfInBounds_toArray, List.set_cons_zero, List.set_cons_succ, i64_w, i32_w]
    rfl
  refine pure_ (i := 13) (N := some 242) (v := ?_) (a' := ?_) #[true, true, true, true, true, true, true, true, true, true, true, true, true, true] rfl rfl (by kernel_rfl) (fun _ _ _ h => hP _ _ _ _ _ h) (Or.inl ⟨by rfl, ?_⟩) ?_ ?_
  rotate_left
  · intro w'
    go_simp
    with_reducible rfl
  rotate_left
  · simp only [Act.put, List.setIfInBounds_toArray, List.set_cons_zero, List.set_cons_succ, i64_w, i32_w]
    rfl
  refine done_ (by kernel_rfl) ?_
  go_wp2
  exact hR _ _ ⟨rfl, rfl, HB9.out⟩

end Go.Proofs.Ytlfkmignkilplaa.PHeapPlays
