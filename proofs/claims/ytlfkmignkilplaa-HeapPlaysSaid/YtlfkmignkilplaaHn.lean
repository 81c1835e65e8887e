/- HeapPlays: a store. No condition. -/
import Derived.Test.YtlfkmignkilplaaHl
import Derived.StillTailTactics
namespace Go.Proofs.Ytlfkmignkilplaa.PHeapPlays
open Go.RowKit Go.Proofs.YtlfkmignkilplaaW.PrintWords Go.Proofs.YtlfkmignkilplaaW.PrintLast Go.Proofs.YtlfkmignkilplaaW.PrintMore
set_option linter.unusedVariables false
set_option linter.unusedSimpArgs false

attribute [local go_sem high] eqA32
set_option maxRecDepth 1000000 in
set_option maxHeartbeats 4000000 in
theorem a_store_missing (w wq : World) (l : List S34) (A : Option Addr) (c hb j N ob : Nat) (v : Value) (xs : List S67) (o : S34) (B : Option Addr) (cB : Nat) (u : Nat → Value) (Q : Exit → Act → World → Prop)
    (hQ : ∀ a w', PE w l A c hb j a w' → Q .normal a w') (hC : ∀ a w', PE w l A c hb j a w' → Q (.exit 1) a w') (hR : ∀ a w', PR w a w' → Q .ret a w') (hP : ∀ c a N v w', Q (.panic c) (Act.put a N v) w' → Q (.panic c) a w')
    (hx : Bx wq ob o B cB) (hN : N ≤ ob) (hS : St w wq N hb v xs xs) (hl : xs.length ≤ j) (hj : j < 40) (ht : tot xs ≤ 65536) (hw : WF xs) (hk0 : (o.f0 == 0) = false) (hk1 : (o.f0 == 1) = false) (hk2 : (o.f0 == 2) = false) (hth : there o.f5 xs.length = false) :
    Code.wp Try.prog B4 Q ⟨#[.slice A l.length c, undef, u 2, .pointer (some ⟨hb, 0, none⟩), v, .int .i64 ((tot xs : Nat) : Int), undef, .pointer (some ⟨ob, 0, none⟩), undef, u 9, .bool false, u 11, u 12, u 13, undef, u 15, u 16, u 17, u 18, u 19, u 20, u 21, undef, undef, undef, undef, undef, undef, undef, undef, undef, undef, undef, .bool true, .bool false, .slice A l.length c, .int .i64 (l.length : Int), .bool false, .slice A l.length c, .int .i64 (l.length : Int), .int .i64 (j : Int), u 41, u 42, u 43, u 44, u 45, u 46, u 47, u 48, u 49, u 50, u 51, u 52, u 53, u 54, u 55, u 56, u 57, u 58, u 59, u 60, u 61, u 62, u 63, u 64, u 65, u 66, u 67, u 68, u 69, u 70, u 71, u 72, u 73, u 74, u 75, u 76, u 77, u 78, u 79, u 80, u 81, u 82, u 83, u 84, u 85, u 86, u 87, u 88, u 89, u 90, u 91, .int .i64 o.f0, u 93, u 94, u 95, u 96, u 97, u 98, u 99, u 100, u 101, u 102, u 103, u 104, u 105, u 106, u 107, u 108, u 109, u 110, u 111, u 112, u 113, u 114, u 115, u 116, u 117, u 118, u 119, u 120, u 121, u 122, u 123, u 124, u 125, u 126, u 127, u 128, u 129, u 130, u 131, u 132, u 133, u 134, u 135, u 136, u 137, u 138, u 139, u 140, u 141, u 142, u 143, u 144, u 145, u 146, u 147, u 148, u 149, u 150, u 151, u 152, u 153, u 154, u 155, u 156, u 157, u 158, u 159, u 160, u 161, u 162, u 163, u 164, u 165, u 166, u 167, u 168, u 169, u 170, u 171, u 172, u 173, u 174, u 175, u 176, u 177, u 178, u 179, u 180, u 181, u 182, u 183, u 184, u 185, u 186, u 187, u 188, u 189, u 190, u 191, u 192, u 193, u 194, u 195, u 196, u 197, u 198, u 199, u 200, u 201, u 202, u 203, u 204, u 205, u 206, u 207, u 208, u 209, u 210, u 211, u 212, u 213, u 214, u 215, u 216, u 217, u 218, u 219, u 220, u 221, u 222, u 223, u 224, u 225, u 226, u 227, u 228, u 229, u 230, u 231, u 232, u 233, u 234, u 235, u 236, u 237, u 238, u 239, u 240, u 241, u 242, u 243, u 244, u 245, u 246, u 247, u 248, u 249, u 250, u 251, u 252, u 253, u 254, u 255, u 256, u 257, u 258, u 259, u 260, u 261, u 262, u 263, u 264, u 265, u 266, u 267, u 268, u 269, u 270, u 271, u 272, u 273, u 274, u 275, u 276, u 277, u 278, u 279, u 280, u 281, u 282, u 283, u 284, u 285, u 286, u 287, u 288, u 289, u 290, u 291, u 292, u 293, u 294, u 295, u 296, u 297, u 298, u 299, u 300, u 301, u 302, u 303, u 304, u 305, u 306, u 307, u 308, u 309, u 310, u 311, u 312, u 313, u 314, u 315, u 316, u 317, u 318, u 319, u 320, u 321, u 322, u 323, u 324, u 325, u 326, u 327, u 328, u 329, u 330, u 331, undef, undef, undef, undef, undef, undef, undef, undef, undef, undef, undef, undef, undef, undef, undef, undef, undef, undef, undef, undef, undef, undef, undef, undef, undef, undef, undef, undef, undef, undef, undef, undef, undef, undef, undef, undef, undef, undef, undef, undef, undef, undef, undef, undef, undef, undef, undef, undef, undef, undef, undef, undef, undef, undef, undef, undef, undef, undef, undef, undef, undef, undef, undef, undef, undef, undef, undef, undef, undef, undef, undef, undef, undef, undef, undef, undef, undef, undef, undef, undef, undef, undef, undef, undef, undef, undef], []⟩ wq := by
  conv => arg 2; whnf
  obtain ⟨q0, q1, q2, q3, q4, q5, q6, q7, q8, q9, q10, q11, q12, q13⟩ := hx.cells
  have HX := Aside0.mk hx
  have HW0 := Aside0.mk hw
  clear hw
  have HS := Aside0.mk hS
  have HF := Aside0.mk (And.intro hl (And.intro hj (And.intro ht hN)))
  have hu30 := Try.underlying30
  have hu32 := Try.underlying32
  have hu34 := Try.underlying34
  have hu40 := Try.underlying40
  clear hx hS hl hj ht hN
  have hsc : storeC xs o.f5 o.f4 = 3 := by unfold storeC; rw [hth]; rfl
  have HSC := Aside0.mk hsc
  have HSL := Aside0.mk (show storeL xs o.f5 o.f4 o.f6 = xs by unfold storeL; rw [hsc]; rfl)
  clear hth hsc
  go_wp2_with (go_at_call 11; (with_reducible refine (HS.out.store o.f5 o.f4 o.f6 3 xs HSC.out HSL.out).mono ?_); rintro e w6 ⟨rfl, hs, hb1, hk⟩; have HS6 := Aside0.mk hs; have HX6 := Aside0.mk (show Bx w6 ob o B cB from (hk ob HF.out.2.2.2 (blk_lt HX.out)).trans HX.out); clear hs hb1 hk)
  exact hQ _ _ (PE_mk v _ xs ⟨by have := HF.out; omega, HS6.out, by have := HF.out; omega, HW0.out⟩ (by kernel_rfl))

attribute [local go_sem high] eqA32
set_option maxRecDepth 1000000 in
set_option maxHeartbeats 4000000 in
theorem a_store_low (w wq : World) (l : List S34) (A : Option Addr) (c hb j N ob : Nat) (v : Value) (xs : List S67) (o : S34) (B : Option Addr) (cB : Nat) (u : Nat → Value) (Q : Exit → Act → World → Prop)
    (hQ : ∀ a w', PE w l A c hb j a w' → Q .normal a w') (hC : ∀ a w', PE w l A c hb j a w' → Q (.exit 1) a w') (hR : ∀ a w', PR w a w' → Q .ret a w') (hP : ∀ c a N v w', Q (.panic c) (Act.put a N v) w' → Q (.panic c) a w')
    (hx : Bx wq ob o B cB) (hN : N ≤ ob) (hS : St w wq N hb v xs xs) (hl : xs.length ≤ j) (hj : j < 40) (ht : tot xs ≤ 65536) (hw : WF xs) (hk0 : (o.f0 == 0) = false) (hk1 : (o.f0 == 1) = false) (hk2 : (o.f0 == 2) = false) (hth : there o.f5 xs.length = true) (hi : o.f4 < 0) :
    Code.wp Try.prog B4 Q ⟨#[.slice A l.length c, undef, u 2, .pointer (some ⟨hb, 0, none⟩), v, .int .i64 ((tot xs : Nat) : Int), undef, .pointer (some ⟨ob, 0, none⟩), undef, u 9, .bool true, u 11, u 12, u 13, undef, u 15, u 16, u 17, u 18, u 19, u 20, u 21, undef, undef, undef, undef, undef, undef, undef, undef, undef, undef, undef, .bool true, .bool false, .slice A l.length c, .int .i64 (l.length : Int), .bool false, .slice A l.length c, .int .i64 (l.length : Int), .int .i64 (j : Int), u 41, u 42, u 43, u 44, u 45, u 46, u 47, u 48, u 49, u 50, u 51, u 52, u 53, u 54, u 55, u 56, u 57, u 58, u 59, u 60, u 61, u 62, u 63, u 64, u 65, u 66, u 67, u 68, u 69, u 70, u 71, u 72, u 73, u 74, u 75, u 76, u 77, u 78, u 79, u 80, u 81, u 82, u 83, u 84, u 85, u 86, u 87, u 88, u 89, u 90, u 91, .int .i64 o.f0, u 93, u 94, u 95, u 96, u 97, u 98, u 99, u 100, u 101, u 102, u 103, u 104, u 105, u 106, u 107, u 108, u 109, u 110, u 111, u 112, u 113, u 114, u 115, u 116, u 117, u 118, u 119, u 120, u 121, u 122, u 123, u 124, u 125, u 126, u 127, u 128, u 129, u 130, u 131, u 132, u 133, u 134, u 135, u 136, u 137, u 138, u 139, u 140, u 141, u 142, u 143, u 144, u 145, u 146, u 147, u 148, u 149, u 150, u 151, u 152, u 153, u 154, u 155, u 156, u 157, u 158, u 159, u 160, u 161, u 162, u 163, u 164, u 165, u 166, u 167, u 168, u 169, u 170, u 171, u 172, u 173, u 174, u 175, u 176, u 177, u 178, u 179, u 180, u 181, u 182, u 183, u 184, u 185, u 186, u 187, u 188, u 189, u 190, u 191, u 192, u 193, u 194, u 195, u 196, u 197, u 198, u 199, u 200, u 201, u 202, u 203, u 204, u 205, u 206, u 207, u 208, u 209, u 210, u 211, u 212, u 213, u 214, u 215, u 216, u 217, u 218, u 219, u 220, u 221, u 222, u 223, u 224, u 225, u 226, u 227, u 228, u 229, u 230, u 231, u 232, u 233, u 234, u 235, u 236, u 237, u 238, u 239, u 240, u 241, u 242, u 243, u 244, u 245, u 246, u 247, u 248, u 249, u 250, u 251, u 252, u 253, u 254, u 255, u 256, u 257, u 258, u 259, u 260, u 261, u 262, u 263, u 264, u 265, u 266, u 267, u 268, u 269, u 270, u 271, u 272, u 273, u 274, u 275, u 276, u 277, u 278, u 279, u 280, u 281, u 282, u 283, u 284, u 285, u 286, u 287, u 288, u 289, u 290, u 291, u 292, u 293, u 294, u 295, u 296, u 297, u 298, u 299, u 300, u 301, u 302, u 303, u 304, u 305, u 306, u 307, u 308, u 309, u 310, u 311, u 312, u 313, u 314, u 315, u 316, u 317, u 318, u 319, u 320, u 321, u 322, u 323, u 324, u 325, u 326, u 327, u 328, u 329, u 330, u 331, undef, undef, undef, undef, undef, undef, undef, undef, undef, undef, undef, undef, undef, undef, undef, undef, undef, undef, undef, undef, undef, undef, undef, undef, undef, undef, undef, undef, undef, undef, undef, undef, undef, undef, undef, undef, undef, undef, undef, undef, undef, undef, undef, undef, undef, undef, undef, undef, undef, undef, undef, undef, undef, undef, undef, undef, undef, undef, undef, undef, undef, undef, undef, undef, undef, undef, undef, undef, undef, undef, undef, undef, undef, undef, undef, undef, undef, undef, undef, undef, undef, undef, undef, undef, undef, undef], []⟩ wq := by
  conv => arg 2; whnf
  obtain ⟨q0, q1, q2, q3, q4, q5, q6, q7, q8, q9, q10, q11, q12, q13⟩ := hx.cells
  have HX := Aside0.mk hx
  have HW0 := Aside0.mk hw
  clear hw
  have HS := Aside0.mk hS
  have HF := Aside0.mk (And.intro hl (And.intro hj (And.intro ht hN)))
  have hu30 := Try.underlying30
  have hu32 := Try.underlying32
  have hu34 := Try.underlying34
  have hu40 := Try.underlying40
  clear hx hS hl hj ht hN
  have hx := hth
  unfold there at hx
  simp only [Bool.and_eq_true, decide_eq_true_eq, beq_iff_eq] at hx
  obtain ⟨-, i0, i1⟩ := hx
  have hsc : storeC xs o.f5 o.f4 = 1 := by unfold storeC; rw [hth, if_pos rfl]; rw [if_neg (by omega)]
  have HSC := Aside0.mk hsc
  have HSL := Aside0.mk (show storeL xs o.f5 o.f4 o.f6 = xs by unfold storeL; rw [hsc]; rfl)
  clear hth hsc
  have d0 : decide (o.f4 < 0) = true := decide_eq_true hi
  go_wp2_with (go_at_call 11; (with_reducible refine (HS.out.store o.f5 o.f4 o.f6 1 xs HSC.out HSL.out).mono ?_); rintro e w6 ⟨rfl, hs, hb1, hk⟩; have HS6 := Aside0.mk hs; have HX6 := Aside0.mk (show Bx w6 ob o B cB from (hk ob HF.out.2.2.2 (blk_lt HX.out)).trans HX.out); clear hs hb1 hk)
  clear q0 q1 q2 q3 q4 q5 q6 q7 q8 q9 q10 q11 q12 q13
  obtain ⟨b, cc, A6, c6, rfl, hlc, x0, x1, x2, x3, x4, x5, x6, hl6, hC6⟩ := HS6.out.cells o.f5.f1 i0 i1
  have lb := World.block_lt_of_cell? w6 _ x6
  clear x0 x1 x2 x3 x4 x5 hC6
  obtain ⟨q0, q1, q2, q3, q4, q5, q6, q7, q8, q9, q10, q11, q12, q13⟩ := HX6.out.cells
  go_quiet (fail)
  go_wp2_with fail
  exact hQ _ _ (PE_mk _ _ xs ⟨by have := HF.out; omega, by first | exact St.drewN (St.drewN HS6.out _) _ | exact St.drewN HS6.out _, by have := HF.out; omega, HW0.out⟩ (by kernel_rfl))

attribute [local go_sem high] eqA32
set_option maxRecDepth 1000000 in
set_option maxHeartbeats 4000000 in
theorem a_store_high (w wq : World) (l : List S34) (A : Option Addr) (c hb j N ob : Nat) (v : Value) (xs : List S67) (o : S34) (B : Option Addr) (cB : Nat) (u : Nat → Value) (Q : Exit → Act → World → Prop)
    (hQ : ∀ a w', PE w l A c hb j a w' → Q .normal a w') (hC : ∀ a w', PE w l A c hb j a w' → Q (.exit 1) a w') (hR : ∀ a w', PR w a w' → Q .ret a w') (hP : ∀ c a N v w', Q (.panic c) (Act.put a N v) w' → Q (.panic c) a w')
    (hx : Bx wq ob o B cB) (hN : N ≤ ob) (hS : St w wq N hb v xs xs) (hl : xs.length ≤ j) (hj : j < 40) (ht : tot xs ≤ 65536) (hw : WF xs) (hk0 : (o.f0 == 0) = false) (hk1 : (o.f0 == 1) = false) (hk2 : (o.f0 == 2) = false) (hth : there o.f5 xs.length = true) (hi : 0 ≤ o.f4) (hi2 : ((rd_T67 xs o.f5.f1).f3.length : Int) ≤ o.f4) :
    Code.wp Try.prog B4 Q ⟨#[.slice A l.length c, undef, u 2, .pointer (some ⟨hb, 0, none⟩), v, .int .i64 ((tot xs : Nat) : Int), undef, .pointer (some ⟨ob, 0, none⟩), undef, u 9, .bool true, u 11, u 12, u 13, undef, u 15, u 16, u 17, u 18, u 19, u 20, u 21, undef, undef, undef, undef, undef, undef, undef, undef, undef, undef, undef, .bool true, .bool false, .slice A l.length c, .int .i64 (l.length : Int), .bool false, .slice A l.length c, .int .i64 (l.length : Int), .int .i64 (j : Int), u 41, u 42, u 43, u 44, u 45, u 46, u 47, u 48, u 49, u 50, u 51, u 52, u 53, u 54, u 55, u 56, u 57, u 58, u 59, u 60, u 61, u 62, u 63, u 64, u 65, u 66, u 67, u 68, u 69, u 70, u 71, u 72, u 73, u 74, u 75, u 76, u 77, u 78, u 79, u 80, u 81, u 82, u 83, u 84, u 85, u 86, u 87, u 88, u 89, u 90, u 91, .int .i64 o.f0, u 93, u 94, u 95, u 96, u 97, u 98, u 99, u 100, u 101, u 102, u 103, u 104, u 105, u 106, u 107, u 108, u 109, u 110, u 111, u 112, u 113, u 114, u 115, u 116, u 117, u 118, u 119, u 120, u 121, u 122, u 123, u 124, u 125, u 126, u 127, u 128, u 129, u 130, u 131, u 132, u 133, u 134, u 135, u 136, u 137, u 138, u 139, u 140, u 141, u 142, u 143, u 144, u 145, u 146, u 147, u 148, u 149, u 150, u 151, u 152, u 153, u 154, u 155, u 156, u 157, u 158, u 159, u 160, u 161, u 162, u 163, u 164, u 165, u 166, u 167, u 168, u 169, u 170, u 171, u 172, u 173, u 174, u 175, u 176, u 177, u 178, u 179, u 180, u 181, u 182, u 183, u 184, u 185, u 186, u 187, u 188, u 189, u 190, u 191, u 192, u 193, u 194, u 195, u 196, u 197, u 198, u 199, u 200, u 201, u 202, u 203, u 204, u 205, u 206, u 207, u 208, u 209, u 210, u 211, u 212, u 213, u 214, u 215, u 216, u 217, u 218, u 219, u 220, u 221, u 222, u 223, u 224, u 225, u 226, u 227, u 228, u 229, u 230, u 231, u 232, u 233, u 234, u 235, u 236, u 237, u 238, u 239, u 240, u 241, u 242, u 243, u 244, u 245, u 246, u 247, u 248, u 249, u 250, u 251, u 252, u 253, u 254, u 255, u 256, u 257, u 258, u 259, u 260, u 261, u 262, u 263, u 264, u 265, u 266, u 267, u 268, u 269, u 270, u 271, u 272, u 273, u 274, u 275, u 276, u 277, u 278, u 279, u 280, u 281, u 282, u 283, u 284, u 285, u 286, u 287, u 288, u 289, u 290, u 291, u 292, u 293, u 294, u 295, u 296, u 297, u 298, u 299, u 300, u 301, u 302, u 303, u 304, u 305, u 306, u 307, u 308, u 309, u 310, u 311, u 312, u 313, u 314, u 315, u 316, u 317, u 318, u 319, u 320, u 321, u 322, u 323, u 324, u 325, u 326, u 327, u 328, u 329, u 330, u 331, undef, undef, undef, undef, undef, undef, undef, undef, undef, undef, undef, undef, undef, undef, undef, undef, undef, undef, undef, undef, undef, undef, undef, undef, undef, undef, undef, undef, undef, undef, undef, undef, undef, undef, undef, undef, undef, undef, undef, undef, undef, undef, undef, undef, undef, undef, undef, undef, undef, undef, undef, undef, undef, undef, undef, undef, undef, undef, undef, undef, undef, undef, undef, undef, undef, undef, undef, undef, undef, undef, undef, undef, undef, undef, undef, undef, undef, undef, undef, undef, undef, undef, undef, undef, undef, undef], []⟩ wq := by
  conv => arg 2; whnf
  obtain ⟨q0, q1, q2, q3, q4, q5, q6, q7, q8, q9, q10, q11, q12, q13⟩ := hx.cells
  have HX := Aside0.mk hx
  have HW0 := Aside0.mk hw
  clear hw
  have HS := Aside0.mk hS
  have HF := Aside0.mk (And.intro hl (And.intro hj (And.intro ht hN)))
  have hu30 := Try.underlying30
  have hu32 := Try.underlying32
  have hu34 := Try.underlying34
  have hu40 := Try.underlying40
  clear hx hS hl hj ht hN
  have hx := hth
  unfold there at hx
  simp only [Bool.and_eq_true, decide_eq_true_eq, beq_iff_eq] at hx
  obtain ⟨-, i0, i1⟩ := hx
  have hsc : storeC xs o.f5 o.f4 = 1 := by unfold storeC; rw [hth, if_pos rfl]; rw [if_neg (by omega)]
  have HSC := Aside0.mk hsc
  have HSL := Aside0.mk (show storeL xs o.f5 o.f4 o.f6 = xs by unfold storeL; rw [hsc]; rfl)
  clear hth hsc
  have d0 : decide (o.f4 < 0) = false := decide_eq_false (by omega)
  have d1 : decide (((rd_T67 xs o.f5.f1).f3.length : Int) ≤ o.f4) = true := decide_eq_true hi2
  go_wp2_with (go_at_call 11; (with_reducible refine (HS.out.store o.f5 o.f4 o.f6 1 xs HSC.out HSL.out).mono ?_); rintro e w6 ⟨rfl, hs, hb1, hk⟩; have HS6 := Aside0.mk hs; have HX6 := Aside0.mk (show Bx w6 ob o B cB from (hk ob HF.out.2.2.2 (blk_lt HX.out)).trans HX.out); clear hs hb1 hk)
  clear q0 q1 q2 q3 q4 q5 q6 q7 q8 q9 q10 q11 q12 q13
  obtain ⟨b, cc, A6, c6, rfl, hlc, x0, x1, x2, x3, x4, x5, x6, hl6, hC6⟩ := HS6.out.cells o.f5.f1 i0 i1
  have lb := World.block_lt_of_cell? w6 _ x6
  clear x0 x1 x2 x3 x4 x5 hC6
  obtain ⟨q0, q1, q2, q3, q4, q5, q6, q7, q8, q9, q10, q11, q12, q13⟩ := HX6.out.cells
  go_quiet (fail)
  go_wp2_with fail
  exact hQ _ _ (PE_mk _ _ xs ⟨by have := HF.out; omega, by first | exact St.drewN (St.drewN HS6.out _) _ | exact St.drewN HS6.out _, by have := HF.out; omega, HW0.out⟩ (by kernel_rfl))

attribute [local go_sem high] eqA32
set_option maxRecDepth 1000000 in
set_option maxHeartbeats 4000000 in
theorem a_store_ok (w wq : World) (l : List S34) (A : Option Addr) (c hb j N ob : Nat) (v : Value) (xs : List S67) (o : S34) (B : Option Addr) (cB : Nat) (u : Nat → Value) (Q : Exit → Act → World → Prop)
    (hQ : ∀ a w', PE w l A c hb j a w' → Q .normal a w') (hC : ∀ a w', PE w l A c hb j a w' → Q (.exit 1) a w') (hR : ∀ a w', PR w a w' → Q .ret a w') (hP : ∀ c a N v w', Q (.panic c) (Act.put a N v) w' → Q (.panic c) a w')
    (hx : Bx wq ob o B cB) (hN : N ≤ ob) (hS : St w wq N hb v xs xs) (hl : xs.length ≤ j) (hj : j < 40) (ht : tot xs ≤ 65536) (hw : WF xs) (hk0 : (o.f0 == 0) = false) (hk1 : (o.f0 == 1) = false) (hk2 : (o.f0 == 2) = false) (hth : there o.f5 xs.length = true) (hi : 0 ≤ o.f4) (hi2 : o.f4 < ((rd_T67 xs o.f5.f1).f3.length : Int)) :
    Code.wp Try.prog B4 Q ⟨#[.slice A l.length c, undef, u 2, .pointer (some ⟨hb, 0, none⟩), v, .int .i64 ((tot xs : Nat) : Int), undef, .pointer (some ⟨ob, 0, none⟩), undef, u 9, .bool true, u 11, u 12, u 13, undef, u 15, u 16, u 17, u 18, u 19, u 20, u 21, undef, undef, undef, undef, undef, undef, undef, undef, undef, undef, undef, .bool true, .bool false, .slice A l.length c, .int .i64 (l.length : Int), .bool false, .slice A l.length c, .int .i64 (l.length : Int), .int .i64 (j : Int), u 41, u 42, u 43, u 44, u 45, u 46, u 47, u 48, u 49, u 50, u 51, u 52, u 53, u 54, u 55, u 56, u 57, u 58, u 59, u 60, u 61, u 62, u 63, u 64, u 65, u 66, u 67, u 68, u 69, u 70, u 71, u 72, u 73, u 74, u 75, u 76, u 77, u 78, u 79, u 80, u 81, u 82, u 83, u 84, u 85, u 86, u 87, u 88, u 89, u 90, u 91, .int .i64 o.f0, u 93, u 94, u 95, u 96, u 97, u 98, u 99, u 100, u 101, u 102, u 103, u 104, u 105, u 106, u 107, u 108, u 109, u 110, u 111, u 112, u 113, u 114, u 115, u 116, u 117, u 118, u 119, u 120, u 121, u 122, u 123, u 124, u 125, u 126, u 127, u 128, u 129, u 130, u 131, u 132, u 133, u 134, u 135, u 136, u 137, u 138, u 139, u 140, u 141, u 142, u 143, u 144, u 145, u 146, u 147, u 148, u 149, u 150, u 151, u 152, u 153, u 154, u 155, u 156, u 157, u 158, u 159, u 160, u 161, u 162, u 163, u 164, u 165, u 166, u 167, u 168, u 169, u 170, u 171, u 172, u 173, u 174, u 175, u 176, u 177, u 178, u 179, u 180, u 181, u 182, u 183, u 184, u 185, u 186, u 187, u 188, u 189, u 190, u 191, u 192, u 193, u 194, u 195, u 196, u 197, u 198, u 199, u 200, u 201, u 202, u 203, u 204, u 205, u 206, u 207, u 208, u 209, u 210, u 211, u 212, u 213, u 214, u 215, u 216, u 217, u 218, u 219, u 220, u 221, u 222, u 223, u 224, u 225, u 226, u 227, u 228, u 229, u 230, u 231, u 232, u 233, u 234, u 235, u 236, u 237, u 238, u 239, u 240, u 241, u 242, u 243, u 244, u 245, u 246, u 247, u 248, u 249, u 250, u 251, u 252, u 253, u 254, u 255, u 256, u 257, u 258, u 259, u 260, u 261, u 262, u 263, u 264, u 265, u 266, u 267, u 268, u 269, u 270, u 271, u 272, u 273, u 274, u 275, u 276, u 277, u 278, u 279, u 280, u 281, u 282, u 283, u 284, u 285, u 286, u 287, u 288, u 289, u 290, u 291, u 292, u 293, u 294, u 295, u 296, u 297, u 298, u 299, u 300, u 301, u 302, u 303, u 304, u 305, u 306, u 307, u 308, u 309, u 310, u 311, u 312, u 313, u 314, u 315, u 316, u 317, u 318, u 319, u 320, u 321, u 322, u 323, u 324, u 325, u 326, u 327, u 328, u 329, u 330, u 331, undef, undef, undef, undef, undef, undef, undef, undef, undef, undef, undef, undef, undef, undef, undef, undef, undef, undef, undef, undef, undef, undef, undef, undef, undef, undef, undef, undef, undef, undef, undef, undef, undef, undef, undef, undef, undef, undef, undef, undef, undef, undef, undef, undef, undef, undef, undef, undef, undef, undef, undef, undef, undef, undef, undef, undef, undef, undef, undef, undef, undef, undef, undef, undef, undef, undef, undef, undef, undef, undef, undef, undef, undef, undef, undef, undef, undef, undef, undef, undef, undef, undef, undef, undef, undef, undef], []⟩ wq := by
  conv => arg 2; whnf
  obtain ⟨q0, q1, q2, q3, q4, q5, q6, q7, q8, q9, q10, q11, q12, q13⟩ := hx.cells
  have HX := Aside0.mk hx
  have HW0 := Aside0.mk hw
  clear hw
  have HS := Aside0.mk hS
  have HF := Aside0.mk (And.intro hl (And.intro hj (And.intro ht hN)))
  have hu30 := Try.underlying30
  have hu32 := Try.underlying32
  have hu34 := Try.underlying34
  have hu40 := Try.underlying40
  clear hx hS hl hj ht hN
  have hx := hth
  unfold there at hx
  simp only [Bool.and_eq_true, decide_eq_true_eq, beq_iff_eq] at hx
  obtain ⟨-, i0, i1⟩ := hx
  have hsc : storeC xs o.f5 o.f4 = 0 := by unfold storeC; rw [hth, if_pos rfl]; rw [if_pos ⟨hi, hi2⟩]
  have HSC := Aside0.mk hsc
  have HSL := Aside0.mk (show storeL xs o.f5 o.f4 o.f6 = (putL xs o.f5.f1 o.f4 o.f6) by unfold storeL; rw [hsc]; rfl)
  clear hth hsc
  have d0 : decide (o.f4 < 0) = false := decide_eq_false (by omega)
  have d1 : decide (((rd_T67 xs o.f5.f1).f3.length : Int) ≤ o.f4) = false := decide_eq_false (by omega)
  go_wp2_with (go_at_call 11; (with_reducible refine (HS.out.store o.f5 o.f4 o.f6 0 (putL xs o.f5.f1 o.f4 o.f6) HSC.out HSL.out).mono ?_); rintro e w6 ⟨rfl, hs, hb1, hk⟩; have HS6 := Aside0.mk hs; have HX6 := Aside0.mk (show Bx w6 ob o B cB from (hk ob HF.out.2.2.2 (blk_lt HX.out)).trans HX.out); clear hs hb1 hk)
  clear q0 q1 q2 q3 q4 q5 q6 q7 q8 q9 q10 q11 q12 q13
  obtain ⟨b, cc, A6, c6, rfl, hlc, x0, x1, x2, x3, x4, x5, x6, hl6, hC6⟩ := HS6.out.cells o.f5.f1 i0 i1
  have lb := World.block_lt_of_cell? w6 _ x6
  clear x0 x1 x2 x3 x4 x5 hC6
  obtain ⟨q0, q1, q2, q3, q4, q5, q6, q7, q8, q9, q10, q11, q12, q13⟩ := HX6.out.cells
  go_quiet (fail)
  go_wp2_with fail
  clear q0 q1 q2 q3 q4 q5 q6 q7 q8 q9 q10 q11 q12 q13
  clear x6 lb hl6
  obtain ⟨w7, hw7⟩ : ∃ w7 : World, w7 = w6.drewN nq := ⟨_, rfl⟩
  have HS7 := Aside0.mk (show St w w7 w6.heap.size hb _ (putL xs o.f5.f1 o.f4 o.f6) xs by rw [hw7]; exact HS6.out.drewN _)
  have HX7 := Aside0.mk (show Bx w7 ob o B cB by rw [hw7]; exact HX6.out)
  rw [← hw7]
  clear hw7 HS6 HX6
  obtain ⟨q0, q1, q2, q3, q4, q5, q6, q7, q8, q9, q10, q11, q12, q13⟩ := HX7.out.cells
  obtain ⟨b', cc', b6, c6', hv, hlc', x6, hl6, hb6, hb60, y0, y1, y2, hfr, hst⟩ := HS7.out.put o.f5.f1 o.f4 i0 i1 hi hi2 o.f6
  obtain ⟨rfl, rfl⟩ : b = b' ∧ cc = cc' := by injection hv with e1 _ e2; injection e1 with e1; injection e1 with e1; exact ⟨e1, e2⟩
  have f0 : w7.frozen? ⟨b6, o.f4.toNat * 3, none⟩ = false := hfr 0
  have f1 := hfr 1
  have f2 := hfr 2
  have HS8 := Aside0.mk hst
  clear hst hv hfr hb6 hb60
  go_still_tail 12, (by kernel_rfl)
  change wpList _ _ _ _ _ w7.drew
  go_wp2
  exact hQ _ _ (PE_mk _ w6.heap.size (putL xs o.f5.f1 o.f4 o.f6) ⟨by rw [putL_length]; have := HF.out; omega, HS8.out.drew, by rw [tot_put xs o.f5.f1 o.f4 o.f6 i0 i1]; have := HF.out; omega, HW0.out.put _ _ _ i0 i1⟩ (by rw [tot_put xs o.f5.f1 o.f4 o.f6 i0 i1]; kernel_rfl))

end Go.Proofs.Ytlfkmignkilplaa.PHeapPlays
